/- The program's own iterators: what they yield. -/
import Derived.Test.YtaiahkcmdnaooaaGreatDoorQVmC
import Derived.RangeFuncBox
import Derived.RangeFuncLeaves
import Derived.Shelf.Abstract
import Derived.WalkKit
import Derived.OwnWalkIn
import Derived.TacticsInMore
import Derived.LoopNIn
import Derived.LoopIn
set_option linter.unusedVariables false
set_option linter.unusedSimpArgs false
namespace Go.Proofs
open Go.RowKit Go.Shelf
attribute [local go_sem] Oper.semAt_some
def VN (W:World) (B o k c s:Nat):Prop:=∃ (a:Option Addr) (cap:Nat),W.cell? ⟨B,o,none⟩=some (.slice a k cap)∧(0<k->a=some ⟨c,s,none⟩)
def TS (W:World) (B o B2 o2 k c s c2 s2:Nat) (us vs:List Value):Prop:=
 VN W B o k c s∧VN W B2 o2 k c2 s2∧(∀ (i:Nat) v,us[i]? = some v->W.cell? ⟨c,s+i,none⟩=some v)∧∀ (i:Nat) v,vs[i]? = some v->W.cell? ⟨c2,s2+i,none⟩=some v
set_option maxRecDepth 100000 in
set_option maxHeartbeats 2000000 in
theorem TP (l B o k c s c2 s2:Nat) (us vs:List Value) (hu:us.length=k) (hv:vs.length=k) (hk:k<4611686018427387904) (J Jx:Nat->World->Prop)
  (hV:∀ i W1,J i W1->TS W1 B o B (o+1) k c s c2 s2 us vs)
  (hY:∀ (i:Nat) x y W1,J i W1->us[i]? = some x->vs[i]? = some y->YieldAt (Go.Am.Fw none) 0 Tryz.prog l #[x,y] W1 fun e W'=>(e=.returned (.bool true)∧J (i+1) W')∨(e=.returned (.bool false)∧Jx (i+1) W'))
  (W:World) (h0:J 0 W) :
  CallsIn (Go.Am.Fw none) 1 Tryz.prog 175 #[.func (.yield l) #[] #[],.pointer (some ⟨B,o,none⟩)] W fun e W'=>(∃ v,e=.returned v)∧(J k W'∨∃ i,Jx i W'):=by
 refine callsIn_of_wp Tryz.func175 rfl trivial ?_ rfl;simp only [Tryz.ntmps175,List.size_toArray,List.length_cons,List.length_nil,Nat.reduceAdd,Nat.reduceSub,Array.replicate_succ,Array.replicate_zero,List.push_toArray,List.append_toArray,List.nil_append,List.cons_append];obtain ⟨⟨a,cap,hc0,ha⟩,_⟩:=hV 0 W h0
 gi_wp2
 gi_loopw [8] (fun i wr=>∃ j:Nat,j<=k∧i=.int .i64 j∧J j wr) (fun i _=>k-(intOf i).toNat)
 case atStart=>exact ⟨0,Yn _,rfl,h0⟩
 case round=>
  obtain ⟨j,hj,rfl,hJs⟩:=hrel;by_cases hlt:j<k
  ·obtain rfl:=ha aa;have ex:∃ x,us[j]? = some x:=⟨_,List.getElem?_eq_getElem aa⟩;have ey:∃ y,vs[j]? = some y:=⟨_,List.getElem?_eq_getElem aa⟩;obtain ⟨x,hx⟩:=ex;obtain ⟨y,hy'⟩:=ey;obtain ⟨_,⟨a2,cap2,hc2,ha2⟩,hus,hvs⟩:=hV j wr hJs;obtain rfl:=ha2 aa;have hcx:=hus j x hx;have hcy:=hvs j y hy';obtain ⟨fn,tmps,assign,body,hy,hR⟩:=hY j x y wr hJs hx hy'
   clear hx hy' hus hvs
   gi_wp2
   refine hR.mono ?_;rintro e W3 (⟨rfl,hJ3⟩ | ⟨rfl,hJx3⟩)
   ·gi_wp2
    go_roundw
    case rel=>exact ⟨j+1,aa,af,hJ3⟩
    case measure=>simp [intOf];omega
   ·gi_wp2
    refine bodyPost_ret (results_none rfl _ _ _) rfl ?_;exact ⟨⟨_,rfl⟩,.inr ⟨_,hJx3⟩⟩
  ·obtain rfl:j=k:=aa
   gi_wp2
   go_end0
   exact ⟨⟨_,rfl⟩,.inl hJs⟩
set_option maxRecDepth 100000 in
set_option maxHeartbeats 2000000 in
theorem M2 (l B o B2 o2 k c s c2 s2:Nat) (us vs:List Value) (hu:us.length=k) (hv:vs.length=k) (hk:k<4611686018427387904) (J Jx:Nat->World->Prop)
  (hV:∀ i W1,J i W1->TS W1 B o B2 o2 k c s c2 s2 us vs)
  (hY:∀ (i:Nat) x y W1,J i W1->us[i]? = some x->vs[i]? = some y->YieldAt (Go.Am.Fw none) 0 Tryz.prog l #[x,y] W1 fun e W'=>(e=.returned (.bool true)∧J (i+1) W')∨(e=.returned (.bool false)∧Jx (i+1) W'))
  (W:World) (h0:J 0 W) :
  CallsIn (Go.Am.Fw none) 1 Tryz.prog 170 #[.func (.yield l) #[] #[],.pointer (some ⟨B,o,none⟩),.pointer (some ⟨B2,o2,none⟩)] W fun e W'=>(∃ v,e=.returned v)∧(J k W'∨∃ i,Jx i W'):=by
 refine callsIn_of_wp Tryz.func170 rfl trivial ?_ rfl;simp only [Tryz.ntmps170,List.size_toArray,List.length_cons,List.length_nil,Nat.reduceAdd,Nat.reduceSub,Array.replicate_succ,Array.replicate_zero,List.push_toArray,List.append_toArray,List.nil_append,List.cons_append];obtain ⟨⟨a,cap,hc0,ha⟩,_⟩:=hV 0 W h0
 gi_wp2
 gi_loopw [8] (fun i wr=>∃ j:Nat,j<=k∧i=.int .i64 j∧J j wr) (fun i _=>k-(intOf i).toNat)
 case atStart=>exact ⟨0,Yn _,rfl,h0⟩
 case round=>
  obtain ⟨j,hj,rfl,hJs⟩:=hrel;by_cases hlt:j<k
  ·obtain rfl:=ha aa;have ex:∃ x,us[j]? = some x:=⟨_,List.getElem?_eq_getElem aa⟩;have ey:∃ y,vs[j]? = some y:=⟨_,List.getElem?_eq_getElem aa⟩;obtain ⟨x,hx⟩:=ex;obtain ⟨y,hy'⟩:=ey;obtain ⟨_,⟨a2,cap2,hc2,ha2⟩,hus,hvs⟩:=hV j wr hJs;obtain rfl:=ha2 aa;have hcx:=hus j x hx;have hcy:=hvs j y hy';obtain ⟨fn,tmps,assign,body,hy,hR⟩:=hY j x y wr hJs hx hy'
   clear hx hy' hus hvs
   gi_wp2
   refine hR.mono ?_;rintro e W3 (⟨rfl,hJ3⟩ | ⟨rfl,hJx3⟩)
   ·gi_wp2
    go_roundw
    case rel=>exact ⟨j+1,aa,af,hJ3⟩
    case measure=>simp [intOf];omega
   ·gi_wp2
    refine bodyPost_ret (results_none rfl _ _ _) rfl ?_;exact ⟨⟨_,rfl⟩,.inr ⟨_,hJx3⟩⟩
  ·obtain rfl:j=k:=aa
   gi_wp2
   go_end0
   exact ⟨⟨_,rfl⟩,.inl hJs⟩
end Go.Proofs
namespace Go.Vm
open Go Go.Am Go.Proofs
noncomputable section
theorem Es {P:Program} {f:FuncId} {args:Array Value} {w:World} {R:Ending->World->Prop} (h:CallsIn (Fw none) 1 P f args w R):CallsIn (Fw none) 0 P f args w R:=
 ⟨h.1,fun cs _=>h.2 cs (fun d hd=>by simp [Fence.wide] at hd)⟩
def hd1 (x:List Value):Value:=x.headD default
def sd1 (x:List Value):Value:=x.tail.headD default
theorem KE:∀ (us vs:List Value),us.length=vs.length->(((us.zip vs).map fun x=>[x.1,x.2]).map hd1)=us∧(((us.zip vs).map fun x=>[x.1,x.2]).map sd1)=vs
 | [],[],_=>⟨rfl,rfl⟩
 | u::us,v::vs,h=>by
  obtain ⟨h1,h2⟩:=KE us vs (by simpa using h);simp only [List.zip_cons_cons,Zz,h1,h2];exact ⟨rfl,rfl⟩
 | [],_::_,h=>by simp at h
 | _::_,[],h=>by simp at h
theorem vU {H:AH} {p q:Value} {xs:List (List Value)} (h:Gk H p q=some xs):nS H 1 p=some (xs.length,xs.map hd1)∧nS H 1 q=some (xs.length,xs.map sd1)∧xs.length<4611686018427387904∧J7 p=true∧J7 q=true ∧
  ∀ x∈xs,x=[hd1 x,sd1 x]∧plain (hd1 x)=true∧plain (sd1 x)=true:=by
 unfold Gk at h;split at h
 case h_2=>cases h
 rename_i k us k' vs hp hq;split at h
 case isFalse=>cases h
 rename_i hc;obtain ⟨h1,h2,h3,h4,h5,h6,h7⟩:=hc;simp only [Z9] at h;subst h;obtain ⟨m1,m2⟩:=KE us vs aa;have hl:((us.zip vs).map fun x=>[x.1,x.2]).length=k:=by simp;omega
 rw [m1,m2,hl];simp only [Z8] at h5;refine ⟨hp,by rw [hq,h1],h4,h5.1,h5.2,fun x hx=>?_⟩;obtain ⟨⟨a,b⟩,hab,rfl⟩:=Zg.1 hx;have:=List.of_mem_zip hab;have e1:=Zu.1 h6 a this.1;have e2:=Zu.1 h7 b this.2;simp only [Z8] at e1 e2;exact ⟨rfl,e1.1,e2.1⟩
theorem zM {X:Cfg} {φ:bg} {p v:Value} (hp:J7 p=true) (hv:ak φ p v):∃ c s:Nat,∀ (φ':bg) (H':AH) (w':World) (k:Nat) (us:List Value),aZ X φ' H' w'->PLe φ φ'->nS H' 1 p=some (k,us)->us.length=k->(∀ u∈us,plain u=true) ->
  ∀ B o v',w'.cell? ⟨B,o,none⟩=some v'->ak φ' p v'->VN w' B o k c s∧∀ (i:Nat) u,us[i]? = some u->w'.cell? ⟨c,s+i,none⟩=some u:=by
 cases p <;> simp only [J7] at hp <;> try cases hp
 rename_i a n cap;cases a with
 | none=>
  refine ⟨0,0,fun φ' H' w' k us hh _ hs hk _ B o v' hc hv'=>?_⟩;have e:=fJ hv';subst e;cases n with
  | zero=>
   simp only [nS,Z9,Z6] at hs;obtain ⟨rfl,rfl⟩:=hs;exact ⟨⟨none,cap,hc,fun h=>absurd h aa⟩,fun i u hi=>by simp at hi⟩
  | succ n=>simp [nS] at hs
 | some a=>
  obtain ⟨a',c',rfl,hs⟩:=fT hv
  have hpl:a.spot=none∧∃ pl,φ a.block=some pl:=by
   rcases hs with ⟨h1,_,pl,hp,_⟩ | ⟨h1,_,_,_,pl,hp⟩
   ·exact ⟨h1,pl,hp⟩
   ·exact ⟨h1,pl,hp⟩
  obtain ⟨hsp,pl,hpl⟩:=hpl;obtain ⟨b,off,sp⟩:=a;simp only at hsp hpl;subst hsp;refine ⟨pl.c,pl.s+off,fun φ' H' w' k us hh hle hs' hk hpl' B o v' hc hv'=>?_⟩;obtain ⟨⟨b2,o2,s2⟩,c2,rfl,hs2⟩:=fT hv';have hpb:=hle _ _ hpl;simp only [nS] at hs';split at hs'
  ·rename_i hn;simp only [Z9,Z6] at hs';obtain ⟨rfl,rfl⟩:=hs';subst hn;exact ⟨⟨_,c2,hc,fun h=>absurd h aa⟩,fun i u hi=>by simp at hi⟩
  ·rename_i hn;simp only [X7,Z5,Z6] at hs';obtain ⟨cs,hr,rfl,rfl⟩:=hs';obtain ⟨cs',r1,r2,r3,r4⟩:=hh.read hr hpb
   have hb:b2=pl.c∧o2=pl.s+off∧s2=none:=by
    rcases hs2 with ⟨_,h2,pl2,hp2,h3,h4,_⟩ | ⟨_,h0,_⟩
    ·simp only at h2 h3 h4 hp2;rw [hpb] at hp2;simp only [Z9] at hp2;subst hp2;exact ⟨h3,h4,h2⟩
    ·exact absurd h0 hn
   obtain ⟨rfl,rfl,rfl⟩:=hb;refine ⟨⟨_,c2,hc,fun _=>rfl⟩,fun i u hi=>?_⟩;obtain ⟨u',g1,g2⟩:=r1.at hi;have:=r4 i u' g1;rw [lF] at this;rw [this,(ak.of_plain u (hpl' u (Ym hi)) u').1 g2]
theorem DT {x:List Value} (h:x=[hd1 x,sd1 x]∧plain (hd1 x)=true∧plain (sd1 x)=true):je x=true:=by
 rw [h.1];simp [je,h.2.1,h.2.2]
theorem N2 {xs:List (List Value)} (hpl:∀ x∈xs,x=[hd1 x,sd1 x]∧plain (hd1 x)=true∧plain (sd1 x)=true) {i:Nat} {a b:Value} (ha:(xs.map hd1)[i]? = some a) (hb:(xs.map sd1)[i]? = some b):xs[i]? = some [a,b]:=by
 rw [List.getElem?_map,Z5] at ha hb;obtain ⟨x,hx,rfl⟩:=ha;obtain ⟨y,hy,rfl⟩:=hb;rw [hx] at hy;simp only [Z9] at hy;subst hy;rw [hx,<- (hpl x (Ym hx)).1]
theorem Qt {f : FuncId} {fn : Func} (h : Tryz.prog.funcs[f]? = some fn) (hb : fn.body.isNone = false) (hn : (fn.name == "runtime.NumGoroutine") = false) : ∃ fn, X.P.funcs[f]? = some fn ∧ fn.body.isNone = false ∧ (fn.name == "runtime.NumGoroutine") = false := ⟨fn, h, hb, hn⟩
set_option maxRecDepth 100000 in
theorem Vl : ∃ fn, X.P.funcs[175]? = some fn ∧ fn.body.isNone = false ∧ (fn.name == "runtime.NumGoroutine") = false := Qt Tryz.func175 rfl aJ
set_option maxRecDepth 100000 in
theorem Qu : ∃ fn, X.P.funcs[170]? = some fn ∧ fn.body.isNone = false ∧ (fn.name == "runtime.NumGoroutine") = false := Qt Tryz.func170 rfl aJ
theorem XL:Mp X:=by
 intro gf lb H xs h0;have h:AW gf lb H=some xs:=h0;clear h0;unfold AW at h;split at h
 ·rename_i hg;have hg:gf=175:=Zo hg;subst hg;split at h
  case h_2=>cases h
  rename_i b o;split at h
  case h_2=>cases h
  rename_i p q d hrd;obtain ⟨s1,s2,s3,s4,s5,hpl⟩:=vU h;refine ⟨fun x hx=>DT (hpl x hx),Vl,fun φ w lb' hh hl=>?_⟩;simp only [am] at hl;obtain ⟨v',r,rfl,hv',rfl⟩:=hl;obtain ⟨pl,hpb,rfl⟩:=nN hv';obtain ⟨cs',r1,r2,r3,r4⟩:=hh.read hrd hpb;simp only [am] at r1;obtain ⟨p',_,rfl,hp',q',_,rfl,hq',d',_,rfl,hd',rfl⟩:=r1;obtain ⟨c,s,base⟩:=zM (X:=X) s4 hp'
  obtain ⟨c2,s2',base2⟩:=zM (X:=X) s5 hq';refine ⟨fun W=>TS W pl.c (pl.s+o) pl.c (pl.s+o+1) xs.length c s c2 s2' (xs.map hd1) (xs.map sd1),fun φ' H' w' hh' hle hl' hs hk=>?_,fun l J Jx W hV hY h0=>?_⟩
  ·have hk:(bK H' b o 3).getD []=(bK H b o 3).getD []:=hk;have hs:AW 175 [.pointer (some ⟨b,o,none⟩)] H'=some xs:=hs;rw [hrd] at hk
   have hrd':bK H' b o 3=some [p,q,d]:=by
    cases hr:bK H' b o 3 with
    | none=>rw [hr] at hk;cases hk
    | some cs=>rw [hr] at hk;simpa using hk
   have hz:Gk H' p q=some xs:=by
    unfold AW at hs;rw [show Nat.beq 175 F.cZ=true from rfl] at hs;simp only [hrd'] at hs;exact hs
   obtain ⟨t1,t2,_⟩:=vU hz;obtain ⟨ds',u1,u2,u3,u4⟩:=hh'.read hrd' (hle _ _ hpb);simp only [am] at u1;obtain ⟨p2,_,rfl,hp2,q2,_,rfl,hq2,d2,_,rfl,hd2,rfl⟩:=u1;have k0:=u4 0 p2 rfl;have k1:=u4 1 q2 rfl;rw [lF] at k0 k1;obtain ⟨w1,w2⟩:=base φ' H' w' _ _ hh' hle t1 af (fun u hu=>by obtain ⟨x,hx,rfl⟩:=Zg.1 hu;exact (hpl x hx).2.1) _ _ _ k0 hp2
   obtain ⟨w3,w4⟩:=base2 φ' H' w' _ _ hh' hle t2 af (fun u hu=>by obtain ⟨x,hx,rfl⟩:=Zg.1 hu;exact (hpl x hx).2.2) _ _ _ k1 hq2;exact ⟨w1,w3,w2,w4⟩
  ·exact Es (TP l pl.c (pl.s+o) xs.length c s c2 s2' (xs.map hd1) (xs.map sd1) af af s3 J Jx hV (fun i x y W1 hJ hx hy=>hY i [x,y] W1 hJ (N2 hpl hx hy)) W h0)
 ·split at h
  case h_2=>cases h
  rename_i hg;have hg:gf=170:=Zo hg;subst hg;split at h
  case h_2=>cases h
  rename_i b o b2 o2;split at h
  case h_2=>cases h
  rename_i p q hrd hrd2;obtain ⟨s1,s2,s3,s4,s5,hpl⟩:=vU h;refine ⟨fun x hx=>DT (hpl x hx),Qu,fun φ w lb' hh hl=>?_⟩;simp only [am] at hl;obtain ⟨v',r,rfl,hv',v2',r2',rfl,hv2',rfl⟩:=hl;obtain ⟨pl,hpb,rfl⟩:=nN hv';obtain ⟨pl2,hpb2,rfl⟩:=nN hv2';obtain ⟨cs',r1,r2,r3,r4⟩:=hh.read hrd hpb;simp only [am] at r1;obtain ⟨p',_,rfl,hp',rfl⟩:=r1
  obtain ⟨cs2',e1,e2,e3,e4⟩:=hh.read hrd2 hpb2;simp only [am] at e1;obtain ⟨q',_,rfl,hq',rfl⟩:=e1;obtain ⟨c,s,base⟩:=zM (X:=X) s4 hp';obtain ⟨c2,s2',base2⟩:=zM (X:=X) s5 hq';refine ⟨fun W=>TS W pl.c (pl.s+o) pl2.c (pl2.s+o2) xs.length c s c2 s2' (xs.map hd1) (xs.map sd1),fun φ' H' w' hh' hle hl' hs hk=>?_,fun l J Jx W hV hY h0=>?_⟩
  ·have hk:(bK H' b o 1).getD []++(bK H' b2 o2 1).getD []=(bK H b o 1).getD []++(bK H b2 o2 1).getD []:=hk;have hs:AW 170 [.pointer (some ⟨b,o,none⟩),.pointer (some ⟨b2,o2,none⟩)] H'=some xs:=hs;rw [hrd,hrd2] at hk
   have hz:bK H' b o 1=some [p]∧bK H' b2 o2 1=some [q]∧Gk H' p q=some xs:=by
    unfold AW at hs;rw [show Nat.beq 170 F.cZ=false from rfl,show Nat.beq 170 F.rM=true from rfl] at hs;simp only at hs;split at hs
    case h_2=>cases hs
    rename_i p0 q0 g1 g2;rw [g1,g2] at hk;simp only [Option.getD_some,List.cons_append,List.nil_append,List.cons.injEq,and_true] at hk;obtain ⟨rfl,rfl⟩:=hk;exact ⟨g1,g2,hs⟩
   obtain ⟨hrd',hrd2',hz⟩:=hz;obtain ⟨t1,t2,_⟩:=vU hz;obtain ⟨ds',u1,u2,u3,u4⟩:=hh'.read hrd' (hle _ _ hpb);simp only [am] at u1;obtain ⟨p2,_,rfl,hp2,rfl⟩:=u1;obtain ⟨ds2',x1,x2,x3,x4⟩:=hh'.read hrd2' (hle _ _ hpb2);simp only [am] at x1;obtain ⟨q2,_,rfl,hq2,rfl⟩:=x1;have k0:=u4 0 p2 rfl;have k1:=x4 0 q2 rfl;rw [lF] at k0 k1
   obtain ⟨w1,w2⟩:=base φ' H' w' _ _ hh' hle t1 af (fun u hu=>by obtain ⟨x,hx,rfl⟩:=Zg.1 hu;exact (hpl x hx).2.1) _ _ _ k0 hp2;obtain ⟨w3,w4⟩:=base2 φ' H' w' _ _ hh' hle t2 af (fun u hu=>by obtain ⟨x,hx,rfl⟩:=Zg.1 hu;exact (hpl x hx).2.2) _ _ _ k1 hq2;exact ⟨w1,w3,w2,w4⟩
  ·exact Es (M2 l pl.c (pl.s+o) pl2.c (pl2.s+o2) xs.length c s c2 s2' (xs.map hd1) (xs.map sd1) af af s3 J Jx hV (fun i x y W1 hJ hx hy=>hY i [x,y] W1 hJ (N2 hpl hx hy)) W h0)
end
end Go.Vm
