/- Divisions: the greatest error of some intervals, as a number. -/
import Derived.Test.YtaiahkcmdnaooaaGreatDoorQLdY
import Derived.Test.YtaiahkcmdnaooaaGreatDoorQT
set_option linter.unusedVariables false
set_option linter.unusedSimpArgs false
namespace Go.Vm
open Go Go.Am Go.Big
structure ZI (p:List Int) (l:List Rw):Prop where
 pc:pcB p=0
 i6:in6 p
 hl:0<p.length
 rw:∀ r∈l,r.length=p.length∧∀ x∈r,x.natAbs<=9
structure Vw (p:List Int) (m:Nat) (bd:List Q):Prop where
 m0:0<m
 m1:m<=1000
 ln:bd.length=p.length
 bd:bdL m 1000 bd
theorem Vw.ok {p:List Int} {m:Nat} {bd:List Q} (b:Vw p m bd):okS bd:=mH b.m0 b.bd (by have:=b.m1;omega) aa
theorem bxL {α:Type} (f:α->D) (l:List α) (s:Nat) (h:Hp) (k:V->Hp->Prop) (u:PU k):rh (iI s (lst f l) h) k u=rh (alV s [lst f l] h) k u:=id rfl
theorem Vn:∀ x:Fin 98,kL x.val=true->((x.val:Nat):Int)∈c6P:=aG
theorem TK {x:Int} (h:kL x=true):x∈c6P:=by
 have:=K8 h;have h2:=Vn ⟨x.toNat,aa⟩;have e:((x.toNat:Nat):Int)=x:=Int.toNat_of_nonneg aa;simp only [e] at h2;exact h2 h
theorem CG:∀ (q:List Int) (o:Option Int),xk o q=true->(∀ x∈q,kL x=true)∧q.Nodup∧∀ x∈q,∀ y,o=some y->y<x
 | [],_,_=>by simp
 | x::q,o,h=>by
  simp only [xk,Z8] at h;obtain ⟨h1,h2,h3⟩:=CG q (some x) (by grind);refine ⟨by grind,?_,?_⟩
  ·rw [Xs];refine ⟨fun hm=>?_,h2⟩;have:=h3 x hm x rfl;omega
  ·intro y hy z hz;subst hz;have hx:z<x:=by grind [wl]
   rcases Zr.1 hy with rfl | hy
   ·exact hx
   ·have:=h3 y hy x rfl;omega
theorem DR {p:List Int} (h:pcB p=0):in6 p∧0<p.length:=by
 have e:=Ny p;rw [h] at e;have e:ym p=true:=by rw [<- e];rfl
 simp only [ym,Z8,decide_eq_true_eq] at e;obtain ⟨h1,h2,_⟩:=CG p none e.1.1;exact ⟨⟨h2,e.2,fun x hx=>TK (h1 x hx)⟩,e.1.2⟩
theorem SB {r:List Int} (h:smR r=true):∀ x∈r,x.natAbs<=1000:=by
 intro x hx;simp only [smR,Zv,Z8,decide_eq_true_eq] at h;have:=h x hx;omega
theorem erG {p r:List Int} {n:Nat} (hpc:pcB p=0) (h0:0<n) (h1:n<=10000) (lr:r.length=p.length) (hr:smR r=true):∃ q:Int,uh p n r q:=by
 obtain ⟨hp,hl⟩:=DR hpc;have hb:=sZ hl h0 (p:=p);have lo:(ofQ r).length=p.length:=by simp [ofQ,lr]
 have hr':=SB hr;have ho:bdL 1 1000 (ofQ r):=Kn (b:=1) hr';obtain ⟨q,q1,q2⟩:=nr6 hp hl h0 h1 (b:=1) (A:=1000) ae ae ae lo ho;have q2:q.natAbs<=(2*1000*n+1)*n*48:=q2;have m1:(2*1000*n+1)*n<=20000001*10000:=Zs aa h1;have hq:q.natAbs<=9600000480000:=aa
 refine ⟨q,hpc,by have:=hp.2.1;omega,hl,h0,h1,lr,hr,mH h0 hb aa aa,?_,?_,q1,aa,aa,?_,?_⟩
 ·exact mH (b:=1) aa ho aa aa
 ·rw [ut hl h0];exact I8 hl af
 ·have h2:bdL n (q.natAbs*1) (mf p n q):=sY hb;exact mH h0 h2 aa aa
 ·have h1:bdL n (q.natAbs*1) (mf p n q):=sY (sZ hl h0);have h2:=Kn (b:=n) hr';have:=yI (n:=p.length) (z:=1) (w:=-1) h1 h2;have h3:bdL n (q.natAbs+1000*n) (mU p n q (ofQ r)):=by grind [mU]
  exact mH h0 h3 aa aa
theorem QT {p:List Int} {n:Int} (h:dvC p n=0):pcB p=0∧1<=n∧n<=10000:=by
 unfold dvC at h
 grind
theorem Mq {p:List Int} {n:Int} (hN:p.length<=7):∃ s:List Q,CP Y F.gk [lst di p,I n] (.tup [szV s,I (dvC p n)])∧(dvC p n≠0->s=[]):=by
 by_cases hd:dvC p n=0
 ·obtain ⟨hp,n1,n2⟩:=QT hd;obtain ⟨m,rfl⟩:∃ m:Nat,n=m:=⟨n.toNat,aa⟩;obtain ⟨_,hl⟩:=DR hp;rw [hd];exact ⟨_,O1 hp aa hl aa aa (mH aa (sZ hl aa) aa aa),fun h=>absurd rfl h⟩
 ·refine ⟨[],qG ?_,fun _=>rfl⟩;have dc:=lh (p:=p) (n:=n) aa;generalize dvC p n=e at *;simp (disch:=try exact ac)[gk];refine cd dc ?_;simp (disch:=try exact ac)[hd];exact ⟨_,by rfl⟩
def dlB (p:List Int) (n:Int) (l:List Rw):Int:=if dvC p n≠0 then dvC p n else clB p l
theorem LI {p:List Int} {n:Int} {l:List Rw} (hN:p.length<=7) (hl:l.length<=62) (h0:dlB p n l≠0):CP Y F.cu [lst di p,I n,mat l] (.tup [lst di [],I (dlB p n l)]):=by
 refine oQ ?_;have dc:=lh (p:=p) (n:=n) aa;have ck:=ie (p:=p) (m:=l) aa aa;unfold dlB at h0 ⊢;generalize dvC p n=e at *;generalize clB p l=c at *;by_cases hd:e=0
 ·subst hd;simp only [ne_eq,not_true_eq_false,if_false] at h0 ⊢;simp (disch:=try exact ac)[cu];refine cd dc ?_;simp (disch:=try exact ac)[];refine cd ck ?_;simp (disch:=try exact ac)[h0];exact ⟨_,by rfl⟩
 ·simp only [ne_eq,hd,not_false_eq_true,if_true] at h0 ⊢;simp (disch:=try exact ac)[cu];refine cd dc ?_;simp (disch:=try exact ac)[h0];exact ⟨_,by rfl⟩
theorem BS {p:List Int} {n:Int} {l:List Rw} (hN:p.length<=7) (hl:l.length<=62) (h0:dlB p n l≠0):CP Y F.aM [lst di p,I n,mat l] (.tup [B false,.agg [I 0,I 0,I 0],I (dlB p n l)]):=by
 refine lZ ?_;have dc:=lh (p:=p) (n:=n) aa;have ck:=ie (p:=p) (m:=l) aa aa;unfold dlB at h0 ⊢;generalize dvC p n=e at *;generalize clB p l=c at *;by_cases hd:e=0
 ·subst hd;simp only [ne_eq,not_true_eq_false,if_false] at h0 ⊢;simp (disch:=try exact ac)[aM];refine cd dc ?_;simp (disch:=try exact ac)[];refine cd ck ?_;simp (disch:=try exact ac)[h0];exact ⟨_,by rfl⟩
 ·simp only [ne_eq,hd,not_false_eq_true,if_true] at h0 ⊢;simp (disch:=try exact ac)[aM];refine cd dc ?_;simp (disch:=try exact ac)[h0];exact ⟨_,by rfl⟩
theorem P6 {p:List Int} {n:Int} {l:List Rw} (hN:p.length<=7) (hl:l.length<=62) (h0:dlB p n l≠0):CP Y F.dU [lst di p,I n,mat l] (.tup [B false,I (dlB p n l)]):=by
 refine qH ?_;have dc:=lh (p:=p) (n:=n) aa;have ck:=ie (p:=p) (m:=l) aa aa;unfold dlB at h0 ⊢;generalize dvC p n=e at *;generalize clB p l=c at *;by_cases hd:e=0
 ·subst hd;simp only [ne_eq,not_true_eq_false,if_false] at h0 ⊢;simp (disch:=try exact ac)[dU];refine cd dc ?_;simp (disch:=try exact ac)[];refine cd ck ?_;simp (disch:=try exact ac)[h0];exact ⟨_,by rfl⟩
 ·simp only [ne_eq,hd,not_false_eq_true,if_true] at h0 ⊢;simp (disch:=try exact ac)[dU];refine cd dc ?_;simp (disch:=try exact ac)[h0];exact ⟨_,by rfl⟩
def plB (p:List Int) (l:List Rw):Int:=if pcB p≠0 then pcB p else clB p l
theorem KE {p:List Int} {l:List Rw} (hN:p.length<=7) (hl:l.length<=62):CP Y F.dE [lst di p,mat l,.agg [I 0,I 0,szV []]] (.tup [lst di [],I (if plB p l=0 then 3 else plB p l)]):=by
 refine vy ?_;have pc:=dT (p:=p) aa;have ck:=ie (p:=p) (m:=l) aa aa;unfold plB;generalize pcB p=e at *;generalize clB p l=c at *;by_cases hd:e=0
 ·subst hd;by_cases h0:c=0
  ·subst h0;simp (disch:=try exact ac)[dE,bxL];refine cd pc ?_;simp (disch:=try exact ac)[];refine cd ck ?_;simp (disch:=try exact ac)[];exact ⟨_,by rfl⟩
  ·simp (disch:=try exact ac)[dE,bxL];refine cd pc ?_;simp (disch:=try exact ac)[];refine cd ck ?_;simp (disch:=try exact ac)[h0];exact ⟨_,by rfl⟩
 ·simp (disch:=try exact ac)[dE,bxL,hd];refine cd pc ?_;simp (disch:=try exact ac)[hd];exact ⟨_,by rfl⟩
theorem L6 {p:List Int} {l:List Rw} (hN:p.length<=7) (hl:l.length<=62):CP Y F.dV [lst di p,mat l,I 0] (.tup [I 0,lst di [],I (if plB p l=0 then (if l.length=0 then 13 else 3) else plB p l)]):=by
 refine xV ?_;have pc:=dT (p:=p) aa;have ck:=ie (p:=p) (m:=l) aa aa;unfold plB;generalize pcB p=e at *;generalize clB p l=c at *;by_cases hd:e=0
 ·subst hd;by_cases h0:c=0
  ·subst h0;by_cases hz:l=[]
   ·subst hz;have ll:bq (mat [])=some (I 0):=rfl;simp (disch:=try exact ac)[dV];refine cd pc ?_;simp (disch:=try exact ac)[];refine cd ck ?_;simp (disch:=try exact ac)[ll];exact ⟨_,by rfl⟩
   ·have hz':¬ l.length=0:=by simpa using hz
    rw [if_neg hz'];simp (disch:=try exact ac)[dV];refine cd pc ?_;simp (disch:=try exact ac)[];refine cd ck ?_;simp (disch:=try exact ac)[hz];exact ⟨_,by rfl⟩
  ·simp (disch:=try exact ac)[dV,h0];refine cd pc ?_;simp (disch:=try exact ac)[];refine cd ck ?_;simp (disch:=try exact ac)[h0];exact ⟨_,by rfl⟩
 ·simp (disch:=try exact ac)[dV,hd];refine cd pc ?_;simp (disch:=try exact ac)[hd];exact ⟨_,by rfl⟩
theorem zN {p:List Int} (hp:p.length<1000000) (k:KL):∀ (q a:List (List Int)),(a++q).length<1000000000 ->
  (wR p q=0->k (.exit 0) [] [])->(wR p q≠0->k .ret [I (wR p q)] []) ->
  lp (gW (CX Y) (lst di p) (mat (a++q))) [] [] [I a.length] [] k
 | [],a,hN,h0,h1=>by
  have l1:bq (mat (a++[]))=some (I (a++[]).length):=rfl;refine ax ?_;simp (disch:=try exact ac)[gW,l1];exact h0 rfl
 | r::q,a,hN,h0,h1=>by
  have l1:bq (mat (a++r::q))=some (I (a++r::q).length):=rfl;simp at hN;have l2:(a.length:Int)<((a++r::q).length:Int):=by simp;omega
  have mo:=uQ (p:=p) (r:=r) aa;simp only [wR] at h0 h1;refine ax ?_;simp only [gW,l1];generalize (a++r::q).length=L at l2 ⊢;simp (disch:=try exact ac)[l2];refine cd mo ?_;by_cases h:mzB p [r]=0
  ·rw [if_neg (by simpa using h)] at h0 h1;have ih:=zN hp k q (a++[r]) aR h0 h1;simp (disch:=try exact ac)[h];simp at ih ⊢;exact ih
  ·rw [if_pos h] at h1;simp (disch:=try exact ac)[h];exact h1 h
theorem NU {p:List Int} {m:List (List Int)} (hp:p.length<1000000) (hm:m.length<1000000000):CP Y F.df [lst di p,mat m] (I (clB p m)):=by
 refine s7 ?_;have l1:bq (mat m)=some (I m.length):=rfl;unfold clB;by_cases h:60<m.length
 ·have g:(60:Int)<(m.length:Int):=aa;rw [if_pos h];simp (disch:=try exact ac)[df,l1,g] <;> exact ci rfl
 ·have g:¬ (60:Int)<(m.length:Int):=aa;rw [if_neg h];simp (disch:=try exact ac)[df,l1,g];refine lo (zN hp _ m [] (by simpa using hm) (fun g=>?_) (fun g=>?_))
  ·rw [g];simp (disch:=try exact ac)[]
  ·simp (disch:=try exact ac)[]
theorem iC {l:List Rw} (k:KL):∀ (q a:List Rw),a++q=l->l.length<1000000 ->
  ((∀ r∈q,r.length<=7)->k (.exit 0) [] [(0,.none)])->k .ret [B true] [(0,.none)] ->
  lp (bS (CX Y) (mat l)) [] [(0,.none)] [I a.length] [(0,.none)] k
 | [],a,ha,hN,h0,h1=>by
  have l1:bq (mat l)=some (I l.length):=rfl;have l2:¬ (a.length:Int)<(l.length:Int):=by rw [<- ha];simp
  refine ax ?_;simp (disch:=try exact ac)[bS,l1,l2];exact h0 af
 | r::q,a,ha,hN,h0,h1=>by
  have l1:bq (mat l)=some (I l.length):=rfl;have l2:(a.length:Int)<(l.length:Int):=by rw [<- ha];simp;omega
  have l3:bq (lst di r)=some (I r.length):=rfl;have hl:a.length<l.length:=aa;have hnr:nth [] l a.length=r:=by rw [<- ha];simp
  refine ax ?_;by_cases hr:r.length<=7
  ·have ih:=iC k q (a++[r]) (by simpa using ha) hN (fun h=>h0 (by
    intro x hx;rcases Zr.1 hx with rfl | hx
    ·exact hr
    ·exact h x hx)) h1
   have g:¬ (7:Int)<(r.length:Int):=aa;simp (disch:=try exact ac)[bS,l1,l2,hnr,l3,g];simpa using ih
  ·have g:(7:Int)<(r.length:Int):=aa;simp (disch:=try exact ac)[bS,l1,l2,hnr,l3,g];exact h1
theorem G6 {p:List Int}:∀ {l:List Rw},wR p l=0->∀ r∈l,mzB p [r]=0
 | [],_,r,hr=>by simp at hr
 | x::l,h,r,hr=>by
  simp only [wR] at h;by_cases hx:mzB p [x]=0
  ·rw [if_neg (by simpa using hx)] at h;rcases Zr.1 hr with rfl | hr
   ·exact hx
   ·exact G6 h r hr
  ·rw [if_pos hx] at h;exact absurd h hx
theorem TG {p:List Int} {l:List Rw} (h:clB p l=0):l.length<=60∧∀ r∈l,mzB p [r]=0:=by
 unfold clB at h;split at h
 ·omega
 ·exact ⟨aa,G6 h⟩
theorem SS {p:List Int} {r:Rw} (hp:pcB p=0) (h:mzB p [r]=0):r.length=p.length∧smR r=true:=by
 unfold mzB at h;rw [if_pos hp] at h;simp only [D9] at h
 grind
theorem Tu {p:List Int} {n:Nat} {l:List Rw} (hp:pcB p=0) (h0:0<n) (h1:n<=10000) (hm:∀ r∈l,mzB p [r]=0):∃ qf:Rw->Int,∀ r∈l,uh p n r (qf r):=by
 have h:∀ r:Rw,∃ q:Int,r∈l->uh p n r q:=fun r=>by
  by_cases hr:r∈l
  ·obtain ⟨a,b⟩:=SS hp (hm r hr);obtain ⟨q,hq⟩:=erG hp h0 h1 a b;exact ⟨q,fun _=>hq⟩
  ·exact ⟨0,fun h=>absurd h hr⟩
 exact Classical.axiomOfChoice h
set_option maxHeartbeats 4000000 in
theorem Oa {p:List Int} {n:Int} {l:List Rw}:CP Y F.aj [lst di p,I n,mat l] (B true):=by
 refine mR ?_;have lpv:bq (lst di p)=some (I p.length):=rfl;have ll:bq (mat l)=some (I l.length):=rfl;by_cases h7:7<p.length
 ·have g1:(7:Int)<(p.length:Int):=aa;simp (disch:=try exact ac)[aj];refine cd c8 ?_;simp (disch:=try exact ac)[lpv,g1];refine cd c8 ?_;simp (disch:=try exact ac)[] <;> exact ⟨_,by rfl⟩
 by_cases hf:3<l.length∧(l.length<60∨62<l.length)
 ·have g1:¬ (7:Int)<(p.length:Int):=aa;have g2:(3:Int)<(l.length:Int):=aa;by_cases g3:l.length<60
  ·have g3':(l.length:Int)<60:=aa;simp (disch:=try exact ac)[aj];refine cd c8 ?_;simp (disch:=try exact ac)[lpv,ll,g1,g2,g3'];refine cd c8 ?_;simp (disch:=try exact ac)[] <;> exact ⟨_,by rfl⟩
  ·have g3':¬ (l.length:Int)<60:=aa;have g4:(62:Int)<(l.length:Int):=aa;simp (disch:=try exact ac)[aj];refine cd c8 ?_;simp (disch:=try exact ac)[lpv,ll,g1,g2,g3',g4];refine cd c8 ?_;simp (disch:=try exact ac)[] <;> exact ⟨_,by rfl⟩
 have g1:¬ (7:Int)<(p.length:Int):=aa;have hN7:p.length<=7:=aa;have hlN:l.length<=62:=aa;have pc:=dT (p:=p) aa;obtain ⟨s,st,hs⟩:=Mq (p:=p) (n:=n) hN7;have li:=NU (p:=p) (m:=l) aa aa;have er:=LI (p:=p) (n:=n) (l:=l) hN7 hlN;have co:=BS (p:=p) (n:=n) (l:=l) hN7 hlN;have sa:=P6 (p:=p) (n:=n) (l:=l) hN7 hlN
 have wi:=KE (p:=p) (l:=l) hN7 hlN;have be:=L6 (p:=p) (l:=l) hN7 hlN;have snN:∀ (h:Hp) (a b:Int),aH h [lst di p,mat l,.agg [I a,I b,.d (.pl (.slice none 0 0))]]=some ([lst di p,mat l,.agg [I a,I b,szV []]],h):=fun h a b=>by rfl
 have lz:bq (szV [])=some (I 0):=rfl;have le:bq (lst di [])=some (I 0):=rfl;have bz:biA [.int .i64 0,.int .i64 0,.int .i64 0] .neq (.agg [I 0,I 0,I 0]) (.agg [.d (.int .i64 0),.d (.int .i64 0),.d (.int .i64 0)])=some (.d (.bool false)):=rfl;have bl:bld [(0,1),(1,1),(2,1)] [.int .i64 0,.int .i64 0,.pl (.slice none 0 0)] []=some (.agg [I 0,I 0,.d (.pl (.slice none 0 0))]):=rfl
 have hcond:¬ (3:Int)<(l.length:Int)∨(3:Int)<(l.length:Int)∧¬ (l.length:Int)<60∧¬ (62:Int)<(l.length:Int):=aa;unfold dlB at er co sa;unfold plB at wi be;generalize hc:clB p l=c at *;by_cases hp:pcB p=0
 ·by_cases hn:n<1∨10000<n
  ·have hd:dvC p n=3:=by unfold dvC;rw [if_pos hp,if_pos hn]
   rw [hd] at st hs er co sa;have hs:=hs ae;subst hs;rw [hp] at pc wi be;simp only [ne_eq,hp,not_false_eq_true,not_true_eq_false,if_true,if_false,show ¬ (3:Int)=0 by decide,forall_const] at er co sa wi be;have hN1:¬ n<1->10000<n:=fun h=>hn.resolve_left h
   by_cases n1:n<1
   ·by_cases hc0:c=0
    ·subst hc0;simp only [if_true] at wi be;by_cases ln:l=[]
     ·have l0:l.length=0:=by rw [ln];rfl
      rw [if_pos l0] at be;rcases hcond with g2 | ⟨g2,g3,g4⟩
      case inr=>omega
      all_goals
       simp (disch:=try exact ac)[aj];refine cd c8 ?_
       first
        | simp (disch:=try exact ac)[lpv,ll,g1,g2,g3,g4]
        | simp (disch:=try exact ac)[lpv,ll,g1,g2]
       refine lo (iC _ l [] rfl aa (fun hr=>?_) ?_)
       ·simp (disch:=try exact ac)[];refine cd pc ?_;simp (disch:=try exact ac)[n1];refine aC ?_;simp (disch:=try exact ac)[n1];refine cd st ?_;simp (disch:=try exact ac)[n1,lz,le];refine aC ?_;simp (disch:=try exact ac)[n1];refine aC ?_;simp (disch:=try exact ac)[n1];refine cd li ?_
        simp (disch:=try exact ac)[n1];refine cd er ?_;simp (disch:=try exact ac)[n1];refine cd co ?_;simp (disch:=try exact ac)[n1];refine cd sa ?_;simp (disch:=try exact ac)[n1,lz,le,bz,bl];refine cdx (snN _ _ _) wi ?_;simp (disch:=try exact ac)[n1];refine cd be ?_
        simp (disch:=try exact ac)[n1,ln,lz,le];refine aC ?_;simp (disch:=try exact ac)[n1,ln,lz,le] <;> exact ⟨_,by rfl⟩
       ·simp (disch:=try exact ac)[] <;> exact ⟨_,by rfl⟩
     ·have l0:¬ l.length=0:=by simpa using ln
      rw [if_neg l0] at be;rcases hcond with g2 | ⟨g2,g3,g4⟩
      all_goals
       simp (disch:=try exact ac)[aj];refine cd c8 ?_
       first
        | simp (disch:=try exact ac)[lpv,ll,g1,g2,g3,g4]
        | simp (disch:=try exact ac)[lpv,ll,g1,g2]
       refine lo (iC _ l [] rfl aa (fun hr=>?_) ?_)
       ·simp (disch:=try exact ac)[];refine cd pc ?_;simp (disch:=try exact ac)[n1];refine aC ?_;simp (disch:=try exact ac)[n1];refine cd st ?_;simp (disch:=try exact ac)[n1,lz,le];refine aC ?_;simp (disch:=try exact ac)[n1];refine aC ?_;simp (disch:=try exact ac)[n1];refine cd li ?_
        simp (disch:=try exact ac)[n1];refine cd er ?_;simp (disch:=try exact ac)[n1];refine cd co ?_;simp (disch:=try exact ac)[n1];refine cd sa ?_;simp (disch:=try exact ac)[n1,lz,le,bz,bl];refine cdx (snN _ _ _) wi ?_;simp (disch:=try exact ac)[n1];refine cd be ?_
        simp (disch:=try exact ac)[n1,ln,lz,le];refine aC ?_;simp (disch:=try exact ac)[n1,ln,lz,le] <;> exact ⟨_,by rfl⟩
       ·simp (disch:=try exact ac)[] <;> exact ⟨_,by rfl⟩
    ·rw [if_neg hc0] at wi be;rcases hcond with g2 | ⟨g2,g3,g4⟩
     all_goals
      simp (disch:=try exact ac)[aj];refine cd c8 ?_
      first
       | simp (disch:=try exact ac)[lpv,ll,g1,g2,g3,g4]
       | simp (disch:=try exact ac)[lpv,ll,g1,g2]
      refine lo (iC _ l [] rfl aa (fun hr=>?_) ?_)
      ·simp (disch:=try exact ac)[];refine cd pc ?_;simp (disch:=try exact ac)[n1,hc0];refine aC ?_;simp (disch:=try exact ac)[n1,hc0];refine cd st ?_;simp (disch:=try exact ac)[n1,hc0,lz,le];refine aC ?_;simp (disch:=try exact ac)[n1,hc0];refine aC ?_;simp (disch:=try exact ac)[n1,hc0]
       refine cd li ?_;simp (disch:=try exact ac)[n1,hc0];refine cd er ?_;simp (disch:=try exact ac)[n1,hc0];refine cd co ?_;simp (disch:=try exact ac)[n1,hc0];refine cd sa ?_;simp (disch:=try exact ac)[n1,hc0,lz,le,bz,bl];refine cdx (snN _ _ _) wi ?_;simp (disch:=try exact ac)[n1,hc0];refine cd be ?_
       simp (disch:=try exact ac)[n1,hc0,lz,le];refine aC ?_;simp (disch:=try exact ac)[n1,hc0,lz,le] <;> exact ⟨_,by rfl⟩
      ·simp (disch:=try exact ac)[] <;> exact ⟨_,by rfl⟩
   ·have n2:=hN1 n1;by_cases hc0:c=0
    ·subst hc0;simp only [if_true] at wi be;by_cases ln:l=[]
     ·have l0:l.length=0:=by rw [ln];rfl
      rw [if_pos l0] at be;rcases hcond with g2 | ⟨g2,g3,g4⟩
      case inr=>omega
      all_goals
       simp (disch:=try exact ac)[aj];refine cd c8 ?_
       first
        | simp (disch:=try exact ac)[lpv,ll,g1,g2,g3,g4]
        | simp (disch:=try exact ac)[lpv,ll,g1,g2]
       refine lo (iC _ l [] rfl aa (fun hr=>?_) ?_)
       ·simp (disch:=try exact ac)[];refine cd pc ?_;simp (disch:=try exact ac)[n1,n2];refine aC ?_;simp (disch:=try exact ac)[n1,n2];refine cd st ?_;simp (disch:=try exact ac)[n1,n2,lz,le];refine aC ?_;simp (disch:=try exact ac)[n1,n2];refine aC ?_;simp (disch:=try exact ac)[n1,n2]
        refine cd li ?_;simp (disch:=try exact ac)[n1,n2];refine cd er ?_;simp (disch:=try exact ac)[n1,n2];refine cd co ?_;simp (disch:=try exact ac)[n1,n2];refine cd sa ?_;simp (disch:=try exact ac)[n1,n2,lz,le,bz,bl];refine cdx (snN _ _ _) wi ?_;simp (disch:=try exact ac)[n1,n2];refine cd be ?_
        simp (disch:=try exact ac)[n1,n2,ln,lz,le];refine aC ?_;simp (disch:=try exact ac)[n1,n2,ln,lz,le] <;> exact ⟨_,by rfl⟩
       ·simp (disch:=try exact ac)[] <;> exact ⟨_,by rfl⟩
     ·have l0:¬ l.length=0:=by simpa using ln
      rw [if_neg l0] at be;rcases hcond with g2 | ⟨g2,g3,g4⟩
      all_goals
       simp (disch:=try exact ac)[aj];refine cd c8 ?_
       first
        | simp (disch:=try exact ac)[lpv,ll,g1,g2,g3,g4]
        | simp (disch:=try exact ac)[lpv,ll,g1,g2]
       refine lo (iC _ l [] rfl aa (fun hr=>?_) ?_)
       ·simp (disch:=try exact ac)[];refine cd pc ?_;simp (disch:=try exact ac)[n1,n2];refine aC ?_;simp (disch:=try exact ac)[n1,n2];refine cd st ?_;simp (disch:=try exact ac)[n1,n2,lz,le];refine aC ?_;simp (disch:=try exact ac)[n1,n2];refine aC ?_;simp (disch:=try exact ac)[n1,n2]
        refine cd li ?_;simp (disch:=try exact ac)[n1,n2];refine cd er ?_;simp (disch:=try exact ac)[n1,n2];refine cd co ?_;simp (disch:=try exact ac)[n1,n2];refine cd sa ?_;simp (disch:=try exact ac)[n1,n2,lz,le,bz,bl];refine cdx (snN _ _ _) wi ?_;simp (disch:=try exact ac)[n1,n2];refine cd be ?_
        simp (disch:=try exact ac)[n1,n2,ln,lz,le];refine aC ?_;simp (disch:=try exact ac)[n1,n2,ln,lz,le] <;> exact ⟨_,by rfl⟩
       ·simp (disch:=try exact ac)[] <;> exact ⟨_,by rfl⟩
    ·rw [if_neg hc0] at wi be;rcases hcond with g2 | ⟨g2,g3,g4⟩
     all_goals
      simp (disch:=try exact ac)[aj];refine cd c8 ?_
      first
       | simp (disch:=try exact ac)[lpv,ll,g1,g2,g3,g4]
       | simp (disch:=try exact ac)[lpv,ll,g1,g2]
      refine lo (iC _ l [] rfl aa (fun hr=>?_) ?_)
      ·simp (disch:=try exact ac)[];refine cd pc ?_;simp (disch:=try exact ac)[n1,n2,hc0];refine aC ?_;simp (disch:=try exact ac)[n1,n2,hc0];refine cd st ?_;simp (disch:=try exact ac)[n1,n2,hc0,lz,le];refine aC ?_;simp (disch:=try exact ac)[n1,n2,hc0];refine aC ?_
       simp (disch:=try exact ac)[n1,n2,hc0];refine cd li ?_;simp (disch:=try exact ac)[n1,n2,hc0];refine cd er ?_;simp (disch:=try exact ac)[n1,n2,hc0];refine cd co ?_;simp (disch:=try exact ac)[n1,n2,hc0];refine cd sa ?_;simp (disch:=try exact ac)[n1,n2,hc0,lz,le,bz,bl];refine cdx (snN _ _ _) wi ?_
       simp (disch:=try exact ac)[n1,n2,hc0];refine cd be ?_;simp (disch:=try exact ac)[n1,n2,hc0,lz,le];refine aC ?_;simp (disch:=try exact ac)[n1,n2,hc0,lz,le] <;> exact ⟨_,by rfl⟩
      ·simp (disch:=try exact ac)[] <;> exact ⟨_,by rfl⟩
  ·have hd:dvC p n=0:=by unfold dvC;rw [if_pos hp,if_neg hn]
   have n1:¬ n<1:=fun h=>hn (.inl h)
   have n2:¬ 10000<n:=fun h=>hn (.inr h)
   rw [hd] at st er co sa;rw [hp] at pc wi be;simp only [ne_eq,not_true_eq_false,if_false] at er co sa wi be;by_cases hc0:c=0
   ·subst hc0;simp only [if_true] at wi be;obtain ⟨m,hm⟩:∃ m:Nat,n=m:=⟨n.toNat,aa⟩;obtain ⟨_,hpl⟩:=DR hp;obtain ⟨l60,hmz⟩:=TG hc;obtain ⟨qf,hE⟩:=Tu (n:=m) hp aa aa hmz;have hdm:dvC p (m:Int)=0:=by rw [<- hm];exact hd
    have H:IX p m l qf:=⟨l60,hE⟩;have er:=CL aa l60 hdm hmz hE;have co:=pf aa hdm hmz H;have sa:=P5 hp (DR hp).1 hpl aa aa hmz H;rw [<- hm] at er co sa;generalize HJ (nF p m) qf l=sb at sa;generalize l.map (erD p m qf)=el at er
    have col:∃ b x y z,CP Y F.aM [lst di p,I n,mat l] (.tup [B b,.agg [I x,I y,I z],I 0]):=by
     revert co
     cases BU qf l 0 l with
     | none=>intro co;exact ⟨_,_,_,_,co⟩
     | some t=>intro co;exact ⟨_,_,_,_,co⟩
    obtain ⟨b,x,y,z,co⟩:=col;by_cases ln:l=[]
    ·have l0:l.length=0:=by rw [ln];rfl
     rw [if_pos l0] at be;rcases hcond with g2 | ⟨g2,g3,g4⟩
     case inr=>omega
     all_goals
      simp (disch:=try exact ac)[aj];refine cd c8 ?_
      first
       | simp (disch:=try exact ac)[lpv,ll,g1,g2,g3,g4]
       | simp (disch:=try exact ac)[lpv,ll,g1,g2]
      refine lo (iC _ l [] rfl aa (fun hr=>?_) ?_)
      ·simp (disch:=try exact ac)[];refine cd pc ?_;simp (disch:=try exact ac)[n1,n2];refine aC ?_;simp (disch:=try exact ac)[n1,n2];refine cd st ?_;simp (disch:=try exact ac)[n1,n2,lz,le];refine aC ?_;simp (disch:=try exact ac)[n1,n2];refine cd li ?_;simp (disch:=try exact ac)[n1,n2]
       refine aC ?_;simp (disch:=try exact ac)[n1,n2];refine cd li ?_;simp (disch:=try exact ac)[n1,n2];refine cd er ?_;simp (disch:=try exact ac)[n1,n2];refine cd co ?_;simp (disch:=try exact ac)[n1,n2];refine cd sa ?_;simp (disch:=try exact ac)[n1,n2,lz,le,bz,bl];refine cdx (snN _ _ _) wi ?_
       simp (disch:=try exact ac)[n1,n2];refine cd be ?_;simp (disch:=try exact ac)[ln,n1,n2,lz,le];refine aC ?_;simp (disch:=try exact ac)[ln,n1,n2,lz,le] <;> exact ⟨_,by rfl⟩
      ·simp (disch:=try exact ac)[] <;> exact ⟨_,by rfl⟩
    ·have l0:¬ l.length=0:=by simpa using ln
     rw [if_neg l0] at be;rcases hcond with g2 | ⟨g2,g3,g4⟩
     all_goals
      simp (disch:=try exact ac)[aj];refine cd c8 ?_
      first
       | simp (disch:=try exact ac)[lpv,ll,g1,g2,g3,g4]
       | simp (disch:=try exact ac)[lpv,ll,g1,g2]
      refine lo (iC _ l [] rfl aa (fun hr=>?_) ?_)
      ·simp (disch:=try exact ac)[];refine cd pc ?_;simp (disch:=try exact ac)[n1,n2];refine aC ?_;simp (disch:=try exact ac)[n1,n2];refine cd st ?_;simp (disch:=try exact ac)[n1,n2,lz,le];refine aC ?_;simp (disch:=try exact ac)[n1,n2];refine cd li ?_;simp (disch:=try exact ac)[n1,n2]
       refine aC ?_;simp (disch:=try exact ac)[n1,n2];refine cd li ?_;simp (disch:=try exact ac)[n1,n2];refine cd er ?_;simp (disch:=try exact ac)[n1,n2];refine cd co ?_;simp (disch:=try exact ac)[n1,n2];refine cd sa ?_;simp (disch:=try exact ac)[n1,n2,lz,le,bz,bl];refine cdx (snN _ _ _) wi ?_
       simp (disch:=try exact ac)[n1,n2];refine cd be ?_;simp (disch:=try exact ac)[ln,n1,n2,lz,le];refine aC ?_;simp (disch:=try exact ac)[ln,n1,n2,lz,le] <;> exact ⟨_,by rfl⟩
      ·simp (disch:=try exact ac)[] <;> exact ⟨_,by rfl⟩
   ·have er:=er hc0;have co:=co hc0;have sa:=sa hc0;rw [if_neg hc0] at wi be;rcases hcond with g2 | ⟨g2,g3,g4⟩
    all_goals
     simp (disch:=try exact ac)[aj];refine cd c8 ?_
     first
      | simp (disch:=try exact ac)[lpv,ll,g1,g2,g3,g4]
      | simp (disch:=try exact ac)[lpv,ll,g1,g2]
     refine lo (iC _ l [] rfl aa (fun hr=>?_) ?_)
     ·simp (disch:=try exact ac)[];refine cd pc ?_;simp (disch:=try exact ac)[n1,n2,hc0];refine aC ?_;simp (disch:=try exact ac)[n1,n2,hc0];refine cd st ?_;simp (disch:=try exact ac)[n1,n2,hc0,lz,le];refine aC ?_;simp (disch:=try exact ac)[n1,n2,hc0];refine cd li ?_
      simp (disch:=try exact ac)[n1,n2,hc0];refine aC ?_;simp (disch:=try exact ac)[n1,n2,hc0];refine cd li ?_;simp (disch:=try exact ac)[n1,n2,hc0];refine cd er ?_;simp (disch:=try exact ac)[n1,n2,hc0];refine cd co ?_;simp (disch:=try exact ac)[n1,n2,hc0];refine cd sa ?_
      simp (disch:=try exact ac)[n1,n2,hc0,lz,le,bz,bl];refine cdx (snN _ _ _) wi ?_;simp (disch:=try exact ac)[n1,n2,hc0];refine cd be ?_;simp (disch:=try exact ac)[n1,n2,hc0,lz,le];refine aC ?_;simp (disch:=try exact ac)[n1,n2,hc0,lz,le] <;> exact ⟨_,by rfl⟩
     ·simp (disch:=try exact ac)[] <;> exact ⟨_,by rfl⟩
 ·have hd:dvC p n=pcB p:=if_neg hp;rw [hd] at st hs er co sa;have hs:=hs hp;subst hs;simp only [ne_eq,hp,not_false_eq_true,if_true,if_false,forall_const] at er co sa wi be;generalize pcB p=e at *;rcases hcond with g2 | ⟨g2,g3,g4⟩
  all_goals
   simp (disch:=try exact ac)[aj];refine cd c8 ?_
   first
    | simp (disch:=try exact ac)[lpv,ll,g1,g2,g3,g4]
    | simp (disch:=try exact ac)[lpv,ll,g1,g2]
   refine lo (iC _ l [] rfl aa (fun hr=>?_) ?_)
   ·simp (disch:=try exact ac)[];refine cd pc ?_;simp (disch:=try exact ac)[hp];refine aC ?_;simp (disch:=try exact ac)[hp];refine cd st ?_;simp (disch:=try exact ac)[hp,lz,le];refine aC ?_;simp (disch:=try exact ac)[hp];refine aC ?_;simp (disch:=try exact ac)[hp];refine cd er ?_
    simp (disch:=try exact ac)[hp];refine cd co ?_;simp (disch:=try exact ac)[hp];refine cd sa ?_;simp (disch:=try exact ac)[hp,lz,le,bz,bl];refine cdx (snN _ _ _) wi ?_;simp (disch:=try exact ac)[hp];refine cd be ?_;simp (disch:=try exact ac)[hp,lz,le];refine aC ?_
    simp (disch:=try exact ac)[hp,lz,le] <;> exact ⟨_,by rfl⟩
   ·simp (disch:=try exact ac)[] <;> exact ⟨_,by rfl⟩
end Go.Vm
