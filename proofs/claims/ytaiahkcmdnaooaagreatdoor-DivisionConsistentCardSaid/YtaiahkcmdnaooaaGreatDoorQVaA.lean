/- Rows that are right; vals: Check, Steps. -/
import Derived.Test.YtaiahkcmdnaooaaGreatDoorQBsD
import Derived.Test.YtaiahkcmdnaooaaGreatDoorQCeX
import Derived.Test.YtaiahkcmdnaooaaGreatDoorQCkMat
import Derived.Test.YtaiahkcmdnaooaaGreatDoorQLdY
import Derived.Test.YtaiahkcmdnaooaaGreatDoorQRefRow
import Derived.Test.YtaiahkcmdnaooaaGreatDoorQT
set_option linter.unusedVariables false
set_option linter.unusedSimpArgs false
namespace Go.Vm
open Go Go.Am Go.Big
theorem Qs {z:Int}:CP Y F.oZ [I z] (B (o7 z)):=by
 refine K4 ?_;by_cases h : -1000000000<=z
 ·by_cases h2:z<=1000000000
  ·simp (disch:=try exact ac)[oZ,h,h2];exact ip (by simp [o7,h,h2])
  ·simp (disch:=try exact ac)[oZ,h,h2];exact ip (by simp [o7,h,h2])
 ·simp (disch:=try exact ac)[oZ,h];exact ip (by simp [o7,h])
def rcB (l:List Int):Int:=if 64<l.length∨(l.any fun x=>!o7 x)=true then 4 else 0
theorem Bb {l:List Int} (hN:l.length<1000000000):CP Y F.kD [lst di l] (I (rcB l)):=by
 refine IM ?_
 have co:=Dr (g:=F.mf) (p:=fun x=>!o7 x) l aa (fun x _=>by
  refine Cm ?_;simp (disch:=try exact ac)[mf];refine cd Qs ?_;simp (disch:=try exact ac)[])
 by_cases h:64<l.length
 ·have g:(64:Int)<(l.length:Int):=aa;simp (disch:=try exact ac)[kD,g];exact bX (by simp [rcB,h])
 ·have g:¬ (64:Int)<(l.length:Int):=aa;simp (disch:=try exact ac)[kD,g];refine cd co ?_;cases e:l.any fun x=>!o7 x with
  | true=>simp (disch:=try exact ac)[];exact bX (by simp only [rcB,e,or_true,if_true])
  | false=>simp (disch:=try exact ac)[];exact bX (by simp only [rcB,e,h];rfl)
theorem o6 {l:List Int}:rcB l=0↔l.length<=64∧∀ x∈l,o7 x=true:=by
 unfold rcB;by_cases h:64<l.length∨(l.any fun x=>!o7 x)=true
 ·rw [if_pos h];simp only [List.any_eq_true,Y7] at h;constructor
  ·intro e;cases e
  ·rintro ⟨h1,h2⟩;rcases h with h | ⟨x,hx,hx2⟩
   ·omega
   ·rw [h2 x hx] at hx2;cases hx2
 ·rw [if_neg h];refine ⟨fun _=>⟨aa,fun x hx=>?_⟩,fun _=>rfl⟩;cases e:o7 x with
  | true=>rfl
  | false=>exact absurd (.inr (List.any_eq_true.2 ⟨x,hx,by simp [e]⟩)) h
theorem Qz (l:List Int):rcB l=0∨rcB l=4:=by unfold rcB;split <;> simp
theorem Tw {l:List Int} (hN:l.length<1000000000):CP Y F.mW [lst di l] (.tup [if rcB l=0 then lst di l else lst di [],I (rcB l)]):=by
 refine GB ?_;have rc:=Bb hN;simp (disch:=try exact ac)[mW];refine cd rc ?_;rcases Qz l with h | h
 ·rw [h];simp (disch:=try exact ac)[];exact ⟨[],by simp [aF,ai]⟩
 ·rw [h];simp (disch:=try exact ac)[];exact ⟨[],by simp [aF,ai,lst]⟩
def vcB (p v:List Int):Int:=if pcB p≠0 then pcB p else if rcB v≠0 then 4 else if v.length≠p.length then 5 else 0
theorem FY {p v:List Int} (hp:p.length<1000000) (hv:v.length<1000000):CP Y F.ni [lst di p,lst di v] (I (vcB p v)):=by
 refine H7 ?_;have pc:=dR (p:=p) aa;have rc:=Bb (l:=v) aa;simp (disch:=try exact ac)[ni];refine cd pc ?_;unfold vcB;by_cases h:pcB p=0
 ·rw [if_neg (by simpa using h),h];simp (disch:=try exact ac)[];refine cd rc ?_;rcases Qz v with h1 | h1
  ·rw [h1];by_cases h2:v.length=p.length
   ·have g:(v.length:Int)=(p.length:Int):=aa;simp (disch:=try exact ac)[g,h2]
   ·have g:¬ (v.length:Int)=(p.length:Int):=aa;simp (disch:=try exact ac)[g,h2]
  ·rw [h1];simp (disch:=try exact ac)[]
 ·rw [if_pos h];simp (disch:=try exact ac)[h]
theorem Ps {p v r:List Int} (hp:p.length<1000000) (hv:v.length<1000000):CP Y F.kA [lst di p,lst di v,lst di r] (I (if vcB p v≠0 then vcB p v else mzB p [r])):=by
 refine Ax ?_;have vc:=FY hp hv;have mo:=xI (p:=p) (r:=r) aa;simp (disch:=try exact ac)[kA];refine cd vc ?_;by_cases h:vcB p v=0
 ·rw [h];simp (disch:=try exact ac)[];refine cd mo ?_;simp (disch:=try exact ac)[]
 ·simp (disch:=try exact ac)[h]
theorem By {A B:Int} (hA:0<=A) (hB:0<=B):∀ {a b:List Int},(∀ x∈a,-A<=x∧x<=A)->(∀ x∈b,-B<=x∧x<=B)->-(a.length*(A*B))<=gR a b∧gR a b<=a.length*(A*B)
 | [],b,_,_=>by simp [gR]
 | x::a,[],_,_=>by
  have:0<=A*B:=Xg hA hB;have:0<=((x::a).length:Int)*(A*B):=Xg aa this;simp only [gR];omega
 | x::a,y::b,ha,hb=>by
  obtain ⟨h1,h2⟩:=By hA hB (a:=a) (b:=b) (fun z hz=>ha z (by simp [hz])) (fun z hz=>hb z (by simp [hz]));have hx:=ha x ag;have hy:=hb y ag;have e:(x*y).natAbs<=(A*B).natAbs:=by rw [Zo,Zo];exact Zq aa aa
  have:0<=A*B:=Xg hA hB;simp only [gR,List.length_cons,Int.natCast_succ,Yd,Int.one_mul];omega
theorem J7 (a b:List Int):∀ (c d:List Int),a.length=b.length->gR (a++c) (b++d)=gR a b+gR c d:=by
 induction a generalizing b with
 | nil=>intro c d h;cases b with
  | nil=>simp [gR]
  | cons y b=>simp at h
 | cons x a ih=>intro c d h;cases b with
  | nil=>simp at h
  | cons y b=>simp only [List.cons_append,gR,ih b c d (by simpa using h)];omega
theorem EN {v r:List Int} (hN:r.length<=64) (hv:∀ x∈v,o7 x=true) (hr:smR r=true) (k:KL):∀ (q w a b:List Int),a++q=r->b++w=v->a.length=b.length->q.length=w.length->k (.exit 0) [I (gR r v)] [] ->
  lp (tc (CX Y) (lst di v) (lst di r) (I r.length)) [] [] [I (gR a b),I a.length] [] k
 | [],w,a,b,ha,hb,hab,hqw,hk=>by
  have:w=[]:=by cases w with
   | nil=>rfl
   | cons=>simp at hqw
  subst this;simp at ha hb;subst ha;subst hb;refine am ?_;simp (disch:=try exact ac)[tc];exact hk
 | x::q,[],a,b,ha,hb,hab,hqw,hk=>by simp at hqw
 | x::q,y::w,a,b,ha,hb,hab,hqw,hk=>by
  have hal:a.length<r.length:=by subst ha;simp
  have hbl:a.length<v.length:=by subst hb;simp;omega
  have hx:nth 0 r a.length=x:=by subst ha;simp
  have hy:nth 0 v a.length=y:=by subst hb;rw [hab];simp
  have bx:=tj hr (x:=x) (by rw [<- ha];simp);have by_:=oD.1 (hv y (by rw [<- hb];simp));have i1:=ci di r [] (k:=.i64) (i:=(a.length:Int)) aa aa;have i2:=cU di 0 r [] (j:=a.length) hal;have j1:=ci di v [] (k:=.i64) (i:=(a.length:Int)) aa aa;have j2:=cU di 0 v [] (j:=a.length) hbl;rw [hx] at i2;rw [hy] at j2
  simp only [Int.toNat_natCast] at i1 j1;have g1:(a.length:Int)<(r.length:Int):=aa;have ih:=EN hN hv hr k q w (a++[x]) (b++[y]) (by simpa using ha) (by simpa using hb) (by simp [hab]) (by simpa using hqw) hk;rw [J7 _ _ _ _ hab] at ih;simp only [gR,Int.add_zero] at ih
  have hd:=By (A:=1000) (B:=1000000000) aa aa (a:=a) (b:=b) (fun z hz=>by have:=tj hr (x:=z) (by rw [<- ha];simp [hz]);omega) (fun z hz=>by have:=oD.1 (hv z (by rw [<- hb];simp [hz]));omega);have hm:(x*y).natAbs<=1000*1000000000:=by rw [Zo];exact Zq aa aa
  obtain ⟨d,hd0⟩:∃ d,d=gR a b:=⟨_,rfl⟩;rw [<- hd0] at ih;rw [<- hd0] at hd ⊢;have hm2 : -1000000000000<=x*y∧x*y<=1000000000000:=aa;have hal2:(a.length:Int)<64:=aa;refine am ?_;simp (disch:=try exact ac)[tc,i1,i2,j1,j2,g1,hx,hy];simpa using ih
theorem Tc {v r:List Int} (hN:r.length<=64) (hv:∀ x∈v,o7 x=true) (hr:smR r=true) (hl:r.length=v.length):CP Y F.vn [lst di v,lst di r] (I (gR r v)):=by
 refine NX ?_;have ll:bm (lst di r)=some (I r.length):=rfl;simp (disch:=try exact ac)[vn,ll];refine lo (EN hN hv hr _ r v [] [] rfl rfl rfl hl ?_);simp (disch:=try exact ac)[]
def vsB (p v r:List Int):Int:=if vcB p v≠0 then vcB p v else if mzB p [r]≠0 then mzB p [r] else if 1000000000<gR r v∨gR r v < -1000000000 then 4 else 0
theorem aao {p r:List Int} (hp:pcB p=0) (h:mzB p [r]=0):r.length=p.length∧smR r=true:=by
 unfold mzB at h;rw [if_pos hp] at h;simp only [GV] at h;split at h
 ·cases h
 ·rename_i h1;split at h
  ·rename_i h2;exact ⟨aa,h2⟩
  ·cases h
theorem FZ {p v:List Int} (h:vcB p v=0):pcB p=0∧v.length=p.length∧v.length<=64∧∀ x∈v,o7 x=true:=by
 unfold vcB at h;split at h
 ·rename_i g;exact absurd h g
 ·rename_i g;split at h
  ·cases h
  ·rename_i g1;split at h
   ·cases h
   ·rename_i g2;have:=o6.1 (by omega:rcB v=0);exact ⟨aa,aa,this.1,this.2⟩
theorem yI {p v r:List Int} (hp:p.length<1000000) (hv:v.length<1000000):CP Y F.nf [lst di p,lst di v,lst di r] (.tup [I (if vsB p v r=0 then gR r v else 0),I (vsB p v r)]):=by
 refine H6 ?_;have vb:=Ps (r:=r) hp hv;simp (disch:=try exact ac)[nf];refine cd vb ?_;unfold vsB;by_cases h:vcB p v=0
 ·obtain ⟨h1,h2,h3,h4⟩:=FZ h;rw [h];simp only [ne_eq,not_true_eq_false,if_false];by_cases h5:mzB p [r]=0
  ·obtain ⟨h6,h7⟩:=aao h1 h5;rw [h5];simp only [not_true_eq_false,if_false];have vd:=Tc (v:=v) (r:=r) aa h4 h7 aa;simp (disch:=try exact ac)[];refine cd vd ?_;generalize gR r v=z;by_cases g1:1000000000<z
   ·simp (disch:=try exact ac)[g1];exact ax rfl rfl
   ·by_cases g2:z < -1000000000
    ·simp (disch:=try exact ac)[g1,g2];exact ax rfl rfl
    ·simp (disch:=try exact ac)[g1,g2];exact ⟨[],by simp [aF,ai,g1,g2]⟩
  ·simp (disch:=try exact ac)[h5];exact ax rfl rfl
 ·simp (disch:=try exact ac)[h];exact ax rfl rfl
def lgQ (n:Nat) (a:Int) (i:Nat) (b:Int) (k:Nat):List Q:=
 if i=k then (List.replicate n (0,1)).set i (a+b,1) else if b=0 then (List.replicate n (0,1)).set i (a,1) else ((List.replicate n (0,1)).set i (a,1)).set k (b,1)
theorem vH (n:Nat) (a:Int) (i:Nat) (b:Int) (k:Nat):(lgQ n a i b k).length=n:=by unfold lgQ;split <;> (try split) <;> simp
theorem T5 {n:Nat} {a:Int} {i:Nat} {b:Int} {k:Nat} {x:Q} (h:x∈lgQ n a i b k):x=(0,1)∨x=(a+b,1)∧i=k∨x=(a,1)∨x=(b,1):=by
 unfold lgQ at h;split at h
 ·rcases Zb h with h | h
  ·exact .inl (Y5.1 h).2
  ·exact .inr (.inl ⟨h,by assumption⟩)
 ·split at h
  ·rcases Zb h with h | h
   ·exact .inl (Y5.1 h).2
   ·exact .inr (.inr (.inl h))
  ·rcases Zb h with h | h
   ·rcases Zb h with h | h
    ·exact .inl (Y5.1 h).2
    ·exact .inr (.inr (.inl h))
   ·exact .inr (.inr (.inr h))
theorem WU:itoa 0=[48]:=aE
def hq1 (l:List Tx):Hp:=[(1,.data 2 (l.flatMap aV) true false)]
theorem xV (l:List Tx):(hq1 l)[0]? = some (1,.data 2 (l.flatMap aV) true false):=rfl
theorem Ff {n:Nat} (hn:n<1000000) (k:KL) (h0:Hp) (hh:h0.length=1):∀ (r i:Nat),i+r=n->k (.exit 0) [] (hq1 (List.replicate n zT)) ->
  lp (qZ (CX Y) (.ref 0 1 0 n n (n*2)) (I n)) [] h0 [I i] (hq1 (List.replicate i zT++List.replicate r km)) k
 | 0,i,hi,hk=>by
  have h1:¬ (i:Int)<(n:Int):=aa;have h2:i=n:=aa;subst h2;refine am ?_;simp (disch:=try exact ac)[qZ,h1];exact hk
 | r+1,i,hi,hk=>by
  have h1:(i:Int)<(n:Int):=aa;have hl:(List.replicate i zT++List.replicate (r+1) km).length=n:=by simp;omega
  have e1:=ixR (xV (List.replicate i zT++List.replicate (r+1) km)) hl (c:=i) aa .i64;have e2:=stR (xV (List.replicate i zT++List.replicate (r+1) km)) hl (c:=i) aa zT;have e4:∀ l l':List Tx,(hq1 l).set 0 (1,.data 2 (l'.flatMap aV) true false)=hq1 l':=fun _ _=>rfl
  rw [e4,Gy] at e2;have b:=Pg [48] [49];have e5:zT=([48],[49]):=aE;rw [e5] at e2;have hlen:(hq1 (List.replicate (i+1) zT++List.replicate r km)).length=h0.length:=by simp [hq1,hh]
  rw [e5] at hlen e1 ⊢;have:=Ff hn k h0 hh r (i+1) aa hk;rw [e5] at this;refine am ?_;simp (disch:=try exact ac)[qZ,h1,b,e1,e2,hlen];simpa using this
def hqQ (l:List Q):Hp:=[(1,.data 2 ((l.map tx).flatMap aV) true false)]
theorem MZ {p:List Int} {a b:Int} {i k:Nat} (hn:p.length<1000000) (hi:i<p.length) (hk:k<p.length) (a1 : -1000000000000<a) (a2:a<1000000000000) (b1 : -1000000000000<b) (b2:b<1000000000000):CP Y F.qq [lst di p,I a,I i,I b,I k] (szV (lgQ p.length a i b k)):=by
 refine KM ?_;obtain ⟨n,hnn⟩:∃ n,n=p.length:=⟨_,rfl⟩;rw [<- hnn] at hn hi hk ⊢;have ll:bm (lst di p)=some (I n):=by rw [hnn];rfl
 have lr:bm (.ref 0 1 0 n n (n*2))=some (I n):=rfl;have e0:([(0,Bk.none)]:Hp).set 0 (0+1,.data 2 ((List.replicate n km).flatMap aV) true false)=hq1 (List.replicate 0 zT++List.replicate n km):=rfl;have hz:hq1 (List.replicate n zT)=hqQ (List.replicate n (0,1)):=by simp [hq1,hqQ,zT]
 have st2:∀ (l:List Q),l.length=n->∀ (c:Nat),c<n->∀ z:Int,st (hqQ l) 2 (.ptr 0 1 (c*2) (n*2)) (.agg [S (itoa z),S [49]])=some (hqQ (l.set c (z,1))):=fun l hl c hc z=>by
  have:=stR (xV (l.map tx)) (by rw [List.length_map,hl]) hc (tx (z,1));have e4:∀ l l':List Tx,(hq1 l).set 0 (1,.data 2 (l'.flatMap aV) true false)=hq1 l':=fun _ _=>rfl
  rw [e4,<- List.map_set] at this;rw [<- eQ];exact this
 have ix:∀ (l:List Q),l.length=n->∀ (c:Nat),c<n->ixV (hqQ l) 2 (.ref 0 1 0 n n (n*2)) (I c)=some (.ptr 0 1 (c*2) (n*2)):=fun (l:List Q) (hl:l.length=n) (c:Nat) (hc:c<n)=>ixR (xV (l.map tx)) (by rw [List.length_map,hl]) hc .i64
 have of_:=fun (z:Int) h1 h2=>lH (z:=z) h1 h2
 have hl0:(List.replicate n ((0,1):Q)).length=n:=ag;have hl1:((List.replicate n ((0,1):Q)).set i (a,1)).length=n:=ag;have ou:∀ l:List Q,l.length=n->out (szV l) (.ref 0 1 0 n n (n*2)) (hqQ l):=fun l hl=>⟨_,Mq (xV (l.map tx)) (by rw [List.length_map,hl])⟩
 simp (disch:=try exact ac)[qq,ll];refine Q7 (e:=0) (b:=.none) rfl aa ?_;rw [e0];simp (disch:=try exact ac)[lr];refine lo (Ff hn _ _ rfl n 0 aa ?_);rw [hz];simp (disch:=try exact ac)[];refine cd (of_ a aa aa) ?_;have b1':=Pg (itoa a) [49];have b2':=Pg (itoa (a+b)) [49]
 have b3':=Pg (itoa b) [49];by_cases hik:i=k
 ·subst hik;simp (disch:=try exact ac)[b1',ix _ hl0 _ hi,st2 _ hl0 _ hi a];refine aZ ?_;simp (disch:=try exact ac)[];refine cd (of_ (a+b) aa aa) ?_;simp (disch:=try exact ac)[b2',ix _ hl1 _ hi,st2 _ hl1 _ hi (a+b)];have:=ou (((List.replicate n ((0,1):Q)).set i (a,1)).set i (a+b,1)) ag;rw [List.set_set] at this
  simpa [lgQ] using this
 ·have g:¬ (i:Int)=(k:Int):=aa;by_cases hb:b=0
  ·subst hb;simp (disch:=try exact ac)[b1',ix _ hl0 _ hi,st2 _ hl0 _ hi a,g];refine aZ ?_;simp (disch:=try exact ac)[];refine aZ ?_;simp (disch:=try exact ac)[];have:=ou ((List.replicate n ((0,1):Q)).set i (a,1)) ag;simpa [lgQ,hik] using this
  ·simp (disch:=try exact ac)[b1',ix _ hl0 _ hi,st2 _ hl0 _ hi a,g];refine aZ ?_;simp (disch:=try exact ac)[hb];refine aZ ?_;simp (disch:=try exact ac)[];refine cd (of_ b aa aa) ?_;simp (disch:=try exact ac)[b3',ix _ hl1 _ hk,st2 _ hl1 _ hk b]
   have:=ou (((List.replicate n ((0,1):Q)).set i (a,1)).set k (b,1)) ag;simpa [lgQ,hik,hb] using this
def GH (p:List Int) (n i:Nat):Int:=if i=0 then n else Uk p (lgQ p.length (2*n:Nat) i 1 0) (lgQ p.length 2 0 0 0)
def jz (p:List Int) (n:Nat):List Int:=(List.range p.length).map (GH p n)
theorem aag (z:Int):okQ ((z,1):Q):=⟨ag,ag⟩
theorem Vs {n:Nat} {a:Int} {i:Nat} {b:Int} {k:Nat} {M:Nat} (ha:a.natAbs<=M) (hb:b.natAbs<=M) (hab:i=k->(a+b).natAbs<=M):bdL 1 M (lgQ n a i b k):=fun x hx=>by
 have hz:∀ z:Int,z.natAbs<=M->∃ a:Int,rp 1 ((z,1):Q) a∧a.natAbs<=M:=fun z hz=>⟨z,⟨aag z,ag⟩,hz⟩
 rcases T5 hx with rfl | ⟨rfl,e⟩ | rfl | rfl
 ·exact hz 0 ag
 ·exact hz _ (hab e)
 ·exact hz _ ha
 ·exact hz _ hb
theorem Qq {p:List Int} {n i:Nat} (hp:in6 p) (hi:0<i) (hil:i<p.length) (n1:n<=10000) :
  ∃ q:Int,uZ p (lgQ p.length (2*n:Nat) i 1 0) (lgQ p.length 2 0 0 0) q∧q.natAbs<=960000∧tq p (lgQ p.length 2 0 0 0)≠[]∧okS (lgQ p.length (2*n:Nat) i 1 0)∧okS (lgQ p.length 2 0 0 0):=by
 have hA:bdL 1 20000 (lgQ p.length (2*n:Nat) i 1 0):=Vs aa aa aa;have hB:bdL 1 2 (lgQ p.length 2 0 0 0):=Vs aa aa aa;obtain ⟨m,hm⟩:∃ m,p.length=m+1:=⟨p.length-1,aa⟩;have eB:lgQ p.length 2 0 0 0=((2,1):Q)::List.replicate m (0,1):=by simp [lgQ,hm,List.replicate_succ]
 have ne:tq p (lgQ p.length 2 0 0 0)≠[]:=by rw [eB];exact Py aa ae
 have oB:=nY aa hB aa aa
 obtain ⟨q,h1,h2⟩:=acS hp aa aa hA hB (vH ..) (vH ..) (yM (mK ae fun y hy=>(oB y hy).1.1) fun y hy=>⟨by
   rw [eB] at hy;simp only [Zt,Y5] at hy;rcases hy with rfl | ⟨_,rfl⟩ <;> decide,(oB y hy).1.1,(pi (s:=lgQ p.length 2 0 0 0) (d:=1)).2 y hy⟩) ne aa aa aa aa aa aa
 exact ⟨q,h1,aa,ne,nY aa hA aa aa,oB⟩
theorem MN {p:List Int} {n i:Nat} {q:Int} (hi:0<i) (h:uZ p (lgQ p.length (2*n:Nat) i 1 0) (lgQ p.length 2 0 0 0) q):GH p n i=q:=by
 unfold GH;rw [if_neg aa];exact Nh h
theorem MO {p:List Int} {n i:Nat} (hp:in6 p) (hil:i<p.length) (n1:n<=10000):(GH p n i).natAbs<=960000:=by
 by_cases hi:i=0
 ·unfold GH;rw [if_pos hi];omega
 ·obtain ⟨q,h1,h2,_⟩:=Qq hp (n:=n) aa hil n1;rw [MN aa h1];exact h2
theorem Vo {s:List Q} (h:okS s):okK 30 s:=h
theorem VV {p:List Int} {n i:Nat} (hpc:pcB p=0) (hp:in6 p) (hil:i<p.length) (n0:0<n) (n1:n<=10000):CP Y F.lf [lst di p,I (2*n:Nat),I i] (I (GH p n i)):=by
 refine D5 ?_;have hN:=hp.2.1;by_cases hi:i=0
 ·subst hi;have e:((2*n:Nat):Int)+1=2*(n:Int)+1:=aa;have e2:(2*(n:Int)+1) / 2=(n:Int):=aa;simp (disch:=try exact ac)[lf,e];exact bX (by simp [GH];omega)
 ·obtain ⟨q,h1,h2,ne,oA,oB⟩:=Qq hp (n:=n) aa hil n1;have l1:=MZ (p:=p) (a:=(2*n:Nat)) (b:=1) (i:=i) (k:=0) aa hil aa aa aa aa aa;have l2:=MZ (p:=p) (a:=2) (b:=0) (i:=0) (k:=0) aa aa aa aa aa aa aa;have cq:=An hpc aa (vH ..) (vH ..) oA oB ne
  have fl:=Ft (K:=30) aa aa (vH ..) (vH ..) (Vo oA) (Vo oB) h1;have sm:=vv (z:=q) aa;rw [MN aa h1];have g:¬ (i:Int)=0:=aa;have sn:∀ (h:Hp) (x y:List Q),ai h [lst di p,szV x,szV y]=some ([lst di p,szV x,szV y],h):=fun h x y=>by simp [ai,szV,bU]
  obtain ⟨A,hA⟩:∃ A,A=lgQ p.length (2*n:Nat) i 1 0:=⟨_,rfl⟩;obtain ⟨B',hB⟩:∃ B',B'=lgQ p.length 2 0 0 0:=⟨_,rfl⟩;rw [<- hA] at l1 cq fl;rw [<- hB] at l2 cq fl
  have fo:CP Y F.ow [lst di p,szV A,szV B'] (.tup [S (itoa q),I 0]):=by
   refine Gt ?_;simp (disch:=try exact ac)[ow];refine cd cq ?_ (sn _ _ _);simp (disch:=try exact ac)[];refine cd fl ?_ (sn _ _ _);exact ax rfl rfl
  simp (disch:=try exact ac)[lf,g];refine cd l1 ?_;simp (disch:=try exact ac)[];refine cd l2 ?_;simp (disch:=try exact ac)[];refine cd fo ?_ (sn _ _ _);simp (disch:=try exact ac)[];refine cd sm ?_;simp (disch:=try exact ac)[]
theorem Pr {p:List Int} {n i:Nat} (hpc:pcB p=0) (hp:in6 p) (hil:i<p.length) (n0:0<n) (n1:n<=10000):CP Y F.nh [lst di p,I n,I i] (.tup [I (GH p n i),I 0]):=by
 refine D6 ?_;have hN:=hp.2.1;have pc:=dR (p:=p) aa;rw [hpc] at pc;have ro:=VV hpc hp hil n0 n1;have e:2*(n:Int)=((2*n:Nat):Int):=aa;have ll:bm (lst di p)=some (I p.length):=rfl;have g1:¬ (n:Int)<1:=aa;have g2:¬ (100000:Int)<(n:Int):=aa;have g3:¬ (i:Int)<0:=aa;have g4:¬ (p.length:Int)<=(i:Int):=aa;obtain ⟨m,hm⟩:∃ m,m=2*n:=⟨_,rfl⟩
 rw [<- hm] at ro e;simp (disch:=try exact ac)[nh];refine cd pc ?_;simp (disch:=try exact ac)[g1,g2,g3,ll,g4,e];refine cd ro ?_;exact ax rfl rfl
def paC (p:List Int) (n i:Nat):List D:=((jz p n).take i).map di
theorem Ja {p:List Int} {n:Nat} (hpc:pcB p=0) (hp:in6 p) (n0:0<n) (n1:n<=10000) (k:KL) (h0:Hp) (hh:h0.length=1):∀ (f i:Nat),i+f=p.length ->
  k (.exit 0) [acR.v p.length ((jz p n).map di)] [acR.b p.length ((jz p n).map di)] ->
  lp (oN (CX Y) (lst di p) (I n) (I p.length)) [] h0 [acR.v i (paC p n i),I i] [acR.b i (paC p n i)] k
 | 0,i,hi,hk=>by
  have g:¬ (i:Int)<(p.length:Int):=aa;have:i=p.length:=aa;subst this;have lt:(jz p n).length=p.length:=by simp [jz]
  refine am ?_;simp (disch:=try exact ac)[oN,g];have e:paC p n p.length=(jz p n).map di:=by unfold paC;rw [Zx aa]
  rw [e];exact hk
 | f+1,i,hi,hk=>by
  have g:(i:Int)<(p.length:Int):=aa;have hN:=hp.2.1;have hlt:i<p.length:=aa;have ne:=Pr hpc hp hlt n0 n1;have li1:∀ (z:Int) (H:Hp),dF 1 [D.int IntKind.i64 0] [(0,I z)] H=some ([di z],H):=fun z H=>by simp [dF,gC,jy,toD,di]
  have lt:(jz p n).length=p.length:=by simp [jz]
  have cR:(paC p n i).length=i*acR.n:=by simp [acR,paC,lt];omega
  have es:paC p n (i+1)=paC p n i++[di (GH p n i)]:=by
   unfold paC;rw [W6,Xo];simp [jz,hlt]
  have cl1:(paC p n i).length=i:=by simp [cR,acR]
  have ev:∀ c,acR.v (i+1) c=.ref acR.s (acR.e+1) 0 (i+1) (i+1) c.length:=fun c=>rfl
  have eb:∀ c,acR.b (i+1) c=(acR.e+1,.data acR.n c false false):=fun c=>rfl
  have ih:=Ja hpc hp n0 n1 k h0 hh f (i+1) aa hk;rw [es] at ih;have cw:∀ x y:Nat × Bk,([x]:Hp).set acR.s y=[y]:=fun x y=>rfl
  have hre:∀ x:Hp,x.length=1->aC [] 0 h0 x=x:=fun x hx=>bO 0 h0 x aa
  refine am ?_;simp (disch:=try exact ac)[oN,g];refine cd ne ?_;simp (disch:=try exact ac)[li1];refine kY acR (k:=1) aa rfl cR (by rfl) rfl (fun t e=>by cases e) aa ae ?_;simp (disch:=try exact ac)[cw,hre];simpa [ev,eb,cl1] using ih
theorem Fa {p:List Int} {n:Nat} (hpc:pcB p=0) (hp:in6 p) (hl:0<p.length) (n0:0<n) (n1:n<=10000):CP Y F.mQ [lst di p,I n] (.tup [lst di (jz p n),I 0]):=by
 refine F5 ?_;have hN:=hp.2.1;have ll:bm (lst di p)=some (I p.length):=rfl
 have mx:mxI true [I 1,I p.length]=some (I p.length):=by
  have:mx2 true 1 (p.length:Int)=p.length:=by simp only [mx2,if_true];split <;> omega
  simp only [mxI,this]
 have lt:(jz p n).length=p.length:=by simp [jz]
 have pl:=Ja hpc hp n0 n1 (exK [((.exit 0),fun l3 h=>out (.tup [lst di (jz p n),I 0]) (.tup [(ge l3 0),(.d (.int .i64 0))]) h),(.ret,fun l3 h=>out (.tup [lst di (jz p n),I 0]) (.tup [(ge l3 0),(ge l3 1)]) h)]) [(0,.none)] rfl p.length 0 aa (by
  obtain ⟨h',q1,_⟩:=jP acR (L:=p.length) (cells:=(jz p n).map di) (h:=[acR.b p.length ((jz p n).map di)]) rfl (by simp [acR,lt]);have e:lst di (jz p n)=.d (.sl p.length ((jz p n).map di)):=by simp [lst,lt]
  rw [e];simp only [exK];exact ax q1 rfl)
 simp (disch:=try exact ac)[mQ,ll,mx];exact pl
def wD (v:List Int) (qf:Rw->Int) (l:List Rw):Bool:=l.all fun r=>decide (gR r v=qf r)
theorem Q2 {z:Int} (h:z.natAbs<1000000000000):ndg z.natAbs<400000:=Zc (bf (n:=z.natAbs) (d:=12) h ae) ae
theorem Mu {v r:List Int} (hN:r.length<=64) (hv:∀ x∈v,x.natAbs<=1000000000) (hr:smR r=true) (k:KL) (h0:Hp):∀ (q w a b:List Int),a++q=r->b++w=v->a.length=b.length->q.length=w.length->k (.exit 2) [S (itoa (gR r v))] h0 ->
  lp (mp (CX Y) (lst di v) (lst di r) (I r.length)) [] h0 [S (itoa (gR a b)),I a.length] h0 k
 | [],w,a,b,ha,hb,hab,hqw,hk=>by
  have:w=[]:=by cases w with
   | nil=>rfl
   | cons=>simp at hqw
  subst this;simp at ha hb;subst ha;subst hb;refine am ?_;simp (disch:=try exact ac)[mp];exact hk
 | x::q,[],a,b,ha,hb,hab,hqw,hk=>by simp at hqw
 | x::q,y::w,a,b,ha,hb,hab,hqw,hk=>by
  have hal:a.length<r.length:=by subst ha;simp
  have hbl:a.length<v.length:=by subst hb;simp;omega
  have hx:nth 0 r a.length=x:=by subst ha;simp
  have hy:nth 0 v a.length=y:=by subst hb;rw [hab];simp
  have bx:=tj hr (x:=x) (by rw [<- ha];simp);have by_:=hv y (by rw [<- hb];simp);have i1:=fun h=>ci di r h (k:=.i64) (i:=(a.length:Int)) aa aa
  have i2:=fun h=>cU di 0 r h (j:=a.length) hal
  have j1:=fun h=>ci di v h (k:=.i64) (i:=(a.length:Int)) aa aa
  have j2:=fun h=>cU di 0 v h (j:=a.length) hbl
  rw [hx] at i2;rw [hy] at j2;simp only [Int.toNat_natCast] at i1 j1;have g1:(a.length:Int)<(r.length:Int):=aa;have ih:=Mu hN hv hr k h0 q w (a++[x]) (b++[y]) (by simpa using ha) (by simpa using hb) (by simp [hab]) (by simpa using hqw) hk;rw [J7 _ _ _ _ hab] at ih;simp only [gR,Int.add_zero] at ih
  have hd:=By (A:=1000) (B:=1000000000) aa aa (a:=a) (b:=b) (fun z hz=>by have:=tj hr (x:=z) (by rw [<- ha];simp [hz]);omega) (fun z hz=>by have:=hv z (by rw [<- hb];simp [hz]);omega);have hm:(x*y).natAbs<=1000*1000000000:=by rw [Zo];exact Zq aa aa
  have hm2 : -1000000000000<=x*y∧x*y<=1000000000000:=aa;have o1:=lH (z:=x) aa aa;have o2:=lH (z:=y) aa aa;have mu:=qp (z:=x) (w:=y) (Q2 aa) (Q2 aa);have ad:=sj (z:=gR a b) (w:=x*y) (GU aa aa) (GU aa aa);refine am ?_
  simp (disch:=try exact ac)[mp,i1,i2,g1];refine cd o1 ?_;simp (disch:=try exact ac)[j1,j2];refine cd o2 ?_;simp (disch:=try exact ac)[];refine cd mu ?_;simp (disch:=try exact ac)[];refine cd ad ?_;simp (disch:=try exact ac)[];simpa using ih
theorem Mv {p:List Int} {n:Nat} {l:List Rw} {v:List Int} {qf:Rw->Int} (H:Md p n l qf) (lv:v.length=p.length) (hp64:p.length<=64) (hv:∀ x∈v,x.natAbs<=1000000000) (k:KL):∀ (q c:List Rw),c++q=l ->
  (wD v qf q=true->k (.exit 0) [] [])->(wD v qf q=false->k .ret [B false,I 0] []) ->
  lp (mq (CX Y) (lst di v) (lst ztD (l.map qf)) (mat l) (I l.length)) [] [] [I c.length] [] k
 | [],c,hc,h1,h2=>by
  simp at hc;subst hc;refine am ?_;simp (disch:=try exact ac)[mq];exact h1 rfl
 | r::q,c,hc,h1,h2=>by
  have hcl:c.length<l.length:=by subst hc;simp
  have hr:nth [] l c.length=r:=by subst hc;simp
  have Er:=H.hE r (by rw [<- hc];simp);have i1:=ci row l [] (k:=.i64) (i:=(c.length:Int)) aa aa;have i2:=cU row [] l [] (j:=c.length) hcl;rw [hr] at i2;simp only [Int.toNat_natCast] at i1;have hlen:=H.hN;have lr:=Er.lr
  have x1:ixV [] 1 (lst ztD (l.map qf)) (I (c.length:Int))=some (.dptr ((l.map qf).map ztD) c.length):=by
   have:=ci ztD (l.map qf) [] (k:=.i64) (i:=(c.length:Int)) aa ak;simpa only [Int.toNat_natCast] using this
  have x2:ld1 [] (.dptr ((l.map qf).map ztD) c.length)=some (S (itoa (qf r))):=by
   have:=cU ztD 0 (l.map qf) [] (j:=c.length) (by simpa using hcl);rw [fK 0 (l.map qf) c.length (by simpa using hcl),List.getElem_map,<- fK [] l c.length hcl,hr] at this;exact this
  obtain ⟨ks,hks⟩:∃ ks,ks=l.map qf:=⟨_,rfl⟩;have ih:=Mv H lv hp64 hv k q (c++[r]) (by simpa using hc);rw [<- hks] at x1 x2 ih ⊢;have ne:=JF (gR r v) (qf r);have g1:(c.length:Int)<(l.length:Int):=aa;have lr1:bm (.d (row r))=some (I r.length):=rfl;have sl:=fun k hk=>Mu (v:=v) (r:=r) aa hv Er.sr k [] r v [] [] rfl rfl rfl aa hk
  have e0:S (itoa (gR [] []))=.d (.str [48]):=by rw [show gR [] []=0 from rfl,WU]
  rw [e0] at sl;simp only [wD,List.all_cons] at h1 h2;refine am ?_;simp (disch:=try exact ac)[mq,i1,i2,g1,lr1];refine lo (sl _ ?_);by_cases he:gR r v=qf r
  ·have ih':=ih (by simpa [he,wD] using h1) (by simpa [he,wD] using h2);simp (disch:=try exact ac)[x1,x2,ne,he];simpa using ih'
  ·simp (disch:=try exact ac)[x1,x2,ne,he];exact h2 (by simp [he])
theorem Mt {p:List Int} {n:Nat} {l:List Rw} {qf:Rw->Int} (hpc:pcB p=0) (hp:in6 p) (hl:0<p.length) (n0:0<n) (n1:n<=10000) (hm:∀ r∈l,mzB p [r]=0) (H:Md p n l qf) :
  CP Y F.iu [lst di p,I n,mat l] (.tup [B (wD (jz p n) qf l),I 0]):=by
 refine AR ?_;have l1:bm (mat l)=some (I l.length):=rfl;have hN:=H.hN;have hN6:=hp.2.1;have dc:=zH (p:=p) (n:=(n:Int)) aa;have hdc:dvC p n=0:=by unfold dvC;rw [if_pos hpc,if_neg aa]
 rw [hdc] at dc;have ck:=kg (p:=p) (m:=l) aa aa;rw [qQ hN hm] at ck;have co:=FE aa H.hE;have pa:=Fa hpc hp hl n0 n1;have lt:(jz p n).length=p.length:=by simp [jz]
 have hv:∀ x∈jz p n,x.natAbs<=1000000000:=fun x hx=>by
  simp only [jz,Zi,Xj] at hx;obtain ⟨i,hi,rfl⟩:=hx;have:=MO hp (n:=n) hi n1;omega
 simp (disch:=try exact ac)[iu];refine cd dc ?_;simp (disch:=try exact ac)[];refine cd ck ?_;simp (disch:=try exact ac)[];refine cd pa ?_;simp (disch:=try exact ac)[];refine cd co ?_;simp (disch:=try exact ac)[l1];refine lo (Mv H lt aa hv _ l [] rfl (fun g=>?_) (fun g=>?_))
 ·rw [g];simp (disch:=try exact ac)[];exact ax rfl rfl
 ·rw [g];simp (disch:=try exact ac)[];exact ax rfl rfl
theorem QP (a b:List Int):CP Y F.qi [lst di a,lst di b] (.fn F.me [] [.dptr [row a] 0,.dptr [row b] 0]):=by
 refine IK ?_;have bl:∀ (l:List Int) (s:Nat) (h:Hp) (k:V->Hp->Prop) (u:PU k),rh (iR s (lst di l) h) k u=rh (alV s [lst di l] h) k u:=fun _ _ _ _ _=>rfl
 simp (disch:=try exact ac)[qi,bl];exact ⟨_,rfl⟩
def prX (a b:List Int):List (List Value):=(a.zip b).map fun t=>[.int .i64 t.1,.int .i64 t.2]
theorem Rh:∀ l:List Int,lits (l.map di)=some (l.map fun z=>.int .i64 z)
 | []=>rfl
 | t::ts=>by
  have:=Rh ts;simp only [Zz,lits,this,di]
theorem ZD {a b:List Int} (hN:a.length<=700000) (hab:a.length=b.length):sqV Y.seq (.fn F.me [] [.dptr [row a] 0,.dptr [row b] 0])=some (prX a b):=by
 show HJ (.sl a.length (a.map di)) (.sl b.length (b.map di))=_
 have hN':a.length<4611686018427387904:=aa;have hb:b.length=a.length:=hab.symm;simp only [HJ,slD,Rh,List.length_map,hb,hN',and_self,if_true];congr 1;unfold prX;rw [List.zip_map,List.map_map];rfl
def oM (a b:List Int):List Int:=(a.zip b).map fun t=>t.1+t.2
def adH (n:Nat) (o:List Int):Hp:=[(1,.data 1 ((o++List.replicate (n-o.length) 0).map di) true false),(1,.vars [.ref 0 1 0 o.length n n]),(0,.none)]
theorem KB {n:Nat} (hn:n<=64) (k:Exit->Hp->Prop) (h0:Hp) (hh:h0.length=3):∀ (t:List (Int × Int)) (o:List Int),o.length+t.length=n->(∀ x∈t,o7 x.1=true∧o7 x.2=true) ->
  k .normal (adH n (o++t.map fun x=>x.1+x.2)) ->
  rg 2 (wE (CX Y) (.ptr 1 1 0 1)) [] h0 k (t.map fun x=>[.int .i64 x.1,.int .i64 x.2]) (adH n o)
 | [],o,hl,ht,hk=>by simpa [rg] using hk
 | x::t,o,hl,ht,hk=>by
  obtain ⟨h1,h2⟩:=ht x ag;have b1:=oD.1 h1;have b2:=oD.1 h2;have li1:∀ (z:Int) (H:Hp),dF 1 [D.int IntKind.i64 0] [(0,I z)] H=some ([di z],H):=fun z H=>by simp [dF,gC,jy,toD,di]
  have hlen:(o.length:Int)+1<=n:=by simp at hl;omega
  have ap:∀ q:V->Hp->Prop,apV false 2 1 8 (.ref 0 1 0 o.length n n) (.d (.sl 1 [di (x.1+x.2)])) (adH n o) q=q (.ref 0 1 0 (o.length+1) n n) [(1,.data 1 ((o++[x.1+x.2]++List.replicate (n-(o.length+1)) 0).map di) true false),(1,.vars [.ref 0 1 0 o.length n n]),(0,.none)]:=by
   intro q;have hg:aP (adH n o) 0 1=.data 1 ((o++List.replicate (n-o.length) 0).map di) true false:=rfl;have hle:((o++List.replicate (n-o.length) 0).map di).length=n:=by simp only [List.length_cons] at hl;simp;omega
   show apC false 2 1 8 (.ref 0 1 0 o.length n n) 1 [di (x.1+x.2)] (adH n o) q=_
   unfold apC;rw [if_neg ae];simp only [hg];rw [if_pos ⟨trivial,by rw [hle],aa,by rw [hle];omega,rfl⟩,if_pos (by simp only [List.length_cons] at hl;omega)];simp only [Bool.or_self,Zk,if_false];have e1:((o++List.replicate (n-o.length) 0).map di).take (0+o.length*1)=o.map di:=ag
   have e2:((o++List.replicate (n-o.length) 0).map di).drop (0+(o.length+1)*1)=(List.replicate (n-(o.length+1)) 0).map di:=by
    have e:n-o.length=(n-(o.length+1))+1:=by simp only [List.length_cons] at hl;omega
    rw [e,List.replicate_succ,Xo,List.drop_append];simp
   rw [e1,e2];simp only [adH,cw,List.set_cons_zero,Xo,Zz,Yt]
  have ih:=KB hn k h0 hh t (o++[x.1+x.2]) (by simp at hl ⊢;omega) (fun y hy=>ht y (by simp [hy])) (by simpa using hk);have hre:∀ y:Hp,y.length=3->aC [] 0 h0 y=y:=fun y hy=>bO 0 h0 y aa
  simp only [Zz];refine GC rfl ?_;have eL:([.int .i64 x.1,.int .i64 x.2]:List Value).map (fun v=>V.d (iD v))=[I x.1,I x.2]:=rfl;rw [eL];have l1:ld1 (adH n o) (.ptr 1 1 0 1)=some (.ref 0 1 0 o.length n n):=rfl;simp (disch:=try exact ac)[wE,l1,li1];unfold rh;rw [ap];simp (disch:=try exact ac)[hre,Cx];simpa [adH] using ih
theorem QA {a b:List Int} (ha:rcB a=0) (hb:rcB b=0) (hab:a.length=b.length):CP Y F.sI [lst di a,lst di b] (I 0):=by
 refine K5 ?_;have h1:=(o6.1 ha).1;have h2:=(o6.1 hb).1;have ra:=Bb (l:=a) aa;have rb:=Bb (l:=b) aa;rw [ha] at ra;rw [hb] at rb;have g:(a.length:Int)=(b.length:Int):=aa;simp (disch:=try exact ac)[sI];refine cd ra ?_;simp (disch:=try exact ac)[];refine cd rb ?_;simp (disch:=try exact ac)[g]
theorem DK {a b:List Int} (hab:a.length=b.length):(oM a b).length=a.length:=by simp [oM,hab]
theorem Oj {a b:List Int} (ha:rcB a=0) (hb:rcB b=0) (hab:a.length=b.length) (hr:rcB (oM a b)=0):CP Y F.vy [lst di a,lst di b] (.tup [lst di (oM a b),I 0]):=by
 refine Oi ?_;obtain ⟨h1,h3⟩:=o6.1 ha;obtain ⟨h2,h4⟩:=o6.1 hb;have bo:=QA ha hb hab;have pa:=QP a b;have lz:=DK hab;have rr:=Tw (l:=oM a b) aa;rw [hr,if_pos rfl] at rr;have ll:bm (lst di a)=some (I a.length):=rfl
 have mk:∀ (k:V->Hp->Prop) (u:PU k),rh (mkS 0 8 [.int .i64 0] [(0,.none),(0,.none),(0,.none)] (I 0) (I a.length)) k u=k (.ref 0 1 0 0 a.length a.length) [(1,.data 1 ((List.replicate a.length 0).map di) true false),(0,.none),(0,.none)]:=by
  intro k u
  have er:∀ n:Nat,gC n [D.int IntKind.i64 0]=(List.replicate n 0).map di:=by
   intro n
   induction n with
   | zero=>rfl
   | succ n ih=>rw [List.replicate_succ,Zz,<- ih];rfl
  unfold rh mkS;simp only;rw [if_pos ⟨aa,aa,ag,aa,aa⟩];simp only [new,List.getElem?_cons_zero,Int.toNat_natCast,er,List.length_map,Y6];rfl
 have lo_:=KB h1 (fun ex h=>exK [(.normal,fun _ h=>
   bnd (ld1 h (.ptr 1 1 0 1)) fun v8=>
   cal (CX Y).p h (.fn F.mW [] []) [v8] fun v9 h=>
   ext v9 0 fun v10=>
   ext v9 1 fun v11=>
   out (.tup [lst di (oM a b),I 0]) (.tup [v10,v11]) h)] ex [] h) (adH a.length []) rfl (a.zip b) [] (by simp [hab]) (fun x hx=>⟨h3 _ (Wu hx).1,h4 _ (Wu hx).2⟩) (by
  have ez:(a.zip b).map (fun x=>x.1+x.2)=oM a b:=rfl;rw [List.nil_append,ez]
  have e0:adH a.length (oM a b)=[(1,.data 1 ((oM a b).map di) true false),(1,.vars [.ref 0 1 0 (oM a b).length a.length a.length]),(0,.none)]:=by
   unfold adH;rw [lz];simp
  rw [e0];simp (disch:=try exact ac)[];refine cdz (ds:=[lst di (oM a b)]) (h':=[(1,.data 1 ((oM a b).map di) true true),(1,.vars [.ref 0 1 0 (oM a b).length a.length a.length]),(0,.none)]) ?_ rr ?_
  ·simp [ai,aF,toD,aP,cw,lz,lst];rw [Zx (by simp [lz])]
  ·simp (disch:=try exact ac)[];exact ax (sE _ _ _) rfl)
 simp (disch:=try exact ac)[vy];refine cd bo ?_;simp (disch:=try exact ac)[ll,mk];refine cd pa ?_;simp only [adH,List.nil_append,List.length_nil,Nat.sub_zero,List.map_replicate] at lo_;simp (disch:=try exact ac)[];exact ro (ZD aa hab) lo_
theorem B4:∀ {a b c:List Int},a.length=b.length->a.length=c.length->rH a b c=decide (oM a b=c)
 | [],[],[],_,_=>by simp [rH,oM]
 | x::a,y::b,z::c,h1,h2=>by
  have ih:=B4 (a:=a) (b:=b) (c:=c) (by simpa using h1) (by simpa using h2);have e:oM (x::a) (y::b)=(x+y)::oM a b:=rfl;rw [rH,ih,e];by_cases h:x+y=z
  ·by_cases h':oM a b=c
   ·simp [h,h']
   ·simp [h,h']
  ·simp [h]
structure HF (p:List Int) (n:Nat) (l:List Rw) (qf:Rw->Int):Prop where
 cn:Md p n l qf
 pl:p.length<=6
 r9:∀ r∈l,∀ x∈r,x.natAbs<=9
theorem HF.rc {p:List Int} {n:Nat} {l:List Rw} {qf:Rw->Int} (H:HF p n l qf) {r:Rw} (hr:r∈l):rcB r=0:=o6.2 ⟨by have:=(H.cn.hE r hr).lr;have:=H.pl;omega,fun x hx=>oD.2 (by have:=H.r9 r hr x hx;omega)⟩
theorem HF.rcA {p:List Int} {n:Nat} {l:List Rw} {qf:Rw->Int} (H:HF p n l qf) {a b:Rw} (ha:a∈l) (hb:b∈l):rcB (oM a b)=0:=by
 have la:=(H.cn.hE a ha).lr;have lb:=(H.cn.hE b hb).lr;have hp:=H.pl;refine o6.2 ⟨by rw [DK aa];omega,fun x hx=>?_⟩;simp only [oM,Zi] at hx;obtain ⟨t,ht,rfl⟩:=hx;have h1:=H.r9 a ha _ (Wu ht).1;have h2:=H.r9 b hb _ (Wu ht).2;exact oD.2 aa
theorem Om {x y:List Int} (hx:x.length<1000000000) (hy:y.length<1000000000):CP Y F.qj [lst di x,lst di y] (B (decide (x=y))):=by
 refine IL ?_;simp (disch:=try exact ac)[qj];refine cd (JX hx hy) ?_;simp (disch:=try exact ac)[]
theorem M5 {p:List Int} {n:Nat} {l:List Rw} {qf:Rw->Int} (H:HF p n l qf) {i j:Nat} {a b:Rw} (hi:i<l.length) (hj:j<l.length) (ha:nth [] l i=a) (hb:nth [] l j=b) (k:KL) (h0:Hp) (hh:h0.length=1):∀ (q c:List Rw),c++q=l ->
  (Dt qf i j a b c.length q=none->k (.exit 4) [] (cnH (0,0,0)))->(∀ t,Dt qf i j a b c.length q=some t->k .ret [B false] (cnH t)) ->
  lp (fq (CX Y) (lst di p) (I n) (mat l) (.ptr 0 1 0 3) (I i) (I j) (lst di (oM a b))) [] h0 [I c.length] (cnH (0,0,0)) k
 | [],c,hc,h1,h2=>by
  simp at hc;subst hc;have l1:bm (mat c)=some (I c.length):=rfl;refine am ?_;simp (disch:=try exact ac)[fq,l1];exact h1 rfl
 | r::q,c,hc,h1,h2=>by
  have l1:bm (mat l)=some (I l.length):=rfl;have hcl:c.length<l.length:=by subst hc;simp
  have hr:nth [] l c.length=r:=by subst hc;simp
  have mem:∀ x,x<l.length->nth [] l x∈l:=fun x hx=>by rw [fK [] l x hx];exact Xx hx
  have ma:a∈l:=ha ▸ mem i hi;have mb:b∈l:=hb ▸ mem j hj;have mr:r∈l:=by rw [<- hc];simp
  have Ea:=H.cn.hE a ma;have Eb:=H.cn.hE b mb;have Er:=H.cn.hE r mr;have lab:=DK (a:=a) (b:=b) (by rw [Ea.lr,Eb.lr]);have hp:=H.pl;have ql:=Om (x:=oM a b) (y:=r) (by rw [lab,Ea.lr];omega) (by rw [Er.lr];omega);have sb:=B4 (a:=a) (b:=b) (c:=r) (by rw [Ea.lr,Eb.lr]) (by rw [Ea.lr,Er.lr]);rw [<- sb] at ql;have na:=o8 Ea;have nb:=o8 Eb;have nr:=o8 Er
  have ixx:∀ (h:Hp) (x:Nat),x<l.length->ixV h 1 (mat l) (I (x:Int))=some (.dptr (l.map row) x):=fun h x hx=>by
   have:=ci row l h (k:=.i64) (i:=(x:Int)) aa aa;simpa only [Int.toNat_natCast] using this
  have ldx:∀ (h:Hp) (x:Nat),x<l.length->ld1 h (.dptr (l.map row) x)=some (lst di (nth [] l x)):=fun h x hx=>cU row [] l h (j:=x) hx
  have i1:=fun h=>ixx h c.length hcl
  have i2:=fun h=>ldx h c.length hcl
  have xi1:=fun h=>ixx h i hi
  have xi2:=fun h=>ldx h i hi
  have xj1:=fun h=>ixx h j hj
  have xj2:=fun h=>ldx h j hj
  rw [hr] at i2;rw [ha] at xi2;rw [hb] at xj2;have hlen:=H.cn.hN;have g1:(c.length:Int)<(l.length:Int):=aa;simp only [Dt] at h1 h2;have ih:=M5 H hi hj ha hb k h0 hh q (c++[r]) (by simpa using hc);have hre:aC [] 0 h0 (cnH (0,0,0))=cnH (0,0,0):=bO 0 h0 _ (by simp [cnH];omega)
  have hst:stX (jh (cnH (0,0,0)) 0 1) (cnH (0,0,0)) 0 1 0 3 [V.d (D.int IntKind.i64 ↑i),V.d (D.int IntKind.i64 ↑j),V.d (D.int IntKind.i64 ↑c.length)]=some (cnH (i,j,c.length)):=rfl;have q1:=Ea.q1;have q2:=Ea.q2;have q3:=Eb.q1;have q4:=Eb.q2;refine am ?_;simp (disch:=try exact ac)[fq,l1,i1,i2,g1];refine cd ql ?_;by_cases hs:rH a b r=true
  ·rw [hs] at h1 h2 ⊢;simp (disch:=try exact ac)[xi1,xi2];refine cd na ?_;simp (disch:=try exact ac)[xj1,xj2];refine cd nb ?_;simp (disch:=try exact ac)[i1,i2];refine cd nr ?_;by_cases he:qf a+qf b=qf r
   ·rw [if_neg (by simp [he])] at h1 h2;have ih':=ih (by simpa using h1) (by simpa using h2);simp (disch:=try exact ac)[he,hre];simpa using ih'
   ·rw [if_pos ⟨rfl,he⟩] at h2;have b3:bld [(0,1),(1,1),(2,1)] [.int .i64 0,.int .i64 0,.int .i64 0] [(0,I i),(1,I j),(2,I c.length)]=some (.agg [I i,I j,I c.length]):=by simp [bld,lS,pD]
    simp (disch:=try exact ac)[he,b3,hst];exact h2 _ rfl
  ·have hs':rH a b r=false:=by simpa using hs
   rw [if_neg (by simp [hs'])] at h1 h2;have ih':=ih (by simpa using h1) (by simpa using h2);rw [hs'];simp (disch:=try exact ac)[hre];simpa using ih'
theorem M6 {p:List Int} {n:Nat} {l:List Rw} {qf:Rw->Int} (H:HF p n l qf) {i:Nat} {a:Rw} (hi:i<l.length) (ha:nth [] l i=a) (k:KL) (h0:Hp) (hh:h0.length=1):∀ (q c:List Rw),c++q=l ->
  (Du qf l i a c.length q=none->k (.exit 2) [] (cnH (0,0,0)))->(∀ t,Du qf l i a c.length q=some t->k .ret [B false] (cnH t)) ->
  lp (ft (CX Y) (lst di p) (I n) (mat l) (.ptr 0 1 0 3) (I i)) [] h0 [I c.length] (cnH (0,0,0)) k
 | [],c,hc,h1,h2=>by
  simp at hc;subst hc;have l1:bm (mat c)=some (I c.length):=rfl;refine am ?_;simp (disch:=try exact ac)[ft,l1];exact h1 rfl
 | r::q,c,hc,h1,h2=>by
  have hcl:c.length<l.length:=by subst hc;simp
  have hr:nth [] l c.length=r:=by subst hc;simp
  have mem:∀ x,x<l.length->nth [] l x∈l:=fun x hx=>by rw [fK [] l x hx];exact Xx hx
  have ma:a∈l:=ha ▸ mem i hi;have mr:r∈l:=by rw [<- hc];simp
  have ixx:∀ (h:Hp) (x:Nat),x<l.length->ixV h 1 (mat l) (I (x:Int))=some (.dptr (l.map row) x):=fun h x hx=>by
   have:=ci row l h (k:=.i64) (i:=(x:Int)) aa aa;simpa only [Int.toNat_natCast] using this
  have ldx:∀ (h:Hp) (x:Nat),x<l.length->ld1 h (.dptr (l.map row) x)=some (lst di (nth [] l x)):=fun h x hx=>cU row [] l h (j:=x) hx
  have i1:=fun h=>ixx h c.length hcl
  have i2:=fun h=>ldx h c.length hcl
  have xi1:=fun h=>ixx h i hi
  have xi2:=fun h=>ldx h i hi
  rw [hr] at i2;rw [ha] at xi2;have hlen:=H.cn.hN;have g1:(c.length:Int)<(l.length:Int):=aa;have l1:bm (mat l)=some (I l.length):=rfl;have hre:∀ t,aC [] 0 h0 (cnH t)=cnH t:=fun t=>bO 0 h0 _ (by simp [cnH];omega)
  simp only [Du] at h1 h2;have ih:=M6 H hi ha k h0 hh q (c++[r]) (by simpa using hc);have lp2:=fun k h1 h2=>M5 H hi hcl ha hr k (cnH (0,0,0)) rfl l [] rfl h1 h2
  have ra:=Oj (H.rc ma) (H.rc mr) (by rw [(H.cn.hE a ma).lr,(H.cn.hE r mr).lr]) (H.rcA ma mr);refine am ?_;simp (disch:=try exact ac)[ft,l1,i1,i2,xi1,xi2,g1];refine cd ra ?_;simp (disch:=try exact ac)[];refine lo (lp2 _ (fun g=>?_) (fun t g=>?_))
  ·simp only [List.length_nil] at g;rw [g] at h1 h2;have ih':=ih (by simpa using h1) (by simpa using h2);simp (disch:=try exact ac)[hre];simpa using ih'
  ·simp only [List.length_nil] at g;rw [g] at h2;have:=h2 t rfl;simp (disch:=try exact ac)[hre];exact this
theorem M7 {p:List Int} {n:Nat} {l:List Rw} {qf:Rw->Int} (H:HF p n l qf) (k:KL) (h0:Hp) (hh:h0.length=1):∀ (q c:List Rw),c++q=l ->
  (tP qf l c.length q=none->k (.exit 0) [] (cnH (0,0,0)))->(∀ t,tP qf l c.length q=some t->k .ret [B false] (cnH t)) ->
  lp (fu (CX Y) (lst di p) (I n) (mat l) (.ptr 0 1 0 3)) [] h0 [I c.length] (cnH (0,0,0)) k
 | [],c,hc,h1,h2=>by
  simp at hc;subst hc;have l1:bm (mat c)=some (I c.length):=rfl;refine am ?_;simp (disch:=try exact ac)[fu,l1];exact h1 rfl
 | r::q,c,hc,h1,h2=>by
  have hcl:c.length<l.length:=by subst hc;simp
  have hr:nth [] l c.length=r:=by subst hc;simp
  have hlen:=H.cn.hN;have g1:(c.length:Int)<(l.length:Int):=aa;have l1:bm (mat l)=some (I l.length):=rfl;have hre:∀ t,aC [] 0 h0 (cnH t)=cnH t:=fun t=>bO 0 h0 _ (by simp [cnH];omega)
  simp only [tP] at h1 h2;have ih:=M7 H k h0 hh q (c++[r]) (by simpa using hc);have lp2:=fun k h1 h2=>M6 H hcl hr k (cnH (0,0,0)) rfl l [] rfl h1 h2
  refine am ?_;simp (disch:=try exact ac)[fu,l1,g1];refine lo (lp2 _ (fun g=>?_) (fun t g=>?_))
  ·simp only [List.length_nil] at g;rw [g] at h1 h2;have ih':=ih (by simpa using h1) (by simpa using h2);simp (disch:=try exact ac)[hre];simpa using ih'
  ·simp only [List.length_nil] at g;rw [g] at h2;have:=h2 t rfl;simp (disch:=try exact ac)[hre];exact this
def lcV:Option (Nat × Nat × Nat)->V
 | some t=>.tup [.agg [I t.1,I t.2.1,I t.2.2],B false]
 | none=>.tup [.agg [I 0,I 0,I 0],B true]
theorem T9 {p:List Int} {n:Nat} {l:List Rw} {qf:Rw->Int} (H:HF p n l qf):CP Y F.cE [lst di p,I n,mat l] (lcV (tP qf l 0 l)):=by
 refine qW ?_;have b0:bld [(0,1),(1,1),(2,1)] [.int .i64 0,.int .i64 0,.int .i64 0] []=some (.agg [I 0,I 0,I 0]):=by simp [bld,lS,pD]
 simp (disch:=try exact ac)[cE];refine lo (M7 H _ (cnH (0,0,0)) rfl l [] rfl (fun g=>?_) (fun t g=>?_))
 ·simp only [List.length_nil] at g;rw [g];simp (disch:=try exact ac)[cnH,lcV,b0];exact ⟨_,by simp [aF,ai];exact rfl⟩
 ·simp only [List.length_nil] at g;rw [g];simp (disch:=try exact ac)[cnH,lcV];exact ⟨_,by simp [aF,ai];exact rfl⟩
theorem zp {k:Nat} {e:List I4}:CP Y F.d6 [.agg [.d (.int .u8 k),bU i4D e]] (B (decide (e.length<=6))):=by
 refine vX ?_;have e1:(decide ((e.length:Int)<=6))=decide (e.length<=6):=decide_eq_decide.2 aa;simp (disch:=try exact ac)[d6];exact ip e1
theorem FF {qf:Rw->Int} {i j:Nat} {a b:Rw}:∀ {q:List Rw} {m:Nat} {t:Nat × Nat × Nat},Dt qf i j a b m q=some t->∃ c∈q,rH a b c=true∧qf a+qf b≠qf c
 | [],m,t,h=>by simp [Dt] at h
 | c::q,m,t,h=>by
  simp only [Dt] at h;split at h
  ·rename_i g;exact ⟨c,ag,g⟩
  ·obtain ⟨c',h1,h2⟩:=FF h;exact ⟨c',by simp [h1],h2⟩
theorem FG {qf:Rw->Int} {l:List Rw} {i:Nat} {a:Rw}:∀ {q:List Rw} {m:Nat} {t:Nat × Nat × Nat},Du qf l i a m q=some t->∃ b∈q,∃ c∈l,rH a b c=true∧qf a+qf b≠qf c
 | [],m,t,h=>by simp [Du] at h
 | c::q,m,t,h=>by
  simp only [Du] at h;split at h
  ·rename_i t' g;obtain ⟨c',h1,h2⟩:=FF g;exact ⟨c,ag,c',h1,h2⟩
  ·obtain ⟨c',h1,h2⟩:=FG h;exact ⟨c',by simp [h1],h2⟩
theorem FH {qf:Rw->Int} {l:List Rw}:∀ {q:List Rw} {m:Nat} {t:Nat × Nat × Nat},tP qf l m q=some t->∃ a∈q,∃ b∈l,∃ c∈l,rH a b c=true∧qf a+qf b≠qf c
 | [],m,t,h=>by simp [tP] at h
 | c::q,m,t,h=>by
  simp only [tP] at h;split at h
  ·rename_i t' g;obtain ⟨c',h1,h2⟩:=FG g;exact ⟨c,ag,c',h1,h2⟩
  ·obtain ⟨c',h1,h2⟩:=FH h;exact ⟨c',by simp [h1],h2⟩
theorem J8:∀ {a b v:List Int},a.length=b.length->gR (oM a b) v=gR a v+gR b v
 | [],[],v,_=>by simp [oM,gR]
 | x::a,y::b,[],_=>by simp [oM,gR]
 | x::a,y::b,z::v,h=>by
  have ih:=J8 (a:=a) (b:=b) (v:=v) (by simpa using h);have e:oM (x::a) (y::b)=(x+y)::oM a b:=rfl;simp only [e,gR,ih,Yd];omega
theorem Tv {v:List Int} {qf:Rw->Int} {l:List Rw} {L:Nat} (hl:∀ r∈l,r.length=L) (h:wD v qf l=true):tP qf l 0 l=none:=by
 cases e:tP qf l 0 l with
 | none=>rfl
 | some t=>
  obtain ⟨a,ha,b,hb,c,hc,h1,h2⟩:=FH e
  have hs:∀ r∈l,gR r v=qf r:=fun r hr=>by
   simp only [wD,Zu,decide_eq_true_eq] at h;exact h r hr
  have lab:a.length=b.length:=by rw [hl a ha,hl b hb]
  rw [B4 lab (by rw [hl a ha,hl c hc])] at h1;have h1:=of_decide_eq_true h1;have:=J8 (v:=v) lab;rw [h1,hs a ha,hs b hb,hs c hc] at this;exact absurd this.symm h2
theorem Rv {p:List Int} {l:List Rw} (G:uu p l) (hN:l.length<=60) {n:Nat} (n0:0<n) (n1:n<=10000):HF p n l (fv p n) where
 cn:=⟨hN,fun r hr=>by
  obtain ⟨lr,h9⟩:=G.rw r hr;obtain ⟨q,E,_⟩:=er6 G.pc G.i6 G.hl n0 n1 lr h9;rw [xG E];exact E⟩
 pl:=G.i6.2.1
 r9:=fun r hr=>(G.rw r hr).2
theorem CS {k m:Nat} {e:List I4} (hk:k<256) (hm:m<256) (hb:∀ x∈e,ok4 x):CP Y F.aX [.agg [.d (.int .u8 k),bU i4D e],.d (.int .u8 m)] (B true):=by
 refine nF ?_;have snD:∀ h:Hp,ai h [.agg [.d (.int .u8 k),bU i4D e]]=some ([.agg [.d (.int .u8 k),bU i4D e]],h):=fun h=>by simp [ai,aF,bU]
 have fi:=zp (k:=k) (e:=e);by_cases h6:e.length<=6
 ·rw [decide_eq_true h6] at fi;obtain ⟨p1,p2,p3,p4,p5⟩:=I9 _ (sJ k);have mo:=vG (e:=e) hk aa hb;obtain ⟨p,hp⟩:∃ p,p=tV k:=⟨_,rfl⟩;rw [<- hp] at p1 p2 p3 p4 p5 mo;obtain ⟨n,hn⟩:∃ n,n=m % 100+1:=⟨_,rfl⟩;have en:1+(m:Int) % 100=(n:Int):=by rw [hn];omega
  have m1:0<=(m:Int) % 100∧(m:Int) % 100<100:=aa
  have gds:uu p (e.map (mkI p)):=⟨p1,⟨p2,aa,p5⟩,p3,fun r hr=>by
    obtain ⟨y,_,rfl⟩:=Zi.1 hr;exact ⟨Br rfl p4,G4 _ _⟩⟩
  have hmz:∀ r∈e.map (mkI p),mzB p [r]=0:=fun r hr=>wR p1 (gds.rw r hr).1 (wz (gds.rw r hr).2)
  have lle:(e.map (mkI p)).length<=6:=by rw [List.length_map];omega
  obtain ⟨l,hl⟩:∃ l,l=e.map (mkI p):=⟨_,rfl⟩;rw [<- hl] at gds hmz lle mo;have H:=Rv gds aa (n:=n) aa aa;have co:=rV (p:=p) (n:=n) aa (by unfold dvC;rw [if_pos p1,if_neg aa]) hmz H.cn;have lc:=T9 H;have sa:=Mt p1 gds.i6 p3 aa aa hmz H.cn
  have sc:=fun h=>Tv (v:=jz p n) (qf:=fv p n) (l:=l) (L:=p.length) (fun r hr=>(gds.rw r hr).1) h
  generalize wD (jz p n) (fv p n) l=sb at sa sc;simp (disch:=try exact ac)[aX];refine cd fw ?_;simp (disch:=try exact ac)[];refine cd fi ?_ (snD _);simp (disch:=try exact ac)[];refine cd mo ?_ (snD _);simp (disch:=try exact ac)[Zv,m1,en];refine cd co ?_
  cases hc:tP (fv p n) l 0 l with
  | none=>
   rw [hc] at lc;simp (disch:=try exact ac)[cnV];refine cd lc ?_;simp (disch:=try exact ac)[lcV];refine cd sa ?_;have eq3:biA [.int .i64 0,.int .i64 0,.int .i64 0] .eql (.agg [I 0,I 0,I 0]) (.agg [I 0,I 0,I 0])=some (B true):=by simp [biA,yj,eqC]
   cases sb <;> simp (disch:=try exact ac)[eq3]
  | some t=>
   rw [hc] at lc sc
   have:sb=false:=by cases sb with
    | false=>rfl
    | true=>exact absurd (sc rfl) ag
   subst this;simp (disch:=try exact ac)[cnV];refine cd lc ?_;simp (disch:=try exact ac)[lcV];refine cd sa ?_;have eq3:biA [.int .i64 0,.int .i64 0,.int .i64 0] .eql (.agg [I t.1,I t.2.1,I t.2.2]) (.agg [I t.1,I t.2.1,I t.2.2])=some (B true):=by simp [biA,yj,eqC]
   simp (disch:=try exact ac)[eq3]
 ·rw [decide_eq_false h6] at fi;simp (disch:=try exact ac)[aX];refine cd fw ?_;simp (disch:=try exact ac)[];refine cd fi ?_ (snD _);simp (disch:=try exact ac)[];refine cd fw ?_;simp (disch:=try exact ac)[]
end Go.Vm
