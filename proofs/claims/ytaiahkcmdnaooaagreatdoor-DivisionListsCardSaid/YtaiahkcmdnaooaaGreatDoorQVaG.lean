/- The law DivisionLists. -/
import Derived.Test.YtaiahkcmdnaooaaGreatDoorQLdY
import Derived.Test.YtaiahkcmdnaooaaGreatDoorQT
import Derived.Test.YtaiahkcmdnaooaaGreatDoorQVaA
set_option linter.unusedVariables false
set_option linter.unusedSimpArgs false
namespace Go.Vm
open Go Go.Am Go.Big
theorem Il {A:List (List Q)} (hN:A.length<1000000) (hl:∀ s∈A,s.length<1000000) (k:KL):∀ (q a:List (List Q)),a++q=A->k (.exit 0) [] [] ->
  lp (fL (CX Y) (lst szD A) (lst szD A)) [] [] [I a.length] [] k
 | [],a,ha,hk=>by
  simp at ha;subst ha;have l1:bm (lst szD a)=some (I a.length):=rfl;refine am ?_;simp (disch:=try exact ac)[fL,l1];exact hk
 | s::q,a,ha,hk=>by
  have hal:a.length<A.length:=by subst ha;simp
  have hs:nth [] A a.length=s:=by subst ha;simp
  have l1:bm (lst szD A)=some (I A.length):=rfl;have i1:=ci szD A [] (k:=.i64) (i:=(a.length:Int)) aa aa;have i2:=cU szD [] A [] (j:=a.length) hal;rw [hs] at i2;simp only [Int.toNat_natCast] at i1;have g1:(a.length:Int)<(A.length:Int):=aa;have eq:=Fx (s:=s) (t:=s) (hl s (by rw [<- ha];simp));rw [decide_eq_true rfl] at eq
  have ih:=Il hN hl k q (a++[s]) (by simpa using ha) hk;refine am ?_;simp (disch:=try exact ac)[fL,l1,i1,i2,g1];refine cd eq ?_ (by simp [ai,aF,Jk]);simp (disch:=try exact ac)[];simpa using ih
theorem PK {A:List (List Q)} (hN:A.length<1000000) (hl:∀ s∈A,s.length<1000000):CP Y F.cS [lst szD A,lst szD A] (B true):=by
 refine rK ?_;have l1:bm (lst szD A)=some (I A.length):=rfl;simp (disch:=try exact ac)[cS,l1];refine lo (Il hN hl _ A [] rfl ?_);simp (disch:=try exact ac)[]
theorem Tb {p:List Int} {l:List Rw} (G:uu p l) {n:Nat} (n1:n<=10000) {r:Rw} (hr:r∈l):vsB p (jz p n) r=0:=by
 obtain ⟨lr,h9⟩:=G.rw r hr;have hN:=G.i6.2.1;have lt:(jz p n).length=p.length:=by simp [jz]
 have hv:∀ x∈jz p n,x.natAbs<=960000:=fun x hx=>by
  simp only [jz,Zi,Xj] at hx;obtain ⟨i,hi,rfl⟩:=hx;exact MO G.i6 (n:=n) hi n1
 have hd:=By (A:=9) (B:=960000) aa aa (a:=r) (b:=jz p n) (fun z hz=>by have:=h9 z hz;omega) (fun z hz=>by have:=hv z hz;omega)
 have vc:vcB p (jz p n)=0:=by
  unfold vcB;rw [if_neg (by simp [G.pc]),if_neg (by simp only [ne_eq,Decidable.not_not];exact o6.2 ⟨aa,fun x hx=>oD.2 (by have:=hv x hx;omega)⟩),if_neg (by simp [lt])]
 unfold vsB;rw [if_neg (by simp [vc]),if_neg (by simp [wR G.pc lr (wz h9)]),if_neg aa]
def erC (p:List Int) (n:Nat) (a:List Rw):List D:=(a.map (erD p n (fv p n))).map szD
theorem Ur (p:List Int) (n:Nat) (a:List Rw) (r:Rw):erC p n (a++[r])=erC p n a++[szD (erD p n (fv p n) r)]:=by simp [erC]
theorem CN {p:List Int} {l:List Rw} (G:uu p l) {n:Nat} (n0:0<n) (n1:n<=10000) (hN:l.length<=60) (k:KL) (x0:Nat × Bk) (h0:Hp) (hh:h0.length=2):∀ (q a:List Rw) (s:Bool),a++q=l ->
  k (.exit 0) [acL.v l.length (erC p n l),B (s && wD (jz p n) (fv p n) q)] [x0,acL.b l.length (erC p n l)] ->
  lp (d7 (CX Y) (lst di p) (mat l) (I n) (lst di (jz p n))) [] h0 [acL.v a.length (erC p n a),B s,I a.length] [x0,acL.b a.length (erC p n a)] k
 | [],a,s,ha,hk=>by
  simp at ha;subst ha;have l1:bm (mat a)=some (I a.length):=rfl;refine am ?_;simp (disch:=try exact ac)[d7,l1];simpa [wD] using hk
 | r::q,a,s,ha,hk=>by
  have hr:r∈l:=by rw [<- ha];simp
  have hal:a.length<l.length:=by subst ha;simp
  have er:nth [] l a.length=r:=by subst ha;simp
  have l1:bm (mat l)=some (I l.length):=rfl;have i1:=fun h=>ci row l h (k:=.i64) (i:=(a.length:Int)) aa aa
  have i2:=fun h=>cU row [] l h (j:=a.length) hal
  rw [er] at i2;simp only [Int.toNat_natCast] at i1;have g1:(a.length:Int)<(l.length:Int):=aa;have E:=(Rv G hN n0 n1).cn.hE r hr;have ne:=o8 E;have wr:=Fe E;have hN6:=G.i6.2.1;have st:=yI (p:=p) (v:=jz p n) (r:=r) aa (by simp [jz];omega);rw [Tb G n1 hr,if_pos rfl] at st
  have li:∀ H,dF 1 [D.pl (Value.slice none 0 0)] [(0,szV (iG p n (fv p n r) (ofQ r)))] H=some ([szD (erD p n (fv p n) r)],H):=fun H=>Eo ..
  have ev:∀ c,acL.v (a.length+1) c=.ref acL.s (acL.e+1) 0 (a.length+1) (a.length+1) c.length:=fun c=>rfl
  have eb:∀ c,acL.b (a.length+1) c=(acL.e+1,.data acL.n c false false):=fun c=>rfl
  have q1:=E.q1;have q2:=E.q2;have cL:(erC p n a).length=a.length*acL.n:=by simp [acL,erC]
  have es:=Ur p n a r;have cw:∀ y z w:Nat × Bk,([y,z]:Hp).set acL.s w=[y,w]:=fun y z w=>rfl
  have hre:∀ y:Hp,y.length=2->aC [] 0 h0 y=y:=fun y hy=>bO 0 h0 y aa
  have ih:=fun s' hk'=>CN G n0 n1 hN k x0 h0 hh q (a++[r]) s' (by simpa using ha) hk'
  refine am ?_;simp (disch:=try exact ac)[d7,l1,i1,i2,g1];refine cd ne ?_;simp (disch:=try exact ac)[i1,i2];refine cd wr ?_;simp (disch:=try exact ac)[li];refine kY acL (k:=1) aa rfl cL (by rfl) rfl (fun t e=>by cases e) aa ae ?_;simp (disch:=try exact ac)[cw,i1,i2]
  refine cd st ?_
  have ih:=ih (s && decide (gR r (jz p n)=fv p n r)) (by
   have:(s && decide (gR r (jz p n)=fv p n r) && wD (jz p n) (fv p n) q)=(s && wD (jz p n) (fv p n) (r::q)):=by simp only [wD,List.all_cons,Bool.and_assoc]
   rw [this];exact hk)
  rw [es] at ih;generalize gR r (jz p n)=d at *;cases s with
  | true=>
   by_cases hd:d=fv p n r
   ·simp (disch:=try exact ac)[hd,hre];simpa [hd,ev,eb] using ih
   ·simp (disch:=try exact ac)[hd,hre];simpa [hd,ev,eb] using ih
  | false=>
   simp (disch:=try exact ac)[hre];simpa [ev,eb] using ih
theorem OM {k m:Nat} {e:List I4} (hk:k<256) (hm:m<65536) (hb:∀ x∈e,ok4 x):CP Y F.bN [.agg [.d (.int .u8 k),bU i4D e],.d (.int .u16 m)] (B true):=by
 refine pu ?_;have snD:∀ h:Hp,ai h [.agg [.d (.int .u8 k),bU i4D e]]=some ([.agg [.d (.int .u8 k),bU i4D e]],h):=fun h=>by simp [ai,aF,bU]
 have fi:=zp (k:=k) (e:=e);by_cases h6:e.length<=6
 ·rw [decide_eq_true h6] at fi;obtain ⟨p1,p2,p3,p4,p5⟩:=I9 _ (sJ k);have mo:=vG (e:=e) hk aa hb;obtain ⟨p,hp⟩:∃ p,p=tV k:=⟨_,rfl⟩;rw [<- hp] at p1 p2 p3 p4 p5 mo;obtain ⟨n,hn⟩:∃ n,n=m % 400+1:=⟨_,rfl⟩;have en:1+(m:Int) % 400=(n:Int):=by rw [hn];omega
  have m1:0<=(m:Int) % 400∧(m:Int) % 400<400:=aa
  have gds:uu p (e.map (mkI p)):=⟨p1,⟨p2,aa,p5⟩,p3,fun r hr=>by
    obtain ⟨y,_,rfl⟩:=Zi.1 hr;exact ⟨Br rfl p4,G4 _ _⟩⟩
  have hmz:∀ r∈e.map (mkI p),mzB p [r]=0:=fun r hr=>wR p1 (gds.rw r hr).1 (wz (gds.rw r hr).2)
  have lle:(e.map (mkI p)).length<=6:=by rw [List.length_map];omega
  obtain ⟨l,hl⟩:∃ l,l=e.map (mkI p):=⟨_,rfl⟩;rw [<- hl] at gds hmz lle mo;have H:=Rv gds aa (n:=n) aa aa;have er:=Fv (p:=p) (n:=n) aa aa (by unfold dvC;rw [if_pos p1,if_neg aa]) hmz H.cn.hE;have sa:=Mt p1 gds.i6 p3 aa aa hmz H.cn;have pa:=Fa p1 gds.i6 p3 (n:=n) aa aa
  have ss:=PK (A:=l.map (erD p n (fv p n))) ak (fun s hs=>by
   obtain ⟨r,hr,rfl⟩:=Zi.1 hs;have:=qk (n:=n) (q:=fv p n r) (s:=ofQ r) p3 (by simp [ofQ,(gds.rw r hr).1]);unfold erD;omega)
  have eA:lst szD (l.map (erD p n (fv p n)))=.d (.sl l.length (erC p n l)):=by simp [lst,erC]
  have lc:(erC p n l).length=l.length*acL.n:=by simp [erC,acL]
  rw [eA] at er ss;have a1:(m:Int) % 400+1=(n:Int):=aa;simp (disch:=try exact ac)[bN];refine cd fw ?_;simp (disch:=try exact ac)[];refine cd fi ?_ (snD _);simp (disch:=try exact ac)[];refine cd mo ?_ (snD _);simp (disch:=try exact ac)[Zv,m1,en];refine cd er ?_
  simp (disch:=try exact ac)[];refine cd sa ?_;simp (disch:=try exact ac)[];refine cd pa ?_;simp (disch:=try exact ac)[];refine lo (CN gds (n:=n) aa aa aa _ _ _ rfl l [] true rfl ?_);rw [V6];generalize wD (jz p n) (fv p n) l=sb at *;simp (disch:=try exact ac)[]
  obtain ⟨h',q1,_⟩:=jP acL (L:=l.length) (cells:=erC p n l) (h:=[(1,.vars [.d (.int .u8 k),bU i4D e]),acL.b l.length (erC p n l)]) rfl lc;refine cdz (ds:=[.d (.sl l.length (erC p n l)),.d (.sl l.length (erC p n l))]) (h':=h') (by simp only [ai,aF,norm,q1]) ss ?_;cases sb <;> simp (disch:=try exact ac)[]
 ·rw [decide_eq_false h6] at fi;simp (disch:=try exact ac)[bN];refine cd fw ?_;simp (disch:=try exact ac)[];refine cd fi ?_ (snD _);simp (disch:=try exact ac)[];refine cd fw ?_;simp (disch:=try exact ac)[]
end Go.Vm
