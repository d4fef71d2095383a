/- Lemmas. -/
import Derived.Test.YtmjcaiaiibdadabGreatDoorQVmC
set_option linter.unusedVariables false
set_option linter.unusedSimpArgs false
set_option maxRecDepth 100000
set_option maxHeartbeats 4000000
namespace Go.Vm
open Go Go.Am Go.Proofs
variable{v t0 t1 t2 t3:V}{h h2:Hp}
theorem CPo{f:FuncId}{fn:Func}(m:Nat)(a:Ann){ds:LwQ}(h3:Y.X.P.funcs[f]?=some fn)(h5:fnD Y (CX Y) fn m a ds (out v))(h1:Y.X.allow f=true:=by rfl)(h2:∀u,Y.X.orc f u=none:=by exact λ_=>rfl)(h4:okB Y.X.P fn a=true:=by decide+kernel):CP Y f ds v:=CP.of h1 h2 h3 h4 h5
abbrev nBQ(a b:Ann):Ann:=.n .x a b
abbrev nCQ(a:Ann):Ann:=.n .x a .o
abbrev nRQ(l:List Act):Ann:=.n (.r l) .o .o
abbrev nJQ(a b:LnQ):Ann:=.n (.j a b) .o .o
abbrev aD(a:Ann):Ann:=.n .x .o a
abbrev d7(a:Ann):Ann:=aD (aD a)
abbrev Fj(a:Ann):Ann:=d7 (aD a)
abbrev Od(a:Ann):Ann:=Fj (aD a)
abbrev adE(a:Ann):Ann:=Od (aD a)
abbrev afr(a:Ann):Ann:=adE (aD a)
abbrev ahV(a:Ann):Ann:=afr (aD a)
theorem acl{p:Prop}(h:p:=by repeat' (first|(refine acQ rfl λ_=>?_)|(refine afN rfl λ_ _=>?_)|(refine acM rfl λ_ _=>?_)|(refine acJ rfl ?_ ?_)|(refine acD rfl λ_=>?_)|(refine VX rfl λ_ _=>?_)|(refine acm rfl λ_ _=>?_)|(refine acT rfl λ_ _=>?_)|(refine YW rfl λ_ _=>?_)|(refine afG rfl (λ_ _=>?_) λ_=>?_)|(refine afs rfl (λ_ _ _=>?_) λ_ _ _=>?_)|(refine acG rfl (λ_ _=>?_) ?_)|(refine acx rfl λ_ _=>?_)|(refine acS rfl λ_ _=>?_)|(refine acN rfl λ_ _=>?_)|(refine af3 rfl λ_ _=>?_)|(refine VV rfl λ_ _=>?_)|(refine acV rfl λ_ _=>?_)|(refine Vx rfl λ_=>?_)|exact rfl|(refine V2 rfl ?_))):p:=h
theorem TW{p:Prop}(h:p:=by repeat' (first|(refine acQ rfl λ_=>?_)|(refine afN rfl λ_ _=>?_)|(refine acM rfl λ_ _=>?_)|(refine acJ rfl ?_ ?_)|(refine acD rfl λ_=>?_)|(refine VX rfl λ_ _=>?_)|(refine acm rfl λ_ _=>?_)|(refine acT rfl λ_ _=>?_)|(refine YW rfl λ_ _=>?_)|(refine afG rfl (λ_ _=>?_) λ_=>?_)|(refine afs rfl (λ_ _ _=>?_) λ_ _ _=>?_)|(refine acG rfl (λ_ _=>?_) ?_)|(refine acx rfl λ_ _=>?_)|(refine acS rfl λ_ _=>?_)|(refine acN rfl λ_ _=>?_)|(refine VV rfl λ_ _=>?_)|(refine acV rfl λ_ _=>?_)|(refine Vx rfl λ_=>?_)|exact rfl|(refine V2 rfl ?_))):p:=h
abbrev kQ:=kkQ
abbrev clQ(C:CC)(h:Hp)(f:FuncId)(a:LwQ)(k:kQ):Prop:=cal C.p h (.fn f [] []) a k
abbrev ciQ(C:CC)(h:Hp)(f:FuncId)(a:LwQ)(s:Nat)(k:kQ):Prop:=cai C.i h (.fn f [] []) a s k
abbrev bIQ(o:BinOp)(x y:V)(k:V->Prop):Prop:=bnd (biI o x y) k
abbrev bSQ(o:BinOp)(x y:V)(k:V->Prop):Prop:=bnd (biS o x y) k
abbrev b1Q(h:Hp)(x:V)(k:V->Prop):Prop:=bnd (ld1 h x) k
abbrev bxQ(h:Hp)(n:Nat)(x y:V)(k:V->Prop):Prop:=bnd (ixV h n x y) k
abbrev blQ(x:V)(k:V->Prop):Prop:=bnd (aQ x) k
abbrev bfQ(n:Nat)(x:V)(k:V->Prop):Prop:=bnd (faV n x) k
abbrev bpQ(x y z:V)(k:V->Prop):Prop:=bnd (nF x y z) k
abbrev cIQ(o:BinOp)(x y:V)(A B:Prop):Prop:=bnd (biI o x y) λc=>cnd c A B
abbrev nzQ(x:V)(A B:Prop):Prop:=bnd (biI .neq x (I 0)) λc=>cnd c A B
abbrev gbQ(c:V)(w:Bool)(h:Hp)(o:Option V)(k:kQ):Prop:=gd c w h (λq=>bnd o λv=>q v h) k
abbrev gqQ(c:V)(w:Bool)(h:Hp)(x:V)(k:kQ):Prop:=gd c w h (λq=>q x h) k
abbrev e2Q(x:V)(k:V->V->Prop):Prop:=ext x 0 λa=>ext x 1 λb=>k a b
abbrev e3Q(x:V)(k:V->V->V->Prop):Prop:=ext x 0 λa=>ext x 1 λb=>ext x 2 λc=>k a b c
abbrev nSQ:V:=.d nPQ
abbrev a1Q(s:Nat)(x y:V)(h:Hp)(k:kQ):Prop:=cY 1 [.int .i64 0] [(0,y)] h λv h=>apV false s 1 8 x v h k
def nA(C:CC)(a:V)(q:kQ):Prop:=let h:Hp:=.replicate 2 nnQ
 uX h .eql a nSQ λc=>cnd c (q nSQ h) (uv 0 0 [.int .i64 0] [] h λc h=>apV false 1 1 8 c a h q)
theorem rc(h:nA (CX Y) t0 (out v)):CP Y F.kf [t0] v:=CPo 2 (d7 (nCQ (nRQ [.slot 0,.slot 1]))) Tryz.func64 h
def lN(C:CC)(a:V)(q:kQ):Prop:=let h:Hp:=.replicate 2 nnQ
 uX h .eql a nSQ λc=>cnd c (q nSQ h) (uv 0 0 [.int .i64 0] [] h λc h=>apV false 1 1 8 c a h q)
theorem p9(h:lN (CX Y) t0 (out v)):CP Y F.iN [t0] v:=CPo 2 (d7 (nCQ (nRQ [.slot 0,.slot 1]))) Tryz.func33 h
def iH(C:CC)(a:V)(q:kQ):Prop:=let h:Hp:=.replicate 2 nnQ
 uX h .eql a nSQ λc=>cnd c (q nSQ h) (uv 0 0 [.str [],.str []] [] h λc h=>apV false 1 2 32 c a h q)
theorem nu(h:iH (CX Y) t0 (out v)):CP Y F.aA [t0] v:=CPo 2 (d7 (nCQ (nRQ [.slot 0,.slot 1]))) Tryz.func35 h
def mz(C:CC)(a c d:V)(q:kQ):Prop:=let h:Hp:=.replicate 1 nnQ
 clQ C h F.dT [c,d] λc h=>e2Q c λc d=>alV 0 [.d (.str []),.d (.str [])] h λd h=>stD h 2 d c λ_ h=>bnd (ldA h 2 d) λc=>clQ C h F.fc [a,c] λa h=>e2Q a λa c=>q (.tup [a,c]) h
theorem CG(h:mz (CX Y) t0 t1 t2 (out v)):CP Y F.mz [t0,t1,t2] v:=CPo 1 (aD (nCQ (nRQ [.o,.slot 0]))) Tryz.func32 h
def lS(C:CC)(a c:V):aP:=λl h q=>cIQ .lss (ge l 1) c (bxQ h 1 a (ge l 1) λa=>b1Q h a λa=>clQ C h F.kf [a] λa h=>cY 1 [nPQ] [(0,a)] h λa h=>apV false 0 1 24 (ge l 0) a h λa h=>bIQ .add (ge l 1) (I 1) λc=>q .normal [a,c] h) (q (.exit 0) [ge l 0] h)
def iy(C:CC)(a:V)(q:kQ):Prop:=let h:Hp:=.replicate 1 nnQ
 blQ a λc=>lp (lS C a c) [] h [nSQ,I 0] h (exK [((.exit 0),λa h=>q (ge a 0) h)])
theorem zm(h:iy (CX Y) t0 (out v)):CP Y F.iy [t0] v:=CPo 1 (d7 (nCQ (aD (nCQ (.n (.l [3,8] [6,7] [((.exit 0),[3],[])] []) (d7 (nCQ (nCQ (aD (nRQ [.o,.o,.slot 0]))))) .o))))) Tryz.func34 h
def jK(C:CC)(a c:V)(q:kQ):Prop:=let h:Hp:=.replicate 4 nnQ
 fj 0 a h λa h=>alV 1 [.d nPQ,.d nPQ,.d nPQ,.d nPQ] h λd h=>bnd (ldA h 3 a) λe=>clQ C h F.fS [e] λe h=>e2Q e λe f=>alV 2 [.d (.int .i64 0),.d nPQ,.d nPQ] h λg h=>stD h 3 g e λ_ h=>nzQ f (bnd (bld [(0,3),(3,1)] [nPQ,nPQ,nPQ,nPQ] []) λa=>stD h 4 d a λ_ h=>bnd (ldA h 4 d) λa=>q (.tup [a,f]) h) (bfQ 0 a λe=>b1Q h e λe=>clQ C h F.kh [e,c] λe h=>nzQ e (bnd (bld [(0,3),(3,1)] [nPQ,nPQ,nPQ,nPQ] []) λa=>stD h 4 d a λ_ h=>bnd (ldA h 4 d) λa=>q (.tup [a,e]) h) (bfQ 0 a λe=>b1Q h e λe=>bfQ 0 g λf=>b1Q h f λf=>clQ C h F.mz [e,I 1,f] λe h=>e2Q e λe f=>nzQ f (bnd (bld [(0,3),(3,1)] [nPQ,nPQ,nPQ,nPQ] []) λa=>stD h 4 d a λ_ h=>bnd (ldA h 4 d) λa=>q (.tup [a,f]) h) (bfQ 0 a λf=>b1Q h f λf=>clQ C h F.iN [f] λf h=>bfQ 1 a λg=>b1Q h g λg=>clQ C h F.iy [g] λg h=>bfQ 2 a λa=>b1Q h a λa=>clQ C h F.iy [a] λa h=>bnd (bld [(0,1),(1,1),(2,1)] [nPQ,nPQ,nPQ] [(0,f),(1,g),(2,a)]) λa=>alV 3 [.d nPQ,.d nPQ,.d nPQ] h λf h=>stD h 3 f a λ_ h=>bnd (ldA h 3 f) λa=>clQ C h F.aA [c] λc h=>cY 2 [nPQ] [(0,e),(1,c)] h λc h=>bnd (bld [(0,3),(3,1)] [nPQ,nPQ,nPQ,nPQ] [(0,a),(1,c)]) λa=>stD h 4 d a λ_ h=>bnd (ldA h 4 d) λa=>q (.tup [a,I 0]) h)))
theorem zn(h:jK (CX Y) t0 t1 (out v)):CP Y F.jK [t0,t1] v:=CPo 4 (nBQ (nRQ [.slot 0,.slot 1]) (nBQ (nRQ [.o,.slot 2]) (Od (nCQ (nRQ [.o,.o,.o,.slot 3]))))) Tryz.func13 h
def iw(C:CC)(b:Nat)(h:Hp)(a c:V)(q:kQ):Prop:=let h:Hp:=h++List.replicate 2 nnQ
 fj (b+0) a h λa h=>bnd (ldA h 4 a) λd=>clQ C h F.nP [d] λd h=>nzQ d (q (.tup [nSQ,d]) h) (bfQ 0 a λd=>bfQ 0 d λd=>b1Q h d λd=>clQ C h F.nI [d,c] λe h=>nzQ e (q (.tup [nSQ,e]) h) (bfQ 0 a λe=>bnd (ldA h 3 e) λe=>clQ C h F.dO [e,c] λc h=>e2Q c λc e=>nzQ e (q (.tup [nSQ,e]) h) (bfQ 3 a λa=>b1Q h a λa=>clQ C h F.jj [c] λc h=>ciQ C h F.jk [d,a,c] (b+1) λa h=>q (.tup [a,I 0]) h)))
def pG(b:Nat):Ann:=(.n .x (.n (.r [.slot (b+0)]) .o .o) (.n .x .o (.n .x .o (.n .x .o (.n .x .o (.n .x .o (.n .x (.n (.r [.o,.inl (b+1)]) .o .o) .o)))))))
theorem zj(C:CC)(h:Hp)(t0:V)(t1:V)(q:kkQ):fnI Y C Tryz.f36 2 pG [t0,t1] h q=iw C h.length h t0 t1 q:=by rfl
theorem zg(b:Nat):okB Tryz.prog Tryz.f36 (pG b)=true:=by rfl
theorem zh(hh:iw (CX Y) h.length h t0 t1 (mN h.length v h2)):CI Y F.iw [t0,t1] h v h2:=
 CI.of (fn:=Tryz.f36) (m:=2) (a:=pG) rfl (λ_=>rfl) Tryz.func36 (zg _) (by rw[zj];exact hh)
def oN(C:CC)(a c d:V):aP:=λl h q=>cIQ .lss (ge l 0) d (bxQ h 2 c (ge l 0) λc=>bnd (ldA h 2 c) λc=>alV 2 [.d (.str []),.d (.str [])] h λd h=>stD h 2 d c λ_ h=>bxQ h 2 a (ge l 0) λc=>bnd (ldA h 2 c) λc=>bnd (ldA h 2 d) λd=>clQ C h F.j6 [c,d] λc h=>bxQ h 2 a (ge l 0) λa=>stD h 2 a c λ_ h=>bIQ .add (ge l 0) (I 1) λa=>q .normal [a] h) (q (.exit 0) [] h)
def nO(C:CC)(a c:V)(q:kQ):Prop:=let h:Hp:=.replicate 3 nnQ
 fj 0 a h λa h=>bnd (ldA h 4 a) λd=>ciQ C h F.iw [d,c] 1 λd h=>e2Q d λd e=>nzQ e (q (.tup [nSQ,e]) h) (clQ C h F.jj [c] λc h=>blQ c λe=>lp (oN C d c e) [2] h [I 0] h (exK [((.exit 0),λc h=>bfQ 0 a λa=>bfQ 0 a λa=>b1Q h a λa=>clQ C h F.mq [a,d] λa h=>e2Q a λa c=>q (.tup [a,c]) h)]))
theorem Ei(h:nO (CX Y) t0 t1 (out v)):CP Y F.nO [t0,t1] v:=CPo 3 (nBQ (nRQ [.slot 0]) (nBQ (nRQ [.inl 1]) (aD (nCQ (aD (nCQ (.n (.l [22] [2,6,20,21] [((.exit 0),[],[2,6])] [2]) (d7 (nCQ (nCQ (nCQ (nRQ [.slot 2]))))) .o))))))) Tryz.func14 h
def nP(C:CC)(a:V)(q:kQ):Prop:=let h:Hp:=.replicate 1 nnQ
 fj 0 a h λa h=>bfQ 0 a λc=>bnd (ldA h 3 c) λc=>clQ C h F.dF [c] λc h=>nzQ c (q c h) (bfQ 3 a λc=>b1Q h c λc=>blQ c λc=>bfQ 0 a λd=>bfQ 2 d λd=>b1Q h d λd=>blQ d λd=>cIQ .neq c d (q (I 5) h) (bfQ 0 a λc=>bfQ 0 c λc=>b1Q h c λc=>bfQ 3 a λa=>b1Q h a λa=>clQ C h F.iY [c,a] q))
theorem Ej(h:nP (CX Y) t0 (out v)):CP Y F.nP [t0] v:=CPo 1 (nCQ (nRQ [.slot 0])) Tryz.func65 h
def mq(C:CC)(a c:V)(q:kQ):Prop:=let h:Hp:=[]
 clQ C h F.kh [a,c] λa h=>nzQ a (q (.tup [nSQ,I 4]) h) (q (.tup [c,I 0]) h)
theorem CF(h:mq (CX Y) t0 t1 (out v)):CP Y F.mq [t0,t1] v:=CPo 0 .o Tryz.func38 h
def mV(C:CC)(a c:V):aP:=λl h q=>cIQ .lss (ge l 1) c (bxQ h 1 a (ge l 1) λa=>b1Q h a λa=>clQ C h F.dT [a,I 1] λa h=>e2Q a λa c=>alV 0 [.d (.str []),.d (.str [])] h λc h=>stD h 2 c a λ_ h=>bnd (ldA h 2 c) λa=>cY 1 [.str [],.str []] [(0,a)] h λa h=>apV false 1 2 32 (ge l 0) a h λa h=>bIQ .add (ge l 1) (I 1) λc=>q .normal [a,c] h) (q (.exit 0) [ge l 0] h)
def jj(C:CC)(a:V)(q:kQ):Prop:=let h:Hp:=.replicate 2 nnQ
 blQ a λc=>lp (mV C a c) [0] h [nSQ,I 0] h (exK [((.exit 0),λa h=>q (ge a 0) h)])
theorem AW(h:jj (CX Y) t0 (out v)):CP Y F.jj [t0] v:=CPo 2 (d7 (nCQ (aD (nCQ (.n (.l [3,10] [8,9] [((.exit 0),[3],[])] [0]) (d7 (nCQ (nCQ (aD (nBQ (nRQ [.o,.slot 0]) (nRQ [.o,.slot 1])))))) .o))))) Tryz.func37 h
def bA(C:CC)(b:Nat)(a:V):aP:=λl h q=>blQ a λc=>cIQ .lss (ge l 0) c (bnd (slV h 2 a (some (ge l 0)) none) λc=>bnd (slV h 2 a none (some (ge l 0))) λa=>cpD h 2 c a λa h=>bIQ .add (ge l 0) a λa=>q .normal [a] h) (q (.exit 0) [] h)
def aM(C:CC)(b:Nat)(h:Hp)(a c:V)(q:kQ):Prop:=let h:Hp:=h++List.replicate 1 nnQ
 bIQ .lss c (I 0) λd=>jn (λd h=>blQ a λd=>bnd (cvI .u64 d) λd=>bnd (cvI .u64 c) λc=>clQ C h F.mE [d,c] λc h=>e2Q c λc d=>bIQ .gtr c (.d (.int .u64 0)) λc=>gqQ c false h d λe h=>gbQ c false h (biI .gtr e (.d (.int .u64 9223372036854775807))) λe h=>bpQ c (B true) e λc=>jn (λc h=>bnd (cvI .i64 d) λc=>mkS (b+0) 32 [.str [],.str []] h c c λc h=>cpD h 2 c a λa h=>lp (bA C b c) [] h [a] h (exK [((.exit 0),λa h=>q c h)])) λa=>cnd c (False /- makeInterface -/) (a [] h)) λa=>cnd d (False /- makeInterface -/) (a [] h)
def dZ(b:Nat):Ann:=(.n .x .o (.n .x (.n .x .o (.n (.j [] [0,1]) .o .o)) (.n .x .o (.n .x (.n .x .o (.n (.j [] [0,6]) .o .o)) (.n .x (.n (.r [.slot (b+0)]) .o .o) (.n .x .o (.n .x (.n .x (.n (.l [8] [7] [((.exit 0),[],[7])] []) .o .o) .o) .o)))))))
theorem nU(C:CC)(h:Hp)(t0:V)(t1:V)(q:kkQ):fnI Y C Tryz.f100 1 dZ [t0,t1] h q=aM C h.length h t0 t1 q:=by rfl
theorem nQ(b:Nat):okB Tryz.prog Tryz.f100 (dZ b)=true:=by rfl
theorem nS(hh:aM (CX Y) h.length h t0 t1 (mN h.length v h2)):CI Y F.aM [t0,t1] h v h2:=
 CI.of (fn:=Tryz.f100) (m:=1) (a:=dZ) rfl (λ_=>rfl) Tryz.func100 (nQ _) (by rw[nU];exact hh)
def mW(C:CC)(b:Nat)(a c d e f:V):aP:=λl h q=>cIQ .lss (ge l 0) f (bxQ h 2 c (ge l 0) λf=>bnd (ldA h 2 f) λf=>bxQ h 2 e (ge l 0) λe=>bnd (ldA h 2 e) λe=>bxQ h 2 a d λa=>bnd (ldA h 2 a) λa=>clQ C h F.j7 [e,a] λa h=>clQ C h F.fh [f,a] λa h=>bxQ h 2 c (ge l 0) λc=>stD h 2 c a λ_ h=>bIQ .add (ge l 0) (I 1) λa=>q .normal [a] h) (q (.exit 2) [] h)
def mX(C:CC)(b:Nat)(a c d e:V):aP:=λl h q=>cIQ .lss (ge l 0) e (bxQ h 1 d (ge l 0) λd=>b1Q h d λd=>blQ c λe=>lp (mW C b a c (ge l 0) d e) [] h [I 0] h (exK [((.exit 2),λa h=>bIQ .add (ge l 0) (I 1) λa=>q .normal [a] h)])) (q (.exit 0) [] h)
def jk(C:CC)(b:Nat)(h:Hp)(a c d:V)(q:kQ):Prop:=let h:Hp:=h++List.replicate 1 nnQ
 bnd (bld [(0,1),(1,1)] [.str [],.str []] [(0,(.d (.str [48]))),(1,(.d (.str [49])))]) λe=>cY 1 [.str [],.str []] [(0,e)] h λe h=>blQ a λa=>ciQ C h F.aM [e,a] (b+0) λa h=>blQ c λe=>lp (mX C b d a c e) [] h [I 0] h (exK [((.exit 0),λc h=>q a h)])
def qe(b:Nat):Ann:=(.n .x .o (.n .x (.n (.r [.o,.inl (b+0)]) .o .o) (.n .x (.n .x .o (.n .x (.n (.l [18] [2,7,16,17] [((.exit 0),[],[7])] []) (.n .x .o (.n .x .o (.n .x (.n .x (.n .x .o (.n .x .o (.n .x (.n (.l [25] [2,7,8,9,16,17,18,24] [((.exit 2),[],[2,7,16,17,18])] []) .o .o) .o))) .o) .o))) .o) .o)) .o)))
theorem AZ(C:CC)(h:Hp)(t0:V)(t1:V)(t2:V)(q:kkQ):fnI Y C Tryz.f66 1 qe [t0,t1,t2] h q=jk C h.length h t0 t1 t2 q:=by rfl
theorem AX(b:Nat):okB Tryz.prog Tryz.f66 (qe b)=true:=by rfl
theorem AY(hh:jk (CX Y) h.length h t0 t1 t2 (mN h.length v h2)):CI Y F.jk [t0,t1,t2] h v h2:=
 CI.of (fn:=Tryz.f66) (m:=1) (a:=qe) rfl (λ_=>rfl) Tryz.func66 (AX _) (by rw[AZ];exact hh)
def cx(C:CC)(a c:V)(q:kQ):Prop:=let h:Hp:=[]
 gqQ a true h c λd h=>gbQ a true h (biS .neq d (.d (.str [48]))) λd h=>bpQ a d (B false) λa=>cnd a (bSQ .add (.d (.str [45])) c λa=>q a h) (q c h)
theorem IH(h:cx (CX Y) t0 t1 (out v)):CP Y F.cx [t0,t1] v:=CPo 0 .o Tryz.func94 h
def gn(C:CC)(a c:V)(q:kkQ):Prop:=let h:Hp:=List.replicate 6 nnQ
 cal C.p h (.fn F.fU [] []) [a,c] λd h=>ext d 0 λe=>ext d 1 λf=>ext d 2 λd=>cnd d (bnd (biI .add e f) λa=>cal C.p h (.fn F.jz [] []) [a] λa h=>q a h) (cai C.i h (.fn F.dV [] []) [a] 0 λa h=>cai C.i h (.fn F.dV [] []) [c] 1 λc h=>bnd (aQ a) λd=>bnd (aQ c) λe=>bnd (biI .lss d e) λd=>jn (λa h=>cY 1 [.int .u64 0] [(0,(.d (.int .u64 0)))] h λc h=>apV false 2 1 8 (ge a 0) c h λc h=>bnd (aQ c) λd=>bnd (biI .sub d (I 1)) λd=>bnd (aQ (ge a 1)) λe=>bnd (biI .sub d e) λd=>apZ false 3 1 8 [.int .u64 0] (ge a 1) d h λa h=>cai C.i h (.fn F.ct [] []) [c,a,(I 0)] 4 λa h=>cai C.i h (.fn F.az [] []) [c] 5 λa h=>cal C.p h (.fn F.aR [] []) [a] λa h=>q a h) λe=>cnd d (e [c,a] h) (e [a,c] h))
def tU:Ann:=(d7 (nBQ (nRQ [.inl 0,.inl 1]) (nBQ (aD (nJQ [8,9] [])) (nBQ (nRQ [.o,.slot 2]) (nBQ (nRQ [.slot 3,.inl 4]) (nCQ (nRQ [.inl 5])))))))
attribute [local irreducible] bnd gd cal cnd ext cY uv stD alV alD fj jn lp exK mkS apV apZ cai uX in
theorem G5(C:CC)(t0:V)(t1:V)(q:kkQ):fnD Y C Tryz.f105 6 tU [t0,t1] q=gn C t0 t1 q:=acl
theorem G3:okB Tryz.prog Tryz.f105 tU=true:=aJ
theorem G4(h:gn (CX Y) t0 t1 (out v)):CP Y F.gn [t0,t1] v:=
 CP.of (fn:=Tryz.f105) (m:=6) (a:=tU) rfl (λ_=>rfl) Tryz.func105 G3 (by rw[G5];exact h)
def cg(C:CC)(a c:V)(q:kQ):Prop:=let h:Hp:=[]
 bnd (o7 a) λd=>bnd (o7 c) λe=>cIQ .neq d e (bnd (o7 a) λa=>bnd (o7 c) λc=>bIQ .sub a c λa=>bnd (mxI true [I (-1),a]) λa=>bnd (mxI false [I 1,a]) λa=>q a h) (bSQ .lss a c λd=>cnd d (q (I (-1)) h) (bSQ .gtr a c λa=>cnd a (q (I 1) h) (q (I 0) h)))
theorem AA(h:cg (CX Y) t0 t1 (out v)):CP Y F.cg [t0,t1] v:=CPo 0 .o Tryz.func127 h
def gZ(C:CC)(a c:V)(q:kkQ):Prop:=let h:Hp:=List.replicate 7 nnQ
 cal C.p h (.fn F.cg [] []) [a,c] λd h=>bnd (biI .lss d (I 0)) λd=>cnd d (q (.tup [(.d (.str [])),(I 3)]) h) (cal C.p h (.fn F.fU [] []) [a,c] λd h=>ext d 0 λe=>ext d 1 λf=>ext d 2 λd=>cnd d (bnd (biI .sub e f) λa=>cal C.p h (.fn F.jz [] []) [a] λa h=>q (.tup [a,(I 0)]) h) (cai C.i h (.fn F.dV [] []) [a] 0 λa h=>cY 1 [.int .u64 0] [(0,(.d (.int .u64 0)))] h λd h=>apV false 1 1 8 a d h λa h=>cai C.i h (.fn F.dV [] []) [c] 2 λd h=>bnd (aQ a) λe=>bnd (biI .sub e (I 1)) λe=>cai C.i h (.fn F.dV [] []) [c] 3 λc h=>bnd (aQ c) λc=>bnd (biI .sub e c) λc=>apZ false 4 1 8 [.int .u64 0] d c h λc h=>cai C.i h (.fn F.dy [] []) [a,c,(.d (.int .u64 1)),(I 0)] 5 λc h=>cai C.i h (.fn F.az [] []) [a] 6 λa h=>cal C.p h (.fn F.aR [] []) [a] λa h=>q (.tup [a,(I 0)]) h))
def tT:Ann:=(Fj (nBQ (nRQ [.inl 0,.o,.slot 1]) (nBQ (nRQ [.inl 2,.inl 3,.slot 4,.inl 5]) (nCQ (nRQ [.inl 6])))))
attribute [local irreducible] bnd gd cal cnd ext cY uv stD alV alD fj jn lp exK mkS apV apZ cai uX in
theorem GZ(C:CC)(t0:V)(t1:V)(q:kkQ):fnD Y C Tryz.f106 7 tT [t0,t1] q=gZ C t0 t1 q:=acl
theorem GX:okB Tryz.prog Tryz.f106 tT=true:=aJ
theorem GY(h:gZ (CX Y) t0 t1 (out v)):CP Y F.gZ [t0,t1] v:=
 CP.of (fn:=Tryz.f106) (m:=7) (a:=tT) rfl (λ_=>rfl) Tryz.func106 GX (by rw[GZ];exact h)
def j8(C:CC)(a c:V)(q:kQ):Prop:=let h:Hp:=.replicate 3 nnQ
 bnd (o7 a) λd=>bnd (o7 c) λe=>bIQ .add d e λd=>cIQ .leq d (I 18) (clQ C h F.fU [a,c] λa h=>e3Q a λa c d=>bIQ .mul a c λa=>clQ C h F.jz [a] q) (ciQ C h F.dV [a] 0 λa h=>ciQ C h F.dV [c] 1 λc h=>ciQ C h F.cS [a,c] 2 λa h=>clQ C h F.aR [a] q)
theorem G0(h:j8 (CX Y) t0 t1 (out v)):CP Y F.j8 [t0,t1] v:=CPo 3 (d7 (nCQ (nRQ [.inl 0,.inl 1,.inl 2]))) Tryz.func95 h
def kR(C:CC)(a c:V)(q:kQ):Prop:=let h:Hp:=[]
 clQ C h F.bF [a,I 18] λd h=>e2Q d λd e=>jn (λd h=>clQ C h F.aO [a] λa h=>e2Q a λa d=>clQ C h F.aO [c] λc h=>e2Q c λc e=>bnd (biB .eql a c) λf=>cnd f (clQ C h F.gn [d,e] λc h=>clQ C h F.cx [a,c] q) (clQ C h F.cg [d,e] λf h=>bIQ .lss f (I 0) λf=>jn (λa h=>clQ C h F.gZ [ge a 1,ge a 2] λc h=>e2Q c λc d=>clQ C h F.cx [ge a 0,c] q) λg=>cnd f (g [c,e,d] h) (g [a,d,e] h))) λa=>cnd e (clQ C h F.bF [c,I 18] λc h=>e2Q c λc e=>cnd e (bIQ .add d c λa=>clQ C h F.eu [a] q) (a [] h)) (a [] h)
theorem KE(h:kR (CX Y) t0 t1 (out v)):CP Y F.kR [t0,t1] v:=CPo 0 (aD (nBQ (d7 (nJQ [] [0,1])) (Fj (nCQ (aD (nJQ [9,10,12] [])))))) Tryz.func86 h
def bL(C:CC)(a c:V)(q:kQ):Prop:=let h:Hp:=[]
 clQ C h F.bF [a,I 9] λd h=>e2Q d λd e=>jn (λd h=>clQ C h F.aO [a] λa h=>e2Q a λa d=>clQ C h F.aO [c] λc h=>e2Q c λc e=>bnd (biB .neq a c) λa=>clQ C h F.j8 [d,e] λc h=>clQ C h F.cx [a,c] q) λa=>cnd e (clQ C h F.bF [c,I 9] λc h=>e2Q c λc e=>cnd e (bIQ .mul d c λa=>clQ C h F.eu [a] q) (a [] h)) (a [] h)
theorem KB(h:bL (CX Y) t0 t1 (out v)):CP Y F.bL [t0,t1] v:=CPo 0 (aD (nCQ (d7 (nJQ [] [0,1])))) Tryz.func59 h
def mF(C:CC)(a:V)(q:kQ):Prop:=let h:Hp:=[]
 cnd (B false) (bnd (cvI .u32 a) λa=>clQ C h F.CV [a] q) (clQ C h F.iB [a] q)
theorem CU(h:mF (CX Y) t0 (out v)):CP Y F.mF [t0] v:=CPo 0 .o Tryz.func180 h
def jf(C:CC)(a:V):aP:=λl h q=>bIQ .mul (ge l 0) (ge l 0) λc=>cIQ .leq c a (bIQ .rem a (ge l 0) λa=>cIQ .eql a (I 0) (q .ret [B false] h) (bIQ .add (ge l 0) (I 1) λa=>q .normal [a] h)) (q (.exit 0) [] h)
def iZ(C:CC)(a:V)(q:kQ):Prop:=let h:Hp:=[]
 bIQ .lss a (I 2) λc=>gqQ c false h a λd h=>gbQ c false h (biI .gtr d (I 97)) λd h=>bpQ c (B true) d λc=>cnd c (q (B false) h) (lp (jf C a) [] h [I 2] h (exK [((.exit 0),λa h=>q (B true) h),(.ret,λa h=>q (ge a 0) h)]))
theorem CQ(h:iZ (CX Y) t0 (out v)):CP Y F.iZ [t0] v:=CPo 0 (d7 (nCQ (aD (nCQ (.n (.l [3] [0] [((.exit 0),[],[]),(.ret,[2],[])] []) .o .o))))) Tryz.func77 h
def pN(C:CC)(a c d:V):aP:=λl h q=>cIQ .lss (ge l 0) d (bxQ h 1 c (ge l 0) λc=>b1Q h c λc=>clQ C h F.iZ [c] λd h=>bnd (unV .not d) λd=>cnd d (q .ret [I 25] h) (bIQ .gtr (ge l 0) (I 0) λd=>gqQ d true h c λc h=>gqQ d true h a λa h=>gqQ d true h (ge l 0) λe h=>gbQ d true h (biI .sub e (I 1)) λe h=>gbQ d true h (ixV h 1 a e) λa h=>gbQ d true h (ld1 h a) λa h=>gbQ d true h (biI .leq c a) λa h=>bpQ d a (B false) λa=>cnd a (q .ret [I 6] h) (bIQ .add (ge l 0) (I 1) λa=>q .normal [a] h))) (q (.exit 1) [] h)
def fx(C:CC)(a:V)(q:kQ):Prop:=let h:Hp:=[]
 blQ a λc=>cIQ .eql c (I 0) (q (I 13) h) (blQ a λc=>cIQ .gtr c (I 6) (q (I 4) h) (blQ a λc=>lp (pN C a a c) [] h [I 0] h (exK [((.exit 1),λa h=>q (I 0) h),(.ret,λa h=>q (ge a 0) h)])))
theorem GI(h:fx (CX Y) t0 (out v)):CP Y F.fx [t0] v:=CPo 0 (d7 (nCQ (aD (nCQ (.n (.l [15] [0,13,14] [((.exit 1),[],[]),(.ret,[2],[])] []) .o .o))))) Tryz.func48 h
def nB(C:CC)(a:V)(q:kQ):Prop:=let h:Hp:=.replicate 1 nnQ
 fj 0 a h λa h=>bfQ 0 a λc=>b1Q h c λc=>clQ C h F.gA [c] λc h=>bnd (o7 c) λc=>bIQ .leq c (I 30) λc=>gbQ c true h (faV 1 a) λa h=>gbQ c true h (ld1 h a) λa h=>gbQ c true h (o7 a) λa h=>gbQ c true h (biI .leq a (I 30)) λa h=>bpQ c a (B false) λa=>q a h
theorem IX(h:nB (CX Y) t0 (out v)):CP Y F.nB [t0] v:=CPo 1 (nCQ (nRQ [.slot 0])) Tryz.func97 h
def qD(C:CC)(a c:V):aP:=λl h q=>cIQ .lss (ge l 0) c (bxQ h 2 a (ge l 0) λa=>bnd (ldA h 2 a) λa=>alV 0 [.d (.str []),.d (.str [])] h λc h=>stD h 2 c a λ_ h=>bnd (ldA h 2 c) λa=>clQ C h F.gY [a] λa h=>nzQ a (q .ret [I 2] h) (bnd (ldA h 2 c) λa=>clQ C h F.nB [a] λa h=>bnd (unV .not a) λa=>cnd a (q .ret [I 4] h) (bIQ .add (ge l 0) (I 1) λa=>q .normal [a] h))) (q (.exit 0) [] h)
def lV(C:CC)(a c:V)(q:kQ):Prop:=let h:Hp:=.replicate 1 nnQ
 blQ c λd=>blQ a λa=>cIQ .neq d a (q (I 5) h) (blQ c λa=>lp (qD C c a) [0] h [I 0] h (exK [((.exit 0),λa h=>q (I 0) h),(.ret,λa h=>q (ge a 0) h)]))
theorem IY(h:lV (CX Y) t0 t1 (out v)):CP Y F.lV [t0,t1] v:=CPo 1 (d7 (nCQ (aD (nCQ (.n (.l [14] [12,13] [((.exit 0),[],[]),(.ret,[4],[])] [0]) (d7 (nCQ (nCQ (nCQ (nRQ [.slot 0]))))) .o))))) Tryz.func62 h
def kh(C:CC)(a c:V)(q:kQ):Prop:=let h:Hp:=[]
 clQ C h F.fx [a] λd h=>nzQ d (q d h) (clQ C h F.lV [a,c] q)
theorem I5(h:kh (CX Y) t0 t1 (out v)):CP Y F.kh [t0,t1] v:=CPo 0 .o Tryz.func31 h
def dR(C:CC)(a c:V)(q:kQ):Prop:=let h:Hp:=.replicate 2 nnQ
 cIQ .eql c (I 10) (cIQ .lss a (.d (.int .u64 100)) (bnd (cvI .i64 a) λa=>clQ C h F.iC [a] q) (alD 0 1 (List.replicate 24 (.int .u8 0)) h λc h=>clQ C h F.du [a] λd h=>bnd (slP 24 1 h c none (some d)) λe=>ciQ C h F.bN [e,a] 1 λa h=>bnd (slP 24 1 h c none (some d)) λa=>bnd (cvT h a) λa=>q a h)) (clQ C h F.qQ [nSQ,a,c,B false,B false] λa h=>e2Q a λa c=>q c h)
theorem vj(h:dR (CX Y) t0 t1 (out v)):CP Y F.dR [t0,t1] v:=CPo 2 (aD (nCQ (aD (nCQ (aD (nBQ (nRQ [.slot 0]) (aD (nCQ (nRQ [.inl 1]))))))))) Tryz.func194 h
def gD(C:CC)(a c:V)(q:kQ):Prop:=let h:Hp:=[]
 clQ C h F.dR [a,c] q
theorem wG(h:gD (CX Y) t0 t1 (out v)):CP Y F.gD [t0,t1] v:=CPo 0 .o Tryz.func171 h
def jz(C:CC)(a:V)(q:kQ):Prop:=let h:Hp:=[]
 clQ C h F.gD [a,I 10] q
theorem J3(h:jz (CX Y) t0 (out v)):CP Y F.jz [t0] v:=CPo 0 .o Tryz.func135 h
def kA(C:CC)(a:V)(q:kQ):Prop:=let h:Hp:=[]
 clQ C h F.fL [a,I 10,I 64] λa h=>e2Q a λa c=>bnd (biF .neq c (.d (.pl .nilIface))) λc=>cnd c (q (.tup [(.d (.int .u64 0)),B false]) h) (q (.tup [a,B true]) h)
theorem Df(h:kA (CX Y) t0 (out v)):CP Y F.kA [t0] v:=CPo 0 .o Tryz.func170 h
def fU(C:CC)(a c:V)(q:kQ):Prop:=let h:Hp:=[]
 bnd (o7 a) λd=>bIQ .gtr d (I 18) λd=>gqQ d false h c λe h=>gbQ d false h (o7 e) λe h=>gbQ d false h (biI .gtr e (I 18)) λe h=>bpQ d (B true) e λd=>cnd d (q (.tup [(.d (.int .u64 0)),(.d (.int .u64 0)),B false]) h) (clQ C h F.kA [a] λa h=>e2Q a λa d=>clQ C h F.kA [c] λc h=>e2Q c λc d=>q (.tup [a,c,B true]) h)
theorem Gc(h:fU (CX Y) t0 t1 (out v)):CP Y F.fU [t0,t1] v:=CPo 0 .o Tryz.func134 h
def dW(C:CC)(a c:V)(q:kQ):Prop:=let h:Hp:=.replicate 2 nnQ
 bSQ .eql c (.d (.str [48])) λd=>cnd d (q (.tup [(.d (.str [])),(.d (.str [])),I 17]) h) (clQ C h F.fU [a,c] λd h=>e3Q d λd e f=>cnd f (bIQ .quo d e λa=>clQ C h F.jz [a] λa h=>bIQ .rem d e λc=>clQ C h F.jz [c] λc h=>q (.tup [a,c,I 0]) h) (ciQ C h F.dV [a] 0 λd h=>ciQ C h F.dV [c] 1 λc h=>clQ C h F.cj [d,c] λe h=>cIQ .lss e (I 0) (q (.tup [(.d (.str [48])),a,I 0]) h) (blQ c λa=>cIQ .eql a (I 1) (bxQ h 1 c (I 0) λa=>b1Q h a λa=>clQ C h F.cT [d,a] λa h=>e2Q a λa c=>clQ C h F.aR [a] λa h=>clQ C h F.jz [c] λc h=>q (.tup [a,c,I 0]) h) (clQ C h F.dE [d,c] λa h=>e2Q a λa c=>clQ C h F.aR [a] λa h=>clQ C h F.aR [c] λc h=>q (.tup [a,c,I 0]) h))))
def qA:Ann:=(Fj (nCQ (nRQ [.inl 0,.inl 1])))
attribute [local irreducible] bnd gd cal cnd ext cY uv stD alV alD fj jn lp exK mkS apV cai uX in
theorem B4(C:CC)(t0:V)(t1:V)(q:kkQ):fnD Y C Tryz.f104 2 qA [t0,t1] q=dW C t0 t1 q:=TW
theorem BY:okB Tryz.prog Tryz.f104 qA=true:=aJ
theorem BZ(h:dW (CX Y) t0 t1 (out v)):CP Y F.dW [t0,t1] v:=
 CP.of (fn:=Tryz.f104) (m:=2) (a:=qA) rfl (λ_=>rfl) Tryz.func104 BY (by rw[B4];exact h)
def pY(C:CC):aP:=λl h q=>bSQ .neq (ge l 1) (.d (.str [48])) λa=>cnd a (clQ C h F.dW [ge l 0,ge l 1] λa h=>e3Q a λa c d=>nzQ d (q .ret [(.d (.str []))] h) (q .normal [ge l 1,c] h)) (q (.exit 0) [ge l 0] h)
def nL(C:CC)(a c:V)(q:kQ):Prop:=let h:Hp:=[]
 lp (pY C) [] h [a,c] h (exK [((.exit 0),λa h=>q (ge a 0) h),(.ret,λa h=>q (ge a 0) h)])
theorem G2(h:nL (CX Y) t0 t1 (out v)):CP Y F.nL [t0,t1] v:=CPo 0 (aD (nCQ (nCQ (.n (.l [0,1] [] [((.exit 0),[0],[]),(.ret,[4],[])] []) .o .o)))) Tryz.func132 h
def strconv_Itoa(C:CC)(a:V)(q:kQ):Prop:=let h:Hp:=[]
 clQ C h F.k9 [a] q
theorem Es(h:strconv_Itoa (CX Y) t0 (out v)):CP Y F.strconv_Itoa [t0] v:=CPo 0 .o Tryz.func110 h
def k9(C:CC)(a:V)(q:kQ):Prop:=let h:Hp:=[]
 clQ C h F.dw [a,I 10] q
theorem BK(h:k9 (CX Y) t0 (out v)):CP Y F.k9 [t0] v:=CPo 0 .o Tryz.func153 h
def dw(C:CC)(a c:V)(q:kQ):Prop:=let h:Hp:=.replicate 2 nnQ
 cIQ .eql c (I 10) (bIQ .leq (I 0) a λc=>gqQ c true h a λd h=>gbQ c true h (biI .lss d (I 100)) λd h=>bpQ c d (B false) λc=>cnd c (clQ C h F.iC [a] q) (alD 0 1 (List.replicate 24 (.int .u8 0)) h λc h=>bnd (cvI .u64 a) λd=>bIQ .lss a (I 0) λe=>jn (λd h=>clQ C h F.du [ge d 0] λe h=>bIQ .add (I 1) e λf=>bnd (slP 24 1 h c (some (I 1)) (some f)) λf=>ciQ C h F.bN [f,ge d 0] 1 λd h=>cIQ .lss a (I 0) (bnd (ixP 24 1 c (I 0)) λa=>stD h 1 a (.d (.int .u8 45)) λ_ h=>bIQ .add (I 1) e λa=>bnd (slP 24 1 h c none (some a)) λa=>bnd (cvT h a) λa=>q a h) (bIQ .add (I 1) e λa=>bnd (slP 24 1 h c (some (I 1)) (some a)) λa=>bnd (cvT h a) λa=>q a h)) λa=>cnd e (bnd (unV .neg d) λc=>a [c] h) (a [d] h))) (bnd (cvI .u64 a) λd=>bIQ .lss a (I 0) λa=>clQ C h F.qQ [nSQ,d,c,a,B false] λa h=>e2Q a λa c=>q c h)
theorem vY(h:dw (CX Y) t0 t1 (out v)):CP Y F.dw [t0,t1] v:=CPo 2 (aD (nCQ (aD (nCQ (aD (nBQ (nRQ [.slot 0]) (aD (nBQ (aD (nJQ [6] [0,5])) (aD (nCQ (nRQ [.inl 1]))))))))))) Tryz.func182 h
def iC(C:CC)(a:V)(q:kQ):Prop:=let h:Hp:=[]
 cIQ .lss a (I 10) (bIQ .add a (I 1) λc=>bnd (slS (.d (.str [48,49,50,51,52,53,54,55,56,57,97,98,99,100,101,102,103,104,105,106,107,108,109,110,111,112,113,114,115,116,117,118,119,120,121,122])) (some a) (some c)) λa=>q a h) (bIQ .mul a (I 2) λc=>bIQ .mul a (I 2) λa=>bIQ .add a (I 2) λa=>bnd (slS (.d (.str [48,48,48,49,48,50,48,51,48,52,48,53,48,54,48,55,48,56,48,57,49,48,49,49,49,50,49,51,49,52,49,53,49,54,49,55,49,56,49,57,50,48,50,49,50,50,50,51,50,52,50,53,50,54,50,55,50,56,50,57,51,48,51,49,51,50,51,51,51,52,51,53,51,54,51,55,51,56,51,57,52,48,52,49,52,50,52,51,52,52,52,53,52,54,52,55,52,56,52,57,53,48,53,49,53,50,53,51,53,52,53,53,53,54,53,55,53,56,53,57,54,48,54,49,54,50,54,51,54,52,54,53,54,54,54,55,54,56,54,57,55,48,55,49,55,50,55,51,55,52,55,53,55,54,55,55,55,56,55,57,56,48,56,49,56,50,56,51,56,52,56,53,56,54,56,55,56,56,56,57,57,48,57,49,57,50,57,51,57,52,57,53,57,54,57,55,57,56,57,57])) (some c) (some a)) λa=>q a h)
theorem Ab(h:iC (CX Y) t0 (out v)):CP Y F.iC [t0] v:=CPo 0 .o Tryz.func202 h
def du(C:CC)(a:V)(q:kQ):Prop:=let h:Hp:=[]
 clQ C h F.iB [a] λc h=>clQ C h F.fX [c] λc h=>bnd (ixP 20 1 (gl oI) c) λd=>b1Q h d λd=>bIQ .geq a d λa=>clQ C h F.fY [a] λa h=>bIQ .add c a λa=>q a h
theorem vV(h:du (CX Y) t0 (out v)):CP Y F.du [t0] v:=CPo 0 .o Tryz.func203 h
def eC(C:CC)(b:Nat)(a:V):aP:=λl h q=>cIQ .geq (ge l 1) (I 8) (bIQ .rem (ge l 0) (.d (.int .u64 100000000)) λc=>bnd (cvI .u32 c) λc=>bIQ .quo (ge l 0) (.d (.int .u64 100000000)) λd=>bIQ .quo c (.d (.int .u32 10000)) λe=>bIQ .rem c (.d (.int .u32 10000)) λc=>bIQ .quo c (.d (.int .u32 100)) λf=>bIQ .mul f (.d (.int .u32 2)) λf=>bIQ .rem c (.d (.int .u32 100)) λc=>bIQ .mul c (.d (.int .u32 2)) λc=>bIQ .quo e (.d (.int .u32 100)) λg=>bIQ .mul g (.d (.int .u32 2)) λg=>bIQ .rem e (.d (.int .u32 100)) λe=>bIQ .mul e (.d (.int .u32 2)) λe=>bIQ .sub (ge l 1) (I 1) λi=>bIQ .sub (ge l 1) (I 2) λj=>bIQ .add c (.d (.int .u32 1)) λk=>bnd (ixS (.d (.str [48,48,48,49,48,50,48,51,48,52,48,53,48,54,48,55,48,56,48,57,49,48,49,49,49,50,49,51,49,52,49,53,49,54,49,55,49,56,49,57,50,48,50,49,50,50,50,51,50,52,50,53,50,54,50,55,50,56,50,57,51,48,51,49,51,50,51,51,51,52,51,53,51,54,51,55,51,56,51,57,52,48,52,49,52,50,52,51,52,52,52,53,52,54,52,55,52,56,52,57,53,48,53,49,53,50,53,51,53,52,53,53,53,54,53,55,53,56,53,57,54,48,54,49,54,50,54,51,54,52,54,53,54,54,54,55,54,56,54,57,55,48,55,49,55,50,55,51,55,52,55,53,55,54,55,55,55,56,55,57,56,48,56,49,56,50,56,51,56,52,56,53,56,54,56,55,56,56,56,57,57,48,57,49,57,50,57,51,57,52,57,53,57,54,57,55,57,56,57,57])) k) λk=>bnd (ixS (.d (.str [48,48,48,49,48,50,48,51,48,52,48,53,48,54,48,55,48,56,48,57,49,48,49,49,49,50,49,51,49,52,49,53,49,54,49,55,49,56,49,57,50,48,50,49,50,50,50,51,50,52,50,53,50,54,50,55,50,56,50,57,51,48,51,49,51,50,51,51,51,52,51,53,51,54,51,55,51,56,51,57,52,48,52,49,52,50,52,51,52,52,52,53,52,54,52,55,52,56,52,57,53,48,53,49,53,50,53,51,53,52,53,53,53,54,53,55,53,56,53,57,54,48,54,49,54,50,54,51,54,52,54,53,54,54,54,55,54,56,54,57,55,48,55,49,55,50,55,51,55,52,55,53,55,54,55,55,55,56,55,57,56,48,56,49,56,50,56,51,56,52,56,53,56,54,56,55,56,56,56,57,57,48,57,49,57,50,57,51,57,52,57,53,57,54,57,55,57,56,57,57])) c) λc=>bxQ h 1 a i λi=>stD h 1 i k λ_ h=>bxQ h 1 a j λi=>stD h 1 i c λ_ h=>bIQ .sub (ge l 1) (I 3) λc=>bIQ .sub (ge l 1) (I 4) λi=>bIQ .add f (.d (.int .u32 1)) λj=>bnd (ixS (.d (.str [48,48,48,49,48,50,48,51,48,52,48,53,48,54,48,55,48,56,48,57,49,48,49,49,49,50,49,51,49,52,49,53,49,54,49,55,49,56,49,57,50,48,50,49,50,50,50,51,50,52,50,53,50,54,50,55,50,56,50,57,51,48,51,49,51,50,51,51,51,52,51,53,51,54,51,55,51,56,51,57,52,48,52,49,52,50,52,51,52,52,52,53,52,54,52,55,52,56,52,57,53,48,53,49,53,50,53,51,53,52,53,53,53,54,53,55,53,56,53,57,54,48,54,49,54,50,54,51,54,52,54,53,54,54,54,55,54,56,54,57,55,48,55,49,55,50,55,51,55,52,55,53,55,54,55,55,55,56,55,57,56,48,56,49,56,50,56,51,56,52,56,53,56,54,56,55,56,56,56,57,57,48,57,49,57,50,57,51,57,52,57,53,57,54,57,55,57,56,57,57])) j) λj=>bnd (ixS (.d (.str [48,48,48,49,48,50,48,51,48,52,48,53,48,54,48,55,48,56,48,57,49,48,49,49,49,50,49,51,49,52,49,53,49,54,49,55,49,56,49,57,50,48,50,49,50,50,50,51,50,52,50,53,50,54,50,55,50,56,50,57,51,48,51,49,51,50,51,51,51,52,51,53,51,54,51,55,51,56,51,57,52,48,52,49,52,50,52,51,52,52,52,53,52,54,52,55,52,56,52,57,53,48,53,49,53,50,53,51,53,52,53,53,53,54,53,55,53,56,53,57,54,48,54,49,54,50,54,51,54,52,54,53,54,54,54,55,54,56,54,57,55,48,55,49,55,50,55,51,55,52,55,53,55,54,55,55,55,56,55,57,56,48,56,49,56,50,56,51,56,52,56,53,56,54,56,55,56,56,56,57,57,48,57,49,57,50,57,51,57,52,57,53,57,54,57,55,57,56,57,57])) f) λf=>bxQ h 1 a c λc=>stD h 1 c j λ_ h=>bxQ h 1 a i λc=>stD h 1 c f λ_ h=>bIQ .sub (ge l 1) (I 5) λc=>bIQ .sub (ge l 1) (I 6) λf=>bIQ .add e (.d (.int .u32 1)) λi=>bnd (ixS (.d (.str [48,48,48,49,48,50,48,51,48,52,48,53,48,54,48,55,48,56,48,57,49,48,49,49,49,50,49,51,49,52,49,53,49,54,49,55,49,56,49,57,50,48,50,49,50,50,50,51,50,52,50,53,50,54,50,55,50,56,50,57,51,48,51,49,51,50,51,51,51,52,51,53,51,54,51,55,51,56,51,57,52,48,52,49,52,50,52,51,52,52,52,53,52,54,52,55,52,56,52,57,53,48,53,49,53,50,53,51,53,52,53,53,53,54,53,55,53,56,53,57,54,48,54,49,54,50,54,51,54,52,54,53,54,54,54,55,54,56,54,57,55,48,55,49,55,50,55,51,55,52,55,53,55,54,55,55,55,56,55,57,56,48,56,49,56,50,56,51,56,52,56,53,56,54,56,55,56,56,56,57,57,48,57,49,57,50,57,51,57,52,57,53,57,54,57,55,57,56,57,57])) i) λi=>bnd (ixS (.d (.str [48,48,48,49,48,50,48,51,48,52,48,53,48,54,48,55,48,56,48,57,49,48,49,49,49,50,49,51,49,52,49,53,49,54,49,55,49,56,49,57,50,48,50,49,50,50,50,51,50,52,50,53,50,54,50,55,50,56,50,57,51,48,51,49,51,50,51,51,51,52,51,53,51,54,51,55,51,56,51,57,52,48,52,49,52,50,52,51,52,52,52,53,52,54,52,55,52,56,52,57,53,48,53,49,53,50,53,51,53,52,53,53,53,54,53,55,53,56,53,57,54,48,54,49,54,50,54,51,54,52,54,53,54,54,54,55,54,56,54,57,55,48,55,49,55,50,55,51,55,52,55,53,55,54,55,55,55,56,55,57,56,48,56,49,56,50,56,51,56,52,56,53,56,54,56,55,56,56,56,57,57,48,57,49,57,50,57,51,57,52,57,53,57,54,57,55,57,56,57,57])) e) λe=>bxQ h 1 a c λc=>stD h 1 c i λ_ h=>bxQ h 1 a f λc=>stD h 1 c e λ_ h=>bIQ .sub (ge l 1) (I 7) λc=>bIQ .sub (ge l 1) (I 8) λe=>bIQ .add g (.d (.int .u32 1)) λf=>bnd (ixS (.d (.str [48,48,48,49,48,50,48,51,48,52,48,53,48,54,48,55,48,56,48,57,49,48,49,49,49,50,49,51,49,52,49,53,49,54,49,55,49,56,49,57,50,48,50,49,50,50,50,51,50,52,50,53,50,54,50,55,50,56,50,57,51,48,51,49,51,50,51,51,51,52,51,53,51,54,51,55,51,56,51,57,52,48,52,49,52,50,52,51,52,52,52,53,52,54,52,55,52,56,52,57,53,48,53,49,53,50,53,51,53,52,53,53,53,54,53,55,53,56,53,57,54,48,54,49,54,50,54,51,54,52,54,53,54,54,54,55,54,56,54,57,55,48,55,49,55,50,55,51,55,52,55,53,55,54,55,55,55,56,55,57,56,48,56,49,56,50,56,51,56,52,56,53,56,54,56,55,56,56,56,57,57,48,57,49,57,50,57,51,57,52,57,53,57,54,57,55,57,56,57,57])) f) λf=>bnd (ixS (.d (.str [48,48,48,49,48,50,48,51,48,52,48,53,48,54,48,55,48,56,48,57,49,48,49,49,49,50,49,51,49,52,49,53,49,54,49,55,49,56,49,57,50,48,50,49,50,50,50,51,50,52,50,53,50,54,50,55,50,56,50,57,51,48,51,49,51,50,51,51,51,52,51,53,51,54,51,55,51,56,51,57,52,48,52,49,52,50,52,51,52,52,52,53,52,54,52,55,52,56,52,57,53,48,53,49,53,50,53,51,53,52,53,53,53,54,53,55,53,56,53,57,54,48,54,49,54,50,54,51,54,52,54,53,54,54,54,55,54,56,54,57,55,48,55,49,55,50,55,51,55,52,55,53,55,54,55,55,55,56,55,57,56,48,56,49,56,50,56,51,56,52,56,53,56,54,56,55,56,56,56,57,57,48,57,49,57,50,57,51,57,52,57,53,57,54,57,55,57,56,57,57])) g) λg=>bxQ h 1 a c λc=>stD h 1 c f λ_ h=>bxQ h 1 a e λa=>stD h 1 a g λ_ h=>bIQ .sub (ge l 1) (I 8) λa=>q .normal [d,a] h) (q (.exit 0) [ge l 0,ge l 1] h)
def bN(C:CC)(b:Nat)(h:Hp)(a c:V)(q:kQ):Prop:=let h:Hp:=h++List.replicate 0 nnQ
 blQ a λd=>lp (eC C b a) [] h [c,d] h (exK [((.exit 0),λc h=>bnd (cvI .u32 (ge c 0)) λd=>bIQ .geq (ge c 1) (I 4) λe=>jn (λc h=>bIQ .geq (ge c 1) (I 2) λd=>jn (λc h=>bIQ .gtr (ge c 1) (I 0) λd=>jn (λa h=>q (.tup []) h) λe=>cnd d (bIQ .add (.d (.int .u32 48)) (ge c 0) λc=>bnd (cvI .u8 c) λc=>bxQ h 1 a (I 0) λa=>stD h 1 a c λ_ h=>e [] h) (e [] h)) λe=>cnd d (bIQ .rem (ge c 0) (.d (.int .u32 100)) λd=>bIQ .mul d (.d (.int .u32 2)) λd=>bIQ .quo (ge c 0) (.d (.int .u32 100)) λf=>bIQ .sub (ge c 1) (I 1) λg=>bIQ .sub (ge c 1) (I 2) λi=>bIQ .add d (.d (.int .u32 1)) λj=>bnd (ixS (.d (.str [48,48,48,49,48,50,48,51,48,52,48,53,48,54,48,55,48,56,48,57,49,48,49,49,49,50,49,51,49,52,49,53,49,54,49,55,49,56,49,57,50,48,50,49,50,50,50,51,50,52,50,53,50,54,50,55,50,56,50,57,51,48,51,49,51,50,51,51,51,52,51,53,51,54,51,55,51,56,51,57,52,48,52,49,52,50,52,51,52,52,52,53,52,54,52,55,52,56,52,57,53,48,53,49,53,50,53,51,53,52,53,53,53,54,53,55,53,56,53,57,54,48,54,49,54,50,54,51,54,52,54,53,54,54,54,55,54,56,54,57,55,48,55,49,55,50,55,51,55,52,55,53,55,54,55,55,55,56,55,57,56,48,56,49,56,50,56,51,56,52,56,53,56,54,56,55,56,56,56,57,57,48,57,49,57,50,57,51,57,52,57,53,57,54,57,55,57,56,57,57])) j) λj=>bnd (ixS (.d (.str [48,48,48,49,48,50,48,51,48,52,48,53,48,54,48,55,48,56,48,57,49,48,49,49,49,50,49,51,49,52,49,53,49,54,49,55,49,56,49,57,50,48,50,49,50,50,50,51,50,52,50,53,50,54,50,55,50,56,50,57,51,48,51,49,51,50,51,51,51,52,51,53,51,54,51,55,51,56,51,57,52,48,52,49,52,50,52,51,52,52,52,53,52,54,52,55,52,56,52,57,53,48,53,49,53,50,53,51,53,52,53,53,53,54,53,55,53,56,53,57,54,48,54,49,54,50,54,51,54,52,54,53,54,54,54,55,54,56,54,57,55,48,55,49,55,50,55,51,55,52,55,53,55,54,55,55,55,56,55,57,56,48,56,49,56,50,56,51,56,52,56,53,56,54,56,55,56,56,56,57,57,48,57,49,57,50,57,51,57,52,57,53,57,54,57,55,57,56,57,57])) d) λd=>bxQ h 1 a g λg=>stD h 1 g j λ_ h=>bxQ h 1 a i λa=>stD h 1 a d λ_ h=>bIQ .sub (ge c 1) (I 2) λa=>e [f,a] h) (e [ge c 0,ge c 1] h)) λf=>cnd e (bIQ .rem d (.d (.int .u32 10000)) λe=>bIQ .quo d (.d (.int .u32 10000)) λd=>bIQ .quo e (.d (.int .u32 100)) λg=>bIQ .mul g (.d (.int .u32 2)) λg=>bIQ .rem e (.d (.int .u32 100)) λe=>bIQ .mul e (.d (.int .u32 2)) λe=>bIQ .sub (ge c 1) (I 1) λi=>bIQ .sub (ge c 1) (I 2) λj=>bIQ .add e (.d (.int .u32 1)) λk=>bnd (ixS (.d (.str [48,48,48,49,48,50,48,51,48,52,48,53,48,54,48,55,48,56,48,57,49,48,49,49,49,50,49,51,49,52,49,53,49,54,49,55,49,56,49,57,50,48,50,49,50,50,50,51,50,52,50,53,50,54,50,55,50,56,50,57,51,48,51,49,51,50,51,51,51,52,51,53,51,54,51,55,51,56,51,57,52,48,52,49,52,50,52,51,52,52,52,53,52,54,52,55,52,56,52,57,53,48,53,49,53,50,53,51,53,52,53,53,53,54,53,55,53,56,53,57,54,48,54,49,54,50,54,51,54,52,54,53,54,54,54,55,54,56,54,57,55,48,55,49,55,50,55,51,55,52,55,53,55,54,55,55,55,56,55,57,56,48,56,49,56,50,56,51,56,52,56,53,56,54,56,55,56,56,56,57,57,48,57,49,57,50,57,51,57,52,57,53,57,54,57,55,57,56,57,57])) k) λk=>bnd (ixS (.d (.str [48,48,48,49,48,50,48,51,48,52,48,53,48,54,48,55,48,56,48,57,49,48,49,49,49,50,49,51,49,52,49,53,49,54,49,55,49,56,49,57,50,48,50,49,50,50,50,51,50,52,50,53,50,54,50,55,50,56,50,57,51,48,51,49,51,50,51,51,51,52,51,53,51,54,51,55,51,56,51,57,52,48,52,49,52,50,52,51,52,52,52,53,52,54,52,55,52,56,52,57,53,48,53,49,53,50,53,51,53,52,53,53,53,54,53,55,53,56,53,57,54,48,54,49,54,50,54,51,54,52,54,53,54,54,54,55,54,56,54,57,55,48,55,49,55,50,55,51,55,52,55,53,55,54,55,55,55,56,55,57,56,48,56,49,56,50,56,51,56,52,56,53,56,54,56,55,56,56,56,57,57,48,57,49,57,50,57,51,57,52,57,53,57,54,57,55,57,56,57,57])) e) λe=>bxQ h 1 a i λi=>stD h 1 i k λ_ h=>bxQ h 1 a j λi=>stD h 1 i e λ_ h=>bIQ .sub (ge c 1) (I 3) λe=>bIQ .sub (ge c 1) (I 4) λi=>bIQ .add g (.d (.int .u32 1)) λj=>bnd (ixS (.d (.str [48,48,48,49,48,50,48,51,48,52,48,53,48,54,48,55,48,56,48,57,49,48,49,49,49,50,49,51,49,52,49,53,49,54,49,55,49,56,49,57,50,48,50,49,50,50,50,51,50,52,50,53,50,54,50,55,50,56,50,57,51,48,51,49,51,50,51,51,51,52,51,53,51,54,51,55,51,56,51,57,52,48,52,49,52,50,52,51,52,52,52,53,52,54,52,55,52,56,52,57,53,48,53,49,53,50,53,51,53,52,53,53,53,54,53,55,53,56,53,57,54,48,54,49,54,50,54,51,54,52,54,53,54,54,54,55,54,56,54,57,55,48,55,49,55,50,55,51,55,52,55,53,55,54,55,55,55,56,55,57,56,48,56,49,56,50,56,51,56,52,56,53,56,54,56,55,56,56,56,57,57,48,57,49,57,50,57,51,57,52,57,53,57,54,57,55,57,56,57,57])) j) λj=>bnd (ixS (.d (.str [48,48,48,49,48,50,48,51,48,52,48,53,48,54,48,55,48,56,48,57,49,48,49,49,49,50,49,51,49,52,49,53,49,54,49,55,49,56,49,57,50,48,50,49,50,50,50,51,50,52,50,53,50,54,50,55,50,56,50,57,51,48,51,49,51,50,51,51,51,52,51,53,51,54,51,55,51,56,51,57,52,48,52,49,52,50,52,51,52,52,52,53,52,54,52,55,52,56,52,57,53,48,53,49,53,50,53,51,53,52,53,53,53,54,53,55,53,56,53,57,54,48,54,49,54,50,54,51,54,52,54,53,54,54,54,55,54,56,54,57,55,48,55,49,55,50,55,51,55,52,55,53,55,54,55,55,55,56,55,57,56,48,56,49,56,50,56,51,56,52,56,53,56,54,56,55,56,56,56,57,57,48,57,49,57,50,57,51,57,52,57,53,57,54,57,55,57,56,57,57])) g) λg=>bxQ h 1 a e λe=>stD h 1 e j λ_ h=>bxQ h 1 a i λa=>stD h 1 a g λ_ h=>bIQ .sub (ge c 1) (I 4) λa=>f [d,a] h) (f [d,ge c 1] h))])
def kv(b:Nat):Ann:=(.n .x .o (.n .x (.n .x (.n (.l [1,4] [0] [((.exit 0),[1,4],[0])] []) .o .o) .o) (.n .x .o (.n .x (.n .x .o (.n (.j [12,4] [0]) .o .o)) (.n .x (.n .x .o (.n (.j [12,4] [0]) .o .o)) (.n .x .o (.n (.j [] []) .o .o)))))))
theorem tP(C:CC)(h:Hp)(t0:V)(t1:V)(q:kkQ):fnI Y C Tryz.f204 0 kv [t0,t1] h q=bN C h.length h t0 t1 q:=by rfl
theorem tN(b:Nat):okB Tryz.prog Tryz.f204 (kv b)=true:=by rfl
theorem tO(hh:bN (CX Y) h.length h t0 t1 (mN h.length v h2)):CI Y F.bN [t0,t1] h v h2:=
 CI.of (fn:=Tryz.f204) (m:=0) (a:=kv) rfl (λ_=>rfl) Tryz.func204 (tN _) (by rw[tP];exact hh)
def fX(C:CC)(a:V)(q:kQ):Prop:=let h:Hp:=[]
 bIQ .mul a (I 78913) λa=>bIQ .shr a (.d (.int .u64 18)) λa=>q a h
theorem vW(h:fX (CX Y) t0 (out v)):CP Y F.fX [t0] v:=CPo 0 .o Tryz.func209 h
def fY(C:CC)(a:V)(q:kQ):Prop:=let h:Hp:=[]
 cnd a (q (I 1) h) (q (I 0) h)
theorem vX(h:fY (CX Y) t0 (out v)):CP Y F.fY [t0] v:=CPo 0 .o Tryz.func210 h
def iB(C:CC)(a:V)(q:kQ):Prop:=let h:Hp:=[]
 bIQ .geq a (.d (.int .u64 4294967296)) λc=>jn (λa h=>bIQ .geq (ge a 0) (.d (.int .u64 65536)) λc=>jn (λa h=>bIQ .geq (ge a 0) (.d (.int .u64 256)) λc=>jn (λa h=>bnd (cvI .u8 (ge a 0)) λc=>bnd (ixS (.d (.str [0,1,2,2,3,3,3,3,4,4,4,4,4,4,4,4,5,5,5,5,5,5,5,5,5,5,5,5,5,5,5,5,6,6,6,6,6,6,6,6,6,6,6,6,6,6,6,6,6,6,6,6,6,6,6,6,6,6,6,6,6,6,6,6,7,7,7,7,7,7,7,7,7,7,7,7,7,7,7,7,7,7,7,7,7,7,7,7,7,7,7,7,7,7,7,7,7,7,7,7,7,7,7,7,7,7,7,7,7,7,7,7,7,7,7,7,7,7,7,7,7,7,7,7,7,7,7,7,8,8,8,8,8,8,8,8,8,8,8,8,8,8,8,8,8,8,8,8,8,8,8,8,8,8,8,8,8,8,8,8,8,8,8,8,8,8,8,8,8,8,8,8,8,8,8,8,8,8,8,8,8,8,8,8,8,8,8,8,8,8,8,8,8,8,8,8,8,8,8,8,8,8,8,8,8,8,8,8,8,8,8,8,8,8,8,8,8,8,8,8,8,8,8,8,8,8,8,8,8,8,8,8,8,8,8,8,8,8,8,8,8,8,8,8,8,8,8,8,8,8,8,8,8,8,8,8])) c) λc=>bnd (cvI .i64 c) λc=>bIQ .add (ge a 1) c λa=>q a h) λd=>cnd c (bIQ .shr (ge a 0) (.d (.int .u64 8)) λc=>bIQ .add (ge a 1) (I 8) λa=>d [c,a] h) (d [ge a 0,ge a 1] h)) λd=>cnd c (bIQ .shr (ge a 0) (.d (.int .u64 16)) λc=>bIQ .add (ge a 1) (I 16) λa=>d [c,a] h) (d [ge a 0,ge a 1] h)) λd=>cnd c (bIQ .shr a (.d (.int .u64 32)) λa=>d [a,I 32] h) (d [a,I 0] h)
theorem zL(h:iB (CX Y) t0 (out v)):CP Y F.iB [t0] v:=CPo 0 (aD (nBQ (aD (nJQ [0,2] [])) (nBQ (aD (nJQ [0,2] [])) (nCQ (aD (nJQ [0,2] [])))))) Tryz.func200 h
def mE(C:CC)(a c:V)(q:kQ):Prop:=let h:Hp:=[]
 cnd (B false) (bnd (cvI .u32 a) λa=>bnd (cvI .u32 c) λc=>clQ C h F.CS [a,c] λa h=>e2Q a λa c=>bnd (cvI .u64 a) λa=>bnd (cvI .u64 c) λc=>q (.tup [a,c]) h) (clQ C h F.dd [a,c] λa h=>e2Q a λa c=>q (.tup [a,c]) h)
theorem CR(h:mE (CX Y) t0 t1 (out v)):CP Y F.mE [t0,t1] v:=CPo 0 .o Tryz.func142 h
def dd(C:CC)(a c:V)(q:kkQ):Prop:=let h:Hp:=List.replicate 0 nnQ
 bnd (biI .and a (.d (.int .u64 4294967295))) λd=>bnd (biI .shr a (.d (.int .u64 32))) λe=>bnd (biI .and c (.d (.int .u64 4294967295))) λf=>bnd (biI .shr c (.d (.int .u64 32))) λg=>bnd (biI .mul d f) λi=>bnd (biI .mul e f) λf=>bnd (biI .shr i (.d (.int .u64 32))) λi=>bnd (biI .add f i) λf=>bnd (biI .and f (.d (.int .u64 4294967295))) λi=>bnd (biI .shr f (.d (.int .u64 32))) λf=>bnd (biI .mul d g) λd=>bnd (biI .add i d) λd=>bnd (biI .mul e g) λe=>bnd (biI .add e f) λe=>bnd (biI .shr d (.d (.int .u64 32))) λd=>bnd (biI .add e d) λd=>bnd (biI .mul a c) λa=>q (.tup [d,a]) h
theorem tz(h:dd (CX Y) t0 t1 (out v)):CP Y F.dd [t0,t1] v:=CPo 0 .o Tryz.func178 h
def strconv_Atoi(C:CC)(a:V)(q:kQ):Prop:=let h:Hp:=[]
 clQ C h F.gX [a] λc h=>e2Q c λc d=>bnd (biF .neq d (.d (.pl .nilIface))) λe=>cnd e (clQ C h F.CK [(.d (.str [65,116,111,105])),a,I 0,I 0,d] λa h=>q (.tup [c,a]) h) (q (.tup [c,(.d (.pl .nilIface))]) h)
theorem wH(h:strconv_Atoi (CX Y) t0 (out v)):CP Y F.strconv_Atoi [t0] v:=CPo 0 .o Tryz.func133 h
def m8(C:CC)(a c:V):aP:=λl h q=>cIQ .lss (ge l 1) c (bxQ h 1 a (ge l 1) λa=>b1Q h a λa=>bIQ .sub a (.d (.int .u8 48)) λa=>cIQ .gtr a (.d (.int .u8 9)) (False /- makeInterface -/) (bIQ .mul (ge l 0) (I 10) λc=>bnd (cvI .i64 a) λa=>bIQ .add c a λa=>bIQ .add (ge l 1) (I 1) λc=>q .normal [a,c] h)) (q (.exit 0) [ge l 0] h)
def gX(C:CC)(a:V)(q:kQ):Prop:=let h:Hp:=[]
 bnd (o7 a) λc=>gd (B false) true h (λq=>q c h) λd h=>gd (B false) true h (λq=>bIQ .lss (I 0) d λv=>q v h) λd h=>gd (B false) true h (λq=>q d h) λd h=>gqQ d true h c λe h=>gbQ d true h (biI .lss e (I 10)) λe h=>gd (B false) true h (λq=>bpQ d e (B false) λv=>q v h) λd h=>bpQ (B false) d (B false) λd=>gqQ d false h (B true) λe h=>gqQ e true h c λf h=>gbQ e true h (biI .lss (I 0) f) λf h=>gqQ e true h f λf h=>gqQ f true h c λc h=>gbQ f true h (biI .lss c (I 19)) λc h=>gbQ e true h (nF f c (B false)) λc h=>gbQ d false h (nF e c (B false)) λc h=>bpQ d (B true) c λc=>cnd c (bnd (ixS a (I 0)) λc=>bIQ .eql c (.d (.int .u8 45)) λc=>gqQ c false h a λd h=>gbQ c false h (ixS d (I 0)) λd h=>gbQ c false h (biI .eql d (.d (.int .u8 43))) λd h=>bpQ c (B true) d λc=>jn (λc h=>cvB (ge c 0) h λc h=>blQ c λd=>lp (m8 C c d) [] h [I 0,I 0] h (exK [((.exit 0),λc h=>bnd (ixS a (I 0)) λa=>bIQ .eql a (.d (.int .u8 45)) λa=>jn (λa h=>q (.tup [ge a 0,(.d (.pl .nilIface))]) h) λd=>cnd a (bnd (unV .neg (ge c 0)) λa=>d [a] h) (d [ge c 0] h)),(.ret,λa h=>q (.tup [ge a 0,ge a 1]) h)])) λd=>cnd c (bnd (slS a (some (I 1)) none) λa=>bnd (o7 a) λc=>cIQ .lss c (I 1) (False /- makeInterface -/) (d [a] h)) (d [a] h)) (clQ C h F.yP [a,I 10,I 0] λa h=>e2Q a λa c=>q (.tup [a,c]) h)
theorem uw(h:gX (CX Y) t0 (out v)):CP Y F.gX [t0] v:=CPo 0 (d7 (nCQ (aD (nCQ (aD (nBQ (aD (nJQ [0] [5])) (aD (nBQ (aD (nCQ (.n (.l [6,49] [5,47,48] [((.exit 0),[6],[5]),(.ret,[2,3],[])] []) .o .o))) (nCQ (aD (nJQ [6] []))))))))))) Tryz.func169 h
def fD(C:CC)(a c:V):aP:=λl h q=>cIQ .lss (ge l 0) c (bxQ h 1 a (ge l 0) λa=>b1Q h a λa=>bIQ .lss a (.d (.int .u8 48)) λc=>gqQ c false h a λa h=>gbQ c false h (biI .gtr a (.d (.int .u8 57))) λa h=>bpQ c (B true) a λa=>cnd a (q .ret [B false] h) (bIQ .add (ge l 0) (I 1) λa=>q .normal [a] h)) (q (.exit 0) [] h)
def iu(C:CC)(a:V)(q:kQ):Prop:=let h:Hp:=[]
 cvB a h λc h=>blQ c λd=>lp (fD C c d) [] h [I 0] h (exK [((.exit 0),λc h=>bnd (o7 a) λc=>bIQ .eql c (I 1) λc=>gqQ c false h a λd h=>gbQ c false h (o7 d) λd h=>gbQ c false h (biI .gtr d (I 1)) λd h=>gqQ c false h d λd h=>gqQ d true h a λa h=>gbQ d true h (ixS a (I 0)) λa h=>gbQ d true h (biI .neq a (.d (.int .u8 48))) λa h=>gbQ c false h (nF d a (B false)) λa h=>bpQ c (B true) a λa=>q a h),(.ret,λa h=>q (ge a 0) h)])
theorem x8(h:iu (CX Y) t0 (out v)):CP Y F.iu [t0] v:=CPo 0 (aD (nCQ (aD (nCQ (.n (.l [8] [0,6,7] [((.exit 0),[],[0]),(.ret,[2],[])] []) .o .o))))) Tryz.func195 h
def kC(C:CC)(a:V)(q:kQ):Prop:=let h:Hp:=[]
 clQ C h F.iu [a] λc h=>bnd (unV .not c) λc=>gqQ c false h a λa h=>gbQ c false h (o7 a) λa h=>gbQ c false h (biI .gtr a (I 400)) λa h=>bpQ c (B true) a λa=>cnd a (q (I 2) h) (q (I 0) h)
theorem Dg(h:kC (CX Y) t0 (out v)):CP Y F.kC [t0] v:=CPo 0 .o Tryz.func173 h
def bO(C:CC)(b:Nat):aP:=λl h q=>blQ (ge l 0) λa=>bIQ .gtr a (I 0) λa=>gqQ a true h (ge l 0) λc h=>gqQ a true h (ge l 0) λd h=>gbQ a true h (aQ d) λd h=>gbQ a true h (biI .sub d (I 1)) λd h=>gbQ a true h (ixV h 1 c d) λc h=>gbQ a true h (ld1 h c) λc h=>gbQ a true h (biI .eql c (.d (.int .u64 0))) λc h=>bpQ a c (B false) λa=>cnd a (blQ (ge l 0) λa=>bIQ .sub a (I 1) λa=>bnd (slV h 1 (ge l 0) none (some a)) λa=>q .normal [a] h) (q (.exit 0) [ge l 0] h)
def az(C:CC)(b:Nat)(h:Hp)(a:V)(q:kQ):Prop:=let h:Hp:=h++List.replicate 0 nnQ
 lp (bO C b) [] h [a] h (exK [((.exit 0),λa h=>q (ge a 0) h)])
def mR(b:Nat):Ann:=(.n .x .o (.n .x (.n .x (.n (.l [0] [] [((.exit 0),[0],[])] []) .o .o) .o) .o))
theorem wd(C:CC)(h:Hp)(t0:V)(q:kkQ):fnI Y C Tryz.f147 0 mR [t0] h q=az C h.length h t0 q:=by rfl
theorem vZ(b:Nat):okB Tryz.prog Tryz.f147 (mR b)=true:=by rfl
theorem qb(hh:az (CX Y) h.length h t0 (mN h.length v h2)):CI Y F.az [t0] h v h2:=
 CI.of (fn:=Tryz.f147) (m:=0) (a:=mR) rfl (λ_=>rfl) Tryz.func147 (vZ _) (by rw[wd];exact hh)
def pW(C:CC)(b:Nat)(a c:V):aP:=λl h q=>cIQ .lss (ge l 1) c (bxQ h 1 a (ge l 1) λa=>b1Q h a λa=>bIQ .mul (.d (.int .u64 10)) (ge l 0) λc=>bIQ .sub a (.d (.int .u8 48)) λa=>bnd (cvI .u64 a) λa=>bIQ .add c a λa=>bIQ .add (ge l 1) (I 1) λc=>q .normal [a,c] h) (q (.exit 2) [ge l 0] h)
def pX(C:CC)(b:Nat)(a:V):aP:=λl h q=>cIQ .gtr (ge l 1) (I 0) (bIQ .sub (ge l 1) (I 9) λc=>bnd (mxI true [I 0,c]) λc=>bnd (slS a (some c) (some (ge l 1))) λa=>cvB a h λa h=>blQ a λc=>lp (pW C b a c) [] h [(.d (.int .u64 0)),I 0] h (exK [((.exit 2),λa h=>cY 1 [.int .u64 0] [(0,(ge a 0))] h λa h=>apV false (b+1) 1 8 (ge l 0) a h λa h=>bIQ .sub (ge l 1) (I 9) λc=>q .normal [a,c] h)])) (q (.exit 0) [ge l 0] h)
def dV(C:CC)(b:Nat)(h:Hp)(a:V)(q:kQ):Prop:=let h:Hp:=h++List.replicate 3 nnQ
 bnd (o7 a) λc=>bIQ .quo c (I 9) λc=>bIQ .add c (I 1) λc=>mkS (b+0) 8 [.int .u64 0] h (I 0) c λc h=>bnd (o7 a) λd=>lp (pX C b a) [] h [c,d] h (exK [((.exit 0),λa h=>ciQ C h F.az [ge a 0] (b+2) q)])
def tS(b:Nat):Ann:=(.n .x .o (.n .x (.n (.r [.slot (b+0)]) .o .o) (.n .x (.n .x .o (.n .x (.n (.l [3,4] [0] [((.exit 0),[3],[])] []) (.n .x .o (.n .x (.n .x (.n .x .o (.n .x (.n .x .o (.n .x (.n (.l [5,27] [0,3,4,25,26] [((.exit 2),[5],[0,3,4])] []) .o .o) .o)) (.n (.r [.o,.slot (b+1)]) .o .o))) .o) .o)) .o) .o)) (.n .x (.n (.r [.inl (b+2)]) .o .o) .o))))
theorem GW(C:CC)(h:Hp)(t0:V)(q:kkQ):fnI Y C Tryz.f136 3 tS [t0] h q=dV C h.length h t0 q:=by rfl
theorem GU(b:Nat):okB Tryz.prog Tryz.f136 (tS b)=true:=by rfl
theorem GV(hh:dV (CX Y) h.length h t0 (mN h.length v h2)):CI Y F.dV [t0] h v h2:=
 CI.of (fn:=Tryz.f136) (m:=3) (a:=tS) rfl (λ_=>rfl) Tryz.func136 (GU _) (by rw[GW];exact hh)
def dG(C:CC)(b:Nat)(a:V):aP:=λl h q=>cIQ .lss (ge l 0) (ge l 1) (bxQ h 1 a (ge l 1) λc=>b1Q h c λc=>bxQ h 1 a (ge l 0) λd=>b1Q h d λd=>bxQ h 1 a (ge l 0) λe=>stD h 1 e c λ_ h=>bxQ h 1 a (ge l 1) λa=>stD h 1 a d λ_ h=>bIQ .add (ge l 0) (I 1) λa=>bIQ .sub (ge l 1) (I 1) λc=>q .normal [a,c] h) (q (.exit 0) [] h)
def bS(C:CC)(b:Nat)(h:Hp)(a:V)(q:kQ):Prop:=let h:Hp:=h++List.replicate 0 nnQ
 blQ a λc=>bIQ .sub c (I 1) λc=>lp (dG C b a) [] h [I 0,c] h (exK [((.exit 0),λa h=>q (.tup []) h)])
def jm(b:Nat):Ann:=(.n .x .o (.n .x (.n (.l [2,3] [0] [((.exit 0),[],[])] []) .o .o) .o))
theorem sH(C:CC)(h:Hp)(t0:V)(q:kkQ):fnI Y C Tryz.f172 0 jm [t0] h q=bS C h.length h t0 q:=by kernel_rfl
theorem sE(b:Nat):okB Tryz.prog Tryz.f172 (jm b)=true:=of_decide_eq_true ag
theorem sF(hh:bS (CX Y) h.length h t0 (mN h.length v h2)):CI Y F.bS [t0] h v h2:=
 CI.of (fn:=Tryz.f172) (m:=0) (a:=jm) rfl (λ_=>rfl) Tryz.func172 (sE _) (by rw[sH];exact hh)
def cW(C:CC)(a c:V):aP:=λl h q=>bIQ .lss (ge l 2) (I 9) λd=>gqQ d true h c λc h=>gbQ d true h (biI .add c (I 1)) λc h=>gqQ d true h a λa h=>gbQ d true h (aQ a) λa h=>gbQ d true h (biI .lss c a) λa h=>gqQ d true h a λa h=>gqQ a false h (ge l 1) λc h=>gbQ a false h (biI .gtr c (.d (.int .u64 0))) λc h=>gbQ d true h (nF a (B true) c) λa h=>bpQ d a (B false) λa=>cnd a (bIQ .rem (ge l 1) (.d (.int .u64 10)) λa=>bIQ .add (.d (.int .u64 48)) a λa=>bnd (cvI .u8 a) λa=>cY 1 [.int .u8 0] [(0,a)] h λa h=>apV false 1 1 1 (ge l 0) a h λa h=>bIQ .quo (ge l 1) (.d (.int .u64 10)) λc=>bIQ .add (ge l 2) (I 1) λd=>q .normal [a,c,d] h) (q (.exit 2) [ge l 0] h)
def iU(C:CC)(a c d:V):aP:=λl h q=>cIQ .lss (ge l 1) d (bxQ h 1 c (ge l 1) λc=>b1Q h c λc=>lp (cW C a (ge l 1)) [] h [ge l 0,c,I 0] h (exK [((.exit 2),λa h=>bIQ .add (ge l 1) (I 1) λc=>q .normal [ge a 0,c] h)])) (q (.exit 0) [ge l 0] h)
def aR(C:CC)(a:V)(q:kQ):Prop:=let h:Hp:=.replicate 3 nnQ
 blQ a λc=>cIQ .eql c (I 0) (q (.d (.str [48])) h) (blQ a λc=>bIQ .mul (I 9) c λc=>mkS 0 1 [.int .u8 0] h (I 0) c λc h=>blQ a λd=>lp (iU C a a d) [] h [c,I 0] h (exK [((.exit 0),λa h=>ciQ C h F.bS [ge a 0] 2 λc h=>bnd (cvT h (ge a 0)) λa=>q a h)]))
theorem we(h:aR (CX Y) t0 (out v)):CP Y F.aR [t0] v:=CPo 3 (d7 (nBQ (nRQ [.slot 0]) (nBQ (aD (nCQ (.n (.l [3,16] [0,14,15] [((.exit 0),[3],[])] []) (d7 (nCQ (nCQ (d7 (nCQ (.n (.l [3,5,6] [0,4,14,15,16] [((.exit 2),[3],[0,14,15,16])] []) (aD (nCQ (nCQ (nCQ (nRQ [.o,.slot 1]))))) .o)))))) .o))) (nCQ (nRQ [.inl 2]))))) Tryz.func138 h
def cV(C:CC)(a c:V):aP:=λl h q=>cIQ .geq (ge l 0) (I 0) (bxQ h 1 a (ge l 0) λd=>b1Q h d λd=>bxQ h 1 c (ge l 0) λe=>b1Q h e λe=>cIQ .lss d e (q .ret [I (-1)] h) (bxQ h 1 a (ge l 0) λa=>b1Q h a λa=>bxQ h 1 c (ge l 0) λc=>b1Q h c λc=>cIQ .gtr a c (q .ret [I 1] h) (bIQ .sub (ge l 0) (I 1) λa=>q .normal [a] h))) (q (.exit 0) [] h)
def cj(C:CC)(a c:V)(q:kQ):Prop:=let h:Hp:=[]
 blQ a λd=>blQ c λe=>cIQ .neq d e (blQ a λa=>blQ c λc=>bIQ .sub a c λa=>bnd (mxI true [I (-1),a]) λa=>bnd (mxI false [I 1,a]) λa=>q a h) (blQ a λd=>bIQ .sub d (I 1) λd=>lp (cV C a c) [] h [d] h (exK [((.exit 0),λa h=>q (I 0) h),(.ret,λa h=>q (ge a 0) h)]))
theorem tR(h:cj (CX Y) t0 t1 (out v)):CP Y F.cj [t0,t1] v:=CPo 0 (d7 (nCQ (aD (nCQ (.n (.l [5] [0,1] [((.exit 0),[],[]),(.ret,[4],[])] []) .o .o))))) Tryz.func143 h
def ip(C:CC)(b:Nat)(a c d e f:V):aP:=λl h q=>cIQ .lss (ge l 1) f (bxQ h 1 e (ge l 1) λe=>b1Q h e λe=>bIQ .add c (ge l 1) λf=>bxQ h 1 a f λf=>b1Q h f λf=>bIQ .mul d e λd=>bIQ .add f d λd=>bIQ .add (ge l 0) d λd=>bIQ .add c (ge l 1) λc=>bIQ .rem d (.d (.int .u64 1000000000)) λe=>bxQ h 1 a c λa=>stD h 1 a e λ_ h=>bIQ .quo d (.d (.int .u64 1000000000)) λa=>bIQ .add (ge l 1) (I 1) λc=>q .normal [a,c] h) (q (.exit 2) [ge l 0] h)
def iq(C:CC)(b:Nat)(a c d e:V):aP:=λl h q=>cIQ .lss (ge l 0) e (bxQ h 1 d (ge l 0) λd=>b1Q h d λd=>blQ a λe=>lp (ip C b c (ge l 0) d a e) [] h [(.d (.int .u64 0)),I 0] h (exK [((.exit 2),λd h=>blQ a λa=>bIQ .add (ge l 0) a λa=>bxQ h 1 c a λa=>stD h 1 a (ge d 0) λ_ h=>bIQ .add (ge l 0) (I 1) λa=>q .normal [a] h)])) (q (.exit 0) [] h)
def cS(C:CC)(b:Nat)(h:Hp)(a c:V)(q:kQ):Prop:=let h:Hp:=h++List.replicate 2 nnQ
 blQ a λd=>blQ c λe=>bIQ .add d e λd=>mkS (b+0) 8 [.int .u64 0] h d d λd h=>blQ a λe=>lp (iq C b c d a e) [] h [I 0] h (exK [((.exit 0),λa h=>ciQ C h F.az [d] (b+1) q)])
def ma(b:Nat):Ann:=(.n .x .o (.n .x (.n (.r [.slot (b+0)]) .o .o) (.n .x (.n .x .o (.n .x (.n (.l [19] [1,5,17,18] [((.exit 0),[],[5])] []) (.n .x .o (.n .x .o (.n .x (.n .x (.n .x .o (.n .x .o (.n .x (.n .x .o (.n .x (.n (.l [8,26] [1,5,6,7,17,18,19,24,25] [((.exit 2),[8],[1,5,6,17,18,19])] []) .o .o) .o)) .o))) .o) .o))) .o) .o)) (.n .x (.n (.r [.inl (b+1)]) .o .o) .o))))
theorem vv(C:CC)(h:Hp)(t0:V)(t1:V)(q:kkQ):fnI Y C Tryz.f137 2 ma [t0,t1] h q=cS C h.length h t0 t1 q:=by rfl
theorem vt(b:Nat):okB Tryz.prog Tryz.f137 (ma b)=true:=by rfl
theorem vu(hh:cS (CX Y) h.length h t0 t1 (mN h.length v h2)):CI Y F.cS [t0,t1] h v h2:=
 CI.of (fn:=Tryz.f137) (m:=2) (a:=ma) rfl (λ_=>rfl) Tryz.func137 (vt _) (by rw[vv];exact hh)
def b9(C:CC)(b:Nat)(h:Hp)(a c:V)(q:kQ):Prop:=let h:Hp:=h++List.replicate 2 nnQ
 cY 1 [.int .u64 0] [(0,c)] h λc h=>ciQ C h F.az [c] (b+0) λc h=>ciQ C h F.cS [a,c] (b+1) q
def lC(b:Nat):Ann:=(.n .x .o (.n .x (.n (.r [.o,.inl (b+0),.inl (b+1)]) .o .o) .o))
theorem uC(C:CC)(h:Hp)(t0:V)(t1:V)(q:kkQ):fnI Y C Tryz.f179 2 lC [t0,t1] h q=b9 C h.length h t0 t1 q:=by rfl
theorem uA(b:Nat):okB Tryz.prog Tryz.f179 (lC b)=true:=by rfl
theorem uB(hh:b9 (CX Y) h.length h t0 t1 (mN h.length v h2)):CI Y F.b9 [t0,t1] h v h2:=
 CI.of (fn:=Tryz.f179) (m:=2) (a:=lC) rfl (λ_=>rfl) Tryz.func179 (uA _) (by rw[uC];exact hh)
def ir(C:CC)(a c d:V):aP:=λl h q=>cIQ .geq (ge l 1) (I 0) (bIQ .mul (ge l 0) (.d (.int .u64 1000000000)) λe=>bxQ h 1 a (ge l 1) λa=>b1Q h a λa=>bIQ .add e a λa=>bIQ .quo a c λe=>bxQ h 1 d (ge l 1) λd=>stD h 1 d e λ_ h=>bIQ .rem a c λa=>bIQ .sub (ge l 1) (I 1) λc=>q .normal [a,c] h) (q (.exit 0) [ge l 0] h)
def cT(C:CC)(a c:V)(q:kQ):Prop:=let h:Hp:=.replicate 2 nnQ
 blQ a λd=>mkS 0 8 [.int .u64 0] h d d λd h=>blQ a λe=>bIQ .sub e (I 1) λe=>lp (ir C a c d) [] h [(.d (.int .u64 0)),e] h (exK [((.exit 0),λa h=>ciQ C h F.az [d] 1 λc h=>q (.tup [c,ge a 0]) h)])
theorem vw(h:cT (CX Y) t0 t1 (out v)):CP Y F.cT [t0,t1] v:=CPo 2 (aD (nBQ (nRQ [.slot 0]) (aD (nBQ (aD (nCQ (.n (.l [7,8] [0,1,6] [((.exit 0),[7],[6])] []) .o .o))) (nCQ (nRQ [.inl 1])))))) Tryz.func144 h
def fT(C:CC)(b:Nat)(a c d e:V):aP:=λl h q=>blQ c λf=>cIQ .leq (ge l 2) f (blQ c λf=>bIQ .lss (ge l 2) f λf=>jn (λc h=>bIQ .add e (ge l 2) λd=>bxQ h 1 a d λd=>b1Q h d λd=>bnd (cvI .i64 d) λd=>bIQ .rem (ge c 0) (.d (.int .u64 1000000000)) λf=>bnd (cvI .i64 f) λf=>bIQ .sub d f λd=>bIQ .sub d (ge l 1) λd=>bIQ .quo (ge c 0) (.d (.int .u64 1000000000)) λc=>bIQ .lss d (I 0) λf=>jn (λd h=>bIQ .add e (ge l 2) λe=>bnd (cvI .u64 (ge d 0)) λf=>bxQ h 1 a e λa=>stD h 1 a f λ_ h=>bIQ .add (ge l 2) (I 1) λa=>q .normal [c,ge d 1,a] h) λa=>cnd f (bIQ .add d (I 1000000000) λc=>a [c,I 1] h) (a [d,I 0] h)) λa=>cnd f (bxQ h 1 c (ge l 2) λc=>b1Q h c λc=>bIQ .mul d c λc=>bIQ .add (ge l 0) c λc=>a [c] h) (a [ge l 0] h)) (q (.exit 0) [ge l 1] h)
def dy(C:CC)(b:Nat)(h:Hp)(a c d e:V)(q:kQ):Prop:=let h:Hp:=h++List.replicate 0 nnQ
 lp (fT C b a c d e) [] h [(.d (.int .u64 0)),I 0,I 0] h (exK [((.exit 0),λa h=>bIQ .gtr (ge a 0) (I 0) λa=>q a h)])
def mS(b:Nat):Ann:=(.n .x .o (.n .x .o (.n .x .o (.n .x (.n .x .o (.n .x (.n (.l [10,9,11] [0,1,2,3] [((.exit 0),[9],[])] []) (.n .x .o (.n .x (.n .x (.n .x (.n .x .o (.n (.j [10] [0,1,2,3,9,11]) .o .o)) (.n .x .o (.n .x .o (.n .x .o (.n .x (.n .x .o (.n (.j [12,9] [0,1,2,3,10,11]) .o .o)) .o))))) .o) .o)) .o) .o)) .o))))
theorem wi(C:CC)(h:Hp)(t0:V)(t1:V)(t2:V)(t3:V)(q:kkQ):fnI Y C Tryz.f148 0 mS [t0,t1,t2,t3] h q=dy C h.length h t0 t1 t2 t3 q:=by rfl
theorem wg(b:Nat):okB Tryz.prog Tryz.f148 (mS b)=true:=by rfl
theorem wh(hh:dy (CX Y) h.length h t0 t1 t2 t3 (mN h.length v h2)):CI Y F.dy [t0,t1,t2,t3] h v h2:=
 CI.of (fn:=Tryz.f148) (m:=0) (a:=mS) rfl (λ_=>rfl) Tryz.func148 (wg _) (by rw[wi];exact hh)
def iV(C:CC)(b:Nat)(a c d:V):aP:=λl h q=>blQ c λe=>cIQ .leq (ge l 1) e (bIQ .add d (ge l 1) λe=>bxQ h 1 a e λe=>b1Q h e λe=>bIQ .add (ge l 0) e λe=>blQ c λf=>bIQ .lss (ge l 1) f λf=>jn (λc h=>bIQ .add d (ge l 1) λd=>bIQ .rem (ge c 0) (.d (.int .u64 1000000000)) λe=>bxQ h 1 a d λa=>stD h 1 a e λ_ h=>bIQ .quo (ge c 0) (.d (.int .u64 1000000000)) λa=>bIQ .add (ge l 1) (I 1) λc=>q .normal [a,c] h) λa=>cnd f (bxQ h 1 c (ge l 1) λc=>b1Q h c λc=>bIQ .add e c λc=>a [c] h) (a [e] h)) (q (.exit 0) [] h)
def ct(C:CC)(b:Nat)(h:Hp)(a c d:V)(q:kQ):Prop:=let h:Hp:=h++List.replicate 0 nnQ
 lp (iV C b a c d) [] h [(.d (.int .u64 0)),I 0] h (exK [((.exit 0),λa h=>q (.tup []) h)])
def mT(b:Nat):Ann:=(.n .x .o (.n .x .o (.n .x (.n (.l [6,7] [0,1,2] [((.exit 0),[],[])] []) (.n .x .o (.n .x (.n .x (.n .x .o (.n .x (.n .x .o (.n (.j [6] [0,1,2,7]) .o .o)) .o)) .o) .o)) .o) .o)))
theorem wm(C:CC)(h:Hp)(t0:V)(t1:V)(t2:V)(q:kkQ):fnI Y C Tryz.f146 0 mT [t0,t1,t2] h q=ct C h.length h t0 t1 t2 q:=by rfl
theorem wj(b:Nat):okB Tryz.prog Tryz.f146 (mT b)=true:=by rfl
theorem wl(hh:ct (CX Y) h.length h t0 t1 t2 (mN h.length v h2)):CI Y F.ct [t0,t1,t2] h v h2:=
 CI.of (fn:=Tryz.f146) (m:=0) (a:=mT) rfl (λ_=>rfl) Tryz.func146 (wj _) (by rw[wm];exact hh)
def kz(C:CC)(a:V):aP:=λl h q=>blQ (ge l 0) λc=>blQ a λa=>cIQ .leq c a (cY 1 [.int .u64 0] [(0,(.d (.int .u64 0)))] h λa h=>apV false 3 1 8 (ge l 0) a h λa h=>q .normal [a] h) (q (.exit 0) [ge l 0] h)
def bz(C:CC)(a c d e:V):aP:=λl h q=>bIQ .geq (ge l 0) (.d (.int .u64 1000000000)) λf=>gqQ f false h (ge l 1) λg h=>gbQ f false h (biI .lss g (.d (.int .u64 1000000000))) λg h=>gqQ f false h g λg h=>gqQ g true h (ge l 0) λi h=>gqQ g true h c λj h=>gqQ g true h d λk h=>gbQ g true h (biI .sub k (I 2)) λk h=>gbQ g true h (ixV h 1 j k) λj h=>gbQ g true h (ld1 h j) λj h=>gbQ g true h (biI .mul i j) λi h=>gqQ g true h (ge l 1) λj h=>gbQ g true h (biI .mul j (.d (.int .u64 1000000000))) λj h=>gqQ g true h a λa h=>gqQ g true h e λe h=>gqQ g true h d λk h=>gbQ g true h (biI .add e k) λe h=>gbQ g true h (biI .sub e (I 2)) λe h=>gbQ g true h (ixV h 1 a e) λa h=>gbQ g true h (ld1 h a) λa h=>gbQ g true h (biI .add j a) λa h=>gbQ g true h (biI .gtr i a) λa h=>gbQ f false h (nF g a (B false)) λa h=>bpQ f (B true) a λa=>cnd a (bIQ .sub (ge l 0) (.d (.int .u64 1)) λa=>bIQ .sub d (I 1) λd=>bxQ h 1 c d λc=>b1Q h c λc=>bIQ .add (ge l 1) c λc=>q .normal [a,c] h) (q (.exit 4) [ge l 0] h)
def dl(C:CC)(a c d e:V):aP:=λl h q=>cIQ .geq (ge l 0) (I 0) (bIQ .add (ge l 0) d λf=>bxQ h 1 a f λf=>b1Q h f λf=>bIQ .mul f (.d (.int .u64 1000000000)) λf=>bIQ .add (ge l 0) d λg=>bIQ .sub g (I 1) λg=>bxQ h 1 a g λg=>b1Q h g λg=>bIQ .add f g λf=>bIQ .sub d (I 1) λg=>bxQ h 1 c g λg=>b1Q h g λg=>bIQ .quo f g λg=>bIQ .sub d (I 1) λi=>bxQ h 1 c i λi=>b1Q h i λi=>bIQ .rem f i λf=>lp (bz C a c d (ge l 0)) [] h [g,f] h (exK [((.exit 4),λd h=>ciQ C h F.dy [a,c,ge d 0,ge l 0] 5 λf h=>jn (λa h=>bxQ h 1 e (ge l 0) λc=>stD h 1 c (ge a 0) λ_ h=>bIQ .sub (ge l 0) (I 1) λa=>q .normal [a] h) λe=>cnd f (bIQ .sub (ge d 0) (.d (.int .u64 1)) λd=>ciQ C h F.ct [a,c,ge l 0] 6 λa h=>e [d] h) (e [ge d 0] h))])) (q (.exit 2) [] h)
def dE(C:CC)(a c:V)(q:kQ):Prop:=let h:Hp:=.replicate 9 nnQ
 blQ c λd=>bIQ .sub d (I 1) λd=>bxQ h 1 c d λd=>b1Q h d λd=>bIQ .add d (.d (.int .u64 1)) λd=>bIQ .quo (.d (.int .u64 1000000000)) d λd=>ciQ C h F.b9 [a,d] 0 λe h=>cY 1 [.int .u64 0] [(0,(.d (.int .u64 0)))] h λf h=>apV false 1 1 8 e f h λe h=>ciQ C h F.b9 [c,d] 2 λc h=>blQ c λf=>lp (kz C a) [] h [e] h (exK [((.exit 0),λa h=>blQ (ge a 0) λe=>bIQ .sub e f λe=>mkS 4 8 [.int .u64 0] h e e λe h=>blQ (ge a 0) λg=>bIQ .sub g f λg=>bIQ .sub g (I 1) λg=>lp (dl C (ge a 0) c f e) [5,6] h [g] h (exK [((.exit 2),λc h=>ciQ C h F.az [ge a 0] 7 λa h=>clQ C h F.cT [a,d] λa h=>e2Q a λa c=>ciQ C h F.az [e] 8 λc h=>q (.tup [c,a]) h)]))])
def lE:Ann:=(d7 (nBQ (nRQ [.inl 0,.o,.slot 1,.inl 2]) (aD (nBQ (nCQ (.n (.l [7] [0,6,8,9] [((.exit 0),[7],[6,8,9])] []) (aD (nCQ (nRQ [.o,.slot 3]))) .o)) (nBQ (nRQ [.slot 4]) (nBQ (aD (nCQ (.n (.l [11] [6,7,8,9,10] [((.exit 2),[],[6,7,10])] [5,6]) (aD (nCQ (nCQ (d7 (nBQ (nCQ (.n (.l [13,14] [6,7,8,9,10,11] [((.exit 4),[13],[6,7,8,9,10,11])] []) .o .o)) (nCQ (nBQ (nRQ [.inl 5]) (.n (.j [13] [6,7,8,9,10,11]) (aD (nRQ [.inl 6])) .o)))))))) .o))) (nBQ (nRQ [.inl 7]) (nCQ (nRQ [.inl 8])))))))))
attribute [local irreducible] bnd gd cal cnd ext cY uv stD alV alD fj jn lp exK mkS apV cai uX in
theorem uF(C:CC)(t0:V)(t1:V)(q:kkQ):fnD Y C Tryz.f145 9 lE [t0,t1] q=dE C t0 t1 q:=TW
theorem uD:okB Tryz.prog Tryz.f145 lE=true:=aJ
theorem uE(h:dE (CX Y) t0 t1 (out v)):CP Y F.dE [t0,t1] v:=
 CP.of (fn:=Tryz.f145) (m:=9) (a:=lE) rfl (λ_=>rfl) Tryz.func145 uD (by rw[uF];exact h)
def dM(C:CC)(a c d:V):aP:=λl h q=>cIQ .lss (ge l 0) d (bxQ h 1 a (ge l 0) λa=>b1Q h a λa=>cal C.p h c [a] λa h=>cnd a (q .ret [ge l 0] h) (bIQ .add (ge l 0) (I 1) λa=>q .normal [a] h)) (q (.exit 0) [] h)
def aX(C:CC)(a c:V)(q:kQ):Prop:=let h:Hp:=[]
 blQ a λd=>lp (dM C a c d) [] h [I 0] h (exK [((.exit 0),λa h=>q (I (-1)) h),(.ret,λa h=>q (ge a 0) h)])
theorem qh(h:aX (CX Y) t0 t1 (out v)):CP Y F.aX [t0,t1] v:=CPo 0 (aD (nCQ (aD (nCQ (.n (.l [8] [0,1,7] [((.exit 0),[],[]),(.ret,[4],[])] []) .o .o))))) Tryz.func163 h
def ba(C:CC)(a c:V)(q:kQ):Prop:=let h:Hp:=[]
 clQ C h F.aX [a,c] λa h=>bIQ .geq a (I 0) λa=>q a h
theorem pD(h:ba (CX Y) t0 t1 (out v)):CP Y F.ba [t0,t1] v:=CPo 0 .o Tryz.func124 h
def nr(C:CC)(a c d:V):aP:=λl h q=>cIQ .lss (ge l 0) d (bxQ h 1 a (ge l 0) λa=>b1Q h a λa=>cal C.p h c [a] λa h=>cnd a (q .ret [ge l 0] h) (bIQ .add (ge l 0) (I 1) λa=>q .normal [a] h)) (q (.exit 0) [] h)
def cL(C:CC)(a c:V)(q:kQ):Prop:=let h:Hp:=[]
 blQ a λd=>lp (nr C a c d) [] h [I 0] h (exK [((.exit 0),λa h=>q (I (-1)) h),(.ret,λa h=>q (ge a 0) h)])
theorem nV(h:cL (CX Y) t0 t1 (out v)):CP Y F.cL [t0,t1] v:=CPo 0 (aD (nCQ (aD (nCQ (.n (.l [8] [0,1,7] [((.exit 0),[],[]),(.ret,[4],[])] []) .o .o))))) Tryz.func207 h
def aS(C:CC)(a c:V)(q:kQ):Prop:=let h:Hp:=[]
 clQ C h F.cL [a,c] λa h=>bIQ .geq a (I 0) λa=>q a h
theorem mK(h:aS (CX Y) t0 t1 (out v)):CP Y F.aS [t0,t1] v:=CPo 0 .o Tryz.func185 h
def aO(C:CC)(a:V)(q:kQ):Prop:=let h:Hp:=[]
 bnd (o7 a) λc=>bIQ .gtr c (I 0) λc=>gqQ c true h a λd h=>gbQ c true h (ixS d (I 0)) λd h=>gbQ c true h (biI .eql d (.d (.int .u8 45))) λd h=>bpQ c d (B false) λc=>cnd c (bnd (slS a (some (I 1)) none) λa=>q (.tup [B true,a]) h) (q (.tup [B false,a]) h)
theorem Gr(h:aO (CX Y) t0 (out v)):CP Y F.aO [t0] v:=CPo 0 .o Tryz.func93 h
def nj(C:CC)(a:V)(q:kQ):Prop:=let h:Hp:=[]
 clQ C h F.aO [a] λa h=>e2Q a λa c=>gqQ a true h c λd h=>gbQ a true h (biS .eql d (.d (.str [48]))) λd h=>bpQ a d (B false) λa=>gqQ a false h c λc h=>gd a false h (λq=>clQ C h F.kC [c] q) λc h=>gbQ a false h (biI .neq c (I 0)) λc h=>bpQ a (B true) c λa=>cnd a (q (I 2) h) (q (I 0) h)
theorem Gu(h:nj (CX Y) t0 (out v)):CP Y F.nj [t0] v:=CPo 0 .o Tryz.func139 h
def dN(C:CC)(a:V)(q:kQ):Prop:=let h:Hp:=[]
 bSQ .eql a (.d (.str [48])) λc=>cnd c (q (I 0) h) (bnd (ixS a (I 0)) λa=>cIQ .eql a (.d (.int .u8 45)) (q (I (-1)) h) (q (I 1) h))
theorem II(h:dN (CX Y) t0 (out v)):CP Y F.dN [t0] v:=CPo 0 .o Tryz.func71 h
def eu(C:CC)(a:V)(q:kQ):Prop:=let h:Hp:=[]
 clQ C h F.strconv_Itoa [a] q
theorem Eb(h:eu (CX Y) t0 (out v)):CP Y F.eu [t0] v:=CPo 0 .o Tryz.func73 h
def bF(C:CC)(a c:V)(q:kQ):Prop:=let h:Hp:=[]
 bnd (o7 a) λd=>cIQ .gtr d c (q (.tup [I 0,B false]) h) (clQ C h F.strconv_Atoi [a] λa h=>e2Q a λa c=>bnd (biF .eql c (.d (.pl .nilIface))) λc=>q (.tup [a,c]) h)
theorem sh(h:bF (CX Y) t0 t1 (out v)):CP Y F.bF [t0,t1] v:=CPo 0 .o Tryz.func92 h
def gA(C:CC)(a:V)(q:kQ):Prop:=let h:Hp:=[]
 clQ C h F.aO [a] λa h=>e2Q a λa c=>q c h
theorem Cf(h:gA (CX Y) t0 (out v)):CP Y F.gA [t0] v:=CPo 0 .o Tryz.func103 h
def rI(C:CC):aP:=λl h q=>cIQ .neq (ge l 1) (I 0) (bIQ .rem (ge l 0) (ge l 1) λa=>q .normal [ge l 1,a] h) (q (.exit 0) [ge l 0] h)
def rX(C:CC)(a c:V)(q:kQ):Prop:=let h:Hp:=[]
 lp (rI C) [] h [a,c] h (exK [((.exit 0),λa h=>q (ge a 0) h)])
theorem Ky(h:rX (CX Y) t0 t1 (out v)):CP Y F.rX [t0,t1] v:=CPo 0 (aD (nCQ (nCQ (.n (.l [0,1] [] [((.exit 0),[0],[])] []) .o .o)))) Tryz.func131 h
def pd(C:CC)(a c:V)(q:kQ):Prop:=let h:Hp:=[]
 clQ C h F.gA [a] λa h=>clQ C h F.gA [c] λc h=>clQ C h F.bF [a,I 18] λd h=>e2Q d λd e=>jn (λd h=>clQ C h F.nL [a,c] q) λa=>cnd e (clQ C h F.bF [c,I 18] λc h=>e2Q c λc e=>cnd e (clQ C h F.rX [d,c] λa h=>clQ C h F.eu [a] q) (a [] h)) (a [] h)
theorem KD(h:pd (CX Y) t0 t1 (out v)):CP Y F.pd [t0,t1] v:=CPo 0 (d7 (nCQ (d7 (nJQ [] [5,6])))) Tryz.func91 h
def gY(C:CC)(a:V)(q:kQ):Prop:=let h:Hp:=.replicate 1 nnQ
 fj 0 a h λa h=>bfQ 0 a λc=>b1Q h c λc=>clQ C h F.nj [c] λc h=>bIQ .neq c (I 0) λc=>jn (λc h=>cnd (ge c 0) (q (I 2) h) (bfQ 1 a λc=>b1Q h c λc=>clQ C h F.dN [c] λc h=>bIQ .leq c (I 0) λc=>jn (λa h=>cnd (ge a 0) (q (I 2) h) (q (I 0) h)) λd=>cnd c (d [c] h) (bfQ 0 a λc=>b1Q h c λc=>bfQ 1 a λa=>b1Q h a λa=>clQ C h F.pd [c,a] λa h=>bSQ .neq a (.d (.str [49])) λa=>d [a] h))) λd=>cnd c (d [c] h) (bfQ 1 a λa=>b1Q h a λa=>clQ C h F.nj [a] λa h=>bIQ .neq a (I 0) λa=>d [a] h)
theorem BO(h:gY (CX Y) t0 (out v)):CP Y F.gY [t0] v:=CPo 1 (nBQ (nRQ [.slot 0]) (nCQ (nCQ (nBQ (aD (nJQ [3] [1])) (aD (nCQ (aD (nJQ [12] [])))))))) Tryz.func96 h
def mi(C:CC)(a:V)(q:kQ):Prop:=let h:Hp:=[]
 clQ C h F.aO [a] λa h=>e2Q a λa c=>bnd (unV .not a) λa=>clQ C h F.cx [a,c] q
theorem KA(h:mi (CX Y) t0 (out v)):CP Y F.mi [t0] v:=CPo 0 .o Tryz.func90 h
def lJ(C:CC)(a:V)(q:kQ):Prop:=let h:Hp:=[]
 clQ C h F.fv [a,I 10,I 64] λa h=>e2Q a λa c=>bnd (biF .neq c (.d (.pl .nilIface))) λc=>cnd c (q (.tup [I 0,B false]) h) (q (.tup [a,B true]) h)
theorem Gt(h:lJ (CX Y) t0 (out v)):CP Y F.lJ [t0] v:=CPo 0 .o Tryz.func54 h
def fJ(C:CC)(a c:V)(q:kQ):Prop:=let h:Hp:=[]
 clQ C h F.dN [a] λd h=>clQ C h F.dN [c] λe h=>cIQ .neq d e (cIQ .lss d e (q (I (-1)) h) (q (I 1) h)) (clQ C h F.aO [a] λa h=>e2Q a λa d=>clQ C h F.aO [c] λc h=>e2Q c λc e=>jn (λa h=>clQ C h F.cg [ge a 0,ge a 1] q) λc=>cnd a (c [e,d] h) (c [d,e] h))
theorem vC(h:fJ (CX Y) t0 t1 (out v)):CP Y F.fJ [t0,t1] v:=CPo 0 (Od (nCQ (aD (nJQ [8,10] [])))) Tryz.func111 h
def bM(C:CC)(a c:V)(q:kQ):Prop:=let h:Hp:=[]
 bSQ .eql c (.d (.str [48])) λd=>cnd d (q (.tup [(.d (.str [])),(.d (.str [])),I 17]) h) (clQ C h F.bF [a,I 18] λd h=>e2Q d λd e=>jn (λd h=>clQ C h F.aO [a] λa h=>e2Q a λa d=>clQ C h F.aO [c] λc h=>e2Q c λc e=>clQ C h F.dW [d,e] λd h=>e3Q d λd f g=>nzQ g (q (.tup [(.d (.str [])),(.d (.str [])),g]) h) (bnd (biB .neq a c) λg=>gqQ g true h f λi h=>gbQ g true h (biS .neq i (.d (.str [48]))) λi h=>bpQ g i (B false) λg=>jn (λd h=>bnd (biB .neq a c) λa=>clQ C h F.cx [a,ge d 0] λa h=>clQ C h F.cx [c,ge d 1] λc h=>q (.tup [a,c,I 0]) h) λa=>cnd g (clQ C h F.gn [d,(.d (.str [49]))] λc h=>clQ C h F.gZ [e,f] λd h=>e2Q d λd e=>a [c,d] h) (a [d,f] h))) λa=>cnd e (clQ C h F.bF [c,I 18] λc h=>e2Q c λc e=>cnd e (bIQ .quo d c λa=>bIQ .rem d c λd=>bIQ .neq d (I 0) λe=>gqQ e true h d λf h=>gbQ e true h (biI .lss f (I 0)) λf h=>gqQ e true h c λg h=>gbQ e true h (biI .lss g (I 0)) λg h=>gbQ e true h (biB .neq f g) λf h=>bpQ e f (B false) λe=>jn (λa h=>clQ C h F.eu [ge a 0] λc h=>clQ C h F.eu [ge a 1] λa h=>q (.tup [c,a,I 0]) h) λf=>cnd e (bIQ .sub a (I 1) λa=>bIQ .add d c λc=>f [a,c] h) (f [a,d] h)) (a [] h)) (a [] h))
def sj:Ann:=(d7 (nBQ (d7 (.n (.j [] [0,1]) (d7 (nCQ (aD (nCQ (aD (nJQ [11,12] [])))))) .o)) (Od (nCQ (aD (nJQ [17,18] [13,15]))))))
theorem Ed(C:CC)(t0:V)(t1:V)(q:kkQ):fnD Y C Tryz.f68 0 sj [t0,t1] q=bM C t0 t1 q:=by kernel_rfl
theorem Ec:okB Tryz.prog Tryz.f68 sj=true:=aJ
theorem wt(h:bM (CX Y) t0 t1 (out v)):CP Y F.bM [t0,t1] v:=
 CP.of (fn:=Tryz.f68) (m:=0) (a:=sj) rfl (λ_=>rfl) Tryz.func68 Ec (by rw[Ed];exact h)
def qc(C:CC)(a c:V)(q:kQ):Prop:=let h:Hp:=[]
 clQ C h F.gA [a] λa h=>clQ C h F.gA [c] λc h=>clQ C h F.pB [a,c] q
theorem KC(h:qc (CX Y) t0 t1 (out v)):CP Y F.qc [t0,t1] v:=CPo 0 .o Tryz.func67 h
def pB(C:CC)(a c:V)(q:kQ):Prop:=let h:Hp:=[]
 bSQ .eql a (.d (.str [48])) λd=>gqQ d false h c λe h=>gbQ d false h (biS .eql e (.d (.str [48]))) λe h=>bpQ d (B true) e λd=>cnd d (q (.d (.str [48])) h) (clQ C h F.nL [a,c] λd h=>clQ C h F.dW [a,d] λa h=>e3Q a λa d e=>nzQ e (q (.d (.str [])) h) (clQ C h F.j8 [a,c] q))
theorem G1(h:pB (CX Y) t0 t1 (out v)):CP Y F.pB [t0,t1] v:=CPo 0 .o Tryz.func102 h
def gm(C:CC)(a:V)(q:kQ):Prop:=let h:Hp:=[]
 bnd (o7 a) λc=>cIQ .gtr c (I 9) (q (.tup [I 0,B false]) h) (clQ C h F.strconv_Atoi [a] λa h=>e2Q a λa c=>bnd (biF .eql c (.d (.pl .nilIface))) λc=>q (.tup [a,c]) h)
theorem Aj(h:gm (CX Y) t0 (out v)):CP Y F.gm [t0] v:=CPo 0 .o Tryz.func130 h
def dj(C:CC)(a:V)(q:kQ):Prop:=let h:Hp:=.replicate 1 nnQ
 fj 0 a h λa h=>bfQ 0 a λc=>b1Q h c λc=>clQ C h F.gm [c] λc h=>e2Q c λc d=>bfQ 1 a λa=>b1Q h a λa=>clQ C h F.gm [a] λa h=>e2Q a λa e=>gqQ d true h e λe h=>bpQ d e (B false) λd=>q (.tup [c,a,d]) h
theorem Da(h:dj (CX Y) t0 (out v)):CP Y F.dj [t0] v:=CPo 1 (nCQ (nRQ [.slot 0])) Tryz.func88 h
def nK(C:CC):aP:=λl h q=>cIQ .neq (ge l 1) (I 0) (bIQ .rem (ge l 0) (ge l 1) λa=>q .normal [ge l 1,a] h) (q (.exit 0) [ge l 0] h)
def jb(C:CC)(a c:V)(q:kQ):Prop:=let h:Hp:=.replicate 1 nnQ
 alV 0 [.d (.str []),.d (.str [])] h λd h=>lp (nK C) [] h [a,c] h (exK [((.exit 0),λe h=>bIQ .lss (ge e 0) (I 0) λf=>jn (λe h=>bIQ .quo a (ge e 0) λa=>clQ C h F.strconv_Itoa [a] λa h=>bIQ .quo c (ge e 0) λc=>clQ C h F.strconv_Itoa [c] λc h=>bnd (bld [(0,1),(1,1)] [.str [],.str []] [(0,a),(1,c)]) λa=>stD h 2 d a λ_ h=>bnd (ldA h 2 d) λa=>q a h) λa=>cnd f (bnd (unV .neg (ge e 0)) λc=>a [c] h) (a [ge e 0] h))])
theorem GQ(h:jb (CX Y) t0 t1 (out v)):CP Y F.jb [t0,t1] v:=CPo 1 (nBQ (nRQ [.slot 0]) (aD (nBQ (nCQ (.n (.l [5,6] [0,1,4] [((.exit 0),[5],[0,1,4])] []) .o .o)) (nCQ (aD (nJQ [5] [0,1,4])))))) Tryz.func89 h
def bv(C:CC)(a c:V)(q:kQ):Prop:=let h:Hp:=.replicate 1 nnQ
 alV 0 [.d (.str []),.d (.str [])] h λd h=>clQ C h F.dN [c] λe h=>bIQ .lss e (I 0) λe=>jn (λa h=>clQ C h F.pd [ge a 0,ge a 1] λc h=>bSQ .neq c (.d (.str [49])) λe=>jn (λa h=>bnd (bld [(0,1),(1,1)] [.str [],.str []] [(0,(ge a 0)),(1,(ge a 1))]) λa=>stD h 2 d a λ_ h=>bnd (ldA h 2 d) λa=>q a h) λd=>cnd e (clQ C h F.bM [ge a 0,c] λe h=>e3Q e λe f g=>clQ C h F.bM [ge a 1,c] λa h=>e3Q a λa c f=>d [e,a] h) (d [ge a 0,ge a 1] h)) λd=>cnd e (clQ C h F.mi [a] λa h=>clQ C h F.mi [c] λc h=>d [a,c] h) (d [a,c] h)
theorem Ai(h:bv (CX Y) t0 t1 (out v)):CP Y F.bv [t0,t1] v:=CPo 1 (nBQ (nRQ [.slot 0]) (nBQ (aD (nJQ [0,1] [4])) (nCQ (d7 (nJQ [0,1] [4]))))) Tryz.func58 h
def fh(C:CC)(a c:V)(q:kQ):Prop:=let h:Hp:=.replicate 3 nnQ
 fj 0 a h λa h=>fj 1 c h λc h=>alV 2 [.d (.str []),.d (.str [])] h λd h=>bfQ 1 a λe=>b1Q h e λe=>bSQ .eql e (.d (.str [49])) λe=>gbQ e true h (faV 1 c) λf h=>gbQ e true h (ld1 h f) λf h=>gbQ e true h (biS .eql f (.d (.str [49]))) λf h=>bpQ e f (B false) λe=>cnd e (bfQ 0 a λa=>b1Q h a λa=>bfQ 0 c λc=>b1Q h c λc=>clQ C h F.kR [a,c] λa h=>bnd (bld [(0,1),(1,1)] [.str [],.str []] [(0,a),(1,(.d (.str [49])))]) λa=>stD h 2 d a λ_ h=>bnd (ldA h 2 d) λa=>q a h) (bnd (ldA h 2 a) λe=>clQ C h F.dj [e] λe h=>e3Q e λe f g=>jn (λe h=>bfQ 0 a λe=>b1Q h e λe=>bfQ 1 c λf=>b1Q h f λf=>clQ C h F.bL [e,f] λe h=>bfQ 0 c λf=>b1Q h f λf=>bfQ 1 a λg=>b1Q h g λg=>clQ C h F.bL [f,g] λf h=>clQ C h F.kR [e,f] λe h=>bfQ 1 a λa=>b1Q h a λa=>bfQ 1 c λc=>b1Q h c λc=>clQ C h F.bL [a,c] λa h=>clQ C h F.bv [e,a] λa h=>stD h 2 d a λ_ h=>bnd (ldA h 2 d) λa=>q a h) λa=>cnd g (bnd (ldA h 2 c) λc=>clQ C h F.dj [c] λc h=>e3Q c λc g i=>cnd i (bIQ .mul e g λa=>bIQ .mul c f λc=>bIQ .add a c λa=>bIQ .mul f g λc=>clQ C h F.jb [a,c] λa h=>stD h 2 d a λ_ h=>bnd (ldA h 2 d) λa=>q a h) (a [] h)) (a [] h))
def sV:Ann:=(nBQ (nRQ [.slot 0,.slot 1,.slot 2]) (aD (nCQ (d7 (nJQ [] [2,3,4])))))
theorem FY(C:CC)(t0:V)(t1:V)(q:kkQ):fnD Y C Tryz.f55 3 sV [t0,t1] q=fh C t0 t1 q:=by kernel_rfl
theorem FW:okB Tryz.prog Tryz.f55 sV=true:=aJ
theorem FX(h:fh (CX Y) t0 t1 (out v)):CP Y F.fh [t0,t1] v:=
 CP.of (fn:=Tryz.f55) (m:=3) (a:=sV) rfl (λ_=>rfl) Tryz.func55 FW (by rw[FY];exact h)
def j7(C:CC)(a c:V)(q:kQ):Prop:=let h:Hp:=.replicate 3 nnQ
 fj 0 a h λa h=>fj 1 c h λc h=>alV 2 [.d (.str []),.d (.str [])] h λd h=>bnd (ldA h 2 a) λe=>clQ C h F.dj [e] λe h=>e3Q e λe f g=>jn (λe h=>bfQ 0 a λe=>b1Q h e λe=>bfQ 0 c λf=>b1Q h f λf=>clQ C h F.bL [e,f] λe h=>bfQ 1 a λa=>b1Q h a λa=>bfQ 1 c λc=>b1Q h c λc=>clQ C h F.bL [a,c] λa h=>clQ C h F.bv [e,a] λa h=>stD h 2 d a λ_ h=>bnd (ldA h 2 d) λa=>q a h) λa=>cnd g (bnd (ldA h 2 c) λc=>clQ C h F.dj [c] λc h=>e3Q c λc g i=>cnd i (bIQ .mul e c λa=>bIQ .mul f g λc=>clQ C h F.jb [a,c] λa h=>stD h 2 d a λ_ h=>bnd (ldA h 2 d) λa=>q a h) (a [] h)) (a [] h)
theorem FU(h:j7 (CX Y) t0 t1 (out v)):CP Y F.j7 [t0,t1] v:=CPo 3 (nBQ (nRQ [.slot 0,.slot 1,.slot 2]) (nCQ (d7 (nJQ [] [2,3,4])))) Tryz.func101 h
def mH(C:CC)(a:V)(q:kQ):Prop:=let h:Hp:=.replicate 1 nnQ
 fj 0 a h λa h=>bfQ 0 a λa=>b1Q h a λa=>clQ C h F.dN [a] q
theorem Db(h:mH (CX Y) t0 (out v)):CP Y F.mH [t0] v:=CPo 1 (nCQ (nRQ [.slot 0])) Tryz.func57 h
def gS(C:CC)(a c:V)(q:kQ):Prop:=let h:Hp:=.replicate 3 nnQ
 fj 0 a h λa h=>fj 1 c h λc h=>alV 2 [.d (.str []),.d (.str [])] h λd h=>bnd (ldA h 2 c) λe=>clQ C h F.mH [e] λe h=>cIQ .eql e (I 0) (bnd (bld [(0,1),(1,1)] [.str [],.str []] []) λa=>stD h 2 d a λ_ h=>bnd (ldA h 2 d) λa=>q (.tup [a,I 17]) h) (bfQ 0 a λe=>b1Q h e λe=>bfQ 1 c λf=>b1Q h f λf=>clQ C h F.bL [e,f] λe h=>bfQ 1 a λa=>b1Q h a λa=>bfQ 0 c λc=>b1Q h c λc=>clQ C h F.bL [a,c] λa h=>clQ C h F.bv [e,a] λa h=>stD h 2 d a λ_ h=>bnd (ldA h 2 d) λa=>q (.tup [a,I 0]) h)
theorem FV(h:gS (CX Y) t0 t1 (out v)):CP Y F.gS [t0,t1] v:=CPo 3 (nCQ (nRQ [.slot 0,.slot 1,.slot 2])) Tryz.func29 h
def oh(C:CC)(a c:V)(q:kQ):Prop:=let h:Hp:=.replicate 1 nnQ
 alV 0 [.d (.str []),.d (.str [])] h λd h=>clQ C h F.dN [c] λe h=>cIQ .eql e (I 0) (bnd (bld [(0,1),(1,1)] [.str [],.str []] []) λa=>stD h 2 d a λ_ h=>bnd (ldA h 2 d) λa=>q (.tup [a,I 17]) h) (clQ C h F.bv [a,c] λa h=>stD h 2 d a λ_ h=>bnd (ldA h 2 d) λa=>q (.tup [a,I 0]) h)
theorem FS(h:oh (CX Y) t0 t1 (out v)):CP Y F.oh [t0,t1] v:=CPo 1 (nCQ (nRQ [.slot 0])) Tryz.func72 h
def dT(C:CC)(a c:V)(q:kQ):Prop:=let h:Hp:=.replicate 1 nnQ
 alV 0 [.d (.str []),.d (.str [])] h λd h=>clQ C h F.eu [a] λa h=>clQ C h F.eu [c] λc h=>clQ C h F.oh [a,c] λa h=>e2Q a λa c=>stD h 2 d a λ_ h=>bnd (ldA h 2 d) λa=>q (.tup [a,c]) h
theorem GR(h:dT (CX Y) t0 t1 (out v)):CP Y F.dT [t0,t1] v:=CPo 1 (nCQ (nRQ [.slot 0])) Tryz.func41 h
def oO(C:CC)(a c d:V):aP:=λl h q=>cIQ .lss (ge l 0) d (bxQ h 2 c (ge l 0) λc=>bnd (ldA h 2 c) λc=>alV 2 [.d (.str []),.d (.str [])] h λd h=>stD h 2 d c λ_ h=>bfQ 2 a λc=>b1Q h c λc=>bfQ 1 d λd=>b1Q h d λd=>clQ C h F.qc [c,d] λc h=>bfQ 2 a λa=>stD h 1 a c λ_ h=>bIQ .add (ge l 0) (I 1) λa=>q .normal [a] h) (q (.exit 0) [] h)
def me(C:CC)(a c d e:V):aP:=λl h q=>cIQ .lss (ge l 0) e (jn (λa h=>bIQ .add (ge l 0) (I 1) λa=>q .normal [a] h) λe=>bxQ h 2 d (ge l 0) λd=>bnd (ldA h 2 d) λd=>alV 3 [.d (.str []),.d (.str [])] h λf h=>stD h 2 f d λ_ h=>bfQ 0 f λd=>b1Q h d λd=>bSQ .neq d (.d (.str [48])) λd=>jn (λa h=>e [] h) λe=>cnd d (bfQ 2 c λd=>b1Q h d λd=>bfQ 1 f λg=>b1Q h g λg=>clQ C h F.bM [d,g] λd h=>e3Q d λd g i=>bfQ 0 c λg=>sm h c g<|b1Q h g λg=>bxQ h 1 a (ge l 0) λa=>b1Q h a λa=>cY 1 [.int .i64 0] [(0,a)] h λa h=>sp h g [c,f]<|apV false 4 1 8 g a h λa h=>bfQ 1 c λg=>sm h c g<|b1Q h g λg=>bfQ 0 f λi=>sm h f i<|b1Q h i λf=>clQ C h F.bL [f,d] λd h=>cY 1 [.str []] [(0,d)] h λd h=>apV false 5 1 16 g d h λd h=>bfQ 0 c λf=>stD h 1 f a λ_ h=>bfQ 1 c λa=>stD h 1 a d λ_ h=>e [] h) (e [] h)) (q (.exit 2) [] h)
def jQ(C:CC)(a c:V)(q:kQ):Prop:=let h:Hp:=.replicate 6 nnQ
 alV 0 [.d nPQ,.d nPQ,.d (.str [])] h λd h=>bnd (bld [(0,1),(1,1),(2,1)] [nPQ,nPQ,.str []] [(2,(.d (.str [49])))]) λe=>alV 1 [.d nPQ,.d nPQ,.d (.str [])] h λf h=>stD h 3 f e λ_ h=>blQ c λe=>lp (oO C f c e) [2] h [I 0] h (exK [((.exit 0),λe h=>blQ c λe=>lp (me C a f c e) [3] h [I 0] h (exK [((.exit 2),λa h=>bnd (ldA h 3 f) λa=>stD h 3 d a λ_ h=>bnd (ldA h 3 d) λa=>q a h)]))])
def sL:Ann:=(nBQ (nRQ [.slot 0]) (nBQ (nRQ [.slot 1]) (nBQ (aD (nCQ (.n (.l [16] [0,1,4,5,14,15] [((.exit 0),[],[0,1,4,5])] [2]) (d7 (nCQ (nCQ (nCQ (nRQ [.slot 2]))))) .o))) (nCQ (aD (nCQ (.n (.l [29] [0,4,5,27,28] [((.exit 2),[],[4,5])] [3]) (d7 (nCQ (.n (.j [] [0,4,5,27,28,29]) (nBQ (nRQ [.slot 3]) (aD (.n (.j [] [0,4,5,27,28,29]) (aD (nRQ [.o,.slot 4,.o,.o,.slot 5])) .o))) .o))) .o)))))))
theorem EA(C:CC)(t0:V)(t1:V)(q:kkQ):fnD Y C Tryz.f39 6 sL [t0,t1] q=jQ C t0 t1 q:=by kernel_rfl
theorem Ey:okB Tryz.prog Tryz.f39 sL=true:=aJ
theorem Ez(h:jQ (CX Y) t0 t1 (out v)):CP Y F.jQ [t0,t1] v:=
 CP.of (fn:=Tryz.f39) (m:=6) (a:=sL) rfl (λ_=>rfl) Tryz.func39 Ey (by rw[EA];exact h)
def jp(C:CC)(a:V)(q:kQ):Prop:=let h:Hp:=.replicate 1 nnQ
 fj 0 a h λa h=>q (.fn F.dI [] [a]) h
theorem Bb(h:jp (CX Y) t0 (out v)):CP Y F.jp [t0] v:=CPo 1 (nCQ (nRQ [.slot 0])) Tryz.func108 h
def dP(C:CC)(a c d e:V):IB:=λl h q=>
 clQ C h F.lJ [ge l 1] λf h=>
 ext f 0 λg=>
 ext f 1 λf=>
 bnd (unV .not f) λf=>
 gqQ f false h g λi h=>
 gbQ f false h (ld1 h a) λj h=>
 gbQ f false h (biI .gtr i j) λi h=>
 bpQ f (B true) i λf=>
 gqQ f false h g λi h=>
 gbQ f false h (ld1 h a) λa h=>
 gbQ f false h (unV .neg a) λa h=>
 gbQ f false h (biI .lss i a) λa h=>
 bpQ f (B true) a λa=>
 cnd a (
 stD h 1 c (I 0) λ_ h=>
 stD h 1 d (I 0) λ_ h=>
 stD h 1 e (B false) λ_ h=>
 q .ret h) (
 clQ C h F.r9 [ge l 0] λa h=>
 ext a 0 λf=>
 ext a 1 λa=>
 bnd (unV .not a) λa=>
 cnd a (
 stD h 1 c (I 0) λ_ h=>
 stD h 1 d (I 0) λ_ h=>
 stD h 1 e (B false) λ_ h=>
 q .ret h) (
 bIQ .add f (I 1) λa=>
 bIQ .eql (ge l 0) (I 2) λe=>
 jn (λa h=>
 b1Q h c λe=>
 bIQ .mul g f λi=>
 bIQ .mul g (ge a 0) λj=>
 bnd (mxI false [i,j]) λi=>
 bIQ .add e i λe=>
 b1Q h d λi=>
 bIQ .mul g f λf=>
 bIQ .mul g (ge a 0) λa=>
 bnd (mxI true [f,a]) λa=>
 bIQ .add i a λa=>
 sp h c [d]<|stD h 1 c e λ_ h=>
 stD h 1 d a λ_ h=>
 q .normal h) λc=>
 cnd e (
 c [f] h) (
 c [a] h)))
def gj(C:CC)(a c:V)(q:kQ):Prop:=let h:Hp:=.replicate 5 nnQ
 fj 0 a h λa h=>fj 1 c h λc h=>alV 2 [.d (.int .i64 0)] h λd h=>alV 3 [.d (.int .i64 0)] h λe h=>alV 4 [.d (.bool false)] h λf h=>bnd (ldA h 3 a) λa=>clQ C h F.jp [a] λa h=>rgO (sqV Y.seq a) 2 (dP C c d e f) [] h (λex h=>exK [(.ret,λ_ h=>b1Q h d λa=>b1Q h e λc=>b1Q h f λd=>q (.tup [a,c,d]) h),(.normal,λ_ h=>b1Q h d λa=>b1Q h e λc=>sp h d [e]<|stD h 1 d a λ_ h=>stD h 1 e c λ_ h=>stD h 1 f (B true) λ_ h=>b1Q h d λa=>b1Q h e λc=>b1Q h f λd=>q (.tup [a,c,d]) h)] ex [] h)
def pL:Ann:=(nBQ (nRQ [.slot 0,.slot 1,.slot 2,.slot 3,.slot 4]) (nCQ (aD (nCQ (.n (.l [] [3,4,5,6] [(.ret,[],[4,5,6]),(.normal,[],[4,5,6])] []) .o (nCQ (adE (nCQ (aD (nJQ [13] [4,5,9,11]))))))))))
theorem zx(C:CC)(t0:V)(t1:V)(q:kkQ):fnD Y C Tryz.f107 5 pL [t0,t1] q=gj C t0 t1 q:=by kernel_rfl
theorem zu:okB Tryz.prog Tryz.f107 pL=true:=aJ
theorem zw(h:gj (CX Y) t0 t1 (out v)):CP Y F.gj [t0,t1] v:=
 CP.of (fn:=Tryz.f107) (m:=5) (a:=pL) rfl (λ_=>rfl) Tryz.func107 zu (by rw[zx];exact h)
def gE(C:CC)(a:V)(q:kQ):Prop:=let h:Hp:=.replicate 1 nnQ
 fj 0 a h λa h=>bnd (ldA h 3 a) λa=>clQ C h F.gj [a,I 10000000] λa h=>e3Q a λa c d=>bnd (unV .not d) λd=>cnd d (q (I 0) h) (cIQ .geq a (I 0) (q (I 1) h) (cIQ .leq c (I 0) (q (I (-1)) h) (q (I 0) h)))
theorem yv(h:gE (CX Y) t0 (out v)):CP Y F.gE [t0] v:=CPo 1 (nCQ (nRQ [.slot 0])) Tryz.func69 h
def yu(C:CC)(a:V):aP:=λl h q=>bnd (ldA h 3 a) λa=>clQ C h F.CM [a,ge l 0] λa h=>e2Q a λa c=>clQ C h F.dN [a] λa h=>cIQ .geq a (I 0) (q .ret [I 1] h) (clQ C h F.dN [c] λa h=>cIQ .leq a (I 0) (q .ret [I (-1)] h) (bIQ .mul (ge l 0) (I 2) λa=>q .normal [a] h))
def fe(C:CC)(a:V)(q:kQ):Prop:=let h:Hp:=.replicate 1 nnQ
 fj 0 a h λa h=>bfQ 0 a λc=>b1Q h c λc=>blQ c λc=>cIQ .eql c (I 0) (q (I 0) h) (bnd (ldA h 3 a) λc=>clQ C h F.gE [c] λc h=>nzQ c (q c h) (lp (yu C a) [] h [I 64] h (exK [(.ret,λa h=>q (ge a 0) h)])))
theorem zt(h:fe (CX Y) t0 (out v)):CP Y F.fe [t0] v:=CPo 1 (nBQ (nRQ [.slot 0]) (nCQ (Od (nCQ (.n (.l [4] [1] [(.ret,[2],[])] []) .o .o))))) Tryz.func40 h
def rM(C:CC):aP:=λl h q=>cIQ .lss (ge l 3) (I 26) (jn (λa h=>bIQ .add (ge l 3) (I 1) λc=>q .normal [ge a 0,ge a 1,ge a 2,c] h) λa=>clQ C h F.dd [ge l 0,ge l 0] λc h=>e2Q c λc d=>bIQ .shl c (.d (.int .u64 2)) λc=>bIQ .shr d (.d (.int .u64 62)) λd=>bIQ .or c d λc=>clQ C h F.dd [ge l 1,ge l 1] λd h=>e2Q d λd e=>bIQ .shl d (.d (.int .u64 2)) λd=>bIQ .shr e (.d (.int .u64 62)) λe=>bIQ .or d e λd=>bIQ .add d (.d (.int .u64 1)) λd=>bIQ .mul (ge l 2) (I 2) λe=>bIQ .geq c (.d (.int .u64 9223372036854775808)) λf=>jn (λc h=>a [ge c 1,ge c 2,ge c 0] h) λa=>cnd f (bIQ .add e (I 1) λe=>bIQ .shr c (.d (.int .u64 1)) λc=>bIQ .shr d (.d (.int .u64 1)) λd=>bIQ .add d (.d (.int .u64 1)) λd=>a [e,c,d] h) (cIQ .geq d (.d (.int .u64 9223372036854775808)) (q .ret [I 0,B false] h) (a [e,c,d] h))) (q (.exit 0) [ge l 2] h)
def r9(C:CC)(a:V)(q:kQ):Prop:=let h:Hp:=[]
 bnd (cvI .u64 a) λc=>clQ C h F.mF [c] λc h=>bIQ .sub c (I 1) λc=>bnd (cvI .u64 a) λa=>bIQ .sub (I 62) c λd=>bIQ .shl a d λa=>lp (rM C) [] h [a,a,c,I 0] h (exK [((.exit 0),λa h=>q (.tup [ge a 0,B true]) h),(.ret,λa h=>q (.tup [ge a 0,ge a 1]) h)])
theorem Lb(h:r9 (CX Y) t0 (out v)):CP Y F.r9 [t0] v:=CPo 0 (adE (nCQ (aD (nCQ (.n (.l [5,6,7,21] [] [((.exit 0),[7],[]),(.ret,[2,3],[])] []) (d7 (nCQ (.n (.j [5,6,7] [21]) (afr (nJQ [7,5,6] [21])) .o))) .o))))) Tryz.func149 h
def lu(C:CC)(a:V)(q:kQ):Prop:=let h:Hp:=[]
 clQ C h F.pi [a] λc h=>nzQ c (q (.tup [B false,c]) h) (clQ C h F.lj [a] λa h=>q (.tup [a,I 0]) h)
theorem BM(h:lu (CX Y) t0 (out v)):CP Y F.lu [t0] v:=CPo 0 .o Tryz.func119 h
def m9(C:CC)(a c d:V):aP:=λl h q=>cIQ .lss (ge l 1) d (bxQ h 1 c (ge l 1) λc=>b1Q h c λc=>alV 0 [.d nPQ] h λd h=>stD h 1 d c λ_ h=>b1Q h d λc=>clQ C h F.mG [c] λc h=>alV 1 [.d (.int .i64 0)] h λe h=>stD h 1 e c λ_ h=>b1Q h e λc=>bIQ .leq c (ge l 0) λc=>gbQ c false h (ld1 h d) λf h=>gbQ c false h (ld1 h e) λg h=>gbQ c false h (ixV h 1 f g) λf h=>gbQ c false h (ld1 h f) λf h=>gbQ c false h (biI .lss f (I 0)) λf h=>bpQ c (B true) f λc=>cnd c (q .ret [B false] h) (bnd (slV h 1 a none (some (ge l 1))) λa=>clQ C h F.aS [a,(.fn F.eR [] [e,d])] λa h=>cnd a (q .ret [B false] h) (b1Q h e λa=>bIQ .add (ge l 1) (I 1) λc=>q .normal [a,c] h))) (q (.exit 0) [] h)
def lj(C:CC)(a:V)(q:kQ):Prop:=let h:Hp:=.replicate 2 nnQ
 blQ a λc=>lp (m9 C a a c) [0,1] h [I (-1),I 0] h (exK [((.exit 0),λa h=>q (B true) h),(.ret,λa h=>q (ge a 0) h)])
theorem BL(h:lj (CX Y) t0 (out v)):CP Y F.lj [t0] v:=CPo 2 (d7 (nCQ (aD (nCQ (.n (.l [3,9] [0,7,8] [((.exit 0),[],[]),(.ret,[2],[])] [0,1]) (d7 (nCQ (nCQ (nBQ (nRQ [.slot 0]) (nCQ (nRQ [.o,.slot 1])))))) .o))))) Tryz.func157 h
def eR(C:CC)(a c d:V)(q:kQ):Prop:=let h:Hp:=[]
 b1Q h c λe=>bxQ h 1 a e λe=>b1Q h e λe=>bIQ .lss e (I 0) λe=>gqQ e false h a λa h=>gbQ e false h (ld1 h c) λf h=>gbQ e false h (ixV h 1 a f) λa h=>gbQ e false h (ld1 h a) λa h=>gbQ e false h (ld1 h d) λd h=>gbQ e false h (ld1 h c) λc h=>gbQ e false h (ixV h 1 d c) λc h=>gbQ e false h (ld1 h c) λc h=>gbQ e false h (biI .geq a c) λa h=>bpQ e (B true) a λa=>q a h
theorem xZ(h:eR (CX Y) t0 t1 t2 (out v)):CP Y F.eR [t0,t1,t2] v:=CPo 0 .o Tryz.func186 h
def mG(C:CC)(a:V)(q:kQ):Prop:=let h:Hp:=[]
 clQ C h F.aX [a,(.fn F.jh [] [])] q
theorem C8(h:mG (CX Y) t0 (out v)):CP Y F.mG [t0] v:=CPo 0 .o Tryz.func184 h
def jh(C:CC)(a:V)(q:kQ):Prop:=let h:Hp:=[]
 bIQ .neq a (I 0) λa=>q a h
theorem yS(h:jh (CX Y) t0 (out v)):CP Y F.jh [t0] v:=CPo 0 .o Tryz.func206 h
def pI(C:CC)(a c d:V):aP:=λl h q=>cIQ .lss (ge l 0) d (bxQ h 1 c (ge l 0) λc=>b1Q h c λc=>blQ c λd=>cIQ .gtr d (I 12) (q .ret [I 4] h) (blQ c λd=>bxQ h 1 a (I 0) λa=>b1Q h a λa=>blQ a λa=>cIQ .neq d a (q .ret [I 5] h) (clQ C h F.ba [c,(.fn F.pf [] [])] λa h=>cnd a (q .ret [I 4] h) (bIQ .add (ge l 0) (I 1) λa=>q .normal [a] h)))) (q (.exit 0) [] h)
def pi(C:CC)(a:V)(q:kQ):Prop:=let h:Hp:=[]
 blQ a λc=>cIQ .gtr c (I 12) (q (I 4) h) (blQ a λc=>lp (pI C a a c) [] h [I 0] h (exK [((.exit 0),λa h=>q (I 0) h),(.ret,λa h=>q (ge a 0) h)]))
theorem Gz(h:pi (CX Y) t0 (out v)):CP Y F.pi [t0] v:=CPo 0 (d7 (nCQ (aD (nCQ (.n (.l [10] [0,8,9] [((.exit 0),[],[]),(.ret,[2],[])] []) .o .o))))) Tryz.func156 h
def pf(C:CC)(a:V)(q:kQ):Prop:=let h:Hp:=[]
 bIQ .gtr a (I 1000000000) λc=>gqQ c false h a λa h=>gbQ c false h (biI .lss a (I (-1000000000))) λa h=>bpQ c (B true) a λa=>q a h
theorem Gy(h:pf (CX Y) t0 (out v)):CP Y F.pf [t0] v:=CPo 0 .o Tryz.func183 h
def oP(C:CC)(a c d:V):aP:=λl h q=>cIQ .lss (ge l 0) d (bxQ h 1 c (ge l 0) λc=>b1Q h c λc=>clQ C h F.pu [c] λd h=>nzQ d (q .ret [d] h) (blQ c λc=>cIQ .neq c a (q .ret [I 5] h) (bIQ .add (ge l 0) (I 1) λa=>q .normal [a] h))) (q (.exit 0) [] h)
def od(C:CC)(a c:V)(q:kQ):Prop:=let h:Hp:=[]
 blQ a λd=>lp (oP C c a d) [] h [I 0] h (exK [((.exit 0),λa h=>q (I 0) h),(.ret,λa h=>q (ge a 0) h)])
theorem EL(h:od (CX Y) t0 t1 (out v)):CP Y F.od [t0,t1] v:=CPo 0 (aD (nCQ (aD (nCQ (.n (.l [10] [1,8,9] [((.exit 0),[],[]),(.ret,[4],[])] []) .o .o))))) Tryz.func114 h
def rY(C:CC)(a c:V)(q:kQ):Prop:=let h:Hp:=[]
 clQ C h F.mi [c] λc h=>clQ C h F.kR [a,c] q
theorem Kz(h:rY (CX Y) t0 t1 (out v)):CP Y F.rY [t0,t1] v:=CPo 0 .o Tryz.func155 h
def m6(C:CC)(b:Nat)(a c:V):aP:=λl h q=>cIQ .lss (ge l 1) c (bxQ h 1 a (ge l 1) λa=>b1Q h a λa=>clQ C h F.eu [a] λa h=>cY 1 [.str []] [(0,a)] h λa h=>apV false (b+1) 1 16 (ge l 0) a h λa h=>bIQ .add (ge l 1) (I 1) λc=>q .normal [a,c] h) (q (.exit 0) [ge l 0] h)
def fR(C:CC)(b:Nat)(h:Hp)(a:V)(q:kQ):Prop:=let h:Hp:=h++List.replicate 2 nnQ
 blQ a λc=>mkS (b+0) 16 [.str []] h (I 0) c λc h=>blQ a λd=>lp (m6 C b a d) [] h [c,I 0] h (exK [((.exit 0),λa h=>q (ge a 0) h)])
def qp(b:Nat):Ann:=(.n .x .o (.n .x (.n (.r [.slot (b+0)]) .o .o) (.n .x (.n .x .o (.n .x (.n (.l [3,11] [9,10] [((.exit 0),[3],[])] []) (.n .x .o (.n .x .o (.n .x (.n .x (.n .x .o (.n (.r [.o,.o,.slot (b+1)]) .o .o)) .o) .o))) .o) .o)) .o)))
theorem BG(C:CC)(h:Hp)(t0:V)(q:kkQ):fnI Y C Tryz.f115 2 qp [t0] h q=fR C h.length h t0 q:=by rfl
theorem BE(b:Nat):okB Tryz.prog Tryz.f115 (qp b)=true:=by rfl
theorem BF(hh:fR (CX Y) h.length h t0 (mN h.length v h2)):CI Y F.fR [t0] h v h2:=
 CI.of (fn:=Tryz.f115) (m:=2) (a:=qp) rfl (λ_=>rfl) Tryz.func115 (BE _) (by rw[BG];exact hh)
def km(C:CC)(b:Nat)(h:Hp)(a:V)(q:kQ):Prop:=let h:Hp:=h++List.replicate 2 nnQ
 mkS (b+0) 8 [.int .i64 0] h a a λa h=>ciQ C h F.fR [a] (b+1) q
def rD(b:Nat):Ann:=(.n .x .o (.n .x (.n (.r [.slot (b+0),.inl (b+1)]) .o .o) .o))
theorem C3(C:CC)(h:Hp)(t0:V)(q:kkQ):fnI Y C Tryz.f120 2 rD [t0] h q=km C h.length h t0 q:=by rfl
theorem CY(b:Nat):okB Tryz.prog Tryz.f120 (rD b)=true:=by rfl
theorem CZ(hh:km (CX Y) h.length h t0 (mN h.length v h2)):CI Y F.km [t0] h v h2:=
 CI.of (fn:=Tryz.f120) (m:=2) (a:=rD) rfl (λ_=>rfl) Tryz.func120 (CY _) (by rw[C3];exact hh)
def jZ(C:CC)(b:Nat)(a c d e:V):aP:=λl h q=>cIQ .lss (ge l 0) e (bxQ h 1 d (ge l 0) λd=>b1Q h d λd=>bxQ h 1 a (ge l 0) λe=>b1Q h e λe=>clQ C h F.bL [c,d] λc h=>clQ C h F.rY [e,c] λc h=>bxQ h 1 a (ge l 0) λa=>stD h 1 a c λ_ h=>bIQ .add (ge l 0) (I 1) λa=>q .normal [a] h) (q (.exit 0) [] h)
def eQ(C:CC)(b:Nat)(h:Hp)(a c d:V)(q:kQ):Prop:=let h:Hp:=h++List.replicate 0 nnQ
 bSQ .eql c (.d (.str [48])) λe=>cnd e (q (.tup []) h) (blQ d λe=>lp (jZ C b a c d e) [] h [I 0] h (exK [((.exit 0),λa h=>q (.tup []) h)]))
def oC(b:Nat):Ann:=(.n .x .o (.n .x .o (.n .x (.n (.l [12] [0,1,10,11] [((.exit 0),[],[])] []) .o .o) .o)))
theorem xX(C:CC)(h:Hp)(t0:V)(t1:V)(t2:V)(q:kkQ):fnI Y C Tryz.f116 0 oC [t0,t1,t2] h q=eQ C h.length h t0 t1 t2 q:=by rfl
theorem xV(b:Nat):okB Tryz.prog Tryz.f116 (oC b)=true:=by rfl
theorem xW(hh:eQ (CX Y) h.length h t0 t1 t2 (mN h.length v h2)):CI Y F.eQ [t0,t1,t2] h v h2:=
 CI.of (fn:=Tryz.f116) (m:=0) (a:=oC) rfl (λ_=>rfl) Tryz.func116 (xV _) (by rw[xX];exact hh)
def iS(C:CC)(b:Nat)(a c d:V):aP:=λl h q=>cIQ .lss (ge l 0) d (bxQ h 1 c (ge l 0) λc=>b1Q h c λc=>clQ C h F.mi [c] λc h=>bxQ h 1 a (ge l 0) λa=>stD h 1 a c λ_ h=>bIQ .add (ge l 0) (I 1) λa=>q .normal [a] h) (q (.exit 0) [] h)
def eJ(C:CC)(b:Nat)(h:Hp)(a:V)(q:kQ):Prop:=let h:Hp:=h++List.replicate 0 nnQ
 blQ a λc=>lp (iS C b a a c) [] h [I 0] h (exK [((.exit 0),λa h=>q (.tup []) h)])
def mP(b:Nat):Ann:=(.n .x .o (.n .x (.n (.l [6] [0,4,5] [((.exit 0),[],[])] []) .o .o) .o))
theorem vT(C:CC)(h:Hp)(t0:V)(q:kkQ):fnI Y C Tryz.f117 0 mP [t0] h q=eJ C h.length h t0 q:=by rfl
theorem vQ(b:Nat):okB Tryz.prog Tryz.f117 (mP b)=true:=by rfl
theorem vS(hh:eJ (CX Y) h.length h t0 (mN h.length v h2)):CI Y F.eJ [t0] h v h2:=
 CI.of (fn:=Tryz.f117) (m:=0) (a:=mP) rfl (λ_=>rfl) Tryz.func117 (vQ _) (by rw[vT];exact hh)
def gy(C:CC)(b:Nat)(a c:V):aP:=λl h q=>blQ a λd=>cIQ .lss (ge l 1) d (jn (λa h=>bIQ .add (ge l 1) (I 1) λc=>q .normal [ge a 0,c] h) λd=>bxQ h 1 a (ge l 1) λe=>b1Q h e λe=>bxQ h 1 e c λe=>b1Q h e λe=>bSQ .neq e (.d (.str [48])) λe=>gqQ e true h (ge l 0) λf h=>gbQ e true h (biI .lss f (I 0)) λf h=>gqQ e true h f λf h=>gqQ f false h a λg h=>gqQ f false h (ge l 1) λi h=>gbQ f false h (ixV h 1 g i) λg h=>gbQ f false h (ld1 h g) λg h=>gqQ f false h c λi h=>gbQ f false h (ixV h 1 g i) λg h=>gbQ f false h (ld1 h g) λg h=>gd f false h (λq=>clQ C h F.gA [g] q) λg h=>gqQ f false h a λa h=>gqQ f false h (ge l 0) λi h=>gbQ f false h (ixV h 1 a i) λa h=>gbQ f false h (ld1 h a) λa h=>gqQ f false h c λc h=>gbQ f false h (ixV h 1 a c) λa h=>gbQ f false h (ld1 h a) λa h=>gd f false h (λq=>clQ C h F.gA [a] q) λa h=>gd f false h (λq=>clQ C h F.fJ [g,a] q) λa h=>gbQ f false h (biI .lss a (I 0)) λa h=>gbQ e true h (nF f (B true) a) λa h=>bpQ e a (B false) λa=>jn (λa h=>d [ge a 0] h) λc=>cnd a (c [ge l 1] h) (c [ge l 0] h)) (q (.exit 4) [ge l 0] h)
def jD(C:CC)(b:Nat)(a c d:V):aP:=λl h q=>blQ a λe=>cIQ .lss (ge l 1) e (bxQ h 1 a (ge l 1) λe=>b1Q h e λe=>bxQ h 1 e d λe=>b1Q h e λe=>bxQ h 1 a c λf=>b1Q h f λf=>bxQ h 1 f d λd=>b1Q h d λd=>clQ C h F.bM [e,d] λd h=>e3Q d λd e f=>bxQ h 1 a (ge l 1) λf=>b1Q h f λf=>bxQ h 1 a c λa=>b1Q h a λa=>ciQ C h F.eQ [f,d,a] (b+0) λa h=>gqQ (ge l 0) false h e λa h=>gbQ (ge l 0) false h (biS .neq a (.d (.str [48]))) λa h=>bpQ (ge l 0) (B true) a λa=>bIQ .add (ge l 1) (I 1) λc=>q .normal [a,c] h) (q (.exit 6) [ge l 0] h)
def gv(C:CC)(b:Nat)(a c d e:V):aP:=λl h q=>cIQ .lss (ge l 0) e (bxQ h 1 a (ge l 0) λe=>b1Q h e λe=>bxQ h 1 e d λe=>b1Q h e λe=>bxQ h 1 a c λf=>b1Q h f λf=>bxQ h 1 f d λd=>b1Q h d λd=>clQ C h F.bM [e,d] λd h=>e3Q d λd e f=>bxQ h 1 a (ge l 0) λe=>b1Q h e λe=>bxQ h 1 a c λa=>b1Q h a λa=>ciQ C h F.eQ [e,d,a] (b+2) λa h=>bIQ .add (ge l 0) (I 1) λa=>q .normal [a] h) (q (.exit 8) [] h)
def mO(C:CC)(b:Nat)(a c:V):aP:=λl h q=>lp (gy C b a c) [] h [I (-1),ge l 0] h (exK [((.exit 4),λd h=>cIQ .lss (ge d 0) (I 0) (q (.exit 2) [ge l 0] h) (bxQ h 1 a (ge d 0) λe=>b1Q h e λe=>bxQ h 1 a (ge l 0) λf=>b1Q h f λf=>bxQ h 1 a (ge l 0) λg=>stD h 1 g e λ_ h=>bxQ h 1 a (ge d 0) λd=>stD h 1 d f λ_ h=>bIQ .add (ge l 0) (I 1) λd=>lp (jD C b a (ge l 0) c) [(b+0)] h [B false,d] h (exK [((.exit 6),λd h=>cnd (ge d 0) (q .normal [ge l 0] h) (bxQ h 1 a (ge l 0) λd=>b1Q h d λd=>bxQ h 1 d c λd=>b1Q h d λd=>clQ C h F.dN [d] λd h=>bIQ .lss d (I 0) λd=>jn (λd h=>lp (gv C b a (ge l 0) c (ge l 0)) [(b+2)] h [I 0] h (exK [((.exit 8),λa h=>bIQ .add (ge l 0) (I 1) λa=>q (.exit 2) [a] h)])) λc=>cnd d (bxQ h 1 a (ge l 0) λa=>b1Q h a λa=>ciQ C h F.eJ [a] (b+1) λa h=>c [] h) (c [] h)))])))])
def gz(C:CC)(b:Nat)(a c:V):aP:=λl h q=>bIQ .lss (ge l 1) c λc=>gqQ c true h (ge l 0) λd h=>gqQ c true h a λe h=>gbQ c true h (aQ e) λe h=>gbQ c true h (biI .lss d e) λd h=>bpQ c d (B false) λc=>cnd c (lp (mO C b a (ge l 1)) [(b+0),(b+1),(b+2)] h [ge l 0] h (exK [((.exit 2),λa h=>bIQ .add (ge l 1) (I 1) λc=>q .normal [ge a 0,c] h)])) (q (.exit 0) [ge l 0] h)
def bX(C:CC)(b:Nat)(h:Hp)(a c:V)(q:kQ):Prop:=let h:Hp:=h++List.replicate 3 nnQ
 lp (gz C b a c) [(b+0),(b+1),(b+2)] h [I 0,I 0] h (exK [((.exit 0),λc h=>bnd (slV h 1 a none (some (ge c 0))) λa=>q a h)])
def nJ(b:Nat):Ann:=(.n .x .o (.n .x .o (.n .x (.n .x .o (.n .x (.n (.l [5,6] [0,1] [((.exit 0),[5],[0])] [(b+0),(b+1),(b+2)]) (.n .x .o (.n .x (.n .x (.n .x (.n (.l [5] [0,1,6] [((.exit 2),[5],[0,1,6])] [(b+0),(b+1),(b+2)]) (.n .x (.n .x .o (.n .x (.n .x .o (.n .x (.n (.l [7,8] [0,1,5,6] [((.exit 4),[7],[0,1,5,6])] []) (.n .x .o (.n .x (.n (.j [7] [0,1,5,6,8]) (.n .x .o (.n (.j [7] [0,1,5,6,8]) .o .o)) .o) .o)) .o) .o)) (.n .x .o (.n .x .o (.n .x .o (.n .x (.n .x .o (.n .x (.n (.l [9,10] [0,1,5,6] [((.exit 6),[9],[0,1,5,6])] [(b+0)]) (.n .x .o (.n .x (.n .x (.n .x .o (.n .x (.n (.r [.inl (b+0)]) .o .o) .o)) .o) .o)) .o) .o)) (.n .x .o (.n .x (.n .x .o (.n (.j [] [0,1,5,6]) (.n (.r [.inl (b+1)]) .o .o) .o)) (.n .x (.n .x .o (.n .x (.n (.l [143] [0,1,5,6,142] [((.exit 8),[],[0,1,5,6])] [(b+2)]) (.n .x .o (.n .x .o (.n .x (.n .x (.n .x .o (.n .x .o (.n (.r [.inl (b+2)]) .o .o))) .o) .o))) .o) .o)) .o))))))))) .o) .o) .o) .o) .o)) .o) .o)) .o)))
theorem wZ(C:CC)(h:Hp)(t0:V)(t1:V)(q:kkQ):fnI Y C Tryz.f80 3 nJ [t0,t1] h q=bX C h.length h t0 t1 q:=by rfl
theorem wY(b:Nat):okB Tryz.prog Tryz.f80 (nJ b)=true:=by rfl
theorem qN(hh:bX (CX Y) h.length h t0 t1 (mN h.length v h2)):CI Y F.bX [t0,t1] h v h2:=
 CI.of (fn:=Tryz.f80) (m:=3) (a:=nJ) rfl (λ_=>rfl) Tryz.func80 (wY _) (by rw[wZ];exact hh)
def lY(C:CC)(b:Nat)(a c:V):aP:=λl h q=>cIQ .lss (ge l 1) c (bxQ h 1 a (ge l 1) λa=>b1Q h a λa=>anyS λs4=>ciQ C h F.fR [a] s4 λa h=>anyS λs6=>CW s6 1 [nPQ] [(0,a)] h λa h=>anyS λs8=>apW false s8 1 24 (ge l 0) a h λa h=>bIQ .add (ge l 1) (I 1) λc=>q .normal [a,c] h) (q (.exit 0) [ge l 0] h)
def cu(C:CC)(b:Nat)(h:Hp)(a:V)(q:kQ):Prop:=let h:Hp:=h++List.replicate 14 nnQ
 blQ a λc=>lp (lY C b a c) [] h [nSQ,I 0] h (exK [((.exit 0),λa h=>q (ge a 0) h)])
def pR(b:Nat):Ann:=(.n .x .o (.n .x .o (.n .x (.n .x .o (.n .x (.n (.l [3,8] [6,7] [((.exit 0),[3],[])] []) (.n .x .o (.n .x .o (.n .x (.n .x (.n .x .o (.n (.r [.anyI,.anyV,.anyV]) .o .o)) .o) .o))) .o) .o)) .o)))
theorem zV(C:CC)(h:Hp)(t0:V)(q:kkQ):fnI Y C Tryz.f79 14 pR [t0] h q=cu C h.length h t0 q:=by rfl
theorem zS(b:Nat):okB Tryz.prog Tryz.f79 (pR b)=true:=by rfl
theorem zU(hh:cu (CX Y) h.length h t0 (mN h.length v h2)):CI Y F.cu [t0] h v h2:=
 CI.of (fn:=Tryz.f79) (m:=14) (a:=pR) rfl (λ_=>rfl) Tryz.func79 (zS _) (by rw[zV];exact hh)
def jY(C:CC)(a c:V):aP:=λl h q=>cIQ .lss (ge l 1) c (bxQ h 1 a (ge l 1) λa=>b1Q h a λa=>anyS λs4=>ciQ C h F.fR [a] s4 λa h=>anyS λs6=>CW s6 1 [nPQ] [(0,a)] h λa h=>anyS λs8=>apW false s8 1 24 (ge l 0) a h λa h=>bIQ .add (ge l 1) (I 1) λc=>q .normal [a,c] h) (q (.exit 0) [ge l 0] h)
def tB(C:CC)(a:V)(q:kQ):Prop:=let h:Hp:=.replicate 14 nnQ
 blQ a λc=>lp (jY C a c) [] h [nSQ,I 0] h (exK [((.exit 0),λa h=>q (ge a 0) h)])
theorem xU(h:tB (CX Y) t0 (out v)):CP Y F.cu [t0] v:=CPo 14 (d7 (nCQ (aD (nCQ (.n (.l [3,8] [6,7] [((.exit 0),[3],[])] []) (d7 (nCQ (nCQ (aD (nRQ [.anyI,.anyV,.anyV]))))) .o))))) Tryz.func79 h
def fA(C:CC)(b:Nat)(a c d:V):aP:=λl h q=>cIQ .lss (ge l 1) d (jn (λa h=>bIQ .add (ge l 1) (I 1) λc=>q .normal [ge a 0,c] h) λd=>bxQ h 1 c (ge l 1) λc=>b1Q h c λc=>clQ C h F.ik [c] λe h=>bIQ .geq e a λe=>jn (λa h=>d [ge a 0] h) λd=>cnd e (bnd (slV h 1 c (some a) none) λa=>anyS λs12=>CW s12 1 [nPQ] [(0,a)] h λa h=>anyS λs14=>apW false s14 1 24 (ge l 0) a h λa h=>d [a] h) (d [ge l 0] h)) (q (.exit 0) [ge l 0] h)
def ci(C:CC)(b:Nat)(h:Hp)(a c d:V)(q:kQ):Prop:=let h:Hp:=h++List.replicate 2 nnQ
 blQ a λe=>lp (fA C b c a e) [] h [nSQ,I 0] h (exK [((.exit 0),λa h=>ciQ C h F.bX [ge a 0,d] (b+0) q)])
def lX(b:Nat):Ann:=(.n .x .o (.n .x .o (.n .x (.n .x .o (.n .x (.n (.l [7,12] [1,2,10,11] [((.exit 0),[7],[2])] []) (.n .x .o (.n .x .o (.n .x (.n (.j [7] [1,2,10,11,12]) (.n .x .o (.n .x .o (.n (.j [7] [1,2,10,11,12]) (.n (.r [.anyV,.anyV]) .o .o) .o))) .o) .o))) .o) .o)) (.n .x (.n (.r [.inl (b+0)]) .o .o) .o))))
theorem vd(C:CC)(h:Hp)(t0:V)(t1:V)(t2:V)(q:kkQ):fnI Y C Tryz.f121 2 lX [t0,t1,t2] h q=ci C h.length h t0 t1 t2 q:=by rfl
theorem u9(b:Nat):okB Tryz.prog Tryz.f121 (lX b)=true:=by rfl
theorem pQ(hh:ci (CX Y) h.length h t0 t1 t2 (mN h.length v h2)):CI Y F.ci [t0,t1,t2] h v h2:=
 CI.of (fn:=Tryz.f121) (m:=2) (a:=lX) rfl (λ_=>rfl) Tryz.func121 (u9 _) (by rw[vd];exact hh)
def ii(C:CC)(a c d:V):aP:=λl h q=>cIQ .lss (ge l 1) d (bxQ h 1 c (ge l 1) λc=>b1Q h c λc=>bxQ h 1 c a λa=>b1Q h a λa=>cY 1 [.str []] [(0,a)] h λa h=>anyS λs7=>apV false s7 1 16 (ge l 0) a h λa h=>bIQ .add (ge l 1) (I 1) λc=>q .normal [a,c] h) (q (.exit 2) [ge l 0] h)
def ij(C:CC)(a c d:V):aP:=λl h q=>cIQ .lss (ge l 1) d (blQ a λd=>lp (ii C (ge l 1) a d) [] h [nSQ,I 0] h (exK [((.exit 2),λa h=>ciQ C h F.km [c] 0 λc h=>bxQ h 1 c (ge l 1) λd=>stD h 1 d (.d (.str [49])) λ_ h=>anyS λs7=>apV false s7 1 16 (ge a 0) c h λa h=>anyS λs9=>CW s9 1 [nPQ] [(0,a)] h λa h=>anyS λs11=>apW false s11 1 24 (ge l 0) a h λa h=>bIQ .add (ge l 1) (I 1) λc=>q .normal [a,c] h)])) (q (.exit 0) [ge l 0] h)
def cQ(C:CC)(a c:V)(q:kQ):Prop:=let h:Hp:=.replicate 19 nnQ
 lp (ij C a c c) [0] h [nSQ,I 0] h (exK [((.exit 0),λd h=>blQ a λe=>bIQ .add e c λe=>ciQ C h F.bX [ge d 0,e] 1 λd h=>blQ a λa=>ciQ C h F.ci [d,a,c] 2 q)])
theorem u7(h:cQ (CX Y) t0 t1 (out v)):CP Y F.cQ [t0,t1] v:=CPo 19 (d7 (nBQ (aD (nCQ (.n (.l [5,12] [0,1,11] [((.exit 0),[5],[0,1])] [0]) (d7 (nCQ (nCQ (d7 (nBQ (aD (nCQ (.n (.l [7,17] [0,1,5,6,11,12,15,16] [((.exit 2),[7],[0,1,5,6,11,12])] []) (d7 (nCQ (nCQ (aD (nRQ [.o,.anyS]))))) .o))) (nBQ (nRQ [.inl 0]) (aD (nRQ [.anyS,.anyV,.anyV])))))))) .o))) (nCQ (nRQ [.inl 1,.inl 2])))) Tryz.func83 h
def ik(C:CC)(a:V)(q:kQ):Prop:=let h:Hp:=[]
 clQ C h F.cr [a,(.fn F.dQ [] [])] q
theorem xY(h:ik (CX Y) t0 (out v)):CP Y F.ik [t0] v:=CPo 0 .o Tryz.func158 h
def dQ(C:CC)(a:V)(q:kQ):Prop:=let h:Hp:=[]
 bSQ .neq a (.d (.str [48])) λa=>q a h
theorem vf(h:dQ (CX Y) t0 (out v)):CP Y F.dQ [t0] v:=CPo 0 .o Tryz.func188 h
def mI(C:CC)(a c d:V):aP:=λl h q=>cIQ .lss (ge l 0) d (bxQ h 1 a (ge l 0) λa=>b1Q h a λa=>cal C.p h c [a] λa h=>cnd a (q .ret [ge l 0] h) (bIQ .add (ge l 0) (I 1) λa=>q .normal [a] h)) (q (.exit 0) [] h)
def cr(C:CC)(a c:V)(q:kQ):Prop:=let h:Hp:=[]
 blQ a λd=>lp (mI C a c d) [] h [I 0] h (exK [((.exit 0),λa h=>q (I (-1)) h),(.ret,λa h=>q (ge a 0) h)])
theorem nh(h:cr (CX Y) t0 t1 (out v)):CP Y F.cr [t0,t1] v:=CPo 0 (aD (nCQ (aD (nCQ (.n (.l [8] [0,1,7] [((.exit 0),[],[]),(.ret,[4],[])] []) .o .o))))) Tryz.func187 h
def jE(C:CC)(a c:V):aP:=λl h q=>cIQ .lss (ge l 1) c (bxQ h 1 a (ge l 1) λa=>b1Q h a λa=>clQ C h F.lJ [a] λa h=>e2Q a λa c=>bnd (unV .not c) λc=>gqQ c false h a λd h=>gbQ c false h (biI .gtr d (I 1000000000)) λd h=>bpQ c (B true) d λc=>gqQ c false h a λd h=>gbQ c false h (biI .lss d (I (-1000000000))) λd h=>bpQ c (B true) d λc=>cnd c (q .ret [nSQ,I 4] h) (a1Q 1 (ge l 0) a h λa h=>bIQ .add (ge l 1) (I 1) λc=>q .normal [a,c] h)) (q (.exit 0) [ge l 0] h)
def gH(C:CC)(a:V)(q:kQ):Prop:=let h:Hp:=.replicate 2 nnQ
 blQ a λc=>mkS 0 8 [.int .i64 0] h (I 0) c λc h=>blQ a λd=>lp (jE C a d) [] h [c,I 0] h (exK [((.exit 0),λa h=>q (.tup [ge a 0,I 0]) h),(.ret,λa h=>q (.tup [ge a 0,ge a 1]) h)])
theorem w5(h:gH (CX Y) t0 (out v)):CP Y F.gH [t0] v:=CPo 2 (aD (nBQ (nRQ [.slot 0]) (nCQ (aD (nCQ (.n (.l [4,14] [12,13] [((.exit 0),[4],[]),(.ret,[2,3],[])] []) (d7 (nCQ (nCQ (Fj (nRQ [.o,.slot 1]))))) .o)))))) Tryz.func118 h
def iR(C:CC)(a c d e:V):aP:=λl h q=>cIQ .lss (ge l 0) e (bxQ h 1 d (ge l 0) λd=>b1Q h d λd=>clQ C h F.gH [d] λd h=>e2Q d λd e=>nzQ e (bnd (bld [(0,1),(1,1)] [.int .i64 0,nPQ] []) λc=>stD h 2 a c λ_ h=>q .ret [e] h) (bfQ 1 c λa=>b1Q h a λa=>cY 1 [nPQ] [(0,d)] h λd h=>apV false 2 1 24 a d h λa h=>bfQ 1 c λc=>stD h 1 c a λ_ h=>bIQ .add (ge l 0) (I 1) λa=>q .normal [a] h)) (q (.exit 0) [] h)
def dp(C:CC)(a c:V)(q:kQ):Prop:=let h:Hp:=.replicate 3 nnQ
 alV 0 [.d (.int .i64 0),.d nPQ] h λd h=>bnd (bld [(0,1),(1,1)] [.int .i64 0,nPQ] [(0,c)]) λc=>alV 1 [.d (.int .i64 0),.d nPQ] h λe h=>stD h 2 e c λ_ h=>blQ a λc=>lp (iR C d e a c) [] h [I 0] h (exK [((.exit 0),λa h=>bnd (ldA h 2 e) λa=>stD h 2 d a λ_ h=>bnd (ldA h 2 d) λa=>q (.tup [a,I 0]) h),(.ret,λa h=>bnd (ldA h 2 d) λc=>q (.tup [c,ge a 0]) h)])
theorem vP(h:dp (CX Y) t0 t1 (out v)):CP Y F.dp [t0,t1] v:=CPo 3 (nBQ (nRQ [.slot 0]) (nBQ (nRQ [.slot 1]) (nCQ (aD (nCQ (.n (.l [15] [4,6,13,14] [((.exit 0),[],[4,6]),(.ret,[5],[4])] []) (d7 (nCQ (nCQ (Fj (nRQ [.o,.slot 2]))))) .o)))))) Tryz.func81 h
def gI(C:CC)(a:V)(q:kQ):Prop:=let h:Hp:=.replicate 2 nnQ
 fj 0 a h λa h=>alV 1 [.d (.int .i64 0),.d nPQ] h λc h=>bnd (ldA h 2 a) λd=>clQ C h F.ja [d] λd h=>nzQ d (bnd (bld [(0,1),(1,1)] [.int .i64 0,nPQ] []) λa=>stD h 2 c a λ_ h=>bnd (ldA h 2 c) λa=>q (.tup [a,d]) h) (bfQ 1 a λd=>b1Q h d λd=>clQ C h F.cu [d] λd h=>bfQ 0 a λe=>b1Q h e λe=>clQ C h F.cQ [d,e] λd h=>bfQ 0 a λe=>b1Q h e λe=>clQ C h F.cQ [d,e] λd h=>bfQ 0 a λa=>b1Q h a λa=>clQ C h F.dp [d,a] λa h=>e2Q a λa d=>stD h 2 c a λ_ h=>bnd (ldA h 2 c) λa=>q (.tup [a,d]) h)
theorem yL(h:gI (CX Y) t0 (out v)):CP Y F.gI [t0] v:=CPo 2 (nCQ (nRQ [.slot 0,.slot 1])) Tryz.func50 h
def eM(C:CC)(a:V)(q:kQ):Prop:=let h:Hp:=.replicate 2 nnQ
 fj 0 a h λa h=>alV 1 [.d (.int .i64 0),.d nPQ] h λc h=>bnd (ldA h 2 a) λd=>clQ C h F.ja [d] λd h=>nzQ d (bnd (bld [(0,1),(1,1)] [.int .i64 0,nPQ] []) λa=>stD h 2 c a λ_ h=>bnd (ldA h 2 c) λa=>q (.tup [a,d]) h) (bfQ 1 a λd=>b1Q h d λd=>clQ C h F.cu [d] λd h=>bfQ 0 a λe=>b1Q h e λe=>clQ C h F.cQ [d,e] λd h=>bfQ 0 a λa=>b1Q h a λa=>clQ C h F.dp [d,a] λa h=>e2Q a λa d=>stD h 2 c a λ_ h=>bnd (ldA h 2 c) λa=>q (.tup [a,d]) h)
theorem vU(h:eM (CX Y) t0 (out v)):CP Y F.eM [t0] v:=CPo 2 (nCQ (nRQ [.slot 0,.slot 1])) Tryz.func51 h
def qq(C:CC)(a c:V)(q:kQ):Prop:=let h:Hp:=.replicate 16 nnQ
 alV 0 [.d (.int .i64 0),.d nPQ] h λd h=>clQ C h F.ko [a,c] λe h=>nzQ e (bnd (bld [(0,1),(1,1)] [.int .i64 0,nPQ] []) λa=>stD h 2 d a λ_ h=>bnd (ldA h 2 d) λa=>q (.tup [a,e]) h) (ciQ C h F.cu [c] 1 λc h=>ciQ C h F.bX [c,a] 2 λc h=>clQ C h F.dp [c,a] λa h=>e2Q a λa c=>stD h 2 d a λ_ h=>bnd (ldA h 2 d) λa=>q (.tup [a,c]) h)
theorem JK(h:qq (CX Y) t0 t1 (out v)):CP Y F.qq [t0,t1] v:=CPo 16 (nBQ (nRQ [.slot 0]) (aD (nCQ (nRQ [.inl 1,.inl 2])))) Tryz.func49 h
def ko(C:CC)(a c:V)(q:kQ):Prop:=let h:Hp:=[]
 bIQ .lss a (I 0) λd=>gqQ d false h a λe h=>gbQ d false h (biI .gtr e (I 12)) λe h=>bpQ d (B true) e λd=>cnd d (q (I 3) h) (blQ c λd=>cIQ .gtr d (I 12) (q (I 4) h) (clQ C h F.od [c,a] q))
theorem C4(h:ko (CX Y) t0 t1 (out v)):CP Y F.ko [t0,t1] v:=CPo 0 .o Tryz.func78 h
def ja(C:CC)(a:V)(q:kQ):Prop:=let h:Hp:=.replicate 1 nnQ
 fj 0 a h λa h=>bfQ 0 a λc=>b1Q h c λc=>bfQ 1 a λd=>b1Q h d λd=>clQ C h F.ko [c,d] λc h=>nzQ c (q c h) (bfQ 1 a λa=>b1Q h a λa=>clQ C h F.lu [a] λa h=>e2Q a λa c=>bIQ .neq c (I 0) λc=>gqQ c false h a λa h=>gbQ c false h (unV .not a) λa h=>bpQ c (B true) a λa=>cnd a (q (I 7) h) (q (I 0) h))
theorem C6(h:ja (CX Y) t0 (out v)):CP Y F.ja [t0] v:=CPo 1 (nCQ (nRQ [.slot 0])) Tryz.func82 h
def kr(C:CC)(a c:V)(q:kQ):Prop:=let h:Hp:=.replicate 2 nnQ
 fj 0 a h λa h=>fj 1 c h λc h=>bfQ 0 a λd=>b1Q h d λd=>bfQ 0 c λe=>b1Q h e λe=>bIQ .eql d e λd=>gbQ d true h (faV 1 a) λa h=>gbQ d true h (ld1 h a) λa h=>gbQ d true h (faV 1 c) λc h=>gbQ d true h (ld1 h c) λc h=>gd d true h (λq=>clQ C h F.au [a,c,(.fn F.qk [] [])] q) λa h=>bpQ d a (B false) λa=>q a h
theorem C5(h:kr (CX Y) t0 t1 (out v)):CP Y F.kr [t0,t1] v:=CPo 2 (nCQ (nRQ [.slot 0,.slot 1])) Tryz.func122 h
def aI(C:CC)(a c d e:V):aP:=λl h q=>cIQ .lss (ge l 0) e (bxQ h 1 d (ge l 0) λd=>b1Q h d λd=>bxQ h 1 a (ge l 0) λa=>b1Q h a λa=>cal C.p h c [d,a] λa h=>bnd (unV .not a) λa=>cnd a (q .ret [B false] h) (bIQ .add (ge l 0) (I 1) λa=>q .normal [a] h)) (q (.exit 0) [] h)
def au(C:CC)(a c d:V)(q:kQ):Prop:=let h:Hp:=[]
 blQ a λe=>blQ c λf=>cIQ .neq e f (q (B false) h) (blQ a λe=>lp (aI C c d a e) [] h [I 0] h (exK [((.exit 0),λa h=>q (B true) h),(.ret,λa h=>q (ge a 0) h)]))
theorem gU(h:au (CX Y) t0 t1 t2 (out v)):CP Y F.au [t0,t1,t2] v:=CPo 0 (d7 (nCQ (aD (nCQ (.n (.l [17] [1,2,15,16] [((.exit 0),[],[]),(.ret,[6],[])] []) .o .o))))) Tryz.func159 h
def qK(C:CC)(a:V)(q:kQ):Prop:=let h:Hp:=[]
 bIQ .geq a (I (-1000000000)) λc=>gqQ c true h a λa h=>gbQ c true h (biI .leq a (I 1000000000)) λa h=>bpQ c a (B false) λa=>q a h
theorem NS(h:qK (CX Y) t0 (out v)):CP Y F.qK [t0] v:=CPo 0 .o Tryz.func126 h
def oc(C:CC)(a:V)(q:kQ):Prop:=let h:Hp:=[]
 clQ C h F.qK [a] λa h=>bnd (unV .not a) λa=>q a h
theorem EK(h:oc (CX Y) t0 (out v)):CP Y F.oc [t0] v:=CPo 0 .o Tryz.func125 h
def pu(C:CC)(a:V)(q:kQ):Prop:=let h:Hp:=[]
 blQ a λc=>bIQ .gtr c (I 64) λc=>gqQ c false h a λa h=>gd c false h (λq=>clQ C h F.ba [a,(.fn F.oc [] [])] q) λa h=>bpQ c (B true) a λa=>cnd a (q (I 4) h) (q (I 0) h)
theorem Lu(h:pu (CX Y) t0 (out v)):CP Y F.pu [t0] v:=CPo 0 .o Tryz.func85 h
def qk(C:CC)(a c:V)(q:kQ):Prop:=let h:Hp:=[]
 clQ C h F.bU [a,c] q
theorem Lt(h:qk (CX Y) t0 t1 (out v)):CP Y F.qk [t0,t1] v:=CPo 0 .o Tryz.func160 h
def bD(C:CC)(a c d:V):aP:=λl h q=>cIQ .lss (ge l 0) d (bxQ h 2 a (ge l 0) λa=>bnd (ldA h 2 a) λa=>cal C.p h c [a] λa h=>cnd a (q .ret [ge l 0] h) (bIQ .add (ge l 0) (I 1) λa=>q .normal [a] h)) (q (.exit 0) [] h)
def aU(C:CC)(a c:V)(q:kQ):Prop:=let h:Hp:=[]
 blQ a λd=>lp (bD C a c d) [] h [I 0] h (exK [((.exit 0),λa h=>q (I (-1)) h),(.ret,λa h=>q (ge a 0) h)])
theorem kV(h:aU (CX Y) t0 t1 (out v)):CP Y F.aU [t0,t1] v:=CPo 0 (aD (nCQ (aD (nCQ (.n (.l [8] [0,1,7] [((.exit 0),[],[]),(.ret,[4],[])] []) .o .o))))) Tryz.func196 h
def aG(C:CC)(a c:V)(q:kQ):Prop:=let h:Hp:=[]
 clQ C h F.aU [a,c] λa h=>bIQ .geq a (I 0) λa=>q a h
theorem jP(h:aG (CX Y) t0 t1 (out v)):CP Y F.aG [t0,t1] v:=CPo 0 .o Tryz.func174 h
def bV(C:CC)(a c d:V):aP:=λl h q=>cIQ .lss (ge l 0) d (bxQ h 2 a (ge l 0) λa=>bnd (ldA h 2 a) λa=>cal C.p h c [a] λa h=>cnd a (q .ret [ge l 0] h) (bIQ .add (ge l 0) (I 1) λa=>q .normal [a] h)) (q (.exit 0) [] h)
def bB(C:CC)(a c:V)(q:kQ):Prop:=let h:Hp:=[]
 blQ a λd=>lp (bV C a c d) [] h [I 0] h (exK [((.exit 0),λa h=>q (I (-1)) h),(.ret,λa h=>q (ge a 0) h)])
theorem mJ(h:bB (CX Y) t0 t1 (out v)):CP Y F.bB [t0,t1] v:=CPo 0 (aD (nCQ (aD (nCQ (.n (.l [8] [0,1,7] [((.exit 0),[],[]),(.ret,[4],[])] []) .o .o))))) Tryz.func208 h
def aK(C:CC)(a c:V)(q:kQ):Prop:=let h:Hp:=[]
 clQ C h F.bB [a,c] λa h=>bIQ .geq a (I 0) λa=>q a h
theorem lG(h:aK (CX Y) t0 t1 (out v)):CP Y F.aK [t0,t1] v:=CPo 0 .o Tryz.func197 h
def jR(C:CC)(a:V)(q:kQ):Prop:=let h:Hp:=.replicate 1 nnQ
 alV 0 [.d (.str []),.d (.str [])] h λc h=>clQ C h F.eu [a] λa h=>bnd (bld [(0,1),(1,1)] [.str [],.str []] [(0,a),(1,(.d (.str [49])))]) λa=>stD h 2 c a λ_ h=>bnd (ldA h 2 c) λa=>q a h
theorem GC(h:jR (CX Y) t0 (out v)):CP Y F.jR [t0] v:=CPo 1 (nCQ (nRQ [.slot 0])) Tryz.func113 h
def rL(C:CC)(b:Nat)(a c:V):aP:=λl h q=>cIQ .lss (ge l 0) c (clQ C h F.jR [I 0] λc h=>bxQ h 2 a (ge l 0) λa=>stD h 2 a c λ_ h=>bIQ .add (ge l 0) (I 1) λa=>q .normal [a] h) (q (.exit 0) [] h)
def pm(C:CC)(b:Nat)(h:Hp)(a:V)(q:kQ):Prop:=let h:Hp:=h++List.replicate 1 nnQ
 mkS (b+0) 32 [.str [],.str []] h a a λa h=>blQ a λc=>lp (rL C b a c) [] h [I 0] h (exK [((.exit 0),λc h=>q a h)])
def wI(b:Nat):Ann:=(.n .x .o (.n .x (.n (.r [.slot (b+0)]) .o .o) (.n .x (.n .x .o (.n .x (.n (.l [9] [3,8] [((.exit 0),[],[3])] []) .o .o) .o)) .o)))
theorem La(C:CC)(h:Hp)(t0:V)(q:kkQ):fnI Y C Tryz.f154 1 wI [t0] h q=pm C h.length h t0 q:=by rfl
theorem K8(b:Nat):okB Tryz.prog Tryz.f154 (wI b)=true:=by rfl
theorem K9(hh:pm (CX Y) h.length h t0 (mN h.length v h2)):CI Y F.pm [t0] h v h2:=
 CI.of (fn:=Tryz.f154) (m:=1) (a:=wI) rfl (λ_=>rfl) Tryz.func154 (K8 _) (by rw[La];exact hh)
def qH(C:CC)(a c d e f:V):aP:=λl h q=>cIQ .lss (ge l 0) f (bxQ h 2 e (ge l 0) λe=>bnd (ldA h 2 e) λe=>alV 1 [.d (.str []),.d (.str [])] h λf h=>stD h 2 f e λ_ h=>bxQ h 2 c (ge l 0) λe=>bnd (ldA h 2 e) λe=>bnd (ldA h 2 f) λf=>bxQ h 2 a d λa=>bnd (ldA h 2 a) λa=>clQ C h F.j7 [f,a] λa h=>clQ C h F.fh [e,a] λa h=>bxQ h 2 c (ge l 0) λc=>stD h 2 c a λ_ h=>bIQ .add (ge l 0) (I 1) λa=>q .normal [a] h) (q (.exit 2) [] h)
def tg(C:CC)(a c d e:V):aP:=λl h q=>cIQ .lss (ge l 0) e (bxQ h 1 d (ge l 0) λd=>b1Q h d λd=>blQ d λe=>lp (qH C a c (ge l 0) d e) [1] h [I 0] h (exK [((.exit 2),λa h=>bIQ .add (ge l 0) (I 1) λa=>q .normal [a] h)])) (q (.exit 0) [] h)
def qI(C:CC)(a c d:V)(q:kQ):Prop:=let h:Hp:=.replicate 2 nnQ
 ciQ C h F.pm [a] 0 λa h=>blQ c λe=>lp (tg C d a c e) [1] h [I 0] h (exK [((.exit 0),λc h=>q a h)])
def yw:Ann:=(aD (nBQ (nRQ [.inl 0]) (nCQ (aD (nCQ (.n (.l [16] [2,7,14,15] [((.exit 0),[],[7])] [1]) (d7 (nCQ (nCQ (d7 (nCQ (.n (.l [23] [2,7,8,14,15,16,21,22] [((.exit 2),[],[2,7,14,15,16])] [1]) (d7 (nCQ (nCQ (nCQ (nRQ [.slot 1]))))) .o)))))) .o))))))
theorem NP(C:CC)(t0:V)(t1:V)(t2:V)(q:kkQ):fnD Y C Tryz.f112 2 yw [t0,t1,t2] q=qI C t0 t1 t2 q:=by kernel_rfl
theorem NN:okB Tryz.prog Tryz.f112 yw=true:=aJ
theorem NO(h:qI (CX Y) t0 t1 t2 (out v)):CP Y F.qI [t0,t1,t2] v:=
 CP.of (fn:=Tryz.f112) (m:=2) (a:=yw) rfl (λ_=>rfl) Tryz.func112 NN (by rw[NP];exact h)
def nZ(C:CC)(a c d:V):aP:=λl h q=>cIQ .lss (ge l 0) d (bxQ h 1 c (ge l 0) λc=>b1Q h c λc=>clQ C h F.lV [a,c] λa h=>nzQ a (q .ret [a] h) (bIQ .add (ge l 0) (I 1) λa=>q .normal [a] h)) (q (.exit 0) [] h)
def iY(C:CC)(a c:V)(q:kQ):Prop:=let h:Hp:=[]
 clQ C h F.fx [a] λd h=>nzQ d (q d h) (blQ c λd=>lp (nZ C a c d) [] h [I 0] h (exK [((.exit 0),λa h=>q (I 0) h),(.ret,λa h=>q (ge a 0) h)]))
theorem CN(h:iY (CX Y) t0 t1 (out v)):CP Y F.iY [t0,t1] v:=CPo 0 (d7 (nCQ (aD (nCQ (.n (.l [16] [0,14,15] [((.exit 0),[],[]),(.ret,[4],[])] []) .o .o))))) Tryz.func75 h
def pn(C:CC)(a:V)(q:kQ):Prop:=let h:Hp:=[]
 clQ C h F.aK [a,(.fn F.jq [] [])] λc h=>cnd c (q (.tup [nSQ,I 4]) h) (q (.tup [a,I 0]) h)
theorem GB(h:pn (CX Y) t0 (out v)):CP Y F.pn [t0] v:=CPo 0 .o Tryz.func176 h
def jq(C:CC)(a:V)(q:kQ):Prop:=let h:Hp:=.replicate 1 nnQ
 fj 0 a h λa h=>bnd (ldA h 2 a) λa=>clQ C h F.nB [a] λa h=>bnd (unV .not a) λa=>q a h
theorem Bc(h:jq (CX Y) t0 (out v)):CP Y F.jq [t0] v:=CPo 1 (nCQ (nRQ [.slot 0])) Tryz.func198 h
def nY(C:CC)(a c d:V)(q:kQ):Prop:=let h:Hp:=[]
 clQ C h F.iY [a,c] λe h=>nzQ e (q (.tup [nSQ,e]) h) (blQ d λe=>blQ c λf=>cIQ .neq e f (q (.tup [nSQ,I 5]) h) (clQ C h F.aG [d,(.fn F.iz [] [])] λe h=>cnd e (q (.tup [nSQ,I 2]) h) (blQ a λa=>clQ C h F.qI [a,c,d] λa h=>clQ C h F.pn [a] λa h=>e2Q a λa c=>q (.tup [a,c]) h)))
theorem ED(h:nY (CX Y) t0 t1 t2 (out v)):CP Y F.nY [t0,t1,t2] v:=CPo 0 .o Tryz.func141 h
def iz(C:CC)(a:V)(q:kQ):Prop:=let h:Hp:=.replicate 1 nnQ
 fj 0 a h λa h=>bnd (ldA h 2 a) λa=>clQ C h F.gY [a] λa h=>bIQ .neq a (I 0) λa=>q a h
theorem zy(h:iz (CX Y) t0 (out v)):CP Y F.iz [t0] v:=CPo 1 (nCQ (nRQ [.slot 0])) Tryz.func175 h
def qj(C:CC)(a c d:V)(q:kQ):Prop:=let h:Hp:=.replicate 1 nnQ
 fj 0 d h λd h=>cY 1 [nPQ] [(0,c)] h λc h=>bnd (ldA h 2 d) λd=>cY 1 [.str [],.str []] [(0,d)] h λd h=>clQ C h F.nY [a,c,d] λa h=>e2Q a λa c=>q (.tup [a,c]) h
theorem IZ(h:qj (CX Y) t0 t1 t2 (out v)):CP Y F.qj [t0,t1,t2] v:=CPo 1 (nCQ (nRQ [.slot 0])) Tryz.func99 h
def qi(C:CC)(b:Nat)(h:Hp)(a:V)(q:kQ):Prop:=let h:Hp:=h++List.replicate 1 nnQ
 clQ C h F.fx [a] λc h=>nzQ c (q (.tup [nSQ,c]) h) (blQ a λa=>ciQ C h F.pm [a] (b+0) λa h=>q (.tup [a,I 0]) h)
def wJ(b:Nat):Ann:=(.n .x .o (.n .x .o (.n .x (.n (.r [.inl (b+0)]) .o .o) .o)))
theorem Lf(C:CC)(h:Hp)(t0:V)(q:kkQ):fnI Y C Tryz.f140 1 wJ [t0] h q=qi C h.length h t0 q:=by rfl
theorem Ld(b:Nat):okB Tryz.prog Tryz.f140 (wJ b)=true:=by rfl
theorem Le(hh:qi (CX Y) h.length h t0 (mN h.length v h2)):CI Y F.qi [t0] h v h2:=
 CI.of (fn:=Tryz.f140) (m:=1) (a:=wJ) rfl (λ_=>rfl) Tryz.func140 (Ld _) (by rw[Lf];exact hh)
def po(C:CC)(a:V)(q:kQ):Prop:=let h:Hp:=.replicate 1 nnQ
 ciQ C h F.qi [a] 0 λa h=>e2Q a λa c=>nzQ c (q (.tup [nSQ,c]) h) (clQ C h F.jR [I 1] λc h=>bxQ h 2 a (I 0) λd=>stD h 2 d c λ_ h=>q (.tup [a,I 0]) h)
theorem GD(h:po (CX Y) t0 (out v)):CP Y F.po [t0] v:=CPo 1 (aD (nCQ (nRQ [.inl 0]))) Tryz.func98 h
def fF(C:CC)(a c d:V):aP:=λl h q=>cIQ .lss (ge l 0) d (bxQ h 1 a (ge l 0) λa=>b1Q h a λa=>bxQ h 1 c (ge l 0) λc=>b1Q h c λc=>cIQ .neq a c (q .ret [B false] h) (bIQ .add (ge l 0) (I 1) λa=>q .normal [a] h)) (q (.exit 0) [] h)
def bU(C:CC)(a c:V)(q:kQ):Prop:=let h:Hp:=[]
 blQ a λd=>blQ c λe=>cIQ .neq d e (q (B false) h) (blQ a λd=>lp (fF C a c d) [] h [I 0] h (exK [((.exit 0),λa h=>q (B true) h),(.ret,λa h=>q (ge a 0) h)]))
theorem sJ(h:bU (CX Y) t0 t1 (out v)):CP Y F.bU [t0,t1] v:=CPo 0 (d7 (nCQ (aD (nCQ (.n (.l [13] [0,1,12] [((.exit 0),[],[]),(.ret,[4],[])] []) .o .o))))) Tryz.func162 h
def nI(C:CC)(a c:V)(q:kQ):Prop:=let h:Hp:=[]
 cY 1 [nPQ] [(0,c)] h λc h=>clQ C h F.jv [a,c] q
theorem GJ(h:nI (CX Y) t0 t1 (out v)):CP Y F.nI [t0,t1] v:=CPo 0 .o Tryz.func9 h
def mZ(C:CC)(a c:V):aP:=λl h q=>cIQ .lss (ge l 0) c (bxQ h 1 a (ge l 0) λa=>b1Q h a λa=>bIQ .gtr a (I 1000) λc=>gqQ c false h a λa h=>gbQ c false h (biI .lss a (I (-1000))) λa h=>bpQ c (B true) a λa=>cnd a (q .ret [I 4] h) (bIQ .add (ge l 0) (I 1) λa=>q .normal [a] h)) (q (.exit 2) [] h)
def jW(C:CC)(a c d:V):aP:=λl h q=>cIQ .lss (ge l 0) d (bxQ h 1 c (ge l 0) λc=>b1Q h c λc=>blQ c λd=>blQ a λa=>cIQ .neq d a (q .ret [I 5] h) (blQ c λa=>lp (mZ C c a) [] h [I 0] h (exK [((.exit 2),λa h=>bIQ .add (ge l 0) (I 1) λa=>q .normal [a] h),(.ret,λa h=>q .ret [ge a 0] h)]))) (q (.exit 0) [] h)
def jv(C:CC)(a c:V)(q:kQ):Prop:=let h:Hp:=[]
 clQ C h F.fx [a] λd h=>nzQ d (q d h) (blQ c λd=>lp (jW C a c d) [] h [I 0] h (exK [((.exit 0),λa h=>q (I 0) h),(.ret,λa h=>q (ge a 0) h)]))
theorem Bv(h:jv (CX Y) t0 t1 (out v)):CP Y F.jv [t0,t1] v:=CPo 0 (d7 (nCQ (aD (nCQ (.n (.l [17] [0,15,16] [((.exit 0),[],[]),(.ret,[4],[])] []) (d7 (nCQ (nCQ (Fj (nCQ (.n (.l [28] [0,15,16,17,26,27] [((.exit 2),[],[0,15,16,17]),(.ret,[4],[])] []) .o .o)))))) .o))))) Tryz.func25 h
def sd(C:CC)(a c:V)(q:kQ):Prop:=let h:Hp:=[]
 clQ C h F.kh [a,c] λd h=>nzQ d (q (.tup [I 0,d]) h) (clQ C h F.jQ [a,c] λa h=>clQ C h F.fe [a] λa h=>q (.tup [a,I 0]) h)
theorem Lh(h:sd (CX Y) t0 t1 (out v)):CP Y F.sd [t0,t1] v:=CPo 0 .o Tryz.func15 h
def nW(C:CC)(a c d:V)(q:kQ):Prop:=let h:Hp:=[]
 blQ a λe=>cY 2 [nPQ] [(0,c),(1,d)] h λc h=>clQ C h F.jR [I 1] λd h=>clQ C h F.jR [I (-1)] λf h=>cY 2 [.str [],.str []] [(0,d),(1,f)] h λd h=>clQ C h F.qI [e,c,d] λc h=>clQ C h F.jQ [a,c] λa h=>clQ C h F.fe [a] q
theorem EB(h:nW (CX Y) t0 t1 t2 (out v)):CP Y F.nW [t0,t1,t2] v:=CPo 0 .o Tryz.func76 h
def nX(C:CC)(a c d:V)(q:kQ):Prop:=let h:Hp:=[]
 cY 2 [nPQ] [(0,c),(1,d)] h λe h=>clQ C h F.iY [a,e] λe h=>nzQ e (q (.tup [I 0,e]) h) (clQ C h F.nW [a,c,d] λa h=>q (.tup [a,I 0]) h)
theorem EC(h:nX (CX Y) t0 t1 t2 (out v)):CP Y F.nX [t0,t1,t2] v:=CPo 0 .o Tryz.func45 h
def eF(C:CC)(a:V)(q:kQ):Prop:=let h:Hp:=[]
 cY 3 [.int .i64 0] [(0,(I 2)),(1,(I 3)),(2,(I 5))] h λc h=>cY 4 [.int .i64 0] [(0,(I 2)),(1,(I 3)),(2,(I 5)),(3,(I 7))] h λd h=>cY 2 [.int .i64 0] [(0,(I 2)),(1,(I 3))] h λe h=>cY 3 [.int .i64 0] [(0,(I 2)),(1,(I 3)),(2,(I 7))] h λf h=>cY 3 [.int .i64 0] [(0,(I 2)),(1,(I 5)),(2,(I 7))] h λg h=>cY 3 [.int .i64 0] [(0,(I 3)),(1,(I 5)),(2,(I 7))] h λi h=>cY 4 [.int .i64 0] [(0,(I 2)),(1,(I 3)),(2,(I 5)),(3,(I 11))] h λj h=>cY 1 [.int .i64 0] [(0,(I 2))] h λk h=>cY 4 [.int .i64 0] [(0,(I 2)),(1,(I 3)),(2,(I 7)),(3,(I 13))] h λl h=>cY 4 [.int .i64 0] [(0,(I 3)),(1,(I 5)),(2,(I 7)),(3,(I 13))] h λm h=>cY 10 [nPQ] [(0,c),(1,d),(2,e),(3,f),(4,g),(5,i),(6,j),(7,k),(8,l),(9,m)] h λc h=>bnd (cvI .i64 a) λa=>blQ c λd=>bIQ .rem a d λa=>bxQ h 1 c a λa=>b1Q h a λa=>q a h
def mL:Ann:=.o
theorem vO(C:CC)(t0:V)(q:kkQ):fnD Y C Tryz.f20 0 mL [t0] q=eF C t0 q:=by kernel_rfl
theorem vM:okB Tryz.prog Tryz.f20 mL=true:=aJ
theorem vN(h:eF (CX Y) t0 (out v)):CP Y F.eF [t0] v:=
 CP.of (fn:=Tryz.f20) (m:=0) (a:=mL) rfl (λ_=>rfl) Tryz.func20 vM (by rw[vO];exact h)
def gN(C:CC)(a c:V):aP:=λl h q=>blQ a λa=>bIQ .lss (ge l 1) a λa=>gqQ a true h (ge l 1) λd h=>gbQ a true h (biI .lss d (I 4)) λd h=>bpQ a d (B false) λa=>cnd a (bnd (ixP 4 1 c (ge l 1)) λa=>b1Q h a λa=>bnd (cvI .i64 a) λa=>bIQ .rem a (I 10) λa=>a1Q 1 (ge l 0) a h λa h=>bIQ .add (ge l 1) (I 1) λc=>q .normal [a,c] h) (q (.exit 0) [ge l 0] h)
def dD(C:CC)(a c:V)(q:kQ):Prop:=let h:Hp:=.replicate 2 nnQ
 fj 0 c h λc h=>lp (gN C a c) [] h [nSQ,I 0] h (exK [((.exit 0),λa h=>q (ge a 0) h)])
theorem uh(h:dD (CX Y) t0 t1 (out v)):CP Y F.dD [t0,t1] v:=CPo 2 (nBQ (nRQ [.slot 0]) (aD (nCQ (aD (nCQ (.n (.l [5,6] [0,3] [((.exit 0),[5],[])] []) (aD (nCQ (nCQ (nRQ [.o,.slot 1])))) .o)))))) Tryz.func21 h
def jd(C:CC)(a c:V)(q:kQ):Prop:=let h:Hp:=[]
 clQ C h F.au [a,c,(.fn F.eD [] [])] q
theorem yn(h:jd (CX Y) t0 t1 (out v)):CP Y F.jd [t0,t1] v:=CPo 0 .o Tryz.func123 h
def eD(C:CC)(a c:V)(q:kQ):Prop:=let h:Hp:=[]
 clQ C h F.bU [a,c] q
theorem vK(h:eD (CX Y) t0 t1 (out v)):CP Y F.eD [t0,t1] v:=CPo 0 .o Tryz.func161 h
def dF(C:CC)(a:V)(q:kQ):Prop:=let h:Hp:=.replicate 4 nnQ
 fj 0 a h λa h=>bfQ 0 a λc=>b1Q h c λc=>clQ C h F.fx [c] λc h=>nzQ c (q c h) (bfQ 0 a λc=>b1Q h c λc=>blQ c λc=>bfQ 1 a λd=>b1Q h d λd=>bnd (bld [(0,1),(1,1)] [.int .i64 0,nPQ] [(0,c),(1,d)]) λc=>alV 1 [.d (.int .i64 0),.d nPQ] h λd h=>stD h 2 d c λ_ h=>bnd (ldA h 2 d) λc=>clQ C h F.ja [c] λc h=>nzQ c (q c h) (bnd (ldA h 2 d) λc=>clQ C h F.gI [c] λc h=>e2Q c λc e=>alV 2 [.d (.int .i64 0),.d nPQ] h λf h=>stD h 2 f c λ_ h=>bIQ .neq e (I 0) λc=>gbQ c false h (ldA h 2 f) λe h=>gbQ c false h (ldA h 2 d) λf h=>gd c false h (λq=>clQ C h F.kr [e,f] q) λe h=>gbQ c false h (unV .not e) λe h=>bpQ c (B true) e λc=>cnd c (q (I 7) h) (bnd (ldA h 2 d) λc=>clQ C h F.eM [c] λc h=>e2Q c λc d=>alV 3 [.d (.int .i64 0),.d nPQ] h λe h=>stD h 2 e c λ_ h=>bIQ .neq d (I 0) λc=>gbQ c false h (faV 1 e) λd h=>gbQ c false h (ld1 h d) λd h=>gbQ c false h (faV 2 a) λa h=>gbQ c false h (ld1 h a) λa h=>gd c false h (λq=>clQ C h F.jd [d,a] q) λa h=>gbQ c false h (unV .not a) λa h=>bpQ c (B true) a λa=>cnd a (q (I 14) h) (q (I 0) h))))
theorem xN(h:dF (CX Y) t0 (out v)):CP Y F.dF [t0] v:=CPo 4 (nBQ (nRQ [.slot 0]) (aD (nBQ (nRQ [.slot 1]) (aD (nBQ (nRQ [.o,.slot 2]) (aD (nCQ (nRQ [.o,.slot 3])))))))) Tryz.func84 h
def jO(C:CC)(a c d:V):aP:=λl h q=>cIQ .lss (ge l 0) d (bxQ h 1 c (ge l 0) λc=>b1Q h c λc=>clQ C h F.pu [c] λd h=>nzQ d (q .ret [d] h) (blQ c λc=>bfQ 0 a λa=>b1Q h a λa=>blQ a λa=>cIQ .neq c a (q .ret [I 5] h) (bIQ .add (ge l 0) (I 1) λa=>q .normal [a] h))) (q (.exit 0) [] h)
def ib(C:CC)(a c:V)(q:kQ):Prop:=let h:Hp:=.replicate 1 nnQ
 fj 0 a h λa h=>bnd (ldA h 3 a) λd=>clQ C h F.dF [d] λd h=>nzQ d (q d h) (blQ c λd=>lp (jO C a c d) [] h [I 0] h (exK [((.exit 0),λa h=>q (I 0) h),(.ret,λa h=>q (ge a 0) h)]))
theorem xM(h:ib (CX Y) t0 t1 (out v)):CP Y F.ib [t0,t1] v:=CPo 1 (nBQ (nRQ [.slot 0]) (aD (nCQ (aD (nCQ (.n (.l [16] [2,14,15] [((.exit 0),[],[]),(.ret,[4],[])] []) .o .o)))))) Tryz.func52 h
def jA(C:CC)(a c d:V):aP:=λl h q=>cIQ .lss (ge l 1) d (bxQ h 1 c (ge l 1) λc=>b1Q h c λc=>clQ C h F.eu [c] λc h=>bxQ h 1 a (ge l 1) λa=>b1Q h a λa=>clQ C h F.eu [a] λa h=>clQ C h F.bL [c,a] λa h=>clQ C h F.kR [ge l 0,a] λa h=>bIQ .add (ge l 1) (I 1) λc=>q .normal [a,c] h) (q (.exit 2) [ge l 0] h)
def jB(C:CC)(a c d:V):aP:=λl h q=>cIQ .lss (ge l 1) d (bxQ h 1 c (ge l 1) λc=>b1Q h c λc=>blQ a λd=>lp (jA C c a d) [] h [(.d (.str [48])),I 0] h (exK [((.exit 2),λa h=>cY 1 [.str []] [(0,(ge a 0))] h λa h=>apV false 1 1 16 (ge l 0) a h λa h=>bIQ .add (ge l 1) (I 1) λc=>q .normal [a,c] h)])) (q (.exit 0) [ge l 0] h)
def gB(C:CC)(a c:V)(q:kQ):Prop:=let h:Hp:=.replicate 2 nnQ
 fj 0 a h λa h=>bfQ 2 a λa=>b1Q h a λa=>blQ a λd=>lp (jB C c a d) [] h [nSQ,I 0] h (exK [((.exit 0),λa h=>q (ge a 0) h)])
theorem wD(h:gB (CX Y) t0 t1 (out v)):CP Y F.gB [t0,t1] v:=CPo 2 (nBQ (nRQ [.slot 0]) (aD (nCQ (aD (nCQ (.n (.l [5,14] [1,12,13] [((.exit 0),[5],[])] []) (d7 (nCQ (nCQ (d7 (nBQ (aD (nCQ (.n (.l [8,20] [1,5,7,12,13,14,18,19] [((.exit 2),[8],[1,5,12,13,14])] []) .o .o))) (nRQ [.o,.slot 1])))))) .o)))))) Tryz.func53 h
def jC(C:CC)(a c:V):aP:=λl h q=>cIQ .lss (ge l 1) c (bxQ h 1 a (ge l 1) λa=>b1Q h a λa=>clQ C h F.lJ [a] λa h=>e2Q a λa c=>bnd (unV .not c) λc=>gqQ c false h a λd h=>gbQ c false h (biI .gtr d (I 1000000000)) λd h=>bpQ c (B true) d λc=>gqQ c false h a λd h=>gbQ c false h (biI .lss d (I (-1000000000))) λd h=>bpQ c (B true) d λc=>cnd c (q .ret [nSQ,I 4] h) (a1Q 1 (ge l 0) a h λa h=>bIQ .add (ge l 1) (I 1) λc=>q .normal [a,c] h)) (q (.exit 0) [ge l 0] h)
def dO(C:CC)(a c:V)(q:kQ):Prop:=let h:Hp:=.replicate 2 nnQ
 fj 0 a h λa h=>bnd (ldA h 3 a) λd=>cY 1 [nPQ] [(0,c)] h λe h=>clQ C h F.ib [d,e] λd h=>nzQ d (q (.tup [nSQ,d]) h) (bnd (ldA h 3 a) λa=>clQ C h F.gB [a,c] λa h=>blQ a λc=>lp (jC C a c) [] h [nSQ,I 0] h (exK [((.exit 0),λa h=>q (.tup [ge a 0,I 0]) h),(.ret,λa h=>q (.tup [ge a 0,ge a 1]) h)]))
theorem wE(h:dO (CX Y) t0 t1 (out v)):CP Y F.dO [t0,t1] v:=CPo 2 (nBQ (nRQ [.slot 0]) (d7 (nCQ (aD (nCQ (.n (.l [7,23] [21,22] [((.exit 0),[7],[]),(.ret,[4,5],[])] []) (d7 (nCQ (nCQ (Fj (nRQ [.o,.slot 1]))))) .o)))))) Tryz.func26 h
def aV(C:CC)(a c:V)(q:kQ):Prop:=let h:Hp:=.replicate 2 nnQ
 alV 0 [.d (.str []),.d (.str [])] h λd h=>clQ C h F.dT [a,c] λa h=>e2Q a λa c=>alV 1 [.d (.str []),.d (.str [])] h λc h=>stD h 2 c a λ_ h=>bnd (ldA h 2 c) λa=>stD h 2 d a λ_ h=>bnd (ldA h 2 d) λa=>q a h
theorem xO(h:aV (CX Y) t0 t1 (out v)):CP Y F.aV [t0,t1] v:=CPo 2 (nBQ (nRQ [.slot 0]) (nCQ (nRQ [.o,.slot 1]))) Tryz.func16 h
def ky(C:CC)(a:V)(q:kQ):Prop:=let h:Hp:=.replicate 1 nnQ
 fj 0 a h λa h=>bnd (ldA h 3 a) λc=>clQ C h F.dF [c] λc h=>nzQ c (q c h) (bfQ 2 a λc=>b1Q h c λc=>blQ c λc=>cIQ .neq c (I 2) (q (I 5) h) (bfQ 2 a λa=>b1Q h a λa=>bxQ h 1 a (I 0) λa=>b1Q h a λa=>bxQ h 1 a (I 0) λa=>b1Q h a λa=>cIQ .eql a (I 0) (q (I 26) h) (q (I 0) h)))
theorem C9(h:ky (CX Y) t0 (out v)):CP Y F.ky [t0] v:=CPo 1 (nCQ (nRQ [.slot 0])) Tryz.func60 h
def iD(C:CC)(a:V)(q:kQ):Prop:=let h:Hp:=.replicate 2 nnQ
 uv 0 0 [.int .i64 0] [] h λc h=>apV false 1 1 8 c a h q
theorem Ag(h:iD (CX Y) t0 (out v)):CP Y F.iD [t0] v:=CPo 2 (aD (nCQ (nRQ [.slot 0,.slot 1]))) Tryz.func61 h
def fS(C:CC)(a:V)(q:kQ):Prop:=let h:Hp:=.replicate 2 nnQ
 fj 0 a h λa h=>alV 1 [.d (.int .i64 0),.d nPQ,.d nPQ] h λc h=>bnd (ldA h 3 a) λd=>clQ C h F.ky [d] λd h=>nzQ d (bnd (bld [(0,1),(1,1),(2,1)] [.int .i64 0,nPQ,nPQ] []) λa=>stD h 3 c a λ_ h=>bnd (ldA h 3 c) λa=>q (.tup [a,d]) h) (bfQ 2 a λd=>b1Q h d λd=>bxQ h 1 d (I 0) λd=>b1Q h d λd=>bxQ h 1 d (I 0) λd=>b1Q h d λd=>bfQ 2 a λe=>b1Q h e λe=>bxQ h 1 e (I 0) λe=>b1Q h e λe=>clQ C h F.iD [e] λe h=>bfQ 2 a λa=>b1Q h a λa=>bxQ h 1 a (I 1) λa=>b1Q h a λa=>clQ C h F.iD [a] λa h=>bnd (bld [(0,1),(1,1),(2,1)] [.int .i64 0,nPQ,nPQ] [(0,d),(1,e),(2,a)]) λa=>stD h 3 c a λ_ h=>bnd (ldA h 3 c) λa=>q (.tup [a,I 0]) h)
theorem sU(h:fS (CX Y) t0 (out v)):CP Y F.fS [t0] v:=CPo 2 (nCQ (nRQ [.slot 0,.slot 1])) Tryz.func30 h
def oi(C:CC)(a:V)(q:kQ):Prop:=let h:Hp:=.replicate 2 nnQ
 fj 0 a h λa h=>alV 1 [.d (.str []),.d (.str [])] h λc h=>bfQ 0 a λd=>b1Q h d λd=>clQ C h F.mi [d] λd h=>bfQ 1 a λa=>b1Q h a λa=>bnd (bld [(0,1),(1,1)] [.str [],.str []] [(0,d),(1,a)]) λa=>stD h 2 c a λ_ h=>bnd (ldA h 2 c) λa=>q a h
theorem FT(h:oi (CX Y) t0 (out v)):CP Y F.oi [t0] v:=CPo 2 (nCQ (nRQ [.slot 0,.slot 1])) Tryz.func56 h
def j6(C:CC)(a c:V)(q:kQ):Prop:=let h:Hp:=.replicate 3 nnQ
 fj 0 a h λa h=>fj 1 c h λc h=>alV 2 [.d (.str []),.d (.str [])] h λd h=>bnd (ldA h 2 a) λa=>bnd (ldA h 2 c) λc=>clQ C h F.oi [c] λc h=>clQ C h F.fh [a,c] λa h=>stD h 2 d a λ_ h=>bnd (ldA h 2 d) λa=>q a h
theorem FR(h:j6 (CX Y) t0 t1 (out v)):CP Y F.j6 [t0,t1] v:=CPo 3 (nCQ (nRQ [.slot 0,.slot 1,.slot 2])) Tryz.func28 h
def fc(C:CC)(a c:V)(q:kQ):Prop:=let h:Hp:=.replicate 1 nnQ
 fj 0 c h λc h=>clQ C h F.po [a] λd h=>e2Q d λd e=>nzQ e (q (.tup [nSQ,e]) h) (bnd (ldA h 2 c) λc=>clQ C h F.qj [a,d,c] λa h=>e2Q a λa c=>q (.tup [a,c]) h)
theorem zl(h:fc (CX Y) t0 t1 (out v)):CP Y F.fc [t0,t1] v:=CPo 1 (nCQ (nRQ [.slot 0])) Tryz.func63 h
def jN(C:CC)(a c d:V):aP:=λl h q=>cIQ .lss (ge l 1) d (bxQ h 1 c (ge l 1) λc=>b1Q h c λc=>bnd (ldA h 3 a) λa=>clQ C h F.dO [a,c] λa h=>e2Q a λa c=>nzQ c (q .ret [nSQ,I 0,c] h) (cY 1 [nPQ] [(0,a)] h λa h=>apV false 2 1 24 (ge l 0) a h λa h=>bIQ .add (ge l 1) (I 1) λc=>q .normal [a,c] h)) (q (.exit 1) [ge l 0] h)
def bh(C:CC)(a c:V)(q:kQ):Prop:=let h:Hp:=.replicate 3 nnQ
 fj 0 a h λa h=>bnd (ldA h 3 a) λd=>clQ C h F.fS [d] λd h=>e2Q d λd e=>alV 1 [.d (.int .i64 0),.d nPQ,.d nPQ] h λf h=>stD h 3 f d λ_ h=>nzQ e (q (.tup [nSQ,I 0,e]) h) (blQ c λd=>cIQ .gtr d (I 60) (q (.tup [nSQ,I 0,I 4]) h) (bfQ 0 a λd=>b1Q h d λd=>clQ C h F.jv [d,c] λd h=>nzQ d (q (.tup [nSQ,I 0,d]) h) (blQ c λd=>lp (jN C a c d) [] h [nSQ,I 0] h (exK [((.exit 1),λa h=>bfQ 0 f λc=>b1Q h c λc=>q (.tup [ge a 0,c,I 0]) h),(.ret,λa h=>q (.tup [ge a 0,ge a 1,ge a 2]) h)]))))
theorem kJ(h:bh (CX Y) t0 t1 (out v)):CP Y F.bh [t0,t1] v:=CPo 3 (nBQ (nRQ [.slot 0]) (nBQ (nRQ [.o,.slot 1]) (d7 (nCQ (aD (nCQ (.n (.l [4,35] [2,7,33,34] [((.exit 1),[4],[7]),(.ret,[4,5,6],[])] []) (d7 (nCQ (nCQ (Fj (nRQ [.o,.slot 2]))))) .o))))))) Tryz.func23 h
def kS(C:CC)(a c d e f:V):aP:=λl h q=>cIQ .lss (ge l 1) f (bxQ h 1 e (ge l 1) λe=>b1Q h e λe=>clQ C h F.dT [e,I 1] λe h=>e2Q e λe f=>alV 2 [.d (.str []),.d (.str [])] h λf h=>stD h 2 f e λ_ h=>bIQ .eql (ge l 1) (I 0) λe=>jn (λa h=>bnd (ldA h 2 f) λa=>bnd (ldA h 2 d) λc=>clQ C h F.gS [a,c] λa h=>e2Q a λa c=>stD h 2 f a λ_ h=>bnd (ldA h 2 f) λa=>cY 1 [.str [],.str []] [(0,a)] h λa h=>apV false 4 2 32 (ge l 0) a h λa h=>bIQ .add (ge l 1) (I 1) λc=>q .normal [a,c] h) λd=>cnd e (bxQ h 1 a (I 0) λa=>b1Q h a λa=>clQ C h F.dT [a,c] λa h=>e2Q a λa c=>alV 3 [.d (.str []),.d (.str [])] h λc h=>stD h 2 c a λ_ h=>bnd (ldA h 2 f) λa=>bnd (ldA h 2 c) λc=>clQ C h F.j6 [a,c] λa h=>stD h 2 f a λ_ h=>d [] h) (d [] h)) (q (.exit 0) [ge l 0] h)
def gM(C:CC)(a c d e:V)(q:kQ):Prop:=let h:Hp:=.replicate 5 nnQ
 bxQ h 1 d (I 1) λf=>b1Q h f λf=>cIQ .eql f (I 0) (q (.tup [nSQ,B false,I 0]) h) (bxQ h 1 d (I 1) λf=>b1Q h f λf=>clQ C h F.dT [f,I 1] λf h=>e2Q f λf g=>alV 0 [.d (.str []),.d (.str [])] h λg h=>stD h 2 g f λ_ h=>uv 1 0 [.str [],.str []] [] h λf h=>blQ c λi=>lp (kS C d e g c i) [2,3] h [f,I 0] h (exK [((.exit 0),λc h=>clQ C h F.kh [a,ge c 0] λa h=>nzQ a (q (.tup [nSQ,B false,I 4]) h) (q (.tup [ge c 0,B true,I 0]) h))]))
theorem vF(h:gM (CX Y) t0 t1 t2 t3 (out v)):CP Y F.gM [t0,t1,t2,t3] v:=CPo 5 (d7 (nBQ (nRQ [.o,.slot 0]) (nBQ (nRQ [.slot 1]) (nCQ (aD (nCQ (.n (.l [13,34] [0,2,3,11,32,33] [((.exit 0),[13],[0])] [2,3]) (d7 (nCQ (nCQ (aD (nBQ (nRQ [.o,.slot 2]) (nBQ (aD (.n (.j [] [0,2,3,11,13,16,32,33,34]) (nCQ (nRQ [.o,.slot 3])) .o)) (aD (nRQ [.o,.slot 4])))))))) .o))))))) Tryz.func24 h
def aA(C:CC)(b:Nat)(h:Hp)(a:V)(q:kQ):Prop:=let h:Hp:=h++List.replicate 2 nnQ
 uX h .eql a nSQ λc=>cnd c (q nSQ h) (uv (b+0) 0 [.str [],.str []] [] h λc h=>apV false (b+1) 2 32 c a h q)
def eE(b:Nat):Ann:=(.n .x .o (.n .x .o (.n .x (.n (.r [.slot (b+0),.slot (b+1)]) .o .o) .o)))
theorem oA(C:CC)(h:Hp)(t0:V)(q:kkQ):fnI Y C Tryz.f35 2 eE [t0] h q=aA C h.length h t0 q:=by rfl
theorem ov(b:Nat):okB Tryz.prog Tryz.f35 (eE b)=true:=by rfl
theorem oz(hh:aA (CX Y) h.length h t0 (mN h.length v h2)):CI Y F.aA [t0] h v h2:=
 CI.of (fn:=Tryz.f35) (m:=2) (a:=eE) rfl (λ_=>rfl) Tryz.func35 (ov _) (by rw[oA];exact hh)
def jS(C:CC)(a c:V):aP:=λl h q=>blQ a λd=>cIQ .lss (ge l 0) d (bxQ h 2 a (ge l 0) λa=>bnd (ldA h 2 a) λa=>bxQ h 2 c (ge l 0) λc=>bnd (ldA h 2 c) λc=>bnd (biA [.str [],.str []] .neq a c) λa=>cnd a (q .ret [B false] h) (bIQ .add (ge l 0) (I 1) λa=>q .normal [a] h)) (q (.exit 0) [] h)
def cM(C:CC)(a c:V)(q:kQ):Prop:=let h:Hp:=[]
 blQ a λd=>blQ c λe=>cIQ .neq d e (q (B false) h) (lp (jS C a c) [] h [I 0] h (exK [((.exit 0),λa h=>q (B true) h),(.ret,λa h=>q (ge a 0) h)]))
theorem xQ(h:cM (CX Y) t0 t1 (out v)):CP Y F.cM [t0,t1] v:=CPo 0 (d7 (nCQ (aD (nCQ (.n (.l [5] [0,1] [((.exit 0),[],[]),(.ret,[4],[])] []) .o .o))))) Tryz.func12 h
def fN(C:CC)(a:V)(q:kQ):Prop:=let h:Hp:=.replicate 1 nnQ
 fj 0 a h λa h=>bfQ 1 a λa=>b1Q h a λa=>blQ a λa=>bIQ .leq a (I 3) λa=>q a h
theorem xS(h:fN (CX Y) t0 (out v)):CP Y F.fN [t0] v:=CPo 1 (nCQ (nRQ [.slot 0])) Tryz.func5 h
def gF(C:CC)(a c d:V)(q:kQ):Prop:=let h:Hp:=.replicate 4 nnQ
 alV 0 [.d nPQ,.d nPQ,.d nPQ] h λe h=>clQ C h F.fx [a] λf h=>nzQ f (bnd (bld [(0,1),(1,1),(2,1)] [nPQ,nPQ,nPQ] []) λa=>stD h 3 e a λ_ h=>bnd (ldA h 3 e) λa=>q (.tup [a,f]) h) (blQ a λf=>clQ C h F.qq [f,c] λc h=>e2Q c λc f=>alV 1 [.d (.int .i64 0),.d nPQ] h λg h=>stD h 2 g c λ_ h=>nzQ f (bnd (bld [(0,1),(1,1),(2,1)] [nPQ,nPQ,nPQ] []) λa=>stD h 3 e a λ_ h=>bnd (ldA h 3 e) λa=>q (.tup [a,f]) h) (bnd (ldA h 2 g) λc=>clQ C h F.gI [c] λc h=>e2Q c λc f=>alV 2 [.d (.int .i64 0),.d nPQ] h λi h=>stD h 2 i c λ_ h=>bnd (ldA h 2 g) λc=>clQ C h F.eM [c] λc h=>e2Q c λc g=>alV 3 [.d (.int .i64 0),.d nPQ] h λj h=>stD h 2 j c λ_ h=>bIQ .neq f (I 0) λc=>gqQ c false h g λf h=>gbQ c false h (biI .neq f (I 0)) λf h=>bpQ c (B true) f λc=>cnd c (bnd (bld [(0,1),(1,1),(2,1)] [nPQ,nPQ,nPQ] []) λa=>stD h 3 e a λ_ h=>bnd (ldA h 3 e) λa=>q (.tup [a,I 4]) h) (jn (λc h=>bfQ 1 i λc=>b1Q h c λc=>bfQ 1 j λd=>b1Q h d λd=>bnd (bld [(0,1),(1,1),(2,1)] [nPQ,nPQ,nPQ] [(0,a),(1,c),(2,d)]) λa=>stD h 3 e a λ_ h=>bnd (ldA h 3 e) λa=>q (.tup [a,I 0]) h) λa=>cnd d (bnd (ldA h 2 j) λc=>bnd (ldA h 2 i) λd=>stD h 2 i c λ_ h=>stD h 2 j d λ_ h=>a [] h) (a [] h))))
theorem wM(h:gF (CX Y) t0 t1 t2 (out v)):CP Y F.gF [t0,t1,t2] v:=CPo 4 (nBQ (nRQ [.slot 0]) (aD (nBQ (nRQ [.o,.slot 1]) (aD (nBQ (nRQ [.o,.slot 2]) (nBQ (nRQ [.o,.slot 3]) (aD (nCQ (aD (nJQ [] [0,6,11,12])))))))))) Tryz.func22 h
def jT(C:CC)(a c:V):aP:=λl h q=>bfQ 1 a λd=>b1Q h d λd=>blQ d λd=>bIQ .lss (ge l 1) d λd=>gqQ d true h (ge l 1) λe h=>gbQ d true h (biI .lss e (I 3)) λe h=>bpQ d e (B false) λd=>cnd d (bfQ 1 a λa=>b1Q h a λa=>bxQ h 4 a (ge l 1) λa=>bnd (ldA h 4 a) λa=>clQ C h F.dD [c,a] λa h=>cY 1 [nPQ] [(0,a)] h λa h=>apV false 2 1 24 (ge l 0) a h λa h=>bIQ .add (ge l 1) (I 1) λc=>q .normal [a,c] h) (q (.exit 0) [ge l 0] h)
def fM(C:CC)(a:V)(q:kQ):Prop:=let h:Hp:=.replicate 4 nnQ
 fj 0 a h λa h=>alV 1 [.d nPQ,.d nPQ,.d nPQ] h λc h=>bfQ 0 a λd=>b1Q h d λd=>clQ C h F.eF [d] λd h=>lp (jT C a d) [] h [nSQ,I 0] h (exK [((.exit 0),λe h=>bfQ 2 a λa=>b1Q h a λa=>clQ C h F.gF [d,ge e 0,a] λa h=>e2Q a λa d=>alV 3 [.d nPQ,.d nPQ,.d nPQ] h λd h=>stD h 3 d a λ_ h=>bnd (ldA h 3 d) λa=>stD h 3 c a λ_ h=>bnd (ldA h 3 c) λa=>q a h)])
theorem xR(h:fM (CX Y) t0 (out v)):CP Y F.fM [t0] v:=CPo 4 (nBQ (nRQ [.slot 0,.slot 1]) (d7 (nBQ (aD (nCQ (.n (.l [4,5] [1,2,3] [((.exit 0),[4],[1,2,3])] []) (aD (nCQ (nCQ (nRQ [.o,.o,.slot 2])))) .o))) (nCQ (nRQ [.o,.slot 3]))))) Tryz.func6 h
def fk(C:CC)(b:Nat)(h:Hp)(a c d e:V)(q:kQ):Prop:=let h:Hp:=h++List.replicate 3 nnQ
 cIQ .eql d (I 0) (bfQ 0 a λd=>bfQ 6 d λd=>b1Q h d λd=>gqQ d false h c λc h=>gbQ d false h (biI .lss c (I 0)) λc h=>bpQ d (B true) c λc=>bfQ 0 a λa=>bfQ 6 a λa=>stD h 1 a c λ_ h=>q (.tup []) h) (bnd (unV .neg c) λc=>clQ C h F.dT [c,e] λc h=>e2Q c λc e=>alV (b+0) [.d (.str []),.d (.str [])] h λe h=>stD h 2 e c λ_ h=>clQ C h F.dT [d,I 1] λc h=>e2Q c λc f=>alV (b+1) [.d (.str []),.d (.str [])] h λf h=>stD h 2 f c λ_ h=>bnd (ldA h 2 e) λc=>bnd (ldA h 2 f) λe=>clQ C h F.gS [c,e] λc h=>e2Q c λc e=>alV (b+2) [.d (.str []),.d (.str [])] h λe h=>stD h 2 e c λ_ h=>jn (λa h=>q (.tup []) h) λc=>bIQ .gtr d (I 0) λf=>gqQ f true h a λg h=>gbQ f true h (faV 0 g) λg h=>gbQ f true h (faV 4 g) λg h=>gbQ f true h (ld1 h g) λg h=>gbQ f true h (unV .not g) λg h=>gqQ f true h g λg h=>gbQ g false h (ldA h 2 e) λi h=>gqQ g false h a λj h=>gbQ g false h (faV 0 j) λj h=>gbQ g false h (faV 0 j) λj h=>gbQ g false h (ldA h 2 j) λj h=>gd g false h (λq=>clQ C h F.fB [i,j] q) λi h=>gbQ g false h (biI .gtr i (I 0)) λi h=>gbQ f true h (nF g (B true) i) λg h=>bpQ f g (B false) λf=>jn (λa h=>c [] h) λc=>cnd f (bnd (ldA h 2 e) λd=>bfQ 0 a λe=>bfQ 0 e λe=>stD h 2 e d λ_ h=>bfQ 0 a λa=>bfQ 4 a λa=>stD h 1 a (B true) λ_ h=>c [] h) (bIQ .lss d (I 0) λd=>gqQ d true h a λf h=>gbQ d true h (faV 0 f) λf h=>gbQ d true h (faV 5 f) λf h=>gbQ d true h (ld1 h f) λf h=>gbQ d true h (unV .not f) λf h=>gqQ d true h f λf h=>gbQ f false h (ldA h 2 e) λg h=>gqQ f false h a λi h=>gbQ f false h (faV 0 i) λi h=>gbQ f false h (faV 2 i) λi h=>gbQ f false h (ldA h 2 i) λi h=>gd f false h (λq=>clQ C h F.fB [g,i] q) λg h=>gbQ f false h (biI .lss g (I 0)) λg h=>gbQ d true h (nF f (B true) g) λf h=>bpQ d f (B false) λd=>jn (λa h=>c [] h) λc=>cnd d (bnd (ldA h 2 e) λd=>bfQ 0 a λe=>bfQ 2 e λe=>stD h 2 e d λ_ h=>bfQ 0 a λa=>bfQ 5 a λa=>stD h 1 a (B true) λ_ h=>c [] h) (c [] h)))
def nm(b:Nat):Ann:=(.n .x .o (.n .x (.n (.r [.o,.slot (b+0)]) .o .o) (.n .x (.n (.r [.o,.slot (b+1)]) .o .o) (.n .x (.n (.r [.o,.slot (b+2)]) .o .o) (.n (.j [] []) (.n .x .o (.n (.j [] []) .o (.n .x .o (.n (.j [] []) .o .o)))) .o)))))
theorem wB(C:CC)(h:Hp)(t0:V)(t1:V)(t2:V)(t3:V)(q:kkQ):fnI Y C Tryz.f42 3 nm [t0,t1,t2,t3] h q=fk C h.length h t0 t1 t2 t3 q:=by rfl
theorem wz(b:Nat):okB Tryz.prog Tryz.f42 (nm b)=true:=by rfl
theorem wA(hh:fk (CX Y) h.length h t0 t1 t2 t3 (mN h.length v h2)):CI Y F.fk [t0,t1,t2,t3] h v h2:=
 CI.of (fn:=Tryz.f42) (m:=3) (a:=nm) rfl (λ_=>rfl) Tryz.func42 (wz _) (by rw[wB];exact hh)
def jc(C:CC)(a c:V)(q:kQ):Prop:=let h:Hp:=.replicate 2 nnQ
 alV 0 [.d nPQ,.d nPQ,.d (.bool false),.d (.bool false),.d (.bool false)] h λd h=>bfQ 0 a λe=>bfQ 6 e λe=>b1Q h e λe=>gqQ e false h a λf h=>gbQ e false h (faV 0 f) λf h=>gbQ e false h (faV 4 f) λf h=>gbQ e false h (ld1 h f) λf h=>gqQ e false h f λf h=>gqQ f true h a λg h=>gbQ f true h (faV 0 g) λg h=>gbQ f true h (faV 5 g) λg h=>gbQ f true h (ld1 h g) λg h=>gbQ e false h (nF f g (B false)) λf h=>gqQ e false h f λf h=>gqQ f true h a λg h=>gbQ f true h (faV 0 g) λg h=>gbQ f true h (faV 0 g) λg h=>gbQ f true h (ldA h 2 g) λg h=>gqQ f true h a λi h=>gbQ f true h (faV 0 i) λi h=>gbQ f true h (faV 2 i) λi h=>gbQ f true h (ldA h 2 i) λi h=>gd f true h (λq=>clQ C h F.fB [g,i] q) λg h=>gbQ f true h (biI .gtr g (I 0)) λg h=>gbQ e false h (nF f g (B false)) λf h=>bpQ e (B true) f λe=>cnd e (bnd (bld [(0,1),(1,1),(2,1),(3,1),(4,1)] [nPQ,nPQ,.bool false,.bool false,.bool false] [(4,(B true))]) λa=>stD h 5 d a λ_ h=>bnd (ldA h 5 d) λa=>q (.tup [a,I 0]) h) (bfQ 0 a λe=>bfQ 4 e λe=>b1Q h e λe=>bfQ 0 a λf=>bfQ 5 f λf=>b1Q h f λf=>bnd (bld [(0,1),(1,1),(2,1),(3,1),(4,1)] [nPQ,nPQ,.bool false,.bool false,.bool false] [(2,e),(3,f)]) λe=>alV 1 [.d nPQ,.d nPQ,.d (.bool false),.d (.bool false),.d (.bool false)] h λf h=>stD h 5 f e λ_ h=>bfQ 0 a λe=>bfQ 4 e λe=>b1Q h e λe=>jn (λe h=>bfQ 0 a λe=>bfQ 5 e λe=>b1Q h e λe=>jn (λa h=>bnd (ldA h 5 f) λa=>stD h 5 d a λ_ h=>bnd (ldA h 5 d) λa=>q (.tup [a,I 0]) h) λg=>cnd e (bfQ 0 a λa=>bfQ 2 a λa=>bnd (ldA h 2 a) λa=>clQ C h F.fc [c,a] λa h=>e2Q a λa c=>bfQ 1 f λe=>stD h 1 e a λ_ h=>nzQ c (bnd (bld [(0,1),(1,1),(2,1),(3,1),(4,1)] [nPQ,nPQ,.bool false,.bool false,.bool false] []) λa=>stD h 5 d a λ_ h=>bnd (ldA h 5 d) λa=>q (.tup [a,c]) h) (g [] h)) (g [] h)) λg=>cnd e (bfQ 0 a λa=>bfQ 0 a λa=>bnd (ldA h 2 a) λa=>clQ C h F.fc [c,a] λa h=>e2Q a λa c=>bfQ 0 f λe=>stD h 1 e a λ_ h=>nzQ c (bnd (bld [(0,1),(1,1),(2,1),(3,1),(4,1)] [nPQ,nPQ,.bool false,.bool false,.bool false] []) λa=>stD h 5 d a λ_ h=>bnd (ldA h 5 d) λa=>q (.tup [a,c]) h) (g [] h)) (g [] h))
theorem yj(h:jc (CX Y) t0 t1 (out v)):CP Y F.jc [t0,t1] v:=CPo 2 (nBQ (nRQ [.slot 0]) (aD (nBQ (nRQ [.slot 1]) (aD (nBQ (aD (nJQ [] [0,1,4,6])) (nCQ (aD (nJQ [] [4,6])))))))) Tryz.func43 h
def lT(C:CC)(a c d:V):aP:=λl h q=>blQ a λe=>cIQ .lss (ge l 0) e (bxQ h 1 a (ge l 0) λe=>b1Q h e λe=>bxQ h 1 e (I 0) λe=>b1Q h e λe=>bIQ .sub (ge l 0) (I 1) λf=>bxQ h 1 a f λf=>b1Q h f λf=>bxQ h 1 f (I 0) λf=>b1Q h f λf=>bIQ .sub e f λe=>bxQ h 1 a (ge l 0) λf=>b1Q h f λf=>bxQ h 1 f (I 1) λf=>b1Q h f λf=>bIQ .sub (ge l 0) (I 1) λg=>bxQ h 1 a g λa=>b1Q h a λa=>bxQ h 1 a (I 1) λa=>b1Q h a λa=>bIQ .sub f a λa=>ciQ C h F.fk [d,e,a,c] 3 λa h=>bIQ .add (ge l 0) (I 1) λa=>q .normal [a] h) (q (.exit 0) [] h)
def f9(C:CC)(a c:V)(q:kQ):Prop:=let h:Hp:=.replicate 4 nnQ
 fj 0 a h λa h=>alV 1 [.d nPQ,.d nPQ,.d (.bool false),.d (.bool false),.d (.bool false)] h λd h=>bnd (ldA h 3 a) λe=>clQ C h F.bh [e,c] λc h=>e3Q c λc e f=>nzQ f (bnd (bld [(0,1),(1,1),(2,1),(3,1),(4,1)] [nPQ,nPQ,.bool false,.bool false,.bool false] []) λa=>stD h 5 d a λ_ h=>bnd (ldA h 5 d) λa=>q (.tup [a,f]) h) (alV 2 [.d (.str []),.d (.str []),.d (.str []),.d (.str []),.d (.bool false),.d (.bool false),.d (.bool false)] h λf h=>lp (lT C c e f) [3] h [I 1] h (exK [((.exit 0),λc h=>bfQ 0 a λa=>b1Q h a λa=>clQ C h F.jc [f,a] λa h=>e2Q a λa c=>stD h 5 d a λ_ h=>bnd (ldA h 5 d) λa=>q (.tup [a,c]) h)]))
theorem zp(h:f9 (CX Y) t0 t1 (out v)):CP Y F.f9 [t0,t1] v:=CPo 4 (nBQ (nRQ [.slot 0,.slot 1]) (d7 (nBQ (nRQ [.slot 2]) (nCQ (aD (nCQ (.n (.l [10] [2,4,6,7,9] [((.exit 0),[],[2,4,9])] [3]) (aD (nCQ (nCQ (nRQ [.inl 3])))) .o))))))) Tryz.func17 h
def cI(C:CC)(a c:V):aP:=λl h q=>blQ a λd=>cIQ .lss (ge l 1) d (jn (λa h=>bIQ .add (ge l 1) (I 1) λc=>q .normal [ge a 0,c] h) λd=>bxQ h 1 a (ge l 1) λe=>b1Q h e λe=>cal C.p h c [e,ge l 0] λc h=>bIQ .lss c (I 0) λc=>jn (λa h=>d [ge a 0] h) λd=>cnd c (bxQ h 1 a (ge l 1) λa=>b1Q h a λa=>d [a] h) (d [ge l 0] h)) (q (.exit 0) [ge l 0] h)
def bG(C:CC)(a c:V)(q:kQ):Prop:=let h:Hp:=[]
 blQ a λd=>bIQ .lss d (I 1) λd=>jn (λd h=>bxQ h 1 a (I 0) λd=>b1Q h d λd=>lp (cI C a c) [] h [d,I 1] h (exK [((.exit 0),λa h=>q (ge a 0) h)])) λa=>cnd d (False /- makeInterface -/) (a [] h)
theorem oY(h:bG (CX Y) t0 t1 (out v)):CP Y F.bG [t0,t1] v:=CPo 0 (aD (nBQ (aD (nJQ [] [0,1])) (aD (nCQ (aD (nCQ (.n (.l [5,6] [0,1] [((.exit 0),[5],[])] []) (aD (nCQ (.n (.j [5] [0,1,6]) (aD (nJQ [5] [0,1,6])) .o))) .o))))))) Tryz.func46 h
def cJ(C:CC)(a c:V):aP:=λl h q=>blQ a λd=>cIQ .lss (ge l 1) d (jn (λa h=>bIQ .add (ge l 1) (I 1) λc=>q .normal [ge a 0,c] h) λd=>bxQ h 1 a (ge l 1) λe=>b1Q h e λe=>cal C.p h c [e,ge l 0] λc h=>bIQ .gtr c (I 0) λc=>jn (λa h=>d [ge a 0] h) λd=>cnd c (bxQ h 1 a (ge l 1) λa=>b1Q h a λa=>d [a] h) (d [ge l 0] h)) (q (.exit 0) [ge l 0] h)
def bH(C:CC)(a c:V)(q:kQ):Prop:=let h:Hp:=[]
 blQ a λd=>bIQ .lss d (I 1) λd=>jn (λd h=>bxQ h 1 a (I 0) λd=>b1Q h d λd=>lp (cJ C a c) [] h [d,I 1] h (exK [((.exit 0),λa h=>q (ge a 0) h)])) λa=>cnd d (False /- makeInterface -/) (a [] h)
theorem oZ(h:bH (CX Y) t0 t1 (out v)):CP Y F.bH [t0,t1] v:=CPo 0 (aD (nBQ (aD (nJQ [] [0,1])) (aD (nCQ (aD (nCQ (.n (.l [5,6] [0,1] [((.exit 0),[5],[])] []) (aD (nCQ (.n (.j [5] [0,1,6]) (aD (nJQ [5] [0,1,6])) .o))) .o))))))) Tryz.func47 h
def kK(C:CC)(a c d e f g:V):aP:=λl h q=>cIQ .lss (ge l 1) g (jn (λa h=>bIQ .add (ge l 1) (I 1) λc=>q .normal [ge a 0,c] h) λg=>bxQ h 1 f (ge l 1) λf=>b1Q h f λf=>bfQ 0 a λa=>b1Q h a λa=>bxQ h 1 d (ge l 1) λd=>b1Q h d λd=>clQ C h F.gM [a,f,d,e] λa h=>e3Q a λa d e=>nzQ e (bnd (bld [(0,1),(1,1),(2,1),(3,1),(4,1)] [nPQ,nPQ,.bool false,.bool false,.bool false] []) λa=>stD h 5 c a λ_ h=>q .ret [e] h) (jn (λa h=>g [ge a 0] h) λc=>cnd d (cY 1 [nPQ] [(0,a)] h λa h=>apV false 2 1 24 (ge l 0) a h λa h=>c [a] h) (c [ge l 0] h))) (q (.exit 0) [ge l 0] h)
def fu(C:CC)(a c:V)(q:kQ):Prop:=let h:Hp:=.replicate 4 nnQ
 fj 0 a h λa h=>alV 1 [.d nPQ,.d nPQ,.d (.bool false),.d (.bool false),.d (.bool false)] h λd h=>bnd (ldA h 3 a) λe=>clQ C h F.bh [e,c] λe h=>e3Q e λe f g=>nzQ g (bnd (bld [(0,1),(1,1),(2,1),(3,1),(4,1)] [nPQ,nPQ,.bool false,.bool false,.bool false] []) λa=>stD h 5 d a λ_ h=>bnd (ldA h 5 d) λa=>q (.tup [a,g]) h) (blQ c λg=>lp (kK C a d e f c g) [] h [nSQ,I 0] h (exK [((.exit 0),λc h=>blQ (ge c 0) λe=>cIQ .eql e (I 0) (bnd (bld [(0,1),(1,1),(2,1),(3,1),(4,1)] [nPQ,nPQ,.bool false,.bool false,.bool false] []) λa=>stD h 5 d a λ_ h=>bnd (ldA h 5 d) λa=>q (.tup [a,I 19]) h) (clQ C h F.bG [ge c 0,(.fn F.bq [] [a])] λe h=>clQ C h F.bH [ge c 0,(.fn F.bq [] [a])] λa h=>ciQ C h F.aA [a] 3 λa h=>bnd (bld [(0,1),(1,1),(2,1),(3,1),(4,1)] [nPQ,nPQ,.bool false,.bool false,.bool false] [(0,e),(1,a),(2,(B true)),(3,(B true))]) λa=>stD h 5 d a λ_ h=>bnd (ldA h 5 d) λa=>q (.tup [a,I 0]) h)),(.ret,λa h=>bnd (ldA h 5 d) λc=>q (.tup [c,ge a 0]) h)]))
theorem yk(h:fu (CX Y) t0 t1 (out v)):CP Y F.fu [t0,t1] v:=CPo 4 (nBQ (nRQ [.slot 0,.slot 1]) (Fj (nBQ (aD (nCQ (.n (.l [9,29] [2,4,6,7,27,28] [((.exit 0),[9],[2,4]),(.ret,[5],[4])] []) (d7 (nCQ (.n (.j [9] [2,4,6,7,27,28,29]) (Od (.n (.j [9] [2,4,6,7,27,28,29]) (nRQ [.o,.slot 2]) .o)) .o))) .o))) (d7 (nCQ (nRQ [.o,.o,.inl 3])))))) Tryz.func19 h
def bq(C:CC)(a c d:V)(q:kQ):Prop:=let h:Hp:=[]
 bfQ 0 d λd=>b1Q h d λd=>clQ C h F.nX [d,a,c] λa h=>e2Q a λa c=>q a h
theorem vJ(h:bq (CX Y) t0 t1 t2 (out v)):CP Y F.bq [t0,t1,t2] v:=CPo 0 .o Tryz.func44 h
def dC(C:CC)(q:kQ):Prop:=let h:Hp:=.replicate 1 nnQ
 alV 0 [.d nPQ,.d nPQ,.d nPQ] h λa h=>cY 3 [.int .i64 0] [(0,(I 2)),(1,(I 3)),(2,(I 5))] h λc h=>cY 3 [.int .i64 0] [(0,(I 4)),(1,(I (-4))),(2,(I 1))] h λd h=>cY 1 [nPQ] [(0,d)] h λd h=>cY 3 [.int .i64 0] [(0,(I 1)),(1,(I 0)),(2,(I (-4)))] h λe h=>cY 3 [.int .i64 0] [(0,(I 0)),(1,(I 1)),(2,(I 4))] h λf h=>cY 2 [nPQ] [(0,e),(1,f)] h λe h=>bnd (bld [(0,1),(1,1),(2,1)] [nPQ,nPQ,nPQ] [(0,c),(1,d),(2,e)]) λc=>stD h 3 a c λ_ h=>bnd (ldA h 3 a) λa=>q a h
theorem ug(h:dC (CX Y) (out v)):CP Y F.dC [] v:=CPo 1 (nCQ (nRQ [.slot 0])) Tryz.func18 h
def fp(C:CC)(q:kQ):Prop:=let h:Hp:=.replicate 3 nnQ
 clQ C h F.aV [I 0,I 1] λa h=>alV 0 [.d (.str []),.d (.str [])] h λc h=>stD h 2 c a λ_ h=>clQ C h F.dC [] λa h=>cY 3 [.int .i64 0] [(0,(I 0)),(1,(I 0)),(2,(I 0))] h λd h=>cY 3 [.int .i64 0] [(0,(I (-3))),(1,(I 2)),(2,(I 0))] h λe h=>cY 3 [.int .i64 0] [(0,(I (-2))),(1,(I 0)),(2,(I 1))] h λf h=>cY 3 [.int .i64 0] [(0,(I 2)),(1,(I (-1))),(2,(I 0))] h λg h=>cY 3 [.int .i64 0] [(0,(I (-1))),(1,(I 1)),(2,(I 0))] h λi h=>cY 5 [nPQ] [(0,d),(1,e),(2,f),(3,g),(4,i)] h λd h=>clQ C h F.f9 [a,d] λa h=>e2Q a λa d=>alV 1 [.d nPQ,.d nPQ,.d (.bool false),.d (.bool false),.d (.bool false)] h λe h=>stD h 5 e a λ_ h=>clQ C h F.dC [] λa h=>cY 3 [.int .i64 0] [(0,(I (-2))),(1,(I 0)),(2,(I 1))] h λf h=>cY 3 [.int .i64 0] [(0,(I (-1))),(1,(I 1)),(2,(I 0))] h λg h=>cY 2 [nPQ] [(0,f),(1,g)] h λf h=>clQ C h F.fu [a,f] λa h=>e2Q a λa f=>alV 2 [.d nPQ,.d nPQ,.d (.bool false),.d (.bool false),.d (.bool false)] h λg h=>stD h 5 g a λ_ h=>bIQ .eql d (I 0) λa=>gbQ a true h (faV 2 e) λd h=>gbQ a true h (ld1 h d) λd h=>bpQ a d (B false) λa=>gbQ a true h (faV 3 e) λd h=>gbQ a true h (ld1 h d) λd h=>bpQ a d (B false) λa=>gbQ a true h (faV 0 e) λd h=>gbQ a true h (ld1 h d) λd h=>gd a true h (λq=>clQ C h F.aV [I 3,I 2] q) λi h=>gbQ a true h (ldA h 2 c) λj h=>gbQ a true h (ldA h 2 c) λk h=>gd a true h (λq=>cY 3 [.str [],.str []] [(0,i),(1,j),(2,k)] h q) λi h=>gd a true h (λq=>clQ C h F.cM [d,i] q) λd h=>bpQ a d (B false) λa=>gbQ a true h (faV 1 e) λd h=>gbQ a true h (ld1 h d) λd h=>gd a true h (λq=>clQ C h F.aV [I 8,I 5] q) λe h=>gbQ a true h (ldA h 2 c) λi h=>gbQ a true h (ldA h 2 c) λj h=>gd a true h (λq=>cY 3 [.str [],.str []] [(0,e),(1,i),(2,j)] h q) λe h=>gd a true h (λq=>clQ C h F.cM [d,e] q) λd h=>bpQ a d (B false) λa=>gqQ a true h f λd h=>gbQ a true h (biI .eql d (I 0)) λd h=>bpQ a d (B false) λa=>gbQ a true h (faV 0 g) λd h=>gbQ a true h (ld1 h d) λd h=>gd a true h (λq=>clQ C h F.aV [I 1,I 1] q) λe h=>gbQ a true h (ldA h 2 c) λf h=>gd a true h (λq=>clQ C h F.aV [I 1,I 4] q) λi h=>gd a true h (λq=>cY 3 [.str [],.str []] [(0,e),(1,f),(2,i)] h q) λe h=>gd a true h (λq=>clQ C h F.cM [d,e] q) λd h=>bpQ a d (B false) λa=>gbQ a true h (faV 1 g) λd h=>gbQ a true h (ld1 h d) λd h=>gbQ a true h (ldA h 2 c) λe h=>gd a true h (λq=>clQ C h F.aV [I 1,I 1] q) λf h=>gbQ a true h (ldA h 2 c) λc h=>gd a true h (λq=>cY 3 [.str [],.str []] [(0,e),(1,f),(2,c)] h q) λc h=>gd a true h (λq=>clQ C h F.cM [d,c] q) λc h=>bpQ a c (B false) λa=>q a h
theorem wL(h:fp (CX Y) (out v)):CP Y F.fp [] v:=CPo 3 (aD (nBQ (nRQ [.o,.slot 0]) (nBQ (nRQ [.o,.o,.o,.o,.o,.o,.o,.o,.slot 1]) (nCQ (nRQ [.o,.o,.o,.o,.o,.slot 2]))))) Tryz.func4 h
def fB(C:CC)(a c:V)(q:kQ):Prop:=let h:Hp:=.replicate 2 nnQ
 fj 0 a h λa h=>fj 1 c h λc h=>bnd (ldA h 2 a) λd=>clQ C h F.dj [d] λd h=>e3Q d λd e f=>jn (λd h=>bfQ 1 a λd=>b1Q h d λd=>bfQ 1 c λe=>b1Q h e λe=>bSQ .eql d e λd=>cnd d (bfQ 0 a λa=>b1Q h a λa=>bfQ 0 c λc=>b1Q h c λc=>clQ C h F.fJ [a,c] q) (bfQ 0 a λd=>b1Q h d λd=>bfQ 1 c λe=>b1Q h e λe=>clQ C h F.bL [d,e] λd h=>bfQ 0 c λc=>b1Q h c λc=>bfQ 1 a λa=>b1Q h a λa=>clQ C h F.bL [c,a] λa h=>clQ C h F.fJ [d,a] q)) λa=>cnd f (bnd (ldA h 2 c) λc=>clQ C h F.dj [c] λc h=>e3Q c λc f g=>cnd g (bIQ .mul d f λa=>bIQ .mul c e λc=>cIQ .lss a c (q (I (-1)) h) (cIQ .gtr a c (q (I 1) h) (q (I 0) h))) (a [] h)) (a [] h)
theorem yT(h:fB (CX Y) t0 t1 (out v)):CP Y F.fB [t0,t1] v:=CPo 2 (nBQ (nRQ [.slot 0,.slot 1]) (nCQ (d7 (nJQ [] [2,3])))) Tryz.func74 h
def fK(C:CC)(a c:V)(q:kQ):Prop:=let h:Hp:=.replicate 1 nnQ
 fj 0 a h λa h=>bnd (ldA h 3 a) λd=>cY 1 [nPQ] [(0,c)] h λe h=>clQ C h F.bh [d,e] λd h=>e3Q d λd e f=>nzQ f (q (.tup [nSQ,B false,f]) h) (bfQ 0 a λa=>b1Q h a λa=>bxQ h 1 d (I 0) λd=>b1Q h d λd=>clQ C h F.gM [a,c,d,e] λa h=>e3Q a λa c d=>q (.tup [a,c,d]) h)
theorem qZ(h:fK (CX Y) t0 t1 (out v)):CP Y F.fK [t0,t1] v:=CPo 1 (nCQ (nRQ [.slot 0])) Tryz.func7 h
def je(C:CC)(a:V)(q:kQ):Prop:=let h:Hp:=.replicate 1 nnQ
 fj 0 a h λa h=>bfQ 2 a λc=>b1Q h c λc=>blQ c λc=>cIQ .neq c (I 2) (q (I 5) h) (bfQ 2 a λa=>b1Q h a λa=>bxQ h 1 a (I 0) λa=>b1Q h a λa=>bxQ h 1 a (I 0) λa=>b1Q h a λa=>cIQ .eql a (I 0) (q (I 26) h) (q (I 0) h))
theorem yx(h:je (CX Y) t0 (out v)):CP Y F.je [t0] v:=CPo 1 (nCQ (nRQ [.slot 0])) Tryz.func8 h
def iO(C:CC)(a c:V):aP:=λl h q=>blQ a λd=>cIQ .lss (ge l 2) d (bfQ 2 c λd=>b1Q h d λd=>bxQ h 1 d (I 0) λd=>b1Q h d λd=>bxQ h 1 d (ge l 2) λd=>b1Q h d λd=>bxQ h 1 a (ge l 2) λe=>b1Q h e λe=>bIQ .mul d e λd=>bIQ .add (ge l 0) d λd=>bfQ 2 c λc=>b1Q h c λc=>bxQ h 1 c (I 1) λc=>b1Q h c λc=>bxQ h 1 c (ge l 2) λc=>b1Q h c λc=>bxQ h 1 a (ge l 2) λa=>b1Q h a λa=>bIQ .mul c a λa=>bIQ .add (ge l 1) a λa=>bIQ .add (ge l 2) (I 1) λc=>q .normal [d,a,c] h) (q (.exit 0) [ge l 0,ge l 1] h)
def fW(C:CC)(a c:V)(q:kQ):Prop:=let h:Hp:=.replicate 1 nnQ
 fj 0 a h λa h=>lp (iO C c a) [] h [I 0,I 0,I 0] h (exK [((.exit 0),λa h=>q (.tup [ge a 0,ge a 1]) h)])
theorem vL(h:fW (CX Y) t0 t1 (out v)):CP Y F.fW [t0,t1] v:=CPo 1 (nBQ (nRQ [.slot 0]) (aD (nCQ (aD (nCQ (.n (.l [6,7,8] [1,2] [((.exit 0),[6,7],[])] []) .o .o)))))) Tryz.func27 h
def eB(C:CC)(a c d e:V):aP:=λl h q=>blQ a λf=>cIQ .lss (ge l 1) f (bxQ h 1 a (ge l 1) λa=>b1Q h a λa=>clQ C h F.aV [a,I 1] λa h=>alV 1 [.d (.str []),.d (.str [])] h λf h=>stD h 2 f a λ_ h=>bIQ .eql (ge l 1) (I 0) λa=>jn (λa h=>bnd (ldA h 2 f) λa=>clQ C h F.aV [e,I 1] λc h=>clQ C h F.gS [a,c] λa h=>e2Q a λa c=>alV 2 [.d (.str []),.d (.str [])] h λc h=>stD h 2 c a λ_ h=>bnd (ldA h 2 c) λa=>cY 1 [.str [],.str []] [(0,a)] h λa h=>apV false 3 2 32 (ge l 0) a h λa h=>bIQ .add (ge l 1) (I 1) λc=>q .normal [a,c] h) λe=>cnd a (bnd (ldA h 2 f) λa=>bfQ 2 c λc=>b1Q h c λc=>bxQ h 1 c (I 0) λc=>b1Q h c λc=>bxQ h 1 c (I 0) λc=>b1Q h c λc=>clQ C h F.aV [d,c] λc h=>clQ C h F.j6 [a,c] λa h=>stD h 2 f a λ_ h=>e [] h) (e [] h)) (q (.exit 0) [ge l 0] h)
def d6(C:CC)(a c:V)(q:kQ):Prop:=let h:Hp:=.replicate 4 nnQ
 fj 0 a h λa h=>bnd (ldA h 3 a) λd=>clQ C h F.fW [d,c] λd h=>e2Q d λd e=>cIQ .eql e (I 0) (q (.tup [nSQ,B false]) h) (lp (eB C c a d e) [1,2] h [nSQ,I 0] h (exK [((.exit 0),λa h=>q (.tup [ge a 0,B true]) h)]))
theorem tE(h:d6 (CX Y) t0 t1 (out v)):CP Y F.d6 [t0,t1] v:=CPo 4 (nBQ (nRQ [.slot 0]) (Fj (nCQ (aD (nCQ (.n (.l [8,9] [1,2,6,7] [((.exit 0),[8],[])] [1,2]) (aD (nCQ (nCQ (nBQ (nRQ [.o,.slot 1]) (nBQ (aD (nJQ [] [1,2,6,7,8,9,10])) (nBQ (nRQ [.o,.o,.slot 2]) (nRQ [.o,.slot 3]))))))) .o)))))) Tryz.func11 h
def nC(C:CC)(a c:V):aP:=λl h q=>blQ a λd=>cIQ .lss (ge l 0) d (bnd (ldA h 3 c) λc=>bxQ h 1 a (ge l 0) λa=>b1Q h a λa=>clQ C h F.dO [c,a] λa h=>e2Q a λa c=>nzQ c (q .ret [B false] h) (bIQ .add (ge l 0) (I 1) λa=>q .normal [a] h)) (q (.exit 0) [] h)
def ie(C:CC)(a c:V)(q:kQ):Prop:=let h:Hp:=.replicate 1 nnQ
 fj 0 a h λa h=>lp (nC C c a) [] h [I 0] h (exK [((.exit 0),λa h=>q (B true) h),(.ret,λa h=>q (ge a 0) h)])
theorem xP(h:ie (CX Y) t0 t1 (out v)):CP Y F.ie [t0,t1] v:=CPo 1 (nBQ (nRQ [.slot 0]) (nCQ (aD (nCQ (.n (.l [5] [1,2] [((.exit 0),[],[]),(.ret,[4],[])] []) .o .o))))) Tryz.func10 h
def cC(C:CC)(a c:V)(q:kQ):Prop:=let h:Hp:=.replicate 3 nnQ
 fj 0 a h λa h=>clQ C h F.fp [] λd h=>bnd (unV .not d) λd=>gbQ d false h (ldA h 3 a) λe h=>gd d false h (λq=>clQ C h F.fN [e] q) λe h=>gbQ d false h (unV .not e) λe h=>bpQ d (B true) e λd=>gqQ d false h c λe h=>gbQ d false h (aQ e) λe h=>gbQ d false h (biI .gtr e (I 8)) λe h=>bpQ d (B true) e λd=>cnd d (clQ C h F.fp [] q) (bnd (ldA h 3 a) λa=>clQ C h F.fM [a] λa h=>alV 1 [.d nPQ,.d nPQ,.d nPQ] h λd h=>stD h 3 d a λ_ h=>bnd (ldA h 3 d) λa=>clQ C h F.fK [a,c] λa h=>e3Q a λa e f=>bnd (ldA h 3 d) λg=>clQ C h F.je [g] λg h=>bIQ .eql g (I 0) λi=>jn (λg h=>bIQ .eql (ge g 0) (I 0) λi=>gbQ i true h (ldA h 3 d) λj h=>gqQ i true h c λk h=>gd i true h (λq=>cY 1 [nPQ] [(0,k)] h q) λk h=>gd i true h (λq=>clQ C h F.ie [j,k] q) λj h=>gbQ i true h (unV .not j) λj h=>bpQ i j (B false) λi=>jn (λg h=>cIQ .neq (ge g 0) (I 0) (blQ a λa=>bIQ .eql a (I 0) λa=>gqQ a true h e λc h=>gbQ a true h (unV .not c) λc h=>bpQ a c (B false) λa=>gqQ a true h f λc h=>gqQ a true h (ge g 0) λd h=>gbQ a true h (biI .eql c d) λc h=>bpQ a c (B false) λa=>q a h) (bnd (ldA h 3 d) λg=>clQ C h F.d6 [g,c] λg h=>e2Q g λg i=>clQ C h F.cM [a,g] λg h=>bnd (unV .not g) λg=>gqQ g false h e λj h=>gqQ g false h i λi h=>gbQ g false h (biB .neq j i) λi h=>bpQ g (B true) i λg=>gqQ g false h f λf h=>gbQ g false h (biI .neq f (I 0)) λf h=>bpQ g (B true) f λf=>cnd f (q (B false) h) (bnd (unV .not e) λe=>cnd e (q (B true) h) (bnd (ldA h 3 d) λe=>clQ C h F.jK [e,a] λa h=>e2Q a λa e=>alV 2 [.d nPQ,.d nPQ,.d nPQ,.d nPQ] h λf h=>stD h 4 f a λ_ h=>bnd (ldA h 4 f) λa=>clQ C h F.nO [a,c] λa h=>e2Q a λa c=>bfQ 0 d λd=>b1Q h d λd=>clQ C h F.sd [d,a] λa h=>e2Q a λa d=>bIQ .eql e (I 0) λe=>gqQ e true h c λc h=>gbQ e true h (biI .eql c (I 0)) λc h=>bpQ e c (B false) λc=>gqQ c true h a λa h=>gbQ c true h (biI .eql a (I 0)) λa h=>bpQ c a (B false) λa=>gqQ a true h d λc h=>gbQ a true h (biI .eql c (I 0)) λc h=>bpQ a c (B false) λa=>q a h)))) λa=>cnd i (a [I 4] h) (a [ge g 0] h)) λa=>cnd i (bfQ 0 d λd=>b1Q h d λd=>clQ C h F.nI [d,c] λc h=>a [c] h) (a [g] h))
def iA:Ann:=(nBQ (nRQ [.slot 0]) (aD (nBQ (nRQ [.o,.slot 1]) (d7 (nBQ (aD (nJQ [9] [1,5,6,7,8])) (nBQ (aD (nJQ [9] [1,5,6,7,8])) (Od (nCQ (nRQ [.o,.slot 2])))))))))
attribute [local irreducible] bnd gd cal cnd ext cY uv stD alV alD fj jn lp exK mkS apV cai uX in
theorem rr(C:CC)(t0:V)(t1:V)(q:kkQ):fnD Y C Tryz.f3 3 iA [t0,t1] q=cC C t0 t1 q:=TW
theorem re:okB Tryz.prog Tryz.f3 iA=true:=aJ
theorem rj(h:cC (CX Y) t0 t1 (out v)):CP Y F.cC [t0,t1] v:=
 CP.of (fn:=Tryz.f3) (m:=3) (a:=iA) rfl (λ_=>rfl) Tryz.func3 re (by rw[rr];exact h)
end Go.Vm
