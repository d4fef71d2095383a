/- Lemmas. -/
import Derived.Test.YtbjigngcncfhmaaGreatDoorQVmC
set_option linter.unusedVariables false
set_option linter.unusedSimpArgs false
set_option maxRecDepth 100000
set_option maxHeartbeats 4000000
namespace Go.Vm
open Go Go.Am Go.Proofs
variable{v t0 t1 t2 t3:V}{h h2:Hp}
theorem CPo{f:FuncId}{fn:Func}(m:Nat)(a:Ann){ds:LwQ}(h3:Y.X.P.funcs[f]?=some fn)(h5:fnD Y (CX Y) fn m a ds (out v))(h1:Y.X.allow f=true:=by rfl)(h2:∀u,Y.X.orc f u=none:=by exact λ_=>rfl)(h4:okB Y.X.P fn a=true:=by decide+kernel):CP Y f ds v:=CP.of h1 h2 h3 h4 h5
abbrev nBQ(a b:Ann):Ann:=.n .x a b
abbrev nCQ(a:Ann):Ann:=.n .x a .o
abbrev nRQ(l:List Act):Ann:=.n (.r l) .o .o
abbrev nJQ(a b:LnQ):Ann:=.n (.j a b) .o .o
abbrev aK(a:Ann):Ann:=.n .x .o a
abbrev eX(a:Ann):Ann:=aK (aK a)
abbrev yB(a:Ann):Ann:=eX (aK a)
abbrev U5(a:Ann):Ann:=yB (aK a)
abbrev adl(a:Ann):Ann:=U5 (aK a)
abbrev adk(a:Ann):Ann:=adl (aK a)
abbrev ahW(a:Ann):Ann:=adk (aK a)
theorem OR{p:Prop}(h:p:=by repeat' (first|(refine acl rfl λ_=>?_)|(refine afL rfl λ_ _=>?_)|(refine aci rfl λ_ _=>?_)|(refine ach rfl ?_ ?_)|(refine aca rfl λ_=>?_)|(refine Vv rfl λ_ _=>?_)|(refine abT rfl λ_ _=>?_)|(refine aco rfl λ_ _=>?_)|(refine XQ rfl λ_ _=>?_)|(refine afE rfl (λ_ _=>?_) λ_=>?_)|(refine afm rfl (λ_ _ _=>?_) λ_ _ _=>?_)|(refine ace rfl (λ_ _=>?_) ?_)|(refine ab2 rfl λ_ _=>?_)|(refine acn rfl λ_ _=>?_)|(refine acj rfl λ_ _=>?_)|(refine Vt rfl λ_ _=>?_)|(refine acp rfl λ_ _=>?_)|(refine U1 rfl λ_=>?_)|exact rfl|(refine Vz rfl ?_))):p:=h
theorem abS{p:Prop}(h:p:=by repeat' (first|(refine acl rfl λ_=>?_)|(refine afL rfl λ_ _=>?_)|(refine aci rfl λ_ _=>?_)|(refine ach rfl ?_ ?_)|(refine aca rfl λ_=>?_)|(refine Vv rfl λ_ _=>?_)|(refine abT rfl λ_ _=>?_)|(refine aco rfl λ_ _=>?_)|(refine XQ rfl λ_ _=>?_)|(refine afE rfl (λ_ _=>?_) λ_=>?_)|(refine afm rfl (λ_ _ _=>?_) λ_ _ _=>?_)|(refine ace rfl (λ_ _=>?_) ?_)|(refine ab2 rfl λ_ _=>?_)|(refine acn rfl λ_ _=>?_)|(refine acj rfl λ_ _=>?_)|(refine afZ rfl λ_ _=>?_)|(refine Vt rfl λ_ _=>?_)|(refine acp rfl λ_ _=>?_)|(refine U1 rfl λ_=>?_)|exact rfl|(refine Vz rfl ?_))):p:=h
abbrev kQ:=kkQ
abbrev clQ(C:CC)(h:Hp)(f:FuncId)(a:LwQ)(k:kQ):Prop:=cal C.p h (.fn f [] []) a k
abbrev ciQ(C:CC)(h:Hp)(f:FuncId)(a:LwQ)(s:Nat)(k:kQ):Prop:=cai C.i h (.fn f [] []) a s k
abbrev bIQ(o:BinOp)(x y:V)(k:V->Prop):Prop:=bnd (biI o x y) k
abbrev bSQ(o:BinOp)(x y:V)(k:V->Prop):Prop:=bnd (biS o x y) k
abbrev b1Q(h:Hp)(x:V)(k:V->Prop):Prop:=bnd (ld1 h x) k
abbrev bxQ(h:Hp)(n:Nat)(x y:V)(k:V->Prop):Prop:=bnd (ixV h n x y) k
abbrev blQ(x:V)(k:V->Prop):Prop:=bnd (aX x) k
abbrev bfQ(n:Nat)(x:V)(k:V->Prop):Prop:=bnd (faV n x) k
abbrev bpQ(x y z:V)(k:V->Prop):Prop:=bnd (o9 x y z) k
abbrev cIQ(o:BinOp)(x y:V)(A B:Prop):Prop:=bnd (biI o x y) λc=>cnd c A B
abbrev nzQ(x:V)(A B:Prop):Prop:=bnd (biI .neq x (I 0)) λc=>cnd c A B
abbrev gbQ(c:V)(w:Bool)(h:Hp)(o:Option V)(k:kQ):Prop:=gd c w h (λq=>bnd o λv=>q v h) k
abbrev gqQ(c:V)(w:Bool)(h:Hp)(x:V)(k:kQ):Prop:=gd c w h (λq=>q x h) k
abbrev e2Q(x:V)(k:V->V->Prop):Prop:=ext x 0 λa=>ext x 1 λb=>k a b
abbrev e3Q(x:V)(k:V->V->V->Prop):Prop:=ext x 0 λa=>ext x 1 λb=>ext x 2 λc=>k a b c
abbrev nSQ:V:=.d nPQ
abbrev a1Q(s:Nat)(x y:V)(h:Hp)(k:kQ):Prop:=dv 1 [.int .i64 0] [(0,y)] h λv h=>apV false s 1 8 x v h k
def ql(C:CC)(a c:V)(q:kQ):Prop:=let h:Hp:=.replicate 2 nnQ
 d6 0 a h λa h=>bnd (ldA h 4 a) λd=>clQ C h F.iG [d,c] λc h=>e2Q c λc d=>nzQ d (q (.tup [nSQ,d]) h) (bnd (bld [(0,1),(1,1)] [.str [],.str []] [(0,(.d (.str [49]))),(1,(.d (.str [49])))]) λd=>alV 1 [.d (.str []),.d (.str [])] h λe h=>stD h 2 e d λ_ h=>bfQ 0 a λa=>bfQ 0 a λa=>b1Q h a λa=>bnd (ldA h 2 e) λd=>dv 1 [.str [],.str []] [(0,d)] h λd h=>blQ c λe=>clQ C h F.m5 [d,e] λd h=>clQ C h F.lK [a,c,d] λa h=>e2Q a λa c=>q (.tup [a,c]) h)
theorem JN(h:ql (CX Y) t0 t1 (out v)):CP Y F.ql [t0,t1] v:=CPo 2 (nBQ (nRQ [.slot 0]) (eX (nCQ (nRQ [.slot 1])))) Tryz.func12 h
def C8(C:CC)(a c:V):aM:=λl h q=>cIQ .lss (ge l 1) c (bxQ h 5 a (ge l 1) λa=>bnd (ldA h 5 a) λa=>alV 1 [.d nPQ,.d (.str []),.d (.str []),.d nPQ,.d (.int .i64 0)] h λc h=>stD h 5 c a λ_ h=>bfQ 4 c λa=>b1Q h a λa=>a1Q 2 (ge l 0) a h λa h=>bIQ .add (ge l 1) (I 1) λc=>q .normal [a,c] h) (q (.exit 0) [ge l 0] h)
def oj(C:CC)(a c:V)(q:kQ):Prop:=let h:Hp:=.replicate 3 nnQ
 d6 0 a h λa h=>bnd (ldA h 4 a) λa=>clQ C h F.fj [a,c] λa h=>e2Q a λa c=>nzQ c (q (.tup [nSQ,c]) h) (blQ a λc=>lp (C8 C a c) [1] h [nSQ,I 0] h (exK [((.exit 0),λa h=>q (.tup [ge a 0,I 0]) h)]))
theorem FU(h:oj (CX Y) t0 t1 (out v)):CP Y F.oj [t0,t1] v:=CPo 3 (nBQ (nRQ [.slot 0]) (yB (nCQ (aK (nCQ (.n (.l [8,22] [20,21] [((.exit 0),[8],[])] [1]) (eX (nCQ (nCQ (nBQ (nRQ [.slot 1]) (nRQ [.o,.slot 2]))))) .o)))))) Tryz.func13 h
def sZ(C:CC)(a c:V):aM:=λl h q=>cIQ .lss (ge l 0) c (bxQ h 4 a (ge l 0) λa=>bnd (ldA h 4 a) λa=>alV 2 [.d nPQ,.d nPQ,.d nPQ,.d nPQ] h λc h=>stD h 4 c a λ_ h=>bnd (ldA h 4 c) λa=>clQ C h F.fk [a] λa h=>nzQ a (q .ret [I 0,a] h) (bIQ .add (ge l 0) (I 1) λa=>q .normal [a] h)) (q (.exit 0) [] h)
def Ay(C:CC)(a c d e:V):aM:=λl h q=>cIQ .lss (ge l 0) e (bxQ h 5 c (ge l 0) λc=>bfQ 3 c λc=>b1Q h c λc=>bxQ h 5 d (ge l 0) λd=>bfQ 3 d λd=>b1Q h d λd=>clQ C h F.bP [a,c,d] λa h=>e2Q a λa c=>bIQ .neq c (I 0) λd=>gqQ d false h a λe h=>gbQ d false h (biI .neq e (I 0)) λe h=>bpQ d (B true) e λd=>cnd d (q .ret [a,c] h) (bIQ .add (ge l 0) (I 1) λa=>q .normal [a] h)) (q (.exit 2) [] h)
def kY(C:CC)(a c d:V)(q:kQ):Prop:=let h:Hp:=.replicate 3 nnQ
 d6 0 a h λa h=>d6 1 c h λc h=>bnd (ldA h 4 a) λe=>bnd (ldA h 4 c) λf=>dv 2 [nPQ,nPQ,nPQ,nPQ] [(0,e),(1,f)] h λe h=>blQ e λf=>lp (sZ C e f) [2] h [I 0] h (exK [((.exit 0),λe h=>bfQ 0 a λe=>bfQ 0 e λe=>b1Q h e λe=>bfQ 0 c λf=>bfQ 0 f λf=>b1Q h f λf=>clQ C h F.rc [e,f] λf h=>bnd (unV .not f) λf=>cnd f (q (.tup [I 0,I 14]) h) (bnd (ldA h 4 a) λa=>clQ C h F.fj [a,d] λa h=>e2Q a λa f=>nzQ f (q (.tup [I 0,f]) h) (bnd (ldA h 4 c) λc=>clQ C h F.fj [c,d] λc h=>e2Q c λc d=>nzQ d (q (.tup [I 0,d]) h) (blQ a λd=>lp (Ay C e a c d) [] h [I 0] h (exK [((.exit 2),λa h=>q (.tup [I 0,I 0]) h),(.ret,λa h=>q (.tup [ge a 0,ge a 1]) h)]))))),(.ret,λa h=>q (.tup [ge a 0,ge a 1]) h)])
theorem BV(h:kY (CX Y) t0 t1 t2 (out v)):CP Y F.kY [t0,t1,t2] v:=CPo 3 (nBQ (nRQ [.slot 0,.slot 1]) (nBQ (aK (nCQ (.n (.l [22] [2,3,4,20,21] [((.exit 0),[],[2,3,4]),(.ret,[6,7],[])] [2]) (eX (nCQ (nCQ (nCQ (nRQ [.slot 2]))))) .o))) (adk (nCQ (aK (nCQ (.n (.l [61] [11,12,14,60] [((.exit 2),[],[]),(.ret,[6,7],[])] []) .o .o))))))) Tryz.func15 h
def me(C:CC)(a c d:V):aM:=λl h q=>cIQ .lss (ge l 1) d (jn (λa h=>bIQ .add (ge l 1) (I 1) λc=>q .normal [ge a 0,c] h) λd=>bxQ h 3 c (ge l 1) λc=>bnd (ldA h 3 c) λc=>alV 1 [.d nPQ,.d (.str []),.d (.str [])] h λe h=>stD h 3 e c λ_ h=>bnd (ldA h 3 a) λa=>bfQ 0 e λc=>b1Q h c λc=>clQ C h F.d9 [a,c] λa h=>e2Q a λa c=>nzQ c (q .ret [nSQ,c] h) (jn (λa h=>d [ge a 0] h) λc=>cnd a (a1Q 2 (ge l 0) (ge l 1) h λa h=>c [a] h) (c [ge l 0] h))) (q (.exit 0) [ge l 0] h)
def jZ(C:CC)(a c:V)(q:kQ):Prop:=let h:Hp:=.replicate 3 nnQ
 d6 0 a h λa h=>bnd (ldA h 3 a) λd=>clQ C h F.bY [d] λd h=>nzQ d (q (.tup [nSQ,d]) h) (bfQ 0 a λd=>b1Q h d λd=>clQ C h F.lV [d,c] λd h=>nzQ d (q (.tup [nSQ,d]) h) (blQ c λd=>lp (me C a c d) [1] h [nSQ,I 0] h (exK [((.exit 0),λa h=>q (.tup [ge a 0,I 0]) h),(.ret,λa h=>q (.tup [ge a 0,ge a 1]) h)])))
theorem wS(h:jZ (CX Y) t0 t1 (out v)):CP Y F.jZ [t0,t1] v:=CPo 3 (nBQ (nRQ [.slot 0]) (yB (nCQ (aK (nCQ (.n (.l [8,27] [2,25,26] [((.exit 0),[8],[]),(.ret,[4,5],[])] [1]) (eX (nCQ (.n (.j [8] [2,25,26,27]) (nBQ (nRQ [.slot 1]) (yB (.n (.j [8] [2,25,26,27]) (nRQ [.o,.slot 2]) .o))) .o))) .o)))))) Tryz.func16 h
def cu(C:CC)(a:V)(q:kQ):Prop:=let h:Hp:=[]
 bSQ .neq a (.d (.str [48])) λa=>q a h
theorem qZ(h:cu (CX Y) t0 (out v)):CP Y F.cu [t0] v:=CPo 0 .o Tryz.func75 h
def d9(C:CC)(a c:V)(q:kQ):Prop:=let h:Hp:=.replicate 1 nnQ
 d6 0 a h λa h=>bnd (ldA h 3 a) λd=>dv 1 [nPQ] [(0,c)] h λe h=>clQ C h F.fH [d,e] λd h=>nzQ d (q (.tup [B false,d]) h) (bnd (ldA h 3 a) λa=>clQ C h F.fq [a,c] λa h=>clQ C h F.bi [a,(.fn F.cu [] [])] λa h=>bnd (unV .not a) λa=>q (.tup [a,I 0]) h)
theorem ta(h:d9 (CX Y) t0 t1 (out v)):CP Y F.d9 [t0,t1] v:=CPo 1 (nCQ (nRQ [.slot 0])) Tryz.func40 h
def bi(C:CC)(a c:V)(q:kQ):Prop:=let h:Hp:=[]
 clQ C h F.dJ [a,c] λa h=>bIQ .geq a (I 0) λa=>q a h
theorem nS(h:bi (CX Y) t0 t1 (out v)):CP Y F.bi [t0,t1] v:=CPo 0 .o Tryz.func73 h
def oB(C:CC)(a c d:V):aM:=λl h q=>cIQ .lss (ge l 0) d (bxQ h 1 a (ge l 0) λa=>b1Q h a λa=>cal C.p h c [a] λa h=>cnd a (q .ret [ge l 0] h) (bIQ .add (ge l 0) (I 1) λa=>q .normal [a] h)) (q (.exit 0) [] h)
def dJ(C:CC)(a c:V)(q:kQ):Prop:=let h:Hp:=[]
 blQ a λd=>lp (oB C a c d) [] h [I 0] h (exK [((.exit 0),λa h=>q (I (-1)) h),(.ret,λa h=>q (ge a 0) h)])
theorem oS(h:dJ (CX Y) t0 t1 (out v)):CP Y F.dJ [t0,t1] v:=CPo 0 (aK (nCQ (aK (nCQ (.n (.l [8] [0,1,7] [((.exit 0),[],[]),(.ret,[4],[])] []) .o .o))))) Tryz.func109 h
def ib(C:CC)(a c:V)(q:kQ):Prop:=let h:Hp:=.replicate 3 nnQ
 d6 0 c h λc h=>alV 1 [.d nPQ,.d (.str []),.d (.str [])] h λd h=>bfQ 4 c λe=>bnd (ldA h 2 e) λe=>clQ C h F.cL [e] λe h=>clQ C h F.og [e] λe h=>alV 2 [.d (.str []),.d (.str [])] h λf h=>stD h 2 f e λ_ h=>bnd (ldA h 2 f) λe=>clQ C h F.iZ [e] λe h=>bIQ .eql e (I 0) λe=>jn (λe h=>bfQ 0 c λc=>bnd (ldA h 4 c) λc=>clQ C h F.cn [a,c] λa h=>bnd (ldA h 2 f) λc=>bnd (bld [(0,1),(1,2)] [nPQ,.str [],.str []] [(0,a),(1,c)]) λa=>stD h 3 d a λ_ h=>bnd (ldA h 3 d) λa=>q a h) λa=>cnd e (clQ C h F.aC [I 1,I 1] λc h=>stD h 2 f c λ_ h=>a [] h) (a [] h)
theorem xG(h:ib (CX Y) t0 t1 (out v)):CP Y F.ib [t0,t1] v:=CPo 3 (nBQ (nRQ [.slot 0,.slot 1]) (nBQ (nRQ [.o,.o,.slot 2]) (nCQ (aK (nJQ [] [0,3,4,5]))))) Tryz.func7 h
def aC(C:CC)(a c:V)(q:kQ):Prop:=let h:Hp:=.replicate 2 nnQ
 alV 0 [.d (.str []),.d (.str [])] h λd h=>clQ C h F.ja [a,c] λa h=>e2Q a λa c=>alV 1 [.d (.str []),.d (.str [])] h λc h=>stD h 2 c a λ_ h=>bnd (ldA h 2 c) λa=>stD h 2 d a λ_ h=>bnd (ldA h 2 d) λa=>q a h
theorem xF(h:aC (CX Y) t0 t1 (out v)):CP Y F.aC [t0,t1] v:=CPo 2 (nBQ (nRQ [.slot 0]) (nCQ (nRQ [.o,.slot 1]))) Tryz.func18 h
def cJ(C:CC)(q:kQ):Prop:=let h:Hp:=.replicate 3 nnQ
 alV 0 [.d nPQ,.d nPQ,.d nPQ,.d nPQ] h λa h=>clQ C h F.aC [I 0,I 1] λc h=>clQ C h F.aC [I 1,I 1] λd h=>alV 1 [.d (.str []),.d (.str [])] h λe h=>alV 2 [.d (.str []),.d (.str [])] h λf h=>stD h 2 e c λ_ h=>stD h 2 f d λ_ h=>dv 3 [.int .i64 0] [(0,(I 2)),(1,(I 3)),(2,(I 5))] h λc h=>dv 3 [.int .i64 0] [(0,(I 4)),(1,(I (-4))),(2,(I 1))] h λd h=>dv 1 [nPQ] [(0,d)] h λd h=>dv 3 [.int .i64 0] [(0,(I 1)),(1,(I 0)),(2,(I (-4)))] h λg h=>dv 3 [.int .i64 0] [(0,(I 0)),(1,(I 1)),(2,(I 4))] h λi h=>dv 2 [nPQ] [(0,g),(1,i)] h λg h=>bnd (bld [(0,1),(1,1),(2,1)] [nPQ,nPQ,nPQ] [(0,c),(1,d),(2,g)]) λc=>bnd (ldA h 2 f) λd=>bnd (ldA h 2 e) λg=>bnd (ldA h 2 e) λi=>dv 3 [.str [],.str []] [(0,d),(1,g),(2,i)] h λd h=>bnd (ldA h 2 f) λf=>bnd (ldA h 2 e) λe=>soC C.p h (.fn F.aC [] []) [I 1,I 4] λg h=>dv 3 [.str [],.str []] [(0,f),(1,e),(2,g)] h λe h=>dv 2 [nPQ] [(0,d),(1,e)] h λd h=>bnd (bld [(0,3),(3,1)] [nPQ,nPQ,nPQ,nPQ] [(0,c),(1,d)]) λc=>stD h 4 a c λ_ h=>bnd (ldA h 4 a) λa=>q a h
theorem tV(h:cJ (CX Y) (out v)):CP Y F.cJ [] v:=CPo 3 (nBQ (nRQ [.slot 0]) (nCQ (nRQ [.o,.o,.slot 1,.slot 2]))) Tryz.func19 h
def dT(C:CC)(q:kQ):Prop:=let h:Hp:=[]
 dv 3 [.int .i64 0] [(0,(I (-1))),(1,(I 1)),(2,(I 0))] h λa h=>clQ C h F.aC [I 1,I 1] λc h=>bnd (bld [(0,1),(1,2)] [nPQ,.str [],.str []] [(0,a),(1,c)]) λa=>dv 3 [.int .i64 0] [(0,(I 1)),(1,(I 1)),(2,(I (-1)))] h λc h=>clQ C h F.aC [I 2,I 1] λd h=>bnd (bld [(0,1),(1,2)] [nPQ,.str [],.str []] [(0,c),(1,d)]) λc=>dv 3 [.int .i64 0] [(0,(I (-2))),(1,(I 0)),(2,(I 1))] h λd h=>clQ C h F.aC [I 1,I 1] λe h=>bnd (bld [(0,1),(1,2)] [nPQ,.str [],.str []] [(0,d),(1,e)]) λd=>dv 3 [nPQ,.str [],.str []] [(0,a),(1,c),(2,d)] h λa h=>clQ C h F.cJ [] λc h=>bxQ h 3 a (I 0) λd=>bnd (ldA h 3 d) λd=>clQ C h F.mE [c,d] λc h=>e2Q c λc d=>clQ C h F.cJ [] λe h=>clQ C h F.d7 [e,a] λe h=>e3Q e λe f g=>clQ C h F.cJ [] λi h=>clQ C h F.jb [i,a] λa h=>e2Q a λa i=>bIQ .eql d (I 0) λd=>gqQ d true h c λj h=>gbQ d true h (aX j) λj h=>gbQ d true h (biI .eql j (I 3)) λj h=>bpQ d j (B false) λd=>gqQ d true h c λj h=>gbQ d true h (ixV h 2 j (I 0)) λj h=>gbQ d true h (ldA h 2 j) λj h=>gd d true h (λq=>clQ C h F.aC [I (-1),I 1] q) λk h=>gbQ d true h (biA [.str [],.str []] .eql j k) λj h=>bpQ d j (B false) λd=>gqQ d true h c λj h=>gbQ d true h (ixV h 2 j (I 1)) λj h=>gbQ d true h (ldA h 2 j) λj h=>gd d true h (λq=>clQ C h F.aC [I 1,I 1] q) λk h=>gbQ d true h (biA [.str [],.str []] .eql j k) λj h=>bpQ d j (B false) λd=>gqQ d true h c λc h=>gbQ d true h (ixV h 2 c (I 2)) λc h=>gbQ d true h (ldA h 2 c) λc h=>gd d true h (λq=>clQ C h F.aC [I (-1),I 4] q) λj h=>gbQ d true h (biA [.str [],.str []] .eql c j) λc h=>bpQ d c (B false) λc=>gqQ c true h g λd h=>gbQ c true h (biI .eql d (I 0)) λd h=>bpQ c d (B false) λc=>gqQ c true h e λd h=>gbQ c true h (aX d) λd h=>gbQ c true h (biI .eql d (I 3)) λd h=>bpQ c d (B false) λc=>gqQ c true h e λd h=>gbQ c true h (ixV h 2 d (I 0)) λd h=>gbQ c true h (ldA h 2 d) λd h=>gd c true h (λq=>clQ C h F.aC [I (-2),I 1] q) λe h=>gbQ c true h (biA [.str [],.str []] .eql d e) λd h=>bpQ c d (B false) λc=>gqQ c true h f λd h=>gbQ c true h (aX d) λd h=>gbQ c true h (biI .eql d (I 1)) λd h=>bpQ c d (B false) λc=>gqQ c true h f λd h=>gbQ c true h (ixV h 1 d (I 0)) λd h=>gbQ c true h (ld1 h d) λd h=>gbQ c true h (biI .eql d (I 1)) λd h=>bpQ c d (B false) λc=>gqQ c true h i λd h=>gbQ c true h (biI .eql d (I 0)) λd h=>bpQ c d (B false) λc=>gqQ c true h a λd h=>gbQ c true h (aX d) λd h=>gbQ c true h (biI .eql d (I 1)) λd h=>bpQ c d (B false) λc=>gqQ c true h a λa h=>gbQ c true h (ixV h 1 a (I 0)) λa h=>gbQ c true h (ld1 h a) λa h=>gbQ c true h (biI .eql a (I 2)) λa h=>bpQ c a (B false) λa=>q a h
def nA:Ann:=.o
attribute [local irreducible] bnd gd cal cnd ext dv wI stD alV alD d6 jn lp exK mkS apV cai Bj in
theorem wy(C:CC)(q:kkQ):fnD Y C Tryz.f4 0 nA [] q=dT C q:=OR
theorem wu:okB Tryz.prog Tryz.f4 nA=true:=aR
theorem ww(h:dT (CX Y) (out v)):CP Y F.dT [] v:=
 CP.of (fn:=Tryz.f4) (m:=0) (a:=nA) rfl (λ_=>rfl) Tryz.func4 wu (by rw[wy];exact h)
def bq(C:CC)(b:Nat)(a c d:V):aM:=λl h q=>bIQ .gtr (ge l 0) c λc=>gqQ c true h d λd h=>gqQ c true h a λe h=>gqQ c true h (ge l 0) λf h=>gbQ c true h (ixV h 5 e f) λe h=>gbQ c true h (ldA h 5 e) λe h=>gqQ c true h a λf h=>gqQ c true h (ge l 0) λg h=>gbQ c true h (biI .sub g (I 1)) λg h=>gbQ c true h (ixV h 5 f g) λf h=>gbQ c true h (ldA h 5 f) λf h=>gd c true h (λq=>cal C.p h d [e,f] q) λd h=>gbQ c true h (biI .lss d (I 0)) λd h=>bpQ c d (B false) λc=>cnd c (bIQ .sub (ge l 0) (I 1) λc=>bIQ .sub (ge l 0) (I 1) λd=>bxQ h 5 a d λd=>bnd (ldA h 5 d) λd=>bxQ h 5 a (ge l 0) λe=>bnd (ldA h 5 e) λe=>bxQ h 5 a (ge l 0) λf=>stD h 5 f d λ_ h=>bxQ h 5 a c λa=>stD h 5 a e λ_ h=>bIQ .sub (ge l 0) (I 1) λa=>q .normal [a] h) (q (.exit 2) [] h)
def bv(C:CC)(b:Nat)(a c d e:V):aM:=λl h q=>cIQ .lss (ge l 0) d (lp (bq C b a c e) [] h [ge l 0] h (exK [((.exit 2),λa h=>bIQ .add (ge l 0) (I 1) λa=>q .normal [a] h)])) (q (.exit 0) [] h)
def ay(C:CC)(b:Nat)(h:Hp)(a c d e:V)(q:kQ):Prop:=let h:Hp:=h++List.replicate 0 nnQ
 bIQ .add c (I 1) λf=>lp (bv C b a c d e) [] h [f] h (exK [((.exit 0),λa h=>q (.tup []) h)])
def cI(b:Nat):Ann:=(.n .x .o (.n .x (.n (.l [8] [0,1,2,3] [((.exit 0),[],[])] []) (.n .x .o (.n .x (.n .x (.n .x .o (.n .x (.n (.l [9] [0,1,2,3,8] [((.exit 2),[],[0,1,2,3,8])] []) .o .o) .o)) .o) .o)) .o) .o))
theorem kz(C:CC)(h:Hp)(t0:V)(t1:V)(t2:V)(t3:V)(q:kkQ):fnI Y C Tryz.f135 0 cI [t0,t1,t2,t3] h q=ay C h.length h t0 t1 t2 t3 q:=by rfl
theorem kx(b:Nat):okB Tryz.prog Tryz.f135 (cI b)=true:=by rfl
theorem ky(hh:ay (CX Y) h.length h t0 t1 t2 t3 (m7 h.length v h2)):CI Y F.ay [t0,t1,t2,t3] h v h2:=
 CI.of (fn:=Tryz.f135) (m:=0) (a:=cI) rfl (λ_=>rfl) Tryz.func135 (kx _) (by rw[kz];exact hh)
def gG(C:CC)(b:Nat)(a c d e:V):aM:=λl h q=>cIQ .leq (ge l 1) c (ciQ C h F.ay [a,ge l 0,ge l 1,d] (b+0) λa h=>bIQ .add (ge l 1) e λa=>q .normal [ge l 1,a] h) (q (.exit 0) [ge l 0] h)
def mZ(C:CC)(b:Nat)(a c d e:V):aM:=λl h q=>cIQ .leq (ge l 1) c (bIQ .add (ge l 0) e λc=>clQ C h F.gN [a,ge l 0,c,ge l 1,d] λa h=>bIQ .mul (I 2) e λa=>bIQ .add (ge l 1) a λa=>q .normal [ge l 1,a] h) (q (.exit 4) [ge l 0] h)
def gF(C:CC)(b:Nat)(a c d:V):aM:=λl h q=>cIQ .lss (ge l 0) c (bIQ .mul (I 2) (ge l 0) λe=>lp (mZ C b a c d (ge l 0)) [] h [I 0,e] h (exK [((.exit 4),λe h=>bIQ .add (ge e 0) (ge l 0) λf=>bIQ .lss f c λg=>jn (λa h=>bIQ .mul (ge l 0) (I 2) λa=>q .normal [a] h) λi=>cnd g (clQ C h F.gN [a,ge e 0,f,c,d] λa h=>i [] h) (i [] h))])) (q (.exit 2) [] h)
def aQ(C:CC)(b:Nat)(h:Hp)(a c d:V)(q:kQ):Prop:=let h:Hp:=h++List.replicate 2 nnQ
 lp (gG C b a c d (I 20)) [(b+0)] h [I 0,I 20] h (exK [((.exit 0),λe h=>ciQ C h F.ay [a,ge e 0,c,d] (b+1) λe h=>lp (gF C b a c d) [] h [I 20] h (exK [((.exit 2),λa h=>q (.tup []) h)]))])
def dR(b:Nat):Ann:=(.n .x .o (.n .x .o (.n .x (.n .x (.n (.l [7,8] [0,1,2,6] [((.exit 0),[7],[0,1,2,6])] [(b+0)]) (.n .x .o (.n .x (.n .x (.n (.r [.inl (b+0)]) .o .o) .o) .o)) .o) .o) (.n .x (.n (.r [.inl (b+1)]) .o .o) (.n .x (.n (.l [6] [0,1,2] [((.exit 2),[],[])] []) (.n .x .o (.n .x (.n .x .o (.n .x (.n .x (.n (.l [7,8] [0,1,2,6] [((.exit 4),[7],[0,1,2,6])] []) .o .o) .o) (.n .x (.n .x .o (.n .x .o (.n (.j [] [0,1,2,6]) .o .o))) .o))) .o)) .o) .o)))))
theorem nm(C:CC)(h:Hp)(t0:V)(t1:V)(t2:V)(q:kkQ):fnI Y C Tryz.f103 2 dR [t0,t1,t2] h q=aQ C h.length h t0 t1 t2 q:=by rfl
theorem nh(b:Nat):okB Tryz.prog Tryz.f103 (dR b)=true:=by rfl
theorem nj(hh:aQ (CX Y) h.length h t0 t1 t2 (m7 h.length v h2)):CI Y F.aQ [t0,t1,t2] h v h2:=
 CI.of (fn:=Tryz.f103) (m:=2) (a:=dR) rfl (λ_=>rfl) Tryz.func103 (nh _) (by rw[nm];exact hh)
def ak(C:CC)(b:Nat)(h:Hp)(a c:V)(q:kQ):Prop:=let h:Hp:=h++List.replicate 1 nnQ
 blQ a λd=>ciQ C h F.aQ [a,d,c] (b+0) λa h=>q (.tup []) h
def bF(b:Nat):Ann:=(.n (.r [.inl (b+0)]) .o .o)
theorem hO(C:CC)(h:Hp)(t0:V)(t1:V)(q:kkQ):fnI Y C Tryz.f63 1 bF [t0,t1] h q=ak C h.length h t0 t1 q:=by rfl
theorem gY(b:Nat):okB Tryz.prog Tryz.f63 (bF b)=true:=by rfl
theorem gZ(hh:ak (CX Y) h.length h t0 t1 (m7 h.length v h2)):CI Y F.ak [t0,t1] h v h2:=
 CI.of (fn:=Tryz.f63) (m:=1) (a:=bF) rfl (λ_=>rfl) Tryz.func63 (gY _) (by rw[hO];exact hh)
def oi(C:CC)(a c d:V):aM:=λl h q=>cIQ .lss (ge l 1) d (bxQ h 1 c (ge l 1) λc=>b1Q h c λc=>bxQ h 3 a (ge l 1) λa=>bnd (ldA h 3 a) λa=>bnd (bld [(0,3),(3,1),(4,1)] [nPQ,.str [],.str [],nPQ,.int .i64 0] [(0,a),(1,c),(2,(ge l 1))]) λa=>dv 1 [nPQ,.str [],.str [],nPQ,.int .i64 0] [(0,a)] h λa h=>apV false 1 5 88 (ge l 0) a h λa h=>bIQ .add (ge l 1) (I 1) λc=>q .normal [a,c] h) (q (.exit 0) [ge l 0] h)
def fj(C:CC)(a c:V)(q:kQ):Prop:=let h:Hp:=.replicate 3 nnQ
 d6 0 a h λa h=>bnd (ldA h 4 a) λd=>clQ C h F.iG [d,c] λd h=>e2Q d λd e=>nzQ e (q (.tup [nSQ,e]) h) (blQ d λe=>lp (oi C c d e) [] h [nSQ,I 0] h (exK [((.exit 0),λc h=>ciQ C h F.ak [ge c 0,(.fn F.dy [] [a])] 2 λa h=>q (.tup [ge c 0,I 0]) h)]))
theorem vu(h:fj (CX Y) t0 t1 (out v)):CP Y F.fj [t0,t1] v:=CPo 3 (nBQ (nRQ [.slot 0]) (yB (nBQ (aK (nCQ (.n (.l [8,22] [1,2,20,21] [((.exit 0),[8],[2])] []) (eX (nCQ (nCQ (aK (nRQ [.o,.slot 1]))))) .o))) (nCQ (nRQ [.inl 2]))))) Tryz.func32 h
def dy(C:CC)(a c d:V)(q:kQ):Prop:=let h:Hp:=.replicate 2 nnQ
 d6 0 a h λa h=>d6 1 c h λc h=>bfQ 0 d λd=>bfQ 0 d λd=>b1Q h d λd=>bfQ 3 c λc=>b1Q h c λc=>bfQ 3 a λa=>b1Q h a λa=>clQ C h F.bP [d,c,a] λa h=>e2Q a λa c=>q a h
theorem yQ(h:dy (CX Y) t0 t1 t2 (out v)):CP Y F.dy [t0,t1,t2] v:=CPo 2 (nCQ (nRQ [.slot 0,.slot 1])) Tryz.func64 h
def lU(C:CC)(a c d:V):aM:=λl h q=>cIQ .lss (ge l 1) d (jn (λa h=>bIQ .add (ge l 1) (I 1) λc=>q .normal [ge a 0,c] h) λd=>bxQ h 5 c (ge l 1) λc=>bnd (ldA h 5 c) λc=>alV 1 [.d nPQ,.d (.str []),.d (.str []),.d nPQ,.d (.int .i64 0)] h λe h=>stD h 5 e c λ_ h=>bfQ 3 e λc=>b1Q h c λc=>bxQ h 5 a (I 0) λa=>bfQ 3 a λa=>b1Q h a λa=>clQ C h F.pW [c,a] λa h=>jn (λa h=>d [ge a 0] h) λc=>cnd a (bfQ 4 e λa=>b1Q h a λa=>a1Q 2 (ge l 0) a h λa h=>c [a] h) (c [ge l 0] h)) (q (.exit 0) [ge l 0] h)
def d7(C:CC)(a c:V)(q:kQ):Prop:=let h:Hp:=.replicate 3 nnQ
 d6 0 a h λa h=>bnd (ldA h 4 a) λa=>clQ C h F.fj [a,c] λa h=>e2Q a λa c=>nzQ c (q (.tup [nSQ,nSQ,c]) h) (blQ a λc=>cIQ .eql c (I 0) (q (.tup [nSQ,nSQ,I 13]) h) (blQ a λc=>lp (lU C a a c) [1] h [nSQ,I 0] h (exK [((.exit 0),λc h=>bxQ h 5 a (I 0) λa=>bfQ 3 a λa=>b1Q h a λa=>q (.tup [a,ge c 0,I 0]) h)])))
theorem sY(h:d7 (CX Y) t0 t1 (out v)):CP Y F.d7 [t0,t1] v:=CPo 3 (nBQ (nRQ [.slot 0]) (yB (nCQ (aK (nCQ (.n (.l [5,24] [7,22,23] [((.exit 0),[5],[7])] [1]) (eX (nCQ (.n (.j [5] [7,22,23,24]) (nBQ (nRQ [.slot 1]) (aK (.n (.j [5] [7,22,23,24]) (nRQ [.o,.slot 2]) .o))) .o))) .o)))))) Tryz.func11 h
def qt(C:CC)(a c d e:V):aM:=λl h q=>cIQ .lss (ge l 1) e (bxQ h 3 d (ge l 1) λd=>bnd (ldA h 3 d) λd=>alV 1 [.d nPQ,.d (.str []),.d (.str [])] h λe h=>stD h 3 e d λ_ h=>bnd (ldA h 4 a) λa=>bfQ 0 e λd=>b1Q h d λd=>clQ C h F.lF [a,d] λa h=>e2Q a λa d=>bIQ .eql d (I 0) λf=>jn (λa h=>bIQ .eql (ge a 1) (I 0) λd=>jn (λa h=>cIQ .neq (ge a 1) (I 0) (q .ret [nSQ,ge a 1] h) (dv 1 [nPQ] [(0,(ge a 0))] h λa h=>apV false 2 1 24 (ge l 0) a h λa h=>bIQ .add (ge l 1) (I 1) λc=>q .normal [a,c] h)) λf=>cnd d (bfQ 1 e λd=>bnd (ldA h 2 d) λd=>clQ C h F.oT [c,ge a 0,d] λa h=>e2Q a λa c=>f [a,c] h) (f [ge a 0,ge a 1] h)) λe=>cnd f (clQ C h F.rX [c,a] λa h=>e2Q a λa c=>e [a,c] h) (e [a,d] h)) (q (.exit 0) [ge l 0] h)
def iG(C:CC)(a c:V)(q:kQ):Prop:=let h:Hp:=.replicate 3 nnQ
 d6 0 a h λa h=>bnd (ldA h 4 a) λd=>clQ C h F.fk [d] λd h=>nzQ d (q (.tup [nSQ,d]) h) (bfQ 0 a λd=>bfQ 0 d λd=>b1Q h d λd=>clQ C h F.lV [d,c] λe h=>nzQ e (q (.tup [nSQ,e]) h) (blQ c λe=>lp (qt C a d c e) [1] h [nSQ,I 0] h (exK [((.exit 0),λa h=>q (.tup [ge a 0,I 0]) h),(.ret,λa h=>q (.tup [ge a 0,ge a 1]) h)])))
theorem Az(h:iG (CX Y) t0 t1 (out v)):CP Y F.iG [t0,t1] v:=CPo 3 (nBQ (nRQ [.slot 0]) (U5 (nCQ (aK (nCQ (.n (.l [9,30] [2,7,28,29] [((.exit 0),[9],[]),(.ret,[4,5],[])] [1]) (eX (nCQ (nCQ (nBQ (nRQ [.slot 1]) (aK (nBQ (aK (nJQ [12,13] [2,7,9,11,28,29,30])) (nBQ (aK (nJQ [12,13] [2,7,9,28,29,30])) (aK (nRQ [.o,.slot 2]))))))))) .o)))))) Tryz.func10 h
def mE(C:CC)(a c:V)(q:kQ):Prop:=let h:Hp:=.replicate 2 nnQ
 d6 0 a h λa h=>d6 1 c h λc h=>bnd (ldA h 4 a) λa=>bnd (ldA h 3 c) λc=>dv 1 [nPQ,.str [],.str []] [(0,c)] h λc h=>clQ C h F.iG [a,c] λa h=>e2Q a λa c=>nzQ c (q (.tup [nSQ,c]) h) (bxQ h 1 a (I 0) λa=>b1Q h a λa=>q (.tup [a,I 0]) h)
theorem Cw(h:mE (CX Y) t0 t1 (out v)):CP Y F.mE [t0,t1] v:=CPo 2 (nCQ (nRQ [.slot 0,.slot 1])) Tryz.func9 h
def pL(C:CC)(a c:V):aM:=λl h q=>cIQ .lss (ge l 1) c (jn (λa h=>bIQ .add (ge l 1) (I 1) λc=>q .normal [ge a 0,c] h) λc=>bxQ h 1 a (ge l 1) λa=>b1Q h a λa=>clQ C h F.aG [a,(.fn F.jt [] [])] λa h=>bnd (unV .not a) λa=>jn (λa h=>c [ge a 0] h) λc=>cnd a (a1Q 1 (ge l 0) (ge l 1) h λa h=>c [a] h) (c [ge l 0] h)) (q (.exit 0) [ge l 0] h)
def jb(C:CC)(a c:V)(q:kQ):Prop:=let h:Hp:=.replicate 2 nnQ
 d6 0 a h λa h=>bnd (ldA h 4 a) λa=>clQ C h F.iG [a,c] λa h=>e2Q a λa c=>nzQ c (q (.tup [nSQ,c]) h) (blQ a λc=>lp (pL C a c) [] h [nSQ,I 0] h (exK [((.exit 0),λa h=>q (.tup [ge a 0,I 0]) h)]))
theorem ya(h:jb (CX Y) t0 t1 (out v)):CP Y F.jb [t0,t1] v:=CPo 2 (nBQ (nRQ [.slot 0]) (yB (nCQ (aK (nCQ (.n (.l [8,22] [20,21] [((.exit 0),[8],[])] []) (eX (nCQ (.n (.j [8] [20,21,22]) (eX (.n (.j [8] [20,21,22]) (nRQ [.o,.slot 1]) .o)) .o))) .o)))))) Tryz.func14 h
def jt(C:CC)(a:V)(q:kQ):Prop:=let h:Hp:=.replicate 1 nnQ
 d6 0 a h λa h=>bfQ 0 a λa=>b1Q h a λa=>bSQ .neq a (.d (.str [48])) λa=>q a h
theorem BU(h:jt (CX Y) t0 (out v)):CP Y F.jt [t0] v:=CPo 1 (nCQ (nRQ [.slot 0])) Tryz.func37 h
def oP(C:CC)(a c d:V):aM:=λl h q=>cIQ .lss (ge l 0) d (bxQ h 3 c (ge l 0) λc=>bnd (ldA h 3 c) λc=>alV 0 [.d nPQ,.d (.str []),.d (.str [])] h λd h=>stD h 3 d c λ_ h=>bfQ 0 d λc=>b1Q h c λc=>clQ C h F.nF [a,c] λa h=>nzQ a (q .ret [a] h) (bfQ 1 d λa=>bnd (ldA h 2 a) λa=>alV 1 [.d (.str []),.d (.str [])] h λc h=>stD h 2 c a λ_ h=>bnd (ldA h 2 c) λa=>clQ C h F.fO [a] λa h=>nzQ a (q .ret [I 2] h) (bnd (ldA h 2 c) λa=>clQ C h F.iZ [a] λa h=>cIQ .leq a (I 0) (q .ret [I 3] h) (bfQ 0 c λa=>b1Q h a λa=>clQ C h F.eS [a] λa h=>bnd (nH a) λa=>bIQ .gtr a (I 30) λa=>gbQ a false h (faV 1 c) λc h=>gbQ a false h (ld1 h c) λc h=>gbQ a false h (nH c) λc h=>gbQ a false h (biI .gtr c (I 30)) λc h=>bpQ a (B true) c λa=>cnd a (q .ret [I 4] h) (bIQ .add (ge l 0) (I 1) λa=>q .normal [a] h))))) (q (.exit 0) [] h)
def lV(C:CC)(a c:V)(q:kQ):Prop:=let h:Hp:=.replicate 2 nnQ
 clQ C h F.fw [a] λd h=>nzQ d (q d h) (blQ c λd=>cIQ .gtr d (I 60) (q (I 4) h) (blQ c λd=>lp (oP C a c d) [0,1] h [I 0] h (exK [((.exit 0),λa h=>q (I 0) h),(.ret,λa h=>q (ge a 0) h)])))
theorem FV(h:lV (CX Y) t0 t1 (out v)):CP Y F.lV [t0,t1] v:=CPo 2 (yB (nCQ (aK (nCQ (.n (.l [20] [0,18,19] [((.exit 0),[],[]),(.ret,[4],[])] [0,1]) (eX (nCQ (nCQ (nBQ (nRQ [.slot 0]) (aK (nCQ (nRQ [.slot 1]))))))) .o))))) Tryz.func28 h
def cO(C:CC)(a c:V)(q:kQ):Prop:=let h:Hp:=[]
 gqQ a true h c λd h=>gbQ a true h (biS .neq d (.d (.str [48]))) λd h=>bpQ a d (B false) λa=>cnd a (bSQ .add (.d (.str [45])) c λa=>q a h) (q c h)
theorem Iw(h:cO (CX Y) t0 t1 (out v)):CP Y F.cO [t0,t1] v:=CPo 0 .o Tryz.func140 h
def gj(C:CC)(a c:V)(q:kkQ):Prop:=let h:Hp:=List.replicate 6 nnQ
 cal C.p h (.fn F.fS [] []) [a,c] λd h=>ext d 0 λe=>ext d 1 λf=>ext d 2 λd=>cnd d (bnd (biI .add e f) λa=>cal C.p h (.fn F.js [] []) [a] λa h=>q a h) (cai C.i h (.fn F.dY [] []) [a] 0 λa h=>cai C.i h (.fn F.dY [] []) [c] 1 λc h=>bnd (aX a) λd=>bnd (aX c) λe=>bnd (biI .lss d e) λd=>jn (λa h=>dv 1 [.int .u64 0] [(0,(.d (.int .u64 0)))] h λc h=>apV false 2 1 8 (ge a 0) c h λc h=>bnd (aX c) λd=>bnd (biI .sub d (I 1)) λd=>bnd (aX (ge a 1)) λe=>bnd (biI .sub d e) λd=>apZ false 3 1 8 [.int .u64 0] (ge a 1) d h λa h=>cai C.i h (.fn F.cM [] []) [c,a,(I 0)] 4 λa h=>cai C.i h (.fn F.aB [] []) [c] 5 λa h=>cal C.p h (.fn F.aW [] []) [a] λa h=>q a h) λe=>cnd d (e [c,a] h) (e [a,c] h))
def tJ:Ann:=(eX (nBQ (nRQ [.inl 0,.inl 1]) (nBQ (aK (nJQ [8,9] [])) (nBQ (nRQ [.o,.slot 2]) (nBQ (nRQ [.slot 3,.inl 4]) (nCQ (nRQ [.inl 5])))))))
attribute [local irreducible] bnd gd cal cnd ext dv wI stD alV alD d6 jn lp exK mkS apV apZ cai Bj in
theorem GT(C:CC)(t0:V)(t1:V)(q:kkQ):fnD Y C Tryz.f141 6 tJ [t0,t1] q=gj C t0 t1 q:=abS
theorem GQ:okB Tryz.prog Tryz.f141 tJ=true:=aR
theorem GR(h:gj (CX Y) t0 t1 (out v)):CP Y F.gj [t0,t1] v:=
 CP.of (fn:=Tryz.f141) (m:=6) (a:=tJ) rfl (λ_=>rfl) Tryz.func141 GQ (by rw[GT];exact h)
def cx(C:CC)(a c:V)(q:kQ):Prop:=let h:Hp:=[]
 bnd (nH a) λd=>bnd (nH c) λe=>cIQ .neq d e (bnd (nH a) λa=>bnd (nH c) λc=>bIQ .sub a c λa=>bnd (mxI true [I (-1),a]) λa=>bnd (mxI false [I 1,a]) λa=>q a h) (bSQ .lss a c λd=>cnd d (q (I (-1)) h) (bSQ .gtr a c λa=>cnd a (q (I 1) h) (q (I 0) h)))
theorem Av(h:cx (CX Y) t0 t1 (out v)):CP Y F.cx [t0,t1] v:=CPo 0 .o Tryz.func142 h
def gV(C:CC)(a c:V)(q:kkQ):Prop:=let h:Hp:=List.replicate 7 nnQ
 cal C.p h (.fn F.cx [] []) [a,c] λd h=>bnd (biI .lss d (I 0)) λd=>cnd d (q (.tup [(.d (.str [])),(I 3)]) h) (cal C.p h (.fn F.fS [] []) [a,c] λd h=>ext d 0 λe=>ext d 1 λf=>ext d 2 λd=>cnd d (bnd (biI .sub e f) λa=>cal C.p h (.fn F.js [] []) [a] λa h=>q (.tup [a,(I 0)]) h) (cai C.i h (.fn F.dY [] []) [a] 0 λa h=>dv 1 [.int .u64 0] [(0,(.d (.int .u64 0)))] h λd h=>apV false 1 1 8 a d h λa h=>cai C.i h (.fn F.dY [] []) [c] 2 λd h=>bnd (aX a) λe=>bnd (biI .sub e (I 1)) λe=>cai C.i h (.fn F.dY [] []) [c] 3 λc h=>bnd (aX c) λc=>bnd (biI .sub e c) λc=>apZ false 4 1 8 [.int .u64 0] d c h λc h=>cai C.i h (.fn F.dF [] []) [a,c,(.d (.int .u64 1)),(I 0)] 5 λc h=>cai C.i h (.fn F.aB [] []) [a] 6 λa h=>cal C.p h (.fn F.aW [] []) [a] λa h=>q (.tup [a,(I 0)]) h))
def tI:Ann:=(yB (nBQ (nRQ [.inl 0,.o,.slot 1]) (nBQ (nRQ [.inl 2,.inl 3,.slot 4,.inl 5]) (nCQ (nRQ [.inl 6])))))
attribute [local irreducible] bnd gd cal cnd ext dv wI stD alV alD d6 jn lp exK mkS apV apZ cai Bj in
theorem GM(C:CC)(t0:V)(t1:V)(q:kkQ):fnD Y C Tryz.f143 7 tI [t0,t1] q=gV C t0 t1 q:=abS
theorem GK:okB Tryz.prog Tryz.f143 tI=true:=aR
theorem GL(h:gV (CX Y) t0 t1 (out v)):CP Y F.gV [t0,t1] v:=
 CP.of (fn:=Tryz.f143) (m:=7) (a:=tI) rfl (λ_=>rfl) Tryz.func143 GK (by rw[GM];exact h)
def jY(C:CC)(a c:V)(q:kQ):Prop:=let h:Hp:=.replicate 3 nnQ
 bnd (nH a) λd=>bnd (nH c) λe=>bIQ .add d e λd=>cIQ .leq d (I 18) (clQ C h F.fS [a,c] λa h=>e3Q a λa c d=>bIQ .mul a c λa=>clQ C h F.js [a] q) (ciQ C h F.dY [a] 0 λa h=>ciQ C h F.dY [c] 1 λc h=>ciQ C h F.cX [a,c] 2 λa h=>clQ C h F.aW [a] q)
theorem GN(h:jY (CX Y) t0 t1 (out v)):CP Y F.jY [t0,t1] v:=CPo 3 (eX (nCQ (nRQ [.inl 0,.inl 1,.inl 2]))) Tryz.func144 h
def kG(C:CC)(a c:V)(q:kQ):Prop:=let h:Hp:=[]
 clQ C h F.bG [a,I 18] λd h=>e2Q d λd e=>jn (λd h=>clQ C h F.aU [a] λa h=>e2Q a λa d=>clQ C h F.aU [c] λc h=>e2Q c λc e=>bnd (biB .eql a c) λf=>cnd f (clQ C h F.gj [d,e] λc h=>clQ C h F.cO [a,c] q) (clQ C h F.cx [d,e] λf h=>bIQ .lss f (I 0) λf=>jn (λa h=>clQ C h F.gV [ge a 1,ge a 2] λc h=>e2Q c λc d=>clQ C h F.cO [ge a 0,c] q) λg=>cnd f (g [c,e,d] h) (g [a,d,e] h))) λa=>cnd e (clQ C h F.bG [c,I 18] λc h=>e2Q c λc e=>cnd e (bIQ .add d c λa=>clQ C h F.eD [a] q) (a [] h)) (a [] h)
theorem Kl(h:kG (CX Y) t0 t1 (out v)):CP Y F.kG [t0,t1] v:=CPo 0 (aK (nBQ (eX (nJQ [] [0,1])) (yB (nCQ (aK (nJQ [9,10,12] [])))))) Tryz.func110 h
def cE(C:CC)(a c:V)(q:kQ):Prop:=let h:Hp:=[]
 clQ C h F.bG [a,I 9] λd h=>e2Q d λd e=>jn (λd h=>clQ C h F.aU [a] λa h=>e2Q a λa d=>clQ C h F.aU [c] λc h=>e2Q c λc e=>bnd (biB .neq a c) λa=>clQ C h F.jY [d,e] λc h=>clQ C h F.cO [a,c] q) λa=>cnd e (clQ C h F.bG [c,I 9] λc h=>e2Q c λc e=>cnd e (bIQ .mul d c λa=>clQ C h F.eD [a] q) (a [] h)) (a [] h)
theorem Kh(h:cE (CX Y) t0 t1 (out v)):CP Y F.cE [t0,t1] v:=CPo 0 (aK (nCQ (eX (nJQ [] [0,1])))) Tryz.func111 h
def mC(C:CC)(a:V)(q:kQ):Prop:=let h:Hp:=[]
 cnd (B false) (bnd (cvI .u32 a) λa=>clQ C h F.CR [a] q) (clQ C h F.iE [a] q)
theorem CQ(h:mC (CX Y) t0 (out v)):CP Y F.mC [t0] v:=CPo 0 .o Tryz.func203 h
def jd(C:CC)(a:V):aM:=λl h q=>bIQ .mul (ge l 0) (ge l 0) λc=>cIQ .leq c a (bIQ .rem a (ge l 0) λa=>cIQ .eql a (I 0) (q .ret [B false] h) (bIQ .add (ge l 0) (I 1) λa=>q .normal [a] h)) (q (.exit 0) [] h)
def iW(C:CC)(a:V)(q:kQ):Prop:=let h:Hp:=[]
 bIQ .lss a (I 2) λc=>gqQ c false h a λd h=>gbQ c false h (biI .gtr d (I 97)) λd h=>bpQ c (B true) d λc=>cnd c (q (B false) h) (lp (jd C a) [] h [I 2] h (exK [((.exit 0),λa h=>q (B true) h),(.ret,λa h=>q (ge a 0) h)]))
theorem CM(h:iW (CX Y) t0 (out v)):CP Y F.iW [t0] v:=CPo 0 (eX (nCQ (aK (nCQ (.n (.l [3] [0] [((.exit 0),[],[]),(.ret,[2],[])] []) .o .o))))) Tryz.func76 h
def py(C:CC)(a c d:V):aM:=λl h q=>cIQ .lss (ge l 0) d (bxQ h 1 c (ge l 0) λc=>b1Q h c λc=>clQ C h F.iW [c] λd h=>bnd (unV .not d) λd=>cnd d (q .ret [I 25] h) (bIQ .gtr (ge l 0) (I 0) λd=>gqQ d true h c λc h=>gqQ d true h a λa h=>gqQ d true h (ge l 0) λe h=>gbQ d true h (biI .sub e (I 1)) λe h=>gbQ d true h (ixV h 1 a e) λa h=>gbQ d true h (ld1 h a) λa h=>gbQ d true h (biI .leq c a) λa h=>bpQ d a (B false) λa=>cnd a (q .ret [I 6] h) (bIQ .add (ge l 0) (I 1) λa=>q .normal [a] h))) (q (.exit 1) [] h)
def fw(C:CC)(a:V)(q:kQ):Prop:=let h:Hp:=[]
 blQ a λc=>cIQ .eql c (I 0) (q (I 13) h) (blQ a λc=>cIQ .gtr c (I 6) (q (I 4) h) (blQ a λc=>lp (py C a a c) [] h [I 0] h (exK [((.exit 1),λa h=>q (I 0) h),(.ret,λa h=>q (ge a 0) h)])))
theorem Gv(h:fw (CX Y) t0 (out v)):CP Y F.fw [t0] v:=CPo 0 (eX (nCQ (aK (nCQ (.n (.l [15] [0,13,14] [((.exit 1),[],[]),(.ret,[2],[])] []) .o .o))))) Tryz.func41 h
def nr(C:CC)(a:V)(q:kQ):Prop:=let h:Hp:=.replicate 1 nnQ
 d6 0 a h λa h=>bfQ 0 a λc=>b1Q h c λc=>clQ C h F.eS [c] λc h=>bnd (nH c) λc=>bIQ .leq c (I 30) λc=>gbQ c true h (faV 1 a) λa h=>gbQ c true h (ld1 h a) λa h=>gbQ c true h (nH a) λa h=>gbQ c true h (biI .leq a (I 30)) λa h=>bpQ c a (B false) λa=>q a h
theorem IK(h:nr (CX Y) t0 (out v)):CP Y F.nr [t0] v:=CPo 1 (nCQ (nRQ [.slot 0])) Tryz.func90 h
def qn(C:CC)(a c:V):aM:=λl h q=>cIQ .lss (ge l 0) c (bxQ h 2 a (ge l 0) λa=>bnd (ldA h 2 a) λa=>alV 0 [.d (.str []),.d (.str [])] h λc h=>stD h 2 c a λ_ h=>bnd (ldA h 2 c) λa=>clQ C h F.fO [a] λa h=>nzQ a (q .ret [I 2] h) (bnd (ldA h 2 c) λa=>clQ C h F.nr [a] λa h=>bnd (unV .not a) λa=>cnd a (q .ret [I 4] h) (bIQ .add (ge l 0) (I 1) λa=>q .normal [a] h))) (q (.exit 0) [] h)
def lJ(C:CC)(a c:V)(q:kQ):Prop:=let h:Hp:=.replicate 1 nnQ
 blQ c λd=>blQ a λa=>cIQ .neq d a (q (I 5) h) (blQ c λa=>lp (qn C c a) [0] h [I 0] h (exK [((.exit 0),λa h=>q (I 0) h),(.ret,λa h=>q (ge a 0) h)]))
theorem IL(h:lJ (CX Y) t0 t1 (out v)):CP Y F.lJ [t0,t1] v:=CPo 1 (eX (nCQ (aK (nCQ (.n (.l [14] [12,13] [((.exit 0),[],[]),(.ret,[4],[])] [0]) (eX (nCQ (nCQ (nCQ (nRQ [.slot 0]))))) .o))))) Tryz.func53 h
def nu(C:CC)(a c:V)(q:kQ):Prop:=let h:Hp:=[]
 clQ C h F.fw [a] λd h=>nzQ d (q d h) (clQ C h F.lJ [a,c] q)
theorem IP(h:nu (CX Y) t0 t1 (out v)):CP Y F.nu [t0,t1] v:=CPo 0 .o Tryz.func98 h
def dW(C:CC)(a c:V)(q:kQ):Prop:=let h:Hp:=.replicate 2 nnQ
 cIQ .eql c (I 10) (cIQ .lss a (.d (.int .u64 100)) (bnd (cvI .i64 a) λa=>clQ C h F.iF [a] q) (alD 0 1 (List.replicate 24 (.int .u8 0)) h λc h=>clQ C h F.dD [a] λd h=>bnd (slP 24 1 h c none (some d)) λe=>ciQ C h F.bQ [e,a] 1 λa h=>bnd (slP 24 1 h c none (some d)) λa=>bnd (cvT h a) λa=>q a h)) (clQ C h F.qD [nSQ,a,c,B false,B false] λa h=>e2Q a λa c=>q c h)
theorem uX(h:dW (CX Y) t0 t1 (out v)):CP Y F.dW [t0,t1] v:=CPo 2 (aK (nCQ (aK (nCQ (aK (nBQ (nRQ [.slot 0]) (aK (nCQ (nRQ [.inl 1]))))))))) Tryz.func206 h
def gz(C:CC)(a c:V)(q:kQ):Prop:=let h:Hp:=[]
 clQ C h F.dW [a,c] q
theorem wi(h:gz (CX Y) t0 t1 (out v)):CP Y F.gz [t0,t1] v:=CPo 0 .o Tryz.func191 h
def js(C:CC)(a:V)(q:kQ):Prop:=let h:Hp:=[]
 clQ C h F.gz [a,I 10] q
theorem JL(h:js (CX Y) t0 (out v)):CP Y F.js [t0] v:=CPo 0 .o Tryz.func166 h
def kt(C:CC)(a:V)(q:kQ):Prop:=let h:Hp:=[]
 clQ C h F.fI [a,I 10,I 64] λa h=>e2Q a λa c=>bnd (biF .neq c (.d (.pl .nilIface))) λc=>cnd c (q (.tup [(.d (.int .u64 0)),B false]) h) (q (.tup [a,B true]) h)
theorem C6(h:kt (CX Y) t0 (out v)):CP Y F.kt [t0] v:=CPo 0 .o Tryz.func190 h
def fS(C:CC)(a c:V)(q:kQ):Prop:=let h:Hp:=[]
 bnd (nH a) λd=>bIQ .gtr d (I 18) λd=>gqQ d false h c λe h=>gbQ d false h (nH e) λe h=>gbQ d false h (biI .gtr e (I 18)) λe h=>bpQ d (B true) e λd=>cnd d (q (.tup [(.d (.int .u64 0)),(.d (.int .u64 0)),B false]) h) (clQ C h F.kt [a] λa h=>e2Q a λa d=>clQ C h F.kt [c] λc h=>e2Q c λc d=>q (.tup [a,c,B true]) h)
theorem FR(h:fS (CX Y) t0 t1 (out v)):CP Y F.fS [t0,t1] v:=CPo 0 .o Tryz.func165 h
def dZ(C:CC)(a c:V)(q:kQ):Prop:=let h:Hp:=.replicate 2 nnQ
 bSQ .eql c (.d (.str [48])) λd=>cnd d (q (.tup [(.d (.str [])),(.d (.str [])),I 17]) h) (clQ C h F.fS [a,c] λd h=>e3Q d λd e f=>cnd f (bIQ .quo d e λa=>clQ C h F.js [a] λa h=>bIQ .rem d e λc=>clQ C h F.js [c] λc h=>q (.tup [a,c,I 0]) h) (ciQ C h F.dY [a] 0 λd h=>ciQ C h F.dY [c] 1 λc h=>clQ C h F.cD [d,c] λe h=>cIQ .lss e (I 0) (q (.tup [(.d (.str [48])),a,I 0]) h) (blQ c λa=>cIQ .eql a (I 1) (bxQ h 1 c (I 0) λa=>b1Q h a λa=>clQ C h F.cY [d,a] λa h=>e2Q a λa c=>clQ C h F.aW [a] λa h=>clQ C h F.js [c] λc h=>q (.tup [a,c,I 0]) h) (clQ C h F.dG [d,c] λa h=>e2Q a λa c=>clQ C h F.aW [a] λa h=>clQ C h F.aW [c] λc h=>q (.tup [a,c,I 0]) h))))
def qk:Ann:=(yB (nCQ (nRQ [.inl 0,.inl 1])))
attribute [local irreducible] bnd gd cal cnd ext dv wI stD alV alD d6 jn lp exK mkS apV cai Bj in
theorem BR(C:CC)(t0:V)(t1:V)(q:kkQ):fnD Y C Tryz.f156 2 qk [t0,t1] q=dZ C t0 t1 q:=OR
theorem BP:okB Tryz.prog Tryz.f156 qk=true:=aR
theorem BQ(h:dZ (CX Y) t0 t1 (out v)):CP Y F.dZ [t0,t1] v:=
 CP.of (fn:=Tryz.f156) (m:=2) (a:=qk) rfl (λ_=>rfl) Tryz.func156 BP (by rw[BR];exact h)
def pK(C:CC):aM:=λl h q=>bSQ .neq (ge l 1) (.d (.str [48])) λa=>cnd a (clQ C h F.dZ [ge l 0,ge l 1] λa h=>e3Q a λa c d=>nzQ d (q .ret [(.d (.str []))] h) (q .normal [ge l 1,c] h)) (q (.exit 0) [ge l 0] h)
def nL(C:CC)(a c:V)(q:kQ):Prop:=let h:Hp:=[]
 lp (pK C) [] h [a,c] h (exK [((.exit 0),λa h=>q (ge a 0) h),(.ret,λa h=>q (ge a 0) h)])
theorem GP(h:nL (CX Y) t0 t1 (out v)):CP Y F.nL [t0,t1] v:=CPo 0 (aK (nCQ (nCQ (.n (.l [0,1] [] [((.exit 0),[0],[]),(.ret,[4],[])] []) .o .o)))) Tryz.func125 h
def strconv_Itoa(C:CC)(a:V)(q:kQ):Prop:=let h:Hp:=[]
 clQ C h F.kS [a] q
theorem Ej(h:strconv_Itoa (CX Y) t0 (out v)):CP Y F.strconv_Itoa [t0] v:=CPo 0 .o Tryz.func121 h
def kS(C:CC)(a:V)(q:kQ):Prop:=let h:Hp:=[]
 clQ C h F.dE [a,I 10] q
theorem BB(h:kS (CX Y) t0 (out v)):CP Y F.kS [t0] v:=CPo 0 .o Tryz.func153 h
def dE(C:CC)(a c:V)(q:kQ):Prop:=let h:Hp:=.replicate 2 nnQ
 cIQ .eql c (I 10) (bIQ .leq (I 0) a λc=>gqQ c true h a λd h=>gbQ c true h (biI .lss d (I 100)) λd h=>bpQ c d (B false) λc=>cnd c (clQ C h F.iF [a] q) (alD 0 1 (List.replicate 24 (.int .u8 0)) h λc h=>bnd (cvI .u64 a) λd=>bIQ .lss a (I 0) λe=>jn (λd h=>clQ C h F.dD [ge d 0] λe h=>bIQ .add (I 1) e λf=>bnd (slP 24 1 h c (some (I 1)) (some f)) λf=>ciQ C h F.bQ [f,ge d 0] 1 λd h=>cIQ .lss a (I 0) (bnd (ixP 24 1 c (I 0)) λa=>stD h 1 a (.d (.int .u8 45)) λ_ h=>bIQ .add (I 1) e λa=>bnd (slP 24 1 h c none (some a)) λa=>bnd (cvT h a) λa=>q a h) (bIQ .add (I 1) e λa=>bnd (slP 24 1 h c (some (I 1)) (some a)) λa=>bnd (cvT h a) λa=>q a h)) λa=>cnd e (bnd (unV .neg d) λc=>a [c] h) (a [d] h))) (bnd (cvI .u64 a) λd=>bIQ .lss a (I 0) λa=>clQ C h F.qD [nSQ,d,c,a,B false] λa h=>e2Q a λa c=>q c h)
theorem vL(h:dE (CX Y) t0 t1 (out v)):CP Y F.dE [t0,t1] v:=CPo 2 (aK (nCQ (aK (nCQ (aK (nBQ (nRQ [.slot 0]) (aK (nBQ (aK (nJQ [6] [0,5])) (aK (nCQ (nRQ [.inl 1]))))))))))) Tryz.func178 h
def iF(C:CC)(a:V)(q:kQ):Prop:=let h:Hp:=[]
 cIQ .lss a (I 10) (bIQ .add a (I 1) λc=>bnd (slS (.d (.str [48,49,50,51,52,53,54,55,56,57,97,98,99,100,101,102,103,104,105,106,107,108,109,110,111,112,113,114,115,116,117,118,119,120,121,122])) (some a) (some c)) λa=>q a h) (bIQ .mul a (I 2) λc=>bIQ .mul a (I 2) λa=>bIQ .add a (I 2) λa=>bnd (slS (.d (.str [48,48,48,49,48,50,48,51,48,52,48,53,48,54,48,55,48,56,48,57,49,48,49,49,49,50,49,51,49,52,49,53,49,54,49,55,49,56,49,57,50,48,50,49,50,50,50,51,50,52,50,53,50,54,50,55,50,56,50,57,51,48,51,49,51,50,51,51,51,52,51,53,51,54,51,55,51,56,51,57,52,48,52,49,52,50,52,51,52,52,52,53,52,54,52,55,52,56,52,57,53,48,53,49,53,50,53,51,53,52,53,53,53,54,53,55,53,56,53,57,54,48,54,49,54,50,54,51,54,52,54,53,54,54,54,55,54,56,54,57,55,48,55,49,55,50,55,51,55,52,55,53,55,54,55,55,55,56,55,57,56,48,56,49,56,50,56,51,56,52,56,53,56,54,56,55,56,56,56,57,57,48,57,49,57,50,57,51,57,52,57,53,57,54,57,55,57,56,57,57])) (some c) (some a)) λa=>q a h)
theorem zX(h:iF (CX Y) t0 (out v)):CP Y F.iF [t0] v:=CPo 0 .o Tryz.func193 h
def dD(C:CC)(a:V)(q:kQ):Prop:=let h:Hp:=[]
 clQ C h F.iE [a] λc h=>clQ C h F.fV [c] λc h=>bnd (ixP 20 1 (gl oG) c) λd=>b1Q h d λd=>bIQ .geq a d λa=>clQ C h F.fW [a] λa h=>bIQ .add c a λa=>q a h
theorem vI(h:dD (CX Y) t0 (out v)):CP Y F.dD [t0] v:=CPo 0 .o Tryz.func194 h
def eF(C:CC)(b:Nat)(a:V):aM:=λl h q=>cIQ .geq (ge l 1) (I 8) (bIQ .rem (ge l 0) (.d (.int .u64 100000000)) λc=>bnd (cvI .u32 c) λc=>bIQ .quo (ge l 0) (.d (.int .u64 100000000)) λd=>bIQ .quo c (.d (.int .u32 10000)) λe=>bIQ .rem c (.d (.int .u32 10000)) λc=>bIQ .quo c (.d (.int .u32 100)) λf=>bIQ .mul f (.d (.int .u32 2)) λf=>bIQ .rem c (.d (.int .u32 100)) λc=>bIQ .mul c (.d (.int .u32 2)) λc=>bIQ .quo e (.d (.int .u32 100)) λg=>bIQ .mul g (.d (.int .u32 2)) λg=>bIQ .rem e (.d (.int .u32 100)) λe=>bIQ .mul e (.d (.int .u32 2)) λe=>bIQ .sub (ge l 1) (I 1) λi=>bIQ .sub (ge l 1) (I 2) λj=>bIQ .add c (.d (.int .u32 1)) λk=>bnd (ixS (.d (.str [48,48,48,49,48,50,48,51,48,52,48,53,48,54,48,55,48,56,48,57,49,48,49,49,49,50,49,51,49,52,49,53,49,54,49,55,49,56,49,57,50,48,50,49,50,50,50,51,50,52,50,53,50,54,50,55,50,56,50,57,51,48,51,49,51,50,51,51,51,52,51,53,51,54,51,55,51,56,51,57,52,48,52,49,52,50,52,51,52,52,52,53,52,54,52,55,52,56,52,57,53,48,53,49,53,50,53,51,53,52,53,53,53,54,53,55,53,56,53,57,54,48,54,49,54,50,54,51,54,52,54,53,54,54,54,55,54,56,54,57,55,48,55,49,55,50,55,51,55,52,55,53,55,54,55,55,55,56,55,57,56,48,56,49,56,50,56,51,56,52,56,53,56,54,56,55,56,56,56,57,57,48,57,49,57,50,57,51,57,52,57,53,57,54,57,55,57,56,57,57])) k) λk=>bnd (ixS (.d (.str [48,48,48,49,48,50,48,51,48,52,48,53,48,54,48,55,48,56,48,57,49,48,49,49,49,50,49,51,49,52,49,53,49,54,49,55,49,56,49,57,50,48,50,49,50,50,50,51,50,52,50,53,50,54,50,55,50,56,50,57,51,48,51,49,51,50,51,51,51,52,51,53,51,54,51,55,51,56,51,57,52,48,52,49,52,50,52,51,52,52,52,53,52,54,52,55,52,56,52,57,53,48,53,49,53,50,53,51,53,52,53,53,53,54,53,55,53,56,53,57,54,48,54,49,54,50,54,51,54,52,54,53,54,54,54,55,54,56,54,57,55,48,55,49,55,50,55,51,55,52,55,53,55,54,55,55,55,56,55,57,56,48,56,49,56,50,56,51,56,52,56,53,56,54,56,55,56,56,56,57,57,48,57,49,57,50,57,51,57,52,57,53,57,54,57,55,57,56,57,57])) c) λc=>bxQ h 1 a i λi=>stD h 1 i k λ_ h=>bxQ h 1 a j λi=>stD h 1 i c λ_ h=>bIQ .sub (ge l 1) (I 3) λc=>bIQ .sub (ge l 1) (I 4) λi=>bIQ .add f (.d (.int .u32 1)) λj=>bnd (ixS (.d (.str [48,48,48,49,48,50,48,51,48,52,48,53,48,54,48,55,48,56,48,57,49,48,49,49,49,50,49,51,49,52,49,53,49,54,49,55,49,56,49,57,50,48,50,49,50,50,50,51,50,52,50,53,50,54,50,55,50,56,50,57,51,48,51,49,51,50,51,51,51,52,51,53,51,54,51,55,51,56,51,57,52,48,52,49,52,50,52,51,52,52,52,53,52,54,52,55,52,56,52,57,53,48,53,49,53,50,53,51,53,52,53,53,53,54,53,55,53,56,53,57,54,48,54,49,54,50,54,51,54,52,54,53,54,54,54,55,54,56,54,57,55,48,55,49,55,50,55,51,55,52,55,53,55,54,55,55,55,56,55,57,56,48,56,49,56,50,56,51,56,52,56,53,56,54,56,55,56,56,56,57,57,48,57,49,57,50,57,51,57,52,57,53,57,54,57,55,57,56,57,57])) j) λj=>bnd (ixS (.d (.str [48,48,48,49,48,50,48,51,48,52,48,53,48,54,48,55,48,56,48,57,49,48,49,49,49,50,49,51,49,52,49,53,49,54,49,55,49,56,49,57,50,48,50,49,50,50,50,51,50,52,50,53,50,54,50,55,50,56,50,57,51,48,51,49,51,50,51,51,51,52,51,53,51,54,51,55,51,56,51,57,52,48,52,49,52,50,52,51,52,52,52,53,52,54,52,55,52,56,52,57,53,48,53,49,53,50,53,51,53,52,53,53,53,54,53,55,53,56,53,57,54,48,54,49,54,50,54,51,54,52,54,53,54,54,54,55,54,56,54,57,55,48,55,49,55,50,55,51,55,52,55,53,55,54,55,55,55,56,55,57,56,48,56,49,56,50,56,51,56,52,56,53,56,54,56,55,56,56,56,57,57,48,57,49,57,50,57,51,57,52,57,53,57,54,57,55,57,56,57,57])) f) λf=>bxQ h 1 a c λc=>stD h 1 c j λ_ h=>bxQ h 1 a i λc=>stD h 1 c f λ_ h=>bIQ .sub (ge l 1) (I 5) λc=>bIQ .sub (ge l 1) (I 6) λf=>bIQ .add e (.d (.int .u32 1)) λi=>bnd (ixS (.d (.str [48,48,48,49,48,50,48,51,48,52,48,53,48,54,48,55,48,56,48,57,49,48,49,49,49,50,49,51,49,52,49,53,49,54,49,55,49,56,49,57,50,48,50,49,50,50,50,51,50,52,50,53,50,54,50,55,50,56,50,57,51,48,51,49,51,50,51,51,51,52,51,53,51,54,51,55,51,56,51,57,52,48,52,49,52,50,52,51,52,52,52,53,52,54,52,55,52,56,52,57,53,48,53,49,53,50,53,51,53,52,53,53,53,54,53,55,53,56,53,57,54,48,54,49,54,50,54,51,54,52,54,53,54,54,54,55,54,56,54,57,55,48,55,49,55,50,55,51,55,52,55,53,55,54,55,55,55,56,55,57,56,48,56,49,56,50,56,51,56,52,56,53,56,54,56,55,56,56,56,57,57,48,57,49,57,50,57,51,57,52,57,53,57,54,57,55,57,56,57,57])) i) λi=>bnd (ixS (.d (.str [48,48,48,49,48,50,48,51,48,52,48,53,48,54,48,55,48,56,48,57,49,48,49,49,49,50,49,51,49,52,49,53,49,54,49,55,49,56,49,57,50,48,50,49,50,50,50,51,50,52,50,53,50,54,50,55,50,56,50,57,51,48,51,49,51,50,51,51,51,52,51,53,51,54,51,55,51,56,51,57,52,48,52,49,52,50,52,51,52,52,52,53,52,54,52,55,52,56,52,57,53,48,53,49,53,50,53,51,53,52,53,53,53,54,53,55,53,56,53,57,54,48,54,49,54,50,54,51,54,52,54,53,54,54,54,55,54,56,54,57,55,48,55,49,55,50,55,51,55,52,55,53,55,54,55,55,55,56,55,57,56,48,56,49,56,50,56,51,56,52,56,53,56,54,56,55,56,56,56,57,57,48,57,49,57,50,57,51,57,52,57,53,57,54,57,55,57,56,57,57])) e) λe=>bxQ h 1 a c λc=>stD h 1 c i λ_ h=>bxQ h 1 a f λc=>stD h 1 c e λ_ h=>bIQ .sub (ge l 1) (I 7) λc=>bIQ .sub (ge l 1) (I 8) λe=>bIQ .add g (.d (.int .u32 1)) λf=>bnd (ixS (.d (.str [48,48,48,49,48,50,48,51,48,52,48,53,48,54,48,55,48,56,48,57,49,48,49,49,49,50,49,51,49,52,49,53,49,54,49,55,49,56,49,57,50,48,50,49,50,50,50,51,50,52,50,53,50,54,50,55,50,56,50,57,51,48,51,49,51,50,51,51,51,52,51,53,51,54,51,55,51,56,51,57,52,48,52,49,52,50,52,51,52,52,52,53,52,54,52,55,52,56,52,57,53,48,53,49,53,50,53,51,53,52,53,53,53,54,53,55,53,56,53,57,54,48,54,49,54,50,54,51,54,52,54,53,54,54,54,55,54,56,54,57,55,48,55,49,55,50,55,51,55,52,55,53,55,54,55,55,55,56,55,57,56,48,56,49,56,50,56,51,56,52,56,53,56,54,56,55,56,56,56,57,57,48,57,49,57,50,57,51,57,52,57,53,57,54,57,55,57,56,57,57])) f) λf=>bnd (ixS (.d (.str [48,48,48,49,48,50,48,51,48,52,48,53,48,54,48,55,48,56,48,57,49,48,49,49,49,50,49,51,49,52,49,53,49,54,49,55,49,56,49,57,50,48,50,49,50,50,50,51,50,52,50,53,50,54,50,55,50,56,50,57,51,48,51,49,51,50,51,51,51,52,51,53,51,54,51,55,51,56,51,57,52,48,52,49,52,50,52,51,52,52,52,53,52,54,52,55,52,56,52,57,53,48,53,49,53,50,53,51,53,52,53,53,53,54,53,55,53,56,53,57,54,48,54,49,54,50,54,51,54,52,54,53,54,54,54,55,54,56,54,57,55,48,55,49,55,50,55,51,55,52,55,53,55,54,55,55,55,56,55,57,56,48,56,49,56,50,56,51,56,52,56,53,56,54,56,55,56,56,56,57,57,48,57,49,57,50,57,51,57,52,57,53,57,54,57,55,57,56,57,57])) g) λg=>bxQ h 1 a c λc=>stD h 1 c f λ_ h=>bxQ h 1 a e λa=>stD h 1 a g λ_ h=>bIQ .sub (ge l 1) (I 8) λa=>q .normal [d,a] h) (q (.exit 0) [ge l 0,ge l 1] h)
def bQ(C:CC)(b:Nat)(h:Hp)(a c:V)(q:kQ):Prop:=let h:Hp:=h++List.replicate 0 nnQ
 blQ a λd=>lp (eF C b a) [] h [c,d] h (exK [((.exit 0),λc h=>bnd (cvI .u32 (ge c 0)) λd=>bIQ .geq (ge c 1) (I 4) λe=>jn (λc h=>bIQ .geq (ge c 1) (I 2) λd=>jn (λc h=>bIQ .gtr (ge c 1) (I 0) λd=>jn (λa h=>q (.tup []) h) λe=>cnd d (bIQ .add (.d (.int .u32 48)) (ge c 0) λc=>bnd (cvI .u8 c) λc=>bxQ h 1 a (I 0) λa=>stD h 1 a c λ_ h=>e [] h) (e [] h)) λe=>cnd d (bIQ .rem (ge c 0) (.d (.int .u32 100)) λd=>bIQ .mul d (.d (.int .u32 2)) λd=>bIQ .quo (ge c 0) (.d (.int .u32 100)) λf=>bIQ .sub (ge c 1) (I 1) λg=>bIQ .sub (ge c 1) (I 2) λi=>bIQ .add d (.d (.int .u32 1)) λj=>bnd (ixS (.d (.str [48,48,48,49,48,50,48,51,48,52,48,53,48,54,48,55,48,56,48,57,49,48,49,49,49,50,49,51,49,52,49,53,49,54,49,55,49,56,49,57,50,48,50,49,50,50,50,51,50,52,50,53,50,54,50,55,50,56,50,57,51,48,51,49,51,50,51,51,51,52,51,53,51,54,51,55,51,56,51,57,52,48,52,49,52,50,52,51,52,52,52,53,52,54,52,55,52,56,52,57,53,48,53,49,53,50,53,51,53,52,53,53,53,54,53,55,53,56,53,57,54,48,54,49,54,50,54,51,54,52,54,53,54,54,54,55,54,56,54,57,55,48,55,49,55,50,55,51,55,52,55,53,55,54,55,55,55,56,55,57,56,48,56,49,56,50,56,51,56,52,56,53,56,54,56,55,56,56,56,57,57,48,57,49,57,50,57,51,57,52,57,53,57,54,57,55,57,56,57,57])) j) λj=>bnd (ixS (.d (.str [48,48,48,49,48,50,48,51,48,52,48,53,48,54,48,55,48,56,48,57,49,48,49,49,49,50,49,51,49,52,49,53,49,54,49,55,49,56,49,57,50,48,50,49,50,50,50,51,50,52,50,53,50,54,50,55,50,56,50,57,51,48,51,49,51,50,51,51,51,52,51,53,51,54,51,55,51,56,51,57,52,48,52,49,52,50,52,51,52,52,52,53,52,54,52,55,52,56,52,57,53,48,53,49,53,50,53,51,53,52,53,53,53,54,53,55,53,56,53,57,54,48,54,49,54,50,54,51,54,52,54,53,54,54,54,55,54,56,54,57,55,48,55,49,55,50,55,51,55,52,55,53,55,54,55,55,55,56,55,57,56,48,56,49,56,50,56,51,56,52,56,53,56,54,56,55,56,56,56,57,57,48,57,49,57,50,57,51,57,52,57,53,57,54,57,55,57,56,57,57])) d) λd=>bxQ h 1 a g λg=>stD h 1 g j λ_ h=>bxQ h 1 a i λa=>stD h 1 a d λ_ h=>bIQ .sub (ge c 1) (I 2) λa=>e [f,a] h) (e [ge c 0,ge c 1] h)) λf=>cnd e (bIQ .rem d (.d (.int .u32 10000)) λe=>bIQ .quo d (.d (.int .u32 10000)) λd=>bIQ .quo e (.d (.int .u32 100)) λg=>bIQ .mul g (.d (.int .u32 2)) λg=>bIQ .rem e (.d (.int .u32 100)) λe=>bIQ .mul e (.d (.int .u32 2)) λe=>bIQ .sub (ge c 1) (I 1) λi=>bIQ .sub (ge c 1) (I 2) λj=>bIQ .add e (.d (.int .u32 1)) λk=>bnd (ixS (.d (.str [48,48,48,49,48,50,48,51,48,52,48,53,48,54,48,55,48,56,48,57,49,48,49,49,49,50,49,51,49,52,49,53,49,54,49,55,49,56,49,57,50,48,50,49,50,50,50,51,50,52,50,53,50,54,50,55,50,56,50,57,51,48,51,49,51,50,51,51,51,52,51,53,51,54,51,55,51,56,51,57,52,48,52,49,52,50,52,51,52,52,52,53,52,54,52,55,52,56,52,57,53,48,53,49,53,50,53,51,53,52,53,53,53,54,53,55,53,56,53,57,54,48,54,49,54,50,54,51,54,52,54,53,54,54,54,55,54,56,54,57,55,48,55,49,55,50,55,51,55,52,55,53,55,54,55,55,55,56,55,57,56,48,56,49,56,50,56,51,56,52,56,53,56,54,56,55,56,56,56,57,57,48,57,49,57,50,57,51,57,52,57,53,57,54,57,55,57,56,57,57])) k) λk=>bnd (ixS (.d (.str [48,48,48,49,48,50,48,51,48,52,48,53,48,54,48,55,48,56,48,57,49,48,49,49,49,50,49,51,49,52,49,53,49,54,49,55,49,56,49,57,50,48,50,49,50,50,50,51,50,52,50,53,50,54,50,55,50,56,50,57,51,48,51,49,51,50,51,51,51,52,51,53,51,54,51,55,51,56,51,57,52,48,52,49,52,50,52,51,52,52,52,53,52,54,52,55,52,56,52,57,53,48,53,49,53,50,53,51,53,52,53,53,53,54,53,55,53,56,53,57,54,48,54,49,54,50,54,51,54,52,54,53,54,54,54,55,54,56,54,57,55,48,55,49,55,50,55,51,55,52,55,53,55,54,55,55,55,56,55,57,56,48,56,49,56,50,56,51,56,52,56,53,56,54,56,55,56,56,56,57,57,48,57,49,57,50,57,51,57,52,57,53,57,54,57,55,57,56,57,57])) e) λe=>bxQ h 1 a i λi=>stD h 1 i k λ_ h=>bxQ h 1 a j λi=>stD h 1 i e λ_ h=>bIQ .sub (ge c 1) (I 3) λe=>bIQ .sub (ge c 1) (I 4) λi=>bIQ .add g (.d (.int .u32 1)) λj=>bnd (ixS (.d (.str [48,48,48,49,48,50,48,51,48,52,48,53,48,54,48,55,48,56,48,57,49,48,49,49,49,50,49,51,49,52,49,53,49,54,49,55,49,56,49,57,50,48,50,49,50,50,50,51,50,52,50,53,50,54,50,55,50,56,50,57,51,48,51,49,51,50,51,51,51,52,51,53,51,54,51,55,51,56,51,57,52,48,52,49,52,50,52,51,52,52,52,53,52,54,52,55,52,56,52,57,53,48,53,49,53,50,53,51,53,52,53,53,53,54,53,55,53,56,53,57,54,48,54,49,54,50,54,51,54,52,54,53,54,54,54,55,54,56,54,57,55,48,55,49,55,50,55,51,55,52,55,53,55,54,55,55,55,56,55,57,56,48,56,49,56,50,56,51,56,52,56,53,56,54,56,55,56,56,56,57,57,48,57,49,57,50,57,51,57,52,57,53,57,54,57,55,57,56,57,57])) j) λj=>bnd (ixS (.d (.str [48,48,48,49,48,50,48,51,48,52,48,53,48,54,48,55,48,56,48,57,49,48,49,49,49,50,49,51,49,52,49,53,49,54,49,55,49,56,49,57,50,48,50,49,50,50,50,51,50,52,50,53,50,54,50,55,50,56,50,57,51,48,51,49,51,50,51,51,51,52,51,53,51,54,51,55,51,56,51,57,52,48,52,49,52,50,52,51,52,52,52,53,52,54,52,55,52,56,52,57,53,48,53,49,53,50,53,51,53,52,53,53,53,54,53,55,53,56,53,57,54,48,54,49,54,50,54,51,54,52,54,53,54,54,54,55,54,56,54,57,55,48,55,49,55,50,55,51,55,52,55,53,55,54,55,55,55,56,55,57,56,48,56,49,56,50,56,51,56,52,56,53,56,54,56,55,56,56,56,57,57,48,57,49,57,50,57,51,57,52,57,53,57,54,57,55,57,56,57,57])) g) λg=>bxQ h 1 a e λe=>stD h 1 e j λ_ h=>bxQ h 1 a i λa=>stD h 1 a g λ_ h=>bIQ .sub (ge c 1) (I 4) λa=>f [d,a] h) (f [d,ge c 1] h))])
def km(b:Nat):Ann:=(.n .x .o (.n .x (.n .x (.n (.l [1,4] [0] [((.exit 0),[1,4],[0])] []) .o .o) .o) (.n .x .o (.n .x (.n .x .o (.n (.j [12,4] [0]) .o .o)) (.n .x (.n .x .o (.n (.j [12,4] [0]) .o .o)) (.n .x .o (.n (.j [] []) .o .o)))))))
theorem tD(C:CC)(h:Hp)(t0:V)(t1:V)(q:kkQ):fnI Y C Tryz.f195 0 km [t0,t1] h q=bQ C h.length h t0 t1 q:=by rfl
theorem tB(b:Nat):okB Tryz.prog Tryz.f195 (km b)=true:=by rfl
theorem tC(hh:bQ (CX Y) h.length h t0 t1 (m7 h.length v h2)):CI Y F.bQ [t0,t1] h v h2:=
 CI.of (fn:=Tryz.f195) (m:=0) (a:=km) rfl (λ_=>rfl) Tryz.func195 (tB _) (by rw[tD];exact hh)
def fV(C:CC)(a:V)(q:kQ):Prop:=let h:Hp:=[]
 bIQ .mul a (I 78913) λa=>bIQ .shr a (.d (.int .u64 18)) λa=>q a h
theorem vJ(h:fV (CX Y) t0 (out v)):CP Y F.fV [t0] v:=CPo 0 .o Tryz.func207 h
def fW(C:CC)(a:V)(q:kQ):Prop:=let h:Hp:=[]
 cnd a (q (I 1) h) (q (I 0) h)
theorem vK(h:fW (CX Y) t0 (out v)):CP Y F.fW [t0] v:=CPo 0 .o Tryz.func209 h
def iE(C:CC)(a:V)(q:kQ):Prop:=let h:Hp:=[]
 bIQ .geq a (.d (.int .u64 4294967296)) λc=>jn (λa h=>bIQ .geq (ge a 0) (.d (.int .u64 65536)) λc=>jn (λa h=>bIQ .geq (ge a 0) (.d (.int .u64 256)) λc=>jn (λa h=>bnd (cvI .u8 (ge a 0)) λc=>bnd (ixS (.d (.str [0,1,2,2,3,3,3,3,4,4,4,4,4,4,4,4,5,5,5,5,5,5,5,5,5,5,5,5,5,5,5,5,6,6,6,6,6,6,6,6,6,6,6,6,6,6,6,6,6,6,6,6,6,6,6,6,6,6,6,6,6,6,6,6,7,7,7,7,7,7,7,7,7,7,7,7,7,7,7,7,7,7,7,7,7,7,7,7,7,7,7,7,7,7,7,7,7,7,7,7,7,7,7,7,7,7,7,7,7,7,7,7,7,7,7,7,7,7,7,7,7,7,7,7,7,7,7,7,8,8,8,8,8,8,8,8,8,8,8,8,8,8,8,8,8,8,8,8,8,8,8,8,8,8,8,8,8,8,8,8,8,8,8,8,8,8,8,8,8,8,8,8,8,8,8,8,8,8,8,8,8,8,8,8,8,8,8,8,8,8,8,8,8,8,8,8,8,8,8,8,8,8,8,8,8,8,8,8,8,8,8,8,8,8,8,8,8,8,8,8,8,8,8,8,8,8,8,8,8,8,8,8,8,8,8,8,8,8,8,8,8,8,8,8,8,8,8,8,8,8,8,8,8,8,8,8])) c) λc=>bnd (cvI .i64 c) λc=>bIQ .add (ge a 1) c λa=>q a h) λd=>cnd c (bIQ .shr (ge a 0) (.d (.int .u64 8)) λc=>bIQ .add (ge a 1) (I 8) λa=>d [c,a] h) (d [ge a 0,ge a 1] h)) λd=>cnd c (bIQ .shr (ge a 0) (.d (.int .u64 16)) λc=>bIQ .add (ge a 1) (I 16) λa=>d [c,a] h) (d [ge a 0,ge a 1] h)) λd=>cnd c (bIQ .shr a (.d (.int .u64 32)) λa=>d [a,I 32] h) (d [a,I 0] h)
theorem zJ(h:iE (CX Y) t0 (out v)):CP Y F.iE [t0] v:=CPo 0 (aK (nBQ (aK (nJQ [0,2] [])) (nBQ (aK (nJQ [0,2] [])) (nCQ (aK (nJQ [0,2] [])))))) Tryz.func208 h
def mB(C:CC)(a c:V)(q:kQ):Prop:=let h:Hp:=[]
 cnd (B false) (bnd (cvI .u32 a) λa=>bnd (cvI .u32 c) λc=>clQ C h F.CO [a,c] λa h=>e2Q a λa c=>bnd (cvI .u64 a) λa=>bnd (cvI .u64 c) λc=>q (.tup [a,c]) h) (clQ C h F.dl [a,c] λa h=>e2Q a λa c=>q (.tup [a,c]) h)
theorem CN(h:mB (CX Y) t0 t1 (out v)):CP Y F.mB [t0,t1] v:=CPo 0 .o Tryz.func69 h
def dl(C:CC)(a c:V)(q:kkQ):Prop:=let h:Hp:=List.replicate 0 nnQ
 bnd (biI .and a (.d (.int .u64 4294967295))) λd=>bnd (biI .shr a (.d (.int .u64 32))) λe=>bnd (biI .and c (.d (.int .u64 4294967295))) λf=>bnd (biI .shr c (.d (.int .u64 32))) λg=>bnd (biI .mul d f) λi=>bnd (biI .mul e f) λf=>bnd (biI .shr i (.d (.int .u64 32))) λi=>bnd (biI .add f i) λf=>bnd (biI .and f (.d (.int .u64 4294967295))) λi=>bnd (biI .shr f (.d (.int .u64 32))) λf=>bnd (biI .mul d g) λd=>bnd (biI .add i d) λd=>bnd (biI .mul e g) λe=>bnd (biI .add e f) λe=>bnd (biI .shr d (.d (.int .u64 32))) λd=>bnd (biI .add e d) λd=>bnd (biI .mul a c) λa=>q (.tup [d,a]) h
theorem sS(h:dl (CX Y) t0 t1 (out v)):CP Y F.dl [t0,t1] v:=CPo 0 .o Tryz.func107 h
def strconv_Atoi(C:CC)(a:V)(q:kQ):Prop:=let h:Hp:=[]
 clQ C h F.gU [a] λc h=>e2Q c λc d=>bnd (biF .neq d (.d (.pl .nilIface))) λe=>cnd e (clQ C h F.CG [(.d (.str [65,116,111,105])),a,I 0,I 0,d] λa h=>q (.tup [c,a]) h) (q (.tup [c,(.d (.pl .nilIface))]) h)
theorem wj(h:strconv_Atoi (CX Y) t0 (out v)):CP Y F.strconv_Atoi [t0] v:=CPo 0 .o Tryz.func155 h
def mW(C:CC)(a c:V):aM:=λl h q=>cIQ .lss (ge l 1) c (bxQ h 1 a (ge l 1) λa=>b1Q h a λa=>bIQ .sub a (.d (.int .u8 48)) λa=>cIQ .gtr a (.d (.int .u8 9)) (False /- makeInterface -/) (bIQ .mul (ge l 0) (I 10) λc=>bnd (cvI .i64 a) λa=>bIQ .add c a λa=>bIQ .add (ge l 1) (I 1) λc=>q .normal [a,c] h)) (q (.exit 0) [ge l 0] h)
def gU(C:CC)(a:V)(q:kQ):Prop:=let h:Hp:=[]
 bnd (nH a) λc=>gd (B false) true h (λq=>q c h) λd h=>gd (B false) true h (λq=>bIQ .lss (I 0) d λv=>q v h) λd h=>gd (B false) true h (λq=>q d h) λd h=>gqQ d true h c λe h=>gbQ d true h (biI .lss e (I 10)) λe h=>gd (B false) true h (λq=>bpQ d e (B false) λv=>q v h) λd h=>bpQ (B false) d (B false) λd=>gqQ d false h (B true) λe h=>gqQ e true h c λf h=>gbQ e true h (biI .lss (I 0) f) λf h=>gqQ e true h f λf h=>gqQ f true h c λc h=>gbQ f true h (biI .lss c (I 19)) λc h=>gbQ e true h (o9 f c (B false)) λc h=>gbQ d false h (o9 e c (B false)) λc h=>bpQ d (B true) c λc=>cnd c (bnd (ixS a (I 0)) λc=>bIQ .eql c (.d (.int .u8 45)) λc=>gqQ c false h a λd h=>gbQ c false h (ixS d (I 0)) λd h=>gbQ c false h (biI .eql d (.d (.int .u8 43))) λd h=>bpQ c (B true) d λc=>jn (λc h=>cvB (ge c 0) h λc h=>blQ c λd=>lp (mW C c d) [] h [I 0,I 0] h (exK [((.exit 0),λc h=>bnd (ixS a (I 0)) λa=>bIQ .eql a (.d (.int .u8 45)) λa=>jn (λa h=>q (.tup [ge a 0,(.d (.pl .nilIface))]) h) λd=>cnd a (bnd (unV .neg (ge c 0)) λa=>d [a] h) (d [ge c 0] h)),(.ret,λa h=>q (.tup [ge a 0,ge a 1]) h)])) λd=>cnd c (bnd (slS a (some (I 1)) none) λa=>bnd (nH a) λc=>cIQ .lss c (I 1) (False /- makeInterface -/) (d [a] h)) (d [a] h)) (clQ C h F.yH [a,I 10,I 0] λa h=>e2Q a λa c=>q (.tup [a,c]) h)
theorem uh(h:gU (CX Y) t0 (out v)):CP Y F.gU [t0] v:=CPo 0 (eX (nCQ (aK (nCQ (aK (nBQ (aK (nJQ [0] [5])) (aK (nBQ (aK (nCQ (.n (.l [6,49] [5,47,48] [((.exit 0),[6],[5]),(.ret,[2,3],[])] []) .o .o))) (nCQ (aK (nJQ [6] []))))))))))) Tryz.func179 h
def fC(C:CC)(a c:V):aM:=λl h q=>cIQ .lss (ge l 0) c (bxQ h 1 a (ge l 0) λa=>b1Q h a λa=>bIQ .lss a (.d (.int .u8 48)) λc=>gqQ c false h a λa h=>gbQ c false h (biI .gtr a (.d (.int .u8 57))) λa h=>bpQ c (B true) a λa=>cnd a (q .ret [B false] h) (bIQ .add (ge l 0) (I 1) λa=>q .normal [a] h)) (q (.exit 0) [] h)
def iy(C:CC)(a:V)(q:kQ):Prop:=let h:Hp:=[]
 cvB a h λc h=>blQ c λd=>lp (fC C c d) [] h [I 0] h (exK [((.exit 0),λc h=>bnd (nH a) λc=>bIQ .eql c (I 1) λc=>gqQ c false h a λd h=>gbQ c false h (nH d) λd h=>gbQ c false h (biI .gtr d (I 1)) λd h=>gqQ c false h d λd h=>gqQ d true h a λa h=>gbQ d true h (ixS a (I 0)) λa h=>gbQ d true h (biI .neq a (.d (.int .u8 48))) λa h=>gbQ c false h (o9 d a (B false)) λa h=>bpQ c (B true) a λa=>q a h),(.ret,λa h=>q (ge a 0) h)])
theorem xU(h:iy (CX Y) t0 (out v)):CP Y F.iy [t0] v:=CPo 0 (aK (nCQ (aK (nCQ (.n (.l [8] [0,6,7] [((.exit 0),[],[0]),(.ret,[2],[])] []) .o .o))))) Tryz.func154 h
def ku(C:CC)(a:V)(q:kQ):Prop:=let h:Hp:=[]
 clQ C h F.iy [a] λc h=>bnd (unV .not c) λc=>gqQ c false h a λa h=>gbQ c false h (nH a) λa h=>gbQ c false h (biI .gtr a (I 400)) λa h=>bpQ c (B true) a λa=>cnd a (q (I 2) h) (q (I 0) h)
theorem C7(h:ku (CX Y) t0 (out v)):CP Y F.ku [t0] v:=CPo 0 .o Tryz.func122 h
def bS(C:CC)(b:Nat):aM:=λl h q=>blQ (ge l 0) λa=>bIQ .gtr a (I 0) λa=>gqQ a true h (ge l 0) λc h=>gqQ a true h (ge l 0) λd h=>gbQ a true h (aX d) λd h=>gbQ a true h (biI .sub d (I 1)) λd h=>gbQ a true h (ixV h 1 c d) λc h=>gbQ a true h (ld1 h c) λc h=>gbQ a true h (biI .eql c (.d (.int .u64 0))) λc h=>bpQ a c (B false) λa=>cnd a (blQ (ge l 0) λa=>bIQ .sub a (I 1) λa=>bnd (slV h 1 (ge l 0) none (some a)) λa=>q .normal [a] h) (q (.exit 0) [ge l 0] h)
def aB(C:CC)(b:Nat)(h:Hp)(a:V)(q:kQ):Prop:=let h:Hp:=h++List.replicate 0 nnQ
 lp (bS C b) [] h [a] h (exK [((.exit 0),λa h=>q (ge a 0) h)])
def mM(b:Nat):Ann:=(.n .x .o (.n .x (.n .x (.n (.l [0] [] [((.exit 0),[0],[])] []) .o .o) .o) .o))
theorem vN(C:CC)(h:Hp)(t0:V)(q:kkQ):fnI Y C Tryz.f169 0 mM [t0] h q=aB C h.length h t0 q:=by rfl
theorem vM(b:Nat):okB Tryz.prog Tryz.f169 (mM b)=true:=by rfl
theorem pP(hh:aB (CX Y) h.length h t0 (m7 h.length v h2)):CI Y F.aB [t0] h v h2:=
 CI.of (fn:=Tryz.f169) (m:=0) (a:=mM) rfl (λ_=>rfl) Tryz.func169 (vM _) (by rw[vN];exact hh)
def pI(C:CC)(b:Nat)(a c:V):aM:=λl h q=>cIQ .lss (ge l 1) c (bxQ h 1 a (ge l 1) λa=>b1Q h a λa=>bIQ .mul (.d (.int .u64 10)) (ge l 0) λc=>bIQ .sub a (.d (.int .u8 48)) λa=>bnd (cvI .u64 a) λa=>bIQ .add c a λa=>bIQ .add (ge l 1) (I 1) λc=>q .normal [a,c] h) (q (.exit 2) [ge l 0] h)
def pJ(C:CC)(b:Nat)(a:V):aM:=λl h q=>cIQ .gtr (ge l 1) (I 0) (bIQ .sub (ge l 1) (I 9) λc=>bnd (mxI true [I 0,c]) λc=>bnd (slS a (some c) (some (ge l 1))) λa=>cvB a h λa h=>blQ a λc=>lp (pI C b a c) [] h [(.d (.int .u64 0)),I 0] h (exK [((.exit 2),λa h=>dv 1 [.int .u64 0] [(0,(ge a 0))] h λa h=>apV false (b+1) 1 8 (ge l 0) a h λa h=>bIQ .sub (ge l 1) (I 9) λc=>q .normal [a,c] h)])) (q (.exit 0) [ge l 0] h)
def dY(C:CC)(b:Nat)(h:Hp)(a:V)(q:kQ):Prop:=let h:Hp:=h++List.replicate 3 nnQ
 bnd (nH a) λc=>bIQ .quo c (I 9) λc=>bIQ .add c (I 1) λc=>mkS (b+0) 8 [.int .u64 0] h (I 0) c λc h=>bnd (nH a) λd=>lp (pJ C b a) [] h [c,d] h (exK [((.exit 0),λa h=>ciQ C h F.aB [ge a 0] (b+2) q)])
def tG(b:Nat):Ann:=(.n .x .o (.n .x (.n (.r [.slot (b+0)]) .o .o) (.n .x (.n .x .o (.n .x (.n (.l [3,4] [0] [((.exit 0),[3],[])] []) (.n .x .o (.n .x (.n .x (.n .x .o (.n .x (.n .x .o (.n .x (.n (.l [5,27] [0,3,4,25,26] [((.exit 2),[5],[0,3,4])] []) .o .o) .o)) (.n (.r [.o,.slot (b+1)]) .o .o))) .o) .o)) .o) .o)) (.n .x (.n (.r [.inl (b+2)]) .o .o) .o))))
theorem GJ(C:CC)(h:Hp)(t0:V)(q:kkQ):fnI Y C Tryz.f167 3 tG [t0] h q=dY C h.length h t0 q:=by rfl
theorem GH(b:Nat):okB Tryz.prog Tryz.f167 (tG b)=true:=by rfl
theorem GI(hh:dY (CX Y) h.length h t0 (m7 h.length v h2)):CI Y F.dY [t0] h v h2:=
 CI.of (fn:=Tryz.f167) (m:=3) (a:=tG) rfl (λ_=>rfl) Tryz.func167 (GH _) (by rw[GJ];exact hh)
def dI(C:CC)(b:Nat)(a:V):aM:=λl h q=>cIQ .lss (ge l 0) (ge l 1) (bxQ h 1 a (ge l 1) λc=>b1Q h c λc=>bxQ h 1 a (ge l 0) λd=>b1Q h d λd=>bxQ h 1 a (ge l 0) λe=>stD h 1 e c λ_ h=>bxQ h 1 a (ge l 1) λa=>stD h 1 a d λ_ h=>bIQ .add (ge l 0) (I 1) λa=>bIQ .sub (ge l 1) (I 1) λc=>q .normal [a,c] h) (q (.exit 0) [] h)
def bW(C:CC)(b:Nat)(h:Hp)(a:V)(q:kQ):Prop:=let h:Hp:=h++List.replicate 0 nnQ
 blQ a λc=>bIQ .sub c (I 1) λc=>lp (dI C b a) [] h [I 0,c] h (exK [((.exit 0),λa h=>q (.tup []) h)])
def ji(b:Nat):Ann:=(.n .x .o (.n .x (.n (.l [2,3] [0] [((.exit 0),[],[])] []) .o .o) .o))
theorem rU(C:CC)(h:Hp)(t0:V)(q:kkQ):fnI Y C Tryz.f192 0 ji [t0] h q=bW C h.length h t0 q:=by kernel_rfl
theorem rS(b:Nat):okB Tryz.prog Tryz.f192 (ji b)=true:=of_decide_eq_true ag
theorem rT(hh:bW (CX Y) h.length h t0 (m7 h.length v h2)):CI Y F.bW [t0] h v h2:=
 CI.of (fn:=Tryz.f192) (m:=0) (a:=ji) rfl (λ_=>rfl) Tryz.func192 (rS _) (by rw[rU];exact hh)
def dd(C:CC)(a c:V):aM:=λl h q=>bIQ .lss (ge l 2) (I 9) λd=>gqQ d true h c λc h=>gbQ d true h (biI .add c (I 1)) λc h=>gqQ d true h a λa h=>gbQ d true h (aX a) λa h=>gbQ d true h (biI .lss c a) λa h=>gqQ d true h a λa h=>gqQ a false h (ge l 1) λc h=>gbQ a false h (biI .gtr c (.d (.int .u64 0))) λc h=>gbQ d true h (o9 a (B true) c) λa h=>bpQ d a (B false) λa=>cnd a (bIQ .rem (ge l 1) (.d (.int .u64 10)) λa=>bIQ .add (.d (.int .u64 48)) a λa=>bnd (cvI .u8 a) λa=>dv 1 [.int .u8 0] [(0,a)] h λa h=>apV false 1 1 1 (ge l 0) a h λa h=>bIQ .quo (ge l 1) (.d (.int .u64 10)) λc=>bIQ .add (ge l 2) (I 1) λd=>q .normal [a,c,d] h) (q (.exit 2) [ge l 0] h)
def iR(C:CC)(a c d:V):aM:=λl h q=>cIQ .lss (ge l 1) d (bxQ h 1 c (ge l 1) λc=>b1Q h c λc=>lp (dd C a (ge l 1)) [] h [ge l 0,c,I 0] h (exK [((.exit 2),λa h=>bIQ .add (ge l 1) (I 1) λc=>q .normal [ge a 0,c] h)])) (q (.exit 0) [ge l 0] h)
def aW(C:CC)(a:V)(q:kQ):Prop:=let h:Hp:=.replicate 3 nnQ
 blQ a λc=>cIQ .eql c (I 0) (q (.d (.str [48])) h) (blQ a λc=>bIQ .mul (I 9) c λc=>mkS 0 1 [.int .u8 0] h (I 0) c λc h=>blQ a λd=>lp (iR C a a d) [] h [c,I 0] h (exK [((.exit 0),λa h=>ciQ C h F.bW [ge a 0] 2 λc h=>bnd (cvT h (ge a 0)) λa=>q a h)]))
theorem vO(h:aW (CX Y) t0 (out v)):CP Y F.aW [t0] v:=CPo 3 (eX (nBQ (nRQ [.slot 0]) (nBQ (aK (nCQ (.n (.l [3,16] [0,14,15] [((.exit 0),[3],[])] []) (eX (nCQ (nCQ (eX (nCQ (.n (.l [3,5,6] [0,4,14,15,16] [((.exit 2),[3],[0,14,15,16])] []) (aK (nCQ (nCQ (nCQ (nRQ [.o,.slot 1]))))) .o)))))) .o))) (nCQ (nRQ [.inl 2]))))) Tryz.func170 h
def c8(C:CC)(a c:V):aM:=λl h q=>cIQ .geq (ge l 0) (I 0) (bxQ h 1 a (ge l 0) λd=>b1Q h d λd=>bxQ h 1 c (ge l 0) λe=>b1Q h e λe=>cIQ .lss d e (q .ret [I (-1)] h) (bxQ h 1 a (ge l 0) λa=>b1Q h a λa=>bxQ h 1 c (ge l 0) λc=>b1Q h c λc=>cIQ .gtr a c (q .ret [I 1] h) (bIQ .sub (ge l 0) (I 1) λa=>q .normal [a] h))) (q (.exit 0) [] h)
def cD(C:CC)(a c:V)(q:kQ):Prop:=let h:Hp:=[]
 blQ a λd=>blQ c λe=>cIQ .neq d e (blQ a λa=>blQ c λc=>bIQ .sub a c λa=>bnd (mxI true [I (-1),a]) λa=>bnd (mxI false [I 1,a]) λa=>q a h) (blQ a λd=>bIQ .sub d (I 1) λd=>lp (c8 C a c) [] h [d] h (exK [((.exit 0),λa h=>q (I 0) h),(.ret,λa h=>q (ge a 0) h)]))
theorem tF(h:cD (CX Y) t0 t1 (out v)):CP Y F.cD [t0,t1] v:=CPo 0 (eX (nCQ (aK (nCQ (.n (.l [5] [0,1] [((.exit 0),[],[]),(.ret,[4],[])] []) .o .o))))) Tryz.func181 h
def ir(C:CC)(b:Nat)(a c d e f:V):aM:=λl h q=>cIQ .lss (ge l 1) f (bxQ h 1 e (ge l 1) λe=>b1Q h e λe=>bIQ .add c (ge l 1) λf=>bxQ h 1 a f λf=>b1Q h f λf=>bIQ .mul d e λd=>bIQ .add f d λd=>bIQ .add (ge l 0) d λd=>bIQ .add c (ge l 1) λc=>bIQ .rem d (.d (.int .u64 1000000000)) λe=>bxQ h 1 a c λa=>stD h 1 a e λ_ h=>bIQ .quo d (.d (.int .u64 1000000000)) λa=>bIQ .add (ge l 1) (I 1) λc=>q .normal [a,c] h) (q (.exit 2) [ge l 0] h)
def iu(C:CC)(b:Nat)(a c d e:V):aM:=λl h q=>cIQ .lss (ge l 0) e (bxQ h 1 d (ge l 0) λd=>b1Q h d λd=>blQ a λe=>lp (ir C b c (ge l 0) d a e) [] h [(.d (.int .u64 0)),I 0] h (exK [((.exit 2),λd h=>blQ a λa=>bIQ .add (ge l 0) a λa=>bxQ h 1 c a λa=>stD h 1 a (ge d 0) λ_ h=>bIQ .add (ge l 0) (I 1) λa=>q .normal [a] h)])) (q (.exit 0) [] h)
def cX(C:CC)(b:Nat)(h:Hp)(a c:V)(q:kQ):Prop:=let h:Hp:=h++List.replicate 2 nnQ
 blQ a λd=>blQ c λe=>bIQ .add d e λd=>mkS (b+0) 8 [.int .u64 0] h d d λd h=>blQ a λe=>lp (iu C b c d a e) [] h [I 0] h (exK [((.exit 0),λa h=>ciQ C h F.aB [d] (b+1) q)])
def lT(b:Nat):Ann:=(.n .x .o (.n .x (.n (.r [.slot (b+0)]) .o .o) (.n .x (.n .x .o (.n .x (.n (.l [19] [1,5,17,18] [((.exit 0),[],[5])] []) (.n .x .o (.n .x .o (.n .x (.n .x (.n .x .o (.n .x .o (.n .x (.n .x .o (.n .x (.n (.l [8,26] [1,5,6,7,17,18,19,24,25] [((.exit 2),[8],[1,5,6,17,18,19])] []) .o .o) .o)) .o))) .o) .o))) .o) .o)) (.n .x (.n (.r [.inl (b+1)]) .o .o) .o))))
theorem vh(C:CC)(h:Hp)(t0:V)(t1:V)(q:kkQ):fnI Y C Tryz.f172 2 lT [t0,t1] h q=cX C h.length h t0 t1 q:=by rfl
theorem vf(b:Nat):okB Tryz.prog Tryz.f172 (lT b)=true:=by rfl
theorem vg(hh:cX (CX Y) h.length h t0 t1 (m7 h.length v h2)):CI Y F.cX [t0,t1] h v h2:=
 CI.of (fn:=Tryz.f172) (m:=2) (a:=lT) rfl (λ_=>rfl) Tryz.func172 (vf _) (by rw[vh];exact hh)
def cr(C:CC)(b:Nat)(h:Hp)(a c:V)(q:kQ):Prop:=let h:Hp:=h++List.replicate 2 nnQ
 dv 1 [.int .u64 0] [(0,c)] h λc h=>ciQ C h F.aB [c] (b+0) λc h=>ciQ C h F.cX [a,c] (b+1) q
def kW(b:Nat):Ann:=(.n .x .o (.n .x (.n (.r [.o,.inl (b+0),.inl (b+1)]) .o .o) .o))
theorem um(C:CC)(h:Hp)(t0:V)(t1:V)(q:kkQ):fnI Y C Tryz.f201 2 kW [t0,t1] h q=cr C h.length h t0 t1 q:=by rfl
theorem uk(b:Nat):okB Tryz.prog Tryz.f201 (kW b)=true:=by rfl
theorem ul(hh:cr (CX Y) h.length h t0 t1 (m7 h.length v h2)):CI Y F.cr [t0,t1] h v h2:=
 CI.of (fn:=Tryz.f201) (m:=2) (a:=kW) rfl (λ_=>rfl) Tryz.func201 (uk _) (by rw[um];exact hh)
def iw(C:CC)(a c d:V):aM:=λl h q=>cIQ .geq (ge l 1) (I 0) (bIQ .mul (ge l 0) (.d (.int .u64 1000000000)) λe=>bxQ h 1 a (ge l 1) λa=>b1Q h a λa=>bIQ .add e a λa=>bIQ .quo a c λe=>bxQ h 1 d (ge l 1) λd=>stD h 1 d e λ_ h=>bIQ .rem a c λa=>bIQ .sub (ge l 1) (I 1) λc=>q .normal [a,c] h) (q (.exit 0) [ge l 0] h)
def cY(C:CC)(a c:V)(q:kQ):Prop:=let h:Hp:=.replicate 2 nnQ
 blQ a λd=>mkS 0 8 [.int .u64 0] h d d λd h=>blQ a λe=>bIQ .sub e (I 1) λe=>lp (iw C a c d) [] h [(.d (.int .u64 0)),e] h (exK [((.exit 0),λa h=>ciQ C h F.aB [d] 1 λc h=>q (.tup [c,ge a 0]) h)])
theorem vi(h:cY (CX Y) t0 t1 (out v)):CP Y F.cY [t0,t1] v:=CPo 2 (aK (nBQ (nRQ [.slot 0]) (aK (nBQ (aK (nCQ (.n (.l [7,8] [0,1,6] [((.exit 0),[7],[6])] []) .o .o))) (nCQ (nRQ [.inl 1])))))) Tryz.func182 h
def fR(C:CC)(b:Nat)(a c d e:V):aM:=λl h q=>blQ c λf=>cIQ .leq (ge l 2) f (blQ c λf=>bIQ .lss (ge l 2) f λf=>jn (λc h=>bIQ .add e (ge l 2) λd=>bxQ h 1 a d λd=>b1Q h d λd=>bnd (cvI .i64 d) λd=>bIQ .rem (ge c 0) (.d (.int .u64 1000000000)) λf=>bnd (cvI .i64 f) λf=>bIQ .sub d f λd=>bIQ .sub d (ge l 1) λd=>bIQ .quo (ge c 0) (.d (.int .u64 1000000000)) λc=>bIQ .lss d (I 0) λf=>jn (λd h=>bIQ .add e (ge l 2) λe=>bnd (cvI .u64 (ge d 0)) λf=>bxQ h 1 a e λa=>stD h 1 a f λ_ h=>bIQ .add (ge l 2) (I 1) λa=>q .normal [c,ge d 1,a] h) λa=>cnd f (bIQ .add d (I 1000000000) λc=>a [c,I 1] h) (a [d,I 0] h)) λa=>cnd f (bxQ h 1 c (ge l 2) λc=>b1Q h c λc=>bIQ .mul d c λc=>bIQ .add (ge l 0) c λc=>a [c] h) (a [ge l 0] h)) (q (.exit 0) [ge l 1] h)
def dF(C:CC)(b:Nat)(h:Hp)(a c d e:V)(q:kQ):Prop:=let h:Hp:=h++List.replicate 0 nnQ
 lp (fR C b a c d e) [] h [(.d (.int .u64 0)),I 0,I 0] h (exK [((.exit 0),λa h=>bIQ .gtr (ge a 0) (I 0) λa=>q a h)])
def mN(b:Nat):Ann:=(.n .x .o (.n .x .o (.n .x .o (.n .x (.n .x .o (.n .x (.n (.l [10,9,11] [0,1,2,3] [((.exit 0),[9],[])] []) (.n .x .o (.n .x (.n .x (.n .x (.n .x .o (.n (.j [10] [0,1,2,3,9,11]) .o .o)) (.n .x .o (.n .x .o (.n .x .o (.n .x (.n .x .o (.n (.j [12,9] [0,1,2,3,10,11]) .o .o)) .o))))) .o) .o)) .o) .o)) .o))))
theorem vS(C:CC)(h:Hp)(t0:V)(t1:V)(t2:V)(t3:V)(q:kkQ):fnI Y C Tryz.f171 0 mN [t0,t1,t2,t3] h q=dF C h.length h t0 t1 t2 t3 q:=by rfl
theorem vP(b:Nat):okB Tryz.prog Tryz.f171 (mN b)=true:=by rfl
theorem vQ(hh:dF (CX Y) h.length h t0 t1 t2 t3 (m7 h.length v h2)):CI Y F.dF [t0,t1,t2,t3] h v h2:=
 CI.of (fn:=Tryz.f171) (m:=0) (a:=mN) rfl (λ_=>rfl) Tryz.func171 (vP _) (by rw[vS];exact hh)
def iS(C:CC)(b:Nat)(a c d:V):aM:=λl h q=>blQ c λe=>cIQ .leq (ge l 1) e (bIQ .add d (ge l 1) λe=>bxQ h 1 a e λe=>b1Q h e λe=>bIQ .add (ge l 0) e λe=>blQ c λf=>bIQ .lss (ge l 1) f λf=>jn (λc h=>bIQ .add d (ge l 1) λd=>bIQ .rem (ge c 0) (.d (.int .u64 1000000000)) λe=>bxQ h 1 a d λa=>stD h 1 a e λ_ h=>bIQ .quo (ge c 0) (.d (.int .u64 1000000000)) λa=>bIQ .add (ge l 1) (I 1) λc=>q .normal [a,c] h) λa=>cnd f (bxQ h 1 c (ge l 1) λc=>b1Q h c λc=>bIQ .add e c λc=>a [c] h) (a [e] h)) (q (.exit 0) [] h)
def cM(C:CC)(b:Nat)(h:Hp)(a c d:V)(q:kQ):Prop:=let h:Hp:=h++List.replicate 0 nnQ
 lp (iS C b a c d) [] h [(.d (.int .u64 0)),I 0] h (exK [((.exit 0),λa h=>q (.tup []) h)])
def mO(b:Nat):Ann:=(.n .x .o (.n .x .o (.n .x (.n (.l [6,7] [0,1,2] [((.exit 0),[],[])] []) (.n .x .o (.n .x (.n .x (.n .x .o (.n .x (.n .x .o (.n (.j [6] [0,1,2,7]) .o .o)) .o)) .o) .o)) .o) .o)))
theorem vV(C:CC)(h:Hp)(t0:V)(t1:V)(t2:V)(q:kkQ):fnI Y C Tryz.f168 0 mO [t0,t1,t2] h q=cM C h.length h t0 t1 t2 q:=by rfl
theorem vT(b:Nat):okB Tryz.prog Tryz.f168 (mO b)=true:=by rfl
theorem vU(hh:cM (CX Y) h.length h t0 t1 t2 (m7 h.length v h2)):CI Y F.cM [t0,t1,t2] h v h2:=
 CI.of (fn:=Tryz.f168) (m:=0) (a:=mO) rfl (λ_=>rfl) Tryz.func168 (vT _) (by rw[vV];exact hh)
def kr(C:CC)(a:V):aM:=λl h q=>blQ (ge l 0) λc=>blQ a λa=>cIQ .leq c a (dv 1 [.int .u64 0] [(0,(.d (.int .u64 0)))] h λa h=>apV false 3 1 8 (ge l 0) a h λa h=>q .normal [a] h) (q (.exit 0) [ge l 0] h)
def bz(C:CC)(a c d e:V):aM:=λl h q=>bIQ .geq (ge l 0) (.d (.int .u64 1000000000)) λf=>gqQ f false h (ge l 1) λg h=>gbQ f false h (biI .lss g (.d (.int .u64 1000000000))) λg h=>gqQ f false h g λg h=>gqQ g true h (ge l 0) λi h=>gqQ g true h c λj h=>gqQ g true h d λk h=>gbQ g true h (biI .sub k (I 2)) λk h=>gbQ g true h (ixV h 1 j k) λj h=>gbQ g true h (ld1 h j) λj h=>gbQ g true h (biI .mul i j) λi h=>gqQ g true h (ge l 1) λj h=>gbQ g true h (biI .mul j (.d (.int .u64 1000000000))) λj h=>gqQ g true h a λa h=>gqQ g true h e λe h=>gqQ g true h d λk h=>gbQ g true h (biI .add e k) λe h=>gbQ g true h (biI .sub e (I 2)) λe h=>gbQ g true h (ixV h 1 a e) λa h=>gbQ g true h (ld1 h a) λa h=>gbQ g true h (biI .add j a) λa h=>gbQ g true h (biI .gtr i a) λa h=>gbQ f false h (o9 g a (B false)) λa h=>bpQ f (B true) a λa=>cnd a (bIQ .sub (ge l 0) (.d (.int .u64 1)) λa=>bIQ .sub d (I 1) λd=>bxQ h 1 c d λc=>b1Q h c λc=>bIQ .add (ge l 1) c λc=>q .normal [a,c] h) (q (.exit 4) [ge l 0] h)
def dw(C:CC)(a c d e:V):aM:=λl h q=>cIQ .geq (ge l 0) (I 0) (bIQ .add (ge l 0) d λf=>bxQ h 1 a f λf=>b1Q h f λf=>bIQ .mul f (.d (.int .u64 1000000000)) λf=>bIQ .add (ge l 0) d λg=>bIQ .sub g (I 1) λg=>bxQ h 1 a g λg=>b1Q h g λg=>bIQ .add f g λf=>bIQ .sub d (I 1) λg=>bxQ h 1 c g λg=>b1Q h g λg=>bIQ .quo f g λg=>bIQ .sub d (I 1) λi=>bxQ h 1 c i λi=>b1Q h i λi=>bIQ .rem f i λf=>lp (bz C a c d (ge l 0)) [] h [g,f] h (exK [((.exit 4),λd h=>ciQ C h F.dF [a,c,ge d 0,ge l 0] 5 λf h=>jn (λa h=>bxQ h 1 e (ge l 0) λc=>stD h 1 c (ge a 0) λ_ h=>bIQ .sub (ge l 0) (I 1) λa=>q .normal [a] h) λe=>cnd f (bIQ .sub (ge d 0) (.d (.int .u64 1)) λd=>ciQ C h F.cM [a,c,ge l 0] 6 λa h=>e [d] h) (e [ge d 0] h))])) (q (.exit 2) [] h)
def dG(C:CC)(a c:V)(q:kQ):Prop:=let h:Hp:=.replicate 9 nnQ
 blQ c λd=>bIQ .sub d (I 1) λd=>bxQ h 1 c d λd=>b1Q h d λd=>bIQ .add d (.d (.int .u64 1)) λd=>bIQ .quo (.d (.int .u64 1000000000)) d λd=>ciQ C h F.cr [a,d] 0 λe h=>dv 1 [.int .u64 0] [(0,(.d (.int .u64 0)))] h λf h=>apV false 1 1 8 e f h λe h=>ciQ C h F.cr [c,d] 2 λc h=>blQ c λf=>lp (kr C a) [] h [e] h (exK [((.exit 0),λa h=>blQ (ge a 0) λe=>bIQ .sub e f λe=>mkS 4 8 [.int .u64 0] h e e λe h=>blQ (ge a 0) λg=>bIQ .sub g f λg=>bIQ .sub g (I 1) λg=>lp (dw C (ge a 0) c f e) [5,6] h [g] h (exK [((.exit 2),λc h=>ciQ C h F.aB [ge a 0] 7 λa h=>clQ C h F.cY [a,d] λa h=>e2Q a λa c=>ciQ C h F.aB [e] 8 λc h=>q (.tup [c,a]) h)]))])
def kX:Ann:=(eX (nBQ (nRQ [.inl 0,.o,.slot 1,.inl 2]) (aK (nBQ (nCQ (.n (.l [7] [0,6,8,9] [((.exit 0),[7],[6,8,9])] []) (aK (nCQ (nRQ [.o,.slot 3]))) .o)) (nBQ (nRQ [.slot 4]) (nBQ (aK (nCQ (.n (.l [11] [6,7,8,9,10] [((.exit 2),[],[6,7,10])] [5,6]) (aK (nCQ (nCQ (eX (nBQ (nCQ (.n (.l [13,14] [6,7,8,9,10,11] [((.exit 4),[13],[6,7,8,9,10,11])] []) .o .o)) (nCQ (nBQ (nRQ [.inl 5]) (.n (.j [13] [6,7,8,9,10,11]) (aK (nRQ [.inl 6])) .o)))))))) .o))) (nBQ (nRQ [.inl 7]) (nCQ (nRQ [.inl 8])))))))))
attribute [local irreducible] bnd gd cal cnd ext dv wI stD alV alD d6 jn lp exK mkS apV cai Bj in
theorem uu(C:CC)(t0:V)(t1:V)(q:kkQ):fnD Y C Tryz.f183 9 kX [t0,t1] q=dG C t0 t1 q:=OR
theorem uq:okB Tryz.prog Tryz.f183 kX=true:=aR
theorem ut(h:dG (CX Y) t0 t1 (out v)):CP Y F.dG [t0,t1] v:=
 CP.of (fn:=Tryz.f183) (m:=9) (a:=kX) rfl (λ_=>rfl) Tryz.func183 uq (by rw[uu];exact h)
def dP(C:CC)(a c d:V):aM:=λl h q=>cIQ .lss (ge l 0) d (bxQ h 1 a (ge l 0) λa=>b1Q h a λa=>cal C.p h c [a] λa h=>cnd a (q .ret [ge l 0] h) (bIQ .add (ge l 0) (I 1) λa=>q .normal [a] h)) (q (.exit 0) [] h)
def bb(C:CC)(a c:V)(q:kQ):Prop:=let h:Hp:=[]
 blQ a λd=>lp (dP C a c d) [] h [I 0] h (exK [((.exit 0),λa h=>q (I (-1)) h),(.ret,λa h=>q (ge a 0) h)])
theorem pU(h:bb (CX Y) t0 t1 (out v)):CP Y F.bb [t0,t1] v:=CPo 0 (aK (nCQ (aK (nCQ (.n (.l [8] [0,1,7] [((.exit 0),[],[]),(.ret,[4],[])] []) .o .o))))) Tryz.func164 h
def bh(C:CC)(a c:V)(q:kQ):Prop:=let h:Hp:=[]
 clQ C h F.bb [a,c] λa h=>bIQ .geq a (I 0) λa=>q a h
theorem pm(h:bh (CX Y) t0 t1 (out v)):CP Y F.bh [t0,t1] v:=CPo 0 .o Tryz.func137 h
def np(C:CC)(a c d:V):aM:=λl h q=>cIQ .lss (ge l 0) d (bxQ h 1 a (ge l 0) λa=>b1Q h a λa=>cal C.p h c [a] λa h=>cnd a (q .ret [ge l 0] h) (bIQ .add (ge l 0) (I 1) λa=>q .normal [a] h)) (q (.exit 0) [] h)
def cU(C:CC)(a c:V)(q:kQ):Prop:=let h:Hp:=[]
 blQ a λd=>lp (np C a c d) [] h [I 0] h (exK [((.exit 0),λa h=>q (I (-1)) h),(.ret,λa h=>q (ge a 0) h)])
theorem nQ(h:cU (CX Y) t0 t1 (out v)):CP Y F.cU [t0,t1] v:=CPo 0 (aK (nCQ (aK (nCQ (.n (.l [8] [0,1,7] [((.exit 0),[],[]),(.ret,[4],[])] []) .o .o))))) Tryz.func174 h
def aY(C:CC)(a c:V)(q:kQ):Prop:=let h:Hp:=[]
 clQ C h F.cU [a,c] λa h=>bIQ .geq a (I 0) λa=>q a h
theorem mH(h:aY (CX Y) t0 t1 (out v)):CP Y F.aY [t0,t1] v:=CPo 0 .o Tryz.func147 h
def aU(C:CC)(a:V)(q:kQ):Prop:=let h:Hp:=[]
 bnd (nH a) λc=>bIQ .gtr c (I 0) λc=>gqQ c true h a λd h=>gbQ c true h (ixS d (I 0)) λd h=>gbQ c true h (biI .eql d (.d (.int .u8 45))) λd h=>bpQ c d (B false) λc=>cnd c (bnd (slS a (some (I 1)) none) λa=>q (.tup [B true,a]) h) (q (.tup [B false,a]) h)
theorem Ge(h:aU (CX Y) t0 (out v)):CP Y F.aU [t0] v:=CPo 0 .o Tryz.func89 h
def m9(C:CC)(a:V)(q:kQ):Prop:=let h:Hp:=[]
 clQ C h F.aU [a] λa h=>e2Q a λa c=>gqQ a true h c λd h=>gbQ a true h (biS .eql d (.d (.str [48]))) λd h=>bpQ a d (B false) λa=>gqQ a false h c λc h=>gd a false h (λq=>clQ C h F.ku [c] q) λc h=>gbQ a false h (biI .neq c (I 0)) λc h=>bpQ a (B true) c λa=>cnd a (q (I 2) h) (q (I 0) h)
theorem Gg(h:m9 (CX Y) t0 (out v)):CP Y F.m9 [t0] v:=CPo 0 .o Tryz.func92 h
def dQ(C:CC)(a:V)(q:kQ):Prop:=let h:Hp:=[]
 bSQ .eql a (.d (.str [48])) λc=>cnd c (q (I 0) h) (bnd (ixS a (I 0)) λa=>cIQ .eql a (.d (.int .u8 45)) (q (I (-1)) h) (q (I 1) h))
theorem Ix(h:dQ (CX Y) t0 (out v)):CP Y F.dQ [t0] v:=CPo 0 .o Tryz.func52 h
def eD(C:CC)(a:V)(q:kQ):Prop:=let h:Hp:=[]
 clQ C h F.strconv_Itoa [a] q
theorem DZ(h:eD (CX Y) t0 (out v)):CP Y F.eD [t0] v:=CPo 0 .o Tryz.func87 h
def bG(C:CC)(a c:V)(q:kQ):Prop:=let h:Hp:=[]
 bnd (nH a) λd=>cIQ .gtr d c (q (.tup [I 0,B false]) h) (clQ C h F.strconv_Atoi [a] λa h=>e2Q a λa c=>bnd (biF .eql c (.d (.pl .nilIface))) λc=>q (.tup [a,c]) h)
theorem rL(h:bG (CX Y) t0 t1 (out v)):CP Y F.bG [t0,t1] v:=CPo 0 .o Tryz.func123 h
def eS(C:CC)(a:V)(q:kQ):Prop:=let h:Hp:=[]
 clQ C h F.aU [a] λa h=>e2Q a λa c=>q c h
theorem B9(h:eS (CX Y) t0 (out v)):CP Y F.eS [t0] v:=CPo 0 .o Tryz.func50 h
def qX(C:CC):aM:=λl h q=>cIQ .neq (ge l 1) (I 0) (bIQ .rem (ge l 0) (ge l 1) λa=>q .normal [ge l 1,a] h) (q (.exit 0) [ge l 0] h)
def rF(C:CC)(a c:V)(q:kQ):Prop:=let h:Hp:=[]
 lp (qX C) [] h [a,c] h (exK [((.exit 0),λa h=>q (ge a 0) h)])
theorem Ke(h:rF (CX Y) t0 t1 (out v)):CP Y F.rF [t0,t1] v:=CPo 0 (aK (nCQ (nCQ (.n (.l [0,1] [] [((.exit 0),[0],[])] []) .o .o)))) Tryz.func124 h
def oY(C:CC)(a c:V)(q:kQ):Prop:=let h:Hp:=[]
 clQ C h F.eS [a] λa h=>clQ C h F.eS [c] λc h=>clQ C h F.bG [a,I 18] λd h=>e2Q d λd e=>jn (λd h=>clQ C h F.nL [a,c] q) λa=>cnd e (clQ C h F.bG [c,I 18] λc h=>e2Q c λc e=>cnd e (clQ C h F.rF [d,c] λa h=>clQ C h F.eD [a] q) (a [] h)) (a [] h)
theorem Kj(h:oY (CX Y) t0 t1 (out v)):CP Y F.oY [t0,t1] v:=CPo 0 (eX (nCQ (eX (nJQ [] [5,6])))) Tryz.func93 h
def fO(C:CC)(a:V)(q:kQ):Prop:=let h:Hp:=.replicate 1 nnQ
 d6 0 a h λa h=>bfQ 0 a λc=>b1Q h c λc=>clQ C h F.m9 [c] λc h=>bIQ .neq c (I 0) λc=>jn (λc h=>cnd (ge c 0) (q (I 2) h) (bfQ 1 a λc=>b1Q h c λc=>clQ C h F.dQ [c] λc h=>bIQ .leq c (I 0) λc=>jn (λa h=>cnd (ge a 0) (q (I 2) h) (q (I 0) h)) λd=>cnd c (d [c] h) (bfQ 0 a λc=>b1Q h c λc=>bfQ 1 a λa=>b1Q h a λa=>clQ C h F.oY [c,a] λa h=>bSQ .neq a (.d (.str [49])) λa=>d [a] h))) λd=>cnd c (d [c] h) (bfQ 1 a λa=>b1Q h a λa=>clQ C h F.m9 [a] λa h=>bIQ .neq a (I 0) λa=>d [a] h)
theorem BG(h:fO (CX Y) t0 (out v)):CP Y F.fO [t0] v:=CPo 1 (nBQ (nRQ [.slot 0]) (nCQ (nCQ (nBQ (aK (nJQ [3] [1])) (aK (nCQ (aK (nJQ [12] [])))))))) Tryz.func55 h
def mg(C:CC)(a:V)(q:kQ):Prop:=let h:Hp:=[]
 clQ C h F.aU [a] λa h=>e2Q a λa c=>bnd (unV .not a) λa=>clQ C h F.cO [a,c] q
theorem Kg(h:mg (CX Y) t0 (out v)):CP Y F.mg [t0] v:=CPo 0 .o Tryz.func130 h
def ly(C:CC)(a:V)(q:kQ):Prop:=let h:Hp:=[]
 clQ C h F.fv [a,I 10,I 64] λa h=>e2Q a λa c=>bnd (biF .neq c (.d (.pl .nilIface))) λc=>cnd c (q (.tup [I 0,B false]) h) (q (.tup [a,B true]) h)
theorem Gf(h:ly (CX Y) t0 (out v)):CP Y F.ly [t0] v:=CPo 0 .o Tryz.func126 h
def mh(C:CC)(a c:V)(q:kQ):Prop:=let h:Hp:=[]
 clQ C h F.dQ [a] λd h=>clQ C h F.dQ [c] λe h=>cIQ .neq d e (cIQ .lss d e (q (I (-1)) h) (q (I 1) h)) (clQ C h F.aU [a] λa h=>e2Q a λa d=>clQ C h F.aU [c] λc h=>e2Q c λc e=>jn (λa h=>clQ C h F.cx [ge a 0,ge a 1] q) λc=>cnd a (c [e,d] h) (c [d,e] h))
theorem Cz(h:mh (CX Y) t0 t1 (out v)):CP Y F.mh [t0,t1] v:=CPo 0 (U5 (nCQ (aK (nJQ [8,10] [])))) Tryz.func149 h
def bO(C:CC)(a c:V)(q:kQ):Prop:=let h:Hp:=[]
 bSQ .eql c (.d (.str [48])) λd=>cnd d (q (.tup [(.d (.str [])),(.d (.str [])),I 17]) h) (clQ C h F.bG [a,I 18] λd h=>e2Q d λd e=>jn (λd h=>clQ C h F.aU [a] λa h=>e2Q a λa d=>clQ C h F.aU [c] λc h=>e2Q c λc e=>clQ C h F.dZ [d,e] λd h=>e3Q d λd f g=>nzQ g (q (.tup [(.d (.str [])),(.d (.str [])),g]) h) (bnd (biB .neq a c) λg=>gqQ g true h f λi h=>gbQ g true h (biS .neq i (.d (.str [48]))) λi h=>bpQ g i (B false) λg=>jn (λd h=>bnd (biB .neq a c) λa=>clQ C h F.cO [a,ge d 0] λa h=>clQ C h F.cO [c,ge d 1] λc h=>q (.tup [a,c,I 0]) h) λa=>cnd g (clQ C h F.gj [d,(.d (.str [49]))] λc h=>clQ C h F.gV [e,f] λd h=>e2Q d λd e=>a [c,d] h) (a [d,f] h))) λa=>cnd e (clQ C h F.bG [c,I 18] λc h=>e2Q c λc e=>cnd e (bIQ .quo d c λa=>bIQ .rem d c λd=>bIQ .neq d (I 0) λe=>gqQ e true h d λf h=>gbQ e true h (biI .lss f (I 0)) λf h=>gqQ e true h c λg h=>gbQ e true h (biI .lss g (I 0)) λg h=>gbQ e true h (biB .neq f g) λf h=>bpQ e f (B false) λe=>jn (λa h=>clQ C h F.eD [ge a 0] λc h=>clQ C h F.eD [ge a 1] λa h=>q (.tup [c,a,I 0]) h) λf=>cnd e (bIQ .sub a (I 1) λa=>bIQ .add d c λc=>f [a,c] h) (f [a,d] h)) (a [] h)) (a [] h))
def rM:Ann:=(eX (nBQ (eX (.n (.j [] [0,1]) (eX (nCQ (aK (nCQ (aK (nJQ [11,12] [])))))) .o)) (U5 (nCQ (aK (nJQ [17,18] [13,15]))))))
theorem D4(C:CC)(t0:V)(t1:V)(q:kkQ):fnD Y C Tryz.f132 0 rM [t0,t1] q=bO C t0 t1 q:=by kernel_rfl
theorem D3:okB Tryz.prog Tryz.f132 rM=true:=aR
theorem vY(h:bO (CX Y) t0 t1 (out v)):CP Y F.bO [t0,t1] v:=
 CP.of (fn:=Tryz.f132) (m:=0) (a:=rM) rfl (λ_=>rfl) Tryz.func132 D3 (by rw[D4];exact h)
def pQ(C:CC)(a c:V)(q:kQ):Prop:=let h:Hp:=[]
 clQ C h F.eS [a] λa h=>clQ C h F.eS [c] λc h=>clQ C h F.pi [a,c] q
theorem Ki(h:pQ (CX Y) t0 t1 (out v)):CP Y F.pQ [t0,t1] v:=CPo 0 .o Tryz.func131 h
def pi(C:CC)(a c:V)(q:kQ):Prop:=let h:Hp:=[]
 bSQ .eql a (.d (.str [48])) λd=>gqQ d false h c λe h=>gbQ d false h (biS .eql e (.d (.str [48]))) λe h=>bpQ d (B true) e λd=>cnd d (q (.d (.str [48])) h) (clQ C h F.nL [a,c] λd h=>clQ C h F.dZ [a,d] λa h=>e3Q a λa d e=>nzQ e (q (.d (.str [])) h) (clQ C h F.jY [a,c] q))
theorem GO(h:pi (CX Y) t0 t1 (out v)):CP Y F.pi [t0,t1] v:=CPo 0 .o Tryz.func159 h
def f9(C:CC)(a:V)(q:kQ):Prop:=let h:Hp:=[]
 bnd (nH a) λc=>cIQ .gtr c (I 9) (q (.tup [I 0,B false]) h) (clQ C h F.strconv_Atoi [a] λa h=>e2Q a λa c=>bnd (biF .eql c (.d (.pl .nilIface))) λc=>q (.tup [a,c]) h)
theorem Ae(h:f9 (CX Y) t0 (out v)):CP Y F.f9 [t0] v:=CPo 0 .o Tryz.func158 h
def eY(C:CC)(a:V)(q:kQ):Prop:=let h:Hp:=.replicate 1 nnQ
 d6 0 a h λa h=>bfQ 0 a λc=>b1Q h c λc=>clQ C h F.f9 [c] λc h=>e2Q c λc d=>bfQ 1 a λa=>b1Q h a λa=>clQ C h F.f9 [a] λa h=>e2Q a λa e=>gqQ d true h e λe h=>bpQ d e (B false) λd=>q (.tup [c,a,d]) h
theorem C4(h:eY (CX Y) t0 (out v)):CP Y F.eY [t0] v:=CPo 1 (nCQ (nRQ [.slot 0])) Tryz.func128 h
def nK(C:CC):aM:=λl h q=>cIQ .neq (ge l 1) (I 0) (bIQ .rem (ge l 0) (ge l 1) λa=>q .normal [ge l 1,a] h) (q (.exit 0) [ge l 0] h)
def iY(C:CC)(a c:V)(q:kQ):Prop:=let h:Hp:=.replicate 1 nnQ
 alV 0 [.d (.str []),.d (.str [])] h λd h=>lp (nK C) [] h [a,c] h (exK [((.exit 0),λe h=>bIQ .lss (ge e 0) (I 0) λf=>jn (λe h=>bIQ .quo a (ge e 0) λa=>clQ C h F.strconv_Itoa [a] λa h=>bIQ .quo c (ge e 0) λc=>clQ C h F.strconv_Itoa [c] λc h=>bnd (bld [(0,1),(1,1)] [.str [],.str []] [(0,a),(1,c)]) λa=>stD h 2 d a λ_ h=>bnd (ldA h 2 d) λa=>q a h) λa=>cnd f (bnd (unV .neg (ge e 0)) λc=>a [c] h) (a [ge e 0] h))])
theorem GC(h:iY (CX Y) t0 t1 (out v)):CP Y F.iY [t0,t1] v:=CPo 1 (nBQ (nRQ [.slot 0]) (aK (nBQ (nCQ (.n (.l [5,6] [0,1,4] [((.exit 0),[5],[0,1,4])] []) .o .o)) (nCQ (aK (nJQ [5] [0,1,4])))))) Tryz.func129 h
def b9(C:CC)(a c:V)(q:kQ):Prop:=let h:Hp:=.replicate 1 nnQ
 alV 0 [.d (.str []),.d (.str [])] h λd h=>clQ C h F.dQ [c] λe h=>bIQ .lss e (I 0) λe=>jn (λa h=>clQ C h F.oY [ge a 0,ge a 1] λc h=>bSQ .neq c (.d (.str [49])) λe=>jn (λa h=>bnd (bld [(0,1),(1,1)] [.str [],.str []] [(0,(ge a 0)),(1,(ge a 1))]) λa=>stD h 2 d a λ_ h=>bnd (ldA h 2 d) λa=>q a h) λd=>cnd e (clQ C h F.bO [ge a 0,c] λe h=>e3Q e λe f g=>clQ C h F.bO [ge a 1,c] λa h=>e3Q a λa c f=>d [e,a] h) (d [ge a 0,ge a 1] h)) λd=>cnd e (clQ C h F.mg [a] λa h=>clQ C h F.mg [c] λc h=>d [a,c] h) (d [a,c] h)
theorem Ac(h:b9 (CX Y) t0 t1 (out v)):CP Y F.b9 [t0,t1] v:=CPo 1 (nBQ (nRQ [.slot 0]) (nBQ (aK (nJQ [0,1] [4])) (nCQ (eX (nJQ [0,1] [4]))))) Tryz.func120 h
def fp(C:CC)(a c:V)(q:kQ):Prop:=let h:Hp:=.replicate 3 nnQ
 d6 0 a h λa h=>d6 1 c h λc h=>alV 2 [.d (.str []),.d (.str [])] h λd h=>bfQ 1 a λe=>b1Q h e λe=>bSQ .eql e (.d (.str [49])) λe=>gbQ e true h (faV 1 c) λf h=>gbQ e true h (ld1 h f) λf h=>gbQ e true h (biS .eql f (.d (.str [49]))) λf h=>bpQ e f (B false) λe=>cnd e (bfQ 0 a λa=>b1Q h a λa=>bfQ 0 c λc=>b1Q h c λc=>clQ C h F.kG [a,c] λa h=>bnd (bld [(0,1),(1,1)] [.str [],.str []] [(0,a),(1,(.d (.str [49])))]) λa=>stD h 2 d a λ_ h=>bnd (ldA h 2 d) λa=>q a h) (bnd (ldA h 2 a) λe=>clQ C h F.eY [e] λe h=>e3Q e λe f g=>jn (λe h=>bfQ 0 a λe=>b1Q h e λe=>bfQ 1 c λf=>b1Q h f λf=>clQ C h F.cE [e,f] λe h=>bfQ 0 c λf=>b1Q h f λf=>bfQ 1 a λg=>b1Q h g λg=>clQ C h F.cE [f,g] λf h=>clQ C h F.kG [e,f] λe h=>bfQ 1 a λa=>b1Q h a λa=>bfQ 1 c λc=>b1Q h c λc=>clQ C h F.cE [a,c] λa h=>clQ C h F.b9 [e,a] λa h=>stD h 2 d a λ_ h=>bnd (ldA h 2 d) λa=>q a h) λa=>cnd g (bnd (ldA h 2 c) λc=>clQ C h F.eY [c] λc h=>e3Q c λc g i=>cnd i (bIQ .mul e g λa=>bIQ .mul c f λc=>bIQ .add a c λa=>bIQ .mul f g λc=>clQ C h F.iY [a,c] λa h=>stD h 2 d a λ_ h=>bnd (ldA h 2 d) λa=>q a h) (a [] h)) (a [] h))
def sk:Ann:=(nBQ (nRQ [.slot 0,.slot 1,.slot 2]) (aK (nCQ (eX (nJQ [] [2,3,4])))))
theorem FF(C:CC)(t0:V)(t1:V)(q:kkQ):fnD Y C Tryz.f96 3 sk [t0,t1] q=fp C t0 t1 q:=by kernel_rfl
theorem FD:okB Tryz.prog Tryz.f96 sk=true:=aR
theorem FE(h:fp (CX Y) t0 t1 (out v)):CP Y F.fp [t0,t1] v:=
 CP.of (fn:=Tryz.f96) (m:=3) (a:=sk) rfl (λ_=>rfl) Tryz.func96 FD (by rw[FF];exact h)
def jX(C:CC)(a c:V)(q:kQ):Prop:=let h:Hp:=.replicate 3 nnQ
 d6 0 a h λa h=>d6 1 c h λc h=>alV 2 [.d (.str []),.d (.str [])] h λd h=>bnd (ldA h 2 a) λe=>clQ C h F.eY [e] λe h=>e3Q e λe f g=>jn (λe h=>bfQ 0 a λe=>b1Q h e λe=>bfQ 0 c λf=>b1Q h f λf=>clQ C h F.cE [e,f] λe h=>bfQ 1 a λa=>b1Q h a λa=>bfQ 1 c λc=>b1Q h c λc=>clQ C h F.cE [a,c] λa h=>clQ C h F.b9 [e,a] λa h=>stD h 2 d a λ_ h=>bnd (ldA h 2 d) λa=>q a h) λa=>cnd g (bnd (ldA h 2 c) λc=>clQ C h F.eY [c] λc h=>e3Q c λc g i=>cnd i (bIQ .mul e c λa=>bIQ .mul f g λc=>clQ C h F.iY [a,c] λa h=>stD h 2 d a λ_ h=>bnd (ldA h 2 d) λa=>q a h) (a [] h)) (a [] h)
theorem FC(h:jX (CX Y) t0 t1 (out v)):CP Y F.jX [t0,t1] v:=CPo 3 (nBQ (nRQ [.slot 0,.slot 1,.slot 2]) (nCQ (eX (nJQ [] [2,3,4])))) Tryz.func102 h
def iZ(C:CC)(a:V)(q:kQ):Prop:=let h:Hp:=.replicate 1 nnQ
 d6 0 a h λa h=>bfQ 0 a λa=>b1Q h a λa=>clQ C h F.dQ [a] q
theorem C5(h:iZ (CX Y) t0 (out v)):CP Y F.iZ [t0] v:=CPo 1 (nCQ (nRQ [.slot 0])) Tryz.func25 h
def od(C:CC)(a c:V)(q:kQ):Prop:=let h:Hp:=.replicate 1 nnQ
 alV 0 [.d (.str []),.d (.str [])] h λd h=>clQ C h F.dQ [c] λe h=>cIQ .eql e (I 0) (bnd (bld [(0,1),(1,1)] [.str [],.str []] []) λa=>stD h 2 d a λ_ h=>bnd (ldA h 2 d) λa=>q (.tup [a,I 17]) h) (clQ C h F.b9 [a,c] λa h=>stD h 2 d a λ_ h=>bnd (ldA h 2 d) λa=>q (.tup [a,I 0]) h)
theorem FA(h:od (CX Y) t0 t1 (out v)):CP Y F.od [t0,t1] v:=CPo 1 (nCQ (nRQ [.slot 0])) Tryz.func86 h
def ja(C:CC)(a c:V)(q:kQ):Prop:=let h:Hp:=.replicate 1 nnQ
 alV 0 [.d (.str []),.d (.str [])] h λd h=>clQ C h F.eD [a] λa h=>clQ C h F.eD [c] λc h=>clQ C h F.od [a,c] λa h=>e2Q a λa c=>stD h 2 d a λ_ h=>bnd (ldA h 2 d) λa=>q (.tup [a,c]) h
theorem GD(h:ja (CX Y) t0 t1 (out v)):CP Y F.ja [t0,t1] v:=CPo 1 (nCQ (nRQ [.slot 0])) Tryz.func47 h
def oJ(C:CC)(a c d:V):aM:=λl h q=>cIQ .lss (ge l 0) d (bxQ h 2 c (ge l 0) λc=>bnd (ldA h 2 c) λc=>alV 2 [.d (.str []),.d (.str [])] h λd h=>stD h 2 d c λ_ h=>bfQ 2 a λc=>b1Q h c λc=>bfQ 1 d λd=>b1Q h d λd=>clQ C h F.pQ [c,d] λc h=>bfQ 2 a λa=>stD h 1 a c λ_ h=>bIQ .add (ge l 0) (I 1) λa=>q .normal [a] h) (q (.exit 0) [] h)
def lY(C:CC)(a c d e:V):aM:=λl h q=>cIQ .lss (ge l 0) e (jn (λa h=>bIQ .add (ge l 0) (I 1) λa=>q .normal [a] h) λe=>bxQ h 2 d (ge l 0) λd=>bnd (ldA h 2 d) λd=>alV 3 [.d (.str []),.d (.str [])] h λf h=>stD h 2 f d λ_ h=>bfQ 0 f λd=>b1Q h d λd=>bSQ .neq d (.d (.str [48])) λd=>jn (λa h=>e [] h) λe=>cnd d (bfQ 2 c λd=>b1Q h d λd=>bfQ 1 f λg=>b1Q h g λg=>clQ C h F.bO [d,g] λd h=>e3Q d λd g i=>bfQ 0 c λg=>sm h c g<|b1Q h g λg=>bxQ h 1 a (ge l 0) λa=>b1Q h a λa=>dv 1 [.int .i64 0] [(0,a)] h λa h=>sp h g [c,f]<|apV false 4 1 8 g a h λa h=>bfQ 1 c λg=>sm h c g<|b1Q h g λg=>bfQ 0 f λi=>sm h f i<|b1Q h i λf=>clQ C h F.cE [f,d] λd h=>dv 1 [.str []] [(0,d)] h λd h=>apV false 5 1 16 g d h λd h=>bfQ 0 c λf=>stD h 1 f a λ_ h=>bfQ 1 c λa=>stD h 1 a d λ_ h=>e [] h) (e [] h)) (q (.exit 2) [] h)
def jL(C:CC)(a c:V)(q:kQ):Prop:=let h:Hp:=.replicate 6 nnQ
 alV 0 [.d nPQ,.d nPQ,.d (.str [])] h λd h=>bnd (bld [(0,1),(1,1),(2,1)] [nPQ,nPQ,.str []] [(2,(.d (.str [49])))]) λe=>alV 1 [.d nPQ,.d nPQ,.d (.str [])] h λf h=>stD h 3 f e λ_ h=>blQ c λe=>lp (oJ C f c e) [2] h [I 0] h (exK [((.exit 0),λe h=>blQ c λe=>lp (lY C a f c e) [3] h [I 0] h (exK [((.exit 2),λa h=>bnd (ldA h 3 f) λa=>stD h 3 d a λ_ h=>bnd (ldA h 3 d) λa=>q a h)]))])
def rW:Ann:=(nBQ (nRQ [.slot 0]) (nBQ (nRQ [.slot 1]) (nBQ (aK (nCQ (.n (.l [16] [0,1,4,5,14,15] [((.exit 0),[],[0,1,4,5])] [2]) (eX (nCQ (nCQ (nCQ (nRQ [.slot 2]))))) .o))) (nCQ (aK (nCQ (.n (.l [29] [0,4,5,27,28] [((.exit 2),[],[4,5])] [3]) (eX (nCQ (.n (.j [] [0,4,5,27,28,29]) (nBQ (nRQ [.slot 3]) (aK (.n (.j [] [0,4,5,27,28,29]) (aK (nRQ [.o,.slot 4,.o,.o,.slot 5])) .o))) .o))) .o)))))))
theorem Es(C:CC)(t0:V)(t1:V)(q:kkQ):fnD Y C Tryz.f99 6 rW [t0,t1] q=jL C t0 t1 q:=by kernel_rfl
theorem Ep:okB Tryz.prog Tryz.f99 rW=true:=aR
theorem Er(h:jL (CX Y) t0 t1 (out v)):CP Y F.jL [t0,t1] v:=
 CP.of (fn:=Tryz.f99) (m:=6) (a:=rW) rfl (λ_=>rfl) Tryz.func99 Ep (by rw[Es];exact h)
def jj(C:CC)(a:V)(q:kQ):Prop:=let h:Hp:=.replicate 1 nnQ
 d6 0 a h λa h=>q (.fn F.dK [] [a]) h
theorem AZ(h:jj (CX Y) t0 (out v)):CP Y F.jj [t0] v:=CPo 1 (nCQ (nRQ [.slot 0])) Tryz.func161 h
def dS(C:CC)(a c d e:V):Io:=λl h q=>
 clQ C h F.ly [ge l 1] λf h=>
 ext f 0 λg=>
 ext f 1 λf=>
 bnd (unV .not f) λf=>
 gqQ f false h g λi h=>
 gbQ f false h (ld1 h a) λj h=>
 gbQ f false h (biI .gtr i j) λi h=>
 bpQ f (B true) i λf=>
 gqQ f false h g λi h=>
 gbQ f false h (ld1 h a) λa h=>
 gbQ f false h (unV .neg a) λa h=>
 gbQ f false h (biI .lss i a) λa h=>
 bpQ f (B true) a λa=>
 cnd a (
 stD h 1 c (I 0) λ_ h=>
 stD h 1 d (I 0) λ_ h=>
 stD h 1 e (B false) λ_ h=>
 q .ret h) (
 clQ C h F.rJ [ge l 0] λa h=>
 ext a 0 λf=>
 ext a 1 λa=>
 bnd (unV .not a) λa=>
 cnd a (
 stD h 1 c (I 0) λ_ h=>
 stD h 1 d (I 0) λ_ h=>
 stD h 1 e (B false) λ_ h=>
 q .ret h) (
 bIQ .add f (I 1) λa=>
 bIQ .eql (ge l 0) (I 2) λe=>
 jn (λa h=>
 b1Q h c λe=>
 bIQ .mul g f λi=>
 bIQ .mul g (ge a 0) λj=>
 bnd (mxI false [i,j]) λi=>
 bIQ .add e i λe=>
 b1Q h d λi=>
 bIQ .mul g f λf=>
 bIQ .mul g (ge a 0) λa=>
 bnd (mxI true [f,a]) λa=>
 bIQ .add i a λa=>
 sp h c [d]<|stD h 1 c e λ_ h=>
 stD h 1 d a λ_ h=>
 q .normal h) λc=>
 cnd e (
 c [f] h) (
 c [a] h)))
def fX(C:CC)(a c:V)(q:kQ):Prop:=let h:Hp:=.replicate 5 nnQ
 d6 0 a h λa h=>d6 1 c h λc h=>alV 2 [.d (.int .i64 0)] h λd h=>alV 3 [.d (.int .i64 0)] h λe h=>alV 4 [.d (.bool false)] h λf h=>bnd (ldA h 3 a) λa=>clQ C h F.jj [a] λa h=>rgO (sqV Y.seq a) 2 (dS C c d e f) [] h (λex h=>exK [(.ret,λ_ h=>b1Q h d λa=>b1Q h e λc=>b1Q h f λd=>q (.tup [a,c,d]) h),(.normal,λ_ h=>b1Q h d λa=>b1Q h e λc=>sp h d [e]<|stD h 1 d a λ_ h=>stD h 1 e c λ_ h=>stD h 1 f (B true) λ_ h=>b1Q h d λa=>b1Q h e λc=>b1Q h f λd=>q (.tup [a,c,d]) h)] ex [] h)
def pw:Ann:=(nBQ (nRQ [.slot 0,.slot 1,.slot 2,.slot 3,.slot 4]) (nCQ (aK (nCQ (.n (.l [] [3,4,5,6] [(.ret,[],[4,5,6]),(.normal,[],[4,5,6])] []) .o (nCQ (adl (nCQ (aK (nJQ [13] [4,5,9,11]))))))))))
theorem zn(C:CC)(t0:V)(t1:V)(q:kkQ):fnD Y C Tryz.f160 5 pw [t0,t1] q=fX C t0 t1 q:=by kernel_rfl
theorem zk:okB Tryz.prog Tryz.f160 pw=true:=aR
theorem zm(h:fX (CX Y) t0 t1 (out v)):CP Y F.fX [t0,t1] v:=
 CP.of (fn:=Tryz.f160) (m:=5) (a:=pw) rfl (λ_=>rfl) Tryz.func160 zk (by rw[zn];exact h)
def gA(C:CC)(a:V)(q:kQ):Prop:=let h:Hp:=.replicate 1 nnQ
 d6 0 a h λa h=>bnd (ldA h 3 a) λa=>clQ C h F.fX [a,I 10000000] λa h=>e3Q a λa c d=>bnd (unV .not d) λd=>cnd d (q (I 0) h) (cIQ .geq a (I 0) (q (I 1) h) (cIQ .leq c (I 0) (q (I (-1)) h) (q (I 0) h)))
theorem yl(h:gA (CX Y) t0 (out v)):CP Y F.gA [t0] v:=CPo 1 (nCQ (nRQ [.slot 0])) Tryz.func133 h
def yk(C:CC)(a:V):aM:=λl h q=>bnd (ldA h 3 a) λa=>clQ C h F.CJ [a,ge l 0] λa h=>e2Q a λa c=>clQ C h F.dQ [a] λa h=>cIQ .geq a (I 0) (q .ret [I 1] h) (clQ C h F.dQ [c] λa h=>cIQ .leq a (I 0) (q .ret [I (-1)] h) (bIQ .mul (ge l 0) (I 2) λa=>q .normal [a] h))
def fl(C:CC)(a:V)(q:kQ):Prop:=let h:Hp:=.replicate 1 nnQ
 d6 0 a h λa h=>bfQ 0 a λc=>b1Q h c λc=>blQ c λc=>cIQ .eql c (I 0) (q (I 0) h) (bnd (ldA h 3 a) λc=>clQ C h F.gA [c] λc h=>nzQ c (q c h) (lp (yk C a) [] h [I 64] h (exK [(.ret,λa h=>q (ge a 0) h)])))
theorem zj(h:fl (CX Y) t0 (out v)):CP Y F.fl [t0] v:=CPo 1 (nBQ (nRQ [.slot 0]) (nCQ (U5 (nCQ (.n (.l [4] [1] [(.ret,[2],[])] []) .o .o))))) Tryz.func100 h
def rj(C:CC):aM:=λl h q=>cIQ .lss (ge l 3) (I 26) (jn (λa h=>bIQ .add (ge l 3) (I 1) λc=>q .normal [ge a 0,ge a 1,ge a 2,c] h) λa=>clQ C h F.dl [ge l 0,ge l 0] λc h=>e2Q c λc d=>bIQ .shl c (.d (.int .u64 2)) λc=>bIQ .shr d (.d (.int .u64 62)) λd=>bIQ .or c d λc=>clQ C h F.dl [ge l 1,ge l 1] λd h=>e2Q d λd e=>bIQ .shl d (.d (.int .u64 2)) λd=>bIQ .shr e (.d (.int .u64 62)) λe=>bIQ .or d e λd=>bIQ .add d (.d (.int .u64 1)) λd=>bIQ .mul (ge l 2) (I 2) λe=>bIQ .geq c (.d (.int .u64 9223372036854775808)) λf=>jn (λc h=>a [ge c 1,ge c 2,ge c 0] h) λa=>cnd f (bIQ .add e (I 1) λe=>bIQ .shr c (.d (.int .u64 1)) λc=>bIQ .shr d (.d (.int .u64 1)) λd=>bIQ .add d (.d (.int .u64 1)) λd=>a [e,c,d] h) (cIQ .geq d (.d (.int .u64 9223372036854775808)) (q .ret [I 0,B false] h) (a [e,c,d] h))) (q (.exit 0) [ge l 2] h)
def rJ(C:CC)(a:V)(q:kQ):Prop:=let h:Hp:=[]
 bnd (cvI .u64 a) λc=>clQ C h F.mC [c] λc h=>bIQ .sub c (I 1) λc=>bnd (cvI .u64 a) λa=>bIQ .sub (I 62) c λd=>bIQ .shl a d λa=>lp (rj C) [] h [a,a,c,I 0] h (exK [((.exit 0),λa h=>q (.tup [ge a 0,B true]) h),(.ret,λa h=>q (.tup [ge a 0,ge a 1]) h)])
theorem KQ(h:rJ (CX Y) t0 (out v)):CP Y F.rJ [t0] v:=CPo 0 (adl (nCQ (aK (nCQ (.n (.l [5,6,7,21] [] [((.exit 0),[7],[]),(.ret,[2,3],[])] []) (eX (nCQ (.n (.j [5,6,7] [21]) (adk (nJQ [7,5,6] [21])) .o))) .o))))) Tryz.func185 h
def bD(C:CC)(a c d:V):aM:=λl h q=>cIQ .lss (ge l 0) d (bxQ h 2 a (ge l 0) λa=>bnd (ldA h 2 a) λa=>cal C.p h c [a] λa h=>cnd a (q .ret [ge l 0] h) (bIQ .add (ge l 0) (I 1) λa=>q .normal [a] h)) (q (.exit 0) [] h)
def ba(C:CC)(a c:V)(q:kQ):Prop:=let h:Hp:=[]
 blQ a λd=>lp (bD C a c d) [] h [I 0] h (exK [((.exit 0),λa h=>q (I (-1)) h),(.ret,λa h=>q (ge a 0) h)])
theorem kJ(h:ba (CX Y) t0 t1 (out v)):CP Y F.ba [t0,t1] v:=CPo 0 (aK (nCQ (aK (nCQ (.n (.l [8] [0,1,7] [((.exit 0),[],[]),(.ret,[4],[])] []) .o .o))))) Tryz.func104 h
def aJ(C:CC)(a c:V)(q:kQ):Prop:=let h:Hp:=[]
 clQ C h F.ba [a,c] λa h=>bIQ .geq a (I 0) λa=>q a h
theorem jK(h:aJ (CX Y) t0 t1 (out v)):CP Y F.aJ [t0,t1] v:=CPo 0 .o Tryz.func66 h
def bZ(C:CC)(a c d:V):aM:=λl h q=>cIQ .lss (ge l 0) d (bxQ h 2 a (ge l 0) λa=>bnd (ldA h 2 a) λa=>cal C.p h c [a] λa h=>cnd a (q .ret [ge l 0] h) (bIQ .add (ge l 0) (I 1) λa=>q .normal [a] h)) (q (.exit 0) [] h)
def bB(C:CC)(a c:V)(q:kQ):Prop:=let h:Hp:=[]
 blQ a λd=>lp (bZ C a c d) [] h [I 0] h (exK [((.exit 0),λa h=>q (I (-1)) h),(.ret,λa h=>q (ge a 0) h)])
theorem mG(h:bB (CX Y) t0 t1 (out v)):CP Y F.bB [t0,t1] v:=CPo 0 (aK (nCQ (aK (nCQ (.n (.l [8] [0,1,7] [((.exit 0),[],[]),(.ret,[4],[])] []) .o .o))))) Tryz.func70 h
def aG(C:CC)(a c:V)(q:kQ):Prop:=let h:Hp:=[]
 clQ C h F.bB [a,c] λa h=>bIQ .geq a (I 0) λa=>q a h
theorem lh(h:aG (CX Y) t0 t1 (out v)):CP Y F.aG [t0,t1] v:=CPo 0 .o Tryz.func36 h
def bI(C:CC)(a c d:V):aM:=λl h q=>cIQ .lss (ge l 0) d (bxQ h 2 a (ge l 0) λa=>bnd (ldA h 2 a) λa=>bxQ h 2 c (ge l 0) λc=>bnd (ldA h 2 c) λc=>bnd (biA [.str [],.str []] .neq a c) λa=>cnd a (q .ret [B false] h) (bIQ .add (ge l 0) (I 1) λa=>q .normal [a] h)) (q (.exit 0) [] h)
def aV(C:CC)(a c:V)(q:kQ):Prop:=let h:Hp:=[]
 blQ a λd=>blQ c λe=>cIQ .neq d e (q (B false) h) (blQ a λd=>lp (bI C a c d) [] h [I 0] h (exK [((.exit 0),λa h=>q (B true) h),(.ret,λa h=>q (ge a 0) h)]))
theorem ov(h:aV (CX Y) t0 t1 (out v)):CP Y F.aV [t0,t1] v:=CPo 0 (eX (nCQ (aK (nCQ (.n (.l [13] [0,1,12] [((.exit 0),[],[]),(.ret,[4],[])] []) .o .o))))) Tryz.func65 h
def jM(C:CC)(a:V)(q:kQ):Prop:=let h:Hp:=.replicate 1 nnQ
 alV 0 [.d (.str []),.d (.str [])] h λc h=>clQ C h F.eD [a] λa h=>bnd (bld [(0,1),(1,1)] [.str [],.str []] [(0,a),(1,(.d (.str [49])))]) λa=>stD h 2 c a λ_ h=>bnd (ldA h 2 c) λa=>q a h
theorem Gr(h:jM (CX Y) t0 (out v)):CP Y F.jM [t0] v:=CPo 1 (nCQ (nRQ [.slot 0])) Tryz.func62 h
def re(C:CC)(b:Nat)(a c:V):aM:=λl h q=>cIQ .lss (ge l 0) c (clQ C h F.jM [I 0] λc h=>bxQ h 2 a (ge l 0) λa=>stD h 2 a c λ_ h=>bIQ .add (ge l 0) (I 1) λa=>q .normal [a] h) (q (.exit 0) [] h)
def pV(C:CC)(b:Nat)(h:Hp)(a:V)(q:kQ):Prop:=let h:Hp:=h++List.replicate 1 nnQ
 mkS (b+0) 32 [.str [],.str []] h a a λa h=>blQ a λc=>lp (re C b a c) [] h [I 0] h (exK [((.exit 0),λc h=>q a h)])
def wn(b:Nat):Ann:=(.n .x .o (.n .x (.n (.r [.slot (b+0)]) .o .o) (.n .x (.n .x .o (.n .x (.n (.l [9] [3,8] [((.exit 0),[],[3])] []) .o .o) .o)) .o)))
theorem KP(C:CC)(h:Hp)(t0:V)(q:kkQ):fnI Y C Tryz.f101 1 wn [t0] h q=pV C h.length h t0 q:=by rfl
theorem KN(b:Nat):okB Tryz.prog Tryz.f101 (wn b)=true:=by rfl
theorem KO(hh:pV (CX Y) h.length h t0 (m7 h.length v h2)):CI Y F.pV [t0] h v h2:=
 CI.of (fn:=Tryz.f101) (m:=1) (a:=wn) rfl (λ_=>rfl) Tryz.func101 (KN _) (by rw[KP];exact hh)
def qw(C:CC)(a c d e f:V):aM:=λl h q=>cIQ .lss (ge l 0) f (bxQ h 2 e (ge l 0) λe=>bnd (ldA h 2 e) λe=>alV 1 [.d (.str []),.d (.str [])] h λf h=>stD h 2 f e λ_ h=>bxQ h 2 c (ge l 0) λe=>bnd (ldA h 2 e) λe=>bnd (ldA h 2 f) λf=>bxQ h 2 a d λa=>bnd (ldA h 2 a) λa=>clQ C h F.jX [f,a] λa h=>clQ C h F.fp [e,a] λa h=>bxQ h 2 c (ge l 0) λc=>stD h 2 c a λ_ h=>bIQ .add (ge l 0) (I 1) λa=>q .normal [a] h) (q (.exit 2) [] h)
def sJ(C:CC)(a c d e:V):aM:=λl h q=>cIQ .lss (ge l 0) e (bxQ h 1 d (ge l 0) λd=>b1Q h d λd=>blQ d λe=>lp (qw C a c (ge l 0) d e) [1] h [I 0] h (exK [((.exit 2),λa h=>bIQ .add (ge l 0) (I 1) λa=>q .normal [a] h)])) (q (.exit 0) [] h)
def oC(C:CC)(a c d:V)(q:kQ):Prop:=let h:Hp:=.replicate 2 nnQ
 ciQ C h F.pV [a] 0 λa h=>blQ c λe=>lp (sJ C d a c e) [1] h [I 0] h (exK [((.exit 0),λc h=>q a h)])
def yn:Ann:=(aK (nBQ (nRQ [.inl 0]) (nCQ (aK (nCQ (.n (.l [16] [2,7,14,15] [((.exit 0),[],[7])] [1]) (eX (nCQ (nCQ (eX (nCQ (.n (.l [23] [2,7,8,14,15,16,21,22] [((.exit 2),[],[2,7,14,15,16])] [1]) (eX (nCQ (nCQ (nCQ (nRQ [.slot 1]))))) .o)))))) .o))))))
theorem Nn(C:CC)(t0:V)(t1:V)(t2:V)(q:kkQ):fnD Y C Tryz.f61 2 yn [t0,t1,t2] q=oC C t0 t1 t2 q:=by kernel_rfl
theorem Nl:okB Tryz.prog Tryz.f61 yn=true:=aR
theorem Nm(h:oC (CX Y) t0 t1 t2 (out v)):CP Y F.oC [t0,t1,t2] v:=
 CP.of (fn:=Tryz.f61) (m:=2) (a:=yn) rfl (λ_=>rfl) Tryz.func61 Nl (by rw[Nn];exact h)
def nV(C:CC)(a c d:V):aM:=λl h q=>cIQ .lss (ge l 0) d (bxQ h 1 c (ge l 0) λc=>b1Q h c λc=>clQ C h F.lJ [a,c] λa h=>nzQ a (q .ret [a] h) (bIQ .add (ge l 0) (I 1) λa=>q .normal [a] h)) (q (.exit 0) [] h)
def iV(C:CC)(a c:V)(q:kQ):Prop:=let h:Hp:=[]
 clQ C h F.fw [a] λd h=>nzQ d (q d h) (blQ c λd=>lp (nV C a c d) [] h [I 0] h (exK [((.exit 0),λa h=>q (I 0) h),(.ret,λa h=>q (ge a 0) h)]))
theorem CK(h:iV (CX Y) t0 t1 (out v)):CP Y F.iV [t0,t1] v:=CPo 0 (eX (nCQ (aK (nCQ (.n (.l [16] [0,14,15] [((.exit 0),[],[]),(.ret,[4],[])] []) .o .o))))) Tryz.func27 h
def o7(C:CC)(a:V)(q:kQ):Prop:=let h:Hp:=[]
 clQ C h F.aG [a,(.fn F.jk [] [])] λc h=>cnd c (q (.tup [nSQ,I 4]) h) (q (.tup [a,I 0]) h)
theorem Gp(h:o7 (CX Y) t0 (out v)):CP Y F.o7 [t0] v:=CPo 0 .o Tryz.func68 h
def jk(C:CC)(a:V)(q:kQ):Prop:=let h:Hp:=.replicate 1 nnQ
 d6 0 a h λa h=>bnd (ldA h 2 a) λa=>clQ C h F.nr [a] λa h=>bnd (unV .not a) λa=>q a h
theorem A0(h:jk (CX Y) t0 (out v)):CP Y F.jk [t0] v:=CPo 1 (nCQ (nRQ [.slot 0])) Tryz.func105 h
def lK(C:CC)(a c d:V)(q:kQ):Prop:=let h:Hp:=[]
 clQ C h F.iV [a,c] λe h=>nzQ e (q (.tup [nSQ,e]) h) (blQ d λe=>blQ c λf=>cIQ .neq e f (q (.tup [nSQ,I 5]) h) (clQ C h F.aJ [d,(.fn F.iC [] [])] λe h=>cnd e (q (.tup [nSQ,I 2]) h) (blQ a λa=>clQ C h F.oC [a,c,d] λa h=>clQ C h F.o7 [a] λa h=>e2Q a λa c=>q (.tup [a,c]) h)))
theorem Ev(h:lK (CX Y) t0 t1 t2 (out v)):CP Y F.lK [t0,t1,t2] v:=CPo 0 .o Tryz.func34 h
def iC(C:CC)(a:V)(q:kQ):Prop:=let h:Hp:=.replicate 1 nnQ
 d6 0 a h λa h=>bnd (ldA h 2 a) λa=>clQ C h F.fO [a] λa h=>bIQ .neq a (I 0) λa=>q a h
theorem zo(h:iC (CX Y) t0 (out v)):CP Y F.iC [t0] v:=CPo 1 (nCQ (nRQ [.slot 0])) Tryz.func67 h
def oT(C:CC)(a c d:V)(q:kQ):Prop:=let h:Hp:=.replicate 1 nnQ
 d6 0 d h λd h=>dv 1 [nPQ] [(0,c)] h λc h=>bnd (ldA h 2 d) λd=>dv 1 [.str [],.str []] [(0,d)] h λd h=>clQ C h F.lK [a,c,d] λa h=>e2Q a λa c=>q (.tup [a,c]) h
theorem IM(h:oT (CX Y) t0 t1 t2 (out v)):CP Y F.oT [t0,t1,t2] v:=CPo 1 (nCQ (nRQ [.slot 0])) Tryz.func31 h
def pW(C:CC)(a c:V)(q:kQ):Prop:=let h:Hp:=[]
 clQ C h F.aV [a,c] q
theorem IN(h:pW (CX Y) t0 t1 (out v)):CP Y F.pW [t0,t1] v:=CPo 0 .o Tryz.func33 h
def fE(C:CC)(a c d:V):aM:=λl h q=>cIQ .lss (ge l 0) d (bxQ h 1 a (ge l 0) λa=>b1Q h a λa=>bxQ h 1 c (ge l 0) λc=>b1Q h c λc=>cIQ .neq a c (q .ret [B false] h) (bIQ .add (ge l 0) (I 1) λa=>q .normal [a] h)) (q (.exit 0) [] h)
def bX(C:CC)(a c:V)(q:kQ):Prop:=let h:Hp:=[]
 blQ a λd=>blQ c λe=>cIQ .neq d e (q (B false) h) (blQ a λd=>lp (fE C a c d) [] h [I 0] h (exK [((.exit 0),λa h=>q (B true) h),(.ret,λa h=>q (ge a 0) h)]))
theorem rV(h:bX (CX Y) t0 t1 (out v)):CP Y F.bX [t0,t1] v:=CPo 0 (eX (nCQ (aK (nCQ (.n (.l [13] [0,1,12] [((.exit 0),[],[]),(.ret,[4],[])] []) .o .o))))) Tryz.func85 h
def nF(C:CC)(a c:V)(q:kQ):Prop:=let h:Hp:=[]
 dv 1 [nPQ] [(0,c)] h λc h=>clQ C h F.kR [a,c] q
theorem Gw(h:nF (CX Y) t0 t1 (out v)):CP Y F.nF [t0,t1] v:=CPo 0 .o Tryz.func54 h
def mT(C:CC)(a c:V):aM:=λl h q=>cIQ .lss (ge l 0) c (bxQ h 1 a (ge l 0) λa=>b1Q h a λa=>bIQ .gtr a (I 1000) λc=>gqQ c false h a λa h=>gbQ c false h (biI .lss a (I (-1000))) λa h=>bpQ c (B true) a λa=>cnd a (q .ret [I 4] h) (bIQ .add (ge l 0) (I 1) λa=>q .normal [a] h)) (q (.exit 2) [] h)
def jT(C:CC)(a c d:V):aM:=λl h q=>cIQ .lss (ge l 0) d (bxQ h 1 c (ge l 0) λc=>b1Q h c λc=>blQ c λd=>blQ a λa=>cIQ .neq d a (q .ret [I 5] h) (blQ c λa=>lp (mT C c a) [] h [I 0] h (exK [((.exit 2),λa h=>bIQ .add (ge l 0) (I 1) λa=>q .normal [a] h),(.ret,λa h=>q .ret [ge a 0] h)]))) (q (.exit 0) [] h)
def kR(C:CC)(a c:V)(q:kQ):Prop:=let h:Hp:=[]
 clQ C h F.fw [a] λd h=>nzQ d (q d h) (blQ c λd=>lp (jT C a c d) [] h [I 0] h (exK [((.exit 0),λa h=>q (I 0) h),(.ret,λa h=>q (ge a 0) h)]))
theorem Bo(h:kR (CX Y) t0 t1 (out v)):CP Y F.kR [t0,t1] v:=CPo 0 (eX (nCQ (aK (nCQ (.n (.l [17] [0,15,16] [((.exit 0),[],[]),(.ret,[4],[])] []) (eX (nCQ (nCQ (yB (nCQ (.n (.l [28] [0,15,16,17,26,27] [((.exit 2),[],[0,15,16,17]),(.ret,[4],[])] []) .o .o)))))) .o))))) Tryz.func91 h
def iB(C:CC)(b:Nat)(h:Hp)(a c:V)(q:kQ):Prop:=let h:Hp:=h++List.replicate 2 nnQ
 d6 (b+0) a h λa h=>bnd (ldA h 4 a) λd=>clQ C h F.fk [d] λd h=>nzQ d (q (.tup [nSQ,d]) h) (bfQ 0 a λd=>bfQ 0 d λd=>b1Q h d λd=>clQ C h F.nF [d,c] λe h=>nzQ e (q (.tup [nSQ,e]) h) (bfQ 0 a λe=>bnd (ldA h 3 e) λe=>clQ C h F.gv [e,c] λc h=>e2Q c λc e=>nzQ e (q (.tup [nSQ,e]) h) (bfQ 3 a λa=>b1Q h a λa=>clQ C h F.jg [c] λc h=>ciQ C h F.jh [d,a,c] (b+1) λa h=>q (.tup [a,I 0]) h)))
def po(b:Nat):Ann:=(.n .x (.n (.r [.slot (b+0)]) .o .o) (.n .x .o (.n .x .o (.n .x .o (.n .x .o (.n .x .o (.n .x (.n (.r [.o,.inl (b+1)]) .o .o) .o)))))))
theorem zc(C:CC)(h:Hp)(t0:V)(t1:V)(q:kkQ):fnI Y C Tryz.f56 2 po [t0,t1] h q=iB C h.length h t0 t1 q:=by rfl
theorem za(b:Nat):okB Tryz.prog Tryz.f56 (po b)=true:=by rfl
theorem zb(hh:iB (CX Y) h.length h t0 t1 (m7 h.length v h2)):CI Y F.iB [t0,t1] h v h2:=
 CI.of (fn:=Tryz.f56) (m:=2) (a:=po) rfl (λ_=>rfl) Tryz.func56 (za _) (by rw[zc];exact hh)
def oI(C:CC)(a c d:V):aM:=λl h q=>cIQ .lss (ge l 0) d (bxQ h 2 c (ge l 0) λc=>bnd (ldA h 2 c) λc=>alV 2 [.d (.str []),.d (.str [])] h λd h=>stD h 2 d c λ_ h=>bxQ h 2 a (ge l 0) λc=>bnd (ldA h 2 c) λc=>bnd (ldA h 2 d) λd=>clQ C h F.oc [c,d] λc h=>bxQ h 2 a (ge l 0) λa=>stD h 2 a c λ_ h=>bIQ .add (ge l 0) (I 1) λa=>q .normal [a] h) (q (.exit 0) [] h)
def lF(C:CC)(a c:V)(q:kQ):Prop:=let h:Hp:=.replicate 3 nnQ
 d6 0 a h λa h=>bnd (ldA h 4 a) λd=>ciQ C h F.iB [d,c] 1 λd h=>e2Q d λd e=>nzQ e (q (.tup [nSQ,e]) h) (clQ C h F.jg [c] λc h=>blQ c λe=>lp (oI C d c e) [2] h [I 0] h (exK [((.exit 0),λc h=>bfQ 0 a λa=>bfQ 0 a λa=>b1Q h a λa=>clQ C h F.mn [a,d] λa h=>e2Q a λa c=>q (.tup [a,c]) h)]))
theorem D8(h:lF (CX Y) t0 t1 (out v)):CP Y F.lF [t0,t1] v:=CPo 3 (nBQ (nRQ [.slot 0]) (nBQ (nRQ [.inl 1]) (aK (nCQ (aK (nCQ (.n (.l [22] [2,6,20,21] [((.exit 0),[],[2,6])] [2]) (eX (nCQ (nCQ (nCQ (nRQ [.slot 2]))))) .o))))))) Tryz.func29 h
def fk(C:CC)(a:V)(q:kQ):Prop:=let h:Hp:=.replicate 1 nnQ
 d6 0 a h λa h=>bfQ 0 a λc=>bnd (ldA h 3 c) λc=>clQ C h F.bY [c] λc h=>nzQ c (q c h) (bfQ 3 a λc=>b1Q h c λc=>blQ c λc=>bfQ 0 a λd=>bfQ 2 d λd=>b1Q h d λd=>blQ d λd=>cIQ .neq c d (q (I 5) h) (bfQ 0 a λc=>bfQ 0 c λc=>b1Q h c λc=>bfQ 3 a λa=>b1Q h a λa=>clQ C h F.iV [c,a] q))
theorem rO(h:fk (CX Y) t0 (out v)):CP Y F.fk [t0] v:=CPo 1 (nCQ (nRQ [.slot 0])) Tryz.func8 h
def mn(C:CC)(a c:V)(q:kQ):Prop:=let h:Hp:=[]
 clQ C h F.nu [a,c] λa h=>nzQ a (q (.tup [nSQ,I 4]) h) (q (.tup [c,I 0]) h)
theorem CB(h:mn (CX Y) t0 t1 (out v)):CP Y F.mn [t0,t1] v:=CPo 0 .o Tryz.func59 h
def mQ(C:CC)(a c:V):aM:=λl h q=>cIQ .lss (ge l 1) c (bxQ h 1 a (ge l 1) λa=>b1Q h a λa=>clQ C h F.ja [a,I 1] λa h=>e2Q a λa c=>alV 0 [.d (.str []),.d (.str [])] h λc h=>stD h 2 c a λ_ h=>bnd (ldA h 2 c) λa=>dv 1 [.str [],.str []] [(0,a)] h λa h=>apV false 1 2 32 (ge l 0) a h λa h=>bIQ .add (ge l 1) (I 1) λc=>q .normal [a,c] h) (q (.exit 0) [ge l 0] h)
def jg(C:CC)(a:V)(q:kQ):Prop:=let h:Hp:=.replicate 2 nnQ
 blQ a λc=>lp (mQ C a c) [0] h [nSQ,I 0] h (exK [((.exit 0),λa h=>q (ge a 0) h)])
theorem AQ(h:jg (CX Y) t0 (out v)):CP Y F.jg [t0] v:=CPo 2 (eX (nCQ (aK (nCQ (.n (.l [3,10] [8,9] [((.exit 0),[3],[])] [0]) (eX (nCQ (nCQ (aK (nBQ (nRQ [.o,.slot 0]) (nRQ [.o,.slot 1])))))) .o))))) Tryz.func57 h
def bA(C:CC)(b:Nat)(a:V):aM:=λl h q=>blQ a λc=>cIQ .lss (ge l 0) c (bnd (slV h 2 a (some (ge l 0)) none) λc=>bnd (slV h 2 a none (some (ge l 0))) λa=>cpD h 2 c a λa h=>bIQ .add (ge l 0) a λa=>q .normal [a] h) (q (.exit 0) [] h)
def aS(C:CC)(b:Nat)(h:Hp)(a c:V)(q:kQ):Prop:=let h:Hp:=h++List.replicate 1 nnQ
 bIQ .lss c (I 0) λd=>jn (λd h=>blQ a λd=>bnd (cvI .u64 d) λd=>bnd (cvI .u64 c) λc=>clQ C h F.mB [d,c] λc h=>e2Q c λc d=>bIQ .gtr c (.d (.int .u64 0)) λc=>gqQ c false h d λe h=>gbQ c false h (biI .gtr e (.d (.int .u64 9223372036854775807))) λe h=>bpQ c (B true) e λc=>jn (λc h=>bnd (cvI .i64 d) λc=>mkS (b+0) 32 [.str [],.str []] h c c λc h=>cpD h 2 c a λa h=>lp (bA C b c) [] h [a] h (exK [((.exit 0),λa h=>q c h)])) λa=>cnd c (False /- makeInterface -/) (a [] h)) λa=>cnd d (False /- makeInterface -/) (a [] h)
def ef(b:Nat):Ann:=(.n .x .o (.n .x (.n .x .o (.n (.j [] [0,1]) .o .o)) (.n .x .o (.n .x (.n .x .o (.n (.j [] [0,6]) .o .o)) (.n .x (.n (.r [.slot (b+0)]) .o .o) (.n .x .o (.n .x (.n .x (.n (.l [8] [7] [((.exit 0),[],[7])] []) .o .o) .o) .o)))))))
theorem nP(C:CC)(h:Hp)(t0:V)(t1:V)(q:kkQ):fnI Y C Tryz.f127 1 ef [t0,t1] h q=aS C h.length h t0 t1 q:=by rfl
theorem nN(b:Nat):okB Tryz.prog Tryz.f127 (ef b)=true:=by rfl
theorem nO(hh:aS (CX Y) h.length h t0 t1 (m7 h.length v h2)):CI Y F.aS [t0,t1] h v h2:=
 CI.of (fn:=Tryz.f127) (m:=1) (a:=ef) rfl (λ_=>rfl) Tryz.func127 (nN _) (by rw[nP];exact hh)
def mR(C:CC)(b:Nat)(a c d e f:V):aM:=λl h q=>cIQ .lss (ge l 0) f (bxQ h 2 c (ge l 0) λf=>bnd (ldA h 2 f) λf=>bxQ h 2 e (ge l 0) λe=>bnd (ldA h 2 e) λe=>bxQ h 2 a d λa=>bnd (ldA h 2 a) λa=>clQ C h F.jX [e,a] λa h=>clQ C h F.fp [f,a] λa h=>bxQ h 2 c (ge l 0) λc=>stD h 2 c a λ_ h=>bIQ .add (ge l 0) (I 1) λa=>q .normal [a] h) (q (.exit 2) [] h)
def mS(C:CC)(b:Nat)(a c d e:V):aM:=λl h q=>cIQ .lss (ge l 0) e (bxQ h 1 d (ge l 0) λd=>b1Q h d λd=>blQ c λe=>lp (mR C b a c (ge l 0) d e) [] h [I 0] h (exK [((.exit 2),λa h=>bIQ .add (ge l 0) (I 1) λa=>q .normal [a] h)])) (q (.exit 0) [] h)
def jh(C:CC)(b:Nat)(h:Hp)(a c d:V)(q:kQ):Prop:=let h:Hp:=h++List.replicate 1 nnQ
 bnd (bld [(0,1),(1,1)] [.str [],.str []] [(0,(.d (.str [48]))),(1,(.d (.str [49])))]) λe=>dv 1 [.str [],.str []] [(0,e)] h λe h=>blQ a λa=>ciQ C h F.aS [e,a] (b+0) λa h=>blQ c λe=>lp (mS C b d a c e) [] h [I 0] h (exK [((.exit 0),λc h=>q a h)])
def pR(b:Nat):Ann:=(.n .x .o (.n .x (.n (.r [.o,.inl (b+0)]) .o .o) (.n .x (.n .x .o (.n .x (.n (.l [18] [2,7,16,17] [((.exit 0),[],[7])] []) (.n .x .o (.n .x .o (.n .x (.n .x (.n .x .o (.n .x .o (.n .x (.n (.l [25] [2,7,8,9,16,17,18,24] [((.exit 2),[],[2,7,16,17,18])] []) .o .o) .o))) .o) .o))) .o) .o)) .o)))
theorem AT(C:CC)(h:Hp)(t0:V)(t1:V)(t2:V)(q:kkQ):fnI Y C Tryz.f95 1 pR [t0,t1,t2] h q=jh C h.length h t0 t1 t2 q:=by rfl
theorem AR(b:Nat):okB Tryz.prog Tryz.f95 (pR b)=true:=by rfl
theorem AS(hh:jh (CX Y) h.length h t0 t1 t2 (m7 h.length v h2)):CI Y F.jh [t0,t1,t2] h v h2:=
 CI.of (fn:=Tryz.f95) (m:=1) (a:=pR) rfl (λ_=>rfl) Tryz.func95 (AR _) (by rw[AT];exact hh)
def kU(C:CC)(a:V)(q:kQ):Prop:=let h:Hp:=[]
 clQ C h F.o5 [a] λc h=>nzQ c (q (.tup [B false,c]) h) (clQ C h F.kT [a] λa h=>q (.tup [a,I 0]) h)
theorem BD(h:kU (CX Y) t0 (out v)):CP Y F.kU [t0] v:=CPo 0 .o Tryz.func78 h
def mX(C:CC)(a c d:V):aM:=λl h q=>cIQ .lss (ge l 1) d (bxQ h 1 c (ge l 1) λc=>b1Q h c λc=>alV 0 [.d nPQ] h λd h=>stD h 1 d c λ_ h=>b1Q h d λc=>clQ C h F.mD [c] λc h=>alV 1 [.d (.int .i64 0)] h λe h=>stD h 1 e c λ_ h=>b1Q h e λc=>bIQ .leq c (ge l 0) λc=>gbQ c false h (ld1 h d) λf h=>gbQ c false h (ld1 h e) λg h=>gbQ c false h (ixV h 1 f g) λf h=>gbQ c false h (ld1 h f) λf h=>gbQ c false h (biI .lss f (I 0)) λf h=>bpQ c (B true) f λc=>cnd c (q .ret [B false] h) (bnd (slV h 1 a none (some (ge l 1))) λa=>clQ C h F.aY [a,(.fn F.eR [] [e,d])] λa h=>cnd a (q .ret [B false] h) (b1Q h e λa=>bIQ .add (ge l 1) (I 1) λc=>q .normal [a,c] h))) (q (.exit 0) [] h)
def kT(C:CC)(a:V)(q:kQ):Prop:=let h:Hp:=.replicate 2 nnQ
 blQ a λc=>lp (mX C a a c) [0,1] h [I (-1),I 0] h (exK [((.exit 0),λa h=>q (B true) h),(.ret,λa h=>q (ge a 0) h)])
theorem BC(h:kT (CX Y) t0 (out v)):CP Y F.kT [t0] v:=CPo 2 (eX (nCQ (aK (nCQ (.n (.l [3,9] [0,7,8] [((.exit 0),[],[]),(.ret,[2],[])] [0,1]) (eX (nCQ (nCQ (nBQ (nRQ [.slot 0]) (nCQ (nRQ [.o,.slot 1])))))) .o))))) Tryz.func114 h
def eR(C:CC)(a c d:V)(q:kQ):Prop:=let h:Hp:=[]
 b1Q h c λe=>bxQ h 1 a e λe=>b1Q h e λe=>bIQ .lss e (I 0) λe=>gqQ e false h a λa h=>gbQ e false h (ld1 h c) λf h=>gbQ e false h (ixV h 1 a f) λa h=>gbQ e false h (ld1 h a) λa h=>gbQ e false h (ld1 h d) λd h=>gbQ e false h (ld1 h c) λc h=>gbQ e false h (ixV h 1 d c) λc h=>gbQ e false h (ld1 h c) λc h=>gbQ e false h (biI .geq a c) λa h=>bpQ e (B true) a λa=>q a h
theorem xT(h:eR (CX Y) t0 t1 t2 (out v)):CP Y F.eR [t0,t1,t2] v:=CPo 0 .o Tryz.func148 h
def mD(C:CC)(a:V)(q:kQ):Prop:=let h:Hp:=[]
 clQ C h F.bb [a,(.fn F.jf [] [])] q
theorem C3(h:mD (CX Y) t0 (out v)):CP Y F.mD [t0] v:=CPo 0 .o Tryz.func146 h
def jf(C:CC)(a:V)(q:kQ):Prop:=let h:Hp:=[]
 bIQ .neq a (I 0) λa=>q a h
theorem yK(h:jf (CX Y) t0 (out v)):CP Y F.jf [t0] v:=CPo 0 .o Tryz.func173 h
def pq(C:CC)(a c d:V):aM:=λl h q=>cIQ .lss (ge l 0) d (bxQ h 1 c (ge l 0) λc=>b1Q h c λc=>blQ c λd=>cIQ .gtr d (I 12) (q .ret [I 4] h) (blQ c λd=>bxQ h 1 a (I 0) λa=>b1Q h a λa=>blQ a λa=>cIQ .neq d a (q .ret [I 5] h) (clQ C h F.bh [c,(.fn F.oZ [] [])] λa h=>cnd a (q .ret [I 4] h) (bIQ .add (ge l 0) (I 1) λa=>q .normal [a] h)))) (q (.exit 0) [] h)
def o5(C:CC)(a:V)(q:kQ):Prop:=let h:Hp:=[]
 blQ a λc=>cIQ .gtr c (I 12) (q (I 4) h) (blQ a λc=>lp (pq C a a c) [] h [I 0] h (exK [((.exit 0),λa h=>q (I 0) h),(.ret,λa h=>q (ge a 0) h)]))
theorem Gn(h:o5 (CX Y) t0 (out v)):CP Y F.o5 [t0] v:=CPo 0 (eX (nCQ (aK (nCQ (.n (.l [10] [0,8,9] [((.exit 0),[],[]),(.ret,[2],[])] []) .o .o))))) Tryz.func113 h
def oZ(C:CC)(a:V)(q:kQ):Prop:=let h:Hp:=[]
 bIQ .gtr a (I 1000000000) λc=>gqQ c false h a λa h=>gbQ c false h (biI .lss a (I (-1000000000))) λa h=>bpQ c (B true) a λa=>q a h
theorem Gm(h:oZ (CX Y) t0 (out v)):CP Y F.oZ [t0] v:=CPo 0 .o Tryz.func145 h
def oL(C:CC)(a c d:V):aM:=λl h q=>cIQ .lss (ge l 0) d (bxQ h 1 c (ge l 0) λc=>b1Q h c λc=>clQ C h F.o8 [c] λd h=>nzQ d (q .ret [d] h) (blQ c λc=>cIQ .neq c a (q .ret [I 5] h) (bIQ .add (ge l 0) (I 1) λa=>q .normal [a] h))) (q (.exit 0) [] h)
def nX(C:CC)(a c:V)(q:kQ):Prop:=let h:Hp:=[]
 blQ a λd=>lp (oL C c a d) [] h [I 0] h (exK [((.exit 0),λa h=>q (I 0) h),(.ret,λa h=>q (ge a 0) h)])
theorem EC(h:nX (CX Y) t0 t1 (out v)):CP Y F.nX [t0,t1] v:=CPo 0 (aK (nCQ (aK (nCQ (.n (.l [10] [1,8,9] [((.exit 0),[],[]),(.ret,[4],[])] []) .o .o))))) Tryz.func112 h
def rG(C:CC)(a c:V)(q:kQ):Prop:=let h:Hp:=[]
 clQ C h F.mg [c] λc h=>clQ C h F.kG [a,c] q
theorem Kf(h:rG (CX Y) t0 t1 (out v)):CP Y F.rG [t0,t1] v:=CPo 0 .o Tryz.func175 h
def mU(C:CC)(b:Nat)(a c:V):aM:=λl h q=>cIQ .lss (ge l 1) c (bxQ h 1 a (ge l 1) λa=>b1Q h a λa=>clQ C h F.eD [a] λa h=>dv 1 [.str []] [(0,a)] h λa h=>apV false (b+1) 1 16 (ge l 0) a h λa h=>bIQ .add (ge l 1) (I 1) λc=>q .normal [a,c] h) (q (.exit 0) [ge l 0] h)
def fN(C:CC)(b:Nat)(h:Hp)(a:V)(q:kQ):Prop:=let h:Hp:=h++List.replicate 2 nnQ
 blQ a λc=>mkS (b+0) 16 [.str []] h (I 0) c λc h=>blQ a λd=>lp (mU C b a d) [] h [c,I 0] h (exK [((.exit 0),λa h=>q (ge a 0) h)])
def qa(b:Nat):Ann:=(.n .x .o (.n .x (.n (.r [.slot (b+0)]) .o .o) (.n .x (.n .x .o (.n .x (.n (.l [3,11] [9,10] [((.exit 0),[3],[])] []) (.n .x .o (.n .x .o (.n .x (.n .x (.n .x .o (.n (.r [.o,.o,.slot (b+1)]) .o .o)) .o) .o))) .o) .o)) .o)))
theorem Bw(C:CC)(h:Hp)(t0:V)(q:kkQ):fnI Y C Tryz.f115 2 qa [t0] h q=fN C h.length h t0 q:=by rfl
theorem Bu(b:Nat):okB Tryz.prog Tryz.f115 (qa b)=true:=by rfl
theorem Bv(hh:fN (CX Y) h.length h t0 (m7 h.length v h2)):CI Y F.fN [t0] h v h2:=
 CI.of (fn:=Tryz.f115) (m:=2) (a:=qa) rfl (λ_=>rfl) Tryz.func115 (Bu _) (by rw[Bw];exact hh)
def j7(C:CC)(b:Nat)(h:Hp)(a:V)(q:kQ):Prop:=let h:Hp:=h++List.replicate 2 nnQ
 mkS (b+0) 8 [.int .i64 0] h a a λa h=>ciQ C h F.fN [a] (b+1) q
def qR(b:Nat):Ann:=(.n .x .o (.n .x (.n (.r [.slot (b+0),.inl (b+1)]) .o .o) .o))
theorem CW(C:CC)(h:Hp)(t0:V)(q:kkQ):fnI Y C Tryz.f116 2 qR [t0] h q=j7 C h.length h t0 q:=by rfl
theorem CU(b:Nat):okB Tryz.prog Tryz.f116 (qR b)=true:=by rfl
theorem CV(hh:j7 (CX Y) h.length h t0 (m7 h.length v h2)):CI Y F.j7 [t0] h v h2:=
 CI.of (fn:=Tryz.f116) (m:=2) (a:=qR) rfl (λ_=>rfl) Tryz.func116 (CU _) (by rw[CW];exact hh)
def jV(C:CC)(b:Nat)(a c d e:V):aM:=λl h q=>cIQ .lss (ge l 0) e (bxQ h 1 d (ge l 0) λd=>b1Q h d λd=>bxQ h 1 a (ge l 0) λe=>b1Q h e λe=>clQ C h F.cE [c,d] λc h=>clQ C h F.rG [e,c] λc h=>bxQ h 1 a (ge l 0) λa=>stD h 1 a c λ_ h=>bIQ .add (ge l 0) (I 1) λa=>q .normal [a] h) (q (.exit 0) [] h)
def eQ(C:CC)(b:Nat)(h:Hp)(a c d:V)(q:kQ):Prop:=let h:Hp:=h++List.replicate 0 nnQ
 bSQ .eql c (.d (.str [48])) λe=>cnd e (q (.tup []) h) (blQ d λe=>lp (jV C b a c d e) [] h [I 0] h (exK [((.exit 0),λa h=>q (.tup []) h)]))
def oA(b:Nat):Ann:=(.n .x .o (.n .x .o (.n .x (.n (.l [12] [0,1,10,11] [((.exit 0),[],[])] []) .o .o) .o)))
theorem xR(C:CC)(h:Hp)(t0:V)(t1:V)(t2:V)(q:kkQ):fnI Y C Tryz.f150 0 oA [t0,t1,t2] h q=eQ C h.length h t0 t1 t2 q:=by rfl
theorem xP(b:Nat):okB Tryz.prog Tryz.f150 (oA b)=true:=by rfl
theorem xQ(hh:eQ (CX Y) h.length h t0 t1 t2 (m7 h.length v h2)):CI Y F.eQ [t0,t1,t2] h v h2:=
 CI.of (fn:=Tryz.f150) (m:=0) (a:=oA) rfl (λ_=>rfl) Tryz.func150 (xP _) (by rw[xR];exact hh)
def iP(C:CC)(b:Nat)(a c d:V):aM:=λl h q=>cIQ .lss (ge l 0) d (bxQ h 1 c (ge l 0) λc=>b1Q h c λc=>clQ C h F.mg [c] λc h=>bxQ h 1 a (ge l 0) λa=>stD h 1 a c λ_ h=>bIQ .add (ge l 0) (I 1) λa=>q .normal [a] h) (q (.exit 0) [] h)
def eJ(C:CC)(b:Nat)(h:Hp)(a:V)(q:kQ):Prop:=let h:Hp:=h++List.replicate 0 nnQ
 blQ a λc=>lp (iP C b a a c) [] h [I 0] h (exK [((.exit 0),λa h=>q (.tup []) h)])
def mK(b:Nat):Ann:=(.n .x .o (.n .x (.n (.l [6] [0,4,5] [((.exit 0),[],[])] []) .o .o) .o))
theorem vG(C:CC)(h:Hp)(t0:V)(q:kkQ):fnI Y C Tryz.f151 0 mK [t0] h q=eJ C h.length h t0 q:=by rfl
theorem vE(b:Nat):okB Tryz.prog Tryz.f151 (mK b)=true:=by rfl
theorem vF(hh:eJ (CX Y) h.length h t0 (m7 h.length v h2)):CI Y F.eJ [t0] h v h2:=
 CI.of (fn:=Tryz.f151) (m:=0) (a:=mK) rfl (λ_=>rfl) Tryz.func151 (vE _) (by rw[vG];exact hh)
def gn(C:CC)(b:Nat)(a c:V):aM:=λl h q=>blQ a λd=>cIQ .lss (ge l 1) d (jn (λa h=>bIQ .add (ge l 1) (I 1) λc=>q .normal [ge a 0,c] h) λd=>bxQ h 1 a (ge l 1) λe=>b1Q h e λe=>bxQ h 1 e c λe=>b1Q h e λe=>bSQ .neq e (.d (.str [48])) λe=>gqQ e true h (ge l 0) λf h=>gbQ e true h (biI .lss f (I 0)) λf h=>gqQ e true h f λf h=>gqQ f false h a λg h=>gqQ f false h (ge l 1) λi h=>gbQ f false h (ixV h 1 g i) λg h=>gbQ f false h (ld1 h g) λg h=>gqQ f false h c λi h=>gbQ f false h (ixV h 1 g i) λg h=>gbQ f false h (ld1 h g) λg h=>gd f false h (λq=>clQ C h F.eS [g] q) λg h=>gqQ f false h a λa h=>gqQ f false h (ge l 0) λi h=>gbQ f false h (ixV h 1 a i) λa h=>gbQ f false h (ld1 h a) λa h=>gqQ f false h c λc h=>gbQ f false h (ixV h 1 a c) λa h=>gbQ f false h (ld1 h a) λa h=>gd f false h (λq=>clQ C h F.eS [a] q) λa h=>gd f false h (λq=>clQ C h F.mh [g,a] q) λa h=>gbQ f false h (biI .lss a (I 0)) λa h=>gbQ e true h (o9 f (B true) a) λa h=>bpQ e a (B false) λa=>jn (λa h=>d [ge a 0] h) λc=>cnd a (c [ge l 1] h) (c [ge l 0] h)) (q (.exit 4) [ge l 0] h)
def jy(C:CC)(b:Nat)(a c d:V):aM:=λl h q=>blQ a λe=>cIQ .lss (ge l 1) e (bxQ h 1 a (ge l 1) λe=>b1Q h e λe=>bxQ h 1 e d λe=>b1Q h e λe=>bxQ h 1 a c λf=>b1Q h f λf=>bxQ h 1 f d λd=>b1Q h d λd=>clQ C h F.bO [e,d] λd h=>e3Q d λd e f=>bxQ h 1 a (ge l 1) λf=>b1Q h f λf=>bxQ h 1 a c λa=>b1Q h a λa=>ciQ C h F.eQ [f,d,a] (b+0) λa h=>gqQ (ge l 0) false h e λa h=>gbQ (ge l 0) false h (biS .neq a (.d (.str [48]))) λa h=>bpQ (ge l 0) (B true) a λa=>bIQ .add (ge l 1) (I 1) λc=>q .normal [a,c] h) (q (.exit 6) [ge l 0] h)
def gm(C:CC)(b:Nat)(a c d e:V):aM:=λl h q=>cIQ .lss (ge l 0) e (bxQ h 1 a (ge l 0) λe=>b1Q h e λe=>bxQ h 1 e d λe=>b1Q h e λe=>bxQ h 1 a c λf=>b1Q h f λf=>bxQ h 1 f d λd=>b1Q h d λd=>clQ C h F.bO [e,d] λd h=>e3Q d λd e f=>bxQ h 1 a (ge l 0) λe=>b1Q h e λe=>bxQ h 1 a c λa=>b1Q h a λa=>ciQ C h F.eQ [e,d,a] (b+2) λa h=>bIQ .add (ge l 0) (I 1) λa=>q .normal [a] h) (q (.exit 8) [] h)
def mJ(C:CC)(b:Nat)(a c:V):aM:=λl h q=>lp (gn C b a c) [] h [I (-1),ge l 0] h (exK [((.exit 4),λd h=>cIQ .lss (ge d 0) (I 0) (q (.exit 2) [ge l 0] h) (bxQ h 1 a (ge d 0) λe=>b1Q h e λe=>bxQ h 1 a (ge l 0) λf=>b1Q h f λf=>bxQ h 1 a (ge l 0) λg=>stD h 1 g e λ_ h=>bxQ h 1 a (ge d 0) λd=>stD h 1 d f λ_ h=>bIQ .add (ge l 0) (I 1) λd=>lp (jy C b a (ge l 0) c) [(b+0)] h [B false,d] h (exK [((.exit 6),λd h=>cnd (ge d 0) (q .normal [ge l 0] h) (bxQ h 1 a (ge l 0) λd=>b1Q h d λd=>bxQ h 1 d c λd=>b1Q h d λd=>clQ C h F.dQ [d] λd h=>bIQ .lss d (I 0) λd=>jn (λd h=>lp (gm C b a (ge l 0) c (ge l 0)) [(b+2)] h [I 0] h (exK [((.exit 8),λa h=>bIQ .add (ge l 0) (I 1) λa=>q (.exit 2) [a] h)])) λc=>cnd d (bxQ h 1 a (ge l 0) λa=>b1Q h a λa=>ciQ C h F.eJ [a] (b+1) λa h=>c [] h) (c [] h)))])))])
def gr(C:CC)(b:Nat)(a c:V):aM:=λl h q=>bIQ .lss (ge l 1) c λc=>gqQ c true h (ge l 0) λd h=>gqQ c true h a λe h=>gbQ c true h (aX e) λe h=>gbQ c true h (biI .lss d e) λd h=>bpQ c d (B false) λc=>cnd c (lp (mJ C b a (ge l 1)) [(b+0),(b+1),(b+2)] h [ge l 0] h (exK [((.exit 2),λa h=>bIQ .add (ge l 1) (I 1) λc=>q .normal [ge a 0,c] h)])) (q (.exit 0) [ge l 0] h)
def cj(C:CC)(b:Nat)(h:Hp)(a c:V)(q:kQ):Prop:=let h:Hp:=h++List.replicate 3 nnQ
 lp (gr C b a c) [(b+0),(b+1),(b+2)] h [I 0,I 0] h (exK [((.exit 0),λc h=>bnd (slV h 1 a none (some (ge c 0))) λa=>q a h)])
def nI(b:Nat):Ann:=(.n .x .o (.n .x .o (.n .x (.n .x .o (.n .x (.n (.l [5,6] [0,1] [((.exit 0),[5],[0])] [(b+0),(b+1),(b+2)]) (.n .x .o (.n .x (.n .x (.n .x (.n (.l [5] [0,1,6] [((.exit 2),[5],[0,1,6])] [(b+0),(b+1),(b+2)]) (.n .x (.n .x .o (.n .x (.n .x .o (.n .x (.n (.l [7,8] [0,1,5,6] [((.exit 4),[7],[0,1,5,6])] []) (.n .x .o (.n .x (.n (.j [7] [0,1,5,6,8]) (.n .x .o (.n (.j [7] [0,1,5,6,8]) .o .o)) .o) .o)) .o) .o)) (.n .x .o (.n .x .o (.n .x .o (.n .x (.n .x .o (.n .x (.n (.l [9,10] [0,1,5,6] [((.exit 6),[9],[0,1,5,6])] [(b+0)]) (.n .x .o (.n .x (.n .x (.n .x .o (.n .x (.n (.r [.inl (b+0)]) .o .o) .o)) .o) .o)) .o) .o)) (.n .x .o (.n .x (.n .x .o (.n (.j [] [0,1,5,6]) (.n (.r [.inl (b+1)]) .o .o) .o)) (.n .x (.n .x .o (.n .x (.n (.l [143] [0,1,5,6,142] [((.exit 8),[],[0,1,5,6])] [(b+2)]) (.n .x .o (.n .x .o (.n .x (.n .x (.n .x .o (.n .x .o (.n (.r [.inl (b+2)]) .o .o))) .o) .o))) .o) .o)) .o))))))))) .o) .o) .o) .o) .o)) .o) .o)) .o)))
theorem wL(C:CC)(h:Hp)(t0:V)(t1:V)(q:kkQ):fnI Y C Tryz.f117 3 nI [t0,t1] h q=cj C h.length h t0 t1 q:=by rfl
theorem wK(b:Nat):okB Tryz.prog Tryz.f117 (nI b)=true:=by rfl
theorem qA(hh:cj (CX Y) h.length h t0 t1 (m7 h.length v h2)):CI Y F.cj [t0,t1] h v h2:=
 CI.of (fn:=Tryz.f117) (m:=3) (a:=nI) rfl (λ_=>rfl) Tryz.func117 (wK _) (by rw[wL];exact hh)
def lR(C:CC)(b:Nat)(a c:V):aM:=λl h q=>cIQ .lss (ge l 1) c (bxQ h 1 a (ge l 1) λa=>b1Q h a λa=>anyS λs4=>ciQ C h F.fN [a] s4 λa h=>anyS λs6=>CS s6 1 [nPQ] [(0,a)] h λa h=>anyS λs8=>apW false s8 1 24 (ge l 0) a h λa h=>bIQ .add (ge l 1) (I 1) λc=>q .normal [a,c] h) (q (.exit 0) [ge l 0] h)
def cN(C:CC)(b:Nat)(h:Hp)(a:V)(q:kQ):Prop:=let h:Hp:=h++List.replicate 14 nnQ
 blQ a λc=>lp (lR C b a c) [] h [nSQ,I 0] h (exK [((.exit 0),λa h=>q (ge a 0) h)])
def pC(b:Nat):Ann:=(.n .x .o (.n .x .o (.n .x (.n .x .o (.n .x (.n (.l [3,8] [6,7] [((.exit 0),[3],[])] []) (.n .x .o (.n .x .o (.n .x (.n .x (.n .x .o (.n (.r [.anyI,.anyV,.anyV]) .o .o)) .o) .o))) .o) .o)) .o)))
theorem zQ(C:CC)(h:Hp)(t0:V)(q:kkQ):fnI Y C Tryz.f79 14 pC [t0] h q=cN C h.length h t0 q:=by rfl
theorem zO(b:Nat):okB Tryz.prog Tryz.f79 (pC b)=true:=by rfl
theorem zP(hh:cN (CX Y) h.length h t0 (m7 h.length v h2)):CI Y F.cN [t0] h v h2:=
 CI.of (fn:=Tryz.f79) (m:=14) (a:=pC) rfl (λ_=>rfl) Tryz.func79 (zO _) (by rw[zQ];exact hh)
def jU(C:CC)(a c:V):aM:=λl h q=>cIQ .lss (ge l 1) c (bxQ h 1 a (ge l 1) λa=>b1Q h a λa=>anyS λs4=>ciQ C h F.fN [a] s4 λa h=>anyS λs6=>CS s6 1 [nPQ] [(0,a)] h λa h=>anyS λs8=>apW false s8 1 24 (ge l 0) a h λa h=>bIQ .add (ge l 1) (I 1) λc=>q .normal [a,c] h) (q (.exit 0) [ge l 0] h)
def sV(C:CC)(a:V)(q:kQ):Prop:=let h:Hp:=.replicate 14 nnQ
 blQ a λc=>lp (jU C a c) [] h [nSQ,I 0] h (exK [((.exit 0),λa h=>q (ge a 0) h)])
theorem xO(h:sV (CX Y) t0 (out v)):CP Y F.cN [t0] v:=CPo 14 (eX (nCQ (aK (nCQ (.n (.l [3,8] [6,7] [((.exit 0),[3],[])] []) (eX (nCQ (nCQ (aK (nRQ [.anyI,.anyV,.anyV]))))) .o))))) Tryz.func79 h
def fA(C:CC)(b:Nat)(a c d:V):aM:=λl h q=>cIQ .lss (ge l 1) d (jn (λa h=>bIQ .add (ge l 1) (I 1) λc=>q .normal [ge a 0,c] h) λd=>bxQ h 1 c (ge l 1) λc=>b1Q h c λc=>clQ C h F.im [c] λe h=>bIQ .geq e a λe=>jn (λa h=>d [ge a 0] h) λd=>cnd e (bnd (slV h 1 c (some a) none) λa=>anyS λs12=>CS s12 1 [nPQ] [(0,a)] h λa h=>anyS λs14=>apW false s14 1 24 (ge l 0) a h λa h=>d [a] h) (d [ge l 0] h)) (q (.exit 0) [ge l 0] h)
def cC(C:CC)(b:Nat)(h:Hp)(a c d:V)(q:kQ):Prop:=let h:Hp:=h++List.replicate 2 nnQ
 blQ a λe=>lp (fA C b c a e) [] h [nSQ,I 0] h (exK [((.exit 0),λa h=>ciQ C h F.cj [ge a 0,d] (b+0) q)])
def lO(b:Nat):Ann:=(.n .x .o (.n .x .o (.n .x (.n .x .o (.n .x (.n (.l [7,12] [1,2,10,11] [((.exit 0),[7],[2])] []) (.n .x .o (.n .x .o (.n .x (.n (.j [7] [1,2,10,11,12]) (.n .x .o (.n .x .o (.n (.j [7] [1,2,10,11,12]) (.n (.r [.anyV,.anyV]) .o .o) .o))) .o) .o))) .o) .o)) (.n .x (.n (.r [.inl (b+0)]) .o .o) .o))))
theorem uR(C:CC)(h:Hp)(t0:V)(t1:V)(t2:V)(q:kkQ):fnI Y C Tryz.f118 2 lO [t0,t1,t2] h q=cC C h.length h t0 t1 t2 q:=by rfl
theorem uQ(b:Nat):okB Tryz.prog Tryz.f118 (lO b)=true:=by rfl
theorem pB(hh:cC (CX Y) h.length h t0 t1 t2 (m7 h.length v h2)):CI Y F.cC [t0,t1,t2] h v h2:=
 CI.of (fn:=Tryz.f118) (m:=2) (a:=lO) rfl (λ_=>rfl) Tryz.func118 (uQ _) (by rw[uR];exact hh)
def ik(C:CC)(a c d:V):aM:=λl h q=>cIQ .lss (ge l 1) d (bxQ h 1 c (ge l 1) λc=>b1Q h c λc=>bxQ h 1 c a λa=>b1Q h a λa=>dv 1 [.str []] [(0,a)] h λa h=>anyS λs7=>apV false s7 1 16 (ge l 0) a h λa h=>bIQ .add (ge l 1) (I 1) λc=>q .normal [a,c] h) (q (.exit 2) [ge l 0] h)
def il(C:CC)(a c d:V):aM:=λl h q=>cIQ .lss (ge l 1) d (blQ a λd=>lp (ik C (ge l 1) a d) [] h [nSQ,I 0] h (exK [((.exit 2),λa h=>ciQ C h F.j7 [c] 0 λc h=>bxQ h 1 c (ge l 1) λd=>stD h 1 d (.d (.str [49])) λ_ h=>anyS λs7=>apV false s7 1 16 (ge a 0) c h λa h=>anyS λs9=>CS s9 1 [nPQ] [(0,a)] h λa h=>anyS λs11=>apW false s11 1 24 (ge l 0) a h λa h=>bIQ .add (ge l 1) (I 1) λc=>q .normal [a,c] h)])) (q (.exit 0) [ge l 0] h)
def cW(C:CC)(a c:V)(q:kQ):Prop:=let h:Hp:=.replicate 19 nnQ
 lp (il C a c c) [0] h [nSQ,I 0] h (exK [((.exit 0),λd h=>blQ a λe=>bIQ .add e c λe=>ciQ C h F.cj [ge d 0,e] 1 λd h=>blQ a λa=>ciQ C h F.cC [d,a,c] 2 q)])
theorem uP(h:cW (CX Y) t0 t1 (out v)):CP Y F.cW [t0,t1] v:=CPo 19 (eX (nBQ (aK (nCQ (.n (.l [5,12] [0,1,11] [((.exit 0),[5],[0,1])] [0]) (eX (nCQ (nCQ (eX (nBQ (aK (nCQ (.n (.l [7,17] [0,1,5,6,11,12,15,16] [((.exit 2),[7],[0,1,5,6,11,12])] []) (eX (nCQ (nCQ (aK (nRQ [.o,.anyS]))))) .o))) (nBQ (nRQ [.inl 0]) (aK (nRQ [.anyS,.anyV,.anyV])))))))) .o))) (nCQ (nRQ [.inl 1,.inl 2])))) Tryz.func80 h
def im(C:CC)(a:V)(q:kQ):Prop:=let h:Hp:=[]
 clQ C h F.cF [a,(.fn F.dV [] [])] q
theorem xS(h:im (CX Y) t0 (out v)):CP Y F.im [t0] v:=CPo 0 .o Tryz.func152 h
def dV(C:CC)(a:V)(q:kQ):Prop:=let h:Hp:=[]
 bSQ .neq a (.d (.str [48])) λa=>q a h
theorem uS(h:dV (CX Y) t0 (out v)):CP Y F.dV [t0] v:=CPo 0 .o Tryz.func177 h
def mF(C:CC)(a c d:V):aM:=λl h q=>cIQ .lss (ge l 0) d (bxQ h 1 a (ge l 0) λa=>b1Q h a λa=>cal C.p h c [a] λa h=>cnd a (q .ret [ge l 0] h) (bIQ .add (ge l 0) (I 1) λa=>q .normal [a] h)) (q (.exit 0) [] h)
def cF(C:CC)(a c:V)(q:kQ):Prop:=let h:Hp:=[]
 blQ a λd=>lp (mF C a c d) [] h [I 0] h (exK [((.exit 0),λa h=>q (I (-1)) h),(.ret,λa h=>q (ge a 0) h)])
theorem m6(h:cF (CX Y) t0 t1 (out v)):CP Y F.cF [t0,t1] v:=CPo 0 (aK (nCQ (aK (nCQ (.n (.l [8] [0,1,7] [((.exit 0),[],[]),(.ret,[4],[])] []) .o .o))))) Tryz.func176 h
def jz(C:CC)(a c:V):aM:=λl h q=>cIQ .lss (ge l 1) c (bxQ h 1 a (ge l 1) λa=>b1Q h a λa=>clQ C h F.ly [a] λa h=>e2Q a λa c=>bnd (unV .not c) λc=>gqQ c false h a λd h=>gbQ c false h (biI .gtr d (I 1000000000)) λd h=>bpQ c (B true) d λc=>gqQ c false h a λd h=>gbQ c false h (biI .lss d (I (-1000000000))) λd h=>bpQ c (B true) d λc=>cnd c (q .ret [nSQ,I 4] h) (a1Q 1 (ge l 0) a h λa h=>bIQ .add (ge l 1) (I 1) λc=>q .normal [a,c] h)) (q (.exit 0) [ge l 0] h)
def gC(C:CC)(a:V)(q:kQ):Prop:=let h:Hp:=.replicate 2 nnQ
 blQ a λc=>mkS 0 8 [.int .i64 0] h (I 0) c λc h=>blQ a λd=>lp (jz C a d) [] h [c,I 0] h (exK [((.exit 0),λa h=>q (.tup [ge a 0,I 0]) h),(.ret,λa h=>q (.tup [ge a 0,ge a 1]) h)])
theorem wM(h:gC (CX Y) t0 (out v)):CP Y F.gC [t0] v:=CPo 2 (aK (nBQ (nRQ [.slot 0]) (nCQ (aK (nCQ (.n (.l [4,14] [12,13] [((.exit 0),[4],[]),(.ret,[2,3],[])] []) (eX (nCQ (nCQ (yB (nRQ [.o,.slot 1]))))) .o)))))) Tryz.func119 h
def iO(C:CC)(a c d e:V):aM:=λl h q=>cIQ .lss (ge l 0) e (bxQ h 1 d (ge l 0) λd=>b1Q h d λd=>clQ C h F.gC [d] λd h=>e2Q d λd e=>nzQ e (bnd (bld [(0,1),(1,1)] [.int .i64 0,nPQ] []) λc=>stD h 2 a c λ_ h=>q .ret [e] h) (bfQ 1 c λa=>b1Q h a λa=>dv 1 [nPQ] [(0,d)] h λd h=>apV false 2 1 24 a d h λa h=>bfQ 1 c λc=>stD h 1 c a λ_ h=>bIQ .add (ge l 0) (I 1) λa=>q .normal [a] h)) (q (.exit 0) [] h)
def dC(C:CC)(a c:V)(q:kQ):Prop:=let h:Hp:=.replicate 3 nnQ
 alV 0 [.d (.int .i64 0),.d nPQ] h λd h=>bnd (bld [(0,1),(1,1)] [.int .i64 0,nPQ] [(0,c)]) λc=>alV 1 [.d (.int .i64 0),.d nPQ] h λe h=>stD h 2 e c λ_ h=>blQ a λc=>lp (iO C d e a c) [] h [I 0] h (exK [((.exit 0),λa h=>bnd (ldA h 2 e) λa=>stD h 2 d a λ_ h=>bnd (ldA h 2 d) λa=>q (.tup [a,I 0]) h),(.ret,λa h=>bnd (ldA h 2 d) λc=>q (.tup [c,ge a 0]) h)])
theorem vC(h:dC (CX Y) t0 t1 (out v)):CP Y F.dC [t0,t1] v:=CPo 3 (nBQ (nRQ [.slot 0]) (nBQ (nRQ [.slot 1]) (nCQ (aK (nCQ (.n (.l [15] [4,6,13,14] [((.exit 0),[],[4,6]),(.ret,[5],[4])] []) (eX (nCQ (nCQ (yB (nRQ [.o,.slot 2]))))) .o)))))) Tryz.func81 h
def gD(C:CC)(a:V)(q:kQ):Prop:=let h:Hp:=.replicate 2 nnQ
 d6 0 a h λa h=>alV 1 [.d (.int .i64 0),.d nPQ] h λc h=>bnd (ldA h 2 a) λd=>clQ C h F.iX [d] λd h=>nzQ d (bnd (bld [(0,1),(1,1)] [.int .i64 0,nPQ] []) λa=>stD h 2 c a λ_ h=>bnd (ldA h 2 c) λa=>q (.tup [a,d]) h) (bfQ 1 a λd=>b1Q h d λd=>clQ C h F.cN [d] λd h=>bfQ 0 a λe=>b1Q h e λe=>clQ C h F.cW [d,e] λd h=>bfQ 0 a λe=>b1Q h e λe=>clQ C h F.cW [d,e] λd h=>bfQ 0 a λa=>b1Q h a λa=>clQ C h F.dC [d,a] λa h=>e2Q a λa d=>stD h 2 c a λ_ h=>bnd (ldA h 2 c) λa=>q (.tup [a,d]) h)
theorem yE(h:gD (CX Y) t0 (out v)):CP Y F.gD [t0] v:=CPo 2 (nCQ (nRQ [.slot 0,.slot 1])) Tryz.func43 h
def eM(C:CC)(a:V)(q:kQ):Prop:=let h:Hp:=.replicate 2 nnQ
 d6 0 a h λa h=>alV 1 [.d (.int .i64 0),.d nPQ] h λc h=>bnd (ldA h 2 a) λd=>clQ C h F.iX [d] λd h=>nzQ d (bnd (bld [(0,1),(1,1)] [.int .i64 0,nPQ] []) λa=>stD h 2 c a λ_ h=>bnd (ldA h 2 c) λa=>q (.tup [a,d]) h) (bfQ 1 a λd=>b1Q h d λd=>clQ C h F.cN [d] λd h=>bfQ 0 a λe=>b1Q h e λe=>clQ C h F.cW [d,e] λd h=>bfQ 0 a λa=>b1Q h a λa=>clQ C h F.dC [d,a] λa h=>e2Q a λa d=>stD h 2 c a λ_ h=>bnd (ldA h 2 c) λa=>q (.tup [a,d]) h)
theorem vH(h:eM (CX Y) t0 (out v)):CP Y F.eM [t0] v:=CPo 2 (nCQ (nRQ [.slot 0,.slot 1])) Tryz.func45 h
def qc(C:CC)(a c:V)(q:kQ):Prop:=let h:Hp:=.replicate 16 nnQ
 alV 0 [.d (.int .i64 0),.d nPQ] h λd h=>clQ C h F.j8 [a,c] λe h=>nzQ e (bnd (bld [(0,1),(1,1)] [.int .i64 0,nPQ] []) λa=>stD h 2 d a λ_ h=>bnd (ldA h 2 d) λa=>q (.tup [a,e]) h) (ciQ C h F.cN [c] 1 λc h=>ciQ C h F.cj [c,a] 2 λc h=>clQ C h F.dC [c,a] λa h=>e2Q a λa c=>stD h 2 d a λ_ h=>bnd (ldA h 2 d) λa=>q (.tup [a,c]) h)
theorem Jw(h:qc (CX Y) t0 t1 (out v)):CP Y F.qc [t0,t1] v:=CPo 16 (nBQ (nRQ [.slot 0]) (aK (nCQ (nRQ [.inl 1,.inl 2])))) Tryz.func88 h
def j8(C:CC)(a c:V)(q:kQ):Prop:=let h:Hp:=[]
 bIQ .lss a (I 0) λd=>gqQ d false h a λe h=>gbQ d false h (biI .gtr e (I 12)) λe h=>bpQ d (B true) e λd=>cnd d (q (I 3) h) (blQ c λd=>cIQ .gtr d (I 12) (q (I 4) h) (clQ C h F.nX [c,a] q))
theorem CY(h:j8 (CX Y) t0 t1 (out v)):CP Y F.j8 [t0,t1] v:=CPo 0 .o Tryz.func77 h
def iX(C:CC)(a:V)(q:kQ):Prop:=let h:Hp:=.replicate 1 nnQ
 d6 0 a h λa h=>bfQ 0 a λc=>b1Q h c λc=>bfQ 1 a λd=>b1Q h d λd=>clQ C h F.j8 [c,d] λc h=>nzQ c (q c h) (bfQ 1 a λa=>b1Q h a λa=>clQ C h F.kU [a] λa h=>e2Q a λa c=>bIQ .neq c (I 0) λc=>gqQ c false h a λa h=>gbQ c false h (unV .not a) λa h=>bpQ c (B true) a λa=>cnd a (q (I 7) h) (q (I 0) h))
theorem C1(h:iX (CX Y) t0 (out v)):CP Y F.iX [t0] v:=CPo 1 (nCQ (nRQ [.slot 0])) Tryz.func42 h
def j9(C:CC)(a c:V)(q:kQ):Prop:=let h:Hp:=.replicate 2 nnQ
 d6 0 a h λa h=>d6 1 c h λc h=>bfQ 0 a λd=>b1Q h d λd=>bfQ 0 c λe=>b1Q h e λe=>bIQ .eql d e λd=>gbQ d true h (faV 1 a) λa h=>gbQ d true h (ld1 h a) λa h=>gbQ d true h (faV 1 c) λc h=>gbQ d true h (ld1 h c) λc h=>gd d true h (λq=>clQ C h F.aw [a,c,(.fn F.pX [] [])] q) λa h=>bpQ d a (B false) λa=>q a h
theorem CZ(h:j9 (CX Y) t0 t1 (out v)):CP Y F.j9 [t0,t1] v:=CPo 2 (nCQ (nRQ [.slot 0,.slot 1])) Tryz.func44 h
def aO(C:CC)(a c d e:V):aM:=λl h q=>cIQ .lss (ge l 0) e (bxQ h 1 d (ge l 0) λd=>b1Q h d λd=>bxQ h 1 a (ge l 0) λa=>b1Q h a λa=>cal C.p h c [d,a] λa h=>bnd (unV .not a) λa=>cnd a (q .ret [B false] h) (bIQ .add (ge l 0) (I 1) λa=>q .normal [a] h)) (q (.exit 0) [] h)
def aw(C:CC)(a c d:V)(q:kQ):Prop:=let h:Hp:=[]
 blQ a λe=>blQ c λf=>cIQ .neq e f (q (B false) h) (blQ a λe=>lp (aO C c d a e) [] h [I 0] h (exK [((.exit 0),λa h=>q (B true) h),(.ret,λa h=>q (ge a 0) h)]))
theorem gP(h:aw (CX Y) t0 t1 t2 (out v)):CP Y F.aw [t0,t1,t2] v:=CPo 0 (eX (nCQ (aK (nCQ (.n (.l [17] [1,2,15,16] [((.exit 0),[],[]),(.ret,[6],[])] []) .o .o))))) Tryz.func82 h
def qx(C:CC)(a:V)(q:kQ):Prop:=let h:Hp:=[]
 bIQ .geq a (I (-1000000000)) λc=>gqQ c true h a λa h=>gbQ c true h (biI .leq a (I 1000000000)) λa h=>bpQ c a (B false) λa=>q a h
theorem Nr(h:qx (CX Y) t0 (out v)):CP Y F.qx [t0] v:=CPo 0 .o Tryz.func139 h
def nW(C:CC)(a:V)(q:kQ):Prop:=let h:Hp:=[]
 clQ C h F.qx [a] λa h=>bnd (unV .not a) λa=>q a h
theorem EB(h:nW (CX Y) t0 (out v)):CP Y F.nW [t0] v:=CPo 0 .o Tryz.func138 h
def o8(C:CC)(a:V)(q:kQ):Prop:=let h:Hp:=[]
 blQ a λc=>bIQ .gtr c (I 64) λc=>gqQ c false h a λa h=>gd c false h (λq=>clQ C h F.bh [a,(.fn F.nW [] [])] q) λa h=>bpQ c (B true) a λa=>cnd a (q (I 4) h) (q (I 0) h)
theorem K0(h:o8 (CX Y) t0 (out v)):CP Y F.o8 [t0] v:=CPo 0 .o Tryz.func108 h
def pX(C:CC)(a c:V)(q:kQ):Prop:=let h:Hp:=[]
 clQ C h F.bX [a,c] q
theorem KZ(h:pX (CX Y) t0 t1 (out v)):CP Y F.pX [t0,t1] v:=CPo 0 .o Tryz.func83 h
def rK(C:CC)(a c:V)(q:kQ):Prop:=let h:Hp:=[]
 clQ C h F.nu [a,c] λd h=>nzQ d (q (.tup [I 0,d]) h) (clQ C h F.jL [a,c] λa h=>clQ C h F.fl [a] λa h=>q (.tup [a,I 0]) h)
theorem KR(h:rK (CX Y) t0 t1 (out v)):CP Y F.rK [t0,t1] v:=CPo 0 .o Tryz.func60 h
def rX(C:CC)(a c:V)(q:kQ):Prop:=let h:Hp:=[]
 clQ C h F.rK [a,c] λd h=>e2Q d λd e=>nzQ e (q (.tup [nSQ,e]) h) (blQ a λa=>dv 1 [nPQ] [(0,c)] h λc h=>bnd (unV .neg d) λe=>bnd (mxI true [d,e]) λe=>bnd (mxI true [d,I 0]) λd=>bIQ .mul (I 2) d λd=>bIQ .sub d (I 1) λd=>bIQ .mul e d λd=>clQ C h F.jM [d] λd h=>dv 1 [.str [],.str []] [(0,d)] h λd h=>clQ C h F.oC [a,c,d] λa h=>q (.tup [a,I 0]) h)
theorem Np(h:rX (CX Y) t0 t1 (out v)):CP Y F.rX [t0,t1] v:=CPo 0 .o Tryz.func30 h
def nU(C:CC)(a c d:V)(q:kQ):Prop:=let h:Hp:=[]
 blQ a λe=>dv 2 [nPQ] [(0,c),(1,d)] h λc h=>clQ C h F.jM [I 1] λd h=>clQ C h F.jM [I (-1)] λf h=>dv 2 [.str [],.str []] [(0,d),(1,f)] h λd h=>clQ C h F.oC [e,c,d] λc h=>clQ C h F.jL [a,c] λa h=>clQ C h F.fl [a] q
theorem Et(h:nU (CX Y) t0 t1 t2 (out v)):CP Y F.nU [t0,t1,t2] v:=CPo 0 .o Tryz.func71 h
def bP(C:CC)(a c d:V)(q:kQ):Prop:=let h:Hp:=[]
 dv 2 [nPQ] [(0,c),(1,d)] h λe h=>clQ C h F.iV [a,e] λe h=>nzQ e (q (.tup [I 0,e]) h) (clQ C h F.nU [a,c,d] λa h=>q (.tup [a,I 0]) h)
theorem Eu(h:bP (CX Y) t0 t1 t2 (out v)):CP Y F.bP [t0,t1,t2] v:=CPo 0 .o Tryz.func39 h
def eH(C:CC)(a:V)(q:kQ):Prop:=let h:Hp:=[]
 dv 3 [.int .i64 0] [(0,(I 2)),(1,(I 3)),(2,(I 5))] h λc h=>dv 4 [.int .i64 0] [(0,(I 2)),(1,(I 3)),(2,(I 5)),(3,(I 7))] h λd h=>dv 2 [.int .i64 0] [(0,(I 2)),(1,(I 3))] h λe h=>dv 3 [.int .i64 0] [(0,(I 2)),(1,(I 3)),(2,(I 7))] h λf h=>dv 3 [.int .i64 0] [(0,(I 2)),(1,(I 5)),(2,(I 7))] h λg h=>dv 3 [.int .i64 0] [(0,(I 3)),(1,(I 5)),(2,(I 7))] h λi h=>dv 4 [.int .i64 0] [(0,(I 2)),(1,(I 3)),(2,(I 5)),(3,(I 11))] h λj h=>dv 1 [.int .i64 0] [(0,(I 2))] h λk h=>dv 4 [.int .i64 0] [(0,(I 2)),(1,(I 3)),(2,(I 7)),(3,(I 13))] h λl h=>dv 4 [.int .i64 0] [(0,(I 3)),(1,(I 5)),(2,(I 7)),(3,(I 13))] h λm h=>dv 10 [nPQ] [(0,c),(1,d),(2,e),(3,f),(4,g),(5,i),(6,j),(7,k),(8,l),(9,m)] h λc h=>bnd (cvI .i64 a) λa=>blQ c λd=>bIQ .rem a d λa=>bxQ h 1 c a λa=>b1Q h a λa=>q a h
def mI:Ann:=.o
theorem vB(C:CC)(t0:V)(q:kkQ):fnD Y C Tryz.f48 0 mI [t0] q=eH C t0 q:=by kernel_rfl
theorem vy:okB Tryz.prog Tryz.f48 mI=true:=aR
theorem vA(h:eH (CX Y) t0 (out v)):CP Y F.eH [t0] v:=
 CP.of (fn:=Tryz.f48) (m:=0) (a:=mI) rfl (λ_=>rfl) Tryz.func48 vy (by rw[vB];exact h)
def gJ(C:CC)(a c:V):aM:=λl h q=>blQ a λa=>bIQ .lss (ge l 1) a λa=>gqQ a true h (ge l 1) λd h=>gbQ a true h (biI .lss d (I 4)) λd h=>bpQ a d (B false) λa=>cnd a (bnd (ixP 4 1 c (ge l 1)) λa=>b1Q h a λa=>bnd (cvI .i64 a) λa=>bIQ .rem a (I 10) λa=>a1Q 1 (ge l 0) a h λa h=>bIQ .add (ge l 1) (I 1) λc=>q .normal [a,c] h) (q (.exit 0) [ge l 0] h)
def cn(C:CC)(a c:V)(q:kQ):Prop:=let h:Hp:=.replicate 2 nnQ
 d6 0 c h λc h=>lp (gJ C a c) [] h [nSQ,I 0] h (exK [((.exit 0),λa h=>q (ge a 0) h)])
theorem tX(h:cn (CX Y) t0 t1 (out v)):CP Y F.cn [t0,t1] v:=CPo 2 (nBQ (nRQ [.slot 0]) (aK (nCQ (aK (nCQ (.n (.l [5,6] [0,3] [((.exit 0),[5],[])] []) (aK (nCQ (nCQ (nRQ [.o,.slot 1])))) .o)))))) Tryz.func26 h
def jc(C:CC)(a c:V)(q:kQ):Prop:=let h:Hp:=[]
 clQ C h F.aw [a,c,(.fn F.eG [] [])] q
theorem yg(h:jc (CX Y) t0 t1 (out v)):CP Y F.jc [t0,t1] v:=CPo 0 .o Tryz.func46 h
def eG(C:CC)(a c:V)(q:kQ):Prop:=let h:Hp:=[]
 clQ C h F.bX [a,c] q
theorem vw(h:eG (CX Y) t0 t1 (out v)):CP Y F.eG [t0,t1] v:=CPo 0 .o Tryz.func84 h
def bY(C:CC)(a:V)(q:kQ):Prop:=let h:Hp:=.replicate 4 nnQ
 d6 0 a h λa h=>bfQ 0 a λc=>b1Q h c λc=>clQ C h F.fw [c] λc h=>nzQ c (q c h) (bfQ 0 a λc=>b1Q h c λc=>blQ c λc=>bfQ 1 a λd=>b1Q h d λd=>bnd (bld [(0,1),(1,1)] [.int .i64 0,nPQ] [(0,c),(1,d)]) λc=>alV 1 [.d (.int .i64 0),.d nPQ] h λd h=>stD h 2 d c λ_ h=>bnd (ldA h 2 d) λc=>clQ C h F.iX [c] λc h=>nzQ c (q c h) (bnd (ldA h 2 d) λc=>clQ C h F.gD [c] λc h=>e2Q c λc e=>alV 2 [.d (.int .i64 0),.d nPQ] h λf h=>stD h 2 f c λ_ h=>bIQ .neq e (I 0) λc=>gbQ c false h (ldA h 2 f) λe h=>gbQ c false h (ldA h 2 d) λf h=>gd c false h (λq=>clQ C h F.j9 [e,f] q) λe h=>gbQ c false h (unV .not e) λe h=>bpQ c (B true) e λc=>cnd c (q (I 7) h) (bnd (ldA h 2 d) λc=>clQ C h F.eM [c] λc h=>e2Q c λc d=>alV 3 [.d (.int .i64 0),.d nPQ] h λe h=>stD h 2 e c λ_ h=>bIQ .neq d (I 0) λc=>gbQ c false h (faV 1 e) λd h=>gbQ c false h (ld1 h d) λd h=>gbQ c false h (faV 2 a) λa h=>gbQ c false h (ld1 h a) λa h=>gd c false h (λq=>clQ C h F.jc [d,a] q) λa h=>gbQ c false h (unV .not a) λa h=>bpQ c (B true) a λa=>cnd a (q (I 14) h) (q (I 0) h))))
theorem xE(h:bY (CX Y) t0 (out v)):CP Y F.bY [t0] v:=CPo 4 (nBQ (nRQ [.slot 0]) (aK (nBQ (nRQ [.slot 1]) (aK (nBQ (nRQ [.o,.slot 2]) (aK (nCQ (nRQ [.o,.slot 3])))))))) Tryz.func17 h
def jJ(C:CC)(a c d:V):aM:=λl h q=>cIQ .lss (ge l 0) d (bxQ h 1 c (ge l 0) λc=>b1Q h c λc=>clQ C h F.o8 [c] λd h=>nzQ d (q .ret [d] h) (blQ c λc=>bfQ 0 a λa=>b1Q h a λa=>blQ a λa=>cIQ .neq c a (q .ret [I 5] h) (bIQ .add (ge l 0) (I 1) λa=>q .normal [a] h))) (q (.exit 0) [] h)
def fH(C:CC)(a c:V)(q:kQ):Prop:=let h:Hp:=.replicate 1 nnQ
 d6 0 a h λa h=>bnd (ldA h 3 a) λd=>clQ C h F.bY [d] λd h=>nzQ d (q d h) (blQ c λd=>lp (jJ C a c d) [] h [I 0] h (exK [((.exit 0),λa h=>q (I 0) h),(.ret,λa h=>q (ge a 0) h)]))
theorem xD(h:fH (CX Y) t0 t1 (out v)):CP Y F.fH [t0,t1] v:=CPo 1 (nBQ (nRQ [.slot 0]) (aK (nCQ (aK (nCQ (.n (.l [16] [2,14,15] [((.exit 0),[],[]),(.ret,[4],[])] []) .o .o)))))) Tryz.func72 h
def ju(C:CC)(a c d:V):aM:=λl h q=>cIQ .lss (ge l 1) d (bxQ h 1 c (ge l 1) λc=>b1Q h c λc=>clQ C h F.eD [c] λc h=>bxQ h 1 a (ge l 1) λa=>b1Q h a λa=>clQ C h F.eD [a] λa h=>clQ C h F.cE [c,a] λa h=>clQ C h F.kG [ge l 0,a] λa h=>bIQ .add (ge l 1) (I 1) λc=>q .normal [a,c] h) (q (.exit 2) [ge l 0] h)
def jv(C:CC)(a c d:V):aM:=λl h q=>cIQ .lss (ge l 1) d (bxQ h 1 c (ge l 1) λc=>b1Q h c λc=>blQ a λd=>lp (ju C c a d) [] h [(.d (.str [48])),I 0] h (exK [((.exit 2),λa h=>dv 1 [.str []] [(0,(ge a 0))] h λa h=>apV false 1 1 16 (ge l 0) a h λa h=>bIQ .add (ge l 1) (I 1) λc=>q .normal [a,c] h)])) (q (.exit 0) [ge l 0] h)
def fq(C:CC)(a c:V)(q:kQ):Prop:=let h:Hp:=.replicate 2 nnQ
 d6 0 a h λa h=>bfQ 2 a λa=>b1Q h a λa=>blQ a λd=>lp (jv C c a d) [] h [nSQ,I 0] h (exK [((.exit 0),λa h=>q (ge a 0) h)])
theorem we(h:fq (CX Y) t0 t1 (out v)):CP Y F.fq [t0,t1] v:=CPo 2 (nBQ (nRQ [.slot 0]) (aK (nCQ (aK (nCQ (.n (.l [5,14] [1,12,13] [((.exit 0),[5],[])] []) (eX (nCQ (nCQ (eX (nBQ (aK (nCQ (.n (.l [8,20] [1,5,7,12,13,14,18,19] [((.exit 2),[8],[1,5,12,13,14])] []) .o .o))) (nRQ [.o,.slot 1])))))) .o)))))) Tryz.func74 h
def jw(C:CC)(a c:V):aM:=λl h q=>cIQ .lss (ge l 1) c (bxQ h 1 a (ge l 1) λa=>b1Q h a λa=>clQ C h F.ly [a] λa h=>e2Q a λa c=>bnd (unV .not c) λc=>gqQ c false h a λd h=>gbQ c false h (biI .gtr d (I 1000000000)) λd h=>bpQ c (B true) d λc=>gqQ c false h a λd h=>gbQ c false h (biI .lss d (I (-1000000000))) λd h=>bpQ c (B true) d λc=>cnd c (q .ret [nSQ,I 4] h) (a1Q 1 (ge l 0) a h λa h=>bIQ .add (ge l 1) (I 1) λc=>q .normal [a,c] h)) (q (.exit 0) [ge l 0] h)
def gv(C:CC)(a c:V)(q:kQ):Prop:=let h:Hp:=.replicate 2 nnQ
 d6 0 a h λa h=>bnd (ldA h 3 a) λd=>dv 1 [nPQ] [(0,c)] h λe h=>clQ C h F.fH [d,e] λd h=>nzQ d (q (.tup [nSQ,d]) h) (bnd (ldA h 3 a) λa=>clQ C h F.fq [a,c] λa h=>blQ a λc=>lp (jw C a c) [] h [nSQ,I 0] h (exK [((.exit 0),λa h=>q (.tup [ge a 0,I 0]) h),(.ret,λa h=>q (.tup [ge a 0,ge a 1]) h)]))
theorem wg(h:gv (CX Y) t0 t1 (out v)):CP Y F.gv [t0,t1] v:=CPo 2 (nBQ (nRQ [.slot 0]) (eX (nCQ (aK (nCQ (.n (.l [7,23] [21,22] [((.exit 0),[7],[]),(.ret,[4,5],[])] []) (eX (nCQ (nCQ (yB (nRQ [.o,.slot 1]))))) .o)))))) Tryz.func94 h
def oe(C:CC)(a:V)(q:kQ):Prop:=let h:Hp:=.replicate 2 nnQ
 d6 0 a h λa h=>alV 1 [.d (.str []),.d (.str [])] h λc h=>bfQ 0 a λd=>b1Q h d λd=>clQ C h F.mg [d] λd h=>bfQ 1 a λa=>b1Q h a λa=>bnd (bld [(0,1),(1,1)] [.str [],.str []] [(0,d),(1,a)]) λa=>stD h 2 c a λ_ h=>bnd (ldA h 2 c) λa=>q a h
theorem FB(h:oe (CX Y) t0 (out v)):CP Y F.oe [t0] v:=CPo 2 (nCQ (nRQ [.slot 0,.slot 1])) Tryz.func97 h
def oc(C:CC)(a c:V)(q:kQ):Prop:=let h:Hp:=.replicate 3 nnQ
 d6 0 a h λa h=>d6 1 c h λc h=>alV 2 [.d (.str []),.d (.str [])] h λd h=>bnd (ldA h 2 a) λa=>bnd (ldA h 2 c) λc=>clQ C h F.oe [c] λc h=>clQ C h F.fp [a,c] λa h=>stD h 2 d a λ_ h=>bnd (ldA h 2 d) λa=>q a h
theorem Fz(h:oc (CX Y) t0 t1 (out v)):CP Y F.oc [t0,t1] v:=CPo 3 (nCQ (nRQ [.slot 0,.slot 1,.slot 2])) Tryz.func58 h
def fK(C:CC)(a c:V)(q:kQ):Prop:=let h:Hp:=.replicate 2 nnQ
 alV 0 [.d (.str []),.d (.str [])] h λd h=>clQ C h F.ja [a,c] λa h=>e2Q a λa c=>alV 1 [.d (.str []),.d (.str [])] h λc h=>stD h 2 c a λ_ h=>bnd (ldA h 2 c) λa=>stD h 2 d a λ_ h=>bnd (ldA h 2 d) λa=>q a h
theorem xL(h:fK (CX Y) t0 t1 (out v)):CP Y F.fK [t0,t1] v:=CPo 2 (nBQ (nRQ [.slot 0]) (nCQ (nRQ [.o,.slot 1]))) Tryz.func51 h
def cL(C:CC)(a:V)(q:kQ):Prop:=let h:Hp:=.replicate 2 nnQ
 d6 0 a h λa h=>alV 1 [.d (.str []),.d (.str [])] h λc h=>bfQ 0 a λd=>b1Q h d λd=>bIQ .rem d (.d (.int .i8 41)) λd=>bnd (cvI .i64 d) λd=>dv 6 [.int .i64 0] [(0,(I 1)),(1,(I 2)),(2,(I 3)),(3,(I 4)),(4,(I 6)),(5,(I 12))] h λe h=>bfQ 1 a λa=>b1Q h a λa=>bIQ .rem a (.d (.int .u8 6)) λa=>bxQ h 1 e a λa=>b1Q h a λa=>clQ C h F.fK [d,a] λa h=>stD h 2 c a λ_ h=>bnd (ldA h 2 c) λa=>q a h
theorem tW(h:cL (CX Y) t0 (out v)):CP Y F.cL [t0] v:=CPo 2 (nCQ (nRQ [.slot 0,.slot 1])) Tryz.func24 h
def jP(C:CC)(a c:V):aM:=λl h q=>blQ a λa=>cIQ .lss (ge l 1) a (bIQ .rem (ge l 1) (I 4) λa=>bnd (ixP 4 2 c a) λa=>bnd (ldA h 2 a) λa=>clQ C h F.cL [a] λa h=>dv 1 [.str [],.str []] [(0,a)] h λa h=>apV false 2 2 32 (ge l 0) a h λa h=>bIQ .add (ge l 1) (I 1) λc=>q .normal [a,c] h) (q (.exit 0) [ge l 0] h)
def ig(C:CC)(a c:V)(q:kQ):Prop:=let h:Hp:=.replicate 3 nnQ
 d6 0 c h λc h=>wI 1 0 [.str [],.str []] [] h λd h=>lp (jP C a c) [] h [d,I 0] h (exK [((.exit 0),λa h=>q (ge a 0) h)])
theorem xM(h:ig (CX Y) t0 t1 (out v)):CP Y F.ig [t0,t1] v:=CPo 3 (nBQ (nRQ [.slot 0]) (nBQ (nRQ [.slot 1]) (nCQ (aK (nCQ (.n (.l [5,6] [0,3] [((.exit 0),[5],[])] []) (aK (nCQ (nCQ (nRQ [.o,.o,.slot 2])))) .o)))))) Tryz.func22 h
def og(C:CC)(a:V)(q:kQ):Prop:=let h:Hp:=.replicate 2 nnQ
 d6 0 a h λa h=>alV 1 [.d (.str []),.d (.str [])] h λc h=>bfQ 0 a λd=>b1Q h d λd=>clQ C h F.eS [d] λd h=>bfQ 1 a λa=>b1Q h a λa=>bnd (bld [(0,1),(1,1)] [.str [],.str []] [(0,d),(1,a)]) λa=>stD h 2 c a λ_ h=>bnd (ldA h 2 c) λa=>q a h
theorem FG(h:og (CX Y) t0 (out v)):CP Y F.og [t0] v:=CPo 2 (nCQ (nRQ [.slot 0,.slot 1])) Tryz.func23 h
def fJ(C:CC)(a:V)(q:kQ):Prop:=let h:Hp:=.replicate 1 nnQ
 d6 0 a h λa h=>bfQ 1 a λa=>b1Q h a λa=>blQ a λa=>bIQ .leq a (I 3) λa=>q a h
theorem xK(h:fJ (CX Y) t0 (out v)):CP Y F.fJ [t0] v:=CPo 1 (nCQ (nRQ [.slot 0])) Tryz.func20 h
def gB(C:CC)(a c d:V)(q:kQ):Prop:=let h:Hp:=.replicate 4 nnQ
 alV 0 [.d nPQ,.d nPQ,.d nPQ] h λe h=>clQ C h F.fw [a] λf h=>nzQ f (bnd (bld [(0,1),(1,1),(2,1)] [nPQ,nPQ,nPQ] []) λa=>stD h 3 e a λ_ h=>bnd (ldA h 3 e) λa=>q (.tup [a,f]) h) (blQ a λf=>clQ C h F.qc [f,c] λc h=>e2Q c λc f=>alV 1 [.d (.int .i64 0),.d nPQ] h λg h=>stD h 2 g c λ_ h=>nzQ f (bnd (bld [(0,1),(1,1),(2,1)] [nPQ,nPQ,nPQ] []) λa=>stD h 3 e a λ_ h=>bnd (ldA h 3 e) λa=>q (.tup [a,f]) h) (bnd (ldA h 2 g) λc=>clQ C h F.gD [c] λc h=>e2Q c λc f=>alV 2 [.d (.int .i64 0),.d nPQ] h λi h=>stD h 2 i c λ_ h=>bnd (ldA h 2 g) λc=>clQ C h F.eM [c] λc h=>e2Q c λc g=>alV 3 [.d (.int .i64 0),.d nPQ] h λj h=>stD h 2 j c λ_ h=>bIQ .neq f (I 0) λc=>gqQ c false h g λf h=>gbQ c false h (biI .neq f (I 0)) λf h=>bpQ c (B true) f λc=>cnd c (bnd (bld [(0,1),(1,1),(2,1)] [nPQ,nPQ,nPQ] []) λa=>stD h 3 e a λ_ h=>bnd (ldA h 3 e) λa=>q (.tup [a,I 4]) h) (jn (λc h=>bfQ 1 i λc=>b1Q h c λc=>bfQ 1 j λd=>b1Q h d λd=>bnd (bld [(0,1),(1,1),(2,1)] [nPQ,nPQ,nPQ] [(0,a),(1,c),(2,d)]) λa=>stD h 3 e a λ_ h=>bnd (ldA h 3 e) λa=>q (.tup [a,I 0]) h) λa=>cnd d (bnd (ldA h 2 j) λc=>bnd (ldA h 2 i) λd=>stD h 2 i c λ_ h=>stD h 2 j d λ_ h=>a [] h) (a [] h))))
theorem wz(h:gB (CX Y) t0 t1 t2 (out v)):CP Y F.gB [t0,t1,t2] v:=CPo 4 (nBQ (nRQ [.slot 0]) (aK (nBQ (nRQ [.o,.slot 1]) (aK (nBQ (nRQ [.o,.slot 2]) (nBQ (nRQ [.o,.slot 3]) (aK (nCQ (aK (nJQ [] [0,6,11,12])))))))))) Tryz.func49 h
def jO(C:CC)(a c:V):aM:=λl h q=>bfQ 1 a λd=>b1Q h d λd=>blQ d λd=>bIQ .lss (ge l 1) d λd=>gqQ d true h (ge l 1) λe h=>gbQ d true h (biI .lss e (I 3)) λe h=>bpQ d e (B false) λd=>cnd d (bfQ 1 a λa=>b1Q h a λa=>bxQ h 4 a (ge l 1) λa=>bnd (ldA h 4 a) λa=>clQ C h F.cn [c,a] λa h=>dv 1 [nPQ] [(0,a)] h λa h=>apV false 2 1 24 (ge l 0) a h λa h=>bIQ .add (ge l 1) (I 1) λc=>q .normal [a,c] h) (q (.exit 0) [ge l 0] h)
def dL(C:CC)(a:V)(q:kQ):Prop:=let h:Hp:=.replicate 4 nnQ
 d6 0 a h λa h=>alV 1 [.d nPQ,.d nPQ,.d nPQ] h λc h=>bfQ 0 a λd=>b1Q h d λd=>clQ C h F.eH [d] λd h=>lp (jO C a d) [] h [nSQ,I 0] h (exK [((.exit 0),λe h=>bfQ 2 a λa=>b1Q h a λa=>clQ C h F.gB [d,ge e 0,a] λa h=>e2Q a λa d=>alV 3 [.d nPQ,.d nPQ,.d nPQ] h λd h=>stD h 3 d a λ_ h=>bnd (ldA h 3 d) λa=>stD h 3 c a λ_ h=>bnd (ldA h 3 c) λa=>q a h)])
theorem xJ(h:dL (CX Y) t0 (out v)):CP Y F.dL [t0] v:=CPo 4 (nBQ (nRQ [.slot 0,.slot 1]) (eX (nBQ (aK (nCQ (.n (.l [4,5] [1,2,3] [((.exit 0),[4],[1,2,3])] []) (aK (nCQ (nCQ (nRQ [.o,.o,.slot 2])))) .o))) (nCQ (nRQ [.o,.slot 3]))))) Tryz.func21 h
def ie(C:CC)(a:V)(q:kQ):Prop:=let h:Hp:=.replicate 1 nnQ
 d6 0 a h λa h=>bfQ 0 a λa=>bnd (ldA h 3 a) λa=>clQ C h F.fJ [a] q
theorem xI(h:ie (CX Y) t0 (out v)):CP Y F.ie [t0] v:=CPo 1 (nCQ (nRQ [.slot 0])) Tryz.func5 h
def jN(C:CC)(a c d:V):aM:=λl h q=>bfQ 2 c λe=>b1Q h e λe=>blQ e λe=>cIQ .lss (ge l 0) e (bfQ 3 d λe=>b1Q h e λe=>bfQ 0 c λc=>b1Q h c λc=>bIQ .rem (ge l 0) (I 4) λf=>bfQ 3 a λa=>bnd (ixP 4 8 a f) λa=>bnd (ldA h 8 a) λa=>clQ C h F.ig [c,a] λa h=>dv 1 [nPQ] [(0,a)] h λa h=>apV false 4 1 24 e a h λa h=>bfQ 3 d λc=>stD h 1 c a λ_ h=>bIQ .add (ge l 0) (I 1) λa=>q .normal [a] h) (q (.exit 0) [] h)
def ic(C:CC)(a:V)(q:kQ):Prop:=let h:Hp:=.replicate 5 nnQ
 d6 0 a h λa h=>alV 1 [.d nPQ,.d nPQ,.d nPQ,.d nPQ] h λc h=>bfQ 0 a λd=>bnd (ldA h 3 d) λd=>clQ C h F.dL [d] λd h=>alV 2 [.d nPQ,.d nPQ,.d nPQ] h λe h=>stD h 3 e d λ_ h=>bnd (ldA h 3 e) λd=>bnd (bld [(0,3),(3,1)] [nPQ,nPQ,nPQ,nPQ] [(0,d)]) λd=>alV 3 [.d nPQ,.d nPQ,.d nPQ,.d nPQ] h λf h=>stD h 4 f d λ_ h=>lp (jN C a e f) [] h [I 0] h (exK [((.exit 0),λa h=>bnd (ldA h 4 f) λa=>stD h 4 c a λ_ h=>bnd (ldA h 4 c) λa=>q a h)])
theorem xH(h:ic (CX Y) t0 (out v)):CP Y F.ic [t0] v:=CPo 5 (nBQ (nRQ [.slot 0,.slot 1]) (nBQ (nRQ [.o,.slot 2]) (nBQ (nRQ [.slot 3]) (nCQ (aK (nCQ (.n (.l [5] [1,2,3,4] [((.exit 0),[],[2,4])] []) (aK (nCQ (nCQ (nRQ [.o,.o,.slot 4])))) .o))))))) Tryz.func6 h
def cQ(C:CC)(a c d:V)(q:kQ):Prop:=let h:Hp:=.replicate 8 nnQ
 d6 0 a h λa h=>d6 1 c h λc h=>clQ C h F.dT [] λe h=>bnd (unV .not e) λe=>gbQ e false h (ldA h 35 a) λf h=>gd e false h (λq=>clQ C h F.ie [f] q) λf h=>gbQ e false h (unV .not f) λf h=>bpQ e (B true) f λe=>cnd e (clQ C h F.dT [] q) (bnd (ldA h 35 a) λa=>clQ C h F.ic [a] λa h=>alV 2 [.d nPQ,.d nPQ,.d nPQ,.d nPQ] h λe h=>stD h 4 e a λ_ h=>bfQ 0 e λa=>bfQ 0 a λa=>b1Q h a λa=>bnd (ldA h 6 c) λc=>clQ C h F.ib [a,c] λa h=>alV 3 [.d nPQ,.d (.str []),.d (.str [])] h λc h=>stD h 3 c a λ_ h=>bfQ 3 e λa=>b1Q h a λa=>blQ a λa=>bIQ .gtr a (I 0) λa=>gqQ a true h d λd h=>gbQ a true h (biI .rem d (.d (.int .i8 2))) λd h=>gbQ a true h (biI .eql d (.d (.int .i8 0))) λd h=>bpQ a d (B false) λa=>jn (λa h=>bnd (ldA h 4 e) λa=>clQ C h F.fk [a] λa h=>cIQ .eql a (I 0) (q (B false) h) (bnd (ldA h 3 c) λd=>dv 1 [nPQ,.str [],.str []] [(0,d)] h λd h=>bnd (ldA h 4 e) λf=>bnd (ldA h 3 c) λc=>clQ C h F.mE [f,c] λc h=>e2Q c λc f=>bnd (ldA h 4 e) λg=>clQ C h F.iG [g,d] λg h=>e2Q g λg i=>bnd (ldA h 4 e) λj=>clQ C h F.d7 [j,d] λj h=>e3Q j λj k l=>bnd (ldA h 4 e) λm=>clQ C h F.ql [m,d] λm h=>e2Q m λm n=>bnd (ldA h 4 e) λo=>clQ C h F.oj [o,d] λo h=>e2Q o λo p=>bnd (ldA h 4 e) λr=>clQ C h F.jb [r,d] λr h=>e2Q r λr s=>bnd (ldA h 4 e) λt=>bnd (ldA h 4 e) λu=>clQ C h F.kY [t,u,d] λt h=>e2Q t λt u=>blQ c λc=>blQ g λg=>bIQ .add c g λc=>blQ j λg=>bIQ .add c g λc=>blQ k λg=>bIQ .add c g λc=>blQ m λg=>bIQ .add c g λc=>blQ o λg=>bIQ .add c g λc=>blQ r λg=>bIQ .add c g λc=>bIQ .gtr c (I 0) λc=>gqQ c false h t λg h=>gbQ c false h (biI .neq g (I 0)) λg h=>bpQ c (B true) g λc=>gqQ c false h f λf h=>gqQ c false h a λg h=>gbQ c false h (biI .neq f g) λf h=>bpQ c (B true) f λc=>gqQ c false h i λf h=>gqQ c false h a λg h=>gbQ c false h (biI .neq f g) λf h=>bpQ c (B true) f λc=>gqQ c false h l λf h=>gqQ c false h a λg h=>gbQ c false h (biI .neq f g) λf h=>bpQ c (B true) f λc=>gqQ c false h n λf h=>gqQ c false h a λg h=>gbQ c false h (biI .neq f g) λf h=>bpQ c (B true) f λc=>gqQ c false h p λf h=>gqQ c false h a λg h=>gbQ c false h (biI .neq f g) λf h=>bpQ c (B true) f λc=>gqQ c false h s λf h=>gqQ c false h a λg h=>gbQ c false h (biI .neq f g) λf h=>bpQ c (B true) f λc=>gqQ c false h u λf h=>gqQ c false h a λa h=>gbQ c false h (biI .neq f a) λa h=>bpQ c (B true) a λa=>cnd a (q (B false) h) (bfQ 0 e λa=>bnd (ldA h 3 a) λa=>clQ C h F.jZ [a,d] λa h=>e2Q a λa c=>bfQ 0 e λd=>bnd (ldA h 3 d) λd=>clQ C h F.bY [d] λd h=>bIQ .eql d (I 0) λe=>gqQ e false h a λa h=>gbQ e false h (aX a) λa h=>gbQ e false h (biI .eql a (I 0)) λa h=>gqQ e false h a λa h=>gqQ a true h c λc h=>gqQ a true h d λd h=>gbQ a true h (biI .eql c d) λc h=>gbQ e false h (o9 a c (B false)) λa h=>bpQ e (B true) a λa=>q a h))) λc=>cnd a (bfQ 3 e λa=>b1Q h a λa=>bnd (slV h 1 a (some (I 1)) none) λa=>bfQ 3 e λd=>stD h 1 d a λ_ h=>c [] h) (wI 4 0 [nPQ] [] h λa h=>bfQ 0 e λd=>bfQ 2 d λd=>b1Q h d λd=>apV false 5 1 24 a d h λa h=>bfQ 0 e λd=>bfQ 2 d λd=>stD h 1 d a λ_ h=>bfQ 0 e λa=>bfQ 2 a λa=>b1Q h a λa=>bfQ 0 e λd=>bfQ 0 d λd=>b1Q h d λd=>blQ d λd=>mkS 6 8 [.int .i64 0] h d d λd h=>dv 1 [nPQ] [(0,d)] h λd h=>apV false 7 1 24 a d h λa h=>bfQ 0 e λd=>bfQ 2 d λd=>stD h 1 d a λ_ h=>c [] h))
def iD:Ann:=(nBQ (nRQ [.slot 0,.slot 1]) (aK (nBQ (nRQ [.o,.slot 2]) (nBQ (nRQ [.o,.slot 3]) (nCQ (aK (.n (.j [] [7,8]) .o (nBQ (nRQ [.slot 4,.slot 5]) (nRQ [.slot 6,.o,.slot 7])))))))))
attribute [local irreducible] bnd gd cal cnd ext dv wI stD alV alD d6 jn lp exK mkS apV cai Bj in
theorem qP(C:CC)(t0:V)(t1:V)(t2:V)(q:kkQ):fnD Y C Tryz.f3 8 iD [t0,t1,t2] q=cQ C t0 t1 t2 q:=OR
theorem qN:okB Tryz.prog Tryz.f3 iD=true:=aR
theorem qO(h:cQ (CX Y) t0 t1 t2 (out v)):CP Y F.cQ [t0,t1,t2] v:=
 CP.of (fn:=Tryz.f3) (m:=8) (a:=iD) rfl (λ_=>rfl) Tryz.func3 qN (by rw[qP];exact h)
end Go.Vm
