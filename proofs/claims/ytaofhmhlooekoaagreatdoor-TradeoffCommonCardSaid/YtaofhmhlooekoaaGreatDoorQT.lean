/- Lemmas. -/
import Derived.Test.YtaofhmhlooekoaaGreatDoorQVmC
set_option linter.unusedVariables false
set_option linter.unusedSimpArgs false
set_option maxRecDepth 100000
set_option maxHeartbeats 4000000
namespace Go.Vm
open Go Go.Am Go.Proofs
variable{v t0 t1 t2 t3:V}{h h2:Hp}
theorem CPo{f:FuncId}{fn:Func}(m:Nat)(a:Ann){ds:LwQ}(h3:Y.X.P.funcs[f]?=some fn)(h5:fnD Y (CX Y) fn m a ds (out v))(h1:Y.X.allow f=true:=by rfl)(h2:∀u,Y.X.orc f u=none:=by exact fun _=>rfl)(h4:okB Y.X.P fn a=true:=by decide+kernel):CP Y f ds v:=CP.of h1 h2 h3 h4 h5
abbrev nBQ(a b:Ann):Ann:=.n .x a b
abbrev nCQ(a:Ann):Ann:=.n .x a .o
abbrev nRQ(l:List Act):Ann:=.n (.r l) .o .o
abbrev nJQ(a b:LnQ):Ann:=.n (.j a b) .o .o
abbrev aF(a:Ann):Ann:=.n .x .o a
abbrev dV(a:Ann):Ann:=aF (aF a)
abbrev zD(a:Ann):Ann:=dV (aF a)
abbrev L8(a:Ann):Ann:=zD (aF a)
abbrev abg(a:Ann):Ann:=L8 (aF a)
abbrev ady(a:Ann):Ann:=abg (aF a)
abbrev agd(a:Ann):Ann:=ady (aF a)
theorem ZX{p:Prop}(h:p:=by repeat' (first|(refine aay rfl fun _=>?_)|(refine ad2 rfl fun _ _=>?_)|(refine aat rfl fun _ _=>?_)|(refine aas rfl ?_ ?_)|(refine aam rfl fun _=>?_)|(refine TF rfl fun _ _=>?_)|(refine ZY rfl fun _ _=>?_)|(refine aaD rfl fun _ _=>?_)|(refine U3 rfl fun _ _=>?_)|(refine adS rfl (fun _ _=>?_) fun _=>?_)|(refine adB rfl (fun _ _ _=>?_) fun _ _ _=>?_)|(refine aap rfl (fun _ _=>?_) ?_)|(refine aaf rfl fun _ _=>?_)|(refine aaC rfl fun _ _=>?_)|(refine aau rfl fun _ _=>?_)|(refine aez rfl fun _ _=>?_)|(refine TD rfl fun _ _=>?_)|(refine aaE rfl fun _ _=>?_)|(refine S7 rfl fun _=>?_)|exact rfl|(refine TM rfl ?_))):p:=h
theorem Re{p:Prop}(h:p:=by repeat' (first|(refine aay rfl fun _=>?_)|(refine ad2 rfl fun _ _=>?_)|(refine aat rfl fun _ _=>?_)|(refine aas rfl ?_ ?_)|(refine aam rfl fun _=>?_)|(refine TF rfl fun _ _=>?_)|(refine ZY rfl fun _ _=>?_)|(refine aaD rfl fun _ _=>?_)|(refine U3 rfl fun _ _=>?_)|(refine adS rfl (fun _ _=>?_) fun _=>?_)|(refine adB rfl (fun _ _ _=>?_) fun _ _ _=>?_)|(refine aap rfl (fun _ _=>?_) ?_)|(refine aaf rfl fun _ _=>?_)|(refine aaC rfl fun _ _=>?_)|(refine aau rfl fun _ _=>?_)|(refine TD rfl fun _ _=>?_)|(refine aaE rfl fun _ _=>?_)|(refine S7 rfl fun _=>?_)|exact rfl|(refine TM rfl ?_))):p:=h
abbrev kQ:=kkQ
abbrev clQ(C:CC)(h:Hp)(f:FuncId)(a:LwQ)(k:kQ):Prop:=cal C.p h (.fn f [] []) a k
abbrev ciQ(C:CC)(h:Hp)(f:FuncId)(a:LwQ)(s:Nat)(k:kQ):Prop:=cai C.i h (.fn f [] []) a s k
abbrev bIQ(o:BinOp)(x y:V)(k:V->Prop):Prop:=bnd (biI o x y) k
abbrev bSQ(o:BinOp)(x y:V)(k:V->Prop):Prop:=bnd (biS o x y) k
abbrev b1Q(h:Hp)(x:V)(k:V->Prop):Prop:=bnd (ld1 h x) k
abbrev bxQ(h:Hp)(n:Nat)(x y:V)(k:V->Prop):Prop:=bnd (ixV h n x y) k
abbrev blQ(x:V)(k:V->Prop):Prop:=bnd (bf x) k
abbrev bfQ(n:Nat)(x:V)(k:V->Prop):Prop:=bnd (faV n x) k
abbrev bpQ(x y z:V)(k:V->Prop):Prop:=bnd (jD x y z) k
abbrev cIQ(o:BinOp)(x y:V)(A B:Prop):Prop:=bnd (biI o x y) fun c=>cnd c A B
abbrev nzQ(x:V)(A B:Prop):Prop:=bnd (biI .neq x (I 0)) fun c=>cnd c A B
abbrev gbQ(c:V)(w:Bool)(h:Hp)(o:Option V)(k:kQ):Prop:=gd c w h (fun q=>bnd o fun v=>q v h) k
abbrev gqQ(c:V)(w:Bool)(h:Hp)(x:V)(k:kQ):Prop:=gd c w h (fun q=>q x h) k
abbrev e2Q(x:V)(k:V->V->Prop):Prop:=ext x 0 fun a=>ext x 1 fun b=>k a b
abbrev e3Q(x:V)(k:V->V->V->Prop):Prop:=ext x 0 fun a=>ext x 1 fun b=>ext x 2 fun c=>k a b c
abbrev nSQ:V:=.d nPQ
abbrev a1Q(s:Nat)(x y:V)(h:Hp)(k:kQ):Prop:=dD 1 [.int .i64 0] [(0,y)] h fun v h=>apV false s 1 8 x v h k
def bU(C:CC)(a c:V)(q:kQ):Prop:=let h:Hp:=[]
 gqQ a true h c fun d h=>gbQ a true h (biS .neq d (.d (.str [48]))) fun d h=>bpQ a d (B false) fun a=>cnd a (bSQ .add (.d (.str [45])) c fun a=>q a h) (q c h)
theorem xD(h:bU (CX Y) t0 t1 (out v)):CP Y F.bU [t0,t1] v:=CPo 0 .o Tryz.func83 h
def fX(C:CC)(a c:V)(q:kkQ):Prop:=let h:Hp:=List.replicate 6 nnQ
 cal C.p h (.fn F.fF [] []) [a,c] fun d h=>ext d 0 fun e=>ext d 1 fun f=>ext d 2 fun d=>cnd d (bnd (biI .add e f) fun a=>cal C.p h (.fn F.jd [] []) [a] fun a h=>q a h) (cai C.i h (.fn F.cV [] []) [a] 0 fun a h=>cai C.i h (.fn F.cV [] []) [c] 1 fun c h=>bnd (bf a) fun d=>bnd (bf c) fun e=>bnd (biI .lss d e) fun d=>jn (fun a h=>dD 1 [.int .u64 0] [(0,(.d (.int .u64 0)))] h fun c h=>apV false 2 1 8 (ge a 0) c h fun c h=>bnd (bf c) fun d=>bnd (biI .sub d (I 1)) fun d=>bnd (bf (ge a 1)) fun e=>bnd (biI .sub d e) fun d=>apZ false 3 1 8 [.int .u64 0] (ge a 1) d h fun a h=>cai C.i h (.fn F.cI [] []) [c,a,(I 0)] 4 fun a h=>cai C.i h (.fn F.aE [] []) [c] 5 fun a h=>cal C.p h (.fn F.aP [] []) [a] fun a h=>q a h) fun e=>cnd d (e [c,a] h) (e [a,c] h))
def rK:Ann:=(dV (nBQ (nRQ [.inl 0,.inl 1]) (nBQ (aF (nJQ [8,9] [])) (nBQ (nRQ [.o,.slot 2]) (nBQ (nRQ [.slot 3,.inl 4]) (nCQ (nRQ [.inl 5])))))))
attribute [local irreducible] bnd gd cal cnd ext dD tC stD alV alD eT jn lp exK mkS apV apZ cai xi in
theorem Fe(C:CC)(t0:V)(t1:V)(q:kkQ):fnD Y C Tryz.f92 6 rK [t0,t1] q=fX C t0 t1 q:=ZX
theorem Fa:okB Tryz.prog Tryz.f92 rK=true:=aD
theorem Fb(h:fX (CX Y) t0 t1 (out v)):CP Y F.fX [t0,t1] v:=
 CP.of (fn:=Tryz.f92) (m:=6) (a:=rK) rfl (fun _=>rfl) Tryz.func92 Fa (by rw[Fe];exact h)
def cg(C:CC)(a c:V)(q:kQ):Prop:=let h:Hp:=[]
 bnd (nh a) fun d=>bnd (nh c) fun e=>cIQ .neq d e (bnd (nh a) fun a=>bnd (nh c) fun c=>bIQ .sub a c fun a=>bnd (mxI true [I (-1),a]) fun a=>bnd (mxI false [I 1,a]) fun a=>q a h) (bSQ .lss a c fun d=>cnd d (q (I (-1)) h) (bSQ .gtr a c fun a=>cnd a (q (I 1) h) (q (I 0) h)))
theorem yB(h:cg (CX Y) t0 t1 (out v)):CP Y F.cg [t0,t1] v:=CPo 0 .o Tryz.func86 h
def gQ(C:CC)(a c:V)(q:kkQ):Prop:=let h:Hp:=List.replicate 7 nnQ
 cal C.p h (.fn F.cg [] []) [a,c] fun d h=>bnd (biI .lss d (I 0)) fun d=>cnd d (q (.tup [(.d (.str [])),(I 3)]) h) (cal C.p h (.fn F.fF [] []) [a,c] fun d h=>ext d 0 fun e=>ext d 1 fun f=>ext d 2 fun d=>cnd d (bnd (biI .sub e f) fun a=>cal C.p h (.fn F.jd [] []) [a] fun a h=>q (.tup [a,(I 0)]) h) (cai C.i h (.fn F.cV [] []) [a] 0 fun a h=>dD 1 [.int .u64 0] [(0,(.d (.int .u64 0)))] h fun d h=>apV false 1 1 8 a d h fun a h=>cai C.i h (.fn F.cV [] []) [c] 2 fun d h=>bnd (bf a) fun e=>bnd (biI .sub e (I 1)) fun e=>cai C.i h (.fn F.cV [] []) [c] 3 fun c h=>bnd (bf c) fun c=>bnd (biI .sub e c) fun c=>apZ false 4 1 8 [.int .u64 0] d c h fun c h=>cai C.i h (.fn F.dy [] []) [a,c,(.d (.int .u64 1)),(I 0)] 5 fun c h=>cai C.i h (.fn F.aE [] []) [a] 6 fun a h=>cal C.p h (.fn F.aP [] []) [a] fun a h=>q (.tup [a,(I 0)]) h))
def rJ:Ann:=(zD (nBQ (nRQ [.inl 0,.o,.slot 1]) (nBQ (nRQ [.inl 2,.inl 3,.slot 4,.inl 5]) (nCQ (nRQ [.inl 6])))))
attribute [local irreducible] bnd gd cal cnd ext dD tC stD alV alD eT jn lp exK mkS apV apZ cai xi in
theorem E6(C:CC)(t0:V)(t1:V)(q:kkQ):fnD Y C Tryz.f93 7 rJ [t0,t1] q=gQ C t0 t1 q:=ZX
theorem E4:okB Tryz.prog Tryz.f93 rJ=true:=aD
theorem E5(h:gQ (CX Y) t0 t1 (out v)):CP Y F.gQ [t0,t1] v:=
 CP.of (fn:=Tryz.f93) (m:=7) (a:=rJ) rfl (fun _=>rfl) Tryz.func93 E4 (by rw[E6];exact h)
def jL(C:CC)(a c:V)(q:kQ):Prop:=let h:Hp:=.replicate 3 nnQ
 bnd (nh a) fun d=>bnd (nh c) fun e=>bIQ .add d e fun d=>cIQ .leq d (I 18) (clQ C h F.fF [a,c] fun a h=>e3Q a fun a c d=>bIQ .mul a c fun a=>clQ C h F.jd [a] q) (ciQ C h F.cV [a] 0 fun a h=>ciQ C h F.cV [c] 1 fun c h=>ciQ C h F.bA [a,c] 2 fun a h=>clQ C h F.aP [a] q)
theorem E7(h:jL (CX Y) t0 t1 (out v)):CP Y F.jL [t0,t1] v:=CPo 3 (dV (nCQ (nRQ [.inl 0,.inl 1,.inl 2]))) Tryz.func84 h
def cJ(C:CC)(a c:V)(q:kQ):Prop:=let h:Hp:=[]
 clQ C h F.bD [a,I 18] fun d h=>e2Q d fun d e=>jn (fun d h=>clQ C h F.aQ [a] fun a h=>e2Q a fun a d=>clQ C h F.aQ [c] fun c h=>e2Q c fun c e=>bnd (biB .eql a c) fun f=>cnd f (clQ C h F.fX [d,e] fun c h=>clQ C h F.bU [a,c] q) (clQ C h F.cg [d,e] fun f h=>bIQ .lss f (I 0) fun f=>jn (fun a h=>clQ C h F.gQ [ge a 1,ge a 2] fun c h=>e2Q c fun c d=>clQ C h F.bU [ge a 0,c] q) fun g=>cnd f (g [c,e,d] h) (g [a,d,e] h))) fun a=>cnd e (clQ C h F.bD [c,I 18] fun c h=>e2Q c fun c e=>cnd e (bIQ .add d c fun a=>clQ C h F.dF [a] q) (a [] h)) (a [] h)
theorem IC(h:cJ (CX Y) t0 t1 (out v)):CP Y F.cJ [t0,t1] v:=CPo 0 (aF (nBQ (dV (nJQ [] [0,1])) (zD (nCQ (aF (nJQ [9,10,12] [])))))) Tryz.func79 h
def aR(C:CC)(a c:V)(q:kQ):Prop:=let h:Hp:=[]
 clQ C h F.bD [a,I 9] fun d h=>e2Q d fun d e=>jn (fun d h=>clQ C h F.aQ [a] fun a h=>e2Q a fun a d=>clQ C h F.aQ [c] fun c h=>e2Q c fun c e=>bnd (biB .neq a c) fun a=>clQ C h F.jL [d,e] fun c h=>clQ C h F.bU [a,c] q) fun a=>cnd e (clQ C h F.bD [c,I 9] fun c h=>e2Q c fun c e=>cnd e (bIQ .mul d c fun a=>clQ C h F.dF [a] q) (a [] h)) (a [] h)
theorem Iz(h:aR (CX Y) t0 t1 (out v)):CP Y F.aR [t0,t1] v:=CPo 0 (aF (nCQ (dV (nJQ [] [0,1])))) Tryz.func59 h
def t6(C:CC)(a:V)(q:kQ):Prop:=let h:Hp:=[]
 bIQ .geq a (.d (.int .u32 65536)) fun c=>jn (fun a h=>bIQ .geq (ge a 0) (.d (.int .u32 256)) fun c=>jn (fun a h=>bnd (cvI .u8 (ge a 0)) fun c=>bnd (ixS (.d (.str [0,1,2,2,3,3,3,3,4,4,4,4,4,4,4,4,5,5,5,5,5,5,5,5,5,5,5,5,5,5,5,5,6,6,6,6,6,6,6,6,6,6,6,6,6,6,6,6,6,6,6,6,6,6,6,6,6,6,6,6,6,6,6,6,7,7,7,7,7,7,7,7,7,7,7,7,7,7,7,7,7,7,7,7,7,7,7,7,7,7,7,7,7,7,7,7,7,7,7,7,7,7,7,7,7,7,7,7,7,7,7,7,7,7,7,7,7,7,7,7,7,7,7,7,7,7,7,7,8,8,8,8,8,8,8,8,8,8,8,8,8,8,8,8,8,8,8,8,8,8,8,8,8,8,8,8,8,8,8,8,8,8,8,8,8,8,8,8,8,8,8,8,8,8,8,8,8,8,8,8,8,8,8,8,8,8,8,8,8,8,8,8,8,8,8,8,8,8,8,8,8,8,8,8,8,8,8,8,8,8,8,8,8,8,8,8,8,8,8,8,8,8,8,8,8,8,8,8,8,8,8,8,8,8,8,8,8,8,8,8,8,8,8,8,8,8,8,8,8,8,8,8,8,8,8,8])) c) fun c=>bnd (cvI .i64 c) fun c=>bIQ .add (ge a 1) c fun a=>q a h) fun d=>cnd c (bIQ .shr (ge a 0) (.d (.int .u64 8)) fun c=>bIQ .add (ge a 1) (I 8) fun a=>d [c,a] h) (d [ge a 0,ge a 1] h)) fun d=>cnd c (bIQ .shr a (.d (.int .u64 16)) fun a=>d [a,I 16] h) (d [a,I 0] h)
def jQ(C:CC)(a:V)(q:kQ):Prop:=let h:Hp:=[]
 cnd (B false) (bnd (cvI .u32 a) fun a=>clQ C h F.t6 [a] q) (clQ C h F.eO [a] q)
theorem AX(h:jQ (CX Y) t0 (out v)):CP Y F.jQ [t0] v:=CPo 0 .o Tryz.func158 h
def iR(C:CC)(a:V):aS:=fun l h q=>bIQ .mul (ge l 0) (ge l 0) fun c=>cIQ .leq c a (bIQ .rem a (ge l 0) fun a=>cIQ .eql a (I 0) (q .ret [B false] h) (bIQ .add (ge l 0) (I 1) fun a=>q .normal [a] h)) (q (.exit 0) [] h)
def iK(C:CC)(a:V)(q:kQ):Prop:=let h:Hp:=[]
 bIQ .lss a (I 2) fun c=>gqQ c false h a fun d h=>gbQ c false h (biI .gtr d (I 97)) fun d h=>bpQ c (B true) d fun c=>cnd c (q (B false) h) (lp (iR C a) [] h [I 2] h (exK [((.exit 0),fun a h=>q (B true) h),(.ret,fun a h=>q (ge a 0) h)]))
theorem AV(h:iK (CX Y) t0 (out v)):CP Y F.iK [t0] v:=CPo 0 (dV (nCQ (aF (nCQ (.n (.l [3] [0] [((.exit 0),[],[]),(.ret,[2],[])] []) .o .o))))) Tryz.func32 h
def oz(C:CC)(a c d:V):aS:=fun l h q=>cIQ .lss (ge l 0) d (bxQ h 1 c (ge l 0) fun c=>b1Q h c fun c=>clQ C h F.iK [c] fun d h=>bnd (unV .not d) fun d=>cnd d (q .ret [I 25] h) (bIQ .gtr (ge l 0) (I 0) fun d=>gqQ d true h c fun c h=>gqQ d true h a fun a h=>gqQ d true h (ge l 0) fun e h=>gbQ d true h (biI .sub e (I 1)) fun e h=>gbQ d true h (ixV h 1 a e) fun a h=>gbQ d true h (ld1 h a) fun a h=>gbQ d true h (biI .leq c a) fun a h=>bpQ d a (B false) fun a=>cnd a (q .ret [I 6] h) (bIQ .add (ge l 0) (I 1) fun a=>q .normal [a] h))) (q (.exit 1) [] h)
def eW(C:CC)(a:V)(q:kQ):Prop:=let h:Hp:=[]
 blQ a fun c=>cIQ .eql c (I 0) (q (I 13) h) (blQ a fun c=>cIQ .gtr c (I 6) (q (I 4) h) (blQ a fun c=>lp (oz C a a c) [] h [I 0] h (exK [((.exit 1),fun a h=>q (I 0) h),(.ret,fun a h=>q (ge a 0) h)])))
theorem EO(h:eW (CX Y) t0 (out v)):CP Y F.eW [t0] v:=CPo 0 (dV (nCQ (aF (nCQ (.n (.l [15] [0,13,14] [((.exit 1),[],[]),(.ret,[2],[])] []) .o .o))))) Tryz.func19 h
def mE(C:CC)(a:V)(q:kQ):Prop:=let h:Hp:=.replicate 1 nnQ
 eT 0 a h fun a h=>bfQ 0 a fun c=>b1Q h c fun c=>clQ C h F.gn [c] fun c h=>bnd (nh c) fun c=>bIQ .leq c (I 30) fun c=>gbQ c true h (faV 1 a) fun a h=>gbQ c true h (ld1 h a) fun a h=>gbQ c true h (nh a) fun a h=>gbQ c true h (biI .leq a (I 30)) fun a h=>bpQ c a (B false) fun a=>q a h
theorem GX(h:mE (CX Y) t0 (out v)):CP Y F.mE [t0] v:=CPo 1 (nCQ (nRQ [.slot 0])) Tryz.func49 h
def pB(C:CC)(a c:V):aS:=fun l h q=>cIQ .lss (ge l 0) c (bxQ h 2 a (ge l 0) fun a=>bnd (ldA h 2 a) fun a=>alV 0 [.d (.str []),.d (.str [])] h fun c h=>stD h 2 c a fun _ h=>bnd (ldA h 2 c) fun a=>clQ C h F.gN [a] fun a h=>nzQ a (q .ret [I 2] h) (bnd (ldA h 2 c) fun a=>clQ C h F.mE [a] fun a h=>bnd (unV .not a) fun a=>cnd a (q .ret [I 4] h) (bIQ .add (ge l 0) (I 1) fun a=>q .normal [a] h))) (q (.exit 0) [] h)
def kX(C:CC)(a c:V)(q:kQ):Prop:=let h:Hp:=.replicate 1 nnQ
 blQ c fun d=>blQ a fun a=>cIQ .neq d a (q (I 5) h) (blQ c fun a=>lp (pB C c a) [0] h [I 0] h (exK [((.exit 0),fun a h=>q (I 0) h),(.ret,fun a h=>q (ge a 0) h)]))
theorem GY(h:kX (CX Y) t0 t1 (out v)):CP Y F.kX [t0,t1] v:=CPo 1 (dV (nCQ (aF (nCQ (.n (.l [14] [12,13] [((.exit 0),[],[]),(.ret,[4],[])] [0]) (dV (nCQ (nCQ (nCQ (nRQ [.slot 0]))))) .o))))) Tryz.func33 h
def jO(C:CC)(a c:V)(q:kQ):Prop:=let h:Hp:=[]
 clQ C h F.eW [a] fun d h=>nzQ d (q d h) (clQ C h F.kX [a,c] q)
theorem G0(h:jO (CX Y) t0 t1 (out v)):CP Y F.jO [t0,t1] v:=CPo 0 .o Tryz.func20 h
def dQ(C:CC)(a c:V)(q:kQ):Prop:=let h:Hp:=.replicate 2 nnQ
 cIQ .eql c (I 10) (cIQ .lss a (.d (.int .u64 100)) (bnd (cvI .i64 a) fun a=>clQ C h F.il [a] q) (alD 0 1 (List.replicate 24 (.int .u8 0)) h fun c h=>clQ C h F.du [a] fun d h=>bnd (slP 24 1 h c none (some d)) fun e=>ciQ C h F.bL [e,a] 1 fun a h=>bnd (slP 24 1 h c none (some d)) fun a=>bnd (cvT h a) fun a=>q a h)) (clQ C h F.pL [nSQ,a,c,B false,B false] fun a h=>e2Q a fun a c=>q c h)
theorem tJ(h:dQ (CX Y) t0 t1 (out v)):CP Y F.dQ [t0,t1] v:=CPo 2 (aF (nCQ (aF (nCQ (aF (nBQ (nRQ [.slot 0]) (aF (nCQ (nRQ [.inl 1]))))))))) Tryz.func179 h
def gA(C:CC)(a c:V)(q:kQ):Prop:=let h:Hp:=[]
 clQ C h F.dQ [a,c] q
theorem uT(h:gA (CX Y) t0 t1 (out v)):CP Y F.gA [t0,t1] v:=CPo 0 .o Tryz.func152 h
def jd(C:CC)(a:V)(q:kQ):Prop:=let h:Hp:=[]
 clQ C h F.gA [a,I 10] q
theorem HW(h:jd (CX Y) t0 (out v)):CP Y F.jd [t0] v:=CPo 0 .o Tryz.func113 h
def iN(C:CC)(a:V)(q:kQ):Prop:=let h:Hp:=[]
 clQ C h F.fv [a,I 10,I 64] fun a h=>e2Q a fun a c=>bnd (biF .neq c (.d (.pl .nilIface))) fun c=>cnd c (q (.tup [(.d (.int .u64 0)),B false]) h) (q (.tup [a,B true]) h)
theorem Bl(h:iN (CX Y) t0 (out v)):CP Y F.iN [t0] v:=CPo 0 .o Tryz.func151 h
def fF(C:CC)(a c:V)(q:kQ):Prop:=let h:Hp:=[]
 bnd (nh a) fun d=>bIQ .gtr d (I 18) fun d=>gqQ d false h c fun e h=>gbQ d false h (nh e) fun e h=>gbQ d false h (biI .gtr e (I 18)) fun e h=>bpQ d (B true) e fun d=>cnd d (q (.tup [(.d (.int .u64 0)),(.d (.int .u64 0)),B false]) h) (clQ C h F.iN [a] fun a h=>e2Q a fun a d=>clQ C h F.iN [c] fun c h=>e2Q c fun c d=>q (.tup [a,c,B true]) h)
theorem Ec(h:fF (CX Y) t0 t1 (out v)):CP Y F.fF [t0,t1] v:=CPo 0 .o Tryz.func112 h
def dT(C:CC)(a c:V)(q:kQ):Prop:=let h:Hp:=.replicate 2 nnQ
 bSQ .eql c (.d (.str [48])) fun d=>cnd d (q (.tup [(.d (.str [])),(.d (.str [])),I 17]) h) (clQ C h F.fF [a,c] fun d h=>e3Q d fun d e f=>cnd f (bIQ .quo d e fun a=>clQ C h F.jd [a] fun a h=>bIQ .rem d e fun c=>clQ C h F.jd [c] fun c h=>q (.tup [a,c,I 0]) h) (ciQ C h F.cV [a] 0 fun d h=>ciQ C h F.cV [c] 1 fun c h=>clQ C h F.cu [d,c] fun e h=>cIQ .lss e (I 0) (q (.tup [(.d (.str [48])),a,I 0]) h) (blQ c fun a=>cIQ .eql a (I 1) (bxQ h 1 c (I 0) fun a=>b1Q h a fun a=>clQ C h F.cU [d,a] fun a h=>e2Q a fun a c=>clQ C h F.aP [a] fun a h=>clQ C h F.jd [c] fun c h=>q (.tup [a,c,I 0]) h) (clQ C h F.dE [d,c] fun a h=>e2Q a fun a c=>clQ C h F.aP [a] fun a h=>clQ C h F.aP [c] fun c h=>q (.tup [a,c,I 0]) h))))
def pz:Ann:=(zD (nCQ (nRQ [.inl 0,.inl 1])))
attribute [local irreducible] bnd gd cal cnd ext dD tC stD alV alD eT jn lp exK mkS apV cai xi in
theorem Af(C:CC)(t0:V)(t1:V)(q:kkQ):fnD Y C Tryz.f91 2 pz [t0,t1] q=dT C t0 t1 q:=Re
theorem Ac:okB Tryz.prog Tryz.f91 pz=true:=aD
theorem Ae(h:dT (CX Y) t0 t1 (out v)):CP Y F.dT [t0,t1] v:=
 CP.of (fn:=Tryz.f91) (m:=2) (a:=pz) rfl (fun _=>rfl) Tryz.func91 Ac (by rw[Af];exact h)
def oN(C:CC):aS:=fun l h q=>bSQ .neq (ge l 1) (.d (.str [48])) fun a=>cnd a (clQ C h F.dT [ge l 0,ge l 1] fun a h=>e3Q a fun a c d=>nzQ d (q .ret [(.d (.str []))] h) (q .normal [ge l 1,c] h)) (q (.exit 0) [ge l 0] h)
def mN(C:CC)(a c:V)(q:kQ):Prop:=let h:Hp:=[]
 lp (oN C) [] h [a,c] h (exK [((.exit 0),fun a h=>q (ge a 0) h),(.ret,fun a h=>q (ge a 0) h)])
theorem E9(h:mN (CX Y) t0 t1 (out v)):CP Y F.mN [t0,t1] v:=CPo 0 (aF (nCQ (nCQ (.n (.l [0,1] [] [((.exit 0),[0],[]),(.ret,[4],[])] []) .o .o)))) Tryz.func99 h
def strconv_Itoa(C:CC)(a:V)(q:kQ):Prop:=let h:Hp:=[]
 clQ C h F.kw [a] q
theorem Cs(h:strconv_Itoa (CX Y) t0 (out v)):CP Y F.strconv_Itoa [t0] v:=CPo 0 .o Tryz.func52 h
def kw(C:CC)(a:V)(q:kQ):Prop:=let h:Hp:=[]
 clQ C h F.dw [a,I 10] q
theorem zQ(h:kw (CX Y) t0 (out v)):CP Y F.kw [t0] v:=CPo 0 .o Tryz.func76 h
def dw(C:CC)(a c:V)(q:kQ):Prop:=let h:Hp:=.replicate 2 nnQ
 cIQ .eql c (I 10) (bIQ .leq (I 0) a fun c=>gqQ c true h a fun d h=>gbQ c true h (biI .lss d (I 100)) fun d h=>bpQ c d (B false) fun c=>cnd c (clQ C h F.il [a] q) (alD 0 1 (List.replicate 24 (.int .u8 0)) h fun c h=>bnd (cvI .u64 a) fun d=>bIQ .lss a (I 0) fun e=>jn (fun d h=>clQ C h F.du [ge d 0] fun e h=>bIQ .add (I 1) e fun f=>bnd (slP 24 1 h c (some (I 1)) (some f)) fun f=>ciQ C h F.bL [f,ge d 0] 1 fun d h=>cIQ .lss a (I 0) (bnd (ixP 24 1 c (I 0)) fun a=>stD h 1 a (.d (.int .u8 45)) fun _ h=>bIQ .add (I 1) e fun a=>bnd (slP 24 1 h c none (some a)) fun a=>bnd (cvT h a) fun a=>q a h) (bIQ .add (I 1) e fun a=>bnd (slP 24 1 h c (some (I 1)) (some a)) fun a=>bnd (cvT h a) fun a=>q a h)) fun a=>cnd e (bnd (unV .neg d) fun c=>a [c] h) (a [d] h))) (bnd (cvI .u64 a) fun d=>bIQ .lss a (I 0) fun a=>clQ C h F.pL [nSQ,d,c,a,B false] fun a h=>e2Q a fun a c=>q c h)
theorem uA(h:dw (CX Y) t0 t1 (out v)):CP Y F.dw [t0,t1] v:=CPo 2 (aF (nCQ (aF (nCQ (aF (nBQ (nRQ [.slot 0]) (aF (nBQ (aF (nJQ [6] [0,5])) (aF (nCQ (nRQ [.inl 1]))))))))))) Tryz.func100 h
def il(C:CC)(a:V)(q:kQ):Prop:=let h:Hp:=[]
 cIQ .lss a (I 10) (bIQ .add a (I 1) fun c=>bnd (slS (.d (.str [48,49,50,51,52,53,54,55,56,57,97,98,99,100,101,102,103,104,105,106,107,108,109,110,111,112,113,114,115,116,117,118,119,120,121,122])) (some a) (some c)) fun a=>q a h) (bIQ .mul a (I 2) fun c=>bIQ .mul a (I 2) fun a=>bIQ .add a (I 2) fun a=>bnd (slS (.d (.str [48,48,48,49,48,50,48,51,48,52,48,53,48,54,48,55,48,56,48,57,49,48,49,49,49,50,49,51,49,52,49,53,49,54,49,55,49,56,49,57,50,48,50,49,50,50,50,51,50,52,50,53,50,54,50,55,50,56,50,57,51,48,51,49,51,50,51,51,51,52,51,53,51,54,51,55,51,56,51,57,52,48,52,49,52,50,52,51,52,52,52,53,52,54,52,55,52,56,52,57,53,48,53,49,53,50,53,51,53,52,53,53,53,54,53,55,53,56,53,57,54,48,54,49,54,50,54,51,54,52,54,53,54,54,54,55,54,56,54,57,55,48,55,49,55,50,55,51,55,52,55,53,55,54,55,55,55,56,55,57,56,48,56,49,56,50,56,51,56,52,56,53,56,54,56,55,56,56,56,57,57,48,57,49,57,50,57,51,57,52,57,53,57,54,57,55,57,56,57,57])) (some c) (some a)) fun a=>q a h)
theorem yi(h:il (CX Y) t0 (out v)):CP Y F.il [t0] v:=CPo 0 .o Tryz.func131 h
def du(C:CC)(a:V)(q:kQ):Prop:=let h:Hp:=[]
 clQ C h F.eO [a] fun c h=>clQ C h F.fN [c] fun c h=>bnd (ixP 20 1 (gl nA) c) fun d=>b1Q h d fun d=>bIQ .geq a d fun a=>clQ C h F.fO [a] fun a h=>bIQ .add c a fun a=>q a h
theorem uw(h:du (CX Y) t0 (out v)):CP Y F.du [t0] v:=CPo 0 .o Tryz.func132 h
def d7(C:CC)(b:Nat)(a:V):aS:=fun l h q=>cIQ .geq (ge l 1) (I 8) (bIQ .rem (ge l 0) (.d (.int .u64 100000000)) fun c=>bnd (cvI .u32 c) fun c=>bIQ .quo (ge l 0) (.d (.int .u64 100000000)) fun d=>bIQ .quo c (.d (.int .u32 10000)) fun e=>bIQ .rem c (.d (.int .u32 10000)) fun c=>bIQ .quo c (.d (.int .u32 100)) fun f=>bIQ .mul f (.d (.int .u32 2)) fun f=>bIQ .rem c (.d (.int .u32 100)) fun c=>bIQ .mul c (.d (.int .u32 2)) fun c=>bIQ .quo e (.d (.int .u32 100)) fun g=>bIQ .mul g (.d (.int .u32 2)) fun g=>bIQ .rem e (.d (.int .u32 100)) fun e=>bIQ .mul e (.d (.int .u32 2)) fun e=>bIQ .sub (ge l 1) (I 1) fun i=>bIQ .sub (ge l 1) (I 2) fun j=>bIQ .add c (.d (.int .u32 1)) fun k=>bnd (ixS (.d (.str [48,48,48,49,48,50,48,51,48,52,48,53,48,54,48,55,48,56,48,57,49,48,49,49,49,50,49,51,49,52,49,53,49,54,49,55,49,56,49,57,50,48,50,49,50,50,50,51,50,52,50,53,50,54,50,55,50,56,50,57,51,48,51,49,51,50,51,51,51,52,51,53,51,54,51,55,51,56,51,57,52,48,52,49,52,50,52,51,52,52,52,53,52,54,52,55,52,56,52,57,53,48,53,49,53,50,53,51,53,52,53,53,53,54,53,55,53,56,53,57,54,48,54,49,54,50,54,51,54,52,54,53,54,54,54,55,54,56,54,57,55,48,55,49,55,50,55,51,55,52,55,53,55,54,55,55,55,56,55,57,56,48,56,49,56,50,56,51,56,52,56,53,56,54,56,55,56,56,56,57,57,48,57,49,57,50,57,51,57,52,57,53,57,54,57,55,57,56,57,57])) k) fun k=>bnd (ixS (.d (.str [48,48,48,49,48,50,48,51,48,52,48,53,48,54,48,55,48,56,48,57,49,48,49,49,49,50,49,51,49,52,49,53,49,54,49,55,49,56,49,57,50,48,50,49,50,50,50,51,50,52,50,53,50,54,50,55,50,56,50,57,51,48,51,49,51,50,51,51,51,52,51,53,51,54,51,55,51,56,51,57,52,48,52,49,52,50,52,51,52,52,52,53,52,54,52,55,52,56,52,57,53,48,53,49,53,50,53,51,53,52,53,53,53,54,53,55,53,56,53,57,54,48,54,49,54,50,54,51,54,52,54,53,54,54,54,55,54,56,54,57,55,48,55,49,55,50,55,51,55,52,55,53,55,54,55,55,55,56,55,57,56,48,56,49,56,50,56,51,56,52,56,53,56,54,56,55,56,56,56,57,57,48,57,49,57,50,57,51,57,52,57,53,57,54,57,55,57,56,57,57])) c) fun c=>bxQ h 1 a i fun i=>stD h 1 i k fun _ h=>bxQ h 1 a j fun i=>stD h 1 i c fun _ h=>bIQ .sub (ge l 1) (I 3) fun c=>bIQ .sub (ge l 1) (I 4) fun i=>bIQ .add f (.d (.int .u32 1)) fun j=>bnd (ixS (.d (.str [48,48,48,49,48,50,48,51,48,52,48,53,48,54,48,55,48,56,48,57,49,48,49,49,49,50,49,51,49,52,49,53,49,54,49,55,49,56,49,57,50,48,50,49,50,50,50,51,50,52,50,53,50,54,50,55,50,56,50,57,51,48,51,49,51,50,51,51,51,52,51,53,51,54,51,55,51,56,51,57,52,48,52,49,52,50,52,51,52,52,52,53,52,54,52,55,52,56,52,57,53,48,53,49,53,50,53,51,53,52,53,53,53,54,53,55,53,56,53,57,54,48,54,49,54,50,54,51,54,52,54,53,54,54,54,55,54,56,54,57,55,48,55,49,55,50,55,51,55,52,55,53,55,54,55,55,55,56,55,57,56,48,56,49,56,50,56,51,56,52,56,53,56,54,56,55,56,56,56,57,57,48,57,49,57,50,57,51,57,52,57,53,57,54,57,55,57,56,57,57])) j) fun j=>bnd (ixS (.d (.str [48,48,48,49,48,50,48,51,48,52,48,53,48,54,48,55,48,56,48,57,49,48,49,49,49,50,49,51,49,52,49,53,49,54,49,55,49,56,49,57,50,48,50,49,50,50,50,51,50,52,50,53,50,54,50,55,50,56,50,57,51,48,51,49,51,50,51,51,51,52,51,53,51,54,51,55,51,56,51,57,52,48,52,49,52,50,52,51,52,52,52,53,52,54,52,55,52,56,52,57,53,48,53,49,53,50,53,51,53,52,53,53,53,54,53,55,53,56,53,57,54,48,54,49,54,50,54,51,54,52,54,53,54,54,54,55,54,56,54,57,55,48,55,49,55,50,55,51,55,52,55,53,55,54,55,55,55,56,55,57,56,48,56,49,56,50,56,51,56,52,56,53,56,54,56,55,56,56,56,57,57,48,57,49,57,50,57,51,57,52,57,53,57,54,57,55,57,56,57,57])) f) fun f=>bxQ h 1 a c fun c=>stD h 1 c j fun _ h=>bxQ h 1 a i fun c=>stD h 1 c f fun _ h=>bIQ .sub (ge l 1) (I 5) fun c=>bIQ .sub (ge l 1) (I 6) fun f=>bIQ .add e (.d (.int .u32 1)) fun i=>bnd (ixS (.d (.str [48,48,48,49,48,50,48,51,48,52,48,53,48,54,48,55,48,56,48,57,49,48,49,49,49,50,49,51,49,52,49,53,49,54,49,55,49,56,49,57,50,48,50,49,50,50,50,51,50,52,50,53,50,54,50,55,50,56,50,57,51,48,51,49,51,50,51,51,51,52,51,53,51,54,51,55,51,56,51,57,52,48,52,49,52,50,52,51,52,52,52,53,52,54,52,55,52,56,52,57,53,48,53,49,53,50,53,51,53,52,53,53,53,54,53,55,53,56,53,57,54,48,54,49,54,50,54,51,54,52,54,53,54,54,54,55,54,56,54,57,55,48,55,49,55,50,55,51,55,52,55,53,55,54,55,55,55,56,55,57,56,48,56,49,56,50,56,51,56,52,56,53,56,54,56,55,56,56,56,57,57,48,57,49,57,50,57,51,57,52,57,53,57,54,57,55,57,56,57,57])) i) fun i=>bnd (ixS (.d (.str [48,48,48,49,48,50,48,51,48,52,48,53,48,54,48,55,48,56,48,57,49,48,49,49,49,50,49,51,49,52,49,53,49,54,49,55,49,56,49,57,50,48,50,49,50,50,50,51,50,52,50,53,50,54,50,55,50,56,50,57,51,48,51,49,51,50,51,51,51,52,51,53,51,54,51,55,51,56,51,57,52,48,52,49,52,50,52,51,52,52,52,53,52,54,52,55,52,56,52,57,53,48,53,49,53,50,53,51,53,52,53,53,53,54,53,55,53,56,53,57,54,48,54,49,54,50,54,51,54,52,54,53,54,54,54,55,54,56,54,57,55,48,55,49,55,50,55,51,55,52,55,53,55,54,55,55,55,56,55,57,56,48,56,49,56,50,56,51,56,52,56,53,56,54,56,55,56,56,56,57,57,48,57,49,57,50,57,51,57,52,57,53,57,54,57,55,57,56,57,57])) e) fun e=>bxQ h 1 a c fun c=>stD h 1 c i fun _ h=>bxQ h 1 a f fun c=>stD h 1 c e fun _ h=>bIQ .sub (ge l 1) (I 7) fun c=>bIQ .sub (ge l 1) (I 8) fun e=>bIQ .add g (.d (.int .u32 1)) fun f=>bnd (ixS (.d (.str [48,48,48,49,48,50,48,51,48,52,48,53,48,54,48,55,48,56,48,57,49,48,49,49,49,50,49,51,49,52,49,53,49,54,49,55,49,56,49,57,50,48,50,49,50,50,50,51,50,52,50,53,50,54,50,55,50,56,50,57,51,48,51,49,51,50,51,51,51,52,51,53,51,54,51,55,51,56,51,57,52,48,52,49,52,50,52,51,52,52,52,53,52,54,52,55,52,56,52,57,53,48,53,49,53,50,53,51,53,52,53,53,53,54,53,55,53,56,53,57,54,48,54,49,54,50,54,51,54,52,54,53,54,54,54,55,54,56,54,57,55,48,55,49,55,50,55,51,55,52,55,53,55,54,55,55,55,56,55,57,56,48,56,49,56,50,56,51,56,52,56,53,56,54,56,55,56,56,56,57,57,48,57,49,57,50,57,51,57,52,57,53,57,54,57,55,57,56,57,57])) f) fun f=>bnd (ixS (.d (.str [48,48,48,49,48,50,48,51,48,52,48,53,48,54,48,55,48,56,48,57,49,48,49,49,49,50,49,51,49,52,49,53,49,54,49,55,49,56,49,57,50,48,50,49,50,50,50,51,50,52,50,53,50,54,50,55,50,56,50,57,51,48,51,49,51,50,51,51,51,52,51,53,51,54,51,55,51,56,51,57,52,48,52,49,52,50,52,51,52,52,52,53,52,54,52,55,52,56,52,57,53,48,53,49,53,50,53,51,53,52,53,53,53,54,53,55,53,56,53,57,54,48,54,49,54,50,54,51,54,52,54,53,54,54,54,55,54,56,54,57,55,48,55,49,55,50,55,51,55,52,55,53,55,54,55,55,55,56,55,57,56,48,56,49,56,50,56,51,56,52,56,53,56,54,56,55,56,56,56,57,57,48,57,49,57,50,57,51,57,52,57,53,57,54,57,55,57,56,57,57])) g) fun g=>bxQ h 1 a c fun c=>stD h 1 c f fun _ h=>bxQ h 1 a e fun a=>stD h 1 a g fun _ h=>bIQ .sub (ge l 1) (I 8) fun a=>q .normal [d,a] h) (q (.exit 0) [ge l 0,ge l 1] h)
def bL(C:CC)(b:Nat)(h:Hp)(a c:V)(q:kQ):Prop:=let h:Hp:=h++List.replicate 0 nnQ
 blQ a fun d=>lp (d7 C b a) [] h [c,d] h (exK [((.exit 0),fun c h=>bnd (cvI .u32 (ge c 0)) fun d=>bIQ .geq (ge c 1) (I 4) fun e=>jn (fun c h=>bIQ .geq (ge c 1) (I 2) fun d=>jn (fun c h=>bIQ .gtr (ge c 1) (I 0) fun d=>jn (fun a h=>q (.tup []) h) fun e=>cnd d (bIQ .add (.d (.int .u32 48)) (ge c 0) fun c=>bnd (cvI .u8 c) fun c=>bxQ h 1 a (I 0) fun a=>stD h 1 a c fun _ h=>e [] h) (e [] h)) fun e=>cnd d (bIQ .rem (ge c 0) (.d (.int .u32 100)) fun d=>bIQ .mul d (.d (.int .u32 2)) fun d=>bIQ .quo (ge c 0) (.d (.int .u32 100)) fun f=>bIQ .sub (ge c 1) (I 1) fun g=>bIQ .sub (ge c 1) (I 2) fun i=>bIQ .add d (.d (.int .u32 1)) fun j=>bnd (ixS (.d (.str [48,48,48,49,48,50,48,51,48,52,48,53,48,54,48,55,48,56,48,57,49,48,49,49,49,50,49,51,49,52,49,53,49,54,49,55,49,56,49,57,50,48,50,49,50,50,50,51,50,52,50,53,50,54,50,55,50,56,50,57,51,48,51,49,51,50,51,51,51,52,51,53,51,54,51,55,51,56,51,57,52,48,52,49,52,50,52,51,52,52,52,53,52,54,52,55,52,56,52,57,53,48,53,49,53,50,53,51,53,52,53,53,53,54,53,55,53,56,53,57,54,48,54,49,54,50,54,51,54,52,54,53,54,54,54,55,54,56,54,57,55,48,55,49,55,50,55,51,55,52,55,53,55,54,55,55,55,56,55,57,56,48,56,49,56,50,56,51,56,52,56,53,56,54,56,55,56,56,56,57,57,48,57,49,57,50,57,51,57,52,57,53,57,54,57,55,57,56,57,57])) j) fun j=>bnd (ixS (.d (.str [48,48,48,49,48,50,48,51,48,52,48,53,48,54,48,55,48,56,48,57,49,48,49,49,49,50,49,51,49,52,49,53,49,54,49,55,49,56,49,57,50,48,50,49,50,50,50,51,50,52,50,53,50,54,50,55,50,56,50,57,51,48,51,49,51,50,51,51,51,52,51,53,51,54,51,55,51,56,51,57,52,48,52,49,52,50,52,51,52,52,52,53,52,54,52,55,52,56,52,57,53,48,53,49,53,50,53,51,53,52,53,53,53,54,53,55,53,56,53,57,54,48,54,49,54,50,54,51,54,52,54,53,54,54,54,55,54,56,54,57,55,48,55,49,55,50,55,51,55,52,55,53,55,54,55,55,55,56,55,57,56,48,56,49,56,50,56,51,56,52,56,53,56,54,56,55,56,56,56,57,57,48,57,49,57,50,57,51,57,52,57,53,57,54,57,55,57,56,57,57])) d) fun d=>bxQ h 1 a g fun g=>stD h 1 g j fun _ h=>bxQ h 1 a i fun a=>stD h 1 a d fun _ h=>bIQ .sub (ge c 1) (I 2) fun a=>e [f,a] h) (e [ge c 0,ge c 1] h)) fun f=>cnd e (bIQ .rem d (.d (.int .u32 10000)) fun e=>bIQ .quo d (.d (.int .u32 10000)) fun d=>bIQ .quo e (.d (.int .u32 100)) fun g=>bIQ .mul g (.d (.int .u32 2)) fun g=>bIQ .rem e (.d (.int .u32 100)) fun e=>bIQ .mul e (.d (.int .u32 2)) fun e=>bIQ .sub (ge c 1) (I 1) fun i=>bIQ .sub (ge c 1) (I 2) fun j=>bIQ .add e (.d (.int .u32 1)) fun k=>bnd (ixS (.d (.str [48,48,48,49,48,50,48,51,48,52,48,53,48,54,48,55,48,56,48,57,49,48,49,49,49,50,49,51,49,52,49,53,49,54,49,55,49,56,49,57,50,48,50,49,50,50,50,51,50,52,50,53,50,54,50,55,50,56,50,57,51,48,51,49,51,50,51,51,51,52,51,53,51,54,51,55,51,56,51,57,52,48,52,49,52,50,52,51,52,52,52,53,52,54,52,55,52,56,52,57,53,48,53,49,53,50,53,51,53,52,53,53,53,54,53,55,53,56,53,57,54,48,54,49,54,50,54,51,54,52,54,53,54,54,54,55,54,56,54,57,55,48,55,49,55,50,55,51,55,52,55,53,55,54,55,55,55,56,55,57,56,48,56,49,56,50,56,51,56,52,56,53,56,54,56,55,56,56,56,57,57,48,57,49,57,50,57,51,57,52,57,53,57,54,57,55,57,56,57,57])) k) fun k=>bnd (ixS (.d (.str [48,48,48,49,48,50,48,51,48,52,48,53,48,54,48,55,48,56,48,57,49,48,49,49,49,50,49,51,49,52,49,53,49,54,49,55,49,56,49,57,50,48,50,49,50,50,50,51,50,52,50,53,50,54,50,55,50,56,50,57,51,48,51,49,51,50,51,51,51,52,51,53,51,54,51,55,51,56,51,57,52,48,52,49,52,50,52,51,52,52,52,53,52,54,52,55,52,56,52,57,53,48,53,49,53,50,53,51,53,52,53,53,53,54,53,55,53,56,53,57,54,48,54,49,54,50,54,51,54,52,54,53,54,54,54,55,54,56,54,57,55,48,55,49,55,50,55,51,55,52,55,53,55,54,55,55,55,56,55,57,56,48,56,49,56,50,56,51,56,52,56,53,56,54,56,55,56,56,56,57,57,48,57,49,57,50,57,51,57,52,57,53,57,54,57,55,57,56,57,57])) e) fun e=>bxQ h 1 a i fun i=>stD h 1 i k fun _ h=>bxQ h 1 a j fun i=>stD h 1 i e fun _ h=>bIQ .sub (ge c 1) (I 3) fun e=>bIQ .sub (ge c 1) (I 4) fun i=>bIQ .add g (.d (.int .u32 1)) fun j=>bnd (ixS (.d (.str [48,48,48,49,48,50,48,51,48,52,48,53,48,54,48,55,48,56,48,57,49,48,49,49,49,50,49,51,49,52,49,53,49,54,49,55,49,56,49,57,50,48,50,49,50,50,50,51,50,52,50,53,50,54,50,55,50,56,50,57,51,48,51,49,51,50,51,51,51,52,51,53,51,54,51,55,51,56,51,57,52,48,52,49,52,50,52,51,52,52,52,53,52,54,52,55,52,56,52,57,53,48,53,49,53,50,53,51,53,52,53,53,53,54,53,55,53,56,53,57,54,48,54,49,54,50,54,51,54,52,54,53,54,54,54,55,54,56,54,57,55,48,55,49,55,50,55,51,55,52,55,53,55,54,55,55,55,56,55,57,56,48,56,49,56,50,56,51,56,52,56,53,56,54,56,55,56,56,56,57,57,48,57,49,57,50,57,51,57,52,57,53,57,54,57,55,57,56,57,57])) j) fun j=>bnd (ixS (.d (.str [48,48,48,49,48,50,48,51,48,52,48,53,48,54,48,55,48,56,48,57,49,48,49,49,49,50,49,51,49,52,49,53,49,54,49,55,49,56,49,57,50,48,50,49,50,50,50,51,50,52,50,53,50,54,50,55,50,56,50,57,51,48,51,49,51,50,51,51,51,52,51,53,51,54,51,55,51,56,51,57,52,48,52,49,52,50,52,51,52,52,52,53,52,54,52,55,52,56,52,57,53,48,53,49,53,50,53,51,53,52,53,53,53,54,53,55,53,56,53,57,54,48,54,49,54,50,54,51,54,52,54,53,54,54,54,55,54,56,54,57,55,48,55,49,55,50,55,51,55,52,55,53,55,54,55,55,55,56,55,57,56,48,56,49,56,50,56,51,56,52,56,53,56,54,56,55,56,56,56,57,57,48,57,49,57,50,57,51,57,52,57,53,57,54,57,55,57,56,57,57])) g) fun g=>bxQ h 1 a e fun e=>stD h 1 e j fun _ h=>bxQ h 1 a i fun a=>stD h 1 a g fun _ h=>bIQ .sub (ge c 1) (I 4) fun a=>f [d,a] h) (f [d,ge c 1] h))])
def jV(b:Nat):Ann:=(.n .x .o (.n .x (.n .x (.n (.l [1,4] [0] [((.exit 0),[1,4],[0])] []) .o .o) .o) (.n .x .o (.n .x (.n .x .o (.n (.j [12,4] [0]) .o .o)) (.n .x (.n .x .o (.n (.j [12,4] [0]) .o .o)) (.n .x .o (.n (.j [] []) .o .o)))))))
theorem rG(C:CC)(h:Hp)(t0:V)(t1:V)(q:kkQ):fnI Y C Tryz.f133 0 jV [t0,t1] h q=bL C h.length h t0 t1 q:=by rfl
theorem rE(b:Nat):okB Tryz.prog Tryz.f133 (jV b)=true:=by rfl
theorem rF(hh:bL (CX Y) h.length h t0 t1 (nB h.length v h2)):CI Y F.bL [t0,t1] h v h2:=
 CI.of (fn:=Tryz.f133) (m:=0) (a:=jV) rfl (fun _=>rfl) Tryz.func133 (rE _) (by rw[rG];exact hh)
def fN(C:CC)(a:V)(q:kQ):Prop:=let h:Hp:=[]
 bIQ .mul a (I 78913) fun a=>bIQ .shr a (.d (.int .u64 18)) fun a=>q a h
theorem uy(h:fN (CX Y) t0 (out v)):CP Y F.fN [t0] v:=CPo 0 .o Tryz.func161 h
def fO(C:CC)(a:V)(q:kQ):Prop:=let h:Hp:=[]
 cnd a (q (I 1) h) (q (I 0) h)
theorem uz(h:fO (CX Y) t0 (out v)):CP Y F.fO [t0] v:=CPo 0 .o Tryz.func163 h
def eO(C:CC)(a:V)(q:kQ):Prop:=let h:Hp:=[]
 bIQ .geq a (.d (.int .u64 4294967296)) fun c=>jn (fun a h=>bIQ .geq (ge a 0) (.d (.int .u64 65536)) fun c=>jn (fun a h=>bIQ .geq (ge a 0) (.d (.int .u64 256)) fun c=>jn (fun a h=>bnd (cvI .u8 (ge a 0)) fun c=>bnd (ixS (.d (.str [0,1,2,2,3,3,3,3,4,4,4,4,4,4,4,4,5,5,5,5,5,5,5,5,5,5,5,5,5,5,5,5,6,6,6,6,6,6,6,6,6,6,6,6,6,6,6,6,6,6,6,6,6,6,6,6,6,6,6,6,6,6,6,6,7,7,7,7,7,7,7,7,7,7,7,7,7,7,7,7,7,7,7,7,7,7,7,7,7,7,7,7,7,7,7,7,7,7,7,7,7,7,7,7,7,7,7,7,7,7,7,7,7,7,7,7,7,7,7,7,7,7,7,7,7,7,7,7,8,8,8,8,8,8,8,8,8,8,8,8,8,8,8,8,8,8,8,8,8,8,8,8,8,8,8,8,8,8,8,8,8,8,8,8,8,8,8,8,8,8,8,8,8,8,8,8,8,8,8,8,8,8,8,8,8,8,8,8,8,8,8,8,8,8,8,8,8,8,8,8,8,8,8,8,8,8,8,8,8,8,8,8,8,8,8,8,8,8,8,8,8,8,8,8,8,8,8,8,8,8,8,8,8,8,8,8,8,8,8,8,8,8,8,8,8,8,8,8,8,8,8,8,8,8,8,8])) c) fun c=>bnd (cvI .i64 c) fun c=>bIQ .add (ge a 1) c fun a=>q a h) fun d=>cnd c (bIQ .shr (ge a 0) (.d (.int .u64 8)) fun c=>bIQ .add (ge a 1) (I 8) fun a=>d [c,a] h) (d [ge a 0,ge a 1] h)) fun d=>cnd c (bIQ .shr (ge a 0) (.d (.int .u64 16)) fun c=>bIQ .add (ge a 1) (I 16) fun a=>d [c,a] h) (d [ge a 0,ge a 1] h)) fun d=>cnd c (bIQ .shr a (.d (.int .u64 32)) fun a=>d [a,I 32] h) (d [a,I 0] h)
theorem ya(h:eO (CX Y) t0 (out v)):CP Y F.eO [t0] v:=CPo 0 (aF (nBQ (aF (nJQ [0,2] [])) (nBQ (aF (nJQ [0,2] [])) (nCQ (aF (nJQ [0,2] [])))))) Tryz.func162 h
def fU(C:CC)(a c:V)(q:kkQ):Prop:=let h:Hp:=List.replicate 0 nnQ
 bnd (biI .and a (.d (.int .u64 4294967295))) fun d=>bnd (biI .shr a (.d (.int .u64 32))) fun e=>bnd (biI .and c (.d (.int .u64 4294967295))) fun f=>bnd (biI .shr c (.d (.int .u64 32))) fun g=>bnd (biI .mul d f) fun i=>bnd (biI .mul e f) fun f=>bnd (biI .shr i (.d (.int .u64 32))) fun i=>bnd (biI .add f i) fun f=>bnd (biI .and f (.d (.int .u64 4294967295))) fun i=>bnd (biI .shr f (.d (.int .u64 32))) fun f=>bnd (biI .mul d g) fun d=>bnd (biI .add i d) fun d=>bnd (biI .mul e g) fun e=>bnd (biI .add e f) fun e=>bnd (biI .shr d (.d (.int .u64 32))) fun d=>bnd (biI .add e d) fun d=>bnd (biI .mul a c) fun a=>q (.tup [d,a]) h
theorem x9(h:fU (CX Y) t0 t1 (out v)):CP Y F.fU [t0,t1] v:=CPo 0 .o Tryz.func159 h
def strconv_Atoi(C:CC)(a:V)(q:kQ):Prop:=let h:Hp:=[]
 clQ C h F.gM [a] fun c h=>e2Q c fun c d=>bnd (biF .neq d (.d (.pl .nilIface))) fun e=>cnd e (clQ C h F.AR [(.d (.str [65,116,111,105])),a,I 0,I 0,d] fun a h=>q (.tup [c,a]) h) (q (.tup [c,(.d (.pl .nilIface))]) h)
theorem uU(h:strconv_Atoi (CX Y) t0 (out v)):CP Y F.strconv_Atoi [t0] v:=CPo 0 .o Tryz.func111 h
def mp(C:CC)(a c:V):aS:=fun l h q=>cIQ .lss (ge l 1) c (bxQ h 1 a (ge l 1) fun a=>b1Q h a fun a=>bIQ .sub a (.d (.int .u8 48)) fun a=>cIQ .gtr a (.d (.int .u8 9)) (False /- makeInterface -/) (bIQ .mul (ge l 0) (I 10) fun c=>bnd (cvI .i64 a) fun a=>bIQ .add c a fun a=>bIQ .add (ge l 1) (I 1) fun c=>q .normal [a,c] h)) (q (.exit 0) [ge l 0] h)
def gM(C:CC)(a:V)(q:kQ):Prop:=let h:Hp:=[]
 bnd (nh a) fun c=>gd (B false) true h (fun q=>q c h) fun d h=>gd (B false) true h (fun q=>bIQ .lss (I 0) d fun v=>q v h) fun d h=>gd (B false) true h (fun q=>q d h) fun d h=>gqQ d true h c fun e h=>gbQ d true h (biI .lss e (I 10)) fun e h=>gd (B false) true h (fun q=>bpQ d e (B false) fun v=>q v h) fun d h=>bpQ (B false) d (B false) fun d=>gqQ d false h (B true) fun e h=>gqQ e true h c fun f h=>gbQ e true h (biI .lss (I 0) f) fun f h=>gqQ e true h f fun f h=>gqQ f true h c fun c h=>gbQ f true h (biI .lss c (I 19)) fun c h=>gbQ e true h (jD f c (B false)) fun c h=>gbQ d false h (jD e c (B false)) fun c h=>bpQ d (B true) c fun c=>cnd c (bnd (ixS a (I 0)) fun c=>bIQ .eql c (.d (.int .u8 45)) fun c=>gqQ c false h a fun d h=>gbQ c false h (ixS d (I 0)) fun d h=>gbQ c false h (biI .eql d (.d (.int .u8 43))) fun d h=>bpQ c (B true) d fun c=>jn (fun c h=>cvB (ge c 0) h fun c h=>blQ c fun d=>lp (mp C c d) [] h [I 0,I 0] h (exK [((.exit 0),fun c h=>bnd (ixS a (I 0)) fun a=>bIQ .eql a (.d (.int .u8 45)) fun a=>jn (fun a h=>q (.tup [ge a 0,(.d (.pl .nilIface))]) h) fun d=>cnd a (bnd (unV .neg (ge c 0)) fun a=>d [a] h) (d [ge c 0] h)),(.ret,fun a h=>q (.tup [ge a 0,ge a 1]) h)])) fun d=>cnd c (bnd (slS a (some (I 1)) none) fun a=>bnd (nh a) fun c=>cIQ .lss c (I 1) (False /- makeInterface -/) (d [a] h)) (d [a] h)) (clQ C h F.xp [a,I 10,I 0] fun a h=>e2Q a fun a c=>q (.tup [a,c]) h)
theorem sC(h:gM (CX Y) t0 (out v)):CP Y F.gM [t0] v:=CPo 0 (dV (nCQ (aF (nCQ (aF (nBQ (aF (nJQ [0] [5])) (aF (nBQ (aF (nCQ (.n (.l [6,49] [5,47,48] [((.exit 0),[6],[5]),(.ret,[2,3],[])] []) .o .o))) (nCQ (aF (nJQ [6] []))))))))))) Tryz.func150 h
def fh(C:CC)(a c:V):aS:=fun l h q=>cIQ .lss (ge l 0) c (bxQ h 1 a (ge l 0) fun a=>b1Q h a fun a=>bIQ .lss a (.d (.int .u8 48)) fun c=>gqQ c false h a fun a h=>gbQ c false h (biI .gtr a (.d (.int .u8 57))) fun a h=>bpQ c (B true) a fun a=>cnd a (q .ret [B false] h) (bIQ .add (ge l 0) (I 1) fun a=>q .normal [a] h)) (q (.exit 0) [] h)
def ig(C:CC)(a:V)(q:kQ):Prop:=let h:Hp:=[]
 cvB a h fun c h=>blQ c fun d=>lp (fh C c d) [] h [I 0] h (exK [((.exit 0),fun c h=>bnd (nh a) fun c=>bIQ .eql c (I 1) fun c=>gqQ c false h a fun d h=>gbQ c false h (nh d) fun d h=>gbQ c false h (biI .gtr d (I 1)) fun d h=>gqQ c false h d fun d h=>gqQ d true h a fun a h=>gbQ d true h (ixS a (I 0)) fun a h=>gbQ d true h (biI .neq a (.d (.int .u8 48))) fun a h=>gbQ c false h (jD d a (B false)) fun a h=>bpQ c (B true) a fun a=>q a h),(.ret,fun a h=>q (ge a 0) h)])
theorem wM(h:ig (CX Y) t0 (out v)):CP Y F.ig [t0] v:=CPo 0 (aF (nCQ (aF (nCQ (.n (.l [8] [0,6,7] [((.exit 0),[],[0]),(.ret,[2],[])] []) .o .o))))) Tryz.func130 h
def jZ(C:CC)(a:V)(q:kQ):Prop:=let h:Hp:=[]
 clQ C h F.ig [a] fun c h=>bnd (unV .not c) fun c=>gqQ c false h a fun a h=>gbQ c false h (nh a) fun a h=>gbQ c false h (biI .gtr a (I 400)) fun a h=>bpQ c (B true) a fun a=>cnd a (q (I 2) h) (q (I 0) h)
theorem Bp(h:jZ (CX Y) t0 (out v)):CP Y F.jZ [t0] v:=CPo 0 .o Tryz.func97 h
def bM(C:CC)(b:Nat):aS:=fun l h q=>blQ (ge l 0) fun a=>bIQ .gtr a (I 0) fun a=>gqQ a true h (ge l 0) fun c h=>gqQ a true h (ge l 0) fun d h=>gbQ a true h (bf d) fun d h=>gbQ a true h (biI .sub d (I 1)) fun d h=>gbQ a true h (ixV h 1 c d) fun c h=>gbQ a true h (ld1 h c) fun c h=>gbQ a true h (biI .eql c (.d (.int .u64 0))) fun c h=>bpQ a c (B false) fun a=>cnd a (blQ (ge l 0) fun a=>bIQ .sub a (I 1) fun a=>bnd (slV h 1 (ge l 0) none (some a)) fun a=>q .normal [a] h) (q (.exit 0) [ge l 0] h)
def aE(C:CC)(b:Nat)(h:Hp)(a:V)(q:kQ):Prop:=let h:Hp:=h++List.replicate 0 nnQ
 lp (bM C b) [] h [a] h (exK [((.exit 0),fun a h=>q (ge a 0) h)])
def mc(b:Nat):Ann:=(.n .x .o (.n .x (.n .x (.n (.l [0] [] [((.exit 0),[0],[])] []) .o .o) .o) .o))
theorem uC(C:CC)(h:Hp)(t0:V)(q:kkQ):fnI Y C Tryz.f124 0 mc [t0] h q=aE C h.length h t0 q:=by rfl
theorem uB(b:Nat):okB Tryz.prog Tryz.f124 (mc b)=true:=by rfl
theorem oW(hh:aE (CX Y) h.length h t0 (nB h.length v h2)):CI Y F.aE [t0] h v h2:=
 CI.of (fn:=Tryz.f124) (m:=0) (a:=mc) rfl (fun _=>rfl) Tryz.func124 (uB _) (by rw[uC];exact hh)
def oL(C:CC)(b:Nat)(a c:V):aS:=fun l h q=>cIQ .lss (ge l 1) c (bxQ h 1 a (ge l 1) fun a=>b1Q h a fun a=>bIQ .mul (.d (.int .u64 10)) (ge l 0) fun c=>bIQ .sub a (.d (.int .u8 48)) fun a=>bnd (cvI .u64 a) fun a=>bIQ .add c a fun a=>bIQ .add (ge l 1) (I 1) fun c=>q .normal [a,c] h) (q (.exit 2) [ge l 0] h)
def oM(C:CC)(b:Nat)(a:V):aS:=fun l h q=>cIQ .gtr (ge l 1) (I 0) (bIQ .sub (ge l 1) (I 9) fun c=>bnd (mxI true [I 0,c]) fun c=>bnd (slS a (some c) (some (ge l 1))) fun a=>cvB a h fun a h=>blQ a fun c=>lp (oL C b a c) [] h [(.d (.int .u64 0)),I 0] h (exK [((.exit 2),fun a h=>dD 1 [.int .u64 0] [(0,(ge a 0))] h fun a h=>apV false (b+1) 1 8 (ge l 0) a h fun a h=>bIQ .sub (ge l 1) (I 9) fun c=>q .normal [a,c] h)])) (q (.exit 0) [ge l 0] h)
def cV(C:CC)(b:Nat)(h:Hp)(a:V)(q:kQ):Prop:=let h:Hp:=h++List.replicate 3 nnQ
 bnd (nh a) fun c=>bIQ .quo c (I 9) fun c=>bIQ .add c (I 1) fun c=>mkS (b+0) 8 [.int .u64 0] h (I 0) c fun c h=>bnd (nh a) fun d=>lp (oM C b a) [] h [c,d] h (exK [((.exit 0),fun a h=>ciQ C h F.aE [ge a 0] (b+2) q)])
def rI(b:Nat):Ann:=(.n .x .o (.n .x (.n (.r [.slot (b+0)]) .o .o) (.n .x (.n .x .o (.n .x (.n (.l [3,4] [0] [((.exit 0),[3],[])] []) (.n .x .o (.n .x (.n .x (.n .x .o (.n .x (.n .x .o (.n .x (.n (.l [5,27] [0,3,4,25,26] [((.exit 2),[5],[0,3,4])] []) .o .o) .o)) (.n (.r [.o,.slot (b+1)]) .o .o))) .o) .o)) .o) .o)) (.n .x (.n (.r [.inl (b+2)]) .o .o) .o))))
theorem EZ(C:CC)(h:Hp)(t0:V)(q:kkQ):fnI Y C Tryz.f114 3 rI [t0] h q=cV C h.length h t0 q:=by rfl
theorem EX(b:Nat):okB Tryz.prog Tryz.f114 (rI b)=true:=by rfl
theorem EY(hh:cV (CX Y) h.length h t0 (nB h.length v h2)):CI Y F.cV [t0] h v h2:=
 CI.of (fn:=Tryz.f114) (m:=3) (a:=rI) rfl (fun _=>rfl) Tryz.func114 (EX _) (by rw[EZ];exact hh)
def dG(C:CC)(b:Nat)(a:V):aS:=fun l h q=>cIQ .lss (ge l 0) (ge l 1) (bxQ h 1 a (ge l 1) fun c=>b1Q h c fun c=>bxQ h 1 a (ge l 0) fun d=>b1Q h d fun d=>bxQ h 1 a (ge l 0) fun e=>stD h 1 e c fun _ h=>bxQ h 1 a (ge l 1) fun a=>stD h 1 a d fun _ h=>bIQ .add (ge l 0) (I 1) fun a=>bIQ .sub (ge l 1) (I 1) fun c=>q .normal [a,c] h) (q (.exit 0) [] h)
def bO(C:CC)(b:Nat)(h:Hp)(a:V)(q:kQ):Prop:=let h:Hp:=h++List.replicate 0 nnQ
 blQ a fun c=>bIQ .sub c (I 1) fun c=>lp (dG C b a) [] h [I 0,c] h (exK [((.exit 0),fun a h=>q (.tup []) h)])
def iX(b:Nat):Ann:=(.n .x .o (.n .x (.n (.l [2,3] [0] [((.exit 0),[],[])] []) .o .o) .o))
theorem qB(C:CC)(h:Hp)(t0:V)(q:kkQ):fnI Y C Tryz.f153 0 iX [t0] h q=bO C h.length h t0 q:=by kernel_rfl
theorem qz(b:Nat):okB Tryz.prog Tryz.f153 (iX b)=true:=of_decide_eq_true ag
theorem qA(hh:bO (CX Y) h.length h t0 (nB h.length v h2)):CI Y F.bO [t0] h v h2:=
 CI.of (fn:=Tryz.f153) (m:=0) (a:=iX) rfl (fun _=>rfl) Tryz.func153 (qz _) (by rw[qB];exact hh)
def cY(C:CC)(a c:V):aS:=fun l h q=>bIQ .lss (ge l 2) (I 9) fun d=>gqQ d true h c fun c h=>gbQ d true h (biI .add c (I 1)) fun c h=>gqQ d true h a fun a h=>gbQ d true h (bf a) fun a h=>gbQ d true h (biI .lss c a) fun a h=>gqQ d true h a fun a h=>gqQ a false h (ge l 1) fun c h=>gbQ a false h (biI .gtr c (.d (.int .u64 0))) fun c h=>gbQ d true h (jD a (B true) c) fun a h=>bpQ d a (B false) fun a=>cnd a (bIQ .rem (ge l 1) (.d (.int .u64 10)) fun a=>bIQ .add (.d (.int .u64 48)) a fun a=>bnd (cvI .u8 a) fun a=>dD 1 [.int .u8 0] [(0,a)] h fun a h=>apV false 1 1 1 (ge l 0) a h fun a h=>bIQ .quo (ge l 1) (.d (.int .u64 10)) fun c=>bIQ .add (ge l 2) (I 1) fun d=>q .normal [a,c,d] h) (q (.exit 2) [ge l 0] h)
def iE(C:CC)(a c d:V):aS:=fun l h q=>cIQ .lss (ge l 1) d (bxQ h 1 c (ge l 1) fun c=>b1Q h c fun c=>lp (cY C a (ge l 1)) [] h [ge l 0,c,I 0] h (exK [((.exit 2),fun a h=>bIQ .add (ge l 1) (I 1) fun c=>q .normal [ge a 0,c] h)])) (q (.exit 0) [ge l 0] h)
def aP(C:CC)(a:V)(q:kQ):Prop:=let h:Hp:=.replicate 3 nnQ
 blQ a fun c=>cIQ .eql c (I 0) (q (.d (.str [48])) h) (blQ a fun c=>bIQ .mul (I 9) c fun c=>mkS 0 1 [.int .u8 0] h (I 0) c fun c h=>blQ a fun d=>lp (iE C a a d) [] h [c,I 0] h (exK [((.exit 0),fun a h=>ciQ C h F.bO [ge a 0] 2 fun c h=>bnd (cvT h (ge a 0)) fun a=>q a h)]))
theorem uD(h:aP (CX Y) t0 (out v)):CP Y F.aP [t0] v:=CPo 3 (dV (nBQ (nRQ [.slot 0]) (nBQ (aF (nCQ (.n (.l [3,16] [0,14,15] [((.exit 0),[3],[])] []) (dV (nCQ (nCQ (dV (nCQ (.n (.l [3,5,6] [0,4,14,15,16] [((.exit 2),[3],[0,14,15,16])] []) (aF (nCQ (nCQ (nCQ (nRQ [.o,.slot 1]))))) .o)))))) .o))) (nCQ (nRQ [.inl 2]))))) Tryz.func116 h
def cW(C:CC)(a c:V):aS:=fun l h q=>cIQ .geq (ge l 0) (I 0) (bxQ h 1 a (ge l 0) fun d=>b1Q h d fun d=>bxQ h 1 c (ge l 0) fun e=>b1Q h e fun e=>cIQ .lss d e (q .ret [I (-1)] h) (bxQ h 1 a (ge l 0) fun a=>b1Q h a fun a=>bxQ h 1 c (ge l 0) fun c=>b1Q h c fun c=>cIQ .gtr a c (q .ret [I 1] h) (bIQ .sub (ge l 0) (I 1) fun a=>q .normal [a] h))) (q (.exit 0) [] h)
def cu(C:CC)(a c:V)(q:kQ):Prop:=let h:Hp:=[]
 blQ a fun d=>blQ c fun e=>cIQ .neq d e (blQ a fun a=>blQ c fun c=>bIQ .sub a c fun a=>bnd (mxI true [I (-1),a]) fun a=>bnd (mxI false [I 1,a]) fun a=>q a h) (blQ a fun d=>bIQ .sub d (I 1) fun d=>lp (cW C a c) [] h [d] h (exK [((.exit 0),fun a h=>q (I 0) h),(.ret,fun a h=>q (ge a 0) h)]))
theorem rH(h:cu (CX Y) t0 t1 (out v)):CP Y F.cu [t0,t1] v:=CPo 0 (dV (nCQ (aF (nCQ (.n (.l [5] [0,1] [((.exit 0),[],[]),(.ret,[4],[])] []) .o .o))))) Tryz.func120 h
def ib(C:CC)(b:Nat)(a c d e f:V):aS:=fun l h q=>cIQ .lss (ge l 1) f (bxQ h 1 e (ge l 1) fun e=>b1Q h e fun e=>bIQ .add c (ge l 1) fun f=>bxQ h 1 a f fun f=>b1Q h f fun f=>bIQ .mul d e fun d=>bIQ .add f d fun d=>bIQ .add (ge l 0) d fun d=>bIQ .add c (ge l 1) fun c=>bIQ .rem d (.d (.int .u64 1000000000)) fun e=>bxQ h 1 a c fun a=>stD h 1 a e fun _ h=>bIQ .quo d (.d (.int .u64 1000000000)) fun a=>bIQ .add (ge l 1) (I 1) fun c=>q .normal [a,c] h) (q (.exit 2) [ge l 0] h)
def ic(C:CC)(b:Nat)(a c d e:V):aS:=fun l h q=>cIQ .lss (ge l 0) e (bxQ h 1 d (ge l 0) fun d=>b1Q h d fun d=>blQ a fun e=>lp (ib C b c (ge l 0) d a e) [] h [(.d (.int .u64 0)),I 0] h (exK [((.exit 2),fun d h=>blQ a fun a=>bIQ .add (ge l 0) a fun a=>bxQ h 1 c a fun a=>stD h 1 a (ge d 0) fun _ h=>bIQ .add (ge l 0) (I 1) fun a=>q .normal [a] h)])) (q (.exit 0) [] h)
def bA(C:CC)(b:Nat)(h:Hp)(a c:V)(q:kQ):Prop:=let h:Hp:=h++List.replicate 2 nnQ
 blQ a fun d=>blQ c fun e=>bIQ .add d e fun d=>mkS (b+0) 8 [.int .u64 0] h d d fun d h=>blQ a fun e=>lp (ic C b c d a e) [] h [I 0] h (exK [((.exit 0),fun a h=>ciQ C h F.aE [d] (b+1) q)])
def k9(b:Nat):Ann:=(.n .x .o (.n .x (.n (.r [.slot (b+0)]) .o .o) (.n .x (.n .x .o (.n .x (.n (.l [19] [1,5,17,18] [((.exit 0),[],[5])] []) (.n .x .o (.n .x .o (.n .x (.n .x (.n .x .o (.n .x .o (.n .x (.n .x .o (.n .x (.n (.l [8,26] [1,5,6,7,17,18,19,24,25] [((.exit 2),[8],[1,5,6,17,18,19])] []) .o .o) .o)) .o))) .o) .o))) .o) .o)) (.n .x (.n (.r [.inl (b+1)]) .o .o) .o))))
theorem tQ(C:CC)(h:Hp)(t0:V)(t1:V)(q:kkQ):fnI Y C Tryz.f115 2 k9 [t0,t1] h q=bA C h.length h t0 t1 q:=by rfl
theorem tO(b:Nat):okB Tryz.prog Tryz.f115 (k9 b)=true:=by rfl
theorem tP(hh:bA (CX Y) h.length h t0 t1 (nB h.length v h2)):CI Y F.bA [t0,t1] h v h2:=
 CI.of (fn:=Tryz.f115) (m:=2) (a:=k9) rfl (fun _=>rfl) Tryz.func115 (tO _) (by rw[tQ];exact hh)
def bZ(C:CC)(b:Nat)(h:Hp)(a c:V)(q:kQ):Prop:=let h:Hp:=h++List.replicate 2 nnQ
 dD 1 [.int .u64 0] [(0,c)] h fun c h=>ciQ C h F.aE [c] (b+0) fun c h=>ciQ C h F.bA [a,c] (b+1) q
def kA(b:Nat):Ann:=(.n .x .o (.n .x (.n (.r [.o,.inl (b+0),.inl (b+1)]) .o .o) .o))
theorem sL(C:CC)(h:Hp)(t0:V)(t1:V)(q:kkQ):fnI Y C Tryz.f157 2 kA [t0,t1] h q=bZ C h.length h t0 t1 q:=by rfl
theorem sH(b:Nat):okB Tryz.prog Tryz.f157 (kA b)=true:=by rfl
theorem sJ(hh:bZ (CX Y) h.length h t0 t1 (nB h.length v h2)):CI Y F.bZ [t0,t1] h v h2:=
 CI.of (fn:=Tryz.f157) (m:=2) (a:=kA) rfl (fun _=>rfl) Tryz.func157 (sH _) (by rw[sL];exact hh)
def ie(C:CC)(a c d:V):aS:=fun l h q=>cIQ .geq (ge l 1) (I 0) (bIQ .mul (ge l 0) (.d (.int .u64 1000000000)) fun e=>bxQ h 1 a (ge l 1) fun a=>b1Q h a fun a=>bIQ .add e a fun a=>bIQ .quo a c fun e=>bxQ h 1 d (ge l 1) fun d=>stD h 1 d e fun _ h=>bIQ .rem a c fun a=>bIQ .sub (ge l 1) (I 1) fun c=>q .normal [a,c] h) (q (.exit 0) [ge l 0] h)
def cU(C:CC)(a c:V)(q:kQ):Prop:=let h:Hp:=.replicate 2 nnQ
 blQ a fun d=>mkS 0 8 [.int .u64 0] h d d fun d h=>blQ a fun e=>bIQ .sub e (I 1) fun e=>lp (ie C a c d) [] h [(.d (.int .u64 0)),e] h (exK [((.exit 0),fun a h=>ciQ C h F.aE [d] 1 fun c h=>q (.tup [c,ge a 0]) h)])
theorem tR(h:cU (CX Y) t0 t1 (out v)):CP Y F.cU [t0,t1] v:=CPo 2 (aF (nBQ (nRQ [.slot 0]) (aF (nBQ (aF (nCQ (.n (.l [7,8] [0,1,6] [((.exit 0),[7],[6])] []) .o .o))) (nCQ (nRQ [.inl 1])))))) Tryz.func121 h
def fE(C:CC)(b:Nat)(a c d e:V):aS:=fun l h q=>blQ c fun f=>cIQ .leq (ge l 2) f (blQ c fun f=>bIQ .lss (ge l 2) f fun f=>jn (fun c h=>bIQ .add e (ge l 2) fun d=>bxQ h 1 a d fun d=>b1Q h d fun d=>bnd (cvI .i64 d) fun d=>bIQ .rem (ge c 0) (.d (.int .u64 1000000000)) fun f=>bnd (cvI .i64 f) fun f=>bIQ .sub d f fun d=>bIQ .sub d (ge l 1) fun d=>bIQ .quo (ge c 0) (.d (.int .u64 1000000000)) fun c=>bIQ .lss d (I 0) fun f=>jn (fun d h=>bIQ .add e (ge l 2) fun e=>bnd (cvI .u64 (ge d 0)) fun f=>bxQ h 1 a e fun a=>stD h 1 a f fun _ h=>bIQ .add (ge l 2) (I 1) fun a=>q .normal [c,ge d 1,a] h) fun a=>cnd f (bIQ .add d (I 1000000000) fun c=>a [c,I 1] h) (a [d,I 0] h)) fun a=>cnd f (bxQ h 1 c (ge l 2) fun c=>b1Q h c fun c=>bIQ .mul d c fun c=>bIQ .add (ge l 0) c fun c=>a [c] h) (a [ge l 0] h)) (q (.exit 0) [ge l 1] h)
def dy(C:CC)(b:Nat)(h:Hp)(a c d e:V)(q:kQ):Prop:=let h:Hp:=h++List.replicate 0 nnQ
 lp (fE C b a c d e) [] h [(.d (.int .u64 0)),I 0,I 0] h (exK [((.exit 0),fun a h=>bIQ .gtr (ge a 0) (I 0) fun a=>q a h)])
def md(b:Nat):Ann:=(.n .x .o (.n .x .o (.n .x .o (.n .x (.n .x .o (.n .x (.n (.l [10,9,11] [0,1,2,3] [((.exit 0),[9],[])] []) (.n .x .o (.n .x (.n .x (.n .x (.n .x .o (.n (.j [10] [0,1,2,3,9,11]) .o .o)) (.n .x .o (.n .x .o (.n .x .o (.n .x (.n .x .o (.n (.j [12,9] [0,1,2,3,10,11]) .o .o)) .o))))) .o) .o)) .o) .o)) .o))))
theorem uG(C:CC)(h:Hp)(t0:V)(t1:V)(t2:V)(t3:V)(q:kkQ):fnI Y C Tryz.f125 0 md [t0,t1,t2,t3] h q=dy C h.length h t0 t1 t2 t3 q:=by rfl
theorem uE(b:Nat):okB Tryz.prog Tryz.f125 (md b)=true:=by rfl
theorem uF(hh:dy (CX Y) h.length h t0 t1 t2 t3 (nB h.length v h2)):CI Y F.dy [t0,t1,t2,t3] h v h2:=
 CI.of (fn:=Tryz.f125) (m:=0) (a:=md) rfl (fun _=>rfl) Tryz.func125 (uE _) (by rw[uG];exact hh)
def iF(C:CC)(b:Nat)(a c d:V):aS:=fun l h q=>blQ c fun e=>cIQ .leq (ge l 1) e (bIQ .add d (ge l 1) fun e=>bxQ h 1 a e fun e=>b1Q h e fun e=>bIQ .add (ge l 0) e fun e=>blQ c fun f=>bIQ .lss (ge l 1) f fun f=>jn (fun c h=>bIQ .add d (ge l 1) fun d=>bIQ .rem (ge c 0) (.d (.int .u64 1000000000)) fun e=>bxQ h 1 a d fun a=>stD h 1 a e fun _ h=>bIQ .quo (ge c 0) (.d (.int .u64 1000000000)) fun a=>bIQ .add (ge l 1) (I 1) fun c=>q .normal [a,c] h) fun a=>cnd f (bxQ h 1 c (ge l 1) fun c=>b1Q h c fun c=>bIQ .add e c fun c=>a [c] h) (a [e] h)) (q (.exit 0) [] h)
def cI(C:CC)(b:Nat)(h:Hp)(a c d:V)(q:kQ):Prop:=let h:Hp:=h++List.replicate 0 nnQ
 lp (iF C b a c d) [] h [(.d (.int .u64 0)),I 0] h (exK [((.exit 0),fun a h=>q (.tup []) h)])
def me(b:Nat):Ann:=(.n .x .o (.n .x .o (.n .x (.n (.l [6,7] [0,1,2] [((.exit 0),[],[])] []) (.n .x .o (.n .x (.n .x (.n .x .o (.n .x (.n .x .o (.n (.j [6] [0,1,2,7]) .o .o)) .o)) .o) .o)) .o) .o)))
theorem uJ(C:CC)(h:Hp)(t0:V)(t1:V)(t2:V)(q:kkQ):fnI Y C Tryz.f123 0 me [t0,t1,t2] h q=cI C h.length h t0 t1 t2 q:=by rfl
theorem uH(b:Nat):okB Tryz.prog Tryz.f123 (me b)=true:=by rfl
theorem uI(hh:cI (CX Y) h.length h t0 t1 t2 (nB h.length v h2)):CI Y F.cI [t0,t1,t2] h v h2:=
 CI.of (fn:=Tryz.f123) (m:=0) (a:=me) rfl (fun _=>rfl) Tryz.func123 (uH _) (by rw[uJ];exact hh)
def jY(C:CC)(a:V):aS:=fun l h q=>blQ (ge l 0) fun c=>blQ a fun a=>cIQ .leq c a (dD 1 [.int .u64 0] [(0,(.d (.int .u64 0)))] h fun a h=>apV false 3 1 8 (ge l 0) a h fun a h=>q .normal [a] h) (q (.exit 0) [ge l 0] h)
def bu(C:CC)(a c d e:V):aS:=fun l h q=>bIQ .geq (ge l 0) (.d (.int .u64 1000000000)) fun f=>gqQ f false h (ge l 1) fun g h=>gbQ f false h (biI .lss g (.d (.int .u64 1000000000))) fun g h=>gqQ f false h g fun g h=>gqQ g true h (ge l 0) fun i h=>gqQ g true h c fun j h=>gqQ g true h d fun k h=>gbQ g true h (biI .sub k (I 2)) fun k h=>gbQ g true h (ixV h 1 j k) fun j h=>gbQ g true h (ld1 h j) fun j h=>gbQ g true h (biI .mul i j) fun i h=>gqQ g true h (ge l 1) fun j h=>gbQ g true h (biI .mul j (.d (.int .u64 1000000000))) fun j h=>gqQ g true h a fun a h=>gqQ g true h e fun e h=>gqQ g true h d fun k h=>gbQ g true h (biI .add e k) fun e h=>gbQ g true h (biI .sub e (I 2)) fun e h=>gbQ g true h (ixV h 1 a e) fun a h=>gbQ g true h (ld1 h a) fun a h=>gbQ g true h (biI .add j a) fun a h=>gbQ g true h (biI .gtr i a) fun a h=>gbQ f false h (jD g a (B false)) fun a h=>bpQ f (B true) a fun a=>cnd a (bIQ .sub (ge l 0) (.d (.int .u64 1)) fun a=>bIQ .sub d (I 1) fun d=>bxQ h 1 c d fun c=>b1Q h c fun c=>bIQ .add (ge l 1) c fun c=>q .normal [a,c] h) (q (.exit 4) [ge l 0] h)
def dt(C:CC)(a c d e:V):aS:=fun l h q=>cIQ .geq (ge l 0) (I 0) (bIQ .add (ge l 0) d fun f=>bxQ h 1 a f fun f=>b1Q h f fun f=>bIQ .mul f (.d (.int .u64 1000000000)) fun f=>bIQ .add (ge l 0) d fun g=>bIQ .sub g (I 1) fun g=>bxQ h 1 a g fun g=>b1Q h g fun g=>bIQ .add f g fun f=>bIQ .sub d (I 1) fun g=>bxQ h 1 c g fun g=>b1Q h g fun g=>bIQ .quo f g fun g=>bIQ .sub d (I 1) fun i=>bxQ h 1 c i fun i=>b1Q h i fun i=>bIQ .rem f i fun f=>lp (bu C a c d (ge l 0)) [] h [g,f] h (exK [((.exit 4),fun d h=>ciQ C h F.dy [a,c,ge d 0,ge l 0] 5 fun f h=>jn (fun a h=>bxQ h 1 e (ge l 0) fun c=>stD h 1 c (ge a 0) fun _ h=>bIQ .sub (ge l 0) (I 1) fun a=>q .normal [a] h) fun e=>cnd f (bIQ .sub (ge d 0) (.d (.int .u64 1)) fun d=>ciQ C h F.cI [a,c,ge l 0] 6 fun a h=>e [d] h) (e [ge d 0] h))])) (q (.exit 2) [] h)
def dE(C:CC)(a c:V)(q:kQ):Prop:=let h:Hp:=.replicate 9 nnQ
 blQ c fun d=>bIQ .sub d (I 1) fun d=>bxQ h 1 c d fun d=>b1Q h d fun d=>bIQ .add d (.d (.int .u64 1)) fun d=>bIQ .quo (.d (.int .u64 1000000000)) d fun d=>ciQ C h F.bZ [a,d] 0 fun e h=>dD 1 [.int .u64 0] [(0,(.d (.int .u64 0)))] h fun f h=>apV false 1 1 8 e f h fun e h=>ciQ C h F.bZ [c,d] 2 fun c h=>blQ c fun f=>lp (jY C a) [] h [e] h (exK [((.exit 0),fun a h=>blQ (ge a 0) fun e=>bIQ .sub e f fun e=>mkS 4 8 [.int .u64 0] h e e fun e h=>blQ (ge a 0) fun g=>bIQ .sub g f fun g=>bIQ .sub g (I 1) fun g=>lp (dt C (ge a 0) c f e) [5,6] h [g] h (exK [((.exit 2),fun c h=>ciQ C h F.aE [ge a 0] 7 fun a h=>clQ C h F.cU [a,d] fun a h=>e2Q a fun a c=>ciQ C h F.aE [e] 8 fun c h=>q (.tup [c,a]) h)]))])
def kC:Ann:=(dV (nBQ (nRQ [.inl 0,.o,.slot 1,.inl 2]) (aF (nBQ (nCQ (.n (.l [7] [0,6,8,9] [((.exit 0),[7],[6,8,9])] []) (aF (nCQ (nRQ [.o,.slot 3]))) .o)) (nBQ (nRQ [.slot 4]) (nBQ (aF (nCQ (.n (.l [11] [6,7,8,9,10] [((.exit 2),[],[6,7,10])] [5,6]) (aF (nCQ (nCQ (dV (nBQ (nCQ (.n (.l [13,14] [6,7,8,9,10,11] [((.exit 4),[13],[6,7,8,9,10,11])] []) .o .o)) (nCQ (nBQ (nRQ [.inl 5]) (.n (.j [13] [6,7,8,9,10,11]) (aF (nRQ [.inl 6])) .o)))))))) .o))) (nBQ (nRQ [.inl 7]) (nCQ (nRQ [.inl 8])))))))))
attribute [local irreducible] bnd gd cal cnd ext dD tC stD alV alD eT jn lp exK mkS apV cai xi in
theorem sQ(C:CC)(t0:V)(t1:V)(q:kkQ):fnD Y C Tryz.f122 9 kC [t0,t1] q=dE C t0 t1 q:=Re
theorem sN:okB Tryz.prog Tryz.f122 kC=true:=aD
theorem sO(h:dE (CX Y) t0 t1 (out v)):CP Y F.dE [t0,t1] v:=
 CP.of (fn:=Tryz.f122) (m:=9) (a:=kC) rfl (fun _=>rfl) Tryz.func122 sN (by rw[sQ];exact h)
def dM(C:CC)(a c d:V):aS:=fun l h q=>cIQ .lss (ge l 0) d (bxQ h 1 a (ge l 0) fun a=>b1Q h a fun a=>cal C.p h c [a] fun a h=>cnd a (q .ret [ge l 0] h) (bIQ .add (ge l 0) (I 1) fun a=>q .normal [a] h)) (q (.exit 0) [] h)
def aY(C:CC)(a c:V)(q:kQ):Prop:=let h:Hp:=[]
 blQ a fun d=>lp (dM C a c d) [] h [I 0] h (exK [((.exit 0),fun a h=>q (I (-1)) h),(.ret,fun a h=>q (ge a 0) h)])
theorem o7(h:aY (CX Y) t0 t1 (out v)):CP Y F.aY [t0,t1] v:=CPo 0 (aF (nCQ (aF (nCQ (.n (.l [8] [0,1,7] [((.exit 0),[],[]),(.ret,[4],[])] []) .o .o))))) Tryz.func144 h
def aZ(C:CC)(a c:V)(q:kQ):Prop:=let h:Hp:=[]
 clQ C h F.aY [a,c] fun a h=>bIQ .geq a (I 0) fun a=>q a h
theorem oi(h:aZ (CX Y) t0 t1 (out v)):CP Y F.aZ [t0,t1] v:=CPo 0 .o Tryz.func106 h
def mD(C:CC)(a c d:V):aS:=fun l h q=>cIQ .lss (ge l 0) d (bxQ h 1 a (ge l 0) fun a=>b1Q h a fun a=>cal C.p h c [a] fun a h=>cnd a (q .ret [ge l 0] h) (bIQ .add (ge l 0) (I 1) fun a=>q .normal [a] h)) (q (.exit 0) [] h)
def cQ(C:CC)(a c:V)(q:kQ):Prop:=let h:Hp:=[]
 blQ a fun d=>lp (mD C a c d) [] h [I 0] h (exK [((.exit 0),fun a h=>q (I (-1)) h),(.ret,fun a h=>q (ge a 0) h)])
theorem mQ(h:cQ (CX Y) t0 t1 (out v)):CP Y F.cQ [t0,t1] v:=CPo 0 (aF (nCQ (aF (nCQ (.n (.l [8] [0,1,7] [((.exit 0),[],[]),(.ret,[4],[])] []) .o .o))))) Tryz.func193 h
def aU(C:CC)(a c:V)(q:kQ):Prop:=let h:Hp:=[]
 clQ C h F.cQ [a,c] fun a h=>bIQ .geq a (I 0) fun a=>q a h
theorem lV(h:aU (CX Y) t0 t1 (out v)):CP Y F.aU [t0,t1] v:=CPo 0 .o Tryz.func187 h
def aQ(C:CC)(a:V)(q:kQ):Prop:=let h:Hp:=[]
 bnd (nh a) fun c=>bIQ .gtr c (I 0) fun c=>gqQ c true h a fun d h=>gbQ c true h (ixS d (I 0)) fun d h=>gbQ c true h (biI .eql d (.d (.int .u8 45))) fun d h=>bpQ c d (B false) fun c=>cnd c (bnd (slS a (some (I 1)) none) fun a=>q (.tup [B true,a]) h) (q (.tup [B false,a]) h)
theorem Ey(h:aQ (CX Y) t0 (out v)):CP Y F.aQ [t0] v:=CPo 0 .o Tryz.func82 h
def mA(C:CC)(a:V)(q:kQ):Prop:=let h:Hp:=[]
 clQ C h F.aQ [a] fun a h=>e2Q a fun a c=>gqQ a true h c fun d h=>gbQ a true h (biS .eql d (.d (.str [48]))) fun d h=>bpQ a d (B false) fun a=>gqQ a false h c fun c h=>gd a false h (fun q=>clQ C h F.jZ [c] q) fun c h=>gbQ a false h (biI .neq c (I 0)) fun c h=>bpQ a (B true) c fun a=>cnd a (q (I 2) h) (q (I 0) h)
theorem EB(h:mA (CX Y) t0 (out v)):CP Y F.mA [t0] v:=CPo 0 .o Tryz.func72 h
def cX(C:CC)(a:V)(q:kQ):Prop:=let h:Hp:=[]
 bSQ .eql a (.d (.str [48])) fun c=>cnd c (q (I 0) h) (bnd (ixS a (I 0)) fun a=>cIQ .eql a (.d (.int .u8 45)) (q (I (-1)) h) (q (I 1) h))
theorem GO(h:cX (CX Y) t0 (out v)):CP Y F.cX [t0] v:=CPo 0 .o Tryz.func50 h
def dF(C:CC)(a:V)(q:kQ):Prop:=let h:Hp:=[]
 clQ C h F.strconv_Itoa [a] q
theorem Ce(h:dF (CX Y) t0 (out v)):CP Y F.dF [t0] v:=CPo 0 .o Tryz.func36 h
def bD(C:CC)(a c:V)(q:kQ):Prop:=let h:Hp:=[]
 bnd (nh a) fun d=>cIQ .gtr d c (q (.tup [I 0,B false]) h) (clQ C h F.strconv_Atoi [a] fun a h=>e2Q a fun a c=>bnd (biF .eql c (.d (.pl .nilIface))) fun c=>q (.tup [a,c]) h)
theorem qu(h:bD (CX Y) t0 t1 (out v)):CP Y F.bD [t0,t1] v:=CPo 0 .o Tryz.func81 h
def gn(C:CC)(a:V)(q:kQ):Prop:=let h:Hp:=[]
 clQ C h F.aQ [a] fun a h=>e2Q a fun a c=>q c h
theorem Av(h:gn (CX Y) t0 (out v)):CP Y F.gn [t0] v:=CPo 0 .o Tryz.func74 h
def pY(C:CC):aS:=fun l h q=>cIQ .neq (ge l 1) (I 0) (bIQ .rem (ge l 0) (ge l 1) fun a=>q .normal [ge l 1,a] h) (q (.exit 0) [ge l 0] h)
def qk(C:CC)(a c:V)(q:kQ):Prop:=let h:Hp:=[]
 lp (pY C) [] h [a,c] h (exK [((.exit 0),fun a h=>q (ge a 0) h)])
theorem Iw(h:qk (CX Y) t0 t1 (out v)):CP Y F.qk [t0,t1] v:=CPo 0 (aF (nCQ (nCQ (.n (.l [0,1] [] [((.exit 0),[0],[])] []) .o .o)))) Tryz.func98 h
def nS(C:CC)(a c:V)(q:kQ):Prop:=let h:Hp:=[]
 clQ C h F.gn [a] fun a h=>clQ C h F.gn [c] fun c h=>clQ C h F.bD [a,I 18] fun d h=>e2Q d fun d e=>jn (fun d h=>clQ C h F.mN [a,c] q) fun a=>cnd e (clQ C h F.bD [c,I 18] fun c h=>e2Q c fun c e=>cnd e (clQ C h F.qk [d,c] fun a h=>clQ C h F.dF [a] q) (a [] h)) (a [] h)
theorem IB(h:nS (CX Y) t0 t1 (out v)):CP Y F.nS [t0,t1] v:=CPo 0 (dV (nCQ (dV (nJQ [] [5,6])))) Tryz.func73 h
def gN(C:CC)(a:V)(q:kQ):Prop:=let h:Hp:=.replicate 1 nnQ
 eT 0 a h fun a h=>bfQ 0 a fun c=>b1Q h c fun c=>clQ C h F.mA [c] fun c h=>bIQ .neq c (I 0) fun c=>jn (fun c h=>cnd (ge c 0) (q (I 2) h) (bfQ 1 a fun c=>b1Q h c fun c=>clQ C h F.cX [c] fun c h=>bIQ .leq c (I 0) fun c=>jn (fun a h=>cnd (ge a 0) (q (I 2) h) (q (I 0) h)) fun d=>cnd c (d [c] h) (bfQ 0 a fun c=>b1Q h c fun c=>bfQ 1 a fun a=>b1Q h a fun a=>clQ C h F.nS [c,a] fun a h=>bSQ .neq a (.d (.str [49])) fun a=>d [a] h))) fun d=>cnd c (d [c] h) (bfQ 1 a fun a=>b1Q h a fun a=>clQ C h F.mA [a] fun a h=>bIQ .neq a (I 0) fun a=>d [a] h)
theorem zV(h:gN (CX Y) t0 (out v)):CP Y F.gN [t0] v:=CPo 1 (nBQ (nRQ [.slot 0]) (nCQ (nCQ (nBQ (aF (nJQ [3] [1])) (aF (nCQ (aF (nJQ [12] [])))))))) Tryz.func48 h
def lF(C:CC)(a:V)(q:kQ):Prop:=let h:Hp:=[]
 clQ C h F.aQ [a] fun a h=>e2Q a fun a c=>bnd (unV .not a) fun a=>clQ C h F.bU [a,c] q
theorem Iy(h:lF (CX Y) t0 (out v)):CP Y F.lF [t0] v:=CPo 0 .o Tryz.func75 h
def kK(C:CC)(a:V)(q:kQ):Prop:=let h:Hp:=[]
 clQ C h F.eV [a,I 10,I 64] fun a h=>e2Q a fun a c=>bnd (biF .neq c (.d (.pl .nilIface))) fun c=>cnd c (q (.tup [I 0,B false]) h) (q (.tup [a,B true]) h)
theorem Ez(h:kK (CX Y) t0 (out v)):CP Y F.kK [t0] v:=CPo 0 .o Tryz.func57 h
def dU(C:CC)(a c:V)(q:kQ):Prop:=let h:Hp:=[]
 clQ C h F.cX [a] fun d h=>clQ C h F.cX [c] fun e h=>cIQ .neq d e (cIQ .lss d e (q (I (-1)) h) (q (I 1) h)) (clQ C h F.aQ [a] fun a h=>e2Q a fun a d=>clQ C h F.aQ [c] fun c h=>e2Q c fun c e=>jn (fun a h=>clQ C h F.cg [ge a 0,ge a 1] q) fun c=>cnd a (c [e,d] h) (c [d,e] h))
theorem tW(h:dU (CX Y) t0 t1 (out v)):CP Y F.dU [t0,t1] v:=CPo 0 (L8 (nCQ (aF (nJQ [8,10] [])))) Tryz.func61 h
def aW(C:CC)(a c:V)(q:kQ):Prop:=let h:Hp:=[]
 bSQ .eql c (.d (.str [48])) fun d=>cnd d (q (.tup [(.d (.str [])),(.d (.str [])),I 17]) h) (clQ C h F.bD [a,I 18] fun d h=>e2Q d fun d e=>jn (fun d h=>clQ C h F.aQ [a] fun a h=>e2Q a fun a d=>clQ C h F.aQ [c] fun c h=>e2Q c fun c e=>clQ C h F.dT [d,e] fun d h=>e3Q d fun d f g=>nzQ g (q (.tup [(.d (.str [])),(.d (.str [])),g]) h) (bnd (biB .neq a c) fun g=>gqQ g true h f fun i h=>gbQ g true h (biS .neq i (.d (.str [48]))) fun i h=>bpQ g i (B false) fun g=>jn (fun d h=>bnd (biB .neq a c) fun a=>clQ C h F.bU [a,ge d 0] fun a h=>clQ C h F.bU [c,ge d 1] fun c h=>q (.tup [a,c,I 0]) h) fun a=>cnd g (clQ C h F.fX [d,(.d (.str [49]))] fun c h=>clQ C h F.gQ [e,f] fun d h=>e2Q d fun d e=>a [c,d] h) (a [d,f] h))) fun a=>cnd e (clQ C h F.bD [c,I 18] fun c h=>e2Q c fun c e=>cnd e (bIQ .quo d c fun a=>bIQ .rem d c fun d=>bIQ .neq d (I 0) fun e=>gqQ e true h d fun f h=>gbQ e true h (biI .lss f (I 0)) fun f h=>gqQ e true h c fun g h=>gbQ e true h (biI .lss g (I 0)) fun g h=>gbQ e true h (biB .neq f g) fun f h=>bpQ e f (B false) fun e=>jn (fun a h=>clQ C h F.dF [ge a 0] fun c h=>clQ C h F.dF [ge a 1] fun a h=>q (.tup [c,a,I 0]) h) fun f=>cnd e (bIQ .sub a (I 1) fun a=>bIQ .add d c fun c=>f [a,c] h) (f [a,d] h)) (a [] h)) (a [] h))
def qw:Ann:=(dV (nBQ (dV (.n (.j [] [0,1]) (dV (nCQ (aF (nCQ (aF (nJQ [11,12] [])))))) .o)) (L8 (nCQ (aF (nJQ [17,18] [13,15]))))))
theorem Cg(C:CC)(t0:V)(t1:V)(q:kkQ):fnD Y C Tryz.f67 0 qw [t0,t1] q=aW C t0 t1 q:=by kernel_rfl
theorem Cf:okB Tryz.prog Tryz.f67 qw=true:=aD
theorem uL(h:aW (CX Y) t0 t1 (out v)):CP Y F.aW [t0,t1] v:=
 CP.of (fn:=Tryz.f67) (m:=0) (a:=qw) rfl (fun _=>rfl) Tryz.func67 Cf (by rw[Cg];exact h)
def oY(C:CC)(a c:V)(q:kQ):Prop:=let h:Hp:=[]
 clQ C h F.gn [a] fun a h=>clQ C h F.gn [c] fun c h=>clQ C h F.og [a,c] q
theorem IA(h:oY (CX Y) t0 t1 (out v)):CP Y F.oY [t0,t1] v:=CPo 0 .o Tryz.func66 h
def kM(C:CC)(a c:V)(q:kQ):Prop:=let h:Hp:=[]
 cIQ .lss c (I 0) (q (.tup [(.d (.str [])),I 3]) h) (clQ C h F.aQ [a] fun a h=>e2Q a fun a d=>bnd (nh d) fun e=>bIQ .quo (I 4000) e fun e=>cIQ .gtr c e (q (.tup [(.d (.str [])),I 4]) h) (clQ C h F.iO [d,c] fun d h=>e2Q d fun d e=>nzQ e (q (.tup [(.d (.str [])),e]) h) (gqQ a true h c fun c h=>gbQ a true h (biI .rem c (I 2)) fun c h=>gbQ a true h (biI .eql c (I 1)) fun c h=>bpQ a c (B false) fun a=>clQ C h F.bU [a,d] fun a h=>q (.tup [a,I 0]) h)))
theorem EA(h:kM (CX Y) t0 t1 (out v)):CP Y F.kM [t0,t1] v:=CPo 0 .o Tryz.func128 h
def og(C:CC)(a c:V)(q:kQ):Prop:=let h:Hp:=[]
 bSQ .eql a (.d (.str [48])) fun d=>gqQ d false h c fun e h=>gbQ d false h (biS .eql e (.d (.str [48]))) fun e h=>bpQ d (B true) e fun d=>cnd d (q (.d (.str [48])) h) (clQ C h F.mN [a,c] fun d h=>clQ C h F.dT [a,d] fun a h=>e3Q a fun a d e=>nzQ e (q (.d (.str [])) h) (clQ C h F.jL [a,c] q))
theorem E8(h:og (CX Y) t0 t1 (out v)):CP Y F.og [t0,t1] v:=CPo 0 .o Tryz.func90 h
def Bq(C:CC)(a c:V):aS:=fun l h q=>cIQ .lss (ge l 1) c (bxQ h 1 a (ge l 1) fun c=>b1Q h c fun c=>bIQ .mul c (.d (.int .u64 1000000000)) fun c=>bIQ .add (ge l 0) c fun c=>bIQ .and c (.d (.int .u64 4294967295)) fun d=>bxQ h 1 a (ge l 1) fun a=>stD h 1 a d fun _ h=>bIQ .shr c (.d (.int .u64 32)) fun a=>bIQ .add (ge l 1) (I 1) fun c=>q .normal [a,c] h) (q (.exit 2) [ge l 0] h)
def Br(C:CC)(a:V):aS:=fun l h q=>cIQ .geq (ge l 1) (I 0) (jn (fun a h=>bIQ .sub (ge l 1) (I 1) fun c=>q .normal [ge a 0,c] h) fun c=>bxQ h 1 a (ge l 1) fun a=>b1Q h a fun a=>blQ (ge l 0) fun d=>lp (Bq C (ge l 0) d) [] h [a,I 0] h (exK [((.exit 2),fun a h=>bIQ .gtr (ge a 0) (.d (.int .u64 0)) fun d=>jn (fun a h=>c [ge a 0] h) fun c=>cnd d (dD 1 [.int .u64 0] [(0,(ge a 0))] h fun a h=>apV false 1 1 8 (ge l 0) a h fun a h=>c [a] h) (c [ge l 0] h))])) (q (.exit 0) [ge l 0] h)
def m7(C:CC)(a:V)(q:kQ):Prop:=let h:Hp:=.replicate 2 nnQ
 clQ C h F.iN [a] fun c h=>e2Q c fun c d=>cnd d (clQ C h F.eO [c] q) (ciQ C h F.cV [a] 0 fun a h=>blQ a fun c=>bIQ .sub c (I 1) fun c=>lp (Br C a) [] h [nSQ,c] h (exK [((.exit 0),fun a h=>blQ (ge a 0) fun c=>bIQ .sub c (I 1) fun c=>bIQ .mul (I 32) c fun c=>blQ (ge a 0) fun d=>bIQ .sub d (I 1) fun d=>bxQ h 1 (ge a 0) d fun a=>b1Q h a fun a=>clQ C h F.eO [a] fun a h=>bIQ .add c a fun a=>q a h)]))
theorem Ed(h:m7 (CX Y) t0 (out v)):CP Y F.m7 [t0] v:=CPo 2 (zD (nBQ (nRQ [.inl 0]) (nCQ (aF (nCQ (.n (.l [5,7] [6] [((.exit 0),[5],[])] []) (aF (nCQ (.n (.j [5] [6,7]) (aF (nBQ (aF (nCQ (.n (.l [8,33] [5,6,7,32] [((.exit 2),[8],[5,6,7])] []) .o .o))) (aF (.n (.j [5] [6,7]) (nRQ [.o,.slot 1]) .o)))) .o))) .o)))))) Tryz.func182 h
def kD(C:CC):aS:=fun l h q=>cIQ .gtr (ge l 2) (I 0) (jn (fun a h=>bIQ .shr (ge l 2) (.d (.int .u64 1)) fun c=>q .normal [ge a 0,ge a 1,c] h) fun a=>bIQ .and (ge l 2) (I 1) fun c=>bIQ .eql c (I 1) fun c=>jn (fun c h=>bIQ .gtr (ge l 2) (I 1) fun d=>jn (fun d h=>a [ge c 0,ge d 0] h) fun a=>cnd d (ciQ C h F.bA [ge l 1,ge l 1] 2 fun c h=>a [c] h) (a [ge l 1] h)) fun a=>cnd c (ciQ C h F.bA [ge l 0,ge l 1] 1 fun c h=>a [c] h) (a [ge l 0] h)) (q (.exit 1) [ge l 0] h)
def iO(C:CC)(a c:V)(q:kQ):Prop:=let h:Hp:=.replicate 3 nnQ
 cIQ .lss c (I 0) (q (.tup [(.d (.str [])),I 3]) h) (bIQ .eql c (I 0) fun d=>gqQ d false h a fun e h=>gbQ d false h (biS .eql e (.d (.str [49]))) fun e h=>bpQ d (B true) e fun d=>cnd d (q (.tup [(.d (.str [49])),I 0]) h) (bSQ .eql a (.d (.str [48])) fun d=>cnd d (q (.tup [(.d (.str [48])),I 0]) h) (clQ C h F.m7 [a] fun d h=>bIQ .sub d (I 1) fun d=>bIQ .quo (I 66439) d fun d=>cIQ .gtr c d (q (.tup [(.d (.str [])),I 4]) h) (dD 1 [.int .u64 0] [(0,(.d (.int .u64 1)))] h fun d h=>ciQ C h F.cV [a] 0 fun a h=>lp (kD C) [] h [d,a,c] h (exK [((.exit 1),fun a h=>clQ C h F.aP [ge a 0] fun a h=>bnd (nh a) fun c=>cIQ .gtr c (I 20000) (q (.tup [(.d (.str [])),I 4]) h) (q (.tup [a,I 0]) h))])))))
def pS:Ann:=(zD (nBQ (nRQ [.o,.inl 0]) (nCQ (nCQ (.n (.l [7,8,1] [] [((.exit 1),[7],[])] []) (aF (nCQ (.n (.j [7,8] [1]) (nBQ (aF (.n (.j [7] [1,8]) (nRQ [.inl 1]) .o)) (aF (.n (.j [8] [1,7]) (nRQ [.inl 2]) .o))) .o))) .o)))))
attribute [local irreducible] bnd gd cal cnd ext dD tC stD alV alD eT jn lp exK mkS apV cai xi in
theorem Bo(C:CC)(t0:V)(t1:V)(q:kkQ):fnD Y C Tryz.f160 3 pS [t0,t1] q=iO C t0 t1 q:=Re
theorem Bm:okB Tryz.prog Tryz.f160 pS=true:=aD
theorem Bn(h:iO (CX Y) t0 t1 (out v)):CP Y F.iO [t0,t1] v:=
 CP.of (fn:=Tryz.f160) (m:=3) (a:=pS) rfl (fun _=>rfl) Tryz.func160 Bm (by rw[Bo];exact h)
def fW(C:CC)(a:V)(q:kQ):Prop:=let h:Hp:=[]
 bnd (nh a) fun c=>cIQ .gtr c (I 9) (q (.tup [I 0,B false]) h) (clQ C h F.strconv_Atoi [a] fun a h=>e2Q a fun a c=>bnd (biF .eql c (.d (.pl .nilIface))) fun c=>q (.tup [a,c]) h)
theorem yn(h:fW (CX Y) t0 (out v)):CP Y F.fW [t0] v:=CPo 0 .o Tryz.func85 h
def dp(C:CC)(a:V)(q:kQ):Prop:=let h:Hp:=.replicate 1 nnQ
 eT 0 a h fun a h=>bfQ 0 a fun c=>b1Q h c fun c=>clQ C h F.fW [c] fun c h=>e2Q c fun c d=>bfQ 1 a fun a=>b1Q h a fun a=>clQ C h F.fW [a] fun a h=>e2Q a fun a e=>gqQ d true h e fun e h=>bpQ d e (B false) fun d=>q (.tup [c,a,d]) h
theorem Bg(h:dp (CX Y) t0 (out v)):CP Y F.dp [t0] v:=CPo 1 (nCQ (nRQ [.slot 0])) Tryz.func60 h
def mL(C:CC):aS:=fun l h q=>cIQ .neq (ge l 1) (I 0) (bIQ .rem (ge l 0) (ge l 1) fun a=>q .normal [ge l 1,a] h) (q (.exit 0) [ge l 0] h)
def iM(C:CC)(a c:V)(q:kQ):Prop:=let h:Hp:=.replicate 1 nnQ
 alV 0 [.d (.str []),.d (.str [])] h fun d h=>lp (mL C) [] h [a,c] h (exK [((.exit 0),fun e h=>bIQ .lss (ge e 0) (I 0) fun f=>jn (fun e h=>bIQ .quo a (ge e 0) fun a=>clQ C h F.strconv_Itoa [a] fun a h=>bIQ .quo c (ge e 0) fun c=>clQ C h F.strconv_Itoa [c] fun c h=>bnd (bld [(0,1),(1,1)] [.str [],.str []] [(0,a),(1,c)]) fun a=>stD h 2 d a fun _ h=>bnd (ldA h 2 d) fun a=>q a h) fun a=>cnd f (bnd (unV .neg (ge e 0)) fun c=>a [c] h) (a [ge e 0] h))])
theorem ES(h:iM (CX Y) t0 t1 (out v)):CP Y F.iM [t0,t1] v:=CPo 1 (nBQ (nRQ [.slot 0]) (aF (nBQ (nCQ (.n (.l [5,6] [0,1,4] [((.exit 0),[5],[0,1,4])] []) .o .o)) (nCQ (aF (nJQ [5] [0,1,4])))))) Tryz.func89 h
def bq(C:CC)(a c:V)(q:kQ):Prop:=let h:Hp:=.replicate 1 nnQ
 alV 0 [.d (.str []),.d (.str [])] h fun d h=>clQ C h F.cX [c] fun e h=>bIQ .lss e (I 0) fun e=>jn (fun a h=>clQ C h F.nS [ge a 0,ge a 1] fun c h=>bSQ .neq c (.d (.str [49])) fun e=>jn (fun a h=>bnd (bld [(0,1),(1,1)] [.str [],.str []] [(0,(ge a 0)),(1,(ge a 1))]) fun a=>stD h 2 d a fun _ h=>bnd (ldA h 2 d) fun a=>q a h) fun d=>cnd e (clQ C h F.aW [ge a 0,c] fun e h=>e3Q e fun e f g=>clQ C h F.aW [ge a 1,c] fun a h=>e3Q a fun a c f=>d [e,a] h) (d [ge a 0,ge a 1] h)) fun d=>cnd e (clQ C h F.lF [a] fun a h=>clQ C h F.lF [c] fun c h=>d [a,c] h) (d [a,c] h)
theorem yl(h:bq (CX Y) t0 t1 (out v)):CP Y F.bq [t0,t1] v:=CPo 1 (nBQ (nRQ [.slot 0]) (nBQ (aF (nJQ [0,1] [4])) (nCQ (dV (nJQ [0,1] [4]))))) Tryz.func51 h
def fD(C:CC)(a c:V)(q:kQ):Prop:=let h:Hp:=.replicate 3 nnQ
 eT 0 a h fun a h=>eT 1 c h fun c h=>alV 2 [.d (.str []),.d (.str [])] h fun d h=>bfQ 1 a fun e=>b1Q h e fun e=>bSQ .eql e (.d (.str [49])) fun e=>gbQ e true h (faV 1 c) fun f h=>gbQ e true h (ld1 h f) fun f h=>gbQ e true h (biS .eql f (.d (.str [49]))) fun f h=>bpQ e f (B false) fun e=>cnd e (bfQ 0 a fun a=>b1Q h a fun a=>bfQ 0 c fun c=>b1Q h c fun c=>clQ C h F.cJ [a,c] fun a h=>bnd (bld [(0,1),(1,1)] [.str [],.str []] [(0,a),(1,(.d (.str [49])))]) fun a=>stD h 2 d a fun _ h=>bnd (ldA h 2 d) fun a=>q a h) (bnd (ldA h 2 a) fun e=>clQ C h F.dp [e] fun e h=>e3Q e fun e f g=>jn (fun e h=>bfQ 0 a fun e=>b1Q h e fun e=>bfQ 1 c fun f=>b1Q h f fun f=>clQ C h F.aR [e,f] fun e h=>bfQ 0 c fun f=>b1Q h f fun f=>bfQ 1 a fun g=>b1Q h g fun g=>clQ C h F.aR [f,g] fun f h=>clQ C h F.cJ [e,f] fun e h=>bfQ 1 a fun a=>b1Q h a fun a=>bfQ 1 c fun c=>b1Q h c fun c=>clQ C h F.aR [a,c] fun a h=>clQ C h F.bq [e,a] fun a h=>stD h 2 d a fun _ h=>bnd (ldA h 2 d) fun a=>q a h) fun a=>cnd g (bnd (ldA h 2 c) fun c=>clQ C h F.dp [c] fun c h=>e3Q c fun c g i=>cnd i (bIQ .mul e g fun a=>bIQ .mul c f fun c=>bIQ .add a c fun a=>bIQ .mul f g fun c=>clQ C h F.iM [a,c] fun a h=>stD h 2 d a fun _ h=>bnd (ldA h 2 d) fun a=>q a h) (a [] h)) (a [] h))
def qM:Ann:=(nBQ (nRQ [.slot 0,.slot 1,.slot 2]) (aF (nCQ (dV (nJQ [] [2,3,4])))))
theorem DW(C:CC)(t0:V)(t1:V)(q:kkQ):fnD Y C Tryz.f64 3 qM [t0,t1] q=fD C t0 t1 q:=by kernel_rfl
theorem DU:okB Tryz.prog Tryz.f64 qM=true:=aD
theorem DV(h:fD (CX Y) t0 t1 (out v)):CP Y F.fD [t0,t1] v:=
 CP.of (fn:=Tryz.f64) (m:=3) (a:=qM) rfl (fun _=>rfl) Tryz.func64 DU (by rw[DW];exact h)
def k8(C:CC)(a c:V)(q:kQ):Prop:=let h:Hp:=.replicate 3 nnQ
 eT 0 a h fun a h=>eT 1 c h fun c h=>alV 2 [.d (.str []),.d (.str [])] h fun d h=>bnd (ldA h 2 a) fun e=>clQ C h F.dp [e] fun e h=>e3Q e fun e f g=>jn (fun e h=>bfQ 0 a fun e=>b1Q h e fun e=>bfQ 0 c fun f=>b1Q h f fun f=>clQ C h F.aR [e,f] fun e h=>bfQ 1 a fun a=>b1Q h a fun a=>bfQ 1 c fun c=>b1Q h c fun c=>clQ C h F.aR [a,c] fun a h=>clQ C h F.bq [e,a] fun a h=>stD h 2 d a fun _ h=>bnd (ldA h 2 d) fun a=>q a h) fun a=>cnd g (bnd (ldA h 2 c) fun c=>clQ C h F.dp [c] fun c h=>e3Q c fun c g i=>cnd i (bIQ .mul e c fun a=>bIQ .mul f g fun c=>clQ C h F.iM [a,c] fun a h=>stD h 2 d a fun _ h=>bnd (ldA h 2 d) fun a=>q a h) (a [] h)) (a [] h)
theorem DR(h:k8 (CX Y) t0 t1 (out v)):CP Y F.k8 [t0,t1] v:=CPo 3 (nBQ (nRQ [.slot 0,.slot 1,.slot 2]) (nCQ (dV (nJQ [] [2,3,4])))) Tryz.func69 h
def lS(C:CC)(a:V)(q:kQ):Prop:=let h:Hp:=.replicate 1 nnQ
 eT 0 a h fun a h=>bfQ 0 a fun a=>b1Q h a fun a=>clQ C h F.cX [a] q
theorem Bh(h:lS (CX Y) t0 (out v)):CP Y F.lS [t0] v:=CPo 1 (nCQ (nRQ [.slot 0])) Tryz.func58 h
def jK(C:CC)(a c:V)(q:kQ):Prop:=let h:Hp:=.replicate 3 nnQ
 eT 0 a h fun a h=>eT 1 c h fun c h=>alV 2 [.d (.str []),.d (.str [])] h fun d h=>bnd (ldA h 2 c) fun e=>clQ C h F.lS [e] fun e h=>cIQ .eql e (I 0) (bnd (bld [(0,1),(1,1)] [.str [],.str []] []) fun a=>stD h 2 d a fun _ h=>bnd (ldA h 2 d) fun a=>q (.tup [a,I 17]) h) (bfQ 0 a fun e=>b1Q h e fun e=>bfQ 1 c fun f=>b1Q h f fun f=>clQ C h F.aR [e,f] fun e h=>bfQ 1 a fun a=>b1Q h a fun a=>bfQ 0 c fun c=>b1Q h c fun c=>clQ C h F.aR [a,c] fun a h=>clQ C h F.bq [e,a] fun a h=>stD h 2 d a fun _ h=>bnd (ldA h 2 d) fun a=>q (.tup [a,I 0]) h)
theorem DT(h:jK (CX Y) t0 t1 (out v)):CP Y F.jK [t0,t1] v:=CPo 3 (nCQ (nRQ [.slot 0,.slot 1,.slot 2])) Tryz.func40 h
def mZ(C:CC)(a c:V)(q:kQ):Prop:=let h:Hp:=.replicate 1 nnQ
 alV 0 [.d (.str []),.d (.str [])] h fun d h=>clQ C h F.cX [c] fun e h=>cIQ .eql e (I 0) (bnd (bld [(0,1),(1,1)] [.str [],.str []] []) fun a=>stD h 2 d a fun _ h=>bnd (ldA h 2 d) fun a=>q (.tup [a,I 17]) h) (clQ C h F.bq [a,c] fun a h=>stD h 2 d a fun _ h=>bnd (ldA h 2 d) fun a=>q (.tup [a,I 0]) h)
theorem DN(h:mZ (CX Y) t0 t1 (out v)):CP Y F.mZ [t0,t1] v:=CPo 1 (nCQ (nRQ [.slot 0])) Tryz.func35 h
def dS(C:CC)(a c:V)(q:kQ):Prop:=let h:Hp:=.replicate 1 nnQ
 alV 0 [.d (.str []),.d (.str [])] h fun d h=>clQ C h F.dF [a] fun a h=>clQ C h F.dF [c] fun c h=>clQ C h F.mZ [a,c] fun a h=>e2Q a fun a c=>stD h 2 d a fun _ h=>bnd (ldA h 2 d) fun a=>q (.tup [a,c]) h
theorem ET(h:dS (CX Y) t0 t1 (out v)):CP Y F.dS [t0,t1] v:=CPo 1 (nCQ (nRQ [.slot 0])) Tryz.func22 h
def nD(C:CC)(a c d:V):aS:=fun l h q=>cIQ .lss (ge l 0) d (bxQ h 2 c (ge l 0) fun c=>bnd (ldA h 2 c) fun c=>alV 2 [.d (.str []),.d (.str [])] h fun d h=>stD h 2 d c fun _ h=>bfQ 2 a fun c=>b1Q h c fun c=>bfQ 1 d fun d=>b1Q h d fun d=>clQ C h F.oY [c,d] fun c h=>bfQ 2 a fun a=>stD h 1 a c fun _ h=>bIQ .add (ge l 0) (I 1) fun a=>q .normal [a] h) (q (.exit 0) [] h)
def lj(C:CC)(a c d e:V):aS:=fun l h q=>cIQ .lss (ge l 0) e (jn (fun a h=>bIQ .add (ge l 0) (I 1) fun a=>q .normal [a] h) fun e=>bxQ h 2 d (ge l 0) fun d=>bnd (ldA h 2 d) fun d=>alV 3 [.d (.str []),.d (.str [])] h fun f h=>stD h 2 f d fun _ h=>bfQ 0 f fun d=>b1Q h d fun d=>bSQ .neq d (.d (.str [48])) fun d=>jn (fun a h=>e [] h) fun e=>cnd d (bfQ 2 c fun d=>b1Q h d fun d=>bfQ 1 f fun g=>b1Q h g fun g=>clQ C h F.aW [d,g] fun d h=>e3Q d fun d g i=>bfQ 0 c fun g=>sm h c g<|b1Q h g fun g=>bxQ h 1 a (ge l 0) fun a=>b1Q h a fun a=>dD 1 [.int .i64 0] [(0,a)] h fun a h=>sp h g [c,f]<|apV false 4 1 8 g a h fun a h=>bfQ 1 c fun g=>sm h c g<|b1Q h g fun g=>bfQ 0 f fun i=>sm h f i<|b1Q h i fun f=>clQ C h F.aR [f,d] fun d h=>dD 1 [.str []] [(0,d)] h fun d h=>apV false 5 1 16 g d h fun d h=>bfQ 0 c fun f=>stD h 1 f a fun _ h=>bfQ 1 c fun a=>stD h 1 a d fun _ h=>e [] h) (e [] h)) (q (.exit 2) [] h)
def kW(C:CC)(a c:V)(q:kQ):Prop:=let h:Hp:=.replicate 6 nnQ
 alV 0 [.d nPQ,.d nPQ,.d (.str [])] h fun d h=>bnd (bld [(0,1),(1,1),(2,1)] [nPQ,nPQ,.str []] [(2,(.d (.str [49])))]) fun e=>alV 1 [.d nPQ,.d nPQ,.d (.str [])] h fun f h=>stD h 3 f e fun _ h=>blQ c fun e=>lp (nD C f c e) [2] h [I 0] h (exK [((.exit 0),fun e h=>blQ c fun e=>lp (lj C a f c e) [3] h [I 0] h (exK [((.exit 2),fun a h=>bnd (ldA h 3 f) fun a=>stD h 3 d a fun _ h=>bnd (ldA h 3 d) fun a=>q a h)]))])
def qD:Ann:=(nBQ (nRQ [.slot 0]) (nBQ (nRQ [.slot 1]) (nBQ (aF (nCQ (.n (.l [16] [0,1,4,5,14,15] [((.exit 0),[],[0,1,4,5])] [2]) (dV (nCQ (nCQ (nCQ (nRQ [.slot 2]))))) .o))) (nCQ (aF (nCQ (.n (.l [29] [0,4,5,27,28] [((.exit 2),[],[4,5])] [3]) (dV (nCQ (.n (.j [] [0,4,5,27,28,29]) (nBQ (nRQ [.slot 3]) (aF (.n (.j [] [0,4,5,27,28,29]) (aF (nRQ [.o,.slot 4,.o,.o,.slot 5])) .o))) .o))) .o)))))))
theorem CE(C:CC)(t0:V)(t1:V)(q:kkQ):fnD Y C Tryz.f44 6 qD [t0,t1] q=kW C t0 t1 q:=by kernel_rfl
theorem Cz:okB Tryz.prog Tryz.f44 qD=true:=aD
theorem CB(h:kW (CX Y) t0 t1 (out v)):CP Y F.kW [t0,t1] v:=
 CP.of (fn:=Tryz.f44) (m:=6) (a:=qD) rfl (fun _=>rfl) Tryz.func44 Cz (by rw[CE];exact h)
def fw(C:CC)(a:V)(q:kQ):Prop:=let h:Hp:=.replicate 1 nnQ
 eT 0 a h fun a h=>q (.fn F.cR [] [a]) h
theorem zk(h:fw (CX Y) t0 (out v)):CP Y F.fw [t0] v:=CPo 1 (nCQ (nRQ [.slot 0])) Tryz.func95 h
def kV(C:CC)(a c d:V):Et:=fun l h q=>
 b1Q h a fun a=>
 clQ C h F.qE [ge l 0,a] fun a h=>
 bIQ .neq (ge l 0) (I 2) fun e=>
 jn (fun e h=>
 clQ C h F.aR [a,ge l 1] fun a h=>
 clQ C h F.aR [ge e 0,ge l 1] fun e h=>
 clQ C h F.cX [ge l 1] fun f h=>
 bIQ .lss f (I 0) fun f=>
 jn (fun a h=>
 b1Q h c fun e=>
 clQ C h F.cJ [e,ge a 0] fun e h=>
 b1Q h d fun f=>
 clQ C h F.cJ [f,ge a 1] fun a h=>
 stD h 1 c e fun _ h=>
 stD h 1 d a fun _ h=>
 q .normal h) fun c=>
 cnd f (
 c [e,a] h) (
 c [a,e] h)) fun c=>
 cnd e (
 clQ C h F.cJ [a,(.d (.str [49]))] fun a h=>
 c [a] h) (
 c [a] h)
def ii(C:CC)(a c:V)(q:kQ):Prop:=let h:Hp:=.replicate 4 nnQ
 eT 0 a h fun a h=>eT 1 c h fun c h=>alV 2 [.d (.str [])] h fun d h=>alV 3 [.d (.str [])] h fun e h=>stD h 1 d (.d (.str [48])) fun _ h=>stD h 1 e (.d (.str [48])) fun _ h=>bnd (ldA h 3 a) fun a=>clQ C h F.fw [a] fun a h=>rgO (sqV Y.seq a) 2 (kV C c d e) [] h (fun ex h=>exK [(.normal,fun _ h=>b1Q h d fun a=>b1Q h e fun c=>sp h d [e]<|stD h 1 d a fun _ h=>stD h 1 e c fun _ h=>b1Q h d fun a=>b1Q h e fun c=>q (.tup [a,c]) h)] ex [] h)
theorem xO(h:ii (CX Y) t0 t1 (out v)):CP Y F.ii [t0,t1] v:=CPo 4 (nBQ (nRQ [.slot 0,.slot 1,.slot 2,.slot 3]) (aF (nCQ (aF (nCQ (.n (.l [] [3,4,5] [(.normal,[],[4,5])] []) .o (nCQ (dV (nBQ (aF (nJQ [9] [4,5,7,8])) (aF (nCQ (aF (nJQ [8,9] [4,5]))))))))))))) Tryz.func71 h
def dN(C:CC)(a c d e:V):Et:=fun l h q=>
 clQ C h F.kK [ge l 1] fun f h=>
 ext f 0 fun g=>
 ext f 1 fun f=>
 bnd (unV .not f) fun f=>
 gqQ f false h g fun i h=>
 gbQ f false h (ld1 h a) fun j h=>
 gbQ f false h (biI .gtr i j) fun i h=>
 bpQ f (B true) i fun f=>
 gqQ f false h g fun i h=>
 gbQ f false h (ld1 h a) fun a h=>
 gbQ f false h (unV .neg a) fun a h=>
 gbQ f false h (biI .lss i a) fun a h=>
 bpQ f (B true) a fun a=>
 cnd a (
 stD h 1 c (I 0) fun _ h=>
 stD h 1 d (I 0) fun _ h=>
 stD h 1 e (B false) fun _ h=>
 q .ret h) (
 clQ C h F.qq [ge l 0] fun a h=>
 ext a 0 fun f=>
 ext a 1 fun a=>
 bnd (unV .not a) fun a=>
 cnd a (
 stD h 1 c (I 0) fun _ h=>
 stD h 1 d (I 0) fun _ h=>
 stD h 1 e (B false) fun _ h=>
 q .ret h) (
 bIQ .add f (I 1) fun a=>
 bIQ .eql (ge l 0) (I 2) fun e=>
 jn (fun a h=>
 b1Q h c fun e=>
 bIQ .mul g f fun i=>
 bIQ .mul g (ge a 0) fun j=>
 bnd (mxI false [i,j]) fun i=>
 bIQ .add e i fun e=>
 b1Q h d fun i=>
 bIQ .mul g f fun f=>
 bIQ .mul g (ge a 0) fun a=>
 bnd (mxI true [f,a]) fun a=>
 bIQ .add i a fun a=>
 sp h c [d]<|stD h 1 c e fun _ h=>
 stD h 1 d a fun _ h=>
 q .normal h) fun c=>
 cnd e (
 c [f] h) (
 c [a] h)))
def fT(C:CC)(a c:V)(q:kQ):Prop:=let h:Hp:=.replicate 5 nnQ
 eT 0 a h fun a h=>eT 1 c h fun c h=>alV 2 [.d (.int .i64 0)] h fun d h=>alV 3 [.d (.int .i64 0)] h fun e h=>alV 4 [.d (.bool false)] h fun f h=>bnd (ldA h 3 a) fun a=>clQ C h F.fw [a] fun a h=>rgO (sqV Y.seq a) 2 (dN C c d e f) [] h (fun ex h=>exK [(.ret,fun _ h=>b1Q h d fun a=>b1Q h e fun c=>b1Q h f fun d=>q (.tup [a,c,d]) h),(.normal,fun _ h=>b1Q h d fun a=>b1Q h e fun c=>sp h d [e]<|stD h 1 d a fun _ h=>stD h 1 e c fun _ h=>stD h 1 f (B true) fun _ h=>b1Q h d fun a=>b1Q h e fun c=>b1Q h f fun d=>q (.tup [a,c,d]) h)] ex [] h)
def ot:Ann:=(nBQ (nRQ [.slot 0,.slot 1,.slot 2,.slot 3,.slot 4]) (nCQ (aF (nCQ (.n (.l [] [3,4,5,6] [(.ret,[],[4,5,6]),(.normal,[],[4,5,6])] []) .o (nCQ (abg (nCQ (aF (nJQ [13] [4,5,9,11]))))))))))
theorem xN(C:CC)(t0:V)(t1:V)(q:kkQ):fnD Y C Tryz.f94 5 ot [t0,t1] q=fT C t0 t1 q:=by kernel_rfl
theorem xL:okB Tryz.prog Tryz.f94 ot=true:=aD
theorem xM(h:fT (CX Y) t0 t1 (out v)):CP Y F.fT [t0,t1] v:=
 CP.of (fn:=Tryz.f94) (m:=5) (a:=ot) rfl (fun _=>rfl) Tryz.func94 xL (by rw[xN];exact h)
def gB(C:CC)(a:V)(q:kQ):Prop:=let h:Hp:=.replicate 1 nnQ
 eT 0 a h fun a h=>bnd (ldA h 3 a) fun a=>clQ C h F.fT [a,I 10000000] fun a h=>e3Q a fun a c d=>bnd (unV .not d) fun d=>cnd d (q (I 0) h) (cIQ .geq a (I 0) (q (I 1) h) (cIQ .leq c (I 0) (q (I (-1)) h) (q (I 0) h)))
theorem w7(h:gB (CX Y) t0 (out v)):CP Y F.gB [t0] v:=CPo 1 (nCQ (nRQ [.slot 0])) Tryz.func70 h
def nL(C:CC)(a:V):aS:=fun l h q=>bnd (ldA h 3 a) fun a=>clQ C h F.ii [a,ge l 0] fun a h=>e2Q a fun a c=>clQ C h F.cX [a] fun a h=>cIQ .geq a (I 0) (q .ret [I 1] h) (clQ C h F.cX [c] fun a h=>cIQ .leq a (I 0) (q .ret [I (-1)] h) (bIQ .mul (ge l 0) (I 2) fun a=>q .normal [a] h))
def fS(C:CC)(a:V)(q:kQ):Prop:=let h:Hp:=.replicate 1 nnQ
 eT 0 a h fun a h=>bfQ 0 a fun c=>b1Q h c fun c=>blQ c fun c=>cIQ .eql c (I 0) (q (I 0) h) (bnd (ldA h 3 a) fun c=>clQ C h F.gB [c] fun c h=>nzQ c (q c h) (lp (nL C a) [] h [I 64] h (exK [(.ret,fun a h=>q (ge a 0) h)])))
theorem xK(h:fS (CX Y) t0 (out v)):CP Y F.fS [t0] v:=CPo 1 (nBQ (nRQ [.slot 0]) (nCQ (L8 (nCQ (.n (.l [4] [1] [(.ret,[2],[])] []) .o .o))))) Tryz.func47 h
def qb(C:CC):aS:=fun l h q=>cIQ .lss (ge l 3) (I 26) (jn (fun a h=>bIQ .add (ge l 3) (I 1) fun c=>q .normal [ge a 0,ge a 1,ge a 2,c] h) fun a=>clQ C h F.fU [ge l 0,ge l 0] fun c h=>e2Q c fun c d=>bIQ .shl c (.d (.int .u64 2)) fun c=>bIQ .shr d (.d (.int .u64 62)) fun d=>bIQ .or c d fun c=>clQ C h F.fU [ge l 1,ge l 1] fun d h=>e2Q d fun d e=>bIQ .shl d (.d (.int .u64 2)) fun d=>bIQ .shr e (.d (.int .u64 62)) fun e=>bIQ .or d e fun d=>bIQ .add d (.d (.int .u64 1)) fun d=>bIQ .mul (ge l 2) (I 2) fun e=>bIQ .geq c (.d (.int .u64 9223372036854775808)) fun f=>jn (fun c h=>a [ge c 1,ge c 2,ge c 0] h) fun a=>cnd f (bIQ .add e (I 1) fun e=>bIQ .shr c (.d (.int .u64 1)) fun c=>bIQ .shr d (.d (.int .u64 1)) fun d=>bIQ .add d (.d (.int .u64 1)) fun d=>a [e,c,d] h) (cIQ .geq d (.d (.int .u64 9223372036854775808)) (q .ret [I 0,B false] h) (a [e,c,d] h))) (q (.exit 0) [ge l 2] h)
def qq(C:CC)(a:V)(q:kQ):Prop:=let h:Hp:=[]
 bnd (cvI .u64 a) fun c=>clQ C h F.jQ [c] fun c h=>bIQ .sub c (I 1) fun c=>bnd (cvI .u64 a) fun a=>bIQ .sub (I 62) c fun d=>bIQ .shl a d fun a=>lp (qb C) [] h [a,a,c,I 0] h (exK [((.exit 0),fun a h=>q (.tup [ge a 0,B true]) h),(.ret,fun a h=>q (.tup [ge a 0,ge a 1]) h)])
theorem Ja(h:qq (CX Y) t0 (out v)):CP Y F.qq [t0] v:=CPo 0 (abg (nCQ (aF (nCQ (.n (.l [5,6,7,21] [] [((.exit 0),[7],[]),(.ret,[2,3],[])] []) (dV (nCQ (.n (.j [5,6,7] [21]) (ady (nJQ [7,5,6] [21])) .o))) .o))))) Tryz.func126 h
def AA(C:CC)(a c:V):aS:=fun l h q=>clQ C h F.size_digits [a,c,ge l 0] fun a h=>e2Q a fun a c=>cnd c (q .ret [a] h) (bIQ .mul (ge l 0) (I 2) fun a=>q .normal [a] h)
def qE(C:CC)(a c:V)(q:kQ):Prop:=let h:Hp:=[]
 cIQ .eql a (I 2) (clQ C h F.kM [(.d (.str [50])),c] fun a h=>e2Q a fun a c=>q a h) (bIQ .add c (I 64) fun d=>lp (AA C a c) [] h [d] h (exK [(.ret,fun a h=>q (ge a 0) h)]))
theorem Lz(h:qE (CX Y) t0 t1 (out v)):CP Y F.qE [t0,t1] v:=CPo 0 (zD (nCQ (.n (.l [7] [0,1] [(.ret,[4],[])] []) .o .o))) Tryz.func96 h
def ou(C:CC)(a c d:V):aS:=fun l h q=>cIQ .lss (ge l 3) d (jn (fun a h=>bIQ .add (ge l 3) (I 1) fun c=>q .normal [ge a 0,ge a 1,ge a 2,c] h) fun d=>clQ C h F.aR [ge l 0,ge l 0] fun e h=>clQ C h F.aW [e,a] fun e h=>e3Q e fun e f g=>clQ C h F.aR [ge l 1,ge l 1] fun f h=>clQ C h F.aW [f,a] fun a h=>e3Q a fun a f g=>clQ C h F.cJ [a,(.d (.str [49]))] fun a h=>clQ C h F.cJ [ge l 2,ge l 2] fun f h=>jn (fun a h=>d [ge a 1,ge a 2,ge a 0] h) fun d=>clQ C h F.dU [e,c] fun g h=>bIQ .geq g (I 0) fun g=>jn (fun a h=>d [ge a 0,ge a 1,ge a 2] h) fun d=>cnd g (clQ C h F.cJ [f,(.d (.str [49]))] fun c h=>clQ C h F.aW [e,(.d (.str [50]))] fun e h=>e3Q e fun e f g=>clQ C h F.aW [a,(.d (.str [50]))] fun a h=>e3Q a fun a f g=>clQ C h F.cJ [a,(.d (.str [49]))] fun a h=>d [c,e,a] h) (clQ C h F.dU [a,c] fun c h=>cIQ .geq c (I 0) (q .ret [(.d (.str [])),B false] h) (d [f,e,a] h))) (q (.exit 0) [ge l 2] h)
def size_digits(C:CC)(a c d:V)(q:kQ):Prop:=let h:Hp:=[]
 bnd (cvI .u64 a) fun e=>clQ C h F.jQ [e] fun e h=>bIQ .sub e (I 1) fun e=>clQ C h F.kM [(.d (.str [50])),d] fun f h=>e2Q f fun f g=>clQ C h F.cJ [f,f] fun g h=>bIQ .sub d e fun d=>clQ C h F.kM [(.d (.str [50])),d] fun d h=>e2Q d fun d i=>clQ C h F.dF [a] fun a h=>clQ C h F.aR [a,d] fun a h=>clQ C h F.dF [e] fun d h=>lp (ou C f g c) [] h [a,a,d,I 0] h (exK [((.exit 0),fun a h=>q (.tup [ge a 0,B true]) h),(.ret,fun a h=>q (.tup [ge a 0,ge a 1]) h)])
theorem EK(h:size_digits (CX Y) t0 t1 t2 (out v)):CP Y F.size_digits [t0,t1,t2] v:=CPo 0 (agd (aF (nCQ (aF (nCQ (.n (.l [14,15,16,50] [9,11,49] [((.exit 0),[16],[]),(.ret,[6,7],[])] []) (dV (nCQ (.n (.j [14,15,16] [9,11,49,50]) (L8 (.n (.j [16,14,15] [9,11,49,50]) (aF (nJQ [16,14,15] [9,11,49,50])) .o)) .o))) .o)))))) Tryz.func129 h
def ky(C:CC)(a:V)(q:kQ):Prop:=let h:Hp:=[]
 clQ C h F.nV [a] fun c h=>nzQ c (q (.tup [B false,c]) h) (clQ C h F.kx [a] fun a h=>q (.tup [a,I 0]) h)
theorem zS(h:ky (CX Y) t0 (out v)):CP Y F.ky [t0] v:=CPo 0 .o Tryz.func136 h
def mq(C:CC)(a c d:V):aS:=fun l h q=>cIQ .lss (ge l 1) d (bxQ h 1 c (ge l 1) fun c=>b1Q h c fun c=>alV 0 [.d nPQ] h fun d h=>stD h 1 d c fun _ h=>b1Q h d fun c=>clQ C h F.lO [c] fun c h=>alV 1 [.d (.int .i64 0)] h fun e h=>stD h 1 e c fun _ h=>b1Q h e fun c=>bIQ .leq c (ge l 0) fun c=>gbQ c false h (ld1 h d) fun f h=>gbQ c false h (ld1 h e) fun g h=>gbQ c false h (ixV h 1 f g) fun f h=>gbQ c false h (ld1 h f) fun f h=>gbQ c false h (biI .lss f (I 0)) fun f h=>bpQ c (B true) f fun c=>cnd c (q .ret [B false] h) (bnd (slV h 1 a none (some (ge l 1))) fun a=>clQ C h F.aU [a,(.fn F.eD [] [e,d])] fun a h=>cnd a (q .ret [B false] h) (b1Q h e fun a=>bIQ .add (ge l 1) (I 1) fun c=>q .normal [a,c] h))) (q (.exit 0) [] h)
def kx(C:CC)(a:V)(q:kQ):Prop:=let h:Hp:=.replicate 2 nnQ
 blQ a fun c=>lp (mq C a a c) [0,1] h [I (-1),I 0] h (exK [((.exit 0),fun a h=>q (B true) h),(.ret,fun a h=>q (ge a 0) h)])
theorem zR(h:kx (CX Y) t0 (out v)):CP Y F.kx [t0] v:=CPo 2 (dV (nCQ (aF (nCQ (.n (.l [3,9] [0,7,8] [((.exit 0),[],[]),(.ret,[2],[])] [0,1]) (dV (nCQ (nCQ (nBQ (nRQ [.slot 0]) (nCQ (nRQ [.o,.slot 1])))))) .o))))) Tryz.func168 h
def eD(C:CC)(a c d:V)(q:kQ):Prop:=let h:Hp:=[]
 b1Q h c fun e=>bxQ h 1 a e fun e=>b1Q h e fun e=>bIQ .lss e (I 0) fun e=>gqQ e false h a fun a h=>gbQ e false h (ld1 h c) fun f h=>gbQ e false h (ixV h 1 a f) fun a h=>gbQ e false h (ld1 h a) fun a h=>gbQ e false h (ld1 h d) fun d h=>gbQ e false h (ld1 h c) fun c h=>gbQ e false h (ixV h 1 d c) fun c h=>gbQ e false h (ld1 h c) fun c h=>gbQ e false h (biI .geq a c) fun a h=>bpQ e (B true) a fun a=>q a h
theorem wL(h:eD (CX Y) t0 t1 t2 (out v)):CP Y F.eD [t0,t1,t2] v:=CPo 0 .o Tryz.func188 h
def lO(C:CC)(a:V)(q:kQ):Prop:=let h:Hp:=[]
 clQ C h F.aY [a,(.fn F.iU [] [])] q
theorem Be(h:lO (CX Y) t0 (out v)):CP Y F.lO [t0] v:=CPo 0 .o Tryz.func186 h
def iU(C:CC)(a:V)(q:kQ):Prop:=let h:Hp:=[]
 bIQ .neq a (I 0) fun a=>q a h
theorem xq(h:iU (CX Y) t0 (out v)):CP Y F.iU [t0] v:=CPo 0 .o Tryz.func192 h
def om(C:CC)(a c d:V):aS:=fun l h q=>cIQ .lss (ge l 0) d (bxQ h 1 c (ge l 0) fun c=>b1Q h c fun c=>blQ c fun d=>cIQ .gtr d (I 12) (q .ret [I 4] h) (blQ c fun d=>bxQ h 1 a (I 0) fun a=>b1Q h a fun a=>blQ a fun a=>cIQ .neq d a (q .ret [I 5] h) (clQ C h F.aZ [c,(.fn F.nU [] [])] fun a h=>cnd a (q .ret [I 4] h) (bIQ .add (ge l 0) (I 1) fun a=>q .normal [a] h)))) (q (.exit 0) [] h)
def nV(C:CC)(a:V)(q:kQ):Prop:=let h:Hp:=[]
 blQ a fun c=>cIQ .gtr c (I 12) (q (I 4) h) (blQ a fun c=>lp (om C a a c) [] h [I 0] h (exK [((.exit 0),fun a h=>q (I 0) h),(.ret,fun a h=>q (ge a 0) h)]))
theorem EF(h:nV (CX Y) t0 (out v)):CP Y F.nV [t0] v:=CPo 0 (dV (nCQ (aF (nCQ (.n (.l [10] [0,8,9] [((.exit 0),[],[]),(.ret,[2],[])] []) .o .o))))) Tryz.func167 h
def nU(C:CC)(a:V)(q:kQ):Prop:=let h:Hp:=[]
 bIQ .gtr a (I 1000000000) fun c=>gqQ c false h a fun a h=>gbQ c false h (biI .lss a (I (-1000000000))) fun a h=>bpQ c (B true) a fun a=>q a h
theorem EE(h:nU (CX Y) t0 (out v)):CP Y F.nU [t0] v:=CPo 0 .o Tryz.func185 h
def nE(C:CC)(a c d:V):aS:=fun l h q=>cIQ .lss (ge l 0) d (bxQ h 1 c (ge l 0) fun c=>b1Q h c fun c=>clQ C h F.oc [c] fun d h=>nzQ d (q .ret [d] h) (blQ c fun c=>cIQ .neq c a (q .ret [I 5] h) (bIQ .add (ge l 0) (I 1) fun a=>q .normal [a] h))) (q (.exit 0) [] h)
def mV(C:CC)(a c:V)(q:kQ):Prop:=let h:Hp:=[]
 blQ a fun d=>lp (nE C c a d) [] h [I 0] h (exK [((.exit 0),fun a h=>q (I 0) h),(.ret,fun a h=>q (ge a 0) h)])
theorem CO(h:mV (CX Y) t0 t1 (out v)):CP Y F.mV [t0,t1] v:=CPo 0 (aF (nCQ (aF (nCQ (.n (.l [10] [1,8,9] [((.exit 0),[],[]),(.ret,[4],[])] []) .o .o))))) Tryz.func166 h
def ql(C:CC)(a c:V)(q:kQ):Prop:=let h:Hp:=[]
 clQ C h F.lF [c] fun c h=>clQ C h F.cJ [a,c] q
theorem Ix(h:ql (CX Y) t0 t1 (out v)):CP Y F.ql [t0,t1] v:=CPo 0 .o Tryz.func194 h
def mi(C:CC)(b:Nat)(a c:V):aS:=fun l h q=>cIQ .lss (ge l 1) c (bxQ h 1 a (ge l 1) fun a=>b1Q h a fun a=>clQ C h F.dF [a] fun a h=>dD 1 [.str []] [(0,a)] h fun a h=>apV false (b+1) 1 16 (ge l 0) a h fun a h=>bIQ .add (ge l 1) (I 1) fun c=>q .normal [a,c] h) (q (.exit 0) [ge l 0] h)
def fC(C:CC)(b:Nat)(h:Hp)(a:V)(q:kQ):Prop:=let h:Hp:=h++List.replicate 2 nnQ
 blQ a fun c=>mkS (b+0) 16 [.str []] h (I 0) c fun c h=>blQ a fun d=>lp (mi C b a d) [] h [c,I 0] h (exK [((.exit 0),fun a h=>q (ge a 0) h)])
def pn(b:Nat):Ann:=(.n .x .o (.n .x (.n (.r [.slot (b+0)]) .o .o) (.n .x (.n .x .o (.n .x (.n (.l [3,11] [9,10] [((.exit 0),[3],[])] []) (.n .x .o (.n .x .o (.n .x (.n .x (.n .x .o (.n (.r [.o,.o,.slot (b+1)]) .o .o)) .o) .o))) .o) .o)) .o)))
theorem zM(C:CC)(h:Hp)(t0:V)(q:kkQ):fnI Y C Tryz.f169 2 pn [t0] h q=fC C h.length h t0 q:=by rfl
theorem zK(b:Nat):okB Tryz.prog Tryz.f169 (pn b)=true:=by rfl
theorem zL(hh:fC (CX Y) h.length h t0 (nB h.length v h2)):CI Y F.fC [t0] h v h2:=
 CI.of (fn:=Tryz.f169) (m:=2) (a:=pn) rfl (fun _=>rfl) Tryz.func169 (zK _) (by rw[zM];exact hh)
def jR(C:CC)(b:Nat)(h:Hp)(a:V)(q:kQ):Prop:=let h:Hp:=h++List.replicate 2 nnQ
 mkS (b+0) 8 [.int .i64 0] h a a fun a h=>ciQ C h F.fC [a] (b+1) q
def pQ(b:Nat):Ann:=(.n .x .o (.n .x (.n (.r [.slot (b+0),.inl (b+1)]) .o .o) .o))
theorem A7(C:CC)(h:Hp)(t0:V)(q:kkQ):fnI Y C Tryz.f170 2 pQ [t0] h q=jR C h.length h t0 q:=by rfl
theorem A0(b:Nat):okB Tryz.prog Tryz.f170 (pQ b)=true:=by rfl
theorem A3(hh:jR (CX Y) h.length h t0 (nB h.length v h2)):CI Y F.jR [t0] h v h2:=
 CI.of (fn:=Tryz.f170) (m:=2) (a:=pQ) rfl (fun _=>rfl) Tryz.func170 (A0 _) (by rw[A7];exact hh)
def jJ(C:CC)(b:Nat)(a c d e:V):aS:=fun l h q=>cIQ .lss (ge l 0) e (bxQ h 1 d (ge l 0) fun d=>b1Q h d fun d=>bxQ h 1 a (ge l 0) fun e=>b1Q h e fun e=>clQ C h F.aR [c,d] fun c h=>clQ C h F.ql [e,c] fun c h=>bxQ h 1 a (ge l 0) fun a=>stD h 1 a c fun _ h=>bIQ .add (ge l 0) (I 1) fun a=>q .normal [a] h) (q (.exit 0) [] h)
def eC(C:CC)(b:Nat)(h:Hp)(a c d:V)(q:kQ):Prop:=let h:Hp:=h++List.replicate 0 nnQ
 bSQ .eql c (.d (.str [48])) fun e=>cnd e (q (.tup []) h) (blQ d fun e=>lp (jJ C b a c d e) [] h [I 0] h (exK [((.exit 0),fun a h=>q (.tup []) h)]))
def nj(b:Nat):Ann:=(.n .x .o (.n .x .o (.n .x (.n (.l [12] [0,1,10,11] [((.exit 0),[],[])] []) .o .o) .o)))
theorem wJ(C:CC)(h:Hp)(t0:V)(t1:V)(t2:V)(q:kkQ):fnI Y C Tryz.f189 0 nj [t0,t1,t2] h q=eC C h.length h t0 t1 t2 q:=by rfl
theorem wG(b:Nat):okB Tryz.prog Tryz.f189 (nj b)=true:=by rfl
theorem wH(hh:eC (CX Y) h.length h t0 t1 t2 (nB h.length v h2)):CI Y F.eC [t0,t1,t2] h v h2:=
 CI.of (fn:=Tryz.f189) (m:=0) (a:=nj) rfl (fun _=>rfl) Tryz.func189 (wG _) (by rw[wJ];exact hh)
def iB(C:CC)(b:Nat)(a c d:V):aS:=fun l h q=>cIQ .lss (ge l 0) d (bxQ h 1 c (ge l 0) fun c=>b1Q h c fun c=>clQ C h F.lF [c] fun c h=>bxQ h 1 a (ge l 0) fun a=>stD h 1 a c fun _ h=>bIQ .add (ge l 0) (I 1) fun a=>q .normal [a] h) (q (.exit 0) [] h)
def eu(C:CC)(b:Nat)(h:Hp)(a:V)(q:kQ):Prop:=let h:Hp:=h++List.replicate 0 nnQ
 blQ a fun c=>lp (iB C b a a c) [] h [I 0] h (exK [((.exit 0),fun a h=>q (.tup []) h)])
def ma(b:Nat):Ann:=(.n .x .o (.n .x (.n (.l [6] [0,4,5] [((.exit 0),[],[])] []) .o .o) .o))
theorem uu(C:CC)(h:Hp)(t0:V)(q:kkQ):fnI Y C Tryz.f190 0 ma [t0] h q=eu C h.length h t0 q:=by rfl
theorem uq(b:Nat):okB Tryz.prog Tryz.f190 (ma b)=true:=by rfl
theorem ut(hh:eu (CX Y) h.length h t0 (nB h.length v h2)):CI Y F.eu [t0] h v h2:=
 CI.of (fn:=Tryz.f190) (m:=0) (a:=ma) rfl (fun _=>rfl) Tryz.func190 (uq _) (by rw[uu];exact hh)
def gk(C:CC)(b:Nat)(a c:V):aS:=fun l h q=>blQ a fun d=>cIQ .lss (ge l 1) d (jn (fun a h=>bIQ .add (ge l 1) (I 1) fun c=>q .normal [ge a 0,c] h) fun d=>bxQ h 1 a (ge l 1) fun e=>b1Q h e fun e=>bxQ h 1 e c fun e=>b1Q h e fun e=>bSQ .neq e (.d (.str [48])) fun e=>gqQ e true h (ge l 0) fun f h=>gbQ e true h (biI .lss f (I 0)) fun f h=>gqQ e true h f fun f h=>gqQ f false h a fun g h=>gqQ f false h (ge l 1) fun i h=>gbQ f false h (ixV h 1 g i) fun g h=>gbQ f false h (ld1 h g) fun g h=>gqQ f false h c fun i h=>gbQ f false h (ixV h 1 g i) fun g h=>gbQ f false h (ld1 h g) fun g h=>gd f false h (fun q=>clQ C h F.gn [g] q) fun g h=>gqQ f false h a fun a h=>gqQ f false h (ge l 0) fun i h=>gbQ f false h (ixV h 1 a i) fun a h=>gbQ f false h (ld1 h a) fun a h=>gqQ f false h c fun c h=>gbQ f false h (ixV h 1 a c) fun a h=>gbQ f false h (ld1 h a) fun a h=>gd f false h (fun q=>clQ C h F.gn [a] q) fun a h=>gd f false h (fun q=>clQ C h F.dU [g,a] q) fun a h=>gbQ f false h (biI .lss a (I 0)) fun a h=>gbQ e true h (jD f (B true) a) fun a h=>bpQ e a (B false) fun a=>jn (fun a h=>d [ge a 0] h) fun c=>cnd a (c [ge l 1] h) (c [ge l 0] h)) (q (.exit 4) [ge l 0] h)
def jh(C:CC)(b:Nat)(a c d:V):aS:=fun l h q=>blQ a fun e=>cIQ .lss (ge l 1) e (bxQ h 1 a (ge l 1) fun e=>b1Q h e fun e=>bxQ h 1 e d fun e=>b1Q h e fun e=>bxQ h 1 a c fun f=>b1Q h f fun f=>bxQ h 1 f d fun d=>b1Q h d fun d=>clQ C h F.aW [e,d] fun d h=>e3Q d fun d e f=>bxQ h 1 a (ge l 1) fun f=>b1Q h f fun f=>bxQ h 1 a c fun a=>b1Q h a fun a=>ciQ C h F.eC [f,d,a] (b+0) fun a h=>gqQ (ge l 0) false h e fun a h=>gbQ (ge l 0) false h (biS .neq a (.d (.str [48]))) fun a h=>bpQ (ge l 0) (B true) a fun a=>bIQ .add (ge l 1) (I 1) fun c=>q .normal [a,c] h) (q (.exit 6) [ge l 0] h)
def gj(C:CC)(b:Nat)(a c d e:V):aS:=fun l h q=>cIQ .lss (ge l 0) e (bxQ h 1 a (ge l 0) fun e=>b1Q h e fun e=>bxQ h 1 e d fun e=>b1Q h e fun e=>bxQ h 1 a c fun f=>b1Q h f fun f=>bxQ h 1 f d fun d=>b1Q h d fun d=>clQ C h F.aW [e,d] fun d h=>e3Q d fun d e f=>bxQ h 1 a (ge l 0) fun e=>b1Q h e fun e=>bxQ h 1 a c fun a=>b1Q h a fun a=>ciQ C h F.eC [e,d,a] (b+2) fun a h=>bIQ .add (ge l 0) (I 1) fun a=>q .normal [a] h) (q (.exit 8) [] h)
def lZ(C:CC)(b:Nat)(a c:V):aS:=fun l h q=>lp (gk C b a c) [] h [I (-1),ge l 0] h (exK [((.exit 4),fun d h=>cIQ .lss (ge d 0) (I 0) (q (.exit 2) [ge l 0] h) (bxQ h 1 a (ge d 0) fun e=>b1Q h e fun e=>bxQ h 1 a (ge l 0) fun f=>b1Q h f fun f=>bxQ h 1 a (ge l 0) fun g=>stD h 1 g e fun _ h=>bxQ h 1 a (ge d 0) fun d=>stD h 1 d f fun _ h=>bIQ .add (ge l 0) (I 1) fun d=>lp (jh C b a (ge l 0) c) [(b+0)] h [B false,d] h (exK [((.exit 6),fun d h=>cnd (ge d 0) (q .normal [ge l 0] h) (bxQ h 1 a (ge l 0) fun d=>b1Q h d fun d=>bxQ h 1 d c fun d=>b1Q h d fun d=>clQ C h F.cX [d] fun d h=>bIQ .lss d (I 0) fun d=>jn (fun d h=>lp (gj C b a (ge l 0) c (ge l 0)) [(b+2)] h [I 0] h (exK [((.exit 8),fun a h=>bIQ .add (ge l 0) (I 1) fun a=>q (.exit 2) [a] h)])) fun c=>cnd d (bxQ h 1 a (ge l 0) fun a=>b1Q h a fun a=>ciQ C h F.eu [a] (b+1) fun a h=>c [] h) (c [] h)))])))])
def gm(C:CC)(b:Nat)(a c:V):aS:=fun l h q=>bIQ .lss (ge l 1) c fun c=>gqQ c true h (ge l 0) fun d h=>gqQ c true h a fun e h=>gbQ c true h (bf e) fun e h=>gbQ c true h (biI .lss d e) fun d h=>bpQ c d (B false) fun c=>cnd c (lp (lZ C b a (ge l 1)) [(b+0),(b+1),(b+2)] h [ge l 0] h (exK [((.exit 2),fun a h=>bIQ .add (ge l 1) (I 1) fun c=>q .normal [ge a 0,c] h)])) (q (.exit 0) [ge l 0] h)
def cw(C:CC)(b:Nat)(h:Hp)(a c:V)(q:kQ):Prop:=let h:Hp:=h++List.replicate 3 nnQ
 lp (gm C b a c) [(b+0),(b+1),(b+2)] h [I 0,I 0] h (exK [((.exit 0),fun c h=>bnd (slV h 1 a none (some (ge c 0))) fun a=>q a h)])
def mJ(b:Nat):Ann:=(.n .x .o (.n .x .o (.n .x (.n .x .o (.n .x (.n (.l [5,6] [0,1] [((.exit 0),[5],[0])] [(b+0),(b+1),(b+2)]) (.n .x .o (.n .x (.n .x (.n .x (.n (.l [5] [0,1,6] [((.exit 2),[5],[0,1,6])] [(b+0),(b+1),(b+2)]) (.n .x (.n .x .o (.n .x (.n .x .o (.n .x (.n (.l [7,8] [0,1,5,6] [((.exit 4),[7],[0,1,5,6])] []) (.n .x .o (.n .x (.n (.j [7] [0,1,5,6,8]) (.n .x .o (.n (.j [7] [0,1,5,6,8]) .o .o)) .o) .o)) .o) .o)) (.n .x .o (.n .x .o (.n .x .o (.n .x (.n .x .o (.n .x (.n (.l [9,10] [0,1,5,6] [((.exit 6),[9],[0,1,5,6])] [(b+0)]) (.n .x .o (.n .x (.n .x (.n .x .o (.n .x (.n (.r [.inl (b+0)]) .o .o) .o)) .o) .o)) .o) .o)) (.n .x .o (.n .x (.n .x .o (.n (.j [] [0,1,5,6]) (.n (.r [.inl (b+1)]) .o .o) .o)) (.n .x (.n .x .o (.n .x (.n (.l [143] [0,1,5,6,142] [((.exit 8),[],[0,1,5,6])] [(b+2)]) (.n .x .o (.n .x .o (.n .x (.n .x (.n .x .o (.n .x .o (.n (.r [.inl (b+2)]) .o .o))) .o) .o))) .o) .o)) .o))))))))) .o) .o) .o) .o) .o)) .o) .o)) .o)))
theorem vq(C:CC)(h:Hp)(t0:V)(t1:V)(q:kkQ):fnI Y C Tryz.f171 3 mJ [t0,t1] h q=cw C h.length h t0 t1 q:=by rfl
theorem vp(b:Nat):okB Tryz.prog Tryz.f171 (mJ b)=true:=by rfl
theorem pJ(hh:cw (CX Y) h.length h t0 t1 (nB h.length v h2)):CI Y F.cw [t0,t1] h v h2:=
 CI.of (fn:=Tryz.f171) (m:=3) (a:=mJ) rfl (fun _=>rfl) Tryz.func171 (vp _) (by rw[vq];exact hh)
def xl(C:CC)(b:Nat)(a c:V):aS:=fun l h q=>cIQ .lss (ge l 1) c (bxQ h 1 a (ge l 1) fun a=>b1Q h a fun a=>anyS fun s4=>ciQ C h F.fC [a] s4 fun a h=>anyS fun s6=>AY s6 1 [nPQ] [(0,a)] h fun a h=>anyS fun s8=>apW false s8 1 24 (ge l 0) a h fun a h=>bIQ .add (ge l 1) (I 1) fun c=>q .normal [a,c] h) (q (.exit 0) [ge l 0] h)
def lu(C:CC)(b:Nat)(h:Hp)(a:V)(q:kQ):Prop:=let h:Hp:=h++List.replicate 14 nnQ
 blQ a fun c=>lp (xl C b a c) [] h [nSQ,I 0] h (exK [((.exit 0),fun a h=>q (ge a 0) h)])
def jI(C:CC)(a c:V):aS:=fun l h q=>cIQ .lss (ge l 1) c (bxQ h 1 a (ge l 1) fun a=>b1Q h a fun a=>anyS fun s4=>ciQ C h F.fC [a] s4 fun a h=>anyS fun s6=>AY s6 1 [nPQ] [(0,a)] h fun a h=>anyS fun s8=>apW false s8 1 24 (ge l 0) a h fun a h=>bIQ .add (ge l 1) (I 1) fun c=>q .normal [a,c] h) (q (.exit 0) [ge l 0] h)
def qY(C:CC)(a:V)(q:kQ):Prop:=let h:Hp:=.replicate 14 nnQ
 blQ a fun c=>lp (jI C a c) [] h [nSQ,I 0] h (exK [((.exit 0),fun a h=>q (ge a 0) h)])
theorem wF(h:qY (CX Y) t0 (out v)):CP Y F.lu [t0] v:=CPo 14 (dV (nCQ (aF (nCQ (.n (.l [3,8] [6,7] [((.exit 0),[3],[])] []) (dV (nCQ (nCQ (aF (nRQ [.anyI,.anyV,.anyV]))))) .o))))) Tryz.func137 h
def eZ(C:CC)(b:Nat)(a c d:V):aS:=fun l h q=>cIQ .lss (ge l 1) d (jn (fun a h=>bIQ .add (ge l 1) (I 1) fun c=>q .normal [ge a 0,c] h) fun d=>bxQ h 1 c (ge l 1) fun c=>b1Q h c fun c=>clQ C h F.gZ [c] fun e h=>bIQ .geq e a fun e=>jn (fun a h=>d [ge a 0] h) fun d=>cnd e (bnd (slV h 1 c (some a) none) fun a=>anyS fun s12=>AY s12 1 [nPQ] [(0,a)] h fun a h=>anyS fun s14=>apW false s14 1 24 (ge l 0) a h fun a h=>d [a] h) (d [ge l 0] h)) (q (.exit 0) [ge l 0] h)
def cj(C:CC)(b:Nat)(h:Hp)(a c d:V)(q:kQ):Prop:=let h:Hp:=h++List.replicate 2 nnQ
 blQ a fun e=>lp (eZ C b c a e) [] h [nSQ,I 0] h (exK [((.exit 0),fun a h=>ciQ C h F.cw [ge a 0,d] (b+0) q)])
def kZ(b:Nat):Ann:=(.n .x .o (.n .x .o (.n .x (.n .x .o (.n .x (.n (.l [7,12] [1,2,10,11] [((.exit 0),[7],[2])] []) (.n .x .o (.n .x .o (.n .x (.n (.j [7] [1,2,10,11,12]) (.n .x .o (.n .x .o (.n (.j [7] [1,2,10,11,12]) (.n (.r [.anyV,.anyV]) .o .o) .o))) .o) .o))) .o) .o)) (.n .x (.n (.r [.inl (b+0)]) .o .o) .o))))
theorem tF(C:CC)(h:Hp)(t0:V)(t1:V)(t2:V)(q:kkQ):fnI Y C Tryz.f172 2 kZ [t0,t1,t2] h q=cj C h.length h t0 t1 t2 q:=by rfl
theorem tE(b:Nat):okB Tryz.prog Tryz.f172 (kZ b)=true:=by rfl
theorem oB(hh:cj (CX Y) h.length h t0 t1 t2 (nB h.length v h2)):CI Y F.cj [t0,t1,t2] h v h2:=
 CI.of (fn:=Tryz.f172) (m:=2) (a:=kZ) rfl (fun _=>rfl) Tryz.func172 (tE _) (by rw[tF];exact hh)
def gX(C:CC)(a c d:V):aS:=fun l h q=>cIQ .lss (ge l 1) d (bxQ h 1 c (ge l 1) fun c=>b1Q h c fun c=>bxQ h 1 c a fun a=>b1Q h a fun a=>dD 1 [.str []] [(0,a)] h fun a h=>anyS fun s7=>apV false s7 1 16 (ge l 0) a h fun a h=>bIQ .add (ge l 1) (I 1) fun c=>q .normal [a,c] h) (q (.exit 2) [ge l 0] h)
def gY(C:CC)(a c d:V):aS:=fun l h q=>cIQ .lss (ge l 1) d (blQ a fun d=>lp (gX C (ge l 1) a d) [] h [nSQ,I 0] h (exK [((.exit 2),fun a h=>ciQ C h F.jR [c] 0 fun c h=>bxQ h 1 c (ge l 1) fun d=>stD h 1 d (.d (.str [49])) fun _ h=>anyS fun s7=>apV false s7 1 16 (ge a 0) c h fun a h=>anyS fun s9=>AY s9 1 [nPQ] [(0,a)] h fun a h=>anyS fun s11=>apW false s11 1 24 (ge l 0) a h fun a h=>bIQ .add (ge l 1) (I 1) fun c=>q .normal [a,c] h)])) (q (.exit 0) [ge l 0] h)
def cT(C:CC)(a c:V)(q:kQ):Prop:=let h:Hp:=.replicate 19 nnQ
 lp (gY C a c c) [0] h [nSQ,I 0] h (exK [((.exit 0),fun d h=>blQ a fun e=>bIQ .add e c fun e=>ciQ C h F.cw [ge d 0,e] 1 fun d h=>blQ a fun a=>ciQ C h F.cj [d,a,c] 2 q)])
theorem tD(h:cT (CX Y) t0 t1 (out v)):CP Y F.cT [t0,t1] v:=CPo 19 (dV (nBQ (aF (nCQ (.n (.l [5,12] [0,1,11] [((.exit 0),[5],[0,1])] [0]) (dV (nCQ (nCQ (dV (nBQ (aF (nCQ (.n (.l [7,17] [0,1,5,6,11,12,15,16] [((.exit 2),[7],[0,1,5,6,11,12])] []) (dV (nCQ (nCQ (aF (nRQ [.o,.anyS]))))) .o))) (nBQ (nRQ [.inl 0]) (aF (nRQ [.anyS,.anyV,.anyV])))))))) .o))) (nCQ (nRQ [.inl 1,.inl 2])))) Tryz.func138 h
def gZ(C:CC)(a:V)(q:kQ):Prop:=let h:Hp:=[]
 clQ C h F.cC [a,(.fn F.dO [] [])] q
theorem wK(h:gZ (CX Y) t0 (out v)):CP Y F.gZ [t0] v:=CPo 0 .o Tryz.func191 h
def dO(C:CC)(a:V)(q:kQ):Prop:=let h:Hp:=[]
 bSQ .neq a (.d (.str [48])) fun a=>q a h
theorem tG(h:dO (CX Y) t0 (out v)):CP Y F.dO [t0] v:=CPo 0 .o Tryz.func196 h
def lT(C:CC)(a c d:V):aS:=fun l h q=>cIQ .lss (ge l 0) d (bxQ h 1 a (ge l 0) fun a=>b1Q h a fun a=>cal C.p h c [a] fun a h=>cnd a (q .ret [ge l 0] h) (bIQ .add (ge l 0) (I 1) fun a=>q .normal [a] h)) (q (.exit 0) [] h)
def cC(C:CC)(a c:V)(q:kQ):Prop:=let h:Hp:=[]
 blQ a fun d=>lp (lT C a c d) [] h [I 0] h (exK [((.exit 0),fun a h=>q (I (-1)) h),(.ret,fun a h=>q (ge a 0) h)])
theorem mu(h:cC (CX Y) t0 t1 (out v)):CP Y F.cC [t0,t1] v:=CPo 0 (aF (nCQ (aF (nCQ (.n (.l [8] [0,1,7] [((.exit 0),[],[]),(.ret,[4],[])] []) .o .o))))) Tryz.func195 h
def ji(C:CC)(a c:V):aS:=fun l h q=>cIQ .lss (ge l 1) c (bxQ h 1 a (ge l 1) fun a=>b1Q h a fun a=>clQ C h F.kK [a] fun a h=>e2Q a fun a c=>bnd (unV .not c) fun c=>gqQ c false h a fun d h=>gbQ c false h (biI .gtr d (I 1000000000)) fun d h=>bpQ c (B true) d fun c=>gqQ c false h a fun d h=>gbQ c false h (biI .lss d (I (-1000000000))) fun d h=>bpQ c (B true) d fun c=>cnd c (q .ret [nSQ,I 4] h) (a1Q 1 (ge l 0) a h fun a h=>bIQ .add (ge l 1) (I 1) fun c=>q .normal [a,c] h)) (q (.exit 0) [ge l 0] h)
def gE(C:CC)(a:V)(q:kQ):Prop:=let h:Hp:=.replicate 2 nnQ
 blQ a fun c=>mkS 0 8 [.int .i64 0] h (I 0) c fun c h=>blQ a fun d=>lp (ji C a d) [] h [c,I 0] h (exK [((.exit 0),fun a h=>q (.tup [ge a 0,I 0]) h),(.ret,fun a h=>q (.tup [ge a 0,ge a 1]) h)])
theorem vr(h:gE (CX Y) t0 (out v)):CP Y F.gE [t0] v:=CPo 2 (aF (nBQ (nRQ [.slot 0]) (nCQ (aF (nCQ (.n (.l [4,14] [12,13] [((.exit 0),[4],[]),(.ret,[2,3],[])] []) (dV (nCQ (nCQ (zD (nRQ [.o,.slot 1]))))) .o)))))) Tryz.func173 h
def iA(C:CC)(a c d e:V):aS:=fun l h q=>cIQ .lss (ge l 0) e (bxQ h 1 d (ge l 0) fun d=>b1Q h d fun d=>clQ C h F.gE [d] fun d h=>e2Q d fun d e=>nzQ e (bnd (bld [(0,1),(1,1)] [.int .i64 0,nPQ] []) fun c=>stD h 2 a c fun _ h=>q .ret [e] h) (bfQ 1 c fun a=>b1Q h a fun a=>dD 1 [nPQ] [(0,d)] h fun d h=>apV false 2 1 24 a d h fun a h=>bfQ 1 c fun c=>stD h 1 c a fun _ h=>bIQ .add (ge l 0) (I 1) fun a=>q .normal [a] h)) (q (.exit 0) [] h)
def ek(C:CC)(a c:V)(q:kQ):Prop:=let h:Hp:=.replicate 3 nnQ
 alV 0 [.d (.int .i64 0),.d nPQ] h fun d h=>bnd (bld [(0,1),(1,1)] [.int .i64 0,nPQ] [(0,c)]) fun c=>alV 1 [.d (.int .i64 0),.d nPQ] h fun e h=>stD h 2 e c fun _ h=>blQ a fun c=>lp (iA C d e a c) [] h [I 0] h (exK [((.exit 0),fun a h=>bnd (ldA h 2 e) fun a=>stD h 2 d a fun _ h=>bnd (ldA h 2 d) fun a=>q (.tup [a,I 0]) h),(.ret,fun a h=>bnd (ldA h 2 d) fun c=>q (.tup [c,ge a 0]) h)])
theorem uo(h:ek (CX Y) t0 t1 (out v)):CP Y F.ek [t0,t1] v:=CPo 3 (nBQ (nRQ [.slot 0]) (nBQ (nRQ [.slot 1]) (nCQ (aF (nCQ (.n (.l [15] [4,6,13,14] [((.exit 0),[],[4,6]),(.ret,[5],[4])] []) (dV (nCQ (nCQ (zD (nRQ [.o,.slot 2]))))) .o)))))) Tryz.func139 h
def iT(C:CC)(a:V)(q:kQ):Prop:=let h:Hp:=.replicate 2 nnQ
 eT 0 a h fun a h=>alV 1 [.d (.int .i64 0),.d nPQ] h fun c h=>bnd (ldA h 2 a) fun d=>clQ C h F.iL [d] fun d h=>nzQ d (bnd (bld [(0,1),(1,1)] [.int .i64 0,nPQ] []) fun a=>stD h 2 c a fun _ h=>bnd (ldA h 2 c) fun a=>q (.tup [a,d]) h) (bfQ 1 a fun d=>b1Q h d fun d=>clQ C h F.lu [d] fun d h=>bfQ 0 a fun e=>b1Q h e fun e=>clQ C h F.cT [d,e] fun d h=>bfQ 0 a fun e=>b1Q h e fun e=>clQ C h F.cT [d,e] fun d h=>bfQ 0 a fun a=>b1Q h a fun a=>clQ C h F.ek [d,a] fun a h=>e2Q a fun a d=>stD h 2 c a fun _ h=>bnd (ldA h 2 c) fun a=>q (.tup [a,d]) h)
theorem xm(h:iT (CX Y) t0 (out v)):CP Y F.iT [t0] v:=CPo 2 (nCQ (nRQ [.slot 0,.slot 1])) Tryz.func102 h
def fM(C:CC)(a:V)(q:kQ):Prop:=let h:Hp:=.replicate 2 nnQ
 eT 0 a h fun a h=>alV 1 [.d (.int .i64 0),.d nPQ] h fun c h=>bnd (ldA h 2 a) fun d=>clQ C h F.iL [d] fun d h=>nzQ d (bnd (bld [(0,1),(1,1)] [.int .i64 0,nPQ] []) fun a=>stD h 2 c a fun _ h=>bnd (ldA h 2 c) fun a=>q (.tup [a,d]) h) (bfQ 1 a fun d=>b1Q h d fun d=>clQ C h F.lu [d] fun d h=>bfQ 0 a fun e=>b1Q h e fun e=>clQ C h F.cT [d,e] fun d h=>bfQ 0 a fun a=>b1Q h a fun a=>clQ C h F.ek [d,a] fun a h=>e2Q a fun a d=>stD h 2 c a fun _ h=>bnd (ldA h 2 c) fun a=>q (.tup [a,d]) h)
theorem uv(h:fM (CX Y) t0 (out v)):CP Y F.fM [t0] v:=CPo 2 (nCQ (nRQ [.slot 0,.slot 1])) Tryz.func104 h
def lN(C:CC)(a c:V)(q:kQ):Prop:=let h:Hp:=[]
 bIQ .lss a (I 0) fun d=>gqQ d false h a fun e h=>gbQ d false h (biI .gtr e (I 12)) fun e h=>bpQ d (B true) e fun d=>cnd d (q (I 3) h) (blQ c fun d=>cIQ .gtr d (I 12) (q (I 4) h) (clQ C h F.mV [c,a] q))
theorem A8(h:lN (CX Y) t0 t1 (out v)):CP Y F.lN [t0,t1] v:=CPo 0 .o Tryz.func135 h
def iL(C:CC)(a:V)(q:kQ):Prop:=let h:Hp:=.replicate 1 nnQ
 eT 0 a h fun a h=>bfQ 0 a fun c=>b1Q h c fun c=>bfQ 1 a fun d=>b1Q h d fun d=>clQ C h F.lN [c,d] fun c h=>nzQ c (q c h) (bfQ 1 a fun a=>b1Q h a fun a=>clQ C h F.ky [a] fun a h=>e2Q a fun a c=>bIQ .neq c (I 0) fun c=>gqQ c false h a fun a h=>gbQ c false h (unV .not a) fun a h=>bpQ c (B true) a fun a=>cnd a (q (I 7) h) (q (I 0) h))
theorem Bb(h:iL (CX Y) t0 (out v)):CP Y F.iL [t0] v:=CPo 1 (nCQ (nRQ [.slot 0])) Tryz.func101 h
def jS(C:CC)(a c:V)(q:kQ):Prop:=let h:Hp:=.replicate 2 nnQ
 eT 0 a h fun a h=>eT 1 c h fun c h=>bfQ 0 a fun d=>b1Q h d fun d=>bfQ 0 c fun e=>b1Q h e fun e=>bIQ .eql d e fun d=>gbQ d true h (faV 1 a) fun a h=>gbQ d true h (ld1 h a) fun a h=>gbQ d true h (faV 1 c) fun c h=>gbQ d true h (ld1 h c) fun c h=>gd d true h (fun q=>clQ C h F.az [a,c,(.fn F.pd [] [])] q) fun a h=>bpQ d a (B false) fun a=>q a h
theorem Ba(h:jS (CX Y) t0 t1 (out v)):CP Y F.jS [t0,t1] v:=CPo 2 (nCQ (nRQ [.slot 0,.slot 1])) Tryz.func103 h
def aN(C:CC)(a c d e:V):aS:=fun l h q=>cIQ .lss (ge l 0) e (bxQ h 1 d (ge l 0) fun d=>b1Q h d fun d=>bxQ h 1 a (ge l 0) fun a=>b1Q h a fun a=>cal C.p h c [d,a] fun a h=>bnd (unV .not a) fun a=>cnd a (q .ret [B false] h) (bIQ .add (ge l 0) (I 1) fun a=>q .normal [a] h)) (q (.exit 0) [] h)
def az(C:CC)(a c d:V)(q:kQ):Prop:=let h:Hp:=[]
 blQ a fun e=>blQ c fun f=>cIQ .neq e f (q (B false) h) (blQ a fun e=>lp (aN C c d a e) [] h [I 0] h (exK [((.exit 0),fun a h=>q (B true) h),(.ret,fun a h=>q (ge a 0) h)]))
theorem gK(h:az (CX Y) t0 t1 t2 (out v)):CP Y F.az [t0,t1,t2] v:=CPo 0 (dV (nCQ (aF (nCQ (.n (.l [17] [1,2,15,16] [((.exit 0),[],[]),(.ret,[6],[])] []) .o .o))))) Tryz.func140 h
def pG(C:CC)(a:V)(q:kQ):Prop:=let h:Hp:=[]
 bIQ .geq a (I (-1000000000)) fun c=>gqQ c true h a fun a h=>gbQ c true h (biI .leq a (I 1000000000)) fun a h=>bpQ c a (B false) fun a=>q a h
theorem LG(h:pG (CX Y) t0 (out v)):CP Y F.pG [t0] v:=CPo 0 .o Tryz.func108 h
def mU(C:CC)(a:V)(q:kQ):Prop:=let h:Hp:=[]
 clQ C h F.pG [a] fun a h=>bnd (unV .not a) fun a=>q a h
theorem CN(h:mU (CX Y) t0 (out v)):CP Y F.mU [t0] v:=CPo 0 .o Tryz.func107 h
def oc(C:CC)(a:V)(q:kQ):Prop:=let h:Hp:=[]
 blQ a fun c=>bIQ .gtr c (I 64) fun c=>gqQ c false h a fun a h=>gd c false h (fun q=>clQ C h F.aZ [a,(.fn F.mU [] [])] q) fun a h=>bpQ c (B true) a fun a=>cnd a (q (I 4) h) (q (I 0) h)
theorem Jo(h:oc (CX Y) t0 (out v)):CP Y F.oc [t0] v:=CPo 0 .o Tryz.func78 h
def pd(C:CC)(a c:V)(q:kQ):Prop:=let h:Hp:=[]
 clQ C h F.bP [a,c] q
theorem Jn(h:pd (CX Y) t0 t1 (out v)):CP Y F.pd [t0,t1] v:=CPo 0 .o Tryz.func141 h
def bB(C:CC)(a c d:V):aS:=fun l h q=>cIQ .lss (ge l 0) d (bxQ h 2 a (ge l 0) fun a=>bnd (ldA h 2 a) fun a=>cal C.p h c [a] fun a h=>cnd a (q .ret [ge l 0] h) (bIQ .add (ge l 0) (I 1) fun a=>q .normal [a] h)) (q (.exit 0) [] h)
def aX(C:CC)(a c:V)(q:kQ):Prop:=let h:Hp:=[]
 blQ a fun d=>lp (bB C a c d) [] h [I 0] h (exK [((.exit 0),fun a h=>q (I (-1)) h),(.ret,fun a h=>q (ge a 0) h)])
theorem kf(h:aX (CX Y) t0 t1 (out v)):CP Y F.aX [t0,t1] v:=CPo 0 (aF (nCQ (aF (nCQ (.n (.l [8] [0,1,7] [((.exit 0),[],[]),(.ret,[4],[])] []) .o .o))))) Tryz.func154 h
def aK(C:CC)(a c:V)(q:kQ):Prop:=let h:Hp:=[]
 clQ C h F.aX [a,c] fun a h=>bIQ .geq a (I 0) fun a=>q a h
theorem jz(h:aK (CX Y) t0 t1 (out v)):CP Y F.aK [t0,t1] v:=CPo 0 .o Tryz.func117 h
def bS(C:CC)(a c d:V):aS:=fun l h q=>cIQ .lss (ge l 0) d (bxQ h 2 a (ge l 0) fun a=>bnd (ldA h 2 a) fun a=>cal C.p h c [a] fun a h=>cnd a (q .ret [ge l 0] h) (bIQ .add (ge l 0) (I 1) fun a=>q .normal [a] h)) (q (.exit 0) [] h)
def bz(C:CC)(a c:V)(q:kQ):Prop:=let h:Hp:=[]
 blQ a fun d=>lp (bS C a c d) [] h [I 0] h (exK [((.exit 0),fun a h=>q (I (-1)) h),(.ret,fun a h=>q (ge a 0) h)])
theorem lU(h:bz (CX Y) t0 t1 (out v)):CP Y F.bz [t0,t1] v:=CPo 0 (aF (nCQ (aF (nCQ (.n (.l [8] [0,1,7] [((.exit 0),[],[]),(.ret,[4],[])] []) .o .o))))) Tryz.func180 h
def aO(C:CC)(a c:V)(q:kQ):Prop:=let h:Hp:=[]
 clQ C h F.bz [a,c] fun a h=>bIQ .geq a (I 0) fun a=>q a h
theorem kJ(h:aO (CX Y) t0 t1 (out v)):CP Y F.aO [t0,t1] v:=CPo 0 .o Tryz.func155 h
def jA(C:CC)(a:V)(q:kQ):Prop:=let h:Hp:=.replicate 1 nnQ
 alV 0 [.d (.str []),.d (.str [])] h fun c h=>clQ C h F.dF [a] fun a h=>bnd (bld [(0,1),(1,1)] [.str [],.str []] [(0,a),(1,(.d (.str [49])))]) fun a=>stD h 2 c a fun _ h=>bnd (ldA h 2 c) fun a=>q a h
theorem EJ(h:jA (CX Y) t0 (out v)):CP Y F.jA [t0] v:=CPo 1 (nCQ (nRQ [.slot 0])) Tryz.func46 h
def qa(C:CC)(b:Nat)(a c:V):aS:=fun l h q=>cIQ .lss (ge l 0) c (clQ C h F.jA [I 0] fun c h=>bxQ h 2 a (ge l 0) fun a=>stD h 2 a c fun _ h=>bIQ .add (ge l 0) (I 1) fun a=>q .normal [a] h) (q (.exit 0) [] h)
def nX(C:CC)(b:Nat)(h:Hp)(a:V)(q:kQ):Prop:=let h:Hp:=h++List.replicate 1 nnQ
 mkS (b+0) 32 [.str [],.str []] h a a fun a h=>blQ a fun c=>lp (qa C b a c) [] h [I 0] h (exK [((.exit 0),fun c h=>q a h)])
def uW(b:Nat):Ann:=(.n .x .o (.n .x (.n (.r [.slot (b+0)]) .o .o) (.n .x (.n .x .o (.n .x (.n (.l [9] [3,8] [((.exit 0),[],[3])] []) .o .o) .o)) .o)))
theorem I9(C:CC)(h:Hp)(t0:V)(q:kkQ):fnI Y C Tryz.f68 1 uW [t0] h q=nX C h.length h t0 q:=by rfl
theorem I7(b:Nat):okB Tryz.prog Tryz.f68 (uW b)=true:=by rfl
theorem I8(hh:nX (CX Y) h.length h t0 (nB h.length v h2)):CI Y F.nX [t0] h v h2:=
 CI.of (fn:=Tryz.f68) (m:=1) (a:=uW) rfl (fun _=>rfl) Tryz.func68 (I7 _) (by rw[I9];exact hh)
def pD(C:CC)(a c d e f:V):aS:=fun l h q=>cIQ .lss (ge l 0) f (bxQ h 2 e (ge l 0) fun e=>bnd (ldA h 2 e) fun e=>alV 1 [.d (.str []),.d (.str [])] h fun f h=>stD h 2 f e fun _ h=>bxQ h 2 c (ge l 0) fun e=>bnd (ldA h 2 e) fun e=>bnd (ldA h 2 f) fun f=>bxQ h 2 a d fun a=>bnd (ldA h 2 a) fun a=>clQ C h F.k8 [f,a] fun a h=>clQ C h F.fD [e,a] fun a h=>bxQ h 2 c (ge l 0) fun c=>stD h 2 c a fun _ h=>bIQ .add (ge l 0) (I 1) fun a=>q .normal [a] h) (q (.exit 2) [] h)
def qQ(C:CC)(a c d e:V):aS:=fun l h q=>cIQ .lss (ge l 0) e (bxQ h 1 d (ge l 0) fun d=>b1Q h d fun d=>blQ d fun e=>lp (pD C a c (ge l 0) d e) [1] h [I 0] h (exK [((.exit 2),fun a h=>bIQ .add (ge l 0) (I 1) fun a=>q .normal [a] h)])) (q (.exit 0) [] h)
def pE(C:CC)(a c d:V)(q:kQ):Prop:=let h:Hp:=.replicate 2 nnQ
 ciQ C h F.nX [a] 0 fun a h=>blQ c fun e=>lp (qQ C d a c e) [1] h [I 0] h (exK [((.exit 0),fun c h=>q a h)])
def w8:Ann:=(aF (nBQ (nRQ [.inl 0]) (nCQ (aF (nCQ (.n (.l [16] [2,7,14,15] [((.exit 0),[],[7])] [1]) (dV (nCQ (nCQ (dV (nCQ (.n (.l [23] [2,7,8,14,15,16,21,22] [((.exit 2),[],[2,7,14,15,16])] [1]) (dV (nCQ (nCQ (nCQ (nRQ [.slot 1]))))) .o)))))) .o))))))
theorem Lx(C:CC)(t0:V)(t1:V)(t2:V)(q:kkQ):fnD Y C Tryz.f45 2 w8 [t0,t1,t2] q=pE C t0 t1 t2 q:=by kernel_rfl
theorem Lv:okB Tryz.prog Tryz.f45 w8=true:=aD
theorem Lw(h:pE (CX Y) t0 t1 t2 (out v)):CP Y F.pE [t0,t1,t2] v:=
 CP.of (fn:=Tryz.f45) (m:=2) (a:=w8) rfl (fun _=>rfl) Tryz.func45 Lv (by rw[Lx];exact h)
def mT(C:CC)(a c d:V):aS:=fun l h q=>cIQ .lss (ge l 0) d (bxQ h 1 c (ge l 0) fun c=>b1Q h c fun c=>clQ C h F.kX [a,c] fun a h=>nzQ a (q .ret [a] h) (bIQ .add (ge l 0) (I 1) fun a=>q .normal [a] h)) (q (.exit 0) [] h)
def jN(C:CC)(a c:V)(q:kQ):Prop:=let h:Hp:=[]
 clQ C h F.eW [a] fun d h=>nzQ d (q d h) (blQ c fun d=>lp (mT C a c d) [] h [I 0] h (exK [((.exit 0),fun a h=>q (I 0) h),(.ret,fun a h=>q (ge a 0) h)]))
theorem AS(h:jN (CX Y) t0 t1 (out v)):CP Y F.jN [t0,t1] v:=CPo 0 (dV (nCQ (aF (nCQ (.n (.l [16] [0,14,15] [((.exit 0),[],[]),(.ret,[4],[])] []) .o .o))))) Tryz.func30 h
def nY(C:CC)(a:V)(q:kQ):Prop:=let h:Hp:=[]
 clQ C h F.aO [a,(.fn F.iY [] [])] fun c h=>cnd c (q (.tup [nSQ,I 4]) h) (q (.tup [a,I 0]) h)
theorem EI(h:nY (CX Y) t0 (out v)):CP Y F.nY [t0] v:=CPo 0 .o Tryz.func119 h
def iY(C:CC)(a:V)(q:kQ):Prop:=let h:Hp:=.replicate 1 nnQ
 eT 0 a h fun a h=>bnd (ldA h 2 a) fun a=>clQ C h F.mE [a] fun a h=>bnd (unV .not a) fun a=>q a h
theorem zm(h:iY (CX Y) t0 (out v)):CP Y F.iY [t0] v:=CPo 1 (nCQ (nRQ [.slot 0])) Tryz.func156 h
def mS(C:CC)(a c d:V)(q:kQ):Prop:=let h:Hp:=[]
 clQ C h F.jN [a,c] fun e h=>nzQ e (q (.tup [nSQ,e]) h) (blQ d fun e=>blQ c fun f=>cIQ .neq e f (q (.tup [nSQ,I 5]) h) (clQ C h F.aK [d,(.fn F.ij [] [])] fun e h=>cnd e (q (.tup [nSQ,I 2]) h) (blQ a fun a=>clQ C h F.pE [a,c,d] fun a h=>clQ C h F.nY [a] fun a h=>e2Q a fun a c=>q (.tup [a,c]) h)))
theorem CG(h:mS (CX Y) t0 t1 t2 (out v)):CP Y F.mS [t0,t1,t2] v:=CPo 0 .o Tryz.func88 h
def ij(C:CC)(a:V)(q:kQ):Prop:=let h:Hp:=.replicate 1 nnQ
 eT 0 a h fun a h=>bnd (ldA h 2 a) fun a=>clQ C h F.gN [a] fun a h=>bIQ .neq a (I 0) fun a=>q a h
theorem xP(h:ij (CX Y) t0 (out v)):CP Y F.ij [t0] v:=CPo 1 (nCQ (nRQ [.slot 0])) Tryz.func118 h
def o9(C:CC)(a c d:V)(q:kQ):Prop:=let h:Hp:=.replicate 1 nnQ
 eT 0 d h fun d h=>dD 1 [nPQ] [(0,c)] h fun c h=>bnd (ldA h 2 d) fun d=>dD 1 [.str [],.str []] [(0,d)] h fun d h=>clQ C h F.mS [a,c,d] fun a h=>e2Q a fun a c=>q (.tup [a,c]) h
theorem GZ(h:o9 (CX Y) t0 t1 t2 (out v)):CP Y F.o9 [t0,t1,t2] v:=CPo 1 (nCQ (nRQ [.slot 0])) Tryz.func63 h
def o8(C:CC)(b:Nat)(h:Hp)(a:V)(q:kQ):Prop:=let h:Hp:=h++List.replicate 1 nnQ
 clQ C h F.eW [a] fun c h=>nzQ c (q (.tup [nSQ,c]) h) (blQ a fun a=>ciQ C h F.nX [a] (b+0) fun a h=>q (.tup [a,I 0]) h)
def uX(b:Nat):Ann:=(.n .x .o (.n .x .o (.n .x (.n (.r [.inl (b+0)]) .o .o) .o)))
theorem Jd(C:CC)(h:Hp)(t0:V)(q:kkQ):fnI Y C Tryz.f87 1 uX [t0] h q=o8 C h.length h t0 q:=by rfl
theorem Jb(b:Nat):okB Tryz.prog Tryz.f87 (uX b)=true:=by rfl
theorem Jc(hh:o8 (CX Y) h.length h t0 (nB h.length v h2)):CI Y F.o8 [t0] h v h2:=
 CI.of (fn:=Tryz.f87) (m:=1) (a:=uX) rfl (fun _=>rfl) Tryz.func87 (Jb _) (by rw[Jd];exact hh)
def nZ(C:CC)(a:V)(q:kQ):Prop:=let h:Hp:=.replicate 1 nnQ
 ciQ C h F.o8 [a] 0 fun a h=>e2Q a fun a c=>nzQ c (q (.tup [nSQ,c]) h) (clQ C h F.jA [I 1] fun c h=>bxQ h 2 a (I 0) fun d=>stD h 2 d c fun _ h=>q (.tup [a,I 0]) h)
theorem EL(h:nZ (CX Y) t0 (out v)):CP Y F.nZ [t0] v:=CPo 1 (aF (nCQ (nRQ [.inl 0]))) Tryz.func62 h
def fj(C:CC)(a c d:V):aS:=fun l h q=>cIQ .lss (ge l 0) d (bxQ h 1 a (ge l 0) fun a=>b1Q h a fun a=>bxQ h 1 c (ge l 0) fun c=>b1Q h c fun c=>cIQ .neq a c (q .ret [B false] h) (bIQ .add (ge l 0) (I 1) fun a=>q .normal [a] h)) (q (.exit 0) [] h)
def bP(C:CC)(a c:V)(q:kQ):Prop:=let h:Hp:=[]
 blQ a fun d=>blQ c fun e=>cIQ .neq d e (q (B false) h) (blQ a fun d=>lp (fj C a c d) [] h [I 0] h (exK [((.exit 0),fun a h=>q (B true) h),(.ret,fun a h=>q (ge a 0) h)]))
theorem qC(h:bP (CX Y) t0 t1 (out v)):CP Y F.bP [t0,t1] v:=CPo 0 (dV (nCQ (aF (nCQ (.n (.l [13] [0,1,12] [((.exit 0),[],[]),(.ret,[4],[])] []) .o .o))))) Tryz.func143 h
def mh(C:CC)(a c:V):aS:=fun l h q=>cIQ .lss (ge l 0) c (bxQ h 1 a (ge l 0) fun a=>b1Q h a fun a=>bIQ .gtr a (I 1000) fun c=>gqQ c false h a fun a h=>gbQ c false h (biI .lss a (I (-1000))) fun a h=>bpQ c (B true) a fun a=>cnd a (q .ret [I 4] h) (bIQ .add (ge l 0) (I 1) fun a=>q .normal [a] h)) (q (.exit 2) [] h)
def jH(C:CC)(a c d:V):aS:=fun l h q=>cIQ .lss (ge l 0) d (bxQ h 1 c (ge l 0) fun c=>b1Q h c fun c=>blQ c fun d=>blQ a fun a=>cIQ .neq d a (q .ret [I 5] h) (blQ c fun a=>lp (mh C c a) [] h [I 0] h (exK [((.exit 2),fun a h=>bIQ .add (ge l 0) (I 1) fun a=>q .normal [a] h),(.ret,fun a h=>q .ret [ge a 0] h)]))) (q (.exit 0) [] h)
def kv(C:CC)(a c:V)(q:kQ):Prop:=let h:Hp:=[]
 clQ C h F.eW [a] fun d h=>nzQ d (q d h) (blQ c fun d=>lp (jH C a c d) [] h [I 0] h (exK [((.exit 0),fun a h=>q (I 0) h),(.ret,fun a h=>q (ge a 0) h)]))
theorem zE(h:kv (CX Y) t0 t1 (out v)):CP Y F.kv [t0,t1] v:=CPo 0 (dV (nCQ (aF (nCQ (.n (.l [17] [0,15,16] [((.exit 0),[],[]),(.ret,[4],[])] []) (dV (nCQ (nCQ (zD (nCQ (.n (.l [28] [0,15,16,17,26,27] [((.exit 2),[],[0,15,16,17]),(.ret,[4],[])] []) .o .o)))))) .o))))) Tryz.func38 h
def mR(C:CC)(a c d:V)(q:kQ):Prop:=let h:Hp:=[]
 blQ a fun e=>dD 2 [nPQ] [(0,c),(1,d)] h fun c h=>clQ C h F.jA [I 1] fun d h=>clQ C h F.jA [I (-1)] fun f h=>dD 2 [.str [],.str []] [(0,d),(1,f)] h fun d h=>clQ C h F.pE [e,c,d] fun c h=>clQ C h F.kW [a,c] fun a h=>clQ C h F.fS [a] q
theorem CF(h:mR (CX Y) t0 t1 t2 (out v)):CP Y F.mR [t0,t1,t2] v:=CPo 0 .o Tryz.func31 h
def bY(C:CC)(a c d:V)(q:kQ):Prop:=let h:Hp:=[]
 dD 2 [nPQ] [(0,c),(1,d)] h fun e h=>clQ C h F.jN [a,e] fun e h=>nzQ e (q (.tup [I 0,e]) h) (clQ C h F.mR [a,c,d] fun a h=>q (.tup [a,I 0]) h)
theorem uY(h:bY (CX Y) t0 t1 t2 (out v)):CP Y F.bY [t0,t1,t2] v:=CPo 0 .o Tryz.func17 h
def ef(C:CC)(a:V)(q:kQ):Prop:=let h:Hp:=[]
 dD 3 [.int .i64 0] [(0,(I 2)),(1,(I 3)),(2,(I 5))] h fun c h=>dD 4 [.int .i64 0] [(0,(I 2)),(1,(I 3)),(2,(I 5)),(3,(I 7))] h fun d h=>dD 2 [.int .i64 0] [(0,(I 2)),(1,(I 3))] h fun e h=>dD 3 [.int .i64 0] [(0,(I 2)),(1,(I 3)),(2,(I 7))] h fun f h=>dD 3 [.int .i64 0] [(0,(I 2)),(1,(I 5)),(2,(I 7))] h fun g h=>dD 3 [.int .i64 0] [(0,(I 3)),(1,(I 5)),(2,(I 7))] h fun i h=>dD 4 [.int .i64 0] [(0,(I 2)),(1,(I 3)),(2,(I 5)),(3,(I 11))] h fun j h=>dD 1 [.int .i64 0] [(0,(I 2))] h fun k h=>dD 4 [.int .i64 0] [(0,(I 2)),(1,(I 3)),(2,(I 7)),(3,(I 13))] h fun l h=>dD 4 [.int .i64 0] [(0,(I 3)),(1,(I 5)),(2,(I 7)),(3,(I 13))] h fun m h=>dD 10 [nPQ] [(0,c),(1,d),(2,e),(3,f),(4,g),(5,i),(6,j),(7,k),(8,l),(9,m)] h fun c h=>bnd (cvI .i64 a) fun a=>blQ c fun d=>bIQ .rem a d fun a=>bxQ h 1 c a fun a=>b1Q h a fun a=>q a h
def lW:Ann:=.o
theorem ul(C:CC)(t0:V)(q:kkQ):fnD Y C Tryz.f5 0 lW [t0] q=ef C t0 q:=by kernel_rfl
theorem uj:okB Tryz.prog Tryz.f5 lW=true:=aD
theorem uk(h:ef (CX Y) t0 (out v)):CP Y F.ef [t0] v:=
 CP.of (fn:=Tryz.f5) (m:=0) (a:=lW) rfl (fun _=>rfl) Tryz.func5 uj (by rw[ul];exact h)
def gy(C:CC)(a c:V)(q:kQ):Prop:=let h:Hp:=[]
 clQ C h F.az [a,c,(.fn F.d9 [] [])] q
theorem w5(h:gy (CX Y) t0 t1 (out v)):CP Y F.gy [t0,t1] v:=CPo 0 .o Tryz.func105 h
def d9(C:CC)(a c:V)(q:kQ):Prop:=let h:Hp:=[]
 clQ C h F.bP [a,c] q
theorem ui(h:d9 (CX Y) t0 t1 (out v)):CP Y F.d9 [t0,t1] v:=CPo 0 .o Tryz.func142 h
def fu(C:CC)(a:V)(q:kQ):Prop:=let h:Hp:=.replicate 4 nnQ
 eT 0 a h fun a h=>bfQ 0 a fun c=>b1Q h c fun c=>clQ C h F.eW [c] fun c h=>nzQ c (q c h) (bfQ 0 a fun c=>b1Q h c fun c=>blQ c fun c=>bfQ 1 a fun d=>b1Q h d fun d=>bnd (bld [(0,1),(1,1)] [.int .i64 0,nPQ] [(0,c),(1,d)]) fun c=>alV 1 [.d (.int .i64 0),.d nPQ] h fun d h=>stD h 2 d c fun _ h=>bnd (ldA h 2 d) fun c=>clQ C h F.iL [c] fun c h=>nzQ c (q c h) (bnd (ldA h 2 d) fun c=>clQ C h F.iT [c] fun c h=>e2Q c fun c e=>alV 2 [.d (.int .i64 0),.d nPQ] h fun f h=>stD h 2 f c fun _ h=>bIQ .neq e (I 0) fun c=>gbQ c false h (ldA h 2 f) fun e h=>gbQ c false h (ldA h 2 d) fun f h=>gd c false h (fun q=>clQ C h F.jS [e,f] q) fun e h=>gbQ c false h (unV .not e) fun e h=>bpQ c (B true) e fun c=>cnd c (q (I 7) h) (bnd (ldA h 2 d) fun c=>clQ C h F.fM [c] fun c h=>e2Q c fun c d=>alV 3 [.d (.int .i64 0),.d nPQ] h fun e h=>stD h 2 e c fun _ h=>bIQ .neq d (I 0) fun c=>gbQ c false h (faV 1 e) fun d h=>gbQ c false h (ld1 h d) fun d h=>gbQ c false h (faV 2 a) fun a h=>gbQ c false h (ld1 h a) fun a h=>gd c false h (fun q=>clQ C h F.gy [d,a] q) fun a h=>gbQ c false h (unV .not a) fun a h=>bpQ c (B true) a fun a=>cnd a (q (I 14) h) (q (I 0) h))))
theorem ww(h:fu (CX Y) t0 (out v)):CP Y F.fu [t0] v:=CPo 4 (nBQ (nRQ [.slot 0]) (aF (nBQ (nRQ [.slot 1]) (aF (nBQ (nRQ [.o,.slot 2]) (aF (nCQ (nRQ [.o,.slot 3])))))))) Tryz.func77 h
def jw(C:CC)(a c d:V):aS:=fun l h q=>cIQ .lss (ge l 0) d (bxQ h 1 c (ge l 0) fun c=>b1Q h c fun c=>clQ C h F.oc [c] fun d h=>nzQ d (q .ret [d] h) (blQ c fun c=>bfQ 0 a fun a=>b1Q h a fun a=>blQ a fun a=>cIQ .neq c a (q .ret [I 5] h) (bIQ .add (ge l 0) (I 1) fun a=>q .normal [a] h))) (q (.exit 0) [] h)
def gU(C:CC)(a c:V)(q:kQ):Prop:=let h:Hp:=.replicate 1 nnQ
 eT 0 a h fun a h=>bnd (ldA h 3 a) fun d=>clQ C h F.fu [d] fun d h=>nzQ d (q d h) (blQ c fun d=>lp (jw C a c d) [] h [I 0] h (exK [((.exit 0),fun a h=>q (I 0) h),(.ret,fun a h=>q (ge a 0) h)]))
theorem wu(h:gU (CX Y) t0 t1 (out v)):CP Y F.gU [t0,t1] v:=CPo 1 (nBQ (nRQ [.slot 0]) (aF (nCQ (aF (nCQ (.n (.l [16] [2,14,15] [((.exit 0),[],[]),(.ret,[4],[])] []) .o .o)))))) Tryz.func55 h
def je(C:CC)(a c d:V):aS:=fun l h q=>cIQ .lss (ge l 1) d (bxQ h 1 c (ge l 1) fun c=>b1Q h c fun c=>clQ C h F.dF [c] fun c h=>bxQ h 1 a (ge l 1) fun a=>b1Q h a fun a=>clQ C h F.dF [a] fun a h=>clQ C h F.aR [c,a] fun a h=>clQ C h F.cJ [ge l 0,a] fun a h=>bIQ .add (ge l 1) (I 1) fun c=>q .normal [a,c] h) (q (.exit 2) [ge l 0] h)
def jf(C:CC)(a c d:V):aS:=fun l h q=>cIQ .lss (ge l 1) d (bxQ h 1 c (ge l 1) fun c=>b1Q h c fun c=>blQ a fun d=>lp (je C c a d) [] h [(.d (.str [48])),I 0] h (exK [((.exit 2),fun a h=>dD 1 [.str []] [(0,(ge a 0))] h fun a h=>apV false 1 1 16 (ge l 0) a h fun a h=>bIQ .add (ge l 1) (I 1) fun c=>q .normal [a,c] h)])) (q (.exit 0) [ge l 0] h)
def gr(C:CC)(a c:V)(q:kQ):Prop:=let h:Hp:=.replicate 2 nnQ
 eT 0 a h fun a h=>bfQ 2 a fun a=>b1Q h a fun a=>blQ a fun d=>lp (jf C c a d) [] h [nSQ,I 0] h (exK [((.exit 0),fun a h=>q (ge a 0) h)])
theorem uR(h:gr (CX Y) t0 t1 (out v)):CP Y F.gr [t0,t1] v:=CPo 2 (nBQ (nRQ [.slot 0]) (aF (nCQ (aF (nCQ (.n (.l [5,14] [1,12,13] [((.exit 0),[5],[])] []) (dV (nCQ (nCQ (dV (nBQ (aF (nCQ (.n (.l [8,20] [1,5,7,12,13,14,18,19] [((.exit 2),[8],[1,5,12,13,14])] []) .o .o))) (nRQ [.o,.slot 1])))))) .o)))))) Tryz.func56 h
def jg(C:CC)(a c:V):aS:=fun l h q=>cIQ .lss (ge l 1) c (bxQ h 1 a (ge l 1) fun a=>b1Q h a fun a=>clQ C h F.kK [a] fun a h=>e2Q a fun a c=>bnd (unV .not c) fun c=>gqQ c false h a fun d h=>gbQ c false h (biI .gtr d (I 1000000000)) fun d h=>bpQ c (B true) d fun c=>gqQ c false h a fun d h=>gbQ c false h (biI .lss d (I (-1000000000))) fun d h=>bpQ c (B true) d fun c=>cnd c (q .ret [nSQ,I 4] h) (a1Q 1 (ge l 0) a h fun a h=>bIQ .add (ge l 1) (I 1) fun c=>q .normal [a,c] h)) (q (.exit 0) [ge l 0] h)
def gz(C:CC)(a c:V)(q:kQ):Prop:=let h:Hp:=.replicate 2 nnQ
 eT 0 a h fun a h=>bnd (ldA h 3 a) fun d=>dD 1 [nPQ] [(0,c)] h fun e h=>clQ C h F.gU [d,e] fun d h=>nzQ d (q (.tup [nSQ,d]) h) (bnd (ldA h 3 a) fun a=>clQ C h F.gr [a,c] fun a h=>blQ a fun c=>lp (jg C a c) [] h [nSQ,I 0] h (exK [((.exit 0),fun a h=>q (.tup [ge a 0,I 0]) h),(.ret,fun a h=>q (.tup [ge a 0,ge a 1]) h)]))
theorem uS(h:gz (CX Y) t0 t1 (out v)):CP Y F.gz [t0,t1] v:=CPo 2 (nBQ (nRQ [.slot 0]) (dV (nCQ (aF (nCQ (.n (.l [7,23] [21,22] [((.exit 0),[7],[]),(.ret,[4,5],[])] []) (dV (nCQ (nCQ (zD (nRQ [.o,.slot 1]))))) .o)))))) Tryz.func39 h
def ci(C:CC)(a c:V)(q:kQ):Prop:=let h:Hp:=.replicate 2 nnQ
 alV 0 [.d (.str []),.d (.str [])] h fun d h=>clQ C h F.dS [a,c] fun a h=>e2Q a fun a c=>alV 1 [.d (.str []),.d (.str [])] h fun c h=>stD h 2 c a fun _ h=>bnd (ldA h 2 c) fun a=>stD h 2 d a fun _ h=>bnd (ldA h 2 d) fun a=>q a h
theorem wz(h:ci (CX Y) t0 t1 (out v)):CP Y F.ci [t0,t1] v:=CPo 2 (nBQ (nRQ [.slot 0]) (nCQ (nRQ [.o,.slot 1]))) Tryz.func12 h
def lR(C:CC)(a:V)(q:kQ):Prop:=let h:Hp:=.replicate 1 nnQ
 eT 0 a h fun a h=>bnd (ldA h 3 a) fun c=>clQ C h F.fu [c] fun c h=>nzQ c (q c h) (bfQ 2 a fun c=>b1Q h c fun c=>blQ c fun c=>cIQ .neq c (I 2) (q (I 5) h) (bfQ 2 a fun a=>b1Q h a fun a=>bxQ h 1 a (I 0) fun a=>b1Q h a fun a=>bxQ h 1 a (I 0) fun a=>b1Q h a fun a=>cIQ .eql a (I 0) (q (I 26) h) (q (I 0) h)))
theorem Bf(h:lR (CX Y) t0 (out v)):CP Y F.lR [t0] v:=CPo 1 (nCQ (nRQ [.slot 0])) Tryz.func53 h
def im(C:CC)(a:V)(q:kQ):Prop:=let h:Hp:=.replicate 2 nnQ
 tC 0 0 [.int .i64 0] [] h fun c h=>apV false 1 1 8 c a h q
theorem yj(h:im (CX Y) t0 (out v)):CP Y F.im [t0] v:=CPo 2 (aF (nCQ (nRQ [.slot 0,.slot 1]))) Tryz.func54 h
def mX(C:CC)(a:V)(q:kQ):Prop:=let h:Hp:=.replicate 2 nnQ
 eT 0 a h fun a h=>alV 1 [.d (.int .i64 0),.d nPQ,.d nPQ] h fun c h=>bnd (ldA h 3 a) fun d=>clQ C h F.lR [d] fun d h=>nzQ d (bnd (bld [(0,1),(1,1),(2,1)] [.int .i64 0,nPQ,nPQ] []) fun a=>stD h 3 c a fun _ h=>bnd (ldA h 3 c) fun a=>q (.tup [a,d]) h) (bfQ 2 a fun d=>b1Q h d fun d=>bxQ h 1 d (I 0) fun d=>b1Q h d fun d=>bxQ h 1 d (I 0) fun d=>b1Q h d fun d=>bfQ 2 a fun e=>b1Q h e fun e=>bxQ h 1 e (I 0) fun e=>b1Q h e fun e=>clQ C h F.im [e] fun e h=>bfQ 2 a fun a=>b1Q h a fun a=>bxQ h 1 a (I 1) fun a=>b1Q h a fun a=>clQ C h F.im [a] fun a h=>bnd (bld [(0,1),(1,1),(2,1)] [.int .i64 0,nPQ,nPQ] [(0,d),(1,e),(2,a)]) fun a=>stD h 3 c a fun _ h=>bnd (ldA h 3 c) fun a=>q (.tup [a,I 0]) h)
theorem DK(h:mX (CX Y) t0 (out v)):CP Y F.mX [t0] v:=CPo 2 (nCQ (nRQ [.slot 0,.slot 1])) Tryz.func37 h
def m5(C:CC)(a:V)(q:kQ):Prop:=let h:Hp:=.replicate 2 nnQ
 eT 0 a h fun a h=>alV 1 [.d (.str []),.d (.str [])] h fun c h=>bfQ 0 a fun d=>b1Q h d fun d=>clQ C h F.lF [d] fun d h=>bfQ 1 a fun a=>b1Q h a fun a=>bnd (bld [(0,1),(1,1)] [.str [],.str []] [(0,d),(1,a)]) fun a=>stD h 2 c a fun _ h=>bnd (ldA h 2 c) fun a=>q a h
theorem DO(h:m5 (CX Y) t0 (out v)):CP Y F.m5 [t0] v:=CPo 2 (nCQ (nRQ [.slot 0,.slot 1])) Tryz.func65 h
def mY(C:CC)(a c:V)(q:kQ):Prop:=let h:Hp:=.replicate 3 nnQ
 eT 0 a h fun a h=>eT 1 c h fun c h=>alV 2 [.d (.str []),.d (.str [])] h fun d h=>bnd (ldA h 2 a) fun a=>bnd (ldA h 2 c) fun c=>clQ C h F.m5 [c] fun c h=>clQ C h F.fD [a,c] fun a h=>stD h 2 d a fun _ h=>bnd (ldA h 2 d) fun a=>q a h
theorem DL(h:mY (CX Y) t0 t1 (out v)):CP Y F.mY [t0,t1] v:=CPo 3 (nCQ (nRQ [.slot 0,.slot 1,.slot 2])) Tryz.func43 h
def fP(C:CC)(a c:V)(q:kQ):Prop:=let h:Hp:=.replicate 1 nnQ
 eT 0 c h fun c h=>clQ C h F.nZ [a] fun d h=>e2Q d fun d e=>nzQ e (q (.tup [nSQ,e]) h) (bnd (ldA h 2 c) fun c=>clQ C h F.o9 [a,d,c] fun a h=>e2Q a fun a c=>q (.tup [a,c]) h)
theorem xF(h:fP (CX Y) t0 t1 (out v)):CP Y F.fP [t0,t1] v:=CPo 1 (nCQ (nRQ [.slot 0])) Tryz.func42 h
def jv(C:CC)(a c d:V):aS:=fun l h q=>cIQ .lss (ge l 1) d (bxQ h 1 c (ge l 1) fun c=>b1Q h c fun c=>bnd (ldA h 3 a) fun a=>clQ C h F.gz [a,c] fun a h=>e2Q a fun a c=>nzQ c (q .ret [nSQ,I 0,c] h) (dD 1 [nPQ] [(0,a)] h fun a h=>apV false 2 1 24 (ge l 0) a h fun a h=>bIQ .add (ge l 1) (I 1) fun c=>q .normal [a,c] h)) (q (.exit 1) [ge l 0] h)
def ft(C:CC)(a c:V)(q:kQ):Prop:=let h:Hp:=.replicate 3 nnQ
 eT 0 a h fun a h=>bnd (ldA h 3 a) fun d=>clQ C h F.mX [d] fun d h=>e2Q d fun d e=>alV 1 [.d (.int .i64 0),.d nPQ,.d nPQ] h fun f h=>stD h 3 f d fun _ h=>nzQ e (q (.tup [nSQ,I 0,e]) h) (blQ c fun d=>cIQ .gtr d (I 60) (q (.tup [nSQ,I 0,I 4]) h) (bfQ 0 a fun d=>b1Q h d fun d=>clQ C h F.kv [d,c] fun d h=>nzQ d (q (.tup [nSQ,I 0,d]) h) (blQ c fun d=>lp (jv C a c d) [] h [nSQ,I 0] h (exK [((.exit 1),fun a h=>bfQ 0 f fun c=>b1Q h c fun c=>q (.tup [ge a 0,c,I 0]) h),(.ret,fun a h=>q (.tup [ge a 0,ge a 1,ge a 2]) h)]))))
theorem wq(h:ft (CX Y) t0 t1 (out v)):CP Y F.ft [t0,t1] v:=CPo 3 (nBQ (nRQ [.slot 0]) (nBQ (nRQ [.o,.slot 1]) (dV (nCQ (aF (nCQ (.n (.l [4,35] [2,7,33,34] [((.exit 1),[4],[7]),(.ret,[4,5,6],[])] []) (dV (nCQ (nCQ (zD (nRQ [.o,.slot 2]))))) .o))))))) Tryz.func23 h
def j9(C:CC)(a c d e f:V):aS:=fun l h q=>cIQ .lss (ge l 1) f (bxQ h 1 e (ge l 1) fun e=>b1Q h e fun e=>clQ C h F.dS [e,I 1] fun e h=>e2Q e fun e f=>alV 2 [.d (.str []),.d (.str [])] h fun f h=>stD h 2 f e fun _ h=>bIQ .eql (ge l 1) (I 0) fun e=>jn (fun a h=>bnd (ldA h 2 f) fun a=>bnd (ldA h 2 d) fun c=>clQ C h F.jK [a,c] fun a h=>e2Q a fun a c=>stD h 2 f a fun _ h=>bnd (ldA h 2 f) fun a=>dD 1 [.str [],.str []] [(0,a)] h fun a h=>apV false 4 2 32 (ge l 0) a h fun a h=>bIQ .add (ge l 1) (I 1) fun c=>q .normal [a,c] h) fun d=>cnd e (bxQ h 1 a (I 0) fun a=>b1Q h a fun a=>clQ C h F.dS [a,c] fun a h=>e2Q a fun a c=>alV 3 [.d (.str []),.d (.str [])] h fun c h=>stD h 2 c a fun _ h=>bnd (ldA h 2 f) fun a=>bnd (ldA h 2 c) fun c=>clQ C h F.mY [a,c] fun a h=>stD h 2 f a fun _ h=>d [] h) (d [] h)) (q (.exit 0) [ge l 0] h)
def iH(C:CC)(a c d e:V)(q:kQ):Prop:=let h:Hp:=.replicate 5 nnQ
 bxQ h 1 d (I 1) fun f=>b1Q h f fun f=>cIQ .eql f (I 0) (q (.tup [nSQ,B false,I 0]) h) (bxQ h 1 d (I 1) fun f=>b1Q h f fun f=>clQ C h F.dS [f,I 1] fun f h=>e2Q f fun f g=>alV 0 [.d (.str []),.d (.str [])] h fun g h=>stD h 2 g f fun _ h=>tC 1 0 [.str [],.str []] [] h fun f h=>blQ c fun i=>lp (j9 C d e g c i) [2,3] h [f,I 0] h (exK [((.exit 0),fun c h=>clQ C h F.jO [a,ge c 0] fun a h=>nzQ a (q (.tup [nSQ,B false,I 4]) h) (q (.tup [ge c 0,B true,I 0]) h))]))
theorem tY(h:iH (CX Y) t0 t1 t2 t3 (out v)):CP Y F.iH [t0,t1,t2,t3] v:=CPo 5 (dV (nBQ (nRQ [.o,.slot 0]) (nBQ (nRQ [.slot 1]) (nCQ (aF (nCQ (.n (.l [13,34] [0,2,3,11,32,33] [((.exit 0),[13],[0])] [2,3]) (dV (nCQ (nCQ (aF (nBQ (nRQ [.o,.slot 2]) (nBQ (aF (.n (.j [] [0,2,3,11,13,16,32,33,34]) (nCQ (nRQ [.o,.slot 3])) .o)) (aF (nRQ [.o,.slot 4])))))))) .o))))))) Tryz.func26 h
def fA(C:CC)(a c:V)(q:kQ):Prop:=let h:Hp:=.replicate 2 nnQ
 alV 0 [.d (.str []),.d (.str [])] h fun d h=>clQ C h F.dS [a,c] fun a h=>e2Q a fun a c=>alV 1 [.d (.str []),.d (.str [])] h fun c h=>stD h 2 c a fun _ h=>bnd (ldA h 2 c) fun a=>stD h 2 d a fun _ h=>bnd (ldA h 2 d) fun a=>q a h
theorem wC(h:fA (CX Y) t0 t1 (out v)):CP Y F.fA [t0,t1] v:=CPo 2 (nBQ (nRQ [.slot 0]) (nCQ (nRQ [.o,.slot 1]))) Tryz.func34 h
def dC(C:CC)(a:V)(q:kQ):Prop:=let h:Hp:=.replicate 2 nnQ
 eT 0 a h fun a h=>alV 1 [.d (.str []),.d (.str [])] h fun c h=>bfQ 0 a fun d=>b1Q h d fun d=>bIQ .rem d (.d (.int .i8 41)) fun d=>bnd (cvI .i64 d) fun d=>dD 6 [.int .i64 0] [(0,(I 1)),(1,(I 2)),(2,(I 3)),(3,(I 4)),(4,(I 6)),(5,(I 12))] h fun e h=>bfQ 1 a fun a=>b1Q h a fun a=>bIQ .rem a (.d (.int .u8 6)) fun a=>bxQ h 1 e a fun a=>b1Q h a fun a=>clQ C h F.fA [d,a] fun a h=>stD h 2 c a fun _ h=>bnd (ldA h 2 c) fun a=>q a h
theorem rY(h:dC (CX Y) t0 (out v)):CP Y F.dC [t0] v:=CPo 2 (nCQ (nRQ [.slot 0,.slot 1])) Tryz.func21 h
def jC(C:CC)(a c:V):aS:=fun l h q=>blQ a fun a=>cIQ .lss (ge l 1) a (bIQ .rem (ge l 1) (I 4) fun a=>bnd (ixP 4 2 c a) fun a=>bnd (ldA h 2 a) fun a=>clQ C h F.dC [a] fun a h=>dD 1 [.str [],.str []] [(0,a)] h fun a h=>apV false 2 2 32 (ge l 0) a h fun a h=>bIQ .add (ge l 1) (I 1) fun c=>q .normal [a,c] h) (q (.exit 0) [ge l 0] h)
def eB(C:CC)(a c:V)(q:kQ):Prop:=let h:Hp:=.replicate 3 nnQ
 eT 0 c h fun c h=>tC 1 0 [.str [],.str []] [] h fun d h=>lp (jC C a c) [] h [d,I 0] h (exK [((.exit 0),fun a h=>q (ge a 0) h)])
theorem wD(h:eB (CX Y) t0 t1 (out v)):CP Y F.eB [t0,t1] v:=CPo 3 (nBQ (nRQ [.slot 0]) (nBQ (nRQ [.slot 1]) (nCQ (aF (nCQ (.n (.l [5,6] [0,3] [((.exit 0),[5],[])] []) (aF (nCQ (nCQ (nRQ [.o,.o,.slot 2])))) .o)))))) Tryz.func9 h
def au(C:CC)(b:Nat)(h:Hp)(a:V)(q:kQ):Prop:=let h:Hp:=h++List.replicate 2 nnQ
 xi h .eql a nSQ fun c=>cnd c (q nSQ h) (tC (b+0) 0 [.str [],.str []] [] h fun c h=>apV false (b+1) 2 32 c a h q)
def ee(b:Nat):Ann:=(.n .x .o (.n .x .o (.n .x (.n (.r [.slot (b+0),.slot (b+1)]) .o .o) .o)))
theorem nf(C:CC)(h:Hp)(t0:V)(q:kkQ):fnI Y C Tryz.f18 2 ee [t0] h q=au C h.length h t0 q:=by rfl
theorem m9(b:Nat):okB Tryz.prog Tryz.f18 (ee b)=true:=by rfl
theorem iu(hh:au (CX Y) h.length h t0 (nB h.length v h2)):CI Y F.au [t0] h v h2:=
 CI.of (fn:=Tryz.f18) (m:=2) (a:=ee) rfl (fun _=>rfl) Tryz.func18 (m9 _) (by rw[nf];exact hh)
def jB(C:CC)(a c:V):aS:=fun l h q=>blQ a fun d=>cIQ .lss (ge l 0) d (bxQ h 2 a (ge l 0) fun a=>bnd (ldA h 2 a) fun a=>bxQ h 2 c (ge l 0) fun c=>bnd (ldA h 2 c) fun c=>bnd (biA [.str [],.str []] .neq a c) fun a=>cnd a (q .ret [B false] h) (bIQ .add (ge l 0) (I 1) fun a=>q .normal [a] h)) (q (.exit 0) [] h)
def dJ(C:CC)(a c:V)(q:kQ):Prop:=let h:Hp:=[]
 blQ a fun d=>blQ c fun e=>cIQ .neq d e (q (B false) h) (lp (jB C a c) [] h [I 0] h (exK [((.exit 0),fun a h=>q (B true) h),(.ret,fun a h=>q (ge a 0) h)]))
theorem wB(h:dJ (CX Y) t0 t1 (out v)):CP Y F.dJ [t0,t1] v:=CPo 0 (dV (nCQ (aF (nCQ (.n (.l [5] [0,1] [((.exit 0),[],[]),(.ret,[4],[])] []) .o .o))))) Tryz.func16 h
def eQ(C:CC)(b:Nat)(h:Hp)(a c d e:V)(q:kQ):Prop:=let h:Hp:=h++List.replicate 3 nnQ
 cIQ .eql d (I 0) (bfQ 0 a fun d=>bfQ 6 d fun d=>b1Q h d fun d=>gqQ d false h c fun c h=>gbQ d false h (biI .lss c (I 0)) fun c h=>bpQ d (B true) c fun c=>bfQ 0 a fun a=>bfQ 6 a fun a=>stD h 1 a c fun _ h=>q (.tup []) h) (bnd (unV .neg c) fun c=>clQ C h F.dS [c,e] fun c h=>e2Q c fun c e=>alV (b+0) [.d (.str []),.d (.str [])] h fun e h=>stD h 2 e c fun _ h=>clQ C h F.dS [d,I 1] fun c h=>e2Q c fun c f=>alV (b+1) [.d (.str []),.d (.str [])] h fun f h=>stD h 2 f c fun _ h=>bnd (ldA h 2 e) fun c=>bnd (ldA h 2 f) fun e=>clQ C h F.jK [c,e] fun c h=>e2Q c fun c e=>alV (b+2) [.d (.str []),.d (.str [])] h fun e h=>stD h 2 e c fun _ h=>jn (fun a h=>q (.tup []) h) fun c=>bIQ .gtr d (I 0) fun f=>gqQ f true h a fun g h=>gbQ f true h (faV 0 g) fun g h=>gbQ f true h (faV 4 g) fun g h=>gbQ f true h (ld1 h g) fun g h=>gbQ f true h (unV .not g) fun g h=>gqQ f true h g fun g h=>gbQ g false h (ldA h 2 e) fun i h=>gqQ g false h a fun j h=>gbQ g false h (faV 0 j) fun j h=>gbQ g false h (faV 0 j) fun j h=>gbQ g false h (ldA h 2 j) fun j h=>gd g false h (fun q=>clQ C h F.fc [i,j] q) fun i h=>gbQ g false h (biI .gtr i (I 0)) fun i h=>gbQ f true h (jD g (B true) i) fun g h=>bpQ f g (B false) fun f=>jn (fun a h=>c [] h) fun c=>cnd f (bnd (ldA h 2 e) fun d=>bfQ 0 a fun e=>bfQ 0 e fun e=>stD h 2 e d fun _ h=>bfQ 0 a fun a=>bfQ 4 a fun a=>stD h 1 a (B true) fun _ h=>c [] h) (bIQ .lss d (I 0) fun d=>gqQ d true h a fun f h=>gbQ d true h (faV 0 f) fun f h=>gbQ d true h (faV 5 f) fun f h=>gbQ d true h (ld1 h f) fun f h=>gbQ d true h (unV .not f) fun f h=>gqQ d true h f fun f h=>gbQ f false h (ldA h 2 e) fun g h=>gqQ f false h a fun i h=>gbQ f false h (faV 0 i) fun i h=>gbQ f false h (faV 2 i) fun i h=>gbQ f false h (ldA h 2 i) fun i h=>gd f false h (fun q=>clQ C h F.fc [g,i] q) fun g h=>gbQ f false h (biI .lss g (I 0)) fun g h=>gbQ d true h (jD f (B true) g) fun f h=>bpQ d f (B false) fun d=>jn (fun a h=>c [] h) fun c=>cnd d (bnd (ldA h 2 e) fun d=>bfQ 0 a fun e=>bfQ 2 e fun e=>stD h 2 e d fun _ h=>bfQ 0 a fun a=>bfQ 5 a fun a=>stD h 1 a (B true) fun _ h=>c [] h) (c [] h)))
def mB(b:Nat):Ann:=(.n .x .o (.n .x (.n (.r [.o,.slot (b+0)]) .o .o) (.n .x (.n (.r [.o,.slot (b+1)]) .o .o) (.n .x (.n (.r [.o,.slot (b+2)]) .o .o) (.n (.j [] []) (.n .x .o (.n (.j [] []) .o (.n .x .o (.n (.j [] []) .o .o)))) .o)))))
theorem uQ(C:CC)(h:Hp)(t0:V)(t1:V)(t2:V)(t3:V)(q:kkQ):fnI Y C Tryz.f24 3 mB [t0,t1,t2,t3] h q=eQ C h.length h t0 t1 t2 t3 q:=by rfl
theorem uO(b:Nat):okB Tryz.prog Tryz.f24 (mB b)=true:=by rfl
theorem uP(hh:eQ (CX Y) h.length h t0 t1 t2 t3 (nB h.length v h2)):CI Y F.eQ [t0,t1,t2,t3] h v h2:=
 CI.of (fn:=Tryz.f24) (m:=3) (a:=mB) rfl (fun _=>rfl) Tryz.func24 (uO _) (by rw[uQ];exact hh)
def iP(C:CC)(a c:V)(q:kQ):Prop:=let h:Hp:=.replicate 2 nnQ
 alV 0 [.d nPQ,.d nPQ,.d (.bool false),.d (.bool false),.d (.bool false)] h fun d h=>bfQ 0 a fun e=>bfQ 6 e fun e=>b1Q h e fun e=>gqQ e false h a fun f h=>gbQ e false h (faV 0 f) fun f h=>gbQ e false h (faV 4 f) fun f h=>gbQ e false h (ld1 h f) fun f h=>gqQ e false h f fun f h=>gqQ f true h a fun g h=>gbQ f true h (faV 0 g) fun g h=>gbQ f true h (faV 5 g) fun g h=>gbQ f true h (ld1 h g) fun g h=>gbQ e false h (jD f g (B false)) fun f h=>gqQ e false h f fun f h=>gqQ f true h a fun g h=>gbQ f true h (faV 0 g) fun g h=>gbQ f true h (faV 0 g) fun g h=>gbQ f true h (ldA h 2 g) fun g h=>gqQ f true h a fun i h=>gbQ f true h (faV 0 i) fun i h=>gbQ f true h (faV 2 i) fun i h=>gbQ f true h (ldA h 2 i) fun i h=>gd f true h (fun q=>clQ C h F.fc [g,i] q) fun g h=>gbQ f true h (biI .gtr g (I 0)) fun g h=>gbQ e false h (jD f g (B false)) fun f h=>bpQ e (B true) f fun e=>cnd e (bnd (bld [(0,1),(1,1),(2,1),(3,1),(4,1)] [nPQ,nPQ,.bool false,.bool false,.bool false] [(4,(B true))]) fun a=>stD h 5 d a fun _ h=>bnd (ldA h 5 d) fun a=>q (.tup [a,I 0]) h) (bfQ 0 a fun e=>bfQ 4 e fun e=>b1Q h e fun e=>bfQ 0 a fun f=>bfQ 5 f fun f=>b1Q h f fun f=>bnd (bld [(0,1),(1,1),(2,1),(3,1),(4,1)] [nPQ,nPQ,.bool false,.bool false,.bool false] [(2,e),(3,f)]) fun e=>alV 1 [.d nPQ,.d nPQ,.d (.bool false),.d (.bool false),.d (.bool false)] h fun f h=>stD h 5 f e fun _ h=>bfQ 0 a fun e=>bfQ 4 e fun e=>b1Q h e fun e=>jn (fun e h=>bfQ 0 a fun e=>bfQ 5 e fun e=>b1Q h e fun e=>jn (fun a h=>bnd (ldA h 5 f) fun a=>stD h 5 d a fun _ h=>bnd (ldA h 5 d) fun a=>q (.tup [a,I 0]) h) fun g=>cnd e (bfQ 0 a fun a=>bfQ 2 a fun a=>bnd (ldA h 2 a) fun a=>clQ C h F.fP [c,a] fun a h=>e2Q a fun a c=>bfQ 1 f fun e=>stD h 1 e a fun _ h=>nzQ c (bnd (bld [(0,1),(1,1),(2,1),(3,1),(4,1)] [nPQ,nPQ,.bool false,.bool false,.bool false] []) fun a=>stD h 5 d a fun _ h=>bnd (ldA h 5 d) fun a=>q (.tup [a,c]) h) (g [] h)) (g [] h)) fun g=>cnd e (bfQ 0 a fun a=>bfQ 0 a fun a=>bnd (ldA h 2 a) fun a=>clQ C h F.fP [c,a] fun a h=>e2Q a fun a c=>bfQ 0 f fun e=>stD h 1 e a fun _ h=>nzQ c (bnd (bld [(0,1),(1,1),(2,1),(3,1),(4,1)] [nPQ,nPQ,.bool false,.bool false,.bool false] []) fun a=>stD h 5 d a fun _ h=>bnd (ldA h 5 d) fun a=>q (.tup [a,c]) h) (g [] h)) (g [] h))
theorem wY(h:iP (CX Y) t0 t1 (out v)):CP Y F.iP [t0,t1] v:=CPo 2 (nBQ (nRQ [.slot 0]) (aF (nBQ (nRQ [.slot 1]) (aF (nBQ (aF (nJQ [] [0,1,4,6])) (nCQ (aF (nJQ [] [4,6])))))))) Tryz.func25 h
def kP(C:CC)(a c d:V):aS:=fun l h q=>blQ a fun e=>cIQ .lss (ge l 0) e (bxQ h 1 a (ge l 0) fun e=>b1Q h e fun e=>bxQ h 1 e (I 0) fun e=>b1Q h e fun e=>bIQ .sub (ge l 0) (I 1) fun f=>bxQ h 1 a f fun f=>b1Q h f fun f=>bxQ h 1 f (I 0) fun f=>b1Q h f fun f=>bIQ .sub e f fun e=>bxQ h 1 a (ge l 0) fun f=>b1Q h f fun f=>bxQ h 1 f (I 1) fun f=>b1Q h f fun f=>bIQ .sub (ge l 0) (I 1) fun g=>bxQ h 1 a g fun a=>b1Q h a fun a=>bxQ h 1 a (I 1) fun a=>b1Q h a fun a=>bIQ .sub f a fun a=>ciQ C h F.eQ [d,e,a,c] 3 fun a h=>bIQ .add (ge l 0) (I 1) fun a=>q .normal [a] h) (q (.exit 0) [] h)
def fR(C:CC)(a c:V)(q:kQ):Prop:=let h:Hp:=.replicate 4 nnQ
 eT 0 a h fun a h=>alV 1 [.d nPQ,.d nPQ,.d (.bool false),.d (.bool false),.d (.bool false)] h fun d h=>bnd (ldA h 3 a) fun e=>clQ C h F.ft [e,c] fun c h=>e3Q c fun c e f=>nzQ f (bnd (bld [(0,1),(1,1),(2,1),(3,1),(4,1)] [nPQ,nPQ,.bool false,.bool false,.bool false] []) fun a=>stD h 5 d a fun _ h=>bnd (ldA h 5 d) fun a=>q (.tup [a,f]) h) (alV 2 [.d (.str []),.d (.str []),.d (.str []),.d (.str []),.d (.bool false),.d (.bool false),.d (.bool false)] h fun f h=>lp (kP C c e f) [3] h [I 1] h (exK [((.exit 0),fun c h=>bfQ 0 a fun a=>b1Q h a fun a=>clQ C h F.iP [f,a] fun a h=>e2Q a fun a c=>stD h 5 d a fun _ h=>bnd (ldA h 5 d) fun a=>q (.tup [a,c]) h)]))
theorem xG(h:fR (CX Y) t0 t1 (out v)):CP Y F.fR [t0,t1] v:=CPo 4 (nBQ (nRQ [.slot 0,.slot 1]) (dV (nBQ (nRQ [.slot 2]) (nCQ (aF (nCQ (.n (.l [10] [2,4,6,7,9] [((.exit 0),[],[2,4,9])] [3]) (aF (nCQ (nCQ (nRQ [.inl 3])))) .o))))))) Tryz.func13 h
def cN(C:CC)(a c:V):aS:=fun l h q=>blQ a fun d=>cIQ .lss (ge l 1) d (jn (fun a h=>bIQ .add (ge l 1) (I 1) fun c=>q .normal [ge a 0,c] h) fun d=>bxQ h 1 a (ge l 1) fun e=>b1Q h e fun e=>cal C.p h c [e,ge l 0] fun c h=>bIQ .lss c (I 0) fun c=>jn (fun a h=>d [ge a 0] h) fun d=>cnd c (bxQ h 1 a (ge l 1) fun a=>b1Q h a fun a=>d [a] h) (d [ge l 0] h)) (q (.exit 0) [ge l 0] h)
def bE(C:CC)(a c:V)(q:kQ):Prop:=let h:Hp:=[]
 blQ a fun d=>bIQ .lss d (I 1) fun d=>jn (fun d h=>bxQ h 1 a (I 0) fun d=>b1Q h d fun d=>lp (cN C a c) [] h [d,I 1] h (exK [((.exit 0),fun a h=>q (ge a 0) h)])) fun a=>cnd d (False /- makeInterface -/) (a [] h)
theorem nJ(h:bE (CX Y) t0 t1 (out v)):CP Y F.bE [t0,t1] v:=CPo 0 (aF (nBQ (aF (nJQ [] [0,1])) (aF (nCQ (aF (nCQ (.n (.l [5,6] [0,1] [((.exit 0),[5],[])] []) (aF (nCQ (.n (.j [5] [0,1,6]) (aF (nJQ [5] [0,1,6])) .o))) .o))))))) Tryz.func28 h
def cO(C:CC)(a c:V):aS:=fun l h q=>blQ a fun d=>cIQ .lss (ge l 1) d (jn (fun a h=>bIQ .add (ge l 1) (I 1) fun c=>q .normal [ge a 0,c] h) fun d=>bxQ h 1 a (ge l 1) fun e=>b1Q h e fun e=>cal C.p h c [e,ge l 0] fun c h=>bIQ .gtr c (I 0) fun c=>jn (fun a h=>d [ge a 0] h) fun d=>cnd c (bxQ h 1 a (ge l 1) fun a=>b1Q h a fun a=>d [a] h) (d [ge l 0] h)) (q (.exit 0) [ge l 0] h)
def bF(C:CC)(a c:V)(q:kQ):Prop:=let h:Hp:=[]
 blQ a fun d=>bIQ .lss d (I 1) fun d=>jn (fun d h=>bxQ h 1 a (I 0) fun d=>b1Q h d fun d=>lp (cO C a c) [] h [d,I 1] h (exK [((.exit 0),fun a h=>q (ge a 0) h)])) fun a=>cnd d (False /- makeInterface -/) (a [] h)
theorem nK(h:bF (CX Y) t0 t1 (out v)):CP Y F.bF [t0,t1] v:=CPo 0 (aF (nBQ (aF (nJQ [] [0,1])) (aF (nCQ (aF (nCQ (.n (.l [5,6] [0,1] [((.exit 0),[5],[])] []) (aF (nCQ (.n (.j [5] [0,1,6]) (aF (nJQ [5] [0,1,6])) .o))) .o))))))) Tryz.func29 h
def j6(C:CC)(a c d e f g:V):aS:=fun l h q=>cIQ .lss (ge l 1) g (jn (fun a h=>bIQ .add (ge l 1) (I 1) fun c=>q .normal [ge a 0,c] h) fun g=>bxQ h 1 f (ge l 1) fun f=>b1Q h f fun f=>bfQ 0 a fun a=>b1Q h a fun a=>bxQ h 1 d (ge l 1) fun d=>b1Q h d fun d=>clQ C h F.iH [a,f,d,e] fun a h=>e3Q a fun a d e=>nzQ e (bnd (bld [(0,1),(1,1),(2,1),(3,1),(4,1)] [nPQ,nPQ,.bool false,.bool false,.bool false] []) fun a=>stD h 5 c a fun _ h=>q .ret [e] h) (jn (fun a h=>g [ge a 0] h) fun c=>cnd d (dD 1 [nPQ] [(0,a)] h fun a h=>apV false 2 1 24 (ge l 0) a h fun a h=>c [a] h) (c [ge l 0] h))) (q (.exit 0) [ge l 0] h)
def eU(C:CC)(a c:V)(q:kQ):Prop:=let h:Hp:=.replicate 4 nnQ
 eT 0 a h fun a h=>alV 1 [.d nPQ,.d nPQ,.d (.bool false),.d (.bool false),.d (.bool false)] h fun d h=>bnd (ldA h 3 a) fun e=>clQ C h F.ft [e,c] fun e h=>e3Q e fun e f g=>nzQ g (bnd (bld [(0,1),(1,1),(2,1),(3,1),(4,1)] [nPQ,nPQ,.bool false,.bool false,.bool false] []) fun a=>stD h 5 d a fun _ h=>bnd (ldA h 5 d) fun a=>q (.tup [a,g]) h) (blQ c fun g=>lp (j6 C a d e f c g) [] h [nSQ,I 0] h (exK [((.exit 0),fun c h=>blQ (ge c 0) fun e=>cIQ .eql e (I 0) (bnd (bld [(0,1),(1,1),(2,1),(3,1),(4,1)] [nPQ,nPQ,.bool false,.bool false,.bool false] []) fun a=>stD h 5 d a fun _ h=>bnd (ldA h 5 d) fun a=>q (.tup [a,I 19]) h) (clQ C h F.bE [ge c 0,(.fn F.bj [] [a])] fun e h=>clQ C h F.bF [ge c 0,(.fn F.bj [] [a])] fun a h=>ciQ C h F.au [a] 3 fun a h=>bnd (bld [(0,1),(1,1),(2,1),(3,1),(4,1)] [nPQ,nPQ,.bool false,.bool false,.bool false] [(0,e),(1,a),(2,(B true)),(3,(B true))]) fun a=>stD h 5 d a fun _ h=>bnd (ldA h 5 d) fun a=>q (.tup [a,I 0]) h)),(.ret,fun a h=>bnd (ldA h 5 d) fun c=>q (.tup [c,ge a 0]) h)]))
theorem wZ(h:eU (CX Y) t0 t1 (out v)):CP Y F.eU [t0,t1] v:=CPo 4 (nBQ (nRQ [.slot 0,.slot 1]) (zD (nBQ (aF (nCQ (.n (.l [9,29] [2,4,6,7,27,28] [((.exit 0),[9],[2,4]),(.ret,[5],[4])] []) (dV (nCQ (.n (.j [9] [2,4,6,7,27,28,29]) (L8 (.n (.j [9] [2,4,6,7,27,28,29]) (nRQ [.o,.slot 2]) .o)) .o))) .o))) (dV (nCQ (nRQ [.o,.o,.inl 3])))))) Tryz.func15 h
def bj(C:CC)(a c d:V)(q:kQ):Prop:=let h:Hp:=[]
 bfQ 0 d fun d=>b1Q h d fun d=>clQ C h F.bY [d,a,c] fun a h=>e2Q a fun a c=>q a h
theorem uh(h:bj (CX Y) t0 t1 t2 (out v)):CP Y F.bj [t0,t1,t2] v:=CPo 0 .o Tryz.func27 h
def dz(C:CC)(q:kQ):Prop:=let h:Hp:=.replicate 1 nnQ
 alV 0 [.d nPQ,.d nPQ,.d nPQ] h fun a h=>dD 3 [.int .i64 0] [(0,(I 2)),(1,(I 3)),(2,(I 5))] h fun c h=>dD 3 [.int .i64 0] [(0,(I 4)),(1,(I (-4))),(2,(I 1))] h fun d h=>dD 1 [nPQ] [(0,d)] h fun d h=>dD 3 [.int .i64 0] [(0,(I 1)),(1,(I 0)),(2,(I (-4)))] h fun e h=>dD 3 [.int .i64 0] [(0,(I 0)),(1,(I 1)),(2,(I 4))] h fun f h=>dD 2 [nPQ] [(0,e),(1,f)] h fun e h=>bnd (bld [(0,1),(1,1),(2,1)] [nPQ,nPQ,nPQ] [(0,c),(1,d),(2,e)]) fun c=>stD h 3 a c fun _ h=>bnd (ldA h 3 a) fun a=>q a h
theorem rX(h:dz (CX Y) (out v)):CP Y F.dz [] v:=CPo 1 (nCQ (nRQ [.slot 0])) Tryz.func14 h
def gC(C:CC)(q:kQ):Prop:=let h:Hp:=.replicate 3 nnQ
 clQ C h F.ci [I 0,I 1] fun a h=>alV 0 [.d (.str []),.d (.str [])] h fun c h=>stD h 2 c a fun _ h=>clQ C h F.dz [] fun a h=>dD 3 [.int .i64 0] [(0,(I 0)),(1,(I 0)),(2,(I 0))] h fun d h=>dD 3 [.int .i64 0] [(0,(I (-3))),(1,(I 2)),(2,(I 0))] h fun e h=>dD 3 [.int .i64 0] [(0,(I (-2))),(1,(I 0)),(2,(I 1))] h fun f h=>dD 3 [.int .i64 0] [(0,(I 2)),(1,(I (-1))),(2,(I 0))] h fun g h=>dD 3 [.int .i64 0] [(0,(I (-1))),(1,(I 1)),(2,(I 0))] h fun i h=>dD 5 [nPQ] [(0,d),(1,e),(2,f),(3,g),(4,i)] h fun d h=>clQ C h F.fR [a,d] fun a h=>e2Q a fun a d=>alV 1 [.d nPQ,.d nPQ,.d (.bool false),.d (.bool false),.d (.bool false)] h fun e h=>stD h 5 e a fun _ h=>clQ C h F.dz [] fun a h=>dD 3 [.int .i64 0] [(0,(I (-2))),(1,(I 0)),(2,(I 1))] h fun f h=>dD 3 [.int .i64 0] [(0,(I (-1))),(1,(I 1)),(2,(I 0))] h fun g h=>dD 2 [nPQ] [(0,f),(1,g)] h fun f h=>clQ C h F.eU [a,f] fun a h=>e2Q a fun a f=>alV 2 [.d nPQ,.d nPQ,.d (.bool false),.d (.bool false),.d (.bool false)] h fun g h=>stD h 5 g a fun _ h=>bIQ .eql d (I 0) fun a=>gbQ a true h (faV 2 e) fun d h=>gbQ a true h (ld1 h d) fun d h=>bpQ a d (B false) fun a=>gbQ a true h (faV 3 e) fun d h=>gbQ a true h (ld1 h d) fun d h=>bpQ a d (B false) fun a=>gbQ a true h (faV 0 e) fun d h=>gbQ a true h (ld1 h d) fun d h=>gd a true h (fun q=>clQ C h F.ci [I 3,I 2] q) fun i h=>gbQ a true h (ldA h 2 c) fun j h=>gbQ a true h (ldA h 2 c) fun k h=>gd a true h (fun q=>dD 3 [.str [],.str []] [(0,i),(1,j),(2,k)] h q) fun i h=>gd a true h (fun q=>clQ C h F.dJ [d,i] q) fun d h=>bpQ a d (B false) fun a=>gbQ a true h (faV 1 e) fun d h=>gbQ a true h (ld1 h d) fun d h=>gd a true h (fun q=>clQ C h F.ci [I 8,I 5] q) fun e h=>gbQ a true h (ldA h 2 c) fun i h=>gbQ a true h (ldA h 2 c) fun j h=>gd a true h (fun q=>dD 3 [.str [],.str []] [(0,e),(1,i),(2,j)] h q) fun e h=>gd a true h (fun q=>clQ C h F.dJ [d,e] q) fun d h=>bpQ a d (B false) fun a=>gqQ a true h f fun d h=>gbQ a true h (biI .eql d (I 0)) fun d h=>bpQ a d (B false) fun a=>gbQ a true h (faV 0 g) fun d h=>gbQ a true h (ld1 h d) fun d h=>gd a true h (fun q=>clQ C h F.ci [I 1,I 1] q) fun e h=>gbQ a true h (ldA h 2 c) fun f h=>gd a true h (fun q=>clQ C h F.ci [I 1,I 4] q) fun i h=>gd a true h (fun q=>dD 3 [.str [],.str []] [(0,e),(1,f),(2,i)] h q) fun e h=>gd a true h (fun q=>clQ C h F.dJ [d,e] q) fun d h=>bpQ a d (B false) fun a=>gbQ a true h (faV 1 g) fun d h=>gbQ a true h (ld1 h d) fun d h=>gbQ a true h (ldA h 2 c) fun e h=>gd a true h (fun q=>clQ C h F.ci [I 1,I 1] q) fun f h=>gbQ a true h (ldA h 2 c) fun c h=>gd a true h (fun q=>dD 3 [.str [],.str []] [(0,e),(1,f),(2,c)] h q) fun c h=>gd a true h (fun q=>clQ C h F.dJ [d,c] q) fun c h=>bpQ a c (B false) fun a=>q a h
theorem u9(h:gC (CX Y) (out v)):CP Y F.gC [] v:=CPo 3 (aF (nBQ (nRQ [.o,.slot 0]) (nBQ (nRQ [.o,.o,.o,.o,.o,.o,.o,.o,.slot 1]) (nCQ (nRQ [.o,.o,.o,.o,.o,.slot 2]))))) Tryz.func4 h
def fc(C:CC)(a c:V)(q:kQ):Prop:=let h:Hp:=.replicate 2 nnQ
 eT 0 a h fun a h=>eT 1 c h fun c h=>bnd (ldA h 2 a) fun d=>clQ C h F.dp [d] fun d h=>e3Q d fun d e f=>jn (fun d h=>bfQ 1 a fun d=>b1Q h d fun d=>bfQ 1 c fun e=>b1Q h e fun e=>bSQ .eql d e fun d=>cnd d (bfQ 0 a fun a=>b1Q h a fun a=>bfQ 0 c fun c=>b1Q h c fun c=>clQ C h F.dU [a,c] q) (bfQ 0 a fun d=>b1Q h d fun d=>bfQ 1 c fun e=>b1Q h e fun e=>clQ C h F.aR [d,e] fun d h=>bfQ 0 c fun c=>b1Q h c fun c=>bfQ 1 a fun a=>b1Q h a fun a=>clQ C h F.aR [c,a] fun a h=>clQ C h F.dU [d,a] q)) fun a=>cnd f (bnd (ldA h 2 c) fun c=>clQ C h F.dp [c] fun c h=>e3Q c fun c f g=>cnd g (bIQ .mul d f fun a=>bIQ .mul c e fun c=>cIQ .lss a c (q (I (-1)) h) (cIQ .gtr a c (q (I 1) h) (q (I 0) h))) (a [] h)) (a [] h)
theorem xr(h:fc (CX Y) t0 t1 (out v)):CP Y F.fc [t0,t1] v:=CPo 2 (nBQ (nRQ [.slot 0,.slot 1]) (nCQ (dV (nJQ [] [2,3])))) Tryz.func41 h
def fx(C:CC)(a c:V)(q:kQ):Prop:=let h:Hp:=.replicate 3 nnQ
 eT 0 c h fun c h=>alV 1 [.d nPQ,.d nPQ,.d (.bool false),.d (.bool false),.d (.bool false)] h fun d h=>bfQ 18 c fun e=>b1Q h e fun e=>cnd e (bnd (bld [(0,1),(1,1),(2,1),(3,1),(4,1)] [nPQ,nPQ,.bool false,.bool false,.bool false] [(4,(B true))]) fun a=>stD h 5 d a fun _ h=>bnd (ldA h 5 d) fun a=>q a h) (bfQ 16 c fun e=>b1Q h e fun e=>bfQ 17 c fun f=>b1Q h f fun f=>bnd (bld [(0,1),(1,1),(2,1),(3,1),(4,1)] [nPQ,nPQ,.bool false,.bool false,.bool false] [(2,e),(3,f)]) fun e=>alV 2 [.d nPQ,.d nPQ,.d (.bool false),.d (.bool false),.d (.bool false)] h fun f h=>stD h 5 f e fun _ h=>bfQ 0 c fun e=>bnd (ldA h 8 e) fun e=>clQ C h F.eB [a,e] fun e h=>bfQ 8 c fun c=>bnd (ldA h 8 c) fun c=>clQ C h F.eB [a,c] fun c h=>clQ C h F.bY [a,e,c] fun a h=>e2Q a fun a g=>bIQ .gtr a (I 0) fun a=>jn (fun a h=>bfQ 2 f fun c=>b1Q h c fun c=>jn (fun c h=>bfQ 3 f fun c=>b1Q h c fun c=>jn (fun a h=>bnd (ldA h 5 f) fun a=>stD h 5 d a fun _ h=>bnd (ldA h 5 d) fun a=>q a h) fun d=>cnd c (bfQ 1 f fun c=>stD h 1 c (ge a 1) fun _ h=>d [] h) (d [] h)) fun d=>cnd c (bfQ 0 f fun c=>stD h 1 c (ge a 0) fun _ h=>d [] h) (d [] h)) fun d=>cnd a (d [c,e] h) (d [e,c] h))
theorem wA(h:fx (CX Y) t0 t1 (out v)):CP Y F.fx [t0,t1] v:=CPo 3 (nBQ (nRQ [.slot 0,.slot 1]) (aF (nBQ (nRQ [.slot 2]) (aF (nBQ (dV (nJQ [6,7] [4,5])) (nBQ (aF (nJQ [] [4,5,7])) (nCQ (aF (nJQ [] [4,5]))))))))) Tryz.func6 h
def aT(C:CC)(a c d:V):aS:=fun l h q=>cIQ .lss (ge l 0) (I 2) (jn (fun a h=>bIQ .add (ge l 0) (I 1) fun a=>q .normal [a] h) fun e=>bnd (ixA 2 1 true d (ge l 0)) fun d=>bfQ 2 c fun f=>b1Q h f fun f=>bfQ 3 c fun c=>b1Q h c fun c=>bnd (Ap 1 [.bool false,.bool false] [(0,f),(1,c)]) fun c=>bnd (ixA 2 1 true c (ge l 0)) fun c=>bnd (unV .not c) fun f=>gqQ f true h d fun g h=>gbQ f true h (bf g) fun g h=>gbQ f true h (biI .gtr g (I 0)) fun g h=>bpQ f g (B false) fun f=>cnd f (q .ret [I 7] h) (bnd (unV .not c) fun c=>cnd c (e [] h) (clQ C h F.jO [a,d] fun a h=>nzQ a (q .ret [a] h) (e [] h)))) (q (.exit 0) [] h)
def eH(C:CC)(a c:V)(q:kQ):Prop:=let h:Hp:=.replicate 1 nnQ
 eT 0 c h fun c h=>clQ C h F.eW [a] fun d h=>nzQ d (q d h) (bfQ 4 c fun d=>b1Q h d fun d=>gbQ d true h (faV 2 c) fun e h=>gbQ d true h (ld1 h e) fun e h=>gqQ d true h e fun e h=>gbQ e false h (faV 3 c) fun f h=>gbQ e false h (ld1 h f) fun f h=>gbQ d true h (jD e (B true) f) fun e h=>gqQ d true h e fun e h=>gbQ e false h (faV 0 c) fun f h=>gbQ e false h (ld1 h f) fun f h=>gbQ e false h (bf f) fun f h=>gbQ e false h (biI .gtr f (I 0)) fun f h=>gbQ d true h (jD e (B true) f) fun e h=>gqQ d true h e fun e h=>gbQ e false h (faV 1 c) fun f h=>gbQ e false h (ld1 h f) fun f h=>gbQ e false h (bf f) fun f h=>gbQ e false h (biI .gtr f (I 0)) fun f h=>gbQ d true h (jD e (B true) f) fun e h=>bpQ d e (B false) fun d=>cnd d (q (I 7) h) (bfQ 0 c fun d=>b1Q h d fun d=>bfQ 1 c fun e=>b1Q h e fun e=>bnd (Ap 1 [nPQ,nPQ] [(0,d),(1,e)]) fun d=>lp (aT C a c d) [] h [I 0] h (exK [((.exit 0),fun d h=>bfQ 2 c fun d=>b1Q h d fun d=>gbQ d true h (faV 3 c) fun e h=>gbQ d true h (ld1 h e) fun e h=>bpQ d e (B false) fun d=>jn (fun a h=>q (I 0) h) fun e=>cnd d (bfQ 0 c fun d=>b1Q h d fun d=>bfQ 1 c fun c=>b1Q h c fun c=>clQ C h F.bY [a,d,c] fun a h=>e2Q a fun a c=>cIQ .gtr a (I 0) (q (I 6) h) (e [] h)) (e [] h)),(.ret,fun a h=>q (ge a 0) h)])))
theorem yY(h:eH (CX Y) t0 t1 (out v)):CP Y F.eH [t0,t1] v:=CPo 1 (nBQ (nRQ [.slot 0]) (dV (nBQ (aF (nCQ (.n (.l [44] [0,3,43] [((.exit 0),[],[0,3]),(.ret,[4],[])] []) (dV (nCQ (nJQ [] [0,3,43,44]))) .o))) (nCQ (aF (nJQ [] [])))))) Tryz.func8 h
def kR(C:CC)(a c d:V):aS:=fun l h q=>cIQ .lss (ge l 0) (I 2) (bnd (ixA 2 5 false d (ge l 0)) fun d=>alV 3 [.d nPQ,.d nPQ,.d (.bool false),.d (.bool false),.d (.bool false)] h fun e h=>stD h 5 e d fun _ h=>bnd (ldA h 5 e) fun d=>clQ C h F.eH [a,d] fun a h=>nzQ a (bnd (bld [(0,1),(1,1),(2,1),(3,1),(4,1)] [nPQ,nPQ,.bool false,.bool false,.bool false] []) fun d=>stD h 5 c d fun _ h=>q .ret [a] h) (bIQ .add (ge l 0) (I 1) fun a=>q .normal [a] h)) (q (.exit 0) [] h)
def js(C:CC)(a c d:V)(q:kQ):Prop:=let h:Hp:=.replicate 7 nnQ
 eT 0 c h fun c h=>eT 1 d h fun d h=>alV 2 [.d nPQ,.d nPQ,.d (.bool false),.d (.bool false),.d (.bool false)] h fun e h=>bnd (ldA h 5 c) fun f=>bnd (ldA h 5 d) fun g=>bnd (Ap 5 [nPQ,nPQ,.bool false,.bool false,.bool false,nPQ,nPQ,.bool false,.bool false,.bool false] [(0,f),(1,g)]) fun f=>lp (kR C a e f) [3] h [I 0] h (exK [((.exit 0),fun f h=>bfQ 4 c fun f=>b1Q h f fun f=>gbQ f false h (faV 4 d) fun g h=>gbQ f false h (ld1 h g) fun g h=>bpQ f (B true) g fun f=>cnd f (bnd (bld [(0,1),(1,1),(2,1),(3,1),(4,1)] [nPQ,nPQ,.bool false,.bool false,.bool false] [(4,(B true))]) fun a=>stD h 5 e a fun _ h=>bnd (ldA h 5 e) fun a=>q (.tup [a,I 0]) h) (bnd (ldA h 5 c) fun f=>alV 4 [.d nPQ,.d nPQ,.d (.bool false),.d (.bool false),.d (.bool false)] h fun g h=>stD h 5 g f fun _ h=>bfQ 0 c fun f=>b1Q h f fun f=>bfQ 0 d fun i=>b1Q h i fun i=>clQ C h F.bY [a,f,i] fun f h=>e2Q f fun f i=>bfQ 2 d fun i=>b1Q h i fun i=>gbQ i true h (faV 2 c) fun j h=>gbQ i true h (ld1 h j) fun j h=>gbQ i true h (unV .not j) fun j h=>gqQ i true h j fun j h=>gqQ j false h f fun f h=>gbQ j false h (biI .lss f (I 0)) fun f h=>gbQ i true h (jD j (B true) f) fun f h=>bpQ i f (B false) fun f=>jn (fun f h=>bfQ 1 c fun f=>b1Q h f fun f=>bfQ 1 d fun i=>b1Q h i fun i=>clQ C h F.bY [a,f,i] fun f h=>e2Q f fun f i=>bfQ 3 d fun i=>b1Q h i fun i=>gbQ i true h (faV 3 c) fun c h=>gbQ i true h (ld1 h c) fun c h=>gbQ i true h (unV .not c) fun c h=>gqQ i true h c fun c h=>gqQ c false h f fun f h=>gbQ c false h (biI .gtr f (I 0)) fun f h=>gbQ i true h (jD c (B true) f) fun c h=>bpQ i c (B false) fun c=>jn (fun c h=>bnd (ldA h 5 g) fun c=>clQ C h F.eH [a,c] fun a h=>nzQ a (bnd (bld [(0,1),(1,1),(2,1),(3,1),(4,1)] [nPQ,nPQ,.bool false,.bool false,.bool false] [(4,(B true))]) fun a=>stD h 5 e a fun _ h=>bnd (ldA h 5 e) fun a=>q (.tup [a,I 0]) h) (bfQ 0 g fun a=>b1Q h a fun a=>Aj C.i h (.fn F.au [] []) [a] 5 fun a h=>bfQ 1 g fun c=>b1Q h c fun c=>ciQ C h F.au [c] 6 fun c h=>bfQ 0 g fun d=>stD h 1 d a fun _ h=>bfQ 1 g fun a=>stD h 1 a c fun _ h=>bnd (ldA h 5 g) fun a=>stD h 5 e a fun _ h=>bnd (ldA h 5 e) fun a=>q (.tup [a,I 0]) h)) fun a=>cnd c (bfQ 1 d fun c=>b1Q h c fun c=>bfQ 1 g fun d=>stD h 1 d c fun _ h=>bfQ 3 g fun c=>stD h 1 c (B true) fun _ h=>a [] h) (a [] h)) fun a=>cnd f (bfQ 0 d fun c=>b1Q h c fun c=>bfQ 0 g fun d=>stD h 1 d c fun _ h=>bfQ 2 g fun c=>stD h 1 c (B true) fun _ h=>a [] h) (a [] h))),(.ret,fun a h=>bnd (ldA h 5 e) fun c=>q (.tup [c,ge a 0]) h)])
theorem xH(h:js (CX Y) t0 t1 t2 (out v)):CP Y F.js [t0,t1,t2] v:=CPo 7 (nBQ (nRQ [.slot 0,.slot 1,.slot 2]) (nBQ (aF (nCQ (.n (.l [19] [0,4,5,6,18] [((.exit 0),[],[0,4,5,6]),(.ret,[7],[6])] [3]) (dV (nCQ (nCQ (nCQ (nRQ [.slot 3]))))) .o))) (aF (nBQ (nRQ [.slot 4]) (nBQ (dV (nJQ [] [0,4,5,6,11])) (nBQ (dV (nJQ [] [0,6,11])) (aF (nCQ (nRQ [.inl 5,.inl 6]))))))))) Tryz.func7 h
def ew(C:CC)(a c d:V)(q:kQ):Prop:=let h:Hp:=.replicate 1 nnQ
 eT 0 c h fun c h=>bnd (ldA h 5 c) fun e=>clQ C h F.eH [a,e] fun e h=>nzQ e (q (.tup [B false,e]) h) (clQ C h F.jO [a,d] fun e h=>nzQ e (q (.tup [B false,e]) h) (bfQ 4 c fun e=>b1Q h e fun e=>cnd e (q (.tup [B false,I 0]) h) (bfQ 2 c fun e=>b1Q h e fun e=>jn (fun e h=>bfQ 3 c fun f=>b1Q h f fun f=>jn (fun a h=>bIQ .leq (ge e 0) (I 0) fun c=>gqQ c true h (ge a 0) fun a h=>gbQ c true h (biI .leq a (I 0)) fun a h=>bpQ c a (B false) fun a=>q (.tup [a,I 0]) h) fun e=>cnd f (bfQ 1 c fun c=>b1Q h c fun c=>clQ C h F.bY [a,d,c] fun a h=>e2Q a fun a c=>e [a] h) (e [I 0] h)) fun f=>cnd e (bfQ 0 c fun c=>b1Q h c fun c=>clQ C h F.bY [a,c,d] fun a h=>e2Q a fun a c=>f [a] h) (f [I 0] h))))
theorem wt(h:ew (CX Y) t0 t1 t2 (out v)):CP Y F.ew [t0,t1,t2] v:=CPo 1 (nBQ (nRQ [.slot 0]) (L8 (nBQ (aF (nJQ [10] [0,2,4,11])) (nCQ (aF (nJQ [11] [10])))))) Tryz.func10 h
def iQ(C:CC)(a c d:V)(q:kQ):Prop:=let h:Hp:=.replicate 1 nnQ
 eT 0 c h fun c h=>bfQ 4 c fun e=>b1Q h e fun e=>cnd e (q (B false) h) (bfQ 2 c fun e=>b1Q h e fun e=>jn (fun e h=>bfQ 3 c fun f=>b1Q h f fun f=>jn (fun a h=>bIQ .leq (ge e 0) (I 0) fun c=>gqQ c true h (ge a 0) fun a h=>gbQ c true h (biI .leq a (I 0)) fun a h=>bpQ c a (B false) fun a=>q a h) fun e=>cnd f (bfQ 1 c fun c=>b1Q h c fun c=>clQ C h F.bY [a,d,c] fun a h=>e2Q a fun a c=>e [a] h) (e [I 0] h)) fun f=>cnd e (bfQ 0 c fun c=>b1Q h c fun c=>clQ C h F.bY [a,c,d] fun a h=>e2Q a fun a c=>f [a] h) (f [I 0] h))
theorem w9(h:iQ (CX Y) t0 t1 t2 (out v)):CP Y F.iQ [t0,t1,t2] v:=CPo 1 (nBQ (nRQ [.slot 0]) (dV (nBQ (aF (nJQ [7] [0,2,4,8])) (nCQ (aF (nJQ [8] [7])))))) Tryz.func11 h
def bQ(C:CC)(a c:V):aS:=fun l h q=>cIQ .lss (ge l 1) c (jn (fun a h=>bIQ .add (ge l 1) (I 1) fun c=>q .normal [ge a 0,c] h) fun c=>bxQ h 5 a (ge l 1) fun a=>bnd (ldA h 5 a) fun a=>alV 6 [.d nPQ,.d nPQ,.d (.bool false),.d (.bool false),.d (.bool false)] h fun d h=>stD h 5 d a fun _ h=>bfQ 2 d fun a=>b1Q h a fun a=>jn (fun a h=>bfQ 3 d fun e=>b1Q h e fun e=>jn (fun a h=>c [ge a 0] h) fun c=>cnd e (bfQ 1 d fun d=>b1Q h d fun d=>dD 1 [nPQ] [(0,d)] h fun d h=>apV false 8 1 24 (ge a 0) d h fun a h=>c [a] h) (c [ge a 0] h)) fun c=>cnd a (bfQ 0 d fun a=>b1Q h a fun a=>dD 1 [nPQ] [(0,a)] h fun a h=>apV false 7 1 24 (ge l 0) a h fun a h=>c [a] h) (c [ge l 0] h)) (q (.exit 0) [ge l 0] h)
def cL(C:CC)(a c d e f:V):aS:=fun l h q=>blQ f fun g=>cIQ .lss (ge l 0) g (bnd (ldA h 5 c) fun g=>bxQ h 1 f (ge l 0) fun i=>b1Q h i fun i=>clQ C h F.ew [a,g,i] fun g h=>e2Q g fun g i=>bnd (ldA h 5 d) fun d=>bxQ h 1 f (ge l 0) fun j=>b1Q h j fun j=>clQ C h F.ew [a,d,j] fun d h=>e2Q d fun d j=>bnd (ldA h 5 e) fun e=>bxQ h 1 f (ge l 0) fun k=>b1Q h k fun k=>clQ C h F.ew [a,e,k] fun e h=>e2Q e fun e k=>bIQ .neq i (I 0) fun i=>gqQ i false h j fun j h=>gbQ i false h (biI .neq j (I 0)) fun j h=>bpQ i (B true) j fun i=>gqQ i false h k fun j h=>gbQ i false h (biI .neq j (I 0)) fun j h=>bpQ i (B true) j fun i=>gqQ i false h g fun j h=>gqQ i false h a fun a h=>gbQ i false h (ldA h 5 c) fun c h=>gqQ i false h f fun f h=>gqQ i false h (ge l 0) fun k h=>gbQ i false h (ixV h 1 f k) fun f h=>gbQ i false h (ld1 h f) fun f h=>gd i false h (fun q=>clQ C h F.iQ [a,c,f] q) fun a h=>gbQ i false h (biB .neq j a) fun a h=>bpQ i (B true) a fun a=>gqQ a false h e fun c h=>gqQ a false h g fun e h=>gqQ a false h e fun e h=>gqQ e true h d fun d h=>gbQ a false h (jD e d (B false)) fun d h=>gbQ a false h (biB .neq c d) fun c h=>bpQ a (B true) c fun a=>cnd a (q .ret [B false] h) (bIQ .add (ge l 0) (I 1) fun a=>q .normal [a] h)) (q (.exit 2) [] h)
def dI(C:CC)(a c d:V)(q:kQ):Prop:=let h:Hp:=.replicate 9 nnQ
 eT 0 c h fun c h=>eT 1 d h fun d h=>clQ C h F.gC [] fun e h=>bnd (unV .not e) fun e=>cnd e (q (B false) h) (clQ C h F.ef [a] fun a h=>bnd (ixP 2 19 c (I 0)) fun e=>bnd (ldA h 19 e) fun e=>clQ C h F.fx [a,e] fun e h=>bnd (ixP 2 19 c (I 1)) fun c=>bnd (ldA h 19 c) fun c=>clQ C h F.fx [a,c] fun c h=>alV 2 [.d nPQ,.d nPQ,.d (.bool false),.d (.bool false),.d (.bool false)] h fun f h=>alV 3 [.d nPQ,.d nPQ,.d (.bool false),.d (.bool false),.d (.bool false)] h fun g h=>stD h 5 f e fun _ h=>stD h 5 g c fun _ h=>bnd (ldA h 5 f) fun c=>bnd (ldA h 5 g) fun e=>clQ C h F.js [a,c,e] fun c h=>e2Q c fun c e=>alV 4 [.d nPQ,.d nPQ,.d (.bool false),.d (.bool false),.d (.bool false)] h fun i h=>stD h 5 i c fun _ h=>bIQ .neq e (I 0) fun c=>gqQ c false h a fun e h=>gbQ c false h (ldA h 5 i) fun j h=>gd c false h (fun q=>clQ C h F.eH [e,j] q) fun e h=>gbQ c false h (biI .neq e (I 0)) fun e h=>bpQ c (B true) e fun c=>cnd c (q (B false) h) (bnd (ldA h 8 d) fun c=>clQ C h F.eB [a,c] fun c h=>tC 5 1 [nPQ] [(0,c)] h fun c h=>bnd (ldA h 5 f) fun d=>bnd (ldA h 5 g) fun e=>dD 2 [nPQ,nPQ,.bool false,.bool false,.bool false] [(0,d),(1,e)] h fun d h=>blQ d fun e=>lp (bQ C d e) [6] h [c,I 0] h (exK [((.exit 0),fun c h=>lp (cL C a f g i (ge c 0)) [] h [I 0] h (exK [((.exit 2),fun a h=>q (B true) h),(.ret,fun a h=>q (ge a 0) h)]))])))
theorem pF(h:dI (CX Y) t0 t1 t2 (out v)):CP Y F.dI [t0,t1,t2] v:=CPo 9 (nBQ (nRQ [.slot 0,.slot 1]) (dV (nBQ (nRQ [.o,.o,.slot 2,.slot 3]) (nBQ (nRQ [.o,.slot 4]) (aF (nBQ (nRQ [.o,.slot 5]) (nBQ (aF (nCQ (.n (.l [12,57] [7,8,9,10,55,56] [((.exit 0),[12],[7,8,9,10])] [6]) (dV (nCQ (.n (.j [12] [7,8,9,10,55,56,57]) (nBQ (nRQ [.slot 6]) (nBQ (aF (.n (.j [12] [7,8,9,10,14,55,56,57]) (nRQ [.o,.slot 7]) .o)) (aF (.n (.j [12] [7,8,9,10,55,56,57]) (nRQ [.o,.slot 8]) .o)))) .o))) .o))) (nCQ (aF (nCQ (.n (.l [15] [7,8,9,10,12] [((.exit 2),[],[]),(.ret,[6],[])] []) .o .o))))))))))) Tryz.func3 h
end Go.Vm
