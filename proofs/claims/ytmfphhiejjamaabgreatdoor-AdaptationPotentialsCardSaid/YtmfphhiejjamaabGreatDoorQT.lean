/- Lemmas. -/
import Derived.Test.YtmfphhiejjamaabGreatDoorQVmC
set_option linter.unusedVariables false
set_option linter.unusedSimpArgs false
set_option maxRecDepth 100000
set_option maxHeartbeats 4000000
namespace Go.Vm
open Go Go.Am Go.Proofs
variable{v t0 t1 t2 t3:V}{h h2:Hp}
theorem CPo{f:FuncId}{fn:Func}(m:Nat)(a:Ann){ds:LwQ}(h3:Y.X.P.funcs[f]?=some fn)(h5:fnD Y (CX Y) fn m a ds (out v))(h1:Y.X.allow f=true:=by rfl)(h2:∀u,Y.X.orc f u=none:=by exact fun _=>rfl)(h4:okB Y.X.P fn a=true:=by decide+kernel):CP Y f ds v:=CP.of h1 h2 h3 h4 h5
abbrev nBQ(a b:Ann):Ann:=.n .x a b
abbrev nCQ(a:Ann):Ann:=.n .x a .o
abbrev nRQ(l:List Act):Ann:=.n (.r l) .o .o
abbrev nJQ(a b:LnQ):Ann:=.n (.j a b) .o .o
abbrev aD(a:Ann):Ann:=.n .x .o a
abbrev df(a:Ann):Ann:=aD (aD a)
abbrev yu(a:Ann):Ann:=df (aD a)
abbrev RO(a:Ann):Ann:=yu (aD a)
abbrev UT(a:Ann):Ann:=RO (aD a)
abbrev afQ(a:Ann):Ann:=UT (aD a)
abbrev ah9(a:Ann):Ann:=afQ (aD a)
theorem acb{p:Prop}(h:p:=by repeat' (first|(refine ac2 rfl fun _=>?_)|(refine aga rfl fun _ _=>?_)|(refine acV rfl fun _ _=>?_)|(refine acQ rfl ?_ ?_)|(refine acF rfl fun _=>?_)|(refine Vs rfl fun _ _=>?_)|(refine acd rfl fun _ _=>?_)|(refine ac5 rfl fun _ _=>?_)|(refine YA rfl fun _ _=>?_)|(refine af1 rfl (fun _ _=>?_) fun _=>?_)|(refine afR rfl (fun _ _ _=>?_) fun _ _ _=>?_)|(refine acI rfl (fun _ _=>?_) ?_)|(refine acu rfl fun _ _=>?_)|(refine ac3 rfl fun _ _=>?_)|(refine acW rfl fun _ _=>?_)|(refine agB rfl fun _ _=>?_)|(refine Vq rfl fun _ _=>?_)|(refine ac6 rfl fun _ _=>?_)|(refine UP rfl fun _=>?_)|exact rfl|(refine Vz rfl ?_))):p:=h
theorem Pn{p:Prop}(h:p:=by repeat' (first|(refine ac2 rfl fun _=>?_)|(refine aga rfl fun _ _=>?_)|(refine acV rfl fun _ _=>?_)|(refine acQ rfl ?_ ?_)|(refine acF rfl fun _=>?_)|(refine Vs rfl fun _ _=>?_)|(refine acd rfl fun _ _=>?_)|(refine ac5 rfl fun _ _=>?_)|(refine YA rfl fun _ _=>?_)|(refine af1 rfl (fun _ _=>?_) fun _=>?_)|(refine afR rfl (fun _ _ _=>?_) fun _ _ _=>?_)|(refine acI rfl (fun _ _=>?_) ?_)|(refine acu rfl fun _ _=>?_)|(refine ac3 rfl fun _ _=>?_)|(refine acW rfl fun _ _=>?_)|(refine Vq rfl fun _ _=>?_)|(refine ac6 rfl fun _ _=>?_)|(refine UP rfl fun _=>?_)|exact rfl|(refine Vz rfl ?_))):p:=h
abbrev kQ:=kkQ
abbrev clQ(C:CC)(h:Hp)(f:FuncId)(a:LwQ)(k:kQ):Prop:=cal C.p h (.fn f [] []) a k
abbrev ciQ(C:CC)(h:Hp)(f:FuncId)(a:LwQ)(s:Nat)(k:kQ):Prop:=cai C.i h (.fn f [] []) a s k
abbrev bIQ(o:BinOp)(x y:V)(k:V->Prop):Prop:=bnd (biI o x y) k
abbrev bSQ(o:BinOp)(x y:V)(k:V->Prop):Prop:=bnd (biS o x y) k
abbrev b1Q(h:Hp)(x:V)(k:V->Prop):Prop:=bnd (ld1 h x) k
abbrev bxQ(h:Hp)(n:Nat)(x y:V)(k:V->Prop):Prop:=bnd (ixV h n x y) k
abbrev blQ(x:V)(k:V->Prop):Prop:=bnd (bj x) k
abbrev bfQ(n:Nat)(x:V)(k:V->Prop):Prop:=bnd (faV n x) k
abbrev bpQ(x y z:V)(k:V->Prop):Prop:=bnd (qM x y z) k
abbrev cIQ(o:BinOp)(x y:V)(A B:Prop):Prop:=bnd (biI o x y) fun c=>cnd c A B
abbrev nzQ(x:V)(A B:Prop):Prop:=bnd (biI .neq x (I 0)) fun c=>cnd c A B
abbrev gbQ(c:V)(w:Bool)(h:Hp)(o:Option V)(k:kQ):Prop:=gd c w h (fun q=>bnd o fun v=>q v h) k
abbrev gqQ(c:V)(w:Bool)(h:Hp)(x:V)(k:kQ):Prop:=gd c w h (fun q=>q x h) k
abbrev e2Q(x:V)(k:V->V->Prop):Prop:=ext x 0 fun a=>ext x 1 fun b=>k a b
abbrev e3Q(x:V)(k:V->V->V->Prop):Prop:=ext x 0 fun a=>ext x 1 fun b=>ext x 2 fun c=>k a b c
abbrev nSQ:V:=.d nPQ
def cF(C:CC)(a c:V)(q:kQ):Prop:=let h:Hp:=[]
 gqQ a true h c fun d h=>gbQ a true h (biS .neq d (.d (.str [48]))) fun d h=>bpQ a d (B false) fun a=>cnd a (bSQ .add (.d (.str [45])) c fun a=>q a h) (q c h)
theorem zA(h:cF (CX Y) t0 t1 (out v)):CP Y F.cF [t0,t1] v:=CPo 0 .o Tryz.func92 h
def ii(C:CC)(a c:V)(q:kkQ):Prop:=let h:Hp:=List.replicate 6 nnQ
 cal C.p h (.fn F.fU [] []) [a,c] fun d h=>ext d 0 fun e=>ext d 1 fun f=>ext d 2 fun d=>cnd d (bnd (biI .add e f) fun a=>cal C.p h (.fn F.iM [] []) [a] fun a h=>q a h) (cai C.i h (.fn F.cW [] []) [a] 0 fun a h=>cai C.i h (.fn F.cW [] []) [c] 1 fun c h=>bnd (bj a) fun d=>bnd (bj c) fun e=>bnd (biI .lss d e) fun d=>jn (fun a h=>cR 1 [.int .u64 0] [(0,(.d (.int .u64 0)))] h fun c h=>apV false 2 1 8 (ge a 0) c h fun c h=>bnd (bj c) fun d=>bnd (biI .sub d (I 1)) fun d=>bnd (bj (ge a 1)) fun e=>bnd (biI .sub d e) fun d=>apZ false 3 1 8 [.int .u64 0] (ge a 1) d h fun a h=>cai C.i h (.fn F.cL [] []) [c,a,(I 0)] 4 fun a h=>cai C.i h (.fn F.ay [] []) [c] 5 fun a h=>cal C.p h (.fn F.aP [] []) [a] fun a h=>q a h) fun e=>cnd d (e [c,a] h) (e [a,c] h))
def uh:Ann:=(df (nBQ (nRQ [.inl 0,.inl 1]) (nBQ (aD (nJQ [8,9] [])) (nBQ (nRQ [.o,.slot 2]) (nBQ (nRQ [.slot 3,.inl 4]) (nCQ (nRQ [.inl 5])))))))
attribute [local irreducible] bnd gd cal cnd ext cR rq stD alV alD cQ jn lp exK mkS apV apZ cai rj in
theorem GO(C:CC)(t0:V)(t1:V)(q:kkQ):fnD Y C Tryz.f94 6 uh [t0,t1] q=ii C t0 t1 q:=acb
theorem GM:okB Tryz.prog Tryz.f94 uh=true:=bb
theorem GN(h:ii (CX Y) t0 t1 (out v)):CP Y F.ii [t0,t1] v:=
 CP.of (fn:=Tryz.f94) (m:=6) (a:=uh) rfl (fun _=>rfl) Tryz.func94 GM (by rw[GO];exact h)
def bV(C:CC)(a c:V)(q:kQ):Prop:=let h:Hp:=[]
 bnd (nS a) fun d=>bnd (nS c) fun e=>cIQ .neq d e (bnd (nS a) fun a=>bnd (nS c) fun c=>bIQ .sub a c fun a=>bnd (mxI true [I (-1),a]) fun a=>bnd (mxI false [I 1,a]) fun a=>q a h) (bSQ .lss a c fun d=>cnd d (q (I (-1)) h) (bSQ .gtr a c fun a=>cnd a (q (I 1) h) (q (I 0) h)))
theorem AP(h:bV (CX Y) t0 t1 (out v)):CP Y F.bV [t0,t1] v:=CPo 0 .o Tryz.func85 h
def jg(C:CC)(a c:V)(q:kkQ):Prop:=let h:Hp:=List.replicate 7 nnQ
 cal C.p h (.fn F.bV [] []) [a,c] fun d h=>bnd (biI .lss d (I 0)) fun d=>cnd d (q (.tup [(.d (.str [])),(I 3)]) h) (cal C.p h (.fn F.fU [] []) [a,c] fun d h=>ext d 0 fun e=>ext d 1 fun f=>ext d 2 fun d=>cnd d (bnd (biI .sub e f) fun a=>cal C.p h (.fn F.iM [] []) [a] fun a h=>q (.tup [a,(I 0)]) h) (cai C.i h (.fn F.cW [] []) [a] 0 fun a h=>cR 1 [.int .u64 0] [(0,(.d (.int .u64 0)))] h fun d h=>apV false 1 1 8 a d h fun a h=>cai C.i h (.fn F.cW [] []) [c] 2 fun d h=>bnd (bj a) fun e=>bnd (biI .sub e (I 1)) fun e=>cai C.i h (.fn F.cW [] []) [c] 3 fun c h=>bnd (bj c) fun c=>bnd (biI .sub e c) fun c=>apZ false 4 1 8 [.int .u64 0] d c h fun c h=>cai C.i h (.fn F.dC [] []) [a,c,(.d (.int .u64 1)),(I 0)] 5 fun c h=>cai C.i h (.fn F.ay [] []) [a] 6 fun a h=>cal C.p h (.fn F.aP [] []) [a] fun a h=>q (.tup [a,(I 0)]) h))
def ug:Ann:=(yu (nBQ (nRQ [.inl 0,.o,.slot 1]) (nBQ (nRQ [.inl 2,.inl 3,.slot 4,.inl 5]) (nCQ (nRQ [.inl 6])))))
attribute [local irreducible] bnd gd cal cnd ext cR rq stD alV alD cQ jn lp exK mkS apV apZ cai rj in
theorem GI(C:CC)(t0:V)(t1:V)(q:kkQ):fnD Y C Tryz.f95 7 ug [t0,t1] q=jg C t0 t1 q:=acb
theorem GG:okB Tryz.prog Tryz.f95 ug=true:=bb
theorem GH(h:jg (CX Y) t0 t1 (out v)):CP Y F.jg [t0,t1] v:=
 CP.of (fn:=Tryz.f95) (m:=7) (a:=ug) rfl (fun _=>rfl) Tryz.func95 GG (by rw[GI];exact h)
def ig(C:CC)(a c:V)(q:kQ):Prop:=let h:Hp:=.replicate 3 nnQ
 bnd (nS a) fun d=>bnd (nS c) fun e=>bIQ .add d e fun d=>cIQ .leq d (I 18) (clQ C h F.fU [a,c] fun a h=>e3Q a fun a c d=>bIQ .mul a c fun a=>clQ C h F.iM [a] q) (ciQ C h F.cW [a] 0 fun a h=>ciQ C h F.cW [c] 1 fun c h=>ciQ C h F.bw [a,c] 2 fun a h=>clQ C h F.aP [a] q)
theorem GJ(h:ig (CX Y) t0 t1 (out v)):CP Y F.ig [t0,t1] v:=CPo 3 (df (nCQ (nRQ [.inl 0,.inl 1,.inl 2]))) Tryz.func93 h
def dp(C:CC)(a c:V)(q:kQ):Prop:=let h:Hp:=[]
 clQ C h F.bC [a,I 18] fun d h=>e2Q d fun d e=>jn (fun d h=>clQ C h F.aR [a] fun a h=>e2Q a fun a d=>clQ C h F.aR [c] fun c h=>e2Q c fun c e=>bnd (biB .eql a c) fun f=>cnd f (clQ C h F.ii [d,e] fun c h=>clQ C h F.cF [a,c] q) (clQ C h F.bV [d,e] fun f h=>bIQ .lss f (I 0) fun f=>jn (fun a h=>clQ C h F.jg [ge a 1,ge a 2] fun c h=>e2Q c fun c d=>clQ C h F.cF [ge a 0,c] q) fun g=>cnd f (g [c,e,d] h) (g [a,d,e] h))) fun a=>cnd e (clQ C h F.bC [c,I 18] fun c h=>e2Q c fun c e=>cnd e (bIQ .add d c fun a=>clQ C h F.fG [a] q) (a [] h)) (a [] h)
theorem Kj(h:dp (CX Y) t0 t1 (out v)):CP Y F.dp [t0,t1] v:=CPo 0 (aD (nBQ (df (nJQ [] [0,1])) (yu (nCQ (aD (nJQ [9,10,12] [])))))) Tryz.func60 h
def bq(C:CC)(a c:V)(q:kQ):Prop:=let h:Hp:=[]
 clQ C h F.bC [a,I 9] fun d h=>e2Q d fun d e=>jn (fun d h=>clQ C h F.aR [a] fun a h=>e2Q a fun a d=>clQ C h F.aR [c] fun c h=>e2Q c fun c e=>bnd (biB .neq a c) fun a=>clQ C h F.ig [d,e] fun c h=>clQ C h F.cF [a,c] q) fun a=>cnd e (clQ C h F.bC [c,I 9] fun c h=>e2Q c fun c e=>cnd e (bIQ .mul d c fun a=>clQ C h F.fG [a] q) (a [] h)) (a [] h)
theorem Kg(h:bq (CX Y) t0 t1 (out v)):CP Y F.bq [t0,t1] v:=CPo 0 (aD (nCQ (df (nJQ [] [0,1])))) Tryz.func59 h
def vQ(C:CC)(a:V)(q:kQ):Prop:=let h:Hp:=[]
 bIQ .geq a (.d (.int .u32 65536)) fun c=>jn (fun a h=>bIQ .geq (ge a 0) (.d (.int .u32 256)) fun c=>jn (fun a h=>bnd (cvI .u8 (ge a 0)) fun c=>bnd (ixS (.d (.str [0,1,2,2,3,3,3,3,4,4,4,4,4,4,4,4,5,5,5,5,5,5,5,5,5,5,5,5,5,5,5,5,6,6,6,6,6,6,6,6,6,6,6,6,6,6,6,6,6,6,6,6,6,6,6,6,6,6,6,6,6,6,6,6,7,7,7,7,7,7,7,7,7,7,7,7,7,7,7,7,7,7,7,7,7,7,7,7,7,7,7,7,7,7,7,7,7,7,7,7,7,7,7,7,7,7,7,7,7,7,7,7,7,7,7,7,7,7,7,7,7,7,7,7,7,7,7,7,8,8,8,8,8,8,8,8,8,8,8,8,8,8,8,8,8,8,8,8,8,8,8,8,8,8,8,8,8,8,8,8,8,8,8,8,8,8,8,8,8,8,8,8,8,8,8,8,8,8,8,8,8,8,8,8,8,8,8,8,8,8,8,8,8,8,8,8,8,8,8,8,8,8,8,8,8,8,8,8,8,8,8,8,8,8,8,8,8,8,8,8,8,8,8,8,8,8,8,8,8,8,8,8,8,8,8,8,8,8,8,8,8,8,8,8,8,8,8,8,8,8,8,8,8,8,8,8])) c) fun c=>bnd (cvI .i64 c) fun c=>bIQ .add (ge a 1) c fun a=>q a h) fun d=>cnd c (bIQ .shr (ge a 0) (.d (.int .u64 8)) fun c=>bIQ .add (ge a 1) (I 8) fun a=>d [c,a] h) (d [ge a 0,ge a 1] h)) fun d=>cnd c (bIQ .shr a (.d (.int .u64 16)) fun a=>d [a,I 16] h) (d [a,I 0] h)
def ku(C:CC)(a:V)(q:kQ):Prop:=let h:Hp:=[]
 cnd (B false) (bnd (cvI .u32 a) fun a=>clQ C h F.vQ [a] q) (clQ C h F.eY [a] q)
theorem CS(h:ku (CX Y) t0 (out v)):CP Y F.ku [t0] v:=CPo 0 .o Tryz.func172 h
def jk(C:CC)(a:V):aL:=fun l h q=>bIQ .mul (ge l 0) (ge l 0) fun c=>cIQ .leq c a (bIQ .rem a (ge l 0) fun a=>cIQ .eql a (I 0) (q .ret [B false] h) (bIQ .add (ge l 0) (I 1) fun a=>q .normal [a] h)) (q (.exit 0) [] h)
def jc(C:CC)(a:V)(q:kQ):Prop:=let h:Hp:=[]
 bIQ .lss a (I 2) fun c=>gqQ c false h a fun d h=>gbQ c false h (biI .gtr d (I 97)) fun d h=>bpQ c (B true) d fun c=>cnd c (q (B false) h) (lp (jk C a) [] h [I 2] h (exK [((.exit 0),fun a h=>q (B true) h),(.ret,fun a h=>q (ge a 0) h)]))
theorem CQ(h:jc (CX Y) t0 (out v)):CP Y F.jc [t0] v:=CPo 0 (df (nCQ (aD (nCQ (.n (.l [3] [0] [((.exit 0),[],[]),(.ret,[2],[])] []) .o .o))))) Tryz.func96 h
def pA(C:CC)(a c d:V):aL:=fun l h q=>cIQ .lss (ge l 0) d (bxQ h 1 c (ge l 0) fun c=>b1Q h c fun c=>clQ C h F.jc [c] fun d h=>bnd (unV .not d) fun d=>cnd d (q .ret [I 25] h) (bIQ .gtr (ge l 0) (I 0) fun d=>gqQ d true h c fun c h=>gqQ d true h a fun a h=>gqQ d true h (ge l 0) fun e h=>gbQ d true h (biI .sub e (I 1)) fun e h=>gbQ d true h (ixV h 1 a e) fun a h=>gbQ d true h (ld1 h a) fun a h=>gbQ d true h (biI .leq c a) fun a h=>bpQ d a (B false) fun a=>cnd a (q .ret [I 6] h) (bIQ .add (ge l 0) (I 1) fun a=>q .normal [a] h))) (q (.exit 1) [] h)
def gB(C:CC)(a:V)(q:kQ):Prop:=let h:Hp:=[]
 blQ a fun c=>cIQ .eql c (I 0) (q (I 13) h) (blQ a fun c=>cIQ .gtr c (I 6) (q (I 4) h) (blQ a fun c=>lp (pA C a a c) [] h [I 0] h (exK [((.exit 1),fun a h=>q (I 0) h),(.ret,fun a h=>q (ge a 0) h)])))
theorem Gl(h:gB (CX Y) t0 (out v)):CP Y F.gB [t0] v:=CPo 0 (df (nCQ (aD (nCQ (.n (.l [15] [0,13,14] [((.exit 1),[],[]),(.ret,[2],[])] []) .o .o))))) Tryz.func62 h
def mU(C:CC)(a:V)(q:kQ):Prop:=let h:Hp:=.replicate 1 nnQ
 cQ 0 a h fun a h=>bfQ 0 a fun c=>b1Q h c fun c=>clQ C h F.ij [c] fun c h=>bnd (nS c) fun c=>bIQ .leq c (I 30) fun c=>gbQ c true h (faV 1 a) fun a h=>gbQ c true h (ld1 h a) fun a h=>gbQ c true h (nS a) fun a h=>gbQ c true h (biI .leq a (I 30)) fun a h=>bpQ c a (B false) fun a=>q a h
theorem II(h:mU (CX Y) t0 (out v)):CP Y F.mU [t0] v:=CPo 1 (nCQ (nRQ [.slot 0])) Tryz.func97 h
def qA(C:CC)(a c:V):aL:=fun l h q=>cIQ .lss (ge l 0) c (bxQ h 2 a (ge l 0) fun a=>bnd (ldA h 2 a) fun a=>alV 0 [.d (.str []),.d (.str [])] h fun c h=>stD h 2 c a fun _ h=>bnd (ldA h 2 c) fun a=>clQ C h F.fR [a] fun a h=>nzQ a (q .ret [I 2] h) (bnd (ldA h 2 c) fun a=>clQ C h F.mU [a] fun a h=>bnd (unV .not a) fun a=>cnd a (q .ret [I 4] h) (bIQ .add (ge l 0) (I 1) fun a=>q .normal [a] h))) (q (.exit 0) [] h)
def lY(C:CC)(a c:V)(q:kQ):Prop:=let h:Hp:=.replicate 1 nnQ
 blQ c fun d=>blQ a fun a=>cIQ .neq d a (q (I 5) h) (blQ c fun a=>lp (qA C c a) [0] h [I 0] h (exK [((.exit 0),fun a h=>q (I 0) h),(.ret,fun a h=>q (ge a 0) h)]))
theorem IJ(h:lY (CX Y) t0 t1 (out v)):CP Y F.lY [t0,t1] v:=CPo 1 (df (nCQ (aD (nCQ (.n (.l [14] [12,13] [((.exit 0),[],[]),(.ret,[4],[])] [0]) (df (nCQ (nCQ (nCQ (nRQ [.slot 0]))))) .o))))) Tryz.func63 h
def oE(C:CC)(a c:V)(q:kQ):Prop:=let h:Hp:=[]
 clQ C h F.gB [a] fun d h=>nzQ d (q d h) (clQ C h F.lY [a,c] q)
theorem IL(h:oE (CX Y) t0 t1 (out v)):CP Y F.oE [t0,t1] v:=CPo 0 .o Tryz.func156 h
def dY(C:CC)(a c:V)(q:kQ):Prop:=let h:Hp:=.replicate 2 nnQ
 cIQ .eql c (I 10) (cIQ .lss a (.d (.int .u64 100)) (bnd (cvI .i64 a) fun a=>clQ C h F.iK [a] q) (alD 0 1 (List.replicate 24 (.int .u8 0)) h fun c h=>clQ C h F.dy [a] fun d h=>bnd (slP 24 1 h c none (some d)) fun e=>ciQ C h F.bN [e,a] 1 fun a h=>bnd (slP 24 1 h c none (some d)) fun a=>bnd (cvT h a) fun a=>q a h)) (clQ C h F.qP [nSQ,a,c,B false,B false] fun a h=>e2Q a fun a c=>q c h)
theorem vw(h:dY (CX Y) t0 t1 (out v)):CP Y F.dY [t0,t1] v:=CPo 2 (aD (nCQ (aD (nCQ (aD (nBQ (nRQ [.slot 0]) (aD (nCQ (nRQ [.inl 1]))))))))) Tryz.func159 h
def gN(C:CC)(a c:V)(q:kQ):Prop:=let h:Hp:=[]
 clQ C h F.dY [a,c] q
theorem zh(h:gN (CX Y) t0 t1 (out v)):CP Y F.gN [t0,t1] v:=CPo 0 .o Tryz.func140 h
def iM(C:CC)(a:V)(q:kQ):Prop:=let h:Hp:=[]
 clQ C h F.gN [a,I 10] q
theorem JI(h:iM (CX Y) t0 (out v)):CP Y F.iM [t0] v:=CPo 0 .o Tryz.func116 h
def jh(C:CC)(a:V)(q:kQ):Prop:=let h:Hp:=[]
 clQ C h F.fH [a,I 10,I 64] fun a h=>e2Q a fun a c=>bnd (biF .neq c (.d (.pl .nilIface))) fun c=>cnd c (q (.tup [(.d (.int .u64 0)),B false]) h) (q (.tup [a,B true]) h)
theorem C4(h:jh (CX Y) t0 (out v)):CP Y F.jh [t0] v:=CPo 0 .o Tryz.func147 h
def fU(C:CC)(a c:V)(q:kQ):Prop:=let h:Hp:=[]
 bnd (nS a) fun d=>bIQ .gtr d (I 18) fun d=>gqQ d false h c fun e h=>gbQ d false h (nS e) fun e h=>gbQ d false h (biI .gtr e (I 18)) fun e h=>bpQ d (B true) e fun d=>cnd d (q (.tup [(.d (.int .u64 0)),(.d (.int .u64 0)),B false]) h) (clQ C h F.jh [a] fun a h=>e2Q a fun a d=>clQ C h F.jh [c] fun c h=>e2Q c fun c d=>q (.tup [a,c,B true]) h)
theorem FG(h:fU (CX Y) t0 t1 (out v)):CP Y F.fU [t0,t1] v:=CPo 0 .o Tryz.func120 h
def eW(C:CC)(a c:V)(q:kQ):Prop:=let h:Hp:=.replicate 2 nnQ
 bSQ .eql c (.d (.str [48])) fun d=>cnd d (q (.tup [(.d (.str [])),(.d (.str [])),I 17]) h) (clQ C h F.fU [a,c] fun d h=>e3Q d fun d e f=>cnd f (bIQ .quo d e fun a=>clQ C h F.iM [a] fun a h=>bIQ .rem d e fun c=>clQ C h F.iM [c] fun c h=>q (.tup [a,c,I 0]) h) (ciQ C h F.cW [a] 0 fun d h=>ciQ C h F.cW [c] 1 fun c h=>clQ C h F.cD [d,c] fun e h=>cIQ .lss e (I 0) (q (.tup [(.d (.str [48])),a,I 0]) h) (blQ c fun a=>cIQ .eql a (I 1) (bxQ h 1 c (I 0) fun a=>b1Q h a fun a=>clQ C h F.cU [d,a] fun a h=>e2Q a fun a c=>clQ C h F.aP [a] fun a h=>clQ C h F.iM [c] fun c h=>q (.tup [a,c,I 0]) h) (clQ C h F.dF [d,c] fun a h=>e2Q a fun a c=>clQ C h F.aP [a] fun a h=>clQ C h F.aP [c] fun c h=>q (.tup [a,c,I 0]) h))))
def qx:Ann:=(yu (nCQ (nRQ [.inl 0,.inl 1])))
attribute [local irreducible] bnd gd cal cnd ext cR rq stD alV alD cQ jn lp exK mkS apV cai rj in
theorem B3(C:CC)(t0:V)(t1:V)(q:kkQ):fnD Y C Tryz.f119 2 qx [t0,t1] q=eW C t0 t1 q:=Pn
theorem BY:okB Tryz.prog Tryz.f119 qx=true:=bb
theorem BZ(h:eW (CX Y) t0 t1 (out v)):CP Y F.eW [t0,t1] v:=
 CP.of (fn:=Tryz.f119) (m:=2) (a:=qx) rfl (fun _=>rfl) Tryz.func119 BY (by rw[B3];exact h)
def pR(C:CC):aL:=fun l h q=>bSQ .neq (ge l 1) (.d (.str [48])) fun a=>cnd a (clQ C h F.eW [ge l 0,ge l 1] fun a h=>e3Q a fun a c d=>nzQ d (q .ret [(.d (.str []))] h) (q .normal [ge l 1,c] h)) (q (.exit 0) [ge l 0] h)
def nj(C:CC)(a c:V)(q:kQ):Prop:=let h:Hp:=[]
 lp (pR C) [] h [a,c] h (exK [((.exit 0),fun a h=>q (ge a 0) h),(.ret,fun a h=>q (ge a 0) h)])
theorem GL(h:nj (CX Y) t0 t1 (out v)):CP Y F.nj [t0,t1] v:=CPo 0 (aD (nCQ (nCQ (.n (.l [0,1] [] [((.exit 0),[0],[]),(.ret,[4],[])] []) .o .o)))) Tryz.func107 h
def strconv_Itoa(C:CC)(a:V)(q:kQ):Prop:=let h:Hp:=[]
 clQ C h F.lh [a] q
theorem Eh(h:strconv_Itoa (CX Y) t0 (out v)):CP Y F.strconv_Itoa [t0] v:=CPo 0 .o Tryz.func88 h
def lh(C:CC)(a:V)(q:kQ):Prop:=let h:Hp:=[]
 clQ C h F.dz [a,I 10] q
theorem BM(h:lh (CX Y) t0 (out v)):CP Y F.lh [t0] v:=CPo 0 .o Tryz.func118 h
def dz(C:CC)(a c:V)(q:kQ):Prop:=let h:Hp:=.replicate 2 nnQ
 cIQ .eql c (I 10) (bIQ .leq (I 0) a fun c=>gqQ c true h a fun d h=>gbQ c true h (biI .lss d (I 100)) fun d h=>bpQ c d (B false) fun c=>cnd c (clQ C h F.iK [a] q) (alD 0 1 (List.replicate 24 (.int .u8 0)) h fun c h=>bnd (cvI .u64 a) fun d=>bIQ .lss a (I 0) fun e=>jn (fun d h=>clQ C h F.dy [ge d 0] fun e h=>bIQ .add (I 1) e fun f=>bnd (slP 24 1 h c (some (I 1)) (some f)) fun f=>ciQ C h F.bN [f,ge d 0] 1 fun d h=>cIQ .lss a (I 0) (bnd (ixP 24 1 c (I 0)) fun a=>stD h 1 a (.d (.int .u8 45)) fun _ h=>bIQ .add (I 1) e fun a=>bnd (slP 24 1 h c none (some a)) fun a=>bnd (cvT h a) fun a=>q a h) (bIQ .add (I 1) e fun a=>bnd (slP 24 1 h c (some (I 1)) (some a)) fun a=>bnd (cvT h a) fun a=>q a h)) fun a=>cnd e (bnd (unV .neg d) fun c=>a [c] h) (a [d] h))) (bnd (cvI .u64 a) fun d=>bIQ .lss a (I 0) fun a=>clQ C h F.qP [nSQ,d,c,a,B false] fun a h=>e2Q a fun a c=>q c h)
theorem wd(h:dz (CX Y) t0 t1 (out v)):CP Y F.dz [t0,t1] v:=CPo 2 (aD (nCQ (aD (nCQ (aD (nBQ (nRQ [.slot 0]) (aD (nBQ (aD (nJQ [6] [0,5])) (aD (nCQ (nRQ [.inl 1]))))))))))) Tryz.func143 h
def iK(C:CC)(a:V)(q:kQ):Prop:=let h:Hp:=[]
 cIQ .lss a (I 10) (bIQ .add a (I 1) fun c=>bnd (slS (.d (.str [48,49,50,51,52,53,54,55,56,57,97,98,99,100,101,102,103,104,105,106,107,108,109,110,111,112,113,114,115,116,117,118,119,120,121,122])) (some a) (some c)) fun a=>q a h) (bIQ .mul a (I 2) fun c=>bIQ .mul a (I 2) fun a=>bIQ .add a (I 2) fun a=>bnd (slS (.d (.str [48,48,48,49,48,50,48,51,48,52,48,53,48,54,48,55,48,56,48,57,49,48,49,49,49,50,49,51,49,52,49,53,49,54,49,55,49,56,49,57,50,48,50,49,50,50,50,51,50,52,50,53,50,54,50,55,50,56,50,57,51,48,51,49,51,50,51,51,51,52,51,53,51,54,51,55,51,56,51,57,52,48,52,49,52,50,52,51,52,52,52,53,52,54,52,55,52,56,52,57,53,48,53,49,53,50,53,51,53,52,53,53,53,54,53,55,53,56,53,57,54,48,54,49,54,50,54,51,54,52,54,53,54,54,54,55,54,56,54,57,55,48,55,49,55,50,55,51,55,52,55,53,55,54,55,55,55,56,55,57,56,48,56,49,56,50,56,51,56,52,56,53,56,54,56,55,56,56,56,57,57,48,57,49,57,50,57,51,57,52,57,53,57,54,57,55,57,56,57,57])) (some c) (some a)) fun a=>q a h)
theorem Aw(h:iK (CX Y) t0 (out v)):CP Y F.iK [t0] v:=CPo 0 .o Tryz.func165 h
def dy(C:CC)(a:V)(q:kQ):Prop:=let h:Hp:=[]
 clQ C h F.eY [a] fun c h=>clQ C h F.gh [c] fun c h=>bnd (ixP 20 1 (gl od) c) fun d=>b1Q h d fun d=>bIQ .geq a d fun a=>clQ C h F.gm [a] fun a h=>bIQ .add c a fun a=>q a h
theorem vX(h:dy (CX Y) t0 (out v)):CP Y F.dy [t0] v:=CPo 0 .o Tryz.func166 h
def eu(C:CC)(b:Nat)(a:V):aL:=fun l h q=>cIQ .geq (ge l 1) (I 8) (bIQ .rem (ge l 0) (.d (.int .u64 100000000)) fun c=>bnd (cvI .u32 c) fun c=>bIQ .quo (ge l 0) (.d (.int .u64 100000000)) fun d=>bIQ .quo c (.d (.int .u32 10000)) fun e=>bIQ .rem c (.d (.int .u32 10000)) fun c=>bIQ .quo c (.d (.int .u32 100)) fun f=>bIQ .mul f (.d (.int .u32 2)) fun f=>bIQ .rem c (.d (.int .u32 100)) fun c=>bIQ .mul c (.d (.int .u32 2)) fun c=>bIQ .quo e (.d (.int .u32 100)) fun g=>bIQ .mul g (.d (.int .u32 2)) fun g=>bIQ .rem e (.d (.int .u32 100)) fun e=>bIQ .mul e (.d (.int .u32 2)) fun e=>bIQ .sub (ge l 1) (I 1) fun i=>bIQ .sub (ge l 1) (I 2) fun j=>bIQ .add c (.d (.int .u32 1)) fun k=>bnd (ixS (.d (.str [48,48,48,49,48,50,48,51,48,52,48,53,48,54,48,55,48,56,48,57,49,48,49,49,49,50,49,51,49,52,49,53,49,54,49,55,49,56,49,57,50,48,50,49,50,50,50,51,50,52,50,53,50,54,50,55,50,56,50,57,51,48,51,49,51,50,51,51,51,52,51,53,51,54,51,55,51,56,51,57,52,48,52,49,52,50,52,51,52,52,52,53,52,54,52,55,52,56,52,57,53,48,53,49,53,50,53,51,53,52,53,53,53,54,53,55,53,56,53,57,54,48,54,49,54,50,54,51,54,52,54,53,54,54,54,55,54,56,54,57,55,48,55,49,55,50,55,51,55,52,55,53,55,54,55,55,55,56,55,57,56,48,56,49,56,50,56,51,56,52,56,53,56,54,56,55,56,56,56,57,57,48,57,49,57,50,57,51,57,52,57,53,57,54,57,55,57,56,57,57])) k) fun k=>bnd (ixS (.d (.str [48,48,48,49,48,50,48,51,48,52,48,53,48,54,48,55,48,56,48,57,49,48,49,49,49,50,49,51,49,52,49,53,49,54,49,55,49,56,49,57,50,48,50,49,50,50,50,51,50,52,50,53,50,54,50,55,50,56,50,57,51,48,51,49,51,50,51,51,51,52,51,53,51,54,51,55,51,56,51,57,52,48,52,49,52,50,52,51,52,52,52,53,52,54,52,55,52,56,52,57,53,48,53,49,53,50,53,51,53,52,53,53,53,54,53,55,53,56,53,57,54,48,54,49,54,50,54,51,54,52,54,53,54,54,54,55,54,56,54,57,55,48,55,49,55,50,55,51,55,52,55,53,55,54,55,55,55,56,55,57,56,48,56,49,56,50,56,51,56,52,56,53,56,54,56,55,56,56,56,57,57,48,57,49,57,50,57,51,57,52,57,53,57,54,57,55,57,56,57,57])) c) fun c=>bxQ h 1 a i fun i=>stD h 1 i k fun _ h=>bxQ h 1 a j fun i=>stD h 1 i c fun _ h=>bIQ .sub (ge l 1) (I 3) fun c=>bIQ .sub (ge l 1) (I 4) fun i=>bIQ .add f (.d (.int .u32 1)) fun j=>bnd (ixS (.d (.str [48,48,48,49,48,50,48,51,48,52,48,53,48,54,48,55,48,56,48,57,49,48,49,49,49,50,49,51,49,52,49,53,49,54,49,55,49,56,49,57,50,48,50,49,50,50,50,51,50,52,50,53,50,54,50,55,50,56,50,57,51,48,51,49,51,50,51,51,51,52,51,53,51,54,51,55,51,56,51,57,52,48,52,49,52,50,52,51,52,52,52,53,52,54,52,55,52,56,52,57,53,48,53,49,53,50,53,51,53,52,53,53,53,54,53,55,53,56,53,57,54,48,54,49,54,50,54,51,54,52,54,53,54,54,54,55,54,56,54,57,55,48,55,49,55,50,55,51,55,52,55,53,55,54,55,55,55,56,55,57,56,48,56,49,56,50,56,51,56,52,56,53,56,54,56,55,56,56,56,57,57,48,57,49,57,50,57,51,57,52,57,53,57,54,57,55,57,56,57,57])) j) fun j=>bnd (ixS (.d (.str [48,48,48,49,48,50,48,51,48,52,48,53,48,54,48,55,48,56,48,57,49,48,49,49,49,50,49,51,49,52,49,53,49,54,49,55,49,56,49,57,50,48,50,49,50,50,50,51,50,52,50,53,50,54,50,55,50,56,50,57,51,48,51,49,51,50,51,51,51,52,51,53,51,54,51,55,51,56,51,57,52,48,52,49,52,50,52,51,52,52,52,53,52,54,52,55,52,56,52,57,53,48,53,49,53,50,53,51,53,52,53,53,53,54,53,55,53,56,53,57,54,48,54,49,54,50,54,51,54,52,54,53,54,54,54,55,54,56,54,57,55,48,55,49,55,50,55,51,55,52,55,53,55,54,55,55,55,56,55,57,56,48,56,49,56,50,56,51,56,52,56,53,56,54,56,55,56,56,56,57,57,48,57,49,57,50,57,51,57,52,57,53,57,54,57,55,57,56,57,57])) f) fun f=>bxQ h 1 a c fun c=>stD h 1 c j fun _ h=>bxQ h 1 a i fun c=>stD h 1 c f fun _ h=>bIQ .sub (ge l 1) (I 5) fun c=>bIQ .sub (ge l 1) (I 6) fun f=>bIQ .add e (.d (.int .u32 1)) fun i=>bnd (ixS (.d (.str [48,48,48,49,48,50,48,51,48,52,48,53,48,54,48,55,48,56,48,57,49,48,49,49,49,50,49,51,49,52,49,53,49,54,49,55,49,56,49,57,50,48,50,49,50,50,50,51,50,52,50,53,50,54,50,55,50,56,50,57,51,48,51,49,51,50,51,51,51,52,51,53,51,54,51,55,51,56,51,57,52,48,52,49,52,50,52,51,52,52,52,53,52,54,52,55,52,56,52,57,53,48,53,49,53,50,53,51,53,52,53,53,53,54,53,55,53,56,53,57,54,48,54,49,54,50,54,51,54,52,54,53,54,54,54,55,54,56,54,57,55,48,55,49,55,50,55,51,55,52,55,53,55,54,55,55,55,56,55,57,56,48,56,49,56,50,56,51,56,52,56,53,56,54,56,55,56,56,56,57,57,48,57,49,57,50,57,51,57,52,57,53,57,54,57,55,57,56,57,57])) i) fun i=>bnd (ixS (.d (.str [48,48,48,49,48,50,48,51,48,52,48,53,48,54,48,55,48,56,48,57,49,48,49,49,49,50,49,51,49,52,49,53,49,54,49,55,49,56,49,57,50,48,50,49,50,50,50,51,50,52,50,53,50,54,50,55,50,56,50,57,51,48,51,49,51,50,51,51,51,52,51,53,51,54,51,55,51,56,51,57,52,48,52,49,52,50,52,51,52,52,52,53,52,54,52,55,52,56,52,57,53,48,53,49,53,50,53,51,53,52,53,53,53,54,53,55,53,56,53,57,54,48,54,49,54,50,54,51,54,52,54,53,54,54,54,55,54,56,54,57,55,48,55,49,55,50,55,51,55,52,55,53,55,54,55,55,55,56,55,57,56,48,56,49,56,50,56,51,56,52,56,53,56,54,56,55,56,56,56,57,57,48,57,49,57,50,57,51,57,52,57,53,57,54,57,55,57,56,57,57])) e) fun e=>bxQ h 1 a c fun c=>stD h 1 c i fun _ h=>bxQ h 1 a f fun c=>stD h 1 c e fun _ h=>bIQ .sub (ge l 1) (I 7) fun c=>bIQ .sub (ge l 1) (I 8) fun e=>bIQ .add g (.d (.int .u32 1)) fun f=>bnd (ixS (.d (.str [48,48,48,49,48,50,48,51,48,52,48,53,48,54,48,55,48,56,48,57,49,48,49,49,49,50,49,51,49,52,49,53,49,54,49,55,49,56,49,57,50,48,50,49,50,50,50,51,50,52,50,53,50,54,50,55,50,56,50,57,51,48,51,49,51,50,51,51,51,52,51,53,51,54,51,55,51,56,51,57,52,48,52,49,52,50,52,51,52,52,52,53,52,54,52,55,52,56,52,57,53,48,53,49,53,50,53,51,53,52,53,53,53,54,53,55,53,56,53,57,54,48,54,49,54,50,54,51,54,52,54,53,54,54,54,55,54,56,54,57,55,48,55,49,55,50,55,51,55,52,55,53,55,54,55,55,55,56,55,57,56,48,56,49,56,50,56,51,56,52,56,53,56,54,56,55,56,56,56,57,57,48,57,49,57,50,57,51,57,52,57,53,57,54,57,55,57,56,57,57])) f) fun f=>bnd (ixS (.d (.str [48,48,48,49,48,50,48,51,48,52,48,53,48,54,48,55,48,56,48,57,49,48,49,49,49,50,49,51,49,52,49,53,49,54,49,55,49,56,49,57,50,48,50,49,50,50,50,51,50,52,50,53,50,54,50,55,50,56,50,57,51,48,51,49,51,50,51,51,51,52,51,53,51,54,51,55,51,56,51,57,52,48,52,49,52,50,52,51,52,52,52,53,52,54,52,55,52,56,52,57,53,48,53,49,53,50,53,51,53,52,53,53,53,54,53,55,53,56,53,57,54,48,54,49,54,50,54,51,54,52,54,53,54,54,54,55,54,56,54,57,55,48,55,49,55,50,55,51,55,52,55,53,55,54,55,55,55,56,55,57,56,48,56,49,56,50,56,51,56,52,56,53,56,54,56,55,56,56,56,57,57,48,57,49,57,50,57,51,57,52,57,53,57,54,57,55,57,56,57,57])) g) fun g=>bxQ h 1 a c fun c=>stD h 1 c f fun _ h=>bxQ h 1 a e fun a=>stD h 1 a g fun _ h=>bIQ .sub (ge l 1) (I 8) fun a=>q .normal [d,a] h) (q (.exit 0) [ge l 0,ge l 1] h)
def bN(C:CC)(b:Nat)(h:Hp)(a c:V)(q:kQ):Prop:=let h:Hp:=h++List.replicate 0 nnQ
 blQ a fun d=>lp (eu C b a) [] h [c,d] h (exK [((.exit 0),fun c h=>bnd (cvI .u32 (ge c 0)) fun d=>bIQ .geq (ge c 1) (I 4) fun e=>jn (fun c h=>bIQ .geq (ge c 1) (I 2) fun d=>jn (fun c h=>bIQ .gtr (ge c 1) (I 0) fun d=>jn (fun a h=>q (.tup []) h) fun e=>cnd d (bIQ .add (.d (.int .u32 48)) (ge c 0) fun c=>bnd (cvI .u8 c) fun c=>bxQ h 1 a (I 0) fun a=>stD h 1 a c fun _ h=>e [] h) (e [] h)) fun e=>cnd d (bIQ .rem (ge c 0) (.d (.int .u32 100)) fun d=>bIQ .mul d (.d (.int .u32 2)) fun d=>bIQ .quo (ge c 0) (.d (.int .u32 100)) fun f=>bIQ .sub (ge c 1) (I 1) fun g=>bIQ .sub (ge c 1) (I 2) fun i=>bIQ .add d (.d (.int .u32 1)) fun j=>bnd (ixS (.d (.str [48,48,48,49,48,50,48,51,48,52,48,53,48,54,48,55,48,56,48,57,49,48,49,49,49,50,49,51,49,52,49,53,49,54,49,55,49,56,49,57,50,48,50,49,50,50,50,51,50,52,50,53,50,54,50,55,50,56,50,57,51,48,51,49,51,50,51,51,51,52,51,53,51,54,51,55,51,56,51,57,52,48,52,49,52,50,52,51,52,52,52,53,52,54,52,55,52,56,52,57,53,48,53,49,53,50,53,51,53,52,53,53,53,54,53,55,53,56,53,57,54,48,54,49,54,50,54,51,54,52,54,53,54,54,54,55,54,56,54,57,55,48,55,49,55,50,55,51,55,52,55,53,55,54,55,55,55,56,55,57,56,48,56,49,56,50,56,51,56,52,56,53,56,54,56,55,56,56,56,57,57,48,57,49,57,50,57,51,57,52,57,53,57,54,57,55,57,56,57,57])) j) fun j=>bnd (ixS (.d (.str [48,48,48,49,48,50,48,51,48,52,48,53,48,54,48,55,48,56,48,57,49,48,49,49,49,50,49,51,49,52,49,53,49,54,49,55,49,56,49,57,50,48,50,49,50,50,50,51,50,52,50,53,50,54,50,55,50,56,50,57,51,48,51,49,51,50,51,51,51,52,51,53,51,54,51,55,51,56,51,57,52,48,52,49,52,50,52,51,52,52,52,53,52,54,52,55,52,56,52,57,53,48,53,49,53,50,53,51,53,52,53,53,53,54,53,55,53,56,53,57,54,48,54,49,54,50,54,51,54,52,54,53,54,54,54,55,54,56,54,57,55,48,55,49,55,50,55,51,55,52,55,53,55,54,55,55,55,56,55,57,56,48,56,49,56,50,56,51,56,52,56,53,56,54,56,55,56,56,56,57,57,48,57,49,57,50,57,51,57,52,57,53,57,54,57,55,57,56,57,57])) d) fun d=>bxQ h 1 a g fun g=>stD h 1 g j fun _ h=>bxQ h 1 a i fun a=>stD h 1 a d fun _ h=>bIQ .sub (ge c 1) (I 2) fun a=>e [f,a] h) (e [ge c 0,ge c 1] h)) fun f=>cnd e (bIQ .rem d (.d (.int .u32 10000)) fun e=>bIQ .quo d (.d (.int .u32 10000)) fun d=>bIQ .quo e (.d (.int .u32 100)) fun g=>bIQ .mul g (.d (.int .u32 2)) fun g=>bIQ .rem e (.d (.int .u32 100)) fun e=>bIQ .mul e (.d (.int .u32 2)) fun e=>bIQ .sub (ge c 1) (I 1) fun i=>bIQ .sub (ge c 1) (I 2) fun j=>bIQ .add e (.d (.int .u32 1)) fun k=>bnd (ixS (.d (.str [48,48,48,49,48,50,48,51,48,52,48,53,48,54,48,55,48,56,48,57,49,48,49,49,49,50,49,51,49,52,49,53,49,54,49,55,49,56,49,57,50,48,50,49,50,50,50,51,50,52,50,53,50,54,50,55,50,56,50,57,51,48,51,49,51,50,51,51,51,52,51,53,51,54,51,55,51,56,51,57,52,48,52,49,52,50,52,51,52,52,52,53,52,54,52,55,52,56,52,57,53,48,53,49,53,50,53,51,53,52,53,53,53,54,53,55,53,56,53,57,54,48,54,49,54,50,54,51,54,52,54,53,54,54,54,55,54,56,54,57,55,48,55,49,55,50,55,51,55,52,55,53,55,54,55,55,55,56,55,57,56,48,56,49,56,50,56,51,56,52,56,53,56,54,56,55,56,56,56,57,57,48,57,49,57,50,57,51,57,52,57,53,57,54,57,55,57,56,57,57])) k) fun k=>bnd (ixS (.d (.str [48,48,48,49,48,50,48,51,48,52,48,53,48,54,48,55,48,56,48,57,49,48,49,49,49,50,49,51,49,52,49,53,49,54,49,55,49,56,49,57,50,48,50,49,50,50,50,51,50,52,50,53,50,54,50,55,50,56,50,57,51,48,51,49,51,50,51,51,51,52,51,53,51,54,51,55,51,56,51,57,52,48,52,49,52,50,52,51,52,52,52,53,52,54,52,55,52,56,52,57,53,48,53,49,53,50,53,51,53,52,53,53,53,54,53,55,53,56,53,57,54,48,54,49,54,50,54,51,54,52,54,53,54,54,54,55,54,56,54,57,55,48,55,49,55,50,55,51,55,52,55,53,55,54,55,55,55,56,55,57,56,48,56,49,56,50,56,51,56,52,56,53,56,54,56,55,56,56,56,57,57,48,57,49,57,50,57,51,57,52,57,53,57,54,57,55,57,56,57,57])) e) fun e=>bxQ h 1 a i fun i=>stD h 1 i k fun _ h=>bxQ h 1 a j fun i=>stD h 1 i e fun _ h=>bIQ .sub (ge c 1) (I 3) fun e=>bIQ .sub (ge c 1) (I 4) fun i=>bIQ .add g (.d (.int .u32 1)) fun j=>bnd (ixS (.d (.str [48,48,48,49,48,50,48,51,48,52,48,53,48,54,48,55,48,56,48,57,49,48,49,49,49,50,49,51,49,52,49,53,49,54,49,55,49,56,49,57,50,48,50,49,50,50,50,51,50,52,50,53,50,54,50,55,50,56,50,57,51,48,51,49,51,50,51,51,51,52,51,53,51,54,51,55,51,56,51,57,52,48,52,49,52,50,52,51,52,52,52,53,52,54,52,55,52,56,52,57,53,48,53,49,53,50,53,51,53,52,53,53,53,54,53,55,53,56,53,57,54,48,54,49,54,50,54,51,54,52,54,53,54,54,54,55,54,56,54,57,55,48,55,49,55,50,55,51,55,52,55,53,55,54,55,55,55,56,55,57,56,48,56,49,56,50,56,51,56,52,56,53,56,54,56,55,56,56,56,57,57,48,57,49,57,50,57,51,57,52,57,53,57,54,57,55,57,56,57,57])) j) fun j=>bnd (ixS (.d (.str [48,48,48,49,48,50,48,51,48,52,48,53,48,54,48,55,48,56,48,57,49,48,49,49,49,50,49,51,49,52,49,53,49,54,49,55,49,56,49,57,50,48,50,49,50,50,50,51,50,52,50,53,50,54,50,55,50,56,50,57,51,48,51,49,51,50,51,51,51,52,51,53,51,54,51,55,51,56,51,57,52,48,52,49,52,50,52,51,52,52,52,53,52,54,52,55,52,56,52,57,53,48,53,49,53,50,53,51,53,52,53,53,53,54,53,55,53,56,53,57,54,48,54,49,54,50,54,51,54,52,54,53,54,54,54,55,54,56,54,57,55,48,55,49,55,50,55,51,55,52,55,53,55,54,55,55,55,56,55,57,56,48,56,49,56,50,56,51,56,52,56,53,56,54,56,55,56,56,56,57,57,48,57,49,57,50,57,51,57,52,57,53,57,54,57,55,57,56,57,57])) g) fun g=>bxQ h 1 a e fun e=>stD h 1 e j fun _ h=>bxQ h 1 a i fun a=>stD h 1 a g fun _ h=>bIQ .sub (ge c 1) (I 4) fun a=>f [d,a] h) (f [d,ge c 1] h))])
def kx(b:Nat):Ann:=(.n .x .o (.n .x (.n .x (.n (.l [1,4] [0] [((.exit 0),[1,4],[0])] []) .o .o) .o) (.n .x .o (.n .x (.n .x .o (.n (.j [12,4] [0]) .o .o)) (.n .x (.n .x .o (.n (.j [12,4] [0]) .o .o)) (.n .x .o (.n (.j [] []) .o .o)))))))
theorem ua(C:CC)(h:Hp)(t0:V)(t1:V)(q:kkQ):fnI Y C Tryz.f167 0 kx [t0,t1] h q=bN C h.length h t0 t1 q:=by rfl
theorem t7(b:Nat):okB Tryz.prog Tryz.f167 (kx b)=true:=by rfl
theorem t8(hh:bN (CX Y) h.length h t0 t1 (qN h.length v h2)):CI Y F.bN [t0,t1] h v h2:=
 CI.of (fn:=Tryz.f167) (m:=0) (a:=kx) rfl (fun _=>rfl) Tryz.func167 (t7 _) (by rw[ua];exact hh)
def gh(C:CC)(a:V)(q:kQ):Prop:=let h:Hp:=[]
 bIQ .mul a (I 78913) fun a=>bIQ .shr a (.d (.int .u64 18)) fun a=>q a h
theorem vY(h:gh (CX Y) t0 (out v)):CP Y F.gh [t0] v:=CPo 0 .o Tryz.func178 h
def gm(C:CC)(a:V)(q:kQ):Prop:=let h:Hp:=[]
 cnd a (q (I 1) h) (q (I 0) h)
theorem vZ(h:gm (CX Y) t0 (out v)):CP Y F.gm [t0] v:=CPo 0 .o Tryz.func179 h
def eY(C:CC)(a:V)(q:kQ):Prop:=let h:Hp:=[]
 bIQ .geq a (.d (.int .u64 4294967296)) fun c=>jn (fun a h=>bIQ .geq (ge a 0) (.d (.int .u64 65536)) fun c=>jn (fun a h=>bIQ .geq (ge a 0) (.d (.int .u64 256)) fun c=>jn (fun a h=>bnd (cvI .u8 (ge a 0)) fun c=>bnd (ixS (.d (.str [0,1,2,2,3,3,3,3,4,4,4,4,4,4,4,4,5,5,5,5,5,5,5,5,5,5,5,5,5,5,5,5,6,6,6,6,6,6,6,6,6,6,6,6,6,6,6,6,6,6,6,6,6,6,6,6,6,6,6,6,6,6,6,6,7,7,7,7,7,7,7,7,7,7,7,7,7,7,7,7,7,7,7,7,7,7,7,7,7,7,7,7,7,7,7,7,7,7,7,7,7,7,7,7,7,7,7,7,7,7,7,7,7,7,7,7,7,7,7,7,7,7,7,7,7,7,7,7,8,8,8,8,8,8,8,8,8,8,8,8,8,8,8,8,8,8,8,8,8,8,8,8,8,8,8,8,8,8,8,8,8,8,8,8,8,8,8,8,8,8,8,8,8,8,8,8,8,8,8,8,8,8,8,8,8,8,8,8,8,8,8,8,8,8,8,8,8,8,8,8,8,8,8,8,8,8,8,8,8,8,8,8,8,8,8,8,8,8,8,8,8,8,8,8,8,8,8,8,8,8,8,8,8,8,8,8,8,8,8,8,8,8,8,8,8,8,8,8,8,8,8,8,8,8,8,8])) c) fun c=>bnd (cvI .i64 c) fun c=>bIQ .add (ge a 1) c fun a=>q a h) fun d=>cnd c (bIQ .shr (ge a 0) (.d (.int .u64 8)) fun c=>bIQ .add (ge a 1) (I 8) fun a=>d [c,a] h) (d [ge a 0,ge a 1] h)) fun d=>cnd c (bIQ .shr (ge a 0) (.d (.int .u64 16)) fun c=>bIQ .add (ge a 1) (I 16) fun a=>d [c,a] h) (d [ge a 0,ge a 1] h)) fun d=>cnd c (bIQ .shr a (.d (.int .u64 32)) fun a=>d [a,I 32] h) (d [a,I 0] h)
theorem Ah(h:eY (CX Y) t0 (out v)):CP Y F.eY [t0] v:=CPo 0 (aD (nBQ (aD (nJQ [0,2] [])) (nBQ (aD (nJQ [0,2] [])) (nCQ (aD (nJQ [0,2] [])))))) Tryz.func158 h
def gC(C:CC)(a c:V)(q:kkQ):Prop:=let h:Hp:=List.replicate 0 nnQ
 bnd (biI .and a (.d (.int .u64 4294967295))) fun d=>bnd (biI .shr a (.d (.int .u64 32))) fun e=>bnd (biI .and c (.d (.int .u64 4294967295))) fun f=>bnd (biI .shr c (.d (.int .u64 32))) fun g=>bnd (biI .mul d f) fun i=>bnd (biI .mul e f) fun f=>bnd (biI .shr i (.d (.int .u64 32))) fun i=>bnd (biI .add f i) fun f=>bnd (biI .and f (.d (.int .u64 4294967295))) fun i=>bnd (biI .shr f (.d (.int .u64 32))) fun f=>bnd (biI .mul d g) fun d=>bnd (biI .add i d) fun d=>bnd (biI .mul e g) fun e=>bnd (biI .add e f) fun e=>bnd (biI .shr d (.d (.int .u64 32))) fun d=>bnd (biI .add e d) fun d=>bnd (biI .mul a c) fun a=>q (.tup [d,a]) h
theorem Ag(h:gC (CX Y) t0 t1 (out v)):CP Y F.gC [t0,t1] v:=CPo 0 .o Tryz.func173 h
def strconv_Atoi(C:CC)(a:V)(q:kQ):Prop:=let h:Hp:=[]
 clQ C h F.ic [a] fun c h=>e2Q c fun c d=>bnd (biF .neq d (.d (.pl .nilIface))) fun e=>cnd e (clQ C h F.CL [(.d (.str [65,116,111,105])),a,I 0,I 0,d] fun a h=>q (.tup [c,a]) h) (q (.tup [c,(.d (.pl .nilIface))]) h)
theorem wH(h:strconv_Atoi (CX Y) t0 (out v)):CP Y F.strconv_Atoi [t0] v:=CPo 0 .o Tryz.func117 h
def mR(C:CC)(a c:V):aL:=fun l h q=>cIQ .lss (ge l 1) c (bxQ h 1 a (ge l 1) fun a=>b1Q h a fun a=>bIQ .sub a (.d (.int .u8 48)) fun a=>cIQ .gtr a (.d (.int .u8 9)) (False /- makeInterface -/) (bIQ .mul (ge l 0) (I 10) fun c=>bnd (cvI .i64 a) fun a=>bIQ .add c a fun a=>bIQ .add (ge l 1) (I 1) fun c=>q .normal [a,c] h)) (q (.exit 0) [ge l 0] h)
def ic(C:CC)(a:V)(q:kQ):Prop:=let h:Hp:=[]
 bnd (nS a) fun c=>gd (B false) true h (fun q=>q c h) fun d h=>gd (B false) true h (fun q=>bIQ .lss (I 0) d fun v=>q v h) fun d h=>gd (B false) true h (fun q=>q d h) fun d h=>gqQ d true h c fun e h=>gbQ d true h (biI .lss e (I 10)) fun e h=>gd (B false) true h (fun q=>bpQ d e (B false) fun v=>q v h) fun d h=>bpQ (B false) d (B false) fun d=>gqQ d false h (B true) fun e h=>gqQ e true h c fun f h=>gbQ e true h (biI .lss (I 0) f) fun f h=>gqQ e true h f fun f h=>gqQ f true h c fun c h=>gbQ f true h (biI .lss c (I 19)) fun c h=>gbQ e true h (qM f c (B false)) fun c h=>gbQ d false h (qM e c (B false)) fun c h=>bpQ d (B true) c fun c=>cnd c (bnd (ixS a (I 0)) fun c=>bIQ .eql c (.d (.int .u8 45)) fun c=>gqQ c false h a fun d h=>gbQ c false h (ixS d (I 0)) fun d h=>gbQ c false h (biI .eql d (.d (.int .u8 43))) fun d h=>bpQ c (B true) d fun c=>jn (fun c h=>cvB (ge c 0) h fun c h=>blQ c fun d=>lp (mR C c d) [] h [I 0,I 0] h (exK [((.exit 0),fun c h=>bnd (ixS a (I 0)) fun a=>bIQ .eql a (.d (.int .u8 45)) fun a=>jn (fun a h=>q (.tup [ge a 0,(.d (.pl .nilIface))]) h) fun d=>cnd a (bnd (unV .neg (ge c 0)) fun a=>d [a] h) (d [ge c 0] h)),(.ret,fun a h=>q (.tup [ge a 0,ge a 1]) h)])) fun d=>cnd c (bnd (slS a (some (I 1)) none) fun a=>bnd (nS a) fun c=>cIQ .lss c (I 1) (False /- makeInterface -/) (d [a] h)) (d [a] h)) (clQ C h F.za [a,I 10,I 0] fun a h=>e2Q a fun a c=>q (.tup [a,c]) h)
theorem uF(h:ic (CX Y) t0 (out v)):CP Y F.ic [t0] v:=CPo 0 (df (nCQ (aD (nCQ (aD (nBQ (aD (nJQ [0] [5])) (aD (nBQ (aD (nCQ (.n (.l [6,49] [5,47,48] [((.exit 0),[6],[5]),(.ret,[2,3],[])] []) .o .o))) (nCQ (aD (nJQ [6] []))))))))))) Tryz.func141 h
def fv(C:CC)(a c:V):aL:=fun l h q=>cIQ .lss (ge l 0) c (bxQ h 1 a (ge l 0) fun a=>b1Q h a fun a=>bIQ .lss a (.d (.int .u8 48)) fun c=>gqQ c false h a fun a h=>gbQ c false h (biI .gtr a (.d (.int .u8 57))) fun a h=>bpQ c (B true) a fun a=>cnd a (q .ret [B false] h) (bIQ .add (ge l 0) (I 1) fun a=>q .normal [a] h)) (q (.exit 0) [] h)
def iF(C:CC)(a:V)(q:kQ):Prop:=let h:Hp:=[]
 cvB a h fun c h=>blQ c fun d=>lp (fv C c d) [] h [I 0] h (exK [((.exit 0),fun c h=>bnd (nS a) fun c=>bIQ .eql c (I 1) fun c=>gqQ c false h a fun d h=>gbQ c false h (nS d) fun d h=>gbQ c false h (biI .gtr d (I 1)) fun d h=>gqQ c false h d fun d h=>gqQ d true h a fun a h=>gbQ d true h (ixS a (I 0)) fun a h=>gbQ d true h (biI .neq a (.d (.int .u8 48))) fun a h=>gbQ c false h (qM d a (B false)) fun a h=>bpQ c (B true) a fun a=>q a h),(.ret,fun a h=>q (ge a 0) h)])
theorem yw(h:iF (CX Y) t0 (out v)):CP Y F.iF [t0] v:=CPo 0 (aD (nCQ (aD (nCQ (.n (.l [8] [0,6,7] [((.exit 0),[],[0]),(.ret,[2],[])] []) .o .o))))) Tryz.func133 h
def kC(C:CC)(a:V)(q:kQ):Prop:=let h:Hp:=[]
 clQ C h F.iF [a] fun c h=>bnd (unV .not c) fun c=>gqQ c false h a fun a h=>gbQ c false h (nS a) fun a h=>gbQ c false h (biI .gtr a (I 400)) fun a h=>bpQ c (B true) a fun a=>cnd a (q (I 2) h) (q (I 0) h)
theorem C7(h:kC (CX Y) t0 (out v)):CP Y F.kC [t0] v:=CPo 0 .o Tryz.func105 h
def bO(C:CC)(b:Nat):aL:=fun l h q=>blQ (ge l 0) fun a=>bIQ .gtr a (I 0) fun a=>gqQ a true h (ge l 0) fun c h=>gqQ a true h (ge l 0) fun d h=>gbQ a true h (bj d) fun d h=>gbQ a true h (biI .sub d (I 1)) fun d h=>gbQ a true h (ixV h 1 c d) fun c h=>gbQ a true h (ld1 h c) fun c h=>gbQ a true h (biI .eql c (.d (.int .u64 0))) fun c h=>bpQ a c (B false) fun a=>cnd a (blQ (ge l 0) fun a=>bIQ .sub a (I 1) fun a=>bnd (slV h 1 (ge l 0) none (some a)) fun a=>q .normal [a] h) (q (.exit 0) [ge l 0] h)
def ay(C:CC)(b:Nat)(h:Hp)(a:V)(q:kQ):Prop:=let h:Hp:=h++List.replicate 0 nnQ
 lp (bO C b) [] h [a] h (exK [((.exit 0),fun a h=>q (ge a 0) h)])
def mL(b:Nat):Ann:=(.n .x .o (.n .x (.n .x (.n (.l [0] [] [((.exit 0),[0],[])] []) .o .o) .o) .o))
theorem wh(C:CC)(h:Hp)(t0:V)(q:kkQ):fnI Y C Tryz.f125 0 mL [t0] h q=ay C h.length h t0 q:=by rfl
theorem wg(b:Nat):okB Tryz.prog Tryz.f125 (mL b)=true:=by rfl
theorem p6(hh:ay (CX Y) h.length h t0 (qN h.length v h2)):CI Y F.ay [t0] h v h2:=
 CI.of (fn:=Tryz.f125) (m:=0) (a:=mL) rfl (fun _=>rfl) Tryz.func125 (wg _) (by rw[wh];exact hh)
def pP(C:CC)(b:Nat)(a c:V):aL:=fun l h q=>cIQ .lss (ge l 1) c (bxQ h 1 a (ge l 1) fun a=>b1Q h a fun a=>bIQ .mul (.d (.int .u64 10)) (ge l 0) fun c=>bIQ .sub a (.d (.int .u8 48)) fun a=>bnd (cvI .u64 a) fun a=>bIQ .add c a fun a=>bIQ .add (ge l 1) (I 1) fun c=>q .normal [a,c] h) (q (.exit 2) [ge l 0] h)
def pQ(C:CC)(b:Nat)(a:V):aL:=fun l h q=>cIQ .gtr (ge l 1) (I 0) (bIQ .sub (ge l 1) (I 9) fun c=>bnd (mxI true [I 0,c]) fun c=>bnd (slS a (some c) (some (ge l 1))) fun a=>cvB a h fun a h=>blQ a fun c=>lp (pP C b a c) [] h [(.d (.int .u64 0)),I 0] h (exK [((.exit 2),fun a h=>cR 1 [.int .u64 0] [(0,(ge a 0))] h fun a h=>apV false (b+1) 1 8 (ge l 0) a h fun a h=>bIQ .sub (ge l 1) (I 9) fun c=>q .normal [a,c] h)])) (q (.exit 0) [ge l 0] h)
def cW(C:CC)(b:Nat)(h:Hp)(a:V)(q:kQ):Prop:=let h:Hp:=h++List.replicate 3 nnQ
 bnd (nS a) fun c=>bIQ .quo c (I 9) fun c=>bIQ .add c (I 1) fun c=>mkS (b+0) 8 [.int .u64 0] h (I 0) c fun c h=>bnd (nS a) fun d=>lp (pQ C b a) [] h [c,d] h (exK [((.exit 0),fun a h=>ciQ C h F.ay [ge a 0] (b+2) q)])
def uf(b:Nat):Ann:=(.n .x .o (.n .x (.n (.r [.slot (b+0)]) .o .o) (.n .x (.n .x .o (.n .x (.n (.l [3,4] [0] [((.exit 0),[3],[])] []) (.n .x .o (.n .x (.n .x (.n .x .o (.n .x (.n .x .o (.n .x (.n (.l [5,27] [0,3,4,25,26] [((.exit 2),[5],[0,3,4])] []) .o .o) .o)) (.n (.r [.o,.slot (b+1)]) .o .o))) .o) .o)) .o) .o)) (.n .x (.n (.r [.inl (b+2)]) .o .o) .o))))
theorem GF(C:CC)(h:Hp)(t0:V)(q:kkQ):fnI Y C Tryz.f121 3 uf [t0] h q=cW C h.length h t0 q:=by rfl
theorem GD(b:Nat):okB Tryz.prog Tryz.f121 (uf b)=true:=by rfl
theorem GE(hh:cW (CX Y) h.length h t0 (qN h.length v h2)):CI Y F.cW [t0] h v h2:=
 CI.of (fn:=Tryz.f121) (m:=3) (a:=uf) rfl (fun _=>rfl) Tryz.func121 (GD _) (by rw[GF];exact hh)
def dJ(C:CC)(b:Nat)(a:V):aL:=fun l h q=>cIQ .lss (ge l 0) (ge l 1) (bxQ h 1 a (ge l 1) fun c=>b1Q h c fun c=>bxQ h 1 a (ge l 0) fun d=>b1Q h d fun d=>bxQ h 1 a (ge l 0) fun e=>stD h 1 e c fun _ h=>bxQ h 1 a (ge l 1) fun a=>stD h 1 a d fun _ h=>bIQ .add (ge l 0) (I 1) fun a=>bIQ .sub (ge l 1) (I 1) fun c=>q .normal [a,c] h) (q (.exit 0) [] h)
def bP(C:CC)(b:Nat)(h:Hp)(a:V)(q:kQ):Prop:=let h:Hp:=h++List.replicate 0 nnQ
 blQ a fun c=>bIQ .sub c (I 1) fun c=>lp (dJ C b a) [] h [I 0,c] h (exK [((.exit 0),fun a h=>q (.tup []) h)])
def js(b:Nat):Ann:=(.n .x .o (.n .x (.n (.l [2,3] [0] [((.exit 0),[],[])] []) .o .o) .o))
theorem sR(C:CC)(h:Hp)(t0:V)(q:kkQ):fnI Y C Tryz.f148 0 js [t0] h q=bP C h.length h t0 q:=by kernel_rfl
theorem sO(b:Nat):okB Tryz.prog Tryz.f148 (js b)=true:=of_decide_eq_true ah
theorem sQ(hh:bP (CX Y) h.length h t0 (qN h.length v h2)):CI Y F.bP [t0] h v h2:=
 CI.of (fn:=Tryz.f148) (m:=0) (a:=js) rfl (fun _=>rfl) Tryz.func148 (sO _) (by rw[sR];exact hh)
def cZ(C:CC)(a c:V):aL:=fun l h q=>bIQ .lss (ge l 2) (I 9) fun d=>gqQ d true h c fun c h=>gbQ d true h (biI .add c (I 1)) fun c h=>gqQ d true h a fun a h=>gbQ d true h (bj a) fun a h=>gbQ d true h (biI .lss c a) fun a h=>gqQ d true h a fun a h=>gqQ a false h (ge l 1) fun c h=>gbQ a false h (biI .gtr c (.d (.int .u64 0))) fun c h=>gbQ d true h (qM a (B true) c) fun a h=>bpQ d a (B false) fun a=>cnd a (bIQ .rem (ge l 1) (.d (.int .u64 10)) fun a=>bIQ .add (.d (.int .u64 48)) a fun a=>bnd (cvI .u8 a) fun a=>cR 1 [.int .u8 0] [(0,a)] h fun a h=>apV false 1 1 1 (ge l 0) a h fun a h=>bIQ .quo (ge l 1) (.d (.int .u64 10)) fun c=>bIQ .add (ge l 2) (I 1) fun d=>q .normal [a,c,d] h) (q (.exit 2) [ge l 0] h)
def iW(C:CC)(a c d:V):aL:=fun l h q=>cIQ .lss (ge l 1) d (bxQ h 1 c (ge l 1) fun c=>b1Q h c fun c=>lp (cZ C a (ge l 1)) [] h [ge l 0,c,I 0] h (exK [((.exit 2),fun a h=>bIQ .add (ge l 1) (I 1) fun c=>q .normal [ge a 0,c] h)])) (q (.exit 0) [ge l 0] h)
def aP(C:CC)(a:V)(q:kQ):Prop:=let h:Hp:=.replicate 3 nnQ
 blQ a fun c=>cIQ .eql c (I 0) (q (.d (.str [48])) h) (blQ a fun c=>bIQ .mul (I 9) c fun c=>mkS 0 1 [.int .u8 0] h (I 0) c fun c h=>blQ a fun d=>lp (iW C a a d) [] h [c,I 0] h (exK [((.exit 0),fun a h=>ciQ C h F.bP [ge a 0] 2 fun c h=>bnd (cvT h (ge a 0)) fun a=>q a h)]))
theorem wi(h:aP (CX Y) t0 (out v)):CP Y F.aP [t0] v:=CPo 3 (df (nBQ (nRQ [.slot 0]) (nBQ (aD (nCQ (.n (.l [3,16] [0,14,15] [((.exit 0),[3],[])] []) (df (nCQ (nCQ (df (nCQ (.n (.l [3,5,6] [0,4,14,15,16] [((.exit 2),[3],[0,14,15,16])] []) (aD (nCQ (nCQ (nCQ (nRQ [.o,.slot 1]))))) .o)))))) .o))) (nCQ (nRQ [.inl 2]))))) Tryz.func123 h
def cX(C:CC)(a c:V):aL:=fun l h q=>cIQ .geq (ge l 0) (I 0) (bxQ h 1 a (ge l 0) fun d=>b1Q h d fun d=>bxQ h 1 c (ge l 0) fun e=>b1Q h e fun e=>cIQ .lss d e (q .ret [I (-1)] h) (bxQ h 1 a (ge l 0) fun a=>b1Q h a fun a=>bxQ h 1 c (ge l 0) fun c=>b1Q h c fun c=>cIQ .gtr a c (q .ret [I 1] h) (bIQ .sub (ge l 0) (I 1) fun a=>q .normal [a] h))) (q (.exit 0) [] h)
def cD(C:CC)(a c:V)(q:kQ):Prop:=let h:Hp:=[]
 blQ a fun d=>blQ c fun e=>cIQ .neq d e (blQ a fun a=>blQ c fun c=>bIQ .sub a c fun a=>bnd (mxI true [I (-1),a]) fun a=>bnd (mxI false [I 1,a]) fun a=>q a h) (blQ a fun d=>bIQ .sub d (I 1) fun d=>lp (cX C a c) [] h [d] h (exK [((.exit 0),fun a h=>q (I 0) h),(.ret,fun a h=>q (ge a 0) h)]))
theorem ub(h:cD (CX Y) t0 t1 (out v)):CP Y F.cD [t0,t1] v:=CPo 0 (df (nCQ (aD (nCQ (.n (.l [5] [0,1] [((.exit 0),[],[]),(.ret,[4],[])] []) .o .o))))) Tryz.func144 h
def iC(C:CC)(b:Nat)(a c d e f:V):aL:=fun l h q=>cIQ .lss (ge l 1) f (bxQ h 1 e (ge l 1) fun e=>b1Q h e fun e=>bIQ .add c (ge l 1) fun f=>bxQ h 1 a f fun f=>b1Q h f fun f=>bIQ .mul d e fun d=>bIQ .add f d fun d=>bIQ .add (ge l 0) d fun d=>bIQ .add c (ge l 1) fun c=>bIQ .rem d (.d (.int .u64 1000000000)) fun e=>bxQ h 1 a c fun a=>stD h 1 a e fun _ h=>bIQ .quo d (.d (.int .u64 1000000000)) fun a=>bIQ .add (ge l 1) (I 1) fun c=>q .normal [a,c] h) (q (.exit 2) [ge l 0] h)
def iD(C:CC)(b:Nat)(a c d e:V):aL:=fun l h q=>cIQ .lss (ge l 0) e (bxQ h 1 d (ge l 0) fun d=>b1Q h d fun d=>blQ a fun e=>lp (iC C b c (ge l 0) d a e) [] h [(.d (.int .u64 0)),I 0] h (exK [((.exit 2),fun d h=>blQ a fun a=>bIQ .add (ge l 0) a fun a=>bxQ h 1 c a fun a=>stD h 1 a (ge d 0) fun _ h=>bIQ .add (ge l 0) (I 1) fun a=>q .normal [a] h)])) (q (.exit 0) [] h)
def bw(C:CC)(b:Nat)(h:Hp)(a c:V)(q:kQ):Prop:=let h:Hp:=h++List.replicate 2 nnQ
 blQ a fun d=>blQ c fun e=>bIQ .add d e fun d=>mkS (b+0) 8 [.int .u64 0] h d d fun d h=>blQ a fun e=>lp (iD C b c d a e) [] h [I 0] h (exK [((.exit 0),fun a h=>ciQ C h F.ay [d] (b+1) q)])
def me(b:Nat):Ann:=(.n .x .o (.n .x (.n (.r [.slot (b+0)]) .o .o) (.n .x (.n .x .o (.n .x (.n (.l [19] [1,5,17,18] [((.exit 0),[],[5])] []) (.n .x .o (.n .x .o (.n .x (.n .x (.n .x .o (.n .x .o (.n .x (.n .x .o (.n .x (.n (.l [8,26] [1,5,6,7,17,18,19,24,25] [((.exit 2),[8],[1,5,6,17,18,19])] []) .o .o) .o)) .o))) .o) .o))) .o) .o)) (.n .x (.n (.r [.inl (b+1)]) .o .o) .o))))
theorem vF(C:CC)(h:Hp)(t0:V)(t1:V)(q:kkQ):fnI Y C Tryz.f122 2 me [t0,t1] h q=bw C h.length h t0 t1 q:=by rfl
theorem vC(b:Nat):okB Tryz.prog Tryz.f122 (me b)=true:=by rfl
theorem vE(hh:bw (CX Y) h.length h t0 t1 (qN h.length v h2)):CI Y F.bw [t0,t1] h v h2:=
 CI.of (fn:=Tryz.f122) (m:=2) (a:=me) rfl (fun _=>rfl) Tryz.func122 (vC _) (by rw[vF];exact hh)
def cj(C:CC)(b:Nat)(h:Hp)(a c:V)(q:kQ):Prop:=let h:Hp:=h++List.replicate 2 nnQ
 cR 1 [.int .u64 0] [(0,c)] h fun c h=>ciQ C h F.ay [c] (b+0) fun c h=>ciQ C h F.bw [a,c] (b+1) q
def lj(b:Nat):Ann:=(.n .x .o (.n .x (.n (.r [.o,.inl (b+0),.inl (b+1)]) .o .o) .o))
theorem uK(C:CC)(h:Hp)(t0:V)(t1:V)(q:kkQ):fnI Y C Tryz.f169 2 lj [t0,t1] h q=cj C h.length h t0 t1 q:=by rfl
theorem uI(b:Nat):okB Tryz.prog Tryz.f169 (lj b)=true:=by rfl
theorem uJ(hh:cj (CX Y) h.length h t0 t1 (qN h.length v h2)):CI Y F.cj [t0,t1] h v h2:=
 CI.of (fn:=Tryz.f169) (m:=2) (a:=lj) rfl (fun _=>rfl) Tryz.func169 (uI _) (by rw[uK];exact hh)
def iE(C:CC)(a c d:V):aL:=fun l h q=>cIQ .geq (ge l 1) (I 0) (bIQ .mul (ge l 0) (.d (.int .u64 1000000000)) fun e=>bxQ h 1 a (ge l 1) fun a=>b1Q h a fun a=>bIQ .add e a fun a=>bIQ .quo a c fun e=>bxQ h 1 d (ge l 1) fun d=>stD h 1 d e fun _ h=>bIQ .rem a c fun a=>bIQ .sub (ge l 1) (I 1) fun c=>q .normal [a,c] h) (q (.exit 0) [ge l 0] h)
def cU(C:CC)(a c:V)(q:kQ):Prop:=let h:Hp:=.replicate 2 nnQ
 blQ a fun d=>mkS 0 8 [.int .u64 0] h d d fun d h=>blQ a fun e=>bIQ .sub e (I 1) fun e=>lp (iE C a c d) [] h [(.d (.int .u64 0)),e] h (exK [((.exit 0),fun a h=>ciQ C h F.ay [d] 1 fun c h=>q (.tup [c,ge a 0]) h)])
theorem vG(h:cU (CX Y) t0 t1 (out v)):CP Y F.cU [t0,t1] v:=CPo 2 (aD (nBQ (nRQ [.slot 0]) (aD (nBQ (aD (nCQ (.n (.l [7,8] [0,1,6] [((.exit 0),[7],[6])] []) .o .o))) (nCQ (nRQ [.inl 1])))))) Tryz.func145 h
def fT(C:CC)(b:Nat)(a c d e:V):aL:=fun l h q=>blQ c fun f=>cIQ .leq (ge l 2) f (blQ c fun f=>bIQ .lss (ge l 2) f fun f=>jn (fun c h=>bIQ .add e (ge l 2) fun d=>bxQ h 1 a d fun d=>b1Q h d fun d=>bnd (cvI .i64 d) fun d=>bIQ .rem (ge c 0) (.d (.int .u64 1000000000)) fun f=>bnd (cvI .i64 f) fun f=>bIQ .sub d f fun d=>bIQ .sub d (ge l 1) fun d=>bIQ .quo (ge c 0) (.d (.int .u64 1000000000)) fun c=>bIQ .lss d (I 0) fun f=>jn (fun d h=>bIQ .add e (ge l 2) fun e=>bnd (cvI .u64 (ge d 0)) fun f=>bxQ h 1 a e fun a=>stD h 1 a f fun _ h=>bIQ .add (ge l 2) (I 1) fun a=>q .normal [c,ge d 1,a] h) fun a=>cnd f (bIQ .add d (I 1000000000) fun c=>a [c,I 1] h) (a [d,I 0] h)) fun a=>cnd f (bxQ h 1 c (ge l 2) fun c=>b1Q h c fun c=>bIQ .mul d c fun c=>bIQ .add (ge l 0) c fun c=>a [c] h) (a [ge l 0] h)) (q (.exit 0) [ge l 1] h)
def dC(C:CC)(b:Nat)(h:Hp)(a c d e:V)(q:kQ):Prop:=let h:Hp:=h++List.replicate 0 nnQ
 lp (fT C b a c d e) [] h [(.d (.int .u64 0)),I 0,I 0] h (exK [((.exit 0),fun a h=>bIQ .gtr (ge a 0) (I 0) fun a=>q a h)])
def mM(b:Nat):Ann:=(.n .x .o (.n .x .o (.n .x .o (.n .x (.n .x .o (.n .x (.n (.l [10,9,11] [0,1,2,3] [((.exit 0),[9],[])] []) (.n .x .o (.n .x (.n .x (.n .x (.n .x .o (.n (.j [10] [0,1,2,3,9,11]) .o .o)) (.n .x .o (.n .x .o (.n .x .o (.n .x (.n .x .o (.n (.j [12,9] [0,1,2,3,10,11]) .o .o)) .o))))) .o) .o)) .o) .o)) .o))))
theorem wm(C:CC)(h:Hp)(t0:V)(t1:V)(t2:V)(t3:V)(q:kkQ):fnI Y C Tryz.f126 0 mM [t0,t1,t2,t3] h q=dC C h.length h t0 t1 t2 t3 q:=by rfl
theorem wj(b:Nat):okB Tryz.prog Tryz.f126 (mM b)=true:=by rfl
theorem wl(hh:dC (CX Y) h.length h t0 t1 t2 t3 (qN h.length v h2)):CI Y F.dC [t0,t1,t2,t3] h v h2:=
 CI.of (fn:=Tryz.f126) (m:=0) (a:=mM) rfl (fun _=>rfl) Tryz.func126 (wj _) (by rw[wm];exact hh)
def iX(C:CC)(b:Nat)(a c d:V):aL:=fun l h q=>blQ c fun e=>cIQ .leq (ge l 1) e (bIQ .add d (ge l 1) fun e=>bxQ h 1 a e fun e=>b1Q h e fun e=>bIQ .add (ge l 0) e fun e=>blQ c fun f=>bIQ .lss (ge l 1) f fun f=>jn (fun c h=>bIQ .add d (ge l 1) fun d=>bIQ .rem (ge c 0) (.d (.int .u64 1000000000)) fun e=>bxQ h 1 a d fun a=>stD h 1 a e fun _ h=>bIQ .quo (ge c 0) (.d (.int .u64 1000000000)) fun a=>bIQ .add (ge l 1) (I 1) fun c=>q .normal [a,c] h) fun a=>cnd f (bxQ h 1 c (ge l 1) fun c=>b1Q h c fun c=>bIQ .add e c fun c=>a [c] h) (a [e] h)) (q (.exit 0) [] h)
def cL(C:CC)(b:Nat)(h:Hp)(a c d:V)(q:kQ):Prop:=let h:Hp:=h++List.replicate 0 nnQ
 lp (iX C b a c d) [] h [(.d (.int .u64 0)),I 0] h (exK [((.exit 0),fun a h=>q (.tup []) h)])
def mO(b:Nat):Ann:=(.n .x .o (.n .x .o (.n .x (.n (.l [6,7] [0,1,2] [((.exit 0),[],[])] []) (.n .x .o (.n .x (.n .x (.n .x .o (.n .x (.n .x .o (.n (.j [6] [0,1,2,7]) .o .o)) .o)) .o) .o)) .o) .o)))
theorem wt(C:CC)(h:Hp)(t0:V)(t1:V)(t2:V)(q:kkQ):fnI Y C Tryz.f124 0 mO [t0,t1,t2] h q=cL C h.length h t0 t1 t2 q:=by rfl
theorem wn(b:Nat):okB Tryz.prog Tryz.f124 (mO b)=true:=by rfl
theorem wq(hh:cL (CX Y) h.length h t0 t1 t2 (qN h.length v h2)):CI Y F.cL [t0,t1,t2] h v h2:=
 CI.of (fn:=Tryz.f124) (m:=0) (a:=mO) rfl (fun _=>rfl) Tryz.func124 (wn _) (by rw[wt];exact hh)
def kA(C:CC)(a:V):aL:=fun l h q=>blQ (ge l 0) fun c=>blQ a fun a=>cIQ .leq c a (cR 1 [.int .u64 0] [(0,(.d (.int .u64 0)))] h fun a h=>apV false 3 1 8 (ge l 0) a h fun a h=>q .normal [a] h) (q (.exit 0) [ge l 0] h)
def bi(C:CC)(a c d e:V):aL:=fun l h q=>bIQ .geq (ge l 0) (.d (.int .u64 1000000000)) fun f=>gqQ f false h (ge l 1) fun g h=>gbQ f false h (biI .lss g (.d (.int .u64 1000000000))) fun g h=>gqQ f false h g fun g h=>gqQ g true h (ge l 0) fun i h=>gqQ g true h c fun j h=>gqQ g true h d fun k h=>gbQ g true h (biI .sub k (I 2)) fun k h=>gbQ g true h (ixV h 1 j k) fun j h=>gbQ g true h (ld1 h j) fun j h=>gbQ g true h (biI .mul i j) fun i h=>gqQ g true h (ge l 1) fun j h=>gbQ g true h (biI .mul j (.d (.int .u64 1000000000))) fun j h=>gqQ g true h a fun a h=>gqQ g true h e fun e h=>gqQ g true h d fun k h=>gbQ g true h (biI .add e k) fun e h=>gbQ g true h (biI .sub e (I 2)) fun e h=>gbQ g true h (ixV h 1 a e) fun a h=>gbQ g true h (ld1 h a) fun a h=>gbQ g true h (biI .add j a) fun a h=>gbQ g true h (biI .gtr i a) fun a h=>gbQ f false h (qM g a (B false)) fun a h=>bpQ f (B true) a fun a=>cnd a (bIQ .sub (ge l 0) (.d (.int .u64 1)) fun a=>bIQ .sub d (I 1) fun d=>bxQ h 1 c d fun c=>b1Q h c fun c=>bIQ .add (ge l 1) c fun c=>q .normal [a,c] h) (q (.exit 4) [ge l 0] h)
def dt(C:CC)(a c d e:V):aL:=fun l h q=>cIQ .geq (ge l 0) (I 0) (bIQ .add (ge l 0) d fun f=>bxQ h 1 a f fun f=>b1Q h f fun f=>bIQ .mul f (.d (.int .u64 1000000000)) fun f=>bIQ .add (ge l 0) d fun g=>bIQ .sub g (I 1) fun g=>bxQ h 1 a g fun g=>b1Q h g fun g=>bIQ .add f g fun f=>bIQ .sub d (I 1) fun g=>bxQ h 1 c g fun g=>b1Q h g fun g=>bIQ .quo f g fun g=>bIQ .sub d (I 1) fun i=>bxQ h 1 c i fun i=>b1Q h i fun i=>bIQ .rem f i fun f=>lp (bi C a c d (ge l 0)) [] h [g,f] h (exK [((.exit 4),fun d h=>ciQ C h F.dC [a,c,ge d 0,ge l 0] 5 fun f h=>jn (fun a h=>bxQ h 1 e (ge l 0) fun c=>stD h 1 c (ge a 0) fun _ h=>bIQ .sub (ge l 0) (I 1) fun a=>q .normal [a] h) fun e=>cnd f (bIQ .sub (ge d 0) (.d (.int .u64 1)) fun d=>ciQ C h F.cL [a,c,ge l 0] 6 fun a h=>e [d] h) (e [ge d 0] h))])) (q (.exit 2) [] h)
def dF(C:CC)(a c:V)(q:kQ):Prop:=let h:Hp:=.replicate 9 nnQ
 blQ c fun d=>bIQ .sub d (I 1) fun d=>bxQ h 1 c d fun d=>b1Q h d fun d=>bIQ .add d (.d (.int .u64 1)) fun d=>bIQ .quo (.d (.int .u64 1000000000)) d fun d=>ciQ C h F.cj [a,d] 0 fun e h=>cR 1 [.int .u64 0] [(0,(.d (.int .u64 0)))] h fun f h=>apV false 1 1 8 e f h fun e h=>ciQ C h F.cj [c,d] 2 fun c h=>blQ c fun f=>lp (kA C a) [] h [e] h (exK [((.exit 0),fun a h=>blQ (ge a 0) fun e=>bIQ .sub e f fun e=>mkS 4 8 [.int .u64 0] h e e fun e h=>blQ (ge a 0) fun g=>bIQ .sub g f fun g=>bIQ .sub g (I 1) fun g=>lp (dt C (ge a 0) c f e) [5,6] h [g] h (exK [((.exit 2),fun c h=>ciQ C h F.ay [ge a 0] 7 fun a h=>clQ C h F.cU [a,d] fun a h=>e2Q a fun a c=>ciQ C h F.ay [e] 8 fun c h=>q (.tup [c,a]) h)]))])
def lu:Ann:=(df (nBQ (nRQ [.inl 0,.o,.slot 1,.inl 2]) (aD (nBQ (nCQ (.n (.l [7] [0,6,8,9] [((.exit 0),[7],[6,8,9])] []) (aD (nCQ (nRQ [.o,.slot 3]))) .o)) (nBQ (nRQ [.slot 4]) (nBQ (aD (nCQ (.n (.l [11] [6,7,8,9,10] [((.exit 2),[],[6,7,10])] [5,6]) (aD (nCQ (nCQ (df (nBQ (nCQ (.n (.l [13,14] [6,7,8,9,10,11] [((.exit 4),[13],[6,7,8,9,10,11])] []) .o .o)) (nCQ (nBQ (nRQ [.inl 5]) (.n (.j [13] [6,7,8,9,10,11]) (aD (nRQ [.inl 6])) .o)))))))) .o))) (nBQ (nRQ [.inl 7]) (nCQ (nRQ [.inl 8])))))))))
attribute [local irreducible] bnd gd cal cnd ext cR rq stD alV alD cQ jn lp exK mkS apV cai rj in
theorem uN(C:CC)(t0:V)(t1:V)(q:kkQ):fnD Y C Tryz.f146 9 lu [t0,t1] q=dF C t0 t1 q:=Pn
theorem uL:okB Tryz.prog Tryz.f146 lu=true:=bb
theorem uM(h:dF (CX Y) t0 t1 (out v)):CP Y F.dF [t0,t1] v:=
 CP.of (fn:=Tryz.f146) (m:=9) (a:=lu) rfl (fun _=>rfl) Tryz.func146 uL (by rw[uN];exact h)
def dV(C:CC)(a c d:V):aL:=fun l h q=>cIQ .lss (ge l 0) d (bxQ h 1 a (ge l 0) fun a=>b1Q h a fun a=>cal C.p h c [a] fun a h=>cnd a (q .ret [ge l 0] h) (bIQ .add (ge l 0) (I 1) fun a=>q .normal [a] h)) (q (.exit 0) [] h)
def bD(C:CC)(a c:V)(q:kQ):Prop:=let h:Hp:=[]
 blQ a fun d=>lp (dV C a c d) [] h [I 0] h (exK [((.exit 0),fun a h=>q (I (-1)) h),(.ret,fun a h=>q (ge a 0) h)])
theorem qh(h:bD (CX Y) t0 t1 (out v)):CP Y F.bD [t0,t1] v:=CPo 0 (aD (nCQ (aD (nCQ (.n (.l [8] [0,1,7] [((.exit 0),[],[]),(.ret,[4],[])] []) .o .o))))) Tryz.func104 h
def aZ(C:CC)(a c:V)(q:kQ):Prop:=let h:Hp:=[]
 clQ C h F.bD [a,c] fun a h=>bIQ .geq a (I 0) fun a=>q a h
theorem qI(h:aZ (CX Y) t0 t1 (out v)):CP Y F.aZ [t0,t1] v:=CPo 0 .o Tryz.func70 h
def aR(C:CC)(a:V)(q:kQ):Prop:=let h:Hp:=[]
 bnd (nS a) fun c=>bIQ .gtr c (I 0) fun c=>gqQ c true h a fun d h=>gbQ c true h (ixS d (I 0)) fun d h=>gbQ c true h (biI .eql d (.d (.int .u8 45))) fun d h=>bpQ c d (B false) fun c=>cnd c (bnd (slS a (some (I 1)) none) fun a=>q (.tup [B true,a]) h) (q (.tup [B false,a]) h)
theorem F7(h:aR (CX Y) t0 (out v)):CP Y F.aR [t0] v:=CPo 0 .o Tryz.func74 h
def mS(C:CC)(a:V)(q:kQ):Prop:=let h:Hp:=[]
 clQ C h F.aR [a] fun a h=>e2Q a fun a c=>gqQ a true h c fun d h=>gbQ a true h (biS .eql d (.d (.str [48]))) fun d h=>bpQ a d (B false) fun a=>gqQ a false h c fun c h=>gd a false h (fun q=>clQ C h F.kC [c] q) fun c h=>gbQ a false h (biI .neq c (I 0)) fun c h=>bpQ a (B true) c fun a=>cnd a (q (I 2) h) (q (I 0) h)
theorem Ga(h:mS (CX Y) t0 (out v)):CP Y F.mS [t0] v:=CPo 0 .o Tryz.func76 h
def dE(C:CC)(a:V)(q:kQ):Prop:=let h:Hp:=[]
 bSQ .eql a (.d (.str [48])) fun c=>cnd c (q (I 0) h) (bnd (ixS a (I 0)) fun a=>cIQ .eql a (.d (.int .u8 45)) (q (I (-1)) h) (q (I 1) h))
theorem Iv(h:dE (CX Y) t0 (out v)):CP Y F.dE [t0] v:=CPo 0 .o Tryz.func77 h
def fG(C:CC)(a:V)(q:kQ):Prop:=let h:Hp:=[]
 clQ C h F.strconv_Itoa [a] q
theorem DZ(h:fG (CX Y) t0 (out v)):CP Y F.fG [t0] v:=CPo 0 .o Tryz.func73 h
def bC(C:CC)(a c:V)(q:kQ):Prop:=let h:Hp:=[]
 bnd (nS a) fun d=>cIQ .gtr d c (q (.tup [I 0,B false]) h) (clQ C h F.strconv_Atoi [a] fun a h=>e2Q a fun a c=>bnd (biF .eql c (.d (.pl .nilIface))) fun c=>q (.tup [a,c]) h)
theorem sI(h:bC (CX Y) t0 t1 (out v)):CP Y F.bC [t0,t1] v:=CPo 0 .o Tryz.func91 h
def ij(C:CC)(a:V)(q:kQ):Prop:=let h:Hp:=[]
 clQ C h F.aR [a] fun a h=>e2Q a fun a c=>q c h
theorem Cl(h:ij (CX Y) t0 (out v)):CP Y F.ij [t0] v:=CPo 0 .o Tryz.func42 h
def rG(C:CC):aL:=fun l h q=>cIQ .neq (ge l 1) (I 0) (bIQ .rem (ge l 0) (ge l 1) fun a=>q .normal [ge l 1,a] h) (q (.exit 0) [ge l 0] h)
def rX(C:CC)(a c:V)(q:kQ):Prop:=let h:Hp:=[]
 lp (rG C) [] h [a,c] h (exK [((.exit 0),fun a h=>q (ge a 0) h)])
theorem Ke(h:rX (CX Y) t0 t1 (out v)):CP Y F.rX [t0,t1] v:=CPo 0 (aD (nCQ (nCQ (.n (.l [0,1] [] [((.exit 0),[0],[])] []) .o .o)))) Tryz.func106 h
def oU(C:CC)(a c:V)(q:kQ):Prop:=let h:Hp:=[]
 clQ C h F.ij [a] fun a h=>clQ C h F.ij [c] fun c h=>clQ C h F.bC [a,I 18] fun d h=>e2Q d fun d e=>jn (fun d h=>clQ C h F.nj [a,c] q) fun a=>cnd e (clQ C h F.bC [c,I 18] fun c h=>e2Q c fun c e=>cnd e (clQ C h F.rX [d,c] fun a h=>clQ C h F.fG [a] q) (a [] h)) (a [] h)
theorem Ki(h:oU (CX Y) t0 t1 (out v)):CP Y F.oU [t0,t1] v:=CPo 0 (df (nCQ (df (nJQ [] [5,6])))) Tryz.func78 h
def fR(C:CC)(a:V)(q:kQ):Prop:=let h:Hp:=.replicate 1 nnQ
 cQ 0 a h fun a h=>bfQ 0 a fun c=>b1Q h c fun c=>clQ C h F.mS [c] fun c h=>bIQ .neq c (I 0) fun c=>jn (fun c h=>cnd (ge c 0) (q (I 2) h) (bfQ 1 a fun c=>b1Q h c fun c=>clQ C h F.dE [c] fun c h=>bIQ .leq c (I 0) fun c=>jn (fun a h=>cnd (ge a 0) (q (I 2) h) (q (I 0) h)) fun d=>cnd c (d [c] h) (bfQ 0 a fun c=>b1Q h c fun c=>bfQ 1 a fun a=>b1Q h a fun a=>clQ C h F.oU [c,a] fun a h=>bSQ .neq a (.d (.str [49])) fun a=>d [a] h))) fun d=>cnd c (d [c] h) (bfQ 1 a fun a=>b1Q h a fun a=>clQ C h F.mS [a] fun a h=>bIQ .neq a (I 0) fun a=>d [a] h)
theorem BO(h:fR (CX Y) t0 (out v)):CP Y F.fR [t0] v:=CPo 1 (nBQ (nRQ [.slot 0]) (nCQ (nCQ (nBQ (aD (nJQ [3] [1])) (aD (nCQ (aD (nJQ [12] [])))))))) Tryz.func46 h
def qa(C:CC)(a:V)(q:kQ):Prop:=let h:Hp:=[]
 clQ C h F.aR [a] fun a h=>e2Q a fun a c=>bnd (unV .not a) fun a=>clQ C h F.cF [a,c] q
theorem Kf(h:qa (CX Y) t0 (out v)):CP Y F.qa [t0] v:=CPo 0 .o Tryz.func89 h
def oT(C:CC)(a:V)(q:kQ):Prop:=let h:Hp:=[]
 clQ C h F.gM [a,I 10,I 64] fun a h=>e2Q a fun a c=>bnd (biF .neq c (.d (.pl .nilIface))) fun c=>cnd c (q (.tup [I 0,B false]) h) (q (.tup [a,B true]) h)
theorem F8(h:oT (CX Y) t0 (out v)):CP Y F.oT [t0] v:=CPo 0 .o Tryz.func149 h
def km(C:CC)(a c:V)(q:kQ):Prop:=let h:Hp:=[]
 clQ C h F.dE [a] fun d h=>clQ C h F.dE [c] fun e h=>cIQ .neq d e (cIQ .lss d e (q (I (-1)) h) (q (I 1) h)) (clQ C h F.aR [a] fun a h=>e2Q a fun a d=>clQ C h F.aR [c] fun c h=>e2Q c fun c e=>jn (fun a h=>clQ C h F.bV [ge a 0,ge a 1] q) fun c=>cnd a (c [e,d] h) (c [d,e] h))
theorem CJ(h:km (CX Y) t0 t1 (out v)):CP Y F.km [t0,t1] v:=CPo 0 (RO (nCQ (aD (nJQ [8,10] [])))) Tryz.func174 h
def cC(C:CC)(a c:V)(q:kQ):Prop:=let h:Hp:=[]
 bSQ .eql c (.d (.str [48])) fun d=>cnd d (q (.tup [(.d (.str [])),(.d (.str [])),I 17]) h) (clQ C h F.bC [a,I 18] fun d h=>e2Q d fun d e=>jn (fun d h=>clQ C h F.aR [a] fun a h=>e2Q a fun a d=>clQ C h F.aR [c] fun c h=>e2Q c fun c e=>clQ C h F.eW [d,e] fun d h=>e3Q d fun d f g=>nzQ g (q (.tup [(.d (.str [])),(.d (.str [])),g]) h) (bnd (biB .neq a c) fun g=>gqQ g true h f fun i h=>gbQ g true h (biS .neq i (.d (.str [48]))) fun i h=>bpQ g i (B false) fun g=>jn (fun d h=>bnd (biB .neq a c) fun a=>clQ C h F.cF [a,ge d 0] fun a h=>clQ C h F.cF [c,ge d 1] fun c h=>q (.tup [a,c,I 0]) h) fun a=>cnd g (clQ C h F.ii [d,(.d (.str [49]))] fun c h=>clQ C h F.jg [e,f] fun d h=>e2Q d fun d e=>a [c,d] h) (a [d,f] h))) fun a=>cnd e (clQ C h F.bC [c,I 18] fun c h=>e2Q c fun c e=>cnd e (bIQ .quo d c fun a=>bIQ .rem d c fun d=>bIQ .neq d (I 0) fun e=>gqQ e true h d fun f h=>gbQ e true h (biI .lss f (I 0)) fun f h=>gqQ e true h c fun g h=>gbQ e true h (biI .lss g (I 0)) fun g h=>gbQ e true h (biB .neq f g) fun f h=>bpQ e f (B false) fun e=>jn (fun a h=>clQ C h F.fG [ge a 0] fun c h=>clQ C h F.fG [ge a 1] fun a h=>q (.tup [c,a,I 0]) h) fun f=>cnd e (bIQ .sub a (I 1) fun a=>bIQ .add d c fun c=>f [a,c] h) (f [a,d] h)) (a [] h)) (a [] h))
def sJ:Ann:=(df (nBQ (df (.n (.j [] [0,1]) (df (nCQ (aD (nCQ (aD (nJQ [11,12] [])))))) .o)) (RO (nCQ (aD (nJQ [17,18] [13,15]))))))
theorem D3(C:CC)(t0:V)(t1:V)(q:kkQ):fnD Y C Tryz.f90 0 sJ [t0,t1] q=cC C t0 t1 q:=by kernel_rfl
theorem D1:okB Tryz.prog Tryz.f90 sJ=true:=bb
theorem D2(h:cC (CX Y) t0 t1 (out v)):CP Y F.cC [t0,t1] v:=
 CP.of (fn:=Tryz.f90) (m:=0) (a:=sJ) rfl (fun _=>rfl) Tryz.func90 D1 (by rw[D3];exact h)
def qb(C:CC)(a c:V)(q:kQ):Prop:=let h:Hp:=[]
 clQ C h F.ij [a] fun a h=>clQ C h F.ij [c] fun c h=>clQ C h F.pi [a,c] q
theorem Kh(h:qb (CX Y) t0 t1 (out v)):CP Y F.qb [t0,t1] v:=CPo 0 .o Tryz.func98 h
def lJ(C:CC)(a c:V)(q:kQ):Prop:=let h:Hp:=[]
 cIQ .lss c (I 0) (q (.tup [(.d (.str [])),I 3]) h) (clQ C h F.aR [a] fun a h=>e2Q a fun a d=>bnd (nS d) fun e=>bIQ .quo (I 4000) e fun e=>cIQ .gtr c e (q (.tup [(.d (.str [])),I 4]) h) (clQ C h F.d9 [d,c] fun d h=>e2Q d fun d e=>nzQ e (q (.tup [(.d (.str [])),e]) h) (gqQ a true h c fun c h=>gbQ a true h (biI .rem c (I 2)) fun c h=>gbQ a true h (biI .eql c (I 1)) fun c h=>bpQ a c (B false) fun a=>clQ C h F.cF [a,d] fun a h=>q (.tup [a,I 0]) h)))
theorem F9(h:lJ (CX Y) t0 t1 (out v)):CP Y F.lJ [t0,t1] v:=CPo 0 .o Tryz.func152 h
def pi(C:CC)(a c:V)(q:kQ):Prop:=let h:Hp:=[]
 bSQ .eql a (.d (.str [48])) fun d=>gqQ d false h c fun e h=>gbQ d false h (biS .eql e (.d (.str [48]))) fun e h=>bpQ d (B true) e fun d=>cnd d (q (.d (.str [48])) h) (clQ C h F.nj [a,c] fun d h=>clQ C h F.eW [a,d] fun a h=>e3Q a fun a d e=>nzQ e (q (.d (.str [])) h) (clQ C h F.ig [a,c] q))
theorem GK(h:pi (CX Y) t0 t1 (out v)):CP Y F.pi [t0,t1] v:=CPo 0 .o Tryz.func127 h
def C8(C:CC)(a c:V):aL:=fun l h q=>cIQ .lss (ge l 1) c (bxQ h 1 a (ge l 1) fun c=>b1Q h c fun c=>bIQ .mul c (.d (.int .u64 1000000000)) fun c=>bIQ .add (ge l 0) c fun c=>bIQ .and c (.d (.int .u64 4294967295)) fun d=>bxQ h 1 a (ge l 1) fun a=>stD h 1 a d fun _ h=>bIQ .shr c (.d (.int .u64 32)) fun a=>bIQ .add (ge l 1) (I 1) fun c=>q .normal [a,c] h) (q (.exit 2) [ge l 0] h)
def C9(C:CC)(a:V):aL:=fun l h q=>cIQ .geq (ge l 1) (I 0) (jn (fun a h=>bIQ .sub (ge l 1) (I 1) fun c=>q .normal [ge a 0,c] h) fun c=>bxQ h 1 a (ge l 1) fun a=>b1Q h a fun a=>blQ (ge l 0) fun d=>lp (C8 C (ge l 0) d) [] h [a,I 0] h (exK [((.exit 2),fun a h=>bIQ .gtr (ge a 0) (.d (.int .u64 0)) fun d=>jn (fun a h=>c [ge a 0] h) fun c=>cnd d (cR 1 [.int .u64 0] [(0,(ge a 0))] h fun a h=>apV false 1 1 8 (ge l 0) a h fun a h=>c [a] h) (c [ge l 0] h))])) (q (.exit 0) [ge l 0] h)
def kf(C:CC)(a:V)(q:kQ):Prop:=let h:Hp:=.replicate 2 nnQ
 clQ C h F.jh [a] fun c h=>e2Q c fun c d=>cnd d (clQ C h F.eY [c] q) (ciQ C h F.cW [a] 0 fun a h=>blQ a fun c=>bIQ .sub c (I 1) fun c=>lp (C9 C a) [] h [nSQ,c] h (exK [((.exit 0),fun a h=>blQ (ge a 0) fun c=>bIQ .sub c (I 1) fun c=>bIQ .mul (I 32) c fun c=>blQ (ge a 0) fun d=>bIQ .sub d (I 1) fun d=>bxQ h 1 (ge a 0) d fun a=>b1Q h a fun a=>clQ C h F.eY [a] fun a h=>bIQ .add c a fun a=>q a h)]))
theorem xu(h:kf (CX Y) t0 (out v)):CP Y F.kf [t0] v:=CPo 2 (yu (nBQ (nRQ [.inl 0]) (nCQ (aD (nCQ (.n (.l [5,7] [6] [((.exit 0),[5],[])] []) (aD (nCQ (.n (.j [5] [6,7]) (aD (nBQ (aD (nCQ (.n (.l [8,33] [5,6,7,32] [((.exit 2),[8],[5,6,7])] []) .o .o))) (aD (.n (.j [5] [6,7]) (nRQ [.o,.slot 1]) .o)))) .o))) .o)))))) Tryz.func139 h
def lv(C:CC):aL:=fun l h q=>cIQ .gtr (ge l 2) (I 0) (jn (fun a h=>bIQ .shr (ge l 2) (.d (.int .u64 1)) fun c=>q .normal [ge a 0,ge a 1,c] h) fun a=>bIQ .and (ge l 2) (I 1) fun c=>bIQ .eql c (I 1) fun c=>jn (fun c h=>bIQ .gtr (ge l 2) (I 1) fun d=>jn (fun d h=>a [ge c 0,ge d 0] h) fun a=>cnd d (ciQ C h F.bw [ge l 1,ge l 1] 2 fun c h=>a [c] h) (a [ge l 1] h)) fun a=>cnd c (ciQ C h F.bw [ge l 0,ge l 1] 1 fun c h=>a [c] h) (a [ge l 0] h)) (q (.exit 1) [ge l 0] h)
def d9(C:CC)(a c:V)(q:kQ):Prop:=let h:Hp:=.replicate 3 nnQ
 cIQ .lss c (I 0) (q (.tup [(.d (.str [])),I 3]) h) (bIQ .eql c (I 0) fun d=>gqQ d false h a fun e h=>gbQ d false h (biS .eql e (.d (.str [49]))) fun e h=>bpQ d (B true) e fun d=>cnd d (q (.tup [(.d (.str [49])),I 0]) h) (bSQ .eql a (.d (.str [48])) fun d=>cnd d (q (.tup [(.d (.str [48])),I 0]) h) (clQ C h F.kf [a] fun d h=>bIQ .sub d (I 1) fun d=>bIQ .quo (I 66439) d fun d=>cIQ .gtr c d (q (.tup [(.d (.str [])),I 4]) h) (cR 1 [.int .u64 0] [(0,(.d (.int .u64 1)))] h fun d h=>ciQ C h F.cW [a] 0 fun a h=>lp (lv C) [] h [d,a,c] h (exK [((.exit 1),fun a h=>clQ C h F.aP [ge a 0] fun a h=>bnd (nS a) fun c=>cIQ .gtr c (I 20000) (q (.tup [(.d (.str [])),I 4]) h) (q (.tup [a,I 0]) h))])))))
def rC:Ann:=(yu (nBQ (nRQ [.o,.inl 0]) (nCQ (nCQ (.n (.l [7,8,1] [] [((.exit 1),[7],[])] []) (aD (nCQ (.n (.j [7,8] [1]) (nBQ (aD (.n (.j [7] [1,8]) (nRQ [.inl 1]) .o)) (aD (.n (.j [8] [1,7]) (nRQ [.inl 2]) .o))) .o))) .o)))))
attribute [local irreducible] bnd gd cal cnd ext cR rq stD alV alD cQ jn lp exK mkS apV cai rj in
theorem C6(C:CC)(t0:V)(t1:V)(q:kkQ):fnD Y C Tryz.f115 3 rC [t0,t1] q=d9 C t0 t1 q:=Pn
theorem C5:okB Tryz.prog Tryz.f115 rC=true:=bb
theorem vT(h:d9 (CX Y) t0 t1 (out v)):CP Y F.d9 [t0,t1] v:=
 CP.of (fn:=Tryz.f115) (m:=3) (a:=rC) rfl (fun _=>rfl) Tryz.func115 C5 (by rw[C6];exact h)
def gF(C:CC)(a:V)(q:kQ):Prop:=let h:Hp:=[]
 bnd (nS a) fun c=>cIQ .gtr c (I 9) (q (.tup [I 0,B false]) h) (clQ C h F.strconv_Atoi [a] fun a h=>e2Q a fun a c=>bnd (biF .eql c (.d (.pl .nilIface))) fun c=>q (.tup [a,c]) h)
theorem Az(h:gF (CX Y) t0 (out v)):CP Y F.gF [t0] v:=CPo 0 .o Tryz.func87 h
def eQ(C:CC)(a:V)(q:kQ):Prop:=let h:Hp:=.replicate 1 nnQ
 cQ 0 a h fun a h=>bfQ 0 a fun c=>b1Q h c fun c=>clQ C h F.gF [c] fun c h=>e2Q c fun c d=>bfQ 1 a fun a=>b1Q h a fun a=>clQ C h F.gF [a] fun a h=>e2Q a fun a e=>gqQ d true h e fun e h=>bpQ d e (B false) fun d=>q (.tup [c,a,d]) h
theorem CY(h:eQ (CX Y) t0 (out v)):CP Y F.eQ [t0] v:=CPo 1 (nCQ (nRQ [.slot 0])) Tryz.func56 h
def m9(C:CC):aL:=fun l h q=>cIQ .neq (ge l 1) (I 0) (bIQ .rem (ge l 0) (ge l 1) fun a=>q .normal [ge l 1,a] h) (q (.exit 0) [ge l 0] h)
def je(C:CC)(a c:V)(q:kQ):Prop:=let h:Hp:=.replicate 1 nnQ
 alV 0 [.d (.str []),.d (.str [])] h fun d h=>lp (m9 C) [] h [a,c] h (exK [((.exit 0),fun e h=>bIQ .lss (ge e 0) (I 0) fun f=>jn (fun e h=>bIQ .quo a (ge e 0) fun a=>clQ C h F.strconv_Itoa [a] fun a h=>bIQ .quo c (ge e 0) fun c=>clQ C h F.strconv_Itoa [c] fun c h=>bnd (bld [(0,1),(1,1)] [.str [],.str []] [(0,a),(1,c)]) fun a=>stD h 2 d a fun _ h=>bnd (ldA h 2 d) fun a=>q a h) fun a=>cnd f (bnd (unV .neg (ge e 0)) fun c=>a [c] h) (a [ge e 0] h))])
theorem Gv(h:je (CX Y) t0 t1 (out v)):CP Y F.je [t0,t1] v:=CPo 1 (nBQ (nRQ [.slot 0]) (aD (nBQ (nCQ (.n (.l [5,6] [0,1,4] [((.exit 0),[5],[0,1,4])] []) .o .o)) (nCQ (aD (nJQ [5] [0,1,4])))))) Tryz.func57 h
def bU(C:CC)(a c:V)(q:kQ):Prop:=let h:Hp:=.replicate 1 nnQ
 alV 0 [.d (.str []),.d (.str [])] h fun d h=>clQ C h F.dE [c] fun e h=>bIQ .lss e (I 0) fun e=>jn (fun a h=>clQ C h F.oU [ge a 0,ge a 1] fun c h=>bSQ .neq c (.d (.str [49])) fun e=>jn (fun a h=>bnd (bld [(0,1),(1,1)] [.str [],.str []] [(0,(ge a 0)),(1,(ge a 1))]) fun a=>stD h 2 d a fun _ h=>bnd (ldA h 2 d) fun a=>q a h) fun d=>cnd e (clQ C h F.cC [ge a 0,c] fun e h=>e3Q e fun e f g=>clQ C h F.cC [ge a 1,c] fun a h=>e3Q a fun a c f=>d [e,a] h) (d [ge a 0,ge a 1] h)) fun d=>cnd e (clQ C h F.qa [a] fun a h=>clQ C h F.qa [c] fun c h=>d [a,c] h) (d [a,c] h)
theorem Ay(h:bU (CX Y) t0 t1 (out v)):CP Y F.bU [t0,t1] v:=CPo 1 (nBQ (nRQ [.slot 0]) (nBQ (aD (nJQ [0,1] [4])) (nCQ (df (nJQ [0,1] [4]))))) Tryz.func58 h
def fS(C:CC)(a c:V)(q:kQ):Prop:=let h:Hp:=.replicate 3 nnQ
 cQ 0 a h fun a h=>cQ 1 c h fun c h=>alV 2 [.d (.str []),.d (.str [])] h fun d h=>bfQ 1 a fun e=>b1Q h e fun e=>bSQ .eql e (.d (.str [49])) fun e=>gbQ e true h (faV 1 c) fun f h=>gbQ e true h (ld1 h f) fun f h=>gbQ e true h (biS .eql f (.d (.str [49]))) fun f h=>bpQ e f (B false) fun e=>cnd e (bfQ 0 a fun a=>b1Q h a fun a=>bfQ 0 c fun c=>b1Q h c fun c=>clQ C h F.dp [a,c] fun a h=>bnd (bld [(0,1),(1,1)] [.str [],.str []] [(0,a),(1,(.d (.str [49])))]) fun a=>stD h 2 d a fun _ h=>bnd (ldA h 2 d) fun a=>q a h) (bnd (ldA h 2 a) fun e=>clQ C h F.eQ [e] fun e h=>e3Q e fun e f g=>jn (fun e h=>bfQ 0 a fun e=>b1Q h e fun e=>bfQ 1 c fun f=>b1Q h f fun f=>clQ C h F.bq [e,f] fun e h=>bfQ 0 c fun f=>b1Q h f fun f=>bfQ 1 a fun g=>b1Q h g fun g=>clQ C h F.bq [f,g] fun f h=>clQ C h F.dp [e,f] fun e h=>bfQ 1 a fun a=>b1Q h a fun a=>bfQ 1 c fun c=>b1Q h c fun c=>clQ C h F.bq [a,c] fun a h=>clQ C h F.bU [e,a] fun a h=>stD h 2 d a fun _ h=>bnd (ldA h 2 d) fun a=>q a h) fun a=>cnd g (bnd (ldA h 2 c) fun c=>clQ C h F.eQ [c] fun c h=>e3Q c fun c g i=>cnd i (bIQ .mul e g fun a=>bIQ .mul c f fun c=>bIQ .add a c fun a=>bIQ .mul f g fun c=>clQ C h F.je [a,c] fun a h=>stD h 2 d a fun _ h=>bnd (ldA h 2 d) fun a=>q a h) (a [] h)) (a [] h))
def tn:Ann:=(nBQ (nRQ [.slot 0,.slot 1,.slot 2]) (aD (nCQ (df (nJQ [] [2,3,4])))))
theorem Fq(C:CC)(t0:V)(t1:V)(q:kkQ):fnD Y C Tryz.f32 3 tn [t0,t1] q=fS C t0 t1 q:=by kernel_rfl
theorem Fo:okB Tryz.prog Tryz.f32 tn=true:=bb
theorem Fp(h:fS (CX Y) t0 t1 (out v)):CP Y F.fS [t0,t1] v:=
 CP.of (fn:=Tryz.f32) (m:=3) (a:=tn) rfl (fun _=>rfl) Tryz.func32 Fo (by rw[Fq];exact h)
def j9(C:CC)(a c:V)(q:kQ):Prop:=let h:Hp:=.replicate 3 nnQ
 cQ 0 a h fun a h=>cQ 1 c h fun c h=>alV 2 [.d (.str []),.d (.str [])] h fun d h=>bnd (ldA h 2 a) fun e=>clQ C h F.eQ [e] fun e h=>e3Q e fun e f g=>jn (fun e h=>bfQ 0 a fun e=>b1Q h e fun e=>bfQ 0 c fun f=>b1Q h f fun f=>clQ C h F.bq [e,f] fun e h=>bfQ 1 a fun a=>b1Q h a fun a=>bfQ 1 c fun c=>b1Q h c fun c=>clQ C h F.bq [a,c] fun a h=>clQ C h F.bU [e,a] fun a h=>stD h 2 d a fun _ h=>bnd (ldA h 2 d) fun a=>q a h) fun a=>cnd g (bnd (ldA h 2 c) fun c=>clQ C h F.eQ [c] fun c h=>e3Q c fun c g i=>cnd i (bIQ .mul e c fun a=>bIQ .mul f g fun c=>clQ C h F.je [a,c] fun a h=>stD h 2 d a fun _ h=>bnd (ldA h 2 d) fun a=>q a h) (a [] h)) (a [] h)
theorem Fl(h:j9 (CX Y) t0 t1 (out v)):CP Y F.j9 [t0,t1] v:=CPo 3 (nBQ (nRQ [.slot 0,.slot 1,.slot 2]) (nCQ (df (nJQ [] [2,3,4])))) Tryz.func31 h
def mH(C:CC)(a:V)(q:kQ):Prop:=let h:Hp:=.replicate 1 nnQ
 cQ 0 a h fun a h=>bfQ 0 a fun a=>b1Q h a fun a=>clQ C h F.dE [a] q
theorem CZ(h:mH (CX Y) t0 (out v)):CP Y F.mH [t0] v:=CPo 1 (nCQ (nRQ [.slot 0])) Tryz.func47 h
def nI(C:CC)(a c:V)(q:kQ):Prop:=let h:Hp:=.replicate 1 nnQ
 alV 0 [.d (.str []),.d (.str [])] h fun d h=>clQ C h F.dE [c] fun e h=>cIQ .eql e (I 0) (bnd (bld [(0,1),(1,1)] [.str [],.str []] []) fun a=>stD h 2 d a fun _ h=>bnd (ldA h 2 d) fun a=>q (.tup [a,I 17]) h) (clQ C h F.bU [a,c] fun a h=>stD h 2 d a fun _ h=>bnd (ldA h 2 d) fun a=>q (.tup [a,I 0]) h)
theorem Fj(h:nI (CX Y) t0 t1 (out v)):CP Y F.nI [t0,t1] v:=CPo 1 (nCQ (nRQ [.slot 0])) Tryz.func72 h
def j8(C:CC)(a c:V)(q:kQ):Prop:=let h:Hp:=.replicate 1 nnQ
 alV 0 [.d (.str []),.d (.str [])] h fun d h=>clQ C h F.fG [a] fun a h=>clQ C h F.fG [c] fun c h=>clQ C h F.nI [a,c] fun a h=>e2Q a fun a c=>stD h 2 d a fun _ h=>bnd (ldA h 2 d) fun a=>q (.tup [a,c]) h
theorem Gw(h:j8 (CX Y) t0 t1 (out v)):CP Y F.j8 [t0,t1] v:=CPo 1 (nCQ (nRQ [.slot 0])) Tryz.func41 h
def oj(C:CC)(a c d:V):aL:=fun l h q=>cIQ .lss (ge l 0) d (bxQ h 2 c (ge l 0) fun c=>bnd (ldA h 2 c) fun c=>alV 2 [.d (.str []),.d (.str [])] h fun d h=>stD h 2 d c fun _ h=>bfQ 2 a fun c=>b1Q h c fun c=>bfQ 1 d fun d=>b1Q h d fun d=>clQ C h F.qb [c,d] fun c h=>bfQ 2 a fun a=>stD h 1 a c fun _ h=>bIQ .add (ge l 0) (I 1) fun a=>q .normal [a] h) (q (.exit 0) [] h)
def mq(C:CC)(a c d e:V):aL:=fun l h q=>cIQ .lss (ge l 0) e (jn (fun a h=>bIQ .add (ge l 0) (I 1) fun a=>q .normal [a] h) fun e=>bxQ h 2 d (ge l 0) fun d=>bnd (ldA h 2 d) fun d=>alV 3 [.d (.str []),.d (.str [])] h fun f h=>stD h 2 f d fun _ h=>bfQ 0 f fun d=>b1Q h d fun d=>bSQ .neq d (.d (.str [48])) fun d=>jn (fun a h=>e [] h) fun e=>cnd d (bfQ 2 c fun d=>b1Q h d fun d=>bfQ 1 f fun g=>b1Q h g fun g=>clQ C h F.cC [d,g] fun d h=>e3Q d fun d g i=>bfQ 0 c fun g=>sm h c g<|b1Q h g fun g=>bxQ h 1 a (ge l 0) fun a=>b1Q h a fun a=>cR 1 [.int .i64 0] [(0,a)] h fun a h=>sp h g [c,f]<|apV false 4 1 8 g a h fun a h=>bfQ 1 c fun g=>sm h c g<|b1Q h g fun g=>bfQ 0 f fun i=>sm h f i<|b1Q h i fun f=>clQ C h F.bq [f,d] fun d h=>cR 1 [.str []] [(0,d)] h fun d h=>apV false 5 1 16 g d h fun d h=>bfQ 0 c fun f=>stD h 1 f a fun _ h=>bfQ 1 c fun a=>stD h 1 a d fun _ h=>e [] h) (e [] h)) (q (.exit 2) [] h)
def jL(C:CC)(a c:V)(q:kQ):Prop:=let h:Hp:=.replicate 6 nnQ
 alV 0 [.d nPQ,.d nPQ,.d (.str [])] h fun d h=>bnd (bld [(0,1),(1,1),(2,1)] [nPQ,nPQ,.str []] [(2,(.d (.str [49])))]) fun e=>alV 1 [.d nPQ,.d nPQ,.d (.str [])] h fun f h=>stD h 3 f e fun _ h=>blQ c fun e=>lp (oj C f c e) [2] h [I 0] h (exK [((.exit 0),fun e h=>blQ c fun e=>lp (mq C a f c e) [3] h [I 0] h (exK [((.exit 2),fun a h=>bnd (ldA h 3 f) fun a=>stD h 3 d a fun _ h=>bnd (ldA h 3 d) fun a=>q a h)]))])
def sV:Ann:=(nBQ (nRQ [.slot 0]) (nBQ (nRQ [.slot 1]) (nBQ (aD (nCQ (.n (.l [16] [0,1,4,5,14,15] [((.exit 0),[],[0,1,4,5])] [2]) (df (nCQ (nCQ (nCQ (nRQ [.slot 2]))))) .o))) (nCQ (aD (nCQ (.n (.l [29] [0,4,5,27,28] [((.exit 2),[],[4,5])] [3]) (df (nCQ (.n (.j [] [0,4,5,27,28,29]) (nBQ (nRQ [.slot 3]) (aD (.n (.j [] [0,4,5,27,28,29]) (aD (nRQ [.o,.slot 4,.o,.o,.slot 5])) .o))) .o))) .o)))))))
theorem Ep(C:CC)(t0:V)(t1:V)(q:kkQ):fnD Y C Tryz.f64 6 sV [t0,t1] q=jL C t0 t1 q:=by kernel_rfl
theorem En:okB Tryz.prog Tryz.f64 sV=true:=bb
theorem Eo(h:jL (CX Y) t0 t1 (out v)):CP Y F.jL [t0,t1] v:=
 CP.of (fn:=Tryz.f64) (m:=6) (a:=sV) rfl (fun _=>rfl) Tryz.func64 En (by rw[Ep];exact h)
def fJ(C:CC)(a:V)(q:kQ):Prop:=let h:Hp:=.replicate 1 nnQ
 cQ 0 a h fun a h=>q (.fn F.dK [] [a]) h
theorem Bm(h:fJ (CX Y) t0 (out v)):CP Y F.fJ [t0] v:=CPo 1 (nCQ (nRQ [.slot 0])) Tryz.func129 h
def lX(C:CC)(a c d:V):CH:=fun l h q=>
 b1Q h a fun a=>
 clQ C h F.sW [ge l 0,a] fun a h=>
 bIQ .neq (ge l 0) (I 2) fun e=>
 jn (fun e h=>
 clQ C h F.bq [a,ge l 1] fun a h=>
 clQ C h F.bq [ge e 0,ge l 1] fun e h=>
 clQ C h F.dE [ge l 1] fun f h=>
 bIQ .lss f (I 0) fun f=>
 jn (fun a h=>
 b1Q h c fun e=>
 clQ C h F.dp [e,ge a 0] fun e h=>
 b1Q h d fun f=>
 clQ C h F.dp [f,ge a 1] fun a h=>
 stD h 1 c e fun _ h=>
 stD h 1 d a fun _ h=>
 q .normal h) fun c=>
 cnd f (
 c [e,a] h) (
 c [a,e] h)) fun c=>
 cnd e (
 clQ C h F.dp [a,(.d (.str [49]))] fun a h=>
 c [a] h) (
 c [a] h)
def iI(C:CC)(a c:V)(q:kQ):Prop:=let h:Hp:=.replicate 4 nnQ
 cQ 0 a h fun a h=>cQ 1 c h fun c h=>alV 2 [.d (.str [])] h fun d h=>alV 3 [.d (.str [])] h fun e h=>stD h 1 d (.d (.str [48])) fun _ h=>stD h 1 e (.d (.str [48])) fun _ h=>bnd (ldA h 3 a) fun a=>clQ C h F.fJ [a] fun a h=>rgO (sqV Y.seq a) 2 (lX C c d e) [] h (fun ex h=>exK [(.normal,fun _ h=>b1Q h d fun a=>b1Q h e fun c=>sp h d [e]<|stD h 1 d a fun _ h=>stD h 1 e c fun _ h=>b1Q h d fun a=>b1Q h e fun c=>q (.tup [a,c]) h)] ex [] h)
theorem zP(h:iI (CX Y) t0 t1 (out v)):CP Y F.iI [t0,t1] v:=CPo 4 (nBQ (nRQ [.slot 0,.slot 1,.slot 2,.slot 3]) (aD (nCQ (aD (nCQ (.n (.l [] [3,4,5] [(.normal,[],[4,5])] []) .o (nCQ (df (nBQ (aD (nJQ [9] [4,5,7,8])) (aD (nCQ (aD (nJQ [8,9] [4,5]))))))))))))) Tryz.func100 h
def dW(C:CC)(a c d e:V):CH:=fun l h q=>
 clQ C h F.oT [ge l 1] fun f h=>
 ext f 0 fun g=>
 ext f 1 fun f=>
 bnd (unV .not f) fun f=>
 gqQ f false h g fun i h=>
 gbQ f false h (ld1 h a) fun j h=>
 gbQ f false h (biI .gtr i j) fun i h=>
 bpQ f (B true) i fun f=>
 gqQ f false h g fun i h=>
 gbQ f false h (ld1 h a) fun a h=>
 gbQ f false h (unV .neg a) fun a h=>
 gbQ f false h (biI .lss i a) fun a h=>
 bpQ f (B true) a fun a=>
 cnd a (
 stD h 1 c (I 0) fun _ h=>
 stD h 1 d (I 0) fun _ h=>
 stD h 1 e (B false) fun _ h=>
 q .ret h) (
 clQ C h F.sf [ge l 0] fun a h=>
 ext a 0 fun f=>
 ext a 1 fun a=>
 bnd (unV .not a) fun a=>
 cnd a (
 stD h 1 c (I 0) fun _ h=>
 stD h 1 d (I 0) fun _ h=>
 stD h 1 e (B false) fun _ h=>
 q .ret h) (
 bIQ .add f (I 1) fun a=>
 bIQ .eql (ge l 0) (I 2) fun e=>
 jn (fun a h=>
 b1Q h c fun e=>
 bIQ .mul g f fun i=>
 bIQ .mul g (ge a 0) fun j=>
 bnd (mxI false [i,j]) fun i=>
 bIQ .add e i fun e=>
 b1Q h d fun i=>
 bIQ .mul g f fun f=>
 bIQ .mul g (ge a 0) fun a=>
 bnd (mxI true [f,a]) fun a=>
 bIQ .add i a fun a=>
 sp h c [d]<|stD h 1 c e fun _ h=>
 stD h 1 d a fun _ h=>
 q .normal h) fun c=>
 cnd e (
 c [f] h) (
 c [a] h)))
def gy(C:CC)(a c:V)(q:kQ):Prop:=let h:Hp:=.replicate 5 nnQ
 cQ 0 a h fun a h=>cQ 1 c h fun c h=>alV 2 [.d (.int .i64 0)] h fun d h=>alV 3 [.d (.int .i64 0)] h fun e h=>alV 4 [.d (.bool false)] h fun f h=>bnd (ldA h 3 a) fun a=>clQ C h F.fJ [a] fun a h=>rgO (sqV Y.seq a) 2 (dW C c d e f) [] h (fun ex h=>exK [(.ret,fun _ h=>b1Q h d fun a=>b1Q h e fun c=>b1Q h f fun d=>q (.tup [a,c,d]) h),(.normal,fun _ h=>b1Q h d fun a=>b1Q h e fun c=>sp h d [e]<|stD h 1 d a fun _ h=>stD h 1 e c fun _ h=>stD h 1 f (B true) fun _ h=>b1Q h d fun a=>b1Q h e fun c=>b1Q h f fun d=>q (.tup [a,c,d]) h)] ex [] h)
def px:Ann:=(nBQ (nRQ [.slot 0,.slot 1,.slot 2,.slot 3,.slot 4]) (nCQ (aD (nCQ (.n (.l [] [3,4,5,6] [(.ret,[],[4,5,6]),(.normal,[],[4,5,6])] []) .o (nCQ (UT (nCQ (aD (nJQ [13] [4,5,9,11]))))))))))
theorem zO(C:CC)(t0:V)(t1:V)(q:kkQ):fnD Y C Tryz.f128 5 px [t0,t1] q=gy C t0 t1 q:=by kernel_rfl
theorem zM:okB Tryz.prog Tryz.f128 px=true:=bb
theorem zN(h:gy (CX Y) t0 t1 (out v)):CP Y F.gy [t0,t1] v:=
 CP.of (fn:=Tryz.f128) (m:=5) (a:=px) rfl (fun _=>rfl) Tryz.func128 zM (by rw[zO];exact h)
def gP(C:CC)(a:V)(q:kQ):Prop:=let h:Hp:=.replicate 1 nnQ
 cQ 0 a h fun a h=>bnd (ldA h 3 a) fun a=>clQ C h F.gy [a,I 10000000] fun a h=>e3Q a fun a c d=>bnd (unV .not d) fun d=>cnd d (q (I 0) h) (cIQ .geq a (I 0) (q (I 1) h) (cIQ .leq c (I 0) (q (I (-1)) h) (q (I 0) h)))
theorem yI(h:gP (CX Y) t0 (out v)):CP Y F.gP [t0] v:=CPo 1 (nCQ (nRQ [.slot 0])) Tryz.func99 h
def oB(C:CC)(a:V):aL:=fun l h q=>bnd (ldA h 3 a) fun a=>clQ C h F.iI [a,ge l 0] fun a h=>e2Q a fun a c=>clQ C h F.dE [a] fun a h=>cIQ .geq a (I 0) (q .ret [I 1] h) (clQ C h F.dE [c] fun a h=>cIQ .leq a (I 0) (q .ret [I (-1)] h) (bIQ .mul (ge l 0) (I 2) fun a=>q .normal [a] h))
def eX(C:CC)(a:V)(q:kQ):Prop:=let h:Hp:=.replicate 1 nnQ
 cQ 0 a h fun a h=>bfQ 0 a fun c=>b1Q h c fun c=>blQ c fun c=>cIQ .eql c (I 0) (q (I 0) h) (bnd (ldA h 3 a) fun c=>clQ C h F.gP [c] fun c h=>nzQ c (q c h) (lp (oB C a) [] h [I 64] h (exK [(.ret,fun a h=>q (ge a 0) h)])))
theorem zL(h:eX (CX Y) t0 (out v)):CP Y F.eX [t0] v:=CPo 1 (nBQ (nRQ [.slot 0]) (nCQ (RO (nCQ (.n (.l [4] [1] [(.ret,[2],[])] []) .o .o))))) Tryz.func67 h
def rL(C:CC):aL:=fun l h q=>cIQ .lss (ge l 3) (I 26) (jn (fun a h=>bIQ .add (ge l 3) (I 1) fun c=>q .normal [ge a 0,ge a 1,ge a 2,c] h) fun a=>clQ C h F.gC [ge l 0,ge l 0] fun c h=>e2Q c fun c d=>bIQ .shl c (.d (.int .u64 2)) fun c=>bIQ .shr d (.d (.int .u64 62)) fun d=>bIQ .or c d fun c=>clQ C h F.gC [ge l 1,ge l 1] fun d h=>e2Q d fun d e=>bIQ .shl d (.d (.int .u64 2)) fun d=>bIQ .shr e (.d (.int .u64 62)) fun e=>bIQ .or d e fun d=>bIQ .add d (.d (.int .u64 1)) fun d=>bIQ .mul (ge l 2) (I 2) fun e=>bIQ .geq c (.d (.int .u64 9223372036854775808)) fun f=>jn (fun c h=>a [ge c 1,ge c 2,ge c 0] h) fun a=>cnd f (bIQ .add e (I 1) fun e=>bIQ .shr c (.d (.int .u64 1)) fun c=>bIQ .shr d (.d (.int .u64 1)) fun d=>bIQ .add d (.d (.int .u64 1)) fun d=>a [e,c,d] h) (cIQ .geq d (.d (.int .u64 9223372036854775808)) (q .ret [I 0,B false] h) (a [e,c,d] h))) (q (.exit 0) [ge l 2] h)
def sf(C:CC)(a:V)(q:kQ):Prop:=let h:Hp:=[]
 bnd (cvI .u64 a) fun c=>clQ C h F.ku [c] fun c h=>bIQ .sub c (I 1) fun c=>bnd (cvI .u64 a) fun a=>bIQ .sub (I 62) c fun d=>bIQ .shl a d fun a=>lp (rL C) [] h [a,a,c,I 0] h (exK [((.exit 0),fun a h=>q (.tup [ge a 0,B true]) h),(.ret,fun a h=>q (.tup [ge a 0,ge a 1]) h)])
theorem KS(h:sf (CX Y) t0 (out v)):CP Y F.sf [t0] v:=CPo 0 (UT (nCQ (aD (nCQ (.n (.l [5,6,7,21] [] [((.exit 0),[7],[]),(.ret,[2,3],[])] []) (df (nCQ (.n (.j [5,6,7] [21]) (afQ (nJQ [7,5,6] [21])) .o))) .o))))) Tryz.func150 h
def Cq(C:CC)(a c:V):aL:=fun l h q=>clQ C h F.size_digits [a,c,ge l 0] fun a h=>e2Q a fun a c=>cnd c (q .ret [a] h) (bIQ .mul (ge l 0) (I 2) fun a=>q .normal [a] h)
def sW(C:CC)(a c:V)(q:kQ):Prop:=let h:Hp:=[]
 cIQ .eql a (I 2) (clQ C h F.lJ [(.d (.str [50])),c] fun a h=>e2Q a fun a c=>q a h) (bIQ .add c (I 64) fun d=>lp (Cq C a c) [] h [d] h (exK [(.ret,fun a h=>q (ge a 0) h)]))
theorem NH(h:sW (CX Y) t0 t1 (out v)):CP Y F.sW [t0,t1] v:=CPo 0 (yu (nCQ (.n (.l [7] [0,1] [(.ret,[4],[])] []) .o .o))) Tryz.func130 h
def py(C:CC)(a c d:V):aL:=fun l h q=>cIQ .lss (ge l 3) d (jn (fun a h=>bIQ .add (ge l 3) (I 1) fun c=>q .normal [ge a 0,ge a 1,ge a 2,c] h) fun d=>clQ C h F.bq [ge l 0,ge l 0] fun e h=>clQ C h F.cC [e,a] fun e h=>e3Q e fun e f g=>clQ C h F.bq [ge l 1,ge l 1] fun f h=>clQ C h F.cC [f,a] fun a h=>e3Q a fun a f g=>clQ C h F.dp [a,(.d (.str [49]))] fun a h=>clQ C h F.dp [ge l 2,ge l 2] fun f h=>jn (fun a h=>d [ge a 1,ge a 2,ge a 0] h) fun d=>clQ C h F.km [e,c] fun g h=>bIQ .geq g (I 0) fun g=>jn (fun a h=>d [ge a 0,ge a 1,ge a 2] h) fun d=>cnd g (clQ C h F.dp [f,(.d (.str [49]))] fun c h=>clQ C h F.cC [e,(.d (.str [50]))] fun e h=>e3Q e fun e f g=>clQ C h F.cC [a,(.d (.str [50]))] fun a h=>e3Q a fun a f g=>clQ C h F.dp [a,(.d (.str [49]))] fun a h=>d [c,e,a] h) (clQ C h F.km [a,c] fun c h=>cIQ .geq c (I 0) (q .ret [(.d (.str [])),B false] h) (d [f,e,a] h))) (q (.exit 0) [ge l 2] h)
def size_digits(C:CC)(a c d:V)(q:kQ):Prop:=let h:Hp:=[]
 bnd (cvI .u64 a) fun e=>clQ C h F.ku [e] fun e h=>bIQ .sub e (I 1) fun e=>clQ C h F.lJ [(.d (.str [50])),d] fun f h=>e2Q f fun f g=>clQ C h F.dp [f,f] fun g h=>bIQ .sub d e fun d=>clQ C h F.lJ [(.d (.str [50])),d] fun d h=>e2Q d fun d i=>clQ C h F.fG [a] fun a h=>clQ C h F.bq [a,d] fun a h=>clQ C h F.fG [e] fun d h=>lp (py C f g c) [] h [a,a,d,I 0] h (exK [((.exit 0),fun a h=>q (.tup [ge a 0,B true]) h),(.ret,fun a h=>q (.tup [ge a 0,ge a 1]) h)])
theorem Gg(h:size_digits (CX Y) t0 t1 t2 (out v)):CP Y F.size_digits [t0,t1,t2] v:=CPo 0 (ah9 (aD (nCQ (aD (nCQ (.n (.l [14,15,16,50] [9,11,49] [((.exit 0),[16],[]),(.ret,[6,7],[])] []) (df (nCQ (.n (.j [14,15,16] [9,11,49,50]) (RO (.n (.j [16,14,15] [9,11,49,50]) (aD (nJQ [16,14,15] [9,11,49,50])) .o)) .o))) .o)))))) Tryz.func153 h
def bz(C:CC)(a c d:V):aL:=fun l h q=>cIQ .lss (ge l 0) d (bxQ h 2 a (ge l 0) fun a=>bnd (ldA h 2 a) fun a=>cal C.p h c [a] fun a h=>cnd a (q .ret [ge l 0] h) (bIQ .add (ge l 0) (I 1) fun a=>q .normal [a] h)) (q (.exit 0) [] h)
def aW(C:CC)(a c:V)(q:kQ):Prop:=let h:Hp:=[]
 blQ a fun d=>lp (bz C a c d) [] h [I 0] h (exK [((.exit 0),fun a h=>q (I (-1)) h),(.ret,fun a h=>q (ge a 0) h)])
theorem kU(h:aW (CX Y) t0 t1 (out v)):CP Y F.aW [t0,t1] v:=CPo 0 (aD (nCQ (aD (nCQ (.n (.l [8] [0,1,7] [((.exit 0),[],[]),(.ret,[4],[])] []) .o .o))))) Tryz.func136 h
def aI(C:CC)(a c:V)(q:kQ):Prop:=let h:Hp:=[]
 clQ C h F.aW [a,c] fun a h=>bIQ .geq a (I 0) fun a=>q a h
theorem jK(h:aI (CX Y) t0 t1 (out v)):CP Y F.aI [t0,t1] v:=CPo 0 .o Tryz.func112 h
def bT(C:CC)(a c d:V):aL:=fun l h q=>cIQ .lss (ge l 0) d (bxQ h 2 a (ge l 0) fun a=>bnd (ldA h 2 a) fun a=>cal C.p h c [a] fun a h=>cnd a (q .ret [ge l 0] h) (bIQ .add (ge l 0) (I 1) fun a=>q .normal [a] h)) (q (.exit 0) [] h)
def bu(C:CC)(a c:V)(q:kQ):Prop:=let h:Hp:=[]
 blQ a fun d=>lp (bT C a c d) [] h [I 0] h (exK [((.exit 0),fun a h=>q (I (-1)) h),(.ret,fun a h=>q (ge a 0) h)])
theorem mJ(h:bu (CX Y) t0 t1 (out v)):CP Y F.bu [t0,t1] v:=CPo 0 (aD (nCQ (aD (nCQ (.n (.l [8] [0,1,7] [((.exit 0),[],[]),(.ret,[4],[])] []) .o .o))))) Tryz.func157 h
def aO(C:CC)(a c:V)(q:kQ):Prop:=let h:Hp:=[]
 clQ C h F.bu [a,c] fun a h=>bIQ .geq a (I 0) fun a=>q a h
theorem lI(h:aO (CX Y) t0 t1 (out v)):CP Y F.aO [t0,t1] v:=CPo 0 .o Tryz.func137 h
def gA(C:CC)(a:V)(q:kQ):Prop:=let h:Hp:=.replicate 1 nnQ
 alV 0 [.d (.str []),.d (.str [])] h fun c h=>clQ C h F.fG [a] fun a h=>bnd (bld [(0,1),(1,1)] [.str [],.str []] [(0,a),(1,(.d (.str [49])))]) fun a=>stD h 2 c a fun _ h=>bnd (ldA h 2 c) fun a=>q a h
theorem Gf(h:gA (CX Y) t0 (out v)):CP Y F.gA [t0] v:=CPo 1 (nCQ (nRQ [.slot 0])) Tryz.func66 h
def rK(C:CC)(b:Nat)(a c:V):aL:=fun l h q=>cIQ .lss (ge l 0) c (clQ C h F.gA [I 0] fun c h=>bxQ h 2 a (ge l 0) fun a=>stD h 2 a c fun _ h=>bIQ .add (ge l 0) (I 1) fun a=>q .normal [a] h) (q (.exit 0) [] h)
def nu(C:CC)(b:Nat)(h:Hp)(a:V)(q:kQ):Prop:=let h:Hp:=h++List.replicate 1 nnQ
 mkS (b+0) 32 [.str [],.str []] h a a fun a h=>blQ a fun c=>lp (rK C b a c) [] h [I 0] h (exK [((.exit 0),fun c h=>q a h)])
def wM(b:Nat):Ann:=(.n .x .o (.n .x (.n (.r [.slot (b+0)]) .o .o) (.n .x (.n .x .o (.n .x (.n (.l [9] [3,8] [((.exit 0),[],[3])] []) .o .o) .o)) .o)))
theorem KR(C:CC)(h:Hp)(t0:V)(q:kkQ):fnI Y C Tryz.f83 1 wM [t0] h q=nu C h.length h t0 q:=by rfl
theorem KP(b:Nat):okB Tryz.prog Tryz.f83 (wM b)=true:=by rfl
theorem KQ(hh:nu (CX Y) h.length h t0 (qN h.length v h2)):CI Y F.nu [t0] h v h2:=
 CI.of (fn:=Tryz.f83) (m:=1) (a:=wM) rfl (fun _=>rfl) Tryz.func83 (KP _) (by rw[KR];exact hh)
def qF(C:CC)(a c d e f:V):aL:=fun l h q=>cIQ .lss (ge l 0) f (bxQ h 2 e (ge l 0) fun e=>bnd (ldA h 2 e) fun e=>alV 1 [.d (.str []),.d (.str [])] h fun f h=>stD h 2 f e fun _ h=>bxQ h 2 c (ge l 0) fun e=>bnd (ldA h 2 e) fun e=>bnd (ldA h 2 f) fun f=>bxQ h 2 a d fun a=>bnd (ldA h 2 a) fun a=>clQ C h F.j9 [f,a] fun a h=>clQ C h F.fS [e,a] fun a h=>bxQ h 2 c (ge l 0) fun c=>stD h 2 c a fun _ h=>bIQ .add (ge l 0) (I 1) fun a=>q .normal [a] h) (q (.exit 2) [] h)
def tK(C:CC)(a c d e:V):aL:=fun l h q=>cIQ .lss (ge l 0) e (bxQ h 1 d (ge l 0) fun d=>b1Q h d fun d=>blQ d fun e=>lp (qF C a c (ge l 0) d e) [1] h [I 0] h (exK [((.exit 2),fun a h=>bIQ .add (ge l 0) (I 1) fun a=>q .normal [a] h)])) (q (.exit 0) [] h)
def nY(C:CC)(a c d:V)(q:kQ):Prop:=let h:Hp:=.replicate 2 nnQ
 ciQ C h F.nu [a] 0 fun a h=>blQ c fun e=>lp (tK C d a c e) [1] h [I 0] h (exK [((.exit 0),fun c h=>q a h)])
def yJ:Ann:=(aD (nBQ (nRQ [.inl 0]) (nCQ (aD (nCQ (.n (.l [16] [2,7,14,15] [((.exit 0),[],[7])] [1]) (df (nCQ (nCQ (df (nCQ (.n (.l [23] [2,7,8,14,15,16,21,22] [((.exit 2),[],[2,7,14,15,16])] [1]) (df (nCQ (nCQ (nCQ (nRQ [.slot 1]))))) .o)))))) .o))))))
theorem NG(C:CC)(t0:V)(t1:V)(t2:V)(q:kkQ):fnD Y C Tryz.f65 2 yJ [t0,t1,t2] q=nY C t0 t1 t2 q:=by kernel_rfl
theorem NE:okB Tryz.prog Tryz.f65 yJ=true:=bb
theorem NF(h:nY (CX Y) t0 t1 t2 (out v)):CP Y F.nY [t0,t1,t2] v:=
 CP.of (fn:=Tryz.f65) (m:=2) (a:=yJ) rfl (fun _=>rfl) Tryz.func65 NE (by rw[NG];exact h)
def nC(C:CC)(a c d:V):aL:=fun l h q=>cIQ .lss (ge l 0) d (bxQ h 1 c (ge l 0) fun c=>b1Q h c fun c=>clQ C h F.lY [a,c] fun a h=>nzQ a (q .ret [a] h) (bIQ .add (ge l 0) (I 1) fun a=>q .normal [a] h)) (q (.exit 0) [] h)
def kq(C:CC)(a c:V)(q:kQ):Prop:=let h:Hp:=[]
 clQ C h F.gB [a] fun d h=>nzQ d (q d h) (blQ c fun d=>lp (nC C a c d) [] h [I 0] h (exK [((.exit 0),fun a h=>q (I 0) h),(.ret,fun a h=>q (ge a 0) h)]))
theorem CM(h:kq (CX Y) t0 t1 (out v)):CP Y F.kq [t0,t1] v:=CPo 0 (df (nCQ (aD (nCQ (.n (.l [16] [0,14,15] [((.exit 0),[],[]),(.ret,[4],[])] []) .o .o))))) Tryz.func35 h
def oX(C:CC)(a:V)(q:kQ):Prop:=let h:Hp:=[]
 clQ C h F.aO [a,(.fn F.ju [] [])] fun c h=>cnd c (q (.tup [nSQ,I 4]) h) (q (.tup [a,I 0]) h)
theorem Ge(h:oX (CX Y) t0 (out v)):CP Y F.oX [t0] v:=CPo 0 .o Tryz.func114 h
def ju(C:CC)(a:V)(q:kQ):Prop:=let h:Hp:=.replicate 1 nnQ
 cQ 0 a h fun a h=>bnd (ldA h 2 a) fun a=>clQ C h F.mU [a] fun a h=>bnd (unV .not a) fun a=>q a h
theorem Bn(h:ju (CX Y) t0 (out v)):CP Y F.ju [t0] v:=CPo 1 (nCQ (nRQ [.slot 0])) Tryz.func138 h
def lZ(C:CC)(a c d:V)(q:kQ):Prop:=let h:Hp:=[]
 clQ C h F.kq [a,c] fun e h=>nzQ e (q (.tup [nSQ,e]) h) (blQ d fun e=>blQ c fun f=>cIQ .neq e f (q (.tup [nSQ,I 5]) h) (clQ C h F.aI [d,(.fn F.iJ [] [])] fun e h=>cnd e (q (.tup [nSQ,I 2]) h) (blQ a fun a=>clQ C h F.nY [a,c,d] fun a h=>clQ C h F.oX [a] fun a h=>e2Q a fun a c=>q (.tup [a,c]) h)))
theorem Es(h:lZ (CX Y) t0 t1 t2 (out v)):CP Y F.lZ [t0,t1,t2] v:=CPo 0 .o Tryz.func84 h
def iJ(C:CC)(a:V)(q:kQ):Prop:=let h:Hp:=.replicate 1 nnQ
 cQ 0 a h fun a h=>bnd (ldA h 2 a) fun a=>clQ C h F.fR [a] fun a h=>bIQ .neq a (I 0) fun a=>q a h
theorem zQ(h:iJ (CX Y) t0 (out v)):CP Y F.iJ [t0] v:=CPo 1 (nCQ (nRQ [.slot 0])) Tryz.func113 h
def oD(C:CC)(a c d:V)(q:kQ):Prop:=let h:Hp:=.replicate 1 nnQ
 cQ 0 d h fun d h=>cR 1 [nPQ] [(0,c)] h fun c h=>bnd (ldA h 2 d) fun d=>cR 1 [.str [],.str []] [(0,d)] h fun d h=>clQ C h F.lZ [a,c,d] fun a h=>e2Q a fun a c=>q (.tup [a,c]) h
theorem IK(h:oD (CX Y) t0 t1 t2 (out v)):CP Y F.oD [t0,t1,t2] v:=CPo 1 (nCQ (nRQ [.slot 0])) Tryz.func82 h
def oY(C:CC)(b:Nat)(h:Hp)(a:V)(q:kQ):Prop:=let h:Hp:=h++List.replicate 1 nnQ
 clQ C h F.gB [a] fun c h=>nzQ c (q (.tup [nSQ,c]) h) (blQ a fun a=>ciQ C h F.nu [a] (b+0) fun a h=>q (.tup [a,I 0]) h)
def wN(b:Nat):Ann:=(.n .x .o (.n .x .o (.n .x (.n (.r [.inl (b+0)]) .o .o) .o)))
theorem KV(C:CC)(h:Hp)(t0:V)(q:kkQ):fnI Y C Tryz.f53 1 wN [t0] h q=oY C h.length h t0 q:=by rfl
theorem KT(b:Nat):okB Tryz.prog Tryz.f53 (wN b)=true:=by rfl
theorem KU(hh:oY (CX Y) h.length h t0 (qN h.length v h2)):CI Y F.oY [t0] h v h2:=
 CI.of (fn:=Tryz.f53) (m:=1) (a:=wN) rfl (fun _=>rfl) Tryz.func53 (KT _) (by rw[KV];exact hh)
def uZ(C:CC)(a c d:V):aL:=fun l h q=>cIQ .lss (ge l 0) d (bxQ h 1 c (ge l 0) fun c=>b1Q h c fun c=>clQ C h F.gA [c] fun c h=>bxQ h 2 a (ge l 0) fun a=>stD h 2 a c fun _ h=>bIQ .add (ge l 0) (I 1) fun a=>q .normal [a] h) (q (.exit 0) [] h)
def xH(C:CC)(a c:V)(q:kQ):Prop:=let h:Hp:=.replicate 1 nnQ
 clQ C h F.jd [a,c] fun d h=>nzQ d (q (.tup [nSQ,d]) h) (blQ a fun a=>ciQ C h F.nu [a] 0 fun a h=>blQ c fun d=>lp (uZ C a c d) [] h [I 0] h (exK [((.exit 0),fun c h=>q (.tup [a,I 0]) h)]))
theorem Rh(h:xH (CX Y) t0 t1 (out v)):CP Y F.xH [t0,t1] v:=CPo 1 (df (nBQ (nRQ [.inl 0]) (nCQ (aD (nCQ (.n (.l [21] [7,19,20] [((.exit 0),[],[7])] []) .o .o)))))) Tryz.func110 h
def qG(C:CC)(a c d:V)(q:kQ):Prop:=let h:Hp:=[]
 cR 2 [nPQ] [(0,c),(1,d)] h fun c h=>clQ C h F.gA [I 1] fun d h=>clQ C h F.gA [I 1] fun e h=>cR 2 [.str [],.str []] [(0,d),(1,e)] h fun d h=>clQ C h F.lZ [a,c,d] fun a h=>e2Q a fun a c=>q (.tup [a,c]) h
theorem NI(h:qG (CX Y) t0 t1 t2 (out v)):CP Y F.qG [t0,t1,t2] v:=CPo 0 .o Tryz.func54 h
def jd(C:CC)(a c:V)(q:kQ):Prop:=let h:Hp:=[]
 cR 1 [nPQ] [(0,c)] h fun c h=>clQ C h F.fP [a,c] q
theorem Gp(h:jd (CX Y) t0 t1 (out v)):CP Y F.jd [t0,t1] v:=CPo 0 .o Tryz.func69 h
def mP(C:CC)(a c:V):aL:=fun l h q=>cIQ .lss (ge l 0) c (bxQ h 1 a (ge l 0) fun a=>b1Q h a fun a=>bIQ .gtr a (I 1000) fun c=>gqQ c false h a fun a h=>gbQ c false h (biI .lss a (I (-1000))) fun a h=>bpQ c (B true) a fun a=>cnd a (q .ret [I 4] h) (bIQ .add (ge l 0) (I 1) fun a=>q .normal [a] h)) (q (.exit 2) [] h)
def j7(C:CC)(a c d:V):aL:=fun l h q=>cIQ .lss (ge l 0) d (bxQ h 1 c (ge l 0) fun c=>b1Q h c fun c=>blQ c fun d=>blQ a fun a=>cIQ .neq d a (q .ret [I 5] h) (blQ c fun a=>lp (mP C c a) [] h [I 0] h (exK [((.exit 2),fun a h=>bIQ .add (ge l 0) (I 1) fun a=>q .normal [a] h),(.ret,fun a h=>q .ret [ge a 0] h)]))) (q (.exit 0) [] h)
def fP(C:CC)(a c:V)(q:kQ):Prop:=let h:Hp:=[]
 clQ C h F.gB [a] fun d h=>nzQ d (q d h) (blQ c fun d=>lp (j7 C a c d) [] h [I 0] h (exK [((.exit 0),fun a h=>q (I 0) h),(.ret,fun a h=>q (ge a 0) h)]))
theorem BI(h:fP (CX Y) t0 t1 (out v)):CP Y F.fP [t0,t1] v:=CPo 0 (df (nCQ (aD (nCQ (.n (.l [17] [0,15,16] [((.exit 0),[],[]),(.ret,[4],[])] []) (df (nCQ (nCQ (yu (nCQ (.n (.l [28] [0,15,16,17,26,27] [((.exit 2),[],[0,15,16,17]),(.ret,[4],[])] []) .o .o)))))) .o))))) Tryz.func45 h
def m6(C:CC)(a c d:V):aL:=fun l h q=>cIQ .lss (ge l 2) d (jn (fun a h=>bIQ .add (ge l 2) (I 1) fun c=>q .normal [ge a 0,ge a 1,c] h) fun d=>bxQ h 1 c (ge l 2) fun c=>b1Q h c fun c=>bxQ h 1 a (ge l 2) fun a=>b1Q h a fun a=>bnd (cvI .u64 a) fun a=>clQ C h F.iM [a] fun a h=>bnd (unV .neg c) fun e=>bnd (mxI true [c,e]) fun e=>clQ C h F.d9 [a,e] fun a h=>e2Q a fun a e=>bIQ .gtr c (I 0) fun c=>jn (fun a h=>d [ge a 0,ge a 1] h) fun d=>cnd c (clQ C h F.ig [ge l 0,a] fun a h=>d [a,ge l 1] h) (clQ C h F.ig [ge l 1,a] fun a h=>d [ge l 0,a] h)) (q (.exit 0) [ge l 0,ge l 1] h)
def o7(C:CC)(a c:V)(q:kQ):Prop:=let h:Hp:=[]
 blQ c fun d=>lp (m6 C a c d) [] h [(.d (.str [49])),(.d (.str [49])),I 0] h (exK [((.exit 0),fun a h=>q (.tup [ge a 0,ge a 1]) h)])
theorem Gn(h:o7 (CX Y) t0 t1 (out v)):CP Y F.o7 [t0,t1] v:=CPo 0 (df (nCQ (aD (nCQ (.n (.l [4,5,12] [0,10,11] [((.exit 0),[4,5],[])] []) (df (nCQ (.n (.j [4,5] [0,10,11,12]) (yu (nJQ [4,5] [0,10,11,12])) .o))) .o))))) Tryz.func86 h
def ql(C:CC)(a c:V)(q:kQ):Prop:=let h:Hp:=[]
 clQ C h F.jd [a,c] fun d h=>nzQ d (q (.tup [I 0,d]) h) (clQ C h F.o7 [a,c] fun a h=>e2Q a fun a c=>clQ C h F.bV [a,c] fun a h=>q (.tup [a,I 0]) h)
theorem Jh(h:ql (CX Y) t0 t1 (out v)):CP Y F.ql [t0,t1] v:=CPo 0 .o Tryz.func55 h
def nJ(C:CC)(a:V)(q:kQ):Prop:=let h:Hp:=.replicate 2 nnQ
 cQ 0 a h fun a h=>alV 1 [.d (.str []),.d (.str [])] h fun c h=>bfQ 0 a fun d=>b1Q h d fun d=>clQ C h F.ij [d] fun d h=>bfQ 1 a fun a=>b1Q h a fun a=>bnd (bld [(0,1),(1,1)] [.str [],.str []] [(0,d),(1,a)]) fun a=>stD h 2 c a fun _ h=>bnd (ldA h 2 c) fun a=>q a h
theorem Fs(h:nJ (CX Y) t0 (out v)):CP Y F.nJ [t0] v:=CPo 2 (nCQ (nRQ [.slot 0,.slot 1])) Tryz.func20 h
def sj(C:CC)(a c:V)(q:kQ):Prop:=let h:Hp:=[]
 clQ C h F.oE [a,c] fun d h=>nzQ d (q (.tup [I 0,d]) h) (clQ C h F.jL [a,c] fun a h=>clQ C h F.eX [a] fun a h=>q (.tup [a,I 0]) h)
theorem KW(h:sj (CX Y) t0 t1 (out v)):CP Y F.sj [t0,t1] v:=CPo 0 .o Tryz.func135 h
def sX(C:CC)(a c:V)(q:kQ):Prop:=let h:Hp:=[]
 clQ C h F.sj [a,c] fun d h=>e2Q d fun d e=>nzQ e (q (.tup [nSQ,e]) h) (blQ a fun a=>cR 1 [nPQ] [(0,c)] h fun c h=>bnd (unV .neg d) fun e=>bnd (mxI true [d,e]) fun e=>bnd (mxI true [d,I 0]) fun d=>bIQ .mul (I 2) d fun d=>bIQ .sub d (I 1) fun d=>bIQ .mul e d fun d=>clQ C h F.gA [d] fun d h=>cR 1 [.str [],.str []] [(0,d)] h fun d h=>clQ C h F.nY [a,c,d] fun a h=>q (.tup [a,I 0]) h)
theorem NJ(h:sX (CX Y) t0 t1 (out v)):CP Y F.sX [t0,t1] v:=CPo 0 .o Tryz.func111 h
def nz(C:CC)(a c d:V)(q:kQ):Prop:=let h:Hp:=[]
 blQ a fun e=>cR 2 [nPQ] [(0,c),(1,d)] h fun c h=>clQ C h F.gA [I 1] fun d h=>clQ C h F.gA [I (-1)] fun f h=>cR 2 [.str [],.str []] [(0,d),(1,f)] h fun d h=>clQ C h F.nY [e,c,d] fun c h=>clQ C h F.jL [a,c] fun a h=>clQ C h F.eX [a] q
theorem Er(h:nz (CX Y) t0 t1 t2 (out v)):CP Y F.nz [t0,t1,t2] v:=CPo 0 .o Tryz.func36 h
def gX(C:CC)(a c d:V)(q:kQ):Prop:=let h:Hp:=[]
 cR 2 [nPQ] [(0,c),(1,d)] h fun e h=>clQ C h F.kq [a,e] fun e h=>nzQ e (q (.tup [I 0,e]) h) (clQ C h F.nz [a,c,d] fun a h=>q (.tup [a,I 0]) h)
theorem wO(h:gX (CX Y) t0 t1 t2 (out v)):CP Y F.gX [t0,t1,t2] v:=CPo 0 .o Tryz.func12 h
def fM(C:CC)(a c:V)(q:kQ):Prop:=let h:Hp:=.replicate 2 nnQ
 alV 0 [.d (.str []),.d (.str [])] h fun d h=>clQ C h F.j8 [a,c] fun a h=>e2Q a fun a c=>alV 1 [.d (.str []),.d (.str [])] h fun c h=>stD h 2 c a fun _ h=>bnd (ldA h 2 c) fun a=>stD h 2 d a fun _ h=>bnd (ldA h 2 d) fun a=>q a h
theorem yo(h:fM (CX Y) t0 t1 (out v)):CP Y F.fM [t0,t1] v:=CPo 2 (nBQ (nRQ [.slot 0]) (nCQ (nRQ [.o,.slot 1]))) Tryz.func43 h
def eJ(C:CC)(a:V)(q:kQ):Prop:=let h:Hp:=.replicate 2 nnQ
 cQ 0 a h fun a h=>alV 1 [.d (.str []),.d (.str [])] h fun c h=>bfQ 0 a fun d=>b1Q h d fun d=>bIQ .rem d (.d (.int .i8 41)) fun d=>bnd (cvI .i64 d) fun d=>cR 6 [.int .i64 0] [(0,(I 1)),(1,(I 2)),(2,(I 3)),(3,(I 4)),(4,(I 6)),(5,(I 12))] h fun e h=>bfQ 1 a fun a=>b1Q h a fun a=>bIQ .rem a (.d (.int .u8 6)) fun a=>bxQ h 1 e a fun a=>b1Q h a fun a=>clQ C h F.fM [d,a] fun a h=>stD h 2 c a fun _ h=>bnd (ldA h 2 c) fun a=>q a h
theorem uw(h:eJ (CX Y) t0 (out v)):CP Y F.eJ [t0] v:=CPo 2 (nCQ (nRQ [.slot 0,.slot 1])) Tryz.func21 h
def qJ(C:CC)(a:V)(q:kQ):Prop:=let h:Hp:=[]
 bIQ .geq a (I (-1000000000)) fun c=>gqQ c true h a fun a h=>gbQ c true h (biI .leq a (I 1000000000)) fun a h=>bpQ c a (B false) fun a=>q a h
theorem NQ(h:qJ (CX Y) t0 (out v)):CP Y F.qJ [t0] v:=CPo 0 .o Tryz.func155 h
def nE(C:CC)(a:V)(q:kQ):Prop:=let h:Hp:=[]
 clQ C h F.qJ [a] fun a h=>bnd (unV .not a) fun a=>q a h
theorem EF(h:nE (CX Y) t0 (out v)):CP Y F.nE [t0] v:=CPo 0 .o Tryz.func154 h
def nF(C:CC)(a:V)(q:kQ):Prop:=let h:Hp:=[]
 blQ a fun c=>bIQ .gtr c (I 64) fun c=>gqQ c false h a fun a h=>gd c false h (fun q=>clQ C h F.aZ [a,(.fn F.nE [] [])] q) fun a h=>bpQ c (B true) a fun a=>cnd a (q (I 4) h) (q (I 0) h)
theorem K9(h:nF (CX Y) t0 (out v)):CP Y F.nF [t0] v:=CPo 0 .o Tryz.func131 h
def oG(C:CC)(a:V)(q:kQ):Prop:=let h:Hp:=[]
 clQ C h F.nF [a] fun c h=>nzQ c (q (.tup [nSQ,c]) h) (q (.tup [a,I 0]) h)
theorem IT(h:oG (CX Y) t0 (out v)):CP Y F.oG [t0] v:=CPo 0 .o Tryz.func103 h
def kt(C:CC)(a:V)(q:kQ):Prop:=let h:Hp:=[]
 bIQ .neq a (I 0) fun a=>q a h
theorem CN(h:kt (CX Y) t0 (out v)):CP Y F.kt [t0] v:=CPo 0 .o Tryz.func71 h
def qi(C:CC)(a:V)(q:kQ):Prop:=let h:Hp:=[]
 clQ C h F.aZ [a,(.fn F.kt [] [])] fun a h=>bnd (unV .not a) fun a=>q a h
theorem IU(h:qi (CX Y) t0 (out v)):CP Y F.qi [t0] v:=CPo 0 .o Tryz.func40 h
def uz(C:CC)(a c:V)(q:kQ):Prop:=let h:Hp:=[]
 clQ C h F.nF [a] fun d h=>nzQ d (q d h) (clQ C h F.nF [c] fun d h=>nzQ d (q d h) (blQ a fun a=>blQ c fun c=>cIQ .neq a c (q (I 5) h) (q (I 0) h)))
theorem NR(h:uz (CX Y) t0 t1 (out v)):CP Y F.uz [t0,t1] v:=CPo 0 .o Tryz.func101 h
def sy(C:CC)(a c:V)(q:kQ):Prop:=let h:Hp:=.replicate 2 nnQ
 cQ 0 a h fun a h=>cQ 1 c h fun c h=>q (.fn F.nD [] [a,c]) h
theorem K8(h:sy (CX Y) t0 t1 (out v)):CP Y F.sy [t0,t1] v:=CPo 2 (nCQ (nRQ [.slot 0,.slot 1])) Tryz.func102 h
def yP(C:CC)(a:V):CH:=fun l h q=>
 b1Q h a fun c=>
 bIQ .add (ge l 0) (ge l 1) fun d=>
 cR 1 [.int .i64 0] [(0,d)] h fun d h=>
 apV false 2 1 8 c d h fun c h=>
 stD h 1 a c fun _ h=>
 q .normal h
def xM(C:CC)(a c:V)(q:kQ):Prop:=let h:Hp:=.replicate 3 nnQ
 clQ C h F.uz [a,c] fun d h=>nzQ d (q (.tup [nSQ,d]) h) (blQ a fun d=>mkS 0 8 [.int .i64 0] h (I 0) d fun d h=>alV 1 [.d nPQ] h fun e h=>stD h 1 e d fun _ h=>clQ C h F.sy [a,c] fun a h=>rgO (sqV Y.seq a) 2 (yP C e) [] h (fun ex h=>exK [(.normal,fun _ h=>b1Q h e fun a=>clQ C h F.oG [a] fun a h=>e2Q a fun a c=>q (.tup [a,c]) h)] ex [] h))
theorem Rl(h:xM (CX Y) t0 t1 (out v)):CP Y F.xM [t0,t1] v:=CPo 3 (df (nBQ (nRQ [.slot 0,.slot 1]) (nCQ (aD (nCQ (.n (.l [] [7] [(.normal,[],[7])] []) .o (nCQ (nRQ [.o,.slot 2])))))))) Tryz.func68 h
def jf(C:CC)(a c:V)(q:kQ):Prop:=let h:Hp:=[]
 cIQ .eql a (I 0) (q (I 13) h) (cIQ .gtr a c (q (I 4) h) (q (I 0) h))
theorem GA(h:jf (CX Y) t0 t1 (out v)):CP Y F.jf [t0,t1] v:=CPo 0 .o Tryz.func75 h
def pM(C:CC)(a c d:V):aL:=fun l h q=>cIQ .lss (ge l 0) d (bxQ h 1 c (ge l 0) fun c=>b1Q h c fun c=>blQ c fun d=>clQ C h F.jf [d,I 12] fun d h=>nzQ d (q .ret [d] h) (bfQ 0 a fun a=>b1Q h a fun a=>clQ C h F.fP [a,c] fun a h=>nzQ a (q .ret [a] h) (bIQ .add (ge l 0) (I 1) fun a=>q .normal [a] h))) (q (.exit 0) [] h)
def ie(C:CC)(a c d e:V):aL:=fun l h q=>cIQ .lss (ge l 0) e (bxQ h 2 d (ge l 0) fun d=>bnd (ldA h 2 d) fun d=>alV 1 [.d (.int .i64 0),.d (.int .i64 0)] h fun e h=>stD h 2 e d fun _ h=>bfQ 0 e fun d=>b1Q h d fun d=>bIQ .lss d (I 0) fun d=>gbQ d false h (faV 0 e) fun f h=>gbQ d false h (ld1 h f) fun f h=>gbQ d false h (faV 1 a) fun g h=>gbQ d false h (ld1 h g) fun g h=>gqQ d false h c fun i h=>gbQ d false h (ixV h 1 g i) fun g h=>gbQ d false h (ld1 h g) fun g h=>gbQ d false h (bj g) fun g h=>gbQ d false h (biI .geq f g) fun f h=>bpQ d (B true) f fun d=>gbQ d false h (faV 1 e) fun f h=>gbQ d false h (ld1 h f) fun f h=>gbQ d false h (biI .lss f (I 0)) fun f h=>bpQ d (B true) f fun d=>gbQ d false h (faV 1 e) fun e h=>gbQ d false h (ld1 h e) fun e h=>gbQ d false h (faV 1 a) fun a h=>gbQ d false h (ld1 h a) fun a h=>gqQ d false h c fun c h=>gbQ d false h (biI .add c (I 1)) fun c h=>gbQ d false h (ixV h 1 a c) fun a h=>gbQ d false h (ld1 h a) fun a h=>gbQ d false h (bj a) fun a h=>gbQ d false h (biI .geq e a) fun a h=>bpQ d (B true) a fun a=>cnd a (q .ret [I 3] h) (bIQ .add (ge l 0) (I 1) fun a=>q .normal [a] h)) (q (.exit 4) [] h)
def pL(C:CC)(a c d:V):aL:=fun l h q=>cIQ .lss (ge l 0) d (bxQ h 1 c (ge l 0) fun c=>b1Q h c fun c=>blQ c fun d=>clQ C h F.jf [d,I 12] fun d h=>nzQ d (q .ret [d] h) (blQ c fun d=>lp (ie C a (ge l 0) c d) [1] h [I 0] h (exK [((.exit 4),fun a h=>bIQ .add (ge l 0) (I 1) fun a=>q .normal [a] h),(.ret,fun a h=>q .ret [ge a 0] h)]))) (q (.exit 2) [] h)
def nh(C:CC)(a:V)(q:kQ):Prop:=let h:Hp:=.replicate 2 nnQ
 cQ 0 a h fun a h=>bfQ 0 a fun c=>b1Q h c fun c=>clQ C h F.gB [c] fun c h=>nzQ c (q c h) (bfQ 1 a fun c=>b1Q h c fun c=>blQ c fun c=>clQ C h F.jf [c,I 64] fun c h=>nzQ c (q c h) (bfQ 1 a fun c=>b1Q h c fun c=>blQ c fun d=>lp (pM C a c d) [] h [I 0] h (exK [((.exit 0),fun c h=>bfQ 2 a fun c=>b1Q h c fun c=>blQ c fun c=>bfQ 1 a fun d=>b1Q h d fun d=>blQ d fun d=>bIQ .sub d (I 1) fun d=>cIQ .neq c d (q (I 5) h) (bfQ 2 a fun c=>b1Q h c fun c=>blQ c fun d=>lp (pL C a c d) [1] h [I 0] h (exK [((.exit 2),fun a h=>q (I 0) h),(.ret,fun a h=>q (ge a 0) h)]))),(.ret,fun a h=>q (ge a 0) h)])))
theorem GC(h:nh (CX Y) t0 (out v)):CP Y F.nh [t0] v:=CPo 2 (nBQ (nRQ [.slot 0]) (df (nBQ (aD (nCQ (.n (.l [30] [1,28,29] [((.exit 0),[],[1]),(.ret,[2],[])] []) .o .o))) (aD (nCQ (aD (nCQ (.n (.l [59] [1,57,58] [((.exit 2),[],[]),(.ret,[2],[])] [1]) (df (nCQ (nCQ (yu (nCQ (.n (.l [72] [1,9,57,58,59,70,71] [((.exit 4),[],[1,57,58,59]),(.ret,[2],[])] [1]) (df (nCQ (nCQ (nCQ (nRQ [.slot 1]))))) .o)))))) .o)))))))) Tryz.func44 h
def pI(C:CC)(a c d e:V):aL:=fun l h q=>cIQ .lss (ge l 0) e (bxQ h 1 d (ge l 0) fun d=>b1Q h d fun d=>bIQ .rem c (I 2) fun c=>bIQ .eql c (I 1) fun c=>jn (fun c h=>bxQ h 1 a (ge l 0) fun d=>b1Q h d fun d=>bIQ .add d (ge c 0) fun c=>bxQ h 1 a (ge l 0) fun a=>stD h 1 a c fun _ h=>bIQ .add (ge l 0) (I 1) fun a=>q .normal [a] h) fun a=>cnd c (bnd (unV .neg d) fun c=>a [c] h) (a [d] h)) (q (.exit 2) [] h)
def rQ(C:CC)(a c d:V):aL:=fun l h q=>cIQ .lss (ge l 0) d (bxQ h 1 c (ge l 0) fun c=>b1Q h c fun c=>blQ c fun d=>lp (pI C a (ge l 0) c d) [] h [I 0] h (exK [((.exit 2),fun a h=>bIQ .add (ge l 0) (I 1) fun a=>q .normal [a] h)])) (q (.exit 0) [] h)
def sF(C:CC)(a:V)(q:kQ):Prop:=let h:Hp:=.replicate 1 nnQ
 bxQ h 1 a (I 0) fun c=>b1Q h c fun c=>blQ c fun c=>mkS 0 8 [.int .i64 0] h c c fun c h=>blQ a fun d=>lp (rQ C c a d) [] h [I 0] h (exK [((.exit 0),fun a h=>q c h)])
theorem Mr(h:sF (CX Y) t0 (out v)):CP Y F.sF [t0] v:=CPo 1 (aD (nBQ (nRQ [.slot 0]) (nCQ (aD (nCQ (.n (.l [15] [3,13,14] [((.exit 0),[],[3])] []) (df (nCQ (nCQ (df (nCQ (.n (.l [22] [3,4,13,14,15,20,21] [((.exit 2),[],[3,13,14,15])] []) (df (nCQ (nCQ (aD (nCQ (aD (nJQ [7] [3,4,6,13,14,15,20,21,22]))))))) .o)))))) .o)))))) Tryz.func134 h
def qw(C:CC)(a c d:V)(q:kQ):Prop:=let h:Hp:=.replicate 2 nnQ
 cQ 0 a h fun a h=>bfQ 2 a fun e=>b1Q h e fun e=>bxQ h 1 e c fun e=>b1Q h e fun e=>bxQ h 2 e d fun d=>bnd (ldA h 2 d) fun d=>alV 1 [.d (.int .i64 0),.d (.int .i64 0)] h fun e h=>stD h 2 e d fun _ h=>bfQ 1 a fun d=>b1Q h d fun d=>bxQ h 1 d c fun d=>b1Q h d fun d=>bfQ 0 e fun f=>b1Q h f fun f=>bxQ h 1 d f fun d=>b1Q h d fun d=>bfQ 1 a fun a=>b1Q h a fun a=>bIQ .add c (I 1) fun c=>bxQ h 1 a c fun a=>b1Q h a fun a=>bfQ 1 e fun c=>b1Q h c fun c=>bxQ h 1 a c fun a=>b1Q h a fun a=>cR 2 [nPQ] [(0,d),(1,a)] h fun a h=>clQ C h F.sF [a] q
theorem JF(h:qw (CX Y) t0 t1 t2 (out v)):CP Y F.qw [t0,t1,t2] v:=CPo 2 (nBQ (nRQ [.slot 0]) (nCQ (nRQ [.slot 1]))) Tryz.func109 h
def pJ(C:CC)(a c d:V):aL:=fun l h q=>cIQ .lss (ge l 0) d (bxQ h 1 c (ge l 0) fun c=>b1Q h c fun c=>bxQ h 1 a (ge l 0) fun d=>b1Q h d fun d=>bIQ .add d c fun c=>bxQ h 1 a (ge l 0) fun a=>stD h 1 a c fun _ h=>bIQ .add (ge l 0) (I 1) fun a=>q .normal [a] h) (q (.exit 2) [] h)
def pK(C:CC)(a c:V):aL:=fun l h q=>cIQ .lss (ge l 1) c (bxQ h 1 (ge l 0) (ge l 1) fun c=>b1Q h c fun c=>ciQ C h F.cG [c] 3 fun c h=>bnd (ldA h 3 a) fun a=>clQ C h F.qw [a,ge l 1,I 0] fun a h=>blQ a fun d=>lp (pJ C c a d) [] h [I 0] h (exK [((.exit 2),fun a h=>cR 1 [nPQ] [(0,c)] h fun a h=>apV false 4 1 24 (ge l 0) a h fun a h=>bIQ .add (ge l 1) (I 1) fun c=>q .normal [a,c] h)])) (q (.exit 0) [ge l 0] h)
def pf(C:CC)(a:V)(q:kQ):Prop:=let h:Hp:=.replicate 5 nnQ
 cQ 0 a h fun a h=>bfQ 0 a fun c=>b1Q h c fun c=>blQ c fun c=>mkS 1 8 [.int .i64 0] h c c fun c h=>rq 2 1 [nPQ] [(0,c)] h fun c h=>bfQ 2 a fun d=>b1Q h d fun d=>blQ d fun d=>lp (pK C a d) [3] h [c,I 0] h (exK [((.exit 0),fun a h=>q (ge a 0) h)])
theorem Gz(h:pf (CX Y) t0 (out v)):CP Y F.pf [t0] v:=CPo 5 (nBQ (nRQ [.slot 0]) (nBQ (nRQ [.slot 1,.slot 2]) (nCQ (aD (nCQ (.n (.l [3,16] [1,15] [((.exit 0),[3],[])] [3]) (df (nCQ (nCQ (aD (nBQ (nRQ [.inl 3]) (nBQ (aD (nCQ (.n (.l [28] [1,3,5,15,16,26,27] [((.exit 2),[],[1,3,5,15,16])] []) .o .o))) (nRQ [.o,.slot 4]))))))) .o)))))) Tryz.func79 h
def sG(C:CC)(a c:V)(q:kQ):Prop:=let h:Hp:=[]
 clQ C h F.fP [a,c] q
theorem Ms(h:sG (CX Y) t0 t1 (out v)):CP Y F.sG [t0,t1] v:=CPo 0 .o Tryz.func80 h
def lU(C:CC)(a:V)(q:kQ):Prop:=let h:Hp:=.replicate 1 nnQ
 cQ 0 a h fun a h=>bnd (ldA h 3 a) fun c=>clQ C h F.nh [c] fun c h=>nzQ c (q (.tup [nSQ,c]) h) (bnd (ldA h 3 a) fun c=>clQ C h F.pf [c] fun c h=>bfQ 0 a fun a=>b1Q h a fun a=>clQ C h F.sG [a,c] fun a h=>nzQ a (q (.tup [nSQ,a]) h) (q (.tup [c,I 0]) h))
theorem GB(h:lU (CX Y) t0 (out v)):CP Y F.lU [t0] v:=CPo 1 (nCQ (nRQ [.slot 0])) Tryz.func48 h
def cG(C:CC)(b:Nat)(h:Hp)(a:V)(q:kQ):Prop:=let h:Hp:=h++List.replicate 2 nnQ
 rj h .eql a nSQ fun c=>cnd c (q nSQ h) (rq (b+0) 0 [.int .i64 0] [] h fun c h=>apV false (b+1) 1 8 c a h q)
def jt(b:Nat):Ann:=(.n .x .o (.n .x .o (.n .x (.n (.r [.slot (b+0),.slot (b+1)]) .o .o) .o)))
theorem sU(C:CC)(h:Hp)(t0:V)(q:kkQ):fnI Y C Tryz.f108 2 jt [t0] h q=cG C h.length h t0 q:=by rfl
theorem sS(b:Nat):okB Tryz.prog Tryz.f108 (jt b)=true:=by rfl
theorem sT(hh:cG (CX Y) h.length h t0 (qN h.length v h2)):CI Y F.cG [t0] h v h2:=
 CI.of (fn:=Tryz.f108) (m:=2) (a:=jt) rfl (fun _=>rfl) Tryz.func108 (sS _) (by rw[sU];exact hh)
def gv(C:CC)(a c d:V):aL:=fun l h q=>cIQ .lss (ge l 0) d (bxQ h 1 c (ge l 0) fun c=>b1Q h c fun c=>blQ c fun d=>cIQ .eql d (I 0) (q .ret [I 13] h) (blQ c fun d=>cIQ .gtr d (I 20) (q .ret [I 4] h) (bfQ 0 a fun a=>bfQ 0 a fun a=>b1Q h a fun a=>clQ C h F.fP [a,c] fun a h=>nzQ a (q .ret [a] h) (bIQ .add (ge l 0) (I 1) fun a=>q .normal [a] h)))) (q (.exit 0) [] h)
def fA(C:CC)(a:V)(q:kQ):Prop:=let h:Hp:=.replicate 1 nnQ
 cQ 0 a h fun a h=>bfQ 0 a fun c=>bnd (ldA h 3 c) fun c=>clQ C h F.nh [c] fun c h=>nzQ c (q c h) (bfQ 3 a fun c=>b1Q h c fun c=>blQ c fun c=>bfQ 0 a fun d=>bfQ 1 d fun d=>b1Q h d fun d=>blQ d fun d=>cIQ .neq c d (q (I 5) h) (bfQ 3 a fun c=>b1Q h c fun c=>blQ c fun d=>lp (gv C a c d) [] h [I 0] h (exK [((.exit 0),fun c h=>bfQ 4 a fun c=>bnd (ldA h 2 c) fun c=>clQ C h F.fR [c] fun c h=>nzQ c (q (I 2) h) (bfQ 4 a fun a=>bnd (ldA h 2 a) fun a=>clQ C h F.mH [a] fun a h=>cIQ .lss a (I 0) (q (I 3) h) (q (I 0) h))),(.ret,fun a h=>q (ge a 0) h)])))
theorem zw(h:fA (CX Y) t0 (out v)):CP Y F.fA [t0] v:=CPo 1 (nBQ (nRQ [.slot 0]) (df (nCQ (aD (nCQ (.n (.l [24] [1,22,23] [((.exit 0),[],[1]),(.ret,[2],[])] []) .o .o)))))) Tryz.func22 h
def d7(C:CC)(a c:V)(q:kQ):Prop:=let h:Hp:=.replicate 1 nnQ
 cQ 0 a h fun a h=>bfQ 0 a fun d=>bfQ 0 d fun d=>b1Q h d fun d=>clQ C h F.jd [d,c] fun d h=>nzQ d (q (.tup [nSQ,I 4]) h) (bfQ 0 a fun d=>bfQ 0 d fun d=>b1Q h d fun d=>clQ C h F.xH [d,c] fun c h=>e2Q c fun c d=>nzQ d (q (.tup [nSQ,d]) h) (bfQ 0 a fun a=>bfQ 0 a fun a=>b1Q h a fun a=>clQ C h F.sX [a,c] fun a h=>e2Q a fun a c=>q (.tup [a,c]) h))
theorem vL(h:d7 (CX Y) t0 t1 (out v)):CP Y F.d7 [t0,t1] v:=CPo 1 (nCQ (nRQ [.slot 0])) Tryz.func81 h
def lF(C:CC)(a c d:V)(q:kQ):Prop:=let h:Hp:=.replicate 1 nnQ
 cQ 0 a h fun a h=>bnd (ldA h 6 a) fun e=>bfQ 3 a fun f=>b1Q h f fun f=>bxQ h 1 f c fun c=>b1Q h c fun c=>bxQ h 1 c d fun c=>b1Q h c fun c=>clQ C h F.d7 [e,c] fun c h=>e2Q c fun c d=>nzQ d (q (.tup [nSQ,d]) h) (bfQ 0 a fun d=>bfQ 0 d fun d=>b1Q h d fun d=>bfQ 4 a fun a=>bnd (ldA h 2 a) fun a=>clQ C h F.oD [d,c,a] fun a h=>e2Q a fun a c=>q (.tup [a,c]) h)
theorem Ci(h:lF (CX Y) t0 t1 t2 (out v)):CP Y F.lF [t0,t1,t2] v:=CPo 1 (nCQ (nRQ [.slot 0])) Tryz.func49 h
def gG(C:CC)(a c d e:V)(q:kQ):Prop:=let h:Hp:=.replicate 1 nnQ
 cQ 0 a h fun a h=>bxQ h 1 c d fun c=>b1Q h c fun c=>bfQ 3 a fun f=>b1Q h f fun f=>bxQ h 1 f d fun d=>b1Q h d fun d=>bxQ h 1 d e fun d=>b1Q h d fun d=>clQ C h F.xM [c,d] fun c h=>e2Q c fun c d=>bIQ .neq d (I 0) fun d=>gbQ d false h (faV 0 a) fun a h=>gbQ d false h (faV 0 a) fun a h=>gbQ d false h (ld1 h a) fun a h=>gqQ d false h c fun e h=>gd d false h (fun q=>clQ C h F.jd [a,e] q) fun a h=>gbQ d false h (biI .neq a (I 0)) fun a h=>bpQ d (B true) a fun a=>cnd a (q (.tup [nSQ,I 4]) h) (q (.tup [c,I 0]) h)
theorem AZ(h:gG (CX Y) t0 t1 t2 t3 (out v)):CP Y F.gG [t0,t1,t2,t3] v:=CPo 1 (nCQ (nRQ [.slot 0])) Tryz.func38 h
def kN(C:CC)(a c d e f g:V):aL:=fun l h q=>cIQ .lss (ge l 0) g (bxQ h 1 c (ge l 0) fun c=>b1Q h c fun c=>bxQ h 1 e (ge l 0) fun e=>b1Q h e fun e=>bIQ .add c e fun c=>bxQ h 1 a (ge l 0) fun a=>b1Q h a fun a=>bIQ .sub c a fun a=>bxQ h 1 d (ge l 0) fun c=>b1Q h c fun c=>bIQ .sub a c fun a=>bxQ h 1 f (ge l 0) fun c=>stD h 1 c a fun _ h=>bIQ .add (ge l 0) (I 1) fun a=>q .normal [a] h) (q (.exit 2) [] h)
def kP(C:CC)(a c d e f g:V):aL:=fun l h q=>cIQ .lss (ge l 1) g (bxQ h 2 f (ge l 1) fun f=>bnd (ldA h 2 f) fun f=>alV 2 [.d (.int .i64 0),.d (.int .i64 0)] h fun g h=>stD h 2 g f fun _ h=>bfQ 0 c fun f=>bfQ 1 f fun f=>b1Q h f fun f=>bxQ h 1 f a fun f=>b1Q h f fun f=>bfQ 0 g fun i=>b1Q h i fun i=>bxQ h 1 f i fun f=>b1Q h f fun f=>bfQ 0 c fun i=>bfQ 1 i fun i=>b1Q h i fun i=>bIQ .add a (I 1) fun a=>bxQ h 1 i a fun a=>b1Q h a fun a=>bfQ 1 g fun g=>b1Q h g fun g=>bxQ h 1 a g fun a=>b1Q h a fun a=>blQ f fun g=>mkS 3 8 [.int .i64 0] h g g fun g h=>blQ g fun i=>lp (kN C d e f a g i) [] h [I 0] h (exK [((.exit 2),fun a h=>bfQ 0 c fun a=>bfQ 0 a fun a=>b1Q h a fun a=>clQ C h F.jd [a,g] fun a h=>nzQ a (q .ret [nSQ,I 4] h) (cR 1 [nPQ] [(0,g)] h fun a h=>apV false 4 1 24 (ge l 0) a h fun a h=>bIQ .add (ge l 1) (I 1) fun c=>q .normal [a,c] h))])) (q (.exit 0) [ge l 0] h)
def du(C:CC)(a c d e:V)(q:kQ):Prop:=let h:Hp:=.replicate 5 nnQ
 cQ 0 a h fun a h=>cQ 1 e h fun e h=>bnd (ldA h 6 a) fun f=>bfQ 0 e fun g=>b1Q h g fun g=>clQ C h F.gG [f,c,d,g] fun f h=>e2Q f fun f g=>nzQ g (q (.tup [nSQ,g]) h) (bnd (ldA h 6 a) fun g=>bIQ .add d (I 1) fun i=>bfQ 1 e fun e=>b1Q h e fun e=>clQ C h F.gG [g,c,i,e] fun c h=>e2Q c fun c e=>nzQ e (q (.tup [nSQ,e]) h) (bfQ 0 a fun e=>bfQ 2 e fun e=>b1Q h e fun e=>bxQ h 1 e d fun e=>b1Q h e fun e=>blQ e fun g=>lp (kP C d a f c e g) [2,3] h [nSQ,I 0] h (exK [((.exit 0),fun a h=>q (.tup [ge a 0,I 0]) h),(.ret,fun a h=>q (.tup [ge a 0,ge a 1]) h)])))
def oQ:Ann:=(nBQ (nRQ [.slot 0,.slot 1]) (UT (nCQ (aD (nCQ (.n (.l [13,52] [2,4,10,12,50,51] [((.exit 0),[13],[]),(.ret,[8,9],[])] [2,3]) (df (nCQ (nCQ (nBQ (nRQ [.slot 2]) (aD (nBQ (nRQ [.slot 3]) (nBQ (aD (nCQ (.n (.l [82] [2,4,10,12,13,16,17,18,50,51,52,81] [((.exit 2),[],[2,4,10,12,13,18,50,51,52])] []) .o .o))) (aD (nRQ [.o,.slot 4]))))))))) .o))))))
theorem zr(C:CC)(t0:V)(t1:V)(t2:V)(t3:V)(q:kkQ):fnD Y C Tryz.f39 5 oQ [t0,t1,t2,t3] q=du C t0 t1 t2 t3 q:=by kernel_rfl
theorem zp:okB Tryz.prog Tryz.f39 oQ=true:=bb
theorem zq(h:du (CX Y) t0 t1 t2 t3 (out v)):CP Y F.du [t0,t1,t2,t3] v:=
 CP.of (fn:=Tryz.f39) (m:=5) (a:=oQ) rfl (fun _=>rfl) Tryz.func39 zp (by rw[zr];exact h)
def mi(C:CC)(a c d:V):aL:=fun l h q=>cIQ .lss (ge l 2) d (jn (fun a h=>bIQ .add (ge l 2) (I 1) fun c=>q .normal [ge a 0,ge a 1,c] h) fun d=>bxQ h 1 c (ge l 2) fun c=>b1Q h c fun c=>bIQ .eql (ge l 0) (I 0) fun e=>jn (fun c h=>bIQ .eql (ge c 1) (I 0) fun e=>jn (fun a h=>d [ge a 1,ge a 0] h) fun d=>cnd e (bfQ 0 a fun a=>bfQ 0 a fun a=>b1Q h a fun a=>clQ C h F.qG [a,ge l 1,ge c 0] fun a h=>e2Q a fun a c=>d [a,c] h) (d [ge l 1,ge c 1] h)) fun d=>cnd e (bnd (ldA h 6 a) fun a=>clQ C h F.d7 [a,c] fun a h=>e2Q a fun a c=>d [a,c] h) (d [nSQ,ge l 0] h)) (q (.exit 0) [ge l 0,ge l 1] h)
def jJ(C:CC)(a c d e:V)(q:kQ):Prop:=let h:Hp:=.replicate 3 nnQ
 cQ 0 a h fun a h=>cQ 1 e h fun e h=>bnd (ldA h 6 a) fun f=>bnd (ldA h 2 e) fun e=>clQ C h F.du [f,c,d,e] fun c h=>e2Q c fun c d=>nzQ d (q (.tup [nSQ,d]) h) (bfQ 0 a fun d=>bfQ 0 d fun d=>b1Q h d fun d=>ciQ C h F.oY [d] 2 fun d h=>e2Q d fun d e=>blQ c fun f=>lp (mi C a c f) [] h [e,d,I 0] h (exK [((.exit 0),fun a h=>q (.tup [ge a 1,ge a 0]) h)]))
theorem AY(h:jJ (CX Y) t0 t1 t2 t3 (out v)):CP Y F.jJ [t0,t1,t2,t3] v:=CPo 3 (nBQ (nRQ [.slot 0,.slot 1]) (df (nBQ (nRQ [.inl 2]) (nCQ (aD (nCQ (.n (.l [11,12,36] [4,34,35] [((.exit 0),[11,12],[])] []) (df (nCQ (.n (.j [11,12] [4,34,35,36]) (df (nBQ (aD (nJQ [15,11] [4,12,34,35,36])) (aD (nJQ [12,11] [4,34,35,36])))) .o))) .o))))))) Tryz.func50 h
def fx(C:CC)(a c d:V):aL:=fun l h q=>cIQ .lss (ge l 0) d (bxQ h 1 c (ge l 0) fun c=>b1Q h c fun c=>bIQ .lss c (I 0) fun d=>gqQ d false h c fun c h=>gbQ d false h (faV 3 a) fun a h=>gbQ d false h (ld1 h a) fun a h=>gqQ d false h (ge l 0) fun e h=>gbQ d false h (ixV h 1 a e) fun a h=>gbQ d false h (ld1 h a) fun a h=>gbQ d false h (bj a) fun a h=>gbQ d false h (biI .geq c a) fun a h=>bpQ d (B true) a fun a=>cnd a (q .ret [nSQ,I 3] h) (bIQ .add (ge l 0) (I 1) fun a=>q .normal [a] h)) (q (.exit 0) [] h)
def fX(C:CC)(a c:V)(q:kQ):Prop:=let h:Hp:=.replicate 1 nnQ
 cQ 0 a h fun a h=>bnd (ldA h 6 a) fun d=>clQ C h F.fA [d] fun d h=>nzQ d (q (.tup [nSQ,d]) h) (blQ c fun d=>bfQ 3 a fun e=>b1Q h e fun e=>blQ e fun e=>cIQ .neq d e (q (.tup [nSQ,I 5]) h) (blQ c fun d=>lp (fx C a c d) [] h [I 0] h (exK [((.exit 0),fun c h=>bfQ 0 a fun a=>bnd (ldA h 3 a) fun a=>clQ C h F.lU [a] fun a h=>e2Q a fun a c=>q (.tup [a,c]) h),(.ret,fun a h=>q (.tup [ge a 0,ge a 1]) h)])))
theorem yy(h:fX (CX Y) t0 t1 (out v)):CP Y F.fX [t0,t1] v:=CPo 1 (nBQ (nRQ [.slot 0]) (df (nCQ (aD (nCQ (.n (.l [22] [2,20,21] [((.exit 0),[],[2]),(.ret,[4,5],[])] []) .o .o)))))) Tryz.func37 h
def kR(C:CC)(a c d e:V):aL:=fun l h q=>cIQ .lss (ge l 1) e (bxQ h 1 d (ge l 1) fun d=>b1Q h d fun d=>bnd (ldA h 6 a) fun a=>clQ C h F.gG [a,c,ge l 1,d] fun a h=>e2Q a fun a c=>nzQ c (q .ret [nSQ,c] h) (cR 1 [nPQ] [(0,a)] h fun a h=>apV false 1 1 24 (ge l 0) a h fun a h=>bIQ .add (ge l 1) (I 1) fun c=>q .normal [a,c] h)) (q (.exit 0) [ge l 0] h)
def jq(C:CC)(a c:V)(q:kQ):Prop:=let h:Hp:=.replicate 2 nnQ
 cQ 0 a h fun a h=>bnd (ldA h 6 a) fun d=>clQ C h F.fX [d,c] fun d h=>e2Q d fun d e=>nzQ e (q (.tup [nSQ,e]) h) (blQ c fun e=>lp (kR C a d c e) [] h [nSQ,I 0] h (exK [((.exit 0),fun a h=>q (.tup [ge a 0,I 0]) h),(.ret,fun a h=>q (.tup [ge a 0,ge a 1]) h)]))
theorem zt(h:jq (CX Y) t0 t1 (out v)):CP Y F.jq [t0,t1] v:=CPo 2 (nBQ (nRQ [.slot 0]) (yu (nCQ (aD (nCQ (.n (.l [8,24] [2,6,22,23] [((.exit 0),[8],[]),(.ret,[4,5],[])] []) (df (nCQ (nCQ (yu (nRQ [.o,.slot 1]))))) .o)))))) Tryz.func15 h
def iR(C:CC)(a c d:V):aL:=fun l h q=>cIQ .lss (ge l 1) d (jn (fun a h=>bIQ .add (ge l 1) (I 1) fun c=>q .normal [ge a 0,c] h) fun d=>bxQ h 1 c (ge l 1) fun c=>b1Q h c fun c=>clQ C h F.qi [c] fun e h=>bnd (unV .not e) fun e=>jn (fun a h=>d [ge a 0] h) fun d=>cnd e (bIQ .sub a (I 1) fun a=>bnd (bld [(0,1),(1,1),(2,1)] [.int .i64 0,.int .i64 0,nPQ] [(0,a),(1,(ge l 1)),(2,c)]) fun a=>cR 1 [.int .i64 0,.int .i64 0,nPQ] [(0,a)] h fun a h=>apV false 1 3 40 (ge l 0) a h fun a h=>d [a] h) (d [ge l 0] h)) (q (.exit 2) [ge l 0] h)
def kS(C:CC)(a c d:V):aL:=fun l h q=>blQ a fun e=>cIQ .lss (ge l 1) e (bnd (ldA h 6 c) fun c=>bIQ .sub (ge l 1) (I 1) fun e=>bIQ .sub (ge l 1) (I 1) fun f=>bxQ h 1 a f fun f=>b1Q h f fun f=>bxQ h 1 a (ge l 1) fun a=>b1Q h a fun a=>bnd (bld [(0,1),(1,1)] [.int .i64 0,.int .i64 0] [(0,f),(1,a)]) fun a=>clQ C h F.du [c,d,e,a] fun a h=>e2Q a fun a c=>nzQ c (q .ret [nSQ,c] h) (blQ a fun c=>lp (iR C (ge l 1) a c) [] h [ge l 0,I 0] h (exK [((.exit 2),fun a h=>bIQ .add (ge l 1) (I 1) fun c=>q .normal [ge a 0,c] h)]))) (q (.exit 0) [ge l 0] h)
def jr(C:CC)(a c:V)(q:kQ):Prop:=let h:Hp:=.replicate 2 nnQ
 cQ 0 a h fun a h=>bnd (ldA h 6 a) fun d=>clQ C h F.fX [d,c] fun d h=>e2Q d fun d e=>nzQ e (q (.tup [nSQ,e]) h) (lp (kS C c a d) [] h [nSQ,I 1] h (exK [((.exit 0),fun a h=>q (.tup [ge a 0,I 0]) h),(.ret,fun a h=>q (.tup [ge a 0,ge a 1]) h)]))
theorem zu(h:jr (CX Y) t0 t1 (out v)):CP Y F.jr [t0,t1] v:=CPo 2 (nBQ (nRQ [.slot 0]) (yu (nCQ (aD (nCQ (.n (.l [8,9] [1,2,6] [((.exit 0),[8],[]),(.ret,[4,5],[])] []) (aD (nCQ (nCQ (yu (nCQ (.n (.l [8,52] [1,2,6,9,50,51] [((.exit 2),[8],[1,2,6,9])] []) (df (nCQ (.n (.j [8] [1,2,6,9,50,51,52]) (df (.n (.j [8] [1,2,6,9,50,51,52]) (nRQ [.o,.slot 1]) .o)) .o))) .o)))))) .o)))))) Tryz.func16 h
def aM(C:CC)(b:Nat)(h:Hp)(a:V)(q:kQ):Prop:=let h:Hp:=h++List.replicate 2 nnQ
 rj h .eql a nSQ fun c=>cnd c (q nSQ h) (rq (b+0) 0 [.str [],.str []] [] h fun c h=>apV false (b+1) 2 32 c a h q)
def eB(b:Nat):Ann:=(.n .x .o (.n .x .o (.n .x (.n (.r [.slot (b+0),.slot (b+1)]) .o .o) .o)))
theorem nQ(C:CC)(h:Hp)(t0:V)(q:kkQ):fnI Y C Tryz.f28 2 eB [t0] h q=aM C h.length h t0 q:=by rfl
theorem nO(b:Nat):okB Tryz.prog Tryz.f28 (eB b)=true:=by rfl
theorem nP(hh:aM (CX Y) h.length h t0 (qN h.length v h2)):CI Y F.aM [t0] h v h2:=
 CI.of (fn:=Tryz.f28) (m:=2) (a:=eB) rfl (fun _=>rfl) Tryz.func28 (nO _) (by rw[nQ];exact hh)
def aU(C:CC)(b:Nat)(h:Hp)(a:V)(q:kQ):Prop:=let h:Hp:=h++List.replicate 2 nnQ
 rj h .eql a nSQ fun c=>cnd c (q nSQ h) (rq (b+0) 0 [nPQ] [] h fun c h=>apV false (b+1) 1 24 c a h q)
def eO(b:Nat):Ann:=(.n .x .o (.n .x .o (.n .x (.n (.r [.slot (b+0),.slot (b+1)]) .o .o) .o)))
theorem nX(C:CC)(h:Hp)(t0:V)(q:kkQ):fnI Y C Tryz.f51 2 eO [t0] h q=aU C h.length h t0 q:=by rfl
theorem nV(b:Nat):okB Tryz.prog Tryz.f51 (eO b)=true:=by rfl
theorem nW(hh:aU (CX Y) h.length h t0 (qN h.length v h2)):CI Y F.aU [t0] h v h2:=
 CI.of (fn:=Tryz.f51) (m:=2) (a:=eO) rfl (fun _=>rfl) Tryz.func51 (nV _) (by rw[nX];exact hh)
def bf(C:CC)(b:Nat)(h:Hp)(a:V)(q:kQ):Prop:=let h:Hp:=h++List.replicate 2 nnQ
 rj h .eql a nSQ fun c=>cnd c (q nSQ h) (rq (b+0) 0 [nPQ] [] h fun c h=>apV false (b+1) 1 24 c a h q)
def fI(b:Nat):Ann:=(.n .x .o (.n .x .o (.n .x (.n (.r [.slot (b+0),.slot (b+1)]) .o .o) .o)))
theorem pu(C:CC)(h:Hp)(t0:V)(q:kkQ):fnI Y C Tryz.f52 2 fI [t0] h q=bf C h.length h t0 q:=by rfl
theorem qU(b:Nat):okB Tryz.prog Tryz.f52 (fI b)=true:=by rfl
theorem pq(hh:bf (CX Y) h.length h t0 (qN h.length v h2)):CI Y F.bf [t0] h v h2:=
 CI.of (fn:=Tryz.f52) (m:=2) (a:=fI) rfl (fun _=>rfl) Tryz.func52 (qU _) (by rw[pu];exact hh)
def iQ(C:CC)(b:Nat)(a c d e:V):aL:=fun l h q=>bIQ .add d (I 1) fun f=>bfQ 3 a fun g=>b1Q h g fun g=>blQ g fun g=>bIQ .lss f g fun f=>gqQ f true h (ge l 1) fun g h=>gbQ f true h (faV 3 a) fun i h=>gbQ f true h (ld1 h i) fun i h=>gqQ f true h d fun j h=>gbQ f true h (biI .add j (I 1)) fun j h=>gbQ f true h (ixV h 1 i j) fun i h=>gbQ f true h (ld1 h i) fun i h=>gbQ f true h (bj i) fun i h=>gbQ f true h (biI .lss g i) fun g h=>bpQ f g (B false) fun f=>cnd f (bnd (ldA h 6 a) fun a=>bnd (bld [(0,1),(1,1)] [.int .i64 0,.int .i64 0] [(0,e),(1,(ge l 1))]) fun e=>clQ C h F.jJ [a,c,d,e] fun a h=>e2Q a fun a c=>nzQ c (q .ret [(.d (.pl (.pointer none))),c] h) (cR 1 [nPQ] [(0,a)] h fun a h=>apV false (b+3) 1 24 (ge l 0) a h fun a h=>bIQ .add (ge l 1) (I 1) fun c=>q .normal [a,c] h)) (q (.exit 4) [ge l 0] h)
def kL(C:CC)(b:Nat)(a c d e:V):aL:=fun l h q=>cIQ .lss (ge l 2) e (bnd (ldA h 6 a) fun e=>clQ C h F.lF [e,d,ge l 2] fun e h=>e2Q e fun e f=>nzQ f (q .ret [(.d (.pl (.pointer none))),f] h) (cR 1 [nPQ] [(0,e)] h fun e h=>apV false (b+2) 1 24 (ge l 0) e h fun e h=>lp (iQ C b a c d (ge l 2)) [] h [nSQ,I 0] h (exK [((.exit 4),fun a h=>cR 1 [nPQ] [(0,(ge a 0))] h fun a h=>apV false (b+4) 1 24 (ge l 1) a h fun a h=>bIQ .add (ge l 2) (I 1) fun c=>q .normal [e,a,c] h),(.ret,fun a h=>q .ret [ge a 0,ge a 1] h)]))) (q (.exit 2) [ge l 0,ge l 1] h)
def kM(C:CC)(b:Nat)(a c d e f:V):aL:=fun l h q=>cIQ .lss (ge l 0) f (bxQ h 1 e (ge l 0) fun e=>b1Q h e fun e=>blQ e fun e=>lp (kL C b a c (ge l 0) e) [(b+3)] h [nSQ,nSQ,I 0] h (exK [((.exit 2),fun a h=>bfQ 0 d fun c=>bfQ 1 c fun c=>sm h d c<|b1Q h c fun c=>cR 1 [nPQ] [(0,(ge a 0))] h fun e h=>sp h c [d]<|apV false (b+5) 1 24 c e h fun c h=>bfQ 0 d fun e=>bfQ 2 e fun e=>sm h d e<|b1Q h e fun e=>cR 1 [nPQ] [(0,(ge a 1))] h fun a h=>apV false (b+6) 1 24 e a h fun a h=>bfQ 0 d fun e=>bfQ 1 e fun e=>stD h 1 e c fun _ h=>bfQ 0 d fun c=>bfQ 2 c fun c=>stD h 1 c a fun _ h=>bIQ .add (ge l 0) (I 1) fun a=>q .normal [a] h),(.ret,fun a h=>q .ret [ge a 0,ge a 1] h)])) (q (.exit 0) [] h)
def gW(C:CC)(b:Nat)(h:Hp)(a:V)(q:kQ):Prop:=let h:Hp:=h++List.replicate 7 nnQ
 cQ (b+0) a h fun a h=>bfQ 0 a fun c=>bnd (ldA h 3 c) fun c=>clQ C h F.lU [c] fun c h=>e2Q c fun c d=>nzQ d (q (.tup [(.d (.pl (.pointer none))),d]) h) (bfQ 0 a fun d=>bfQ 0 d fun d=>b1Q h d fun d=>bnd (bld [(0,1),(1,1),(2,1)] [nPQ,nPQ,nPQ] [(0,d)]) fun d=>cQ (b+1) d h fun d h=>bfQ 3 a fun e=>b1Q h e fun e=>blQ e fun f=>lp (kM C b a c d e f) [(b+2),(b+3),(b+4)] h [I 0] h (exK [((.exit 0),fun a h=>q (.tup [d,I 0]) h),(.ret,fun a h=>q (.tup [ge a 0,ge a 1]) h)]))
def oP(b:Nat):Ann:=(.n .x (.n (.r [.slot (b+0)]) .o .o) (.n .x .o (.n .x .o (.n .x (.n (.r [.slot (b+1)]) .o .o) (.n .x (.n .x .o (.n .x (.n (.l [35] [1,4,6,33,34] [((.exit 0),[],[6]),(.ret,[2,3],[])] [(b+2),(b+3),(b+4)]) (.n .x .o (.n .x .o (.n .x (.n .x (.n .x .o (.n .x .o (.n .x .o (.n .x (.n .x .o (.n .x (.n (.l [9,10,42] [1,4,6,7,33,34,35,41] [((.exit 2),[9,10],[1,4,6,33,34,35]),(.ret,[2,3],[])] [(b+3)]) (.n .x .o (.n .x .o (.n .x (.n .x (.n .x .o (.n .x .o (.n .x .o (.n .x (.n (.r [.o,.slot (b+2)]) .o .o) (.n .x .o (.n .x (.n .x .o (.n .x (.n (.l [14,15] [1,4,6,7,9,10,11,33,34,35,41,42] [((.exit 4),[14],[1,4,6,7,9,10,33,34,35,41,42]),(.ret,[2,3],[])] []) (.n .x .o (.n .x (.n .x (.n .x .o (.n .x .o (.n (.r [.o,.slot (b+3)]) .o .o))) .o) .o)) .o) .o)) (.n (.r [.o,.slot (b+4)]) .o .o))))))) .o) .o))) .o) .o)) (.n (.r [.o,.slot (b+5),.o,.slot (b+6)]) .o .o))))) .o) .o))) .o) .o)) .o)))))
theorem zn(C:CC)(h:Hp)(t0:V)(q:kkQ):fnI Y C Tryz.f23 7 oP [t0] h q=gW C h.length h t0 q:=by kernel_rfl
theorem zk(b:Nat):okB Tryz.prog Tryz.f23 (oP b)=true:=of_decide_eq_true ah
theorem zm(hh:gW (CX Y) h.length h t0 (qN h.length v h2)):CI Y F.gW [t0] h v h2:=
 CI.of (fn:=Tryz.f23) (m:=7) (a:=oP) rfl (fun _=>rfl) Tryz.func23 (zk _) (by rw[zn];exact hh)
def dG(C:CC)(a c d:V)(q:kQ):Prop:=let h:Hp:=[]
 bfQ 0 a fun a=>bfQ 0 a fun a=>b1Q h a fun a=>clQ C h F.gX [a,c,d] fun a h=>e2Q a fun a c=>bIQ .lss a (I 0) fun a=>q a h
theorem uQ(h:dG (CX Y) t0 t1 t2 (out v)):CP Y F.dG [t0,t1,t2] v:=CPo 0 .o Tryz.func27 h
def iG(C:CC)(a c d:V):aL:=fun l h q=>cIQ .lss (ge l 2) d (jn (fun a h=>bIQ .add (ge l 2) (I 1) fun c=>q .normal [ge a 0,ge a 1,c] h) fun d=>bxQ h 1 c (ge l 2) fun c=>b1Q h c fun c=>bIQ .eql (ge l 1) (I 0) fun e=>jn (fun a h=>d [ge a 0,ge a 1] h) fun d=>cnd e (bfQ 0 a fun a=>bfQ 0 a fun a=>b1Q h a fun a=>clQ C h F.qG [a,ge l 0,c] fun a h=>e2Q a fun a c=>d [a,c] h) (d [ge l 0,ge l 1] h)) (q (.exit 0) [ge l 0,ge l 1] h)
def d8(C:CC)(a c:V)(q:kQ):Prop:=let h:Hp:=.replicate 1 nnQ
 bfQ 0 a fun d=>bfQ 0 d fun d=>b1Q h d fun d=>ciQ C h F.oY [d] 0 fun d h=>e2Q d fun d e=>blQ c fun f=>lp (iG C a c f) [] h [d,e,I 0] h (exK [((.exit 0),fun a h=>q (.tup [ge a 0,ge a 1]) h)])
theorem vM(h:d8 (CX Y) t0 t1 (out v)):CP Y F.d8 [t0,t1] v:=CPo 1 (aD (nBQ (nRQ [.inl 0]) (nCQ (aD (nCQ (.n (.l [6,7,20] [0,18,19] [((.exit 0),[6,7],[])] []) (df (nCQ (.n (.j [6,7] [0,18,19,20]) (df (nJQ [6,7] [0,18,19,20])) .o))) .o)))))) Tryz.func26 h
def fq(C:CC)(a c d e f g:V):aL:=fun l h q=>cIQ .lss (ge l 1) g (jn (fun a h=>bIQ .add (ge l 1) (I 1) fun c=>q .normal [ge a 0,c] h) fun g=>bxQ h 1 f (ge l 1) fun f=>b1Q h f fun f=>bfQ 0 a fun i=>bfQ 2 i fun i=>b1Q h i fun i=>bIQ .sub c (I 1) fun c=>bxQ h 1 i c fun c=>b1Q h c fun c=>bxQ h 1 c (ge l 1) fun c=>b1Q h c fun c=>bxQ h 1 c d fun c=>b1Q h c fun c=>cR 3 [nPQ] [(0,f),(1,c),(2,e)] h fun c h=>clQ C h F.d8 [a,c] fun c h=>e2Q c fun c d=>nzQ d (q .ret [nSQ,d] h) (rj h .eql (ge l 0) nSQ fun d=>gqQ d false h a fun a h=>gqQ d false h c fun e h=>gqQ d false h (ge l 0) fun f h=>gd d false h (fun q=>clQ C h F.dG [a,e,f] q) fun a h=>bpQ d (B true) a fun a=>jn (fun a h=>g [ge a 0] h) fun d=>cnd a (d [c] h) (d [ge l 0] h))) (q (.exit 4) [ge l 0] h)
def gQ(C:CC)(a c d e f:V):aL:=fun l h q=>cIQ .lss (ge l 1) f (bxQ h 1 e (ge l 1) fun e=>b1Q h e fun e=>bIQ .sub d (I 1) fun f=>bxQ h 1 c f fun c=>b1Q h c fun c=>blQ c fun f=>lp (fq C a d (ge l 1) e c f) [] h [nSQ,I 0] h (exK [((.exit 4),fun a h=>cR 1 [nPQ] [(0,(ge a 0))] h fun a h=>apV false 1 1 24 (ge l 0) a h fun a h=>bIQ .add (ge l 1) (I 1) fun c=>q .normal [a,c] h),(.ret,fun a h=>q .ret [ge a 0,ge a 1] h)])) (q (.exit 2) [ge l 0] h)
def io(C:CC)(a:V):aL:=fun l h q=>bfQ 0 a fun c=>bfQ 1 c fun c=>b1Q h c fun c=>blQ c fun c=>cIQ .lss (ge l 1) c (bfQ 0 a fun c=>bfQ 1 c fun c=>b1Q h c fun c=>bxQ h 1 c (ge l 1) fun c=>b1Q h c fun c=>blQ c fun d=>lp (gQ C a (ge l 0) (ge l 1) c d) [] h [nSQ,I 0] h (exK [((.exit 2),fun a h=>cR 1 [nPQ] [(0,(ge a 0))] h fun a h=>apV false 2 1 24 (ge l 0) a h fun a h=>bIQ .add (ge l 1) (I 1) fun c=>q .normal [a,c] h),(.ret,fun a h=>q .ret [ge a 0,ge a 1] h)])) (q (.exit 0) [ge l 0] h)
def bQ(C:CC)(a:V)(q:kQ):Prop:=let h:Hp:=.replicate 3 nnQ
 bfQ 0 a fun c=>bfQ 1 c fun c=>b1Q h c fun c=>bxQ h 1 c (I 0) fun c=>b1Q h c fun c=>rq 0 1 [nPQ] [(0,c)] h fun c h=>lp (io C a) [1] h [c,I 1] h (exK [((.exit 0),fun a h=>q (.tup [ge a 0,I 0]) h),(.ret,fun a h=>q (.tup [ge a 0,ge a 1]) h)])
def ir:Ann:=(aD (nBQ (nRQ [.slot 0]) (nCQ (aD (nCQ (.n (.l [4,5] [0] [((.exit 0),[4],[]),(.ret,[2,3],[])] [1]) (aD (nCQ (nCQ (aD (nBQ (aD (nCQ (.n (.l [6,38] [0,4,5,36,37] [((.exit 2),[6],[0,4,5]),(.ret,[2,3],[])] []) (df (nCQ (nCQ (df (nBQ (aD (nCQ (.n (.l [9,49] [0,4,5,6,7,8,36,37,38,47,48] [((.exit 4),[9],[0,4,5,6,36,37,38]),(.ret,[2,3],[])] []) (df (nCQ (.n (.j [9] [0,4,5,6,7,8,36,37,38,47,48,49]) (RO (nJQ [9] [0,4,5,6,7,8,36,37,38,47,48,49])) .o))) .o))) (nRQ [.o,.slot 1])))))) .o))) (nRQ [.o,.slot 2])))))) .o))))))
theorem rV(C:CC)(t0:V)(q:kkQ):fnD Y C Tryz.f24 3 ir [t0] q=bQ C t0 q:=by kernel_rfl
theorem rH:okB Tryz.prog Tryz.f24 ir=true:=bb
theorem rS(h:bQ (CX Y) t0 (out v)):CP Y F.bQ [t0] v:=
 CP.of (fn:=Tryz.f24) (m:=3) (a:=ir) rfl (fun _=>rfl) Tryz.func24 rH (by rw[rV];exact h)
def gI(C:CC)(a c d e f g:V):aL:=fun l h q=>cIQ .lss (ge l 1) g (jn (fun a h=>bIQ .add (ge l 1) (I 1) fun c=>q .normal [ge a 0,c] h) fun g=>bxQ h 1 f (ge l 1) fun f=>b1Q h f fun f=>bfQ 0 a fun i=>bfQ 2 i fun i=>b1Q h i fun i=>bxQ h 1 i c fun c=>b1Q h c fun c=>bxQ h 1 c d fun c=>b1Q h c fun c=>bxQ h 1 c (ge l 1) fun c=>b1Q h c fun c=>cR 3 [nPQ] [(0,e),(1,c),(2,f)] h fun c h=>clQ C h F.d8 [a,c] fun c h=>e2Q c fun c d=>nzQ d (q .ret [nSQ,d] h) (rj h .eql (ge l 0) nSQ fun d=>gqQ d false h a fun a h=>gqQ d false h c fun e h=>gqQ d false h (ge l 0) fun f h=>gd d false h (fun q=>clQ C h F.dG [a,e,f] q) fun a h=>bpQ d (B true) a fun a=>jn (fun a h=>g [ge a 0] h) fun d=>cnd a (d [c] h) (d [ge l 0] h))) (q (.exit 4) [ge l 0] h)
def gJ(C:CC)(a c d e f:V):aL:=fun l h q=>cIQ .lss (ge l 0) f (bxQ h 1 e (ge l 0) fun e=>b1Q h e fun e=>bIQ .add d (I 1) fun f=>bxQ h 1 c f fun f=>b1Q h f fun f=>blQ f fun g=>lp (gI C a d (ge l 0) e f g) [] h [nSQ,I 0] h (exK [((.exit 4),fun a h=>bxQ h 1 c d fun c=>b1Q h c fun c=>bxQ h 1 c (ge l 0) fun c=>stD h 1 c (ge a 0) fun _ h=>bIQ .add (ge l 0) (I 1) fun a=>q .normal [a] h),(.ret,fun a h=>q .ret [ge a 0,ge a 1] h)])) (q (.exit 2) [] h)
def gK(C:CC)(a c:V):aL:=fun l h q=>cIQ .geq (ge l 0) (I 0) (bfQ 0 a fun d=>bfQ 1 d fun d=>b1Q h d fun d=>bxQ h 1 d (ge l 0) fun d=>b1Q h d fun d=>ciQ C h F.bf [d] 1 fun d h=>bxQ h 1 c (ge l 0) fun e=>stD h 1 e d fun _ h=>bfQ 0 a fun d=>bfQ 1 d fun d=>b1Q h d fun d=>bxQ h 1 d (ge l 0) fun d=>b1Q h d fun d=>blQ d fun e=>lp (gJ C a c (ge l 0) d e) [] h [I 0] h (exK [((.exit 2),fun a h=>ghG [.cls 0] h fun h=>bIQ .sub (ge l 0) (I 1) fun a=>q .normal [a] h),(.ret,fun a h=>q .ret [ge a 0,ge a 1] h)])) (q (.exit 0) [] h)
def cE(C:CC)(a:V)(q:kQ):Prop:=let h:Hp:=.replicate 2 nnQ
 bfQ 0 a fun c=>bfQ 1 c fun c=>b1Q h c fun c=>ciQ C h F.aU [c] 0 fun c h=>ghG [.opn 0] h fun h=>bfQ 0 a fun d=>bfQ 1 d fun d=>b1Q h d fun d=>blQ d fun d=>bIQ .sub d (I 2) fun d=>lp (gK C a c) [] h [d] h (exK [((.exit 0),fun a h=>q (.tup [c,I 0]) h),(.ret,fun a h=>q (.tup [ge a 0,ge a 1]) h)])
def kD:Ann:=(aD (.n (.g [.opn 0]) (nRQ [.inl 0]) (nCQ (aD (nCQ (.n (.l [5] [0,4] [((.exit 0),[],[4]),(.ret,[2,3],[])] []) (aD (.n (.g [.cls 0]) (nCQ (nBQ (nRQ [.inl 1]) (aD (nCQ (.n (.l [47] [0,4,5,45,46] [((.exit 2),[],[0,4,5]),(.ret,[2,3],[])] []) (df (nCQ (nCQ (df (nCQ (aD (nCQ (.n (.l [8,58] [0,4,5,6,7,45,46,47,56,57] [((.exit 4),[8],[0,4,5,6,45,46,47]),(.ret,[2,3],[])] []) (df (nCQ (.n (.j [8] [0,4,5,6,7,45,46,47,56,57,58]) (RO (nJQ [8] [0,4,5,6,7,45,46,47,56,57,58])) .o))) .o)))))))) .o))))) .o)) .o))))))
theorem uk(C:CC)(t0:V)(q:kkQ):fnD Y C Tryz.f25 2 kD [t0] q=cE C t0 q:=by kernel_rfl
theorem ui:okB Tryz.prog Tryz.f25 kD=true:=bb
theorem uj(h:cE (CX Y) t0 (out v)):CP Y F.cE [t0] v:=
 CP.of (fn:=Tryz.f25) (m:=2) (a:=kD) rfl (fun _=>rfl) Tryz.func25 ui (by rw[uk];exact h)
def jy(C:CC)(a c d e:V):aL:=fun l h q=>cIQ .lss (ge l 2) e (bxQ h 1 d (ge l 2) fun d=>b1Q h d fun d=>bIQ .gtr c (I 0) fun e=>jn (fun a h=>cR 1 [nPQ] [(0,(ge a 0))] h fun c h=>apV false 2 1 24 (ge l 1) c h fun c h=>bIQ .add (ge l 2) (I 1) fun d=>q .normal [ge a 1,c,d] h) fun f=>cnd e (bfQ 0 a fun e=>bfQ 2 e fun e=>b1Q h e fun e=>bIQ .sub c (I 1) fun g=>bxQ h 1 e g fun e=>b1Q h e fun e=>bIQ .sub c (I 1) fun c=>bxQ h 1 (ge l 0) c fun c=>b1Q h c fun c=>bxQ h 1 e c fun c=>b1Q h c fun c=>bxQ h 1 c (ge l 2) fun c=>b1Q h c fun c=>cR 2 [nPQ] [(0,c),(1,d)] h fun c h=>clQ C h F.d8 [a,c] fun a h=>e2Q a fun a c=>nzQ c (q .ret [c,nSQ,nSQ] h) (f [a,ge l 0] h)) (f [d,ge l 0] h)) (q (.exit 2) [ge l 0,ge l 1] h)
def mj(C:CC)(a c d:V):aL:=fun l h q=>cIQ .lss (ge l 1) d (jn (fun a h=>bIQ .add (ge l 1) (I 1) fun c=>q .normal [ge a 0,c] h) fun d=>bxQ h 1 c (ge l 1) fun e=>b1Q h e fun e=>bxQ h 1 c (ge l 0) fun c=>b1Q h c fun c=>clQ C h F.dG [a,e,c] fun a h=>jn (fun a h=>d [ge a 0] h) fun c=>cnd a (c [ge l 1] h) (c [ge l 0] h)) (q (.exit 4) [ge l 0] h)
def mp(C:CC)(a c d:V):aL:=fun l h q=>cIQ .lss (ge l 1) d (bxQ h 1 c (ge l 1) fun c=>b1Q h c fun c=>blQ c fun d=>lp (jy C a (ge l 1) c d) [] h [ge l 0,nSQ,I 0] h (exK [((.exit 2),fun c h=>blQ (ge c 1) fun d=>lp (mj C a (ge c 1) d) [] h [I 0,I 0] h (exK [((.exit 4),fun a h=>cR 1 [.int .i64 0] [(0,(ge a 0))] h fun a h=>apV false 3 1 8 (ge c 0) a h fun a h=>bIQ .add (ge l 1) (I 1) fun c=>q .normal [a,c] h)])),(.ret,fun a h=>q .ret [ge a 0,ge a 1,ge a 2] h)])) (q (.exit 0) [ge l 0] h)
def gH(C:CC)(a:V)(q:kQ):Prop:=let h:Hp:=.replicate 5 nnQ
 cQ 0 a h fun a h=>bnd (ldA h 6 a) fun c=>clQ C h F.fA [c] fun c h=>nzQ c (q (.tup [nSQ,nSQ,c]) h) (bnd (ldA h 6 a) fun a=>ciQ C h F.gW [a] 1 fun a h=>e2Q a fun a c=>nzQ c (q (.tup [nSQ,nSQ,c]) h) (clQ C h F.cE [a] fun c h=>e2Q c fun c d=>nzQ d (q (.tup [nSQ,nSQ,d]) h) (blQ c fun d=>lp (mp C a c d) [2] h [nSQ,I 0] h (exK [((.exit 0),fun a h=>bxQ h 1 c (I 0) fun c=>b1Q h c fun c=>bxQ h 1 (ge a 0) (I 0) fun d=>b1Q h d fun d=>bxQ h 1 c d fun c=>b1Q h c fun c=>ciQ C h F.aM [c] 4 fun c h=>q (.tup [ge a 0,c,I 0]) h),(.ret,fun a h=>q (.tup [ge a 1,ge a 2,ge a 0]) h)]))))
theorem A0(h:gH (CX Y) t0 (out v)):CP Y F.gH [t0] v:=CPo 5 (nBQ (nRQ [.slot 0]) (aD (nBQ (nRQ [.inl 1]) (yu (nBQ (aD (nCQ (.n (.l [2,37] [6,7,36] [((.exit 0),[2],[7]),(.ret,[4,2,3],[])] [2]) (df (nCQ (nCQ (df (nBQ (aD (nCQ (.n (.l [2,9,45] [6,7,8,36,37,43,44] [((.exit 2),[2,9],[6,7,36,37]),(.ret,[4,2,3],[])] []) (df (nCQ (nCQ (aD (nBQ (aD (nJQ [11,2] [6,7,8,9,36,37,43,44,45])) (nRQ [.o,.slot 2])))))) .o))) (aD (nBQ (aD (nCQ (.n (.l [12,87] [2,6,7,9,36,37,86] [((.exit 4),[12],[2,6,7,36,37])] []) (df (nCQ (.n (.j [12] [2,6,7,9,36,37,86,87]) (df (nJQ [12] [2,6,7,9,36,37,86,87])) .o))) .o))) (nRQ [.o,.slot 3])))))))) .o))) (nCQ (nRQ [.inl 4]))))))) Tryz.func7 h
def ip(C:CC)(a:V)(q:kQ):Prop:=let h:Hp:=.replicate 2 nnQ
 cQ 0 a h fun a h=>bnd (ldA h 6 a) fun c=>clQ C h F.fA [c] fun c h=>nzQ c (q (.tup [nSQ,c]) h) (bnd (ldA h 6 a) fun a=>ciQ C h F.gW [a] 1 fun a h=>e2Q a fun a c=>nzQ c (q (.tup [nSQ,c]) h) (clQ C h F.bQ [a] fun a h=>e2Q a fun a c=>q (.tup [a,c]) h))
theorem wJ(h:ip (CX Y) t0 (out v)):CP Y F.ip [t0] v:=CPo 2 (nBQ (nRQ [.slot 0]) (aD (nCQ (nRQ [.inl 1])))) Tryz.func6 h
def jX(C:CC)(a c:V):aL:=fun l h q=>blQ a fun d=>cIQ .lss (ge l 0) d (bxQ h 1 a (ge l 0) fun a=>b1Q h a fun a=>bxQ h 1 c (ge l 0) fun c=>b1Q h c fun c=>cIQ .neq a c (q .ret [B false] h) (bIQ .add (ge l 0) (I 1) fun a=>q .normal [a] h)) (q (.exit 0) [] h)
def ix(C:CC)(a c:V)(q:kQ):Prop:=let h:Hp:=[]
 blQ a fun d=>blQ c fun e=>cIQ .neq d e (q (B false) h) (lp (jX C a c) [] h [I 0] h (exK [((.exit 0),fun a h=>q (B true) h),(.ret,fun a h=>q (ge a 0) h)]))
theorem yp(h:ix (CX Y) t0 t1 (out v)):CP Y F.ix [t0,t1] v:=CPo 0 (df (nCQ (aD (nCQ (.n (.l [5] [0,1] [((.exit 0),[],[]),(.ret,[4],[])] []) .o .o))))) Tryz.func18 h
def jW(C:CC)(a c:V):aL:=fun l h q=>blQ a fun d=>cIQ .lss (ge l 0) d (bxQ h 2 a (ge l 0) fun a=>bnd (ldA h 2 a) fun a=>bxQ h 2 c (ge l 0) fun c=>bnd (ldA h 2 c) fun c=>bnd (biA [.str [],.str []] .neq a c) fun a=>cnd a (q .ret [B false] h) (bIQ .add (ge l 0) (I 1) fun a=>q .normal [a] h)) (q (.exit 0) [] h)
def fL(C:CC)(a c:V)(q:kQ):Prop:=let h:Hp:=[]
 blQ a fun d=>blQ c fun e=>cIQ .neq d e (q (B false) h) (lp (jW C a c) [] h [I 0] h (exK [((.exit 0),fun a h=>q (B true) h),(.ret,fun a h=>q (ge a 0) h)]))
theorem yn(h:fL (CX Y) t0 t1 (out v)):CP Y F.fL [t0,t1] v:=CPo 0 (df (nCQ (aD (nCQ (.n (.l [5] [0,1] [((.exit 0),[],[]),(.ret,[4],[])] []) .o .o))))) Tryz.func13 h
def bX(C:CC)(a:V)(q:kQ):Prop:=let h:Hp:=.replicate 2 nnQ
 alV 0 [.d (.str []),.d (.str [])] h fun c h=>clQ C h F.j8 [a,I 1] fun a h=>e2Q a fun a d=>alV 1 [.d (.str []),.d (.str [])] h fun d h=>stD h 2 d a fun _ h=>bnd (ldA h 2 d) fun a=>stD h 2 c a fun _ h=>bnd (ldA h 2 c) fun a=>q a h
theorem wS(h:bX (CX Y) t0 (out v)):CP Y F.bX [t0] v:=CPo 2 (nBQ (nRQ [.slot 0]) (nCQ (nRQ [.o,.slot 1]))) Tryz.func17 h
def fk(C:CC)(q:kQ):Prop:=let h:Hp:=.replicate 1 nnQ
 alV 0 [.d nPQ,.d nPQ,.d nPQ,.d nPQ,.d (.str []),.d (.str [])] h fun a h=>cR 3 [.int .i64 0] [(0,(I 0)),(1,(I 0)),(2,(I 0))] h fun c h=>cR 3 [.int .i64 0] [(0,(I (-1))),(1,(I 1)),(2,(I 0))] h fun d h=>cR 2 [nPQ] [(0,c),(1,d)] h fun c h=>bnd (bld [(0,1),(1,1)] [.int .i64 0,.int .i64 0] [(0,(I 1)),(1,(I 0))]) fun d=>cR 1 [.int .i64 0,.int .i64 0] [(0,d)] h fun d h=>bnd (bld [(0,1),(1,1)] [.int .i64 0,.int .i64 0] [(0,(I 1)),(1,(I 0))]) fun e=>cR 1 [.int .i64 0,.int .i64 0] [(0,e)] h fun e h=>cR 2 [nPQ] [(0,d),(1,e)] h fun d h=>cR 3 [.int .i64 0] [(0,(I 0)),(1,(I 0)),(2,(I 0))] h fun e h=>cR 3 [.int .i64 0] [(0,(I (-4))),(1,(I 4)),(2,(I (-1)))] h fun f h=>cR 3 [.int .i64 0] [(0,(I 2)),(1,(I 3)),(2,(I 5))] h fun g h=>cR 3 [nPQ] [(0,c),(1,c),(2,c)] h fun c h=>bnd (bld [(0,1),(1,1),(2,1)] [nPQ,nPQ,nPQ] [(0,g),(1,c),(2,d)]) fun c=>cR 1 [nPQ] [(0,e)] h fun d h=>cR 2 [nPQ] [(0,e),(1,f)] h fun e h=>cR 1 [nPQ] [(0,f)] h fun f h=>cR 3 [nPQ] [(0,d),(1,e),(2,f)] h fun d h=>clQ C h F.bX [I 0] fun e h=>bnd (bld [(0,3),(3,1),(4,2)] [nPQ,nPQ,nPQ,nPQ,.str [],.str []] [(0,c),(1,d),(2,e)]) fun c=>stD h 6 a c fun _ h=>bnd (ldA h 6 a) fun a=>q a h
theorem ve(h:fk (CX Y) (out v)):CP Y F.fk [] v:=CPo 1 (nCQ (nRQ [.slot 0])) Tryz.func14 h
def jR(C:CC)(a c:V):aL:=fun l h q=>bIQ .rem c (I 5) fun d=>bfQ 68 a fun e=>bnd (ixP 5 1 e d) fun d=>b1Q h d fun d=>bnd (cvI .i64 d) fun d=>bIQ .rem d (I 3) fun d=>bIQ .add (I 1) d fun d=>cIQ .lss (ge l 1) d (bIQ .rem c (I 5) fun c=>bfQ 73 a fun a=>bnd (ixP 5 9 a c) fun a=>bnd (ixP 3 3 a (ge l 1)) fun a=>bnd (ldA h 3 a) fun a=>alD 3 1 ([.int .i8 0,.int .i8 0,.int .i8 0]) h fun c h=>stD h 3 c a fun _ h=>bnd (ixP 3 1 c (I 0)) fun a=>b1Q h a fun a=>bnd (cvI .i64 a) fun a=>bIQ .rem a (I 9) fun a=>bnd (ixP 3 1 c (I 1)) fun d=>b1Q h d fun d=>bnd (cvI .i64 d) fun d=>bIQ .rem d (I 9) fun d=>bnd (ixP 3 1 c (I 2)) fun c=>b1Q h c fun c=>bnd (cvI .i64 c) fun c=>bIQ .rem c (I 9) fun c=>cR 3 [.int .i64 0] [(0,a),(1,d),(2,c)] h fun a h=>cR 1 [nPQ] [(0,a)] h fun a h=>apV false 4 1 24 (ge l 0) a h fun a h=>bIQ .add (ge l 1) (I 1) fun c=>q .normal [a,c] h) (q (.exit 2) [ge l 0] h)
def jS(C:CC)(a c:V):aL:=fun l h q=>bfQ 0 c fun d=>bfQ 1 d fun d=>b1Q h d fun d=>blQ d fun d=>cIQ .lss (ge l 0) d (lp (jR C a (ge l 0)) [3] h [nSQ,I 0] h (exK [((.exit 2),fun a h=>bfQ 3 c fun d=>b1Q h d fun d=>cR 1 [nPQ] [(0,(ge a 0))] h fun a h=>apV false 5 1 24 d a h fun a h=>bfQ 3 c fun c=>stD h 1 c a fun _ h=>bIQ .add (ge l 0) (I 1) fun a=>q .normal [a] h)])) (q (.exit 0) [] h)
def iu(C:CC)(a:V)(q:kQ):Prop:=let h:Hp:=.replicate 6 nnQ
 cQ 0 a h fun a h=>alV 1 [.d nPQ,.d nPQ,.d nPQ,.d nPQ,.d (.str []),.d (.str [])] h fun c h=>bfQ 0 a fun d=>bnd (ldA h 68 d) fun d=>clQ C h F.iw [d] fun d h=>bfQ 118 a fun e=>bnd (ldA h 2 e) fun e=>clQ C h F.eJ [e] fun e h=>clQ C h F.nJ [e] fun e h=>bnd (bld [(0,3),(3,1),(4,2)] [nPQ,nPQ,nPQ,nPQ,.str [],.str []] [(0,d),(2,e)]) fun d=>alV 2 [.d nPQ,.d nPQ,.d nPQ,.d nPQ,.d (.str []),.d (.str [])] h fun e h=>stD h 6 e d fun _ h=>lp (jS C a e) [3,4] h [I 0] h (exK [((.exit 0),fun a h=>bnd (ldA h 6 e) fun a=>stD h 6 c a fun _ h=>bnd (ldA h 6 c) fun a=>q a h)])
theorem yl(h:iu (CX Y) t0 (out v)):CP Y F.iu [t0] v:=CPo 6 (nBQ (nRQ [.slot 0,.slot 1]) (nBQ (nRQ [.o,.o,.o,.slot 2]) (nCQ (aD (nCQ (.n (.l [4] [1,2,3] [((.exit 0),[],[2,3])] [3,4]) (aD (nCQ (nCQ (aD (nBQ (aD (nCQ (.n (.l [5,6] [1,2,3,4] [((.exit 2),[5],[1,2,3,4])] [3]) (aD (nCQ (nCQ (nBQ (nRQ [.slot 3]) (nRQ [.o,.o,.slot 4]))))) .o))) (nRQ [.o,.slot 5])))))) .o)))))) Tryz.func5 h
def iO(C:CC)(b:Nat)(a c:V):aL:=fun l h q=>bnd (bj a) fun d=>bnd (biI .lss (ge l 1) d) fun d=>cnd d (bnd (ixV h 1 a (ge l 1)) fun a=>bnd (ld1 h a) fun a=>bnd (biI .lss c (I 0)) fun c=>jn (fun a h=>cal C.p h (.fn F.bX [] []) [(ge a 0)] fun a h=>cR 1 [.str [],.str []] [(0,a)] h fun a h=>apV false (b+0) 2 32 (ge l 0) a h fun a h=>bnd (biI .add (ge l 1) (I 1)) fun c=>q .normal [a,c] h) fun d=>cnd c (bnd (biI .sub (I 0) a) fun a=>d [a] h) (d [a] h)) (q (.exit 0) [(ge l 0)] h)
def ef(C:CC)(b:Nat)(h:Hp)(a c:V)(q:kkQ):Prop:=let h:Hp:=h++List.replicate 1 nnQ
 cal C.p h (.fn F.ql [] []) [a,c] fun a h=>ext a 0 fun d=>ext a 1 fun a=>lp (iO C b c d) [] h [(.d nPQ),(I 0)] h (exK [((.exit 0),fun a h=>q (ge a 0) h)])
def oF(b:Nat):Ann:=(.n .x .o (.n .x .o (.n .x .o (.n .x (.n .x .o (.n .x (.n (.l [7,8] [1,5] [((.exit 0),[7],[])] []) (.n .x .o (.n .x (.n .x (.n .x .o (.n .x (.n .x .o (.n (.j [9] [1,5,7,8]) .o .o)) (.n (.r [.o,.o,.slot (b+0)]) .o .o))) .o) .o)) .o) .o)) .o))))
theorem yO(C:CC)(h:Hp)(t0:V)(t1:V)(q:kkQ):fnI Y C Tryz.f30 1 oF [t0,t1] h q=ef C h.length h t0 t1 q:=by rfl
theorem yM(b:Nat):okB Tryz.prog Tryz.f30 (oF b)=true:=by rfl
theorem yN(hh:ef (CX Y) h.length h t0 t1 (qN h.length v h2)):CI Y F.ef [t0,t1] h v h2:=
 CI.of (fn:=Tryz.f30) (m:=1) (a:=oF) rfl (fun _=>rfl) Tryz.func30 (yM _) (by rw[yO];exact hh)
def kJ(C:CC)(a c:V):aL:=fun l h q=>blQ a fun d=>cIQ .lss (ge l 1) d (bxQ h 2 a (ge l 1) fun a=>bnd (ldA h 2 a) fun a=>bxQ h 2 c (ge l 1) fun c=>bnd (ldA h 2 c) fun c=>clQ C h F.fS [a,c] fun a h=>cR 1 [.str [],.str []] [(0,a)] h fun a h=>apV false 0 2 32 (ge l 0) a h fun a h=>bIQ .add (ge l 1) (I 1) fun c=>q .normal [a,c] h) (q (.exit 0) [ge l 0] h)
def fu(C:CC)(a c:V)(q:kQ):Prop:=let h:Hp:=.replicate 1 nnQ
 lp (kJ C a c) [] h [nSQ,I 0] h (exK [((.exit 0),fun a h=>q (ge a 0) h)])
theorem yL(h:fu (CX Y) t0 t1 (out v)):CP Y F.fu [t0,t1] v:=CPo 1 (df (nCQ (aD (nCQ (.n (.l [5,6] [0,1] [((.exit 0),[5],[])] []) (aD (nCQ (nCQ (nRQ [.o,.o,.slot 0])))) .o))))) Tryz.func10 h
def jM(C:CC)(a:V):aL:=fun l h q=>blQ a fun c=>cIQ .lss (ge l 0) c (clQ C h F.bX [I 0] fun c h=>bxQ h 2 a (ge l 0) fun a=>stD h 2 a c fun _ h=>bIQ .add (ge l 0) (I 1) fun a=>q .normal [a] h) (q (.exit 0) [] h)
def fK(C:CC)(a:V)(q:kQ):Prop:=let h:Hp:=.replicate 1 nnQ
 blQ a fun a=>mkS 0 32 [.str [],.str []] h a a fun a h=>lp (jM C a) [] h [I 0] h (exK [((.exit 0),fun c h=>q a h)])
theorem ye(h:fK (CX Y) t0 (out v)):CP Y F.fK [t0] v:=CPo 1 (aD (nBQ (nRQ [.slot 0]) (nCQ (aD (nCQ (.n (.l [4] [3] [((.exit 0),[],[3])] []) .o .o)))))) Tryz.func33 h
def kI(C:CC)(a c:V):aL:=fun l h q=>blQ c fun d=>cIQ .lss (ge l 0) d (bxQ h 2 c (ge l 0) fun d=>bnd (ldA h 2 d) fun d=>bfQ 4 a fun a=>bnd (ldA h 2 a) fun a=>clQ C h F.j9 [d,a] fun a h=>bxQ h 2 c (ge l 0) fun c=>stD h 2 c a fun _ h=>bIQ .add (ge l 0) (I 1) fun a=>q .normal [a] h) (q (.exit 0) [] h)
def jj(C:CC)(a c d:V)(q:kQ):Prop:=let h:Hp:=.replicate 2 nnQ
 cQ 0 a h fun a h=>bfQ 0 a fun e=>bfQ 0 e fun e=>b1Q h e fun e=>bfQ 3 a fun f=>b1Q h f fun f=>bxQ h 1 f c fun c=>b1Q h c fun c=>bxQ h 1 c d fun c=>b1Q h c fun c=>ciQ C h F.ef [e,c] 1 fun c h=>lp (kI C a c) [] h [I 0] h (exK [((.exit 0),fun a h=>q c h)])
theorem yK(h:jj (CX Y) t0 t1 t2 (out v)):CP Y F.jj [t0,t1,t2] v:=CPo 2 (nBQ (nRQ [.slot 0]) (nBQ (nRQ [.inl 1]) (nCQ (aD (nCQ (.n (.l [8] [3,7] [((.exit 0),[],[7])] []) .o .o)))))) Tryz.func9 h
def jO(C:CC)(a c d e:V):aL:=fun l h q=>blQ e fun f=>cIQ .lss (ge l 0) f (bxQ h 1 a (ge l 0) fun a=>b1Q h a fun a=>bxQ h 1 c (ge l 0) fun c=>b1Q h c fun c=>bIQ .add a c fun a=>bxQ h 1 d (ge l 0) fun c=>b1Q h c fun c=>bIQ .sub a c fun a=>bxQ h 1 e (ge l 0) fun c=>stD h 1 c a fun _ h=>bIQ .add (ge l 0) (I 1) fun a=>q .normal [a] h) (q (.exit 0) [] h)
def eE(C:CC)(a c d e:V)(q:kQ):Prop:=let h:Hp:=.replicate 3 nnQ
 cQ 0 a h fun a h=>bfQ 2 a fun f=>b1Q h f fun f=>bxQ h 1 f c fun f=>b1Q h f fun f=>bxQ h 2 f d fun d=>bnd (ldA h 2 d) fun d=>alV 1 [.d (.int .i64 0),.d (.int .i64 0)] h fun f h=>stD h 2 f d fun _ h=>bfQ 1 a fun d=>b1Q h d fun d=>bxQ h 1 d c fun d=>b1Q h d fun d=>bfQ 0 f fun g=>b1Q h g fun g=>bxQ h 1 d g fun d=>b1Q h d fun d=>bfQ 1 a fun a=>b1Q h a fun a=>bIQ .add c (I 1) fun c=>bxQ h 1 a c fun a=>b1Q h a fun a=>bfQ 1 f fun c=>b1Q h c fun c=>bxQ h 1 a c fun a=>b1Q h a fun a=>blQ e fun c=>mkS 2 8 [.int .i64 0] h c c fun c h=>lp (jO C e d a c) [] h [I 0] h (exK [((.exit 0),fun a h=>q c h)])
def nR:Ann:=(nBQ (nRQ [.slot 0]) (nBQ (nRQ [.slot 1]) (aD (nBQ (nRQ [.slot 2]) (nCQ (aD (nCQ (.n (.l [13] [3,10,11,12] [((.exit 0),[],[12])] []) .o .o))))))))
theorem yi(C:CC)(t0:V)(t1:V)(t2:V)(t3:V)(q:kkQ):fnD Y C Tryz.f29 3 nR [t0,t1,t2,t3] q=eE C t0 t1 t2 t3 q:=by kernel_rfl
theorem yg:okB Tryz.prog Tryz.f29 nR=true:=bb
theorem yh(h:eE (CX Y) t0 t1 t2 t3 (out v)):CP Y F.eE [t0,t1,t2,t3] v:=
 CP.of (fn:=Tryz.f29) (m:=3) (a:=nR) rfl (fun _=>rfl) Tryz.func29 yg (by rw[yi];exact h)
def jz(C:CC)(a:V):aL:=fun l h q=>bfQ 2 a fun c=>b1Q h c fun c=>blQ c fun c=>cIQ .lss (ge l 1) c (bnd (ldA h 3 a) fun a=>bxQ h 1 (ge l 0) (ge l 1) fun c=>b1Q h c fun c=>clQ C h F.eE [a,ge l 1,I 0,c] fun a h=>cR 1 [nPQ] [(0,a)] h fun a h=>apV false 3 1 24 (ge l 0) a h fun a h=>bIQ .add (ge l 1) (I 1) fun c=>q .normal [a,c] h) (q (.exit 0) [ge l 0] h)
def gR(C:CC)(a:V)(q:kQ):Prop:=let h:Hp:=.replicate 4 nnQ
 cQ 0 a h fun a h=>bfQ 0 a fun c=>b1Q h c fun c=>blQ c fun c=>mkS 1 8 [.int .i64 0] h c c fun c h=>rq 2 1 [nPQ] [(0,c)] h fun c h=>lp (jz C a) [] h [c,I 0] h (exK [((.exit 0),fun a h=>q (ge a 0) h)])
theorem wU(h:gR (CX Y) t0 (out v)):CP Y F.gR [t0] v:=CPo 4 (nBQ (nRQ [.slot 0]) (nBQ (nRQ [.slot 1,.slot 2]) (nCQ (aD (nCQ (.n (.l [3,4] [1] [((.exit 0),[3],[])] []) (aD (nCQ (nCQ (nRQ [.o,.o,.slot 3])))) .o)))))) Tryz.func8 h
def il(C:CC)(a c d e f:V):aL:=fun l h q=>blQ f fun g=>cIQ .lss (ge l 0) g (bxQ h 1 a c fun a=>b1Q h a fun a=>bxQ h 1 a (ge l 0) fun a=>b1Q h a fun a=>bfQ 3 e fun e=>b1Q h e fun e=>bxQ h 1 e c fun c=>b1Q h c fun c=>bxQ h 1 c d fun c=>b1Q h c fun c=>bxQ h 1 c (ge l 0) fun c=>b1Q h c fun c=>bIQ .add a c fun a=>bxQ h 1 f (ge l 0) fun c=>stD h 1 c a fun _ h=>bIQ .add (ge l 0) (I 1) fun a=>q .normal [a] h) (q (.exit 0) [] h)
def cS(C:CC)(a c d e:V)(q:kQ):Prop:=let h:Hp:=.replicate 2 nnQ
 cQ 0 a h fun a h=>bxQ h 1 c d fun f=>b1Q h f fun f=>blQ f fun f=>mkS 1 8 [.int .i64 0] h f f fun f h=>lp (il C c d e a f) [] h [I 0] h (exK [((.exit 0),fun a h=>q f h)])
def ma:Ann:=(nBQ (nRQ [.slot 0]) (nBQ (nRQ [.slot 1]) (nCQ (aD (nCQ (.n (.l [10] [1,2,3,4,9] [((.exit 0),[],[9])] []) .o .o))))))
theorem vd(C:CC)(t0:V)(t1:V)(t2:V)(t3:V)(q:kkQ):fnD Y C Tryz.f61 2 ma [t0,t1,t2,t3] q=cS C t0 t1 t2 t3 q:=by kernel_rfl
theorem u7:okB Tryz.prog Tryz.f61 ma=true:=bb
theorem u9(h:cS (CX Y) t0 t1 t2 t3 (out v)):CP Y F.cS [t0,t1,t2,t3] v:=
 CP.of (fn:=Tryz.f61) (m:=2) (a:=ma) rfl (fun _=>rfl) Tryz.func61 u7 (by rw[vd];exact h)
def jP(C:CC)(a c d:V):aL:=fun l h q=>blQ d fun e=>cIQ .lss (ge l 0) e (bxQ h 1 c (ge l 0) fun c=>b1Q h c fun c=>bxQ h 1 a (ge l 0) fun a=>b1Q h a fun a=>bIQ .sub c a fun a=>bxQ h 1 d (ge l 0) fun c=>stD h 1 c a fun _ h=>bIQ .add (ge l 0) (I 1) fun a=>q .normal [a] h) (q (.exit 0) [] h)
def im(C:CC)(a c d e f:V)(q:kQ):Prop:=let h:Hp:=.replicate 3 nnQ
 cQ 0 a h fun a h=>cQ 1 f h fun f h=>bfQ 0 a fun g=>bnd (ldA h 3 g) fun g=>bnd (ldA h 6 a) fun i=>bfQ 0 f fun j=>b1Q h j fun j=>clQ C h F.cS [i,c,d,j] fun i h=>clQ C h F.eE [g,d,e,i] fun e h=>bnd (ldA h 6 a) fun a=>bIQ .add d (I 1) fun d=>bfQ 1 f fun f=>b1Q h f fun f=>clQ C h F.cS [a,c,d,f] fun a h=>blQ a fun c=>mkS 2 8 [.int .i64 0] h c c fun c h=>lp (jP C e a c) [] h [I 0] h (exK [((.exit 0),fun a h=>q c h)])
theorem yj{t4:V}(h:im (CX Y) t0 t1 t2 t3 t4 (out v)):CP Y F.im [t0,t1,t2,t3,t4] v:=CPo 3 (nBQ (nRQ [.slot 0,.slot 1]) (df (nBQ (nRQ [.slot 2]) (nCQ (aD (nCQ (.n (.l [14] [11,12,13] [((.exit 0),[],[13])] []) .o .o))))))) Tryz.func34 h
def jN(C:CC)(a c d e:V):aL:=fun l h q=>bfQ 0 d fun f=>bfQ 2 f fun f=>b1Q h f fun f=>bxQ h 1 f c fun f=>b1Q h f fun f=>blQ f fun f=>cIQ .lss (ge l 1) f (bfQ 0 d fun f=>bfQ 0 f fun f=>b1Q h f fun f=>bnd (ldA h 6 d) fun d=>bnd (ldA h 2 e) fun e=>clQ C h F.im [d,a,c,ge l 1,e] fun a h=>ciQ C h F.ef [f,a] 2 fun a h=>clQ C h F.fu [ge l 0,a] fun a h=>bIQ .add (ge l 1) (I 1) fun c=>q .normal [a,c] h) (q (.exit 0) [ge l 0] h)
def ik(C:CC)(a c d e:V)(q:kQ):Prop:=let h:Hp:=.replicate 3 nnQ
 cQ 0 a h fun a h=>cQ 1 e h fun e h=>bfQ 0 a fun f=>bfQ 0 f fun f=>b1Q h f fun f=>clQ C h F.fK [f] fun f h=>lp (jN C c d a e) [2] h [f,I 0] h (exK [((.exit 0),fun a h=>q (ge a 0) h)])
theorem yf(h:ik (CX Y) t0 t1 t2 t3 (out v)):CP Y F.ik [t0,t1,t2,t3] v:=CPo 3 (nBQ (nRQ [.slot 0,.slot 1]) (aD (nCQ (aD (nCQ (.n (.l [9,10] [1,2,4,7] [((.exit 0),[9],[])] [2]) (aD (nCQ (nCQ (nRQ [.o,.inl 2])))) .o)))))) Tryz.func11 h
def fi(C:CC)(q:kQ):Prop:=let h:Hp:=.replicate 1 nnQ
 clQ C h F.fk [] fun a h=>alV 0 [.d nPQ,.d nPQ,.d nPQ,.d nPQ,.d (.str []),.d (.str [])] h fun c h=>stD h 6 c a fun _ h=>bnd (ldA h 6 c) fun a=>clQ C h F.gH [a] fun a h=>e3Q a fun a d e=>bnd (ldA h 6 c) fun f=>clQ C h F.jq [f,a] fun f h=>e2Q f fun f g=>bnd (ldA h 6 c) fun c=>clQ C h F.jr [c,a] fun c h=>e2Q c fun c i=>bIQ .eql e (I 0) fun e=>gqQ e true h a fun j h=>gbQ e true h (bj j) fun j h=>gbQ e true h (biI .eql j (I 3)) fun j h=>bpQ e j (B false) fun e=>gqQ e true h a fun a h=>gbQ e true h (ixV h 1 a (I 1)) fun a h=>gbQ e true h (ld1 h a) fun a h=>gbQ e true h (biI .eql a (I 0)) fun a h=>bpQ e a (B false) fun a=>gqQ a true h d fun d h=>gd a true h (fun q=>clQ C h F.bX [I (-4)] q) fun e h=>gd a true h (fun q=>clQ C h F.bX [I 4] q) fun j h=>gd a true h (fun q=>clQ C h F.bX [I (-1)] q) fun k h=>gd a true h (fun q=>cR 3 [.str [],.str []] [(0,e),(1,j),(2,k)] h q) fun e h=>gd a true h (fun q=>clQ C h F.fL [d,e] q) fun d h=>bpQ a d (B false) fun a=>gqQ a true h g fun d h=>gbQ a true h (biI .eql d (I 0)) fun d h=>bpQ a d (B false) fun a=>gqQ a true h f fun d h=>gbQ a true h (bj d) fun d h=>gbQ a true h (biI .eql d (I 3)) fun d h=>bpQ a d (B false) fun a=>gqQ a true h f fun d h=>gbQ a true h (ixV h 1 d (I 2)) fun d h=>gbQ a true h (ld1 h d) fun d h=>gd a true h (fun q=>cR 3 [.int .i64 0] [(0,(I (-6))),(1,(I 6)),(2,(I (-1)))] h q) fun e h=>gd a true h (fun q=>clQ C h F.ix [d,e] q) fun d h=>bpQ a d (B false) fun a=>gqQ a true h i fun d h=>gbQ a true h (biI .eql d (I 0)) fun d h=>bpQ a d (B false) fun a=>gqQ a true h c fun d h=>gbQ a true h (bj d) fun d h=>gbQ a true h (biI .eql d (I 1)) fun d h=>bpQ a d (B false) fun a=>gqQ a true h c fun c h=>gbQ a true h (ixV h 3 c (I 0)) fun c h=>gbQ a true h (faV 0 c) fun c h=>gbQ a true h (ld1 h c) fun c h=>gbQ a true h (biI .eql c (I 1)) fun c h=>bpQ a c (B false) fun a=>q a h
def mV:Ann:=(aD (nCQ (nRQ [.o,.slot 0])))
attribute [local irreducible] bnd gd cal cnd ext cR rq stD alV alD cQ jn lp exK mkS apV cai rj in
theorem wX(C:CC)(q:kkQ):fnD Y C Tryz.f4 1 mV [] q=fi C q:=Pn
theorem wV:okB Tryz.prog Tryz.f4 mV=true:=bb
theorem wW(h:fi (CX Y) (out v)):CP Y F.fi [] v:=
 CP.of (fn:=Tryz.f4) (m:=1) (a:=mV) rfl (fun _=>rfl) Tryz.func4 wV (by rw[wX];exact h)
def jU(C:CC)(a c d:V):aL:=fun l h q=>cIQ .lss (ge l 1) d (bfQ 6 a fun a=>bnd (ixP 5 9 a c) fun a=>bnd (ixP 3 3 a (ge l 1)) fun a=>bnd (ldA h 3 a) fun a=>alD 4 1 ([.int .i8 0,.int .i8 0,.int .i8 0]) h fun c h=>stD h 3 c a fun _ h=>bnd (ixP 3 1 c (I 0)) fun a=>b1Q h a fun a=>bnd (cvI .i64 a) fun a=>bIQ .rem a (I 9) fun a=>bnd (ixP 3 1 c (I 1)) fun d=>b1Q h d fun d=>bnd (cvI .i64 d) fun d=>bIQ .rem d (I 9) fun d=>bnd (ixP 3 1 c (I 2)) fun c=>b1Q h c fun c=>bnd (cvI .i64 c) fun c=>bIQ .rem c (I 9) fun c=>cR 3 [.int .i64 0] [(0,a),(1,d),(2,c)] h fun a h=>cR 1 [nPQ] [(0,a)] h fun a h=>apV false 5 1 24 (ge l 0) a h fun a h=>bIQ .add (ge l 1) (I 1) fun c=>q .normal [a,c] h) (q (.exit 2) [ge l 0] h)
def jT(C:CC)(a c d e f:V):aL:=fun l h q=>cIQ .lss (ge l 1) f (bIQ .sub d (I 1) fun f=>bfQ 51 a fun a=>bnd (ixP 4 4 a f) fun a=>bnd (ixP 2 2 a (ge l 1)) fun a=>bnd (ldA h 2 a) fun a=>alD 7 1 ([.int .u8 0,.int .u8 0]) h fun f h=>stD h 2 f a fun _ h=>bnd (ixP 2 1 f (I 0)) fun a=>b1Q h a fun a=>bnd (cvI .i64 a) fun a=>bfQ 1 c fun c=>b1Q h c fun c=>bIQ .sub d (I 1) fun d=>bxQ h 1 c d fun c=>b1Q h c fun c=>blQ c fun c=>bIQ .rem a c fun a=>bnd (ixP 2 1 f (I 1)) fun c=>b1Q h c fun c=>bnd (cvI .i64 c) fun c=>blQ e fun d=>bIQ .rem c d fun c=>bnd (bld [(0,1),(1,1)] [.int .i64 0,.int .i64 0] [(0,a),(1,c)]) fun a=>cR 1 [.int .i64 0,.int .i64 0] [(0,a)] h fun a h=>apV false 8 2 16 (ge l 0) a h fun a h=>bIQ .add (ge l 1) (I 1) fun c=>q .normal [a,c] h) (q (.exit 4) [ge l 0] h)
def jV(C:CC)(a c d:V):aL:=fun l h q=>cIQ .lss (ge l 0) d (jn (fun a h=>bIQ .add (ge l 0) (I 1) fun a=>q .normal [a] h) fun d=>bfQ 1 a fun e=>bnd (ixP 5 1 e (ge l 0)) fun e=>b1Q h e fun e=>bIQ .rem e (.d (.int .u8 3)) fun e=>bnd (cvI .i64 e) fun e=>bIQ .add (I 1) e fun e=>lp (jU C a (ge l 0) e) [4] h [nSQ,I 0] h (exK [((.exit 2),fun e h=>bfQ 1 c fun f=>b1Q h f fun f=>cR 1 [nPQ] [(0,(ge e 0))] h fun g h=>apV false 6 1 24 f g h fun f h=>bfQ 1 c fun g=>stD h 1 g f fun _ h=>cIQ .eql (ge l 0) (I 0) (d [] h) (bfQ 67 a fun f=>b1Q h f fun f=>bIQ .sub (ge l 0) (I 1) fun g=>bIQ .shr f g fun f=>bIQ .and f (.d (.int .u8 1)) fun f=>bnd (cvI .i64 f) fun f=>bIQ .add (I 1) f fun f=>lp (jT C a c (ge l 0) (ge e 0) f) [7] h [nSQ,I 0] h (exK [((.exit 4),fun a h=>bfQ 2 c fun e=>b1Q h e fun e=>cR 1 [nPQ] [(0,(ge a 0))] h fun a h=>apV false 9 1 24 e a h fun a h=>bfQ 2 c fun c=>stD h 1 c a fun _ h=>d [] h)])))])) (q (.exit 0) [] h)
def iw(C:CC)(a:V)(q:kQ):Prop:=let h:Hp:=.replicate 10 nnQ
 cQ 0 a h fun a h=>alV 1 [.d nPQ,.d nPQ,.d nPQ] h fun c h=>rq 2 3 [.int .i64 0] [(0,(I 2)),(1,(I 3)),(2,(I 5))] h fun d h=>bnd (bld [(0,1),(1,1),(2,1)] [nPQ,nPQ,nPQ] [(0,d)]) fun d=>alV 3 [.d nPQ,.d nPQ,.d nPQ] h fun e h=>stD h 3 e d fun _ h=>bfQ 0 a fun d=>b1Q h d fun d=>bIQ .rem d (.d (.int .u8 5)) fun d=>bnd (cvI .i64 d) fun d=>bIQ .add (I 1) d fun d=>lp (jV C a e d) [4,5,7,8] h [I 0] h (exK [((.exit 0),fun a h=>bnd (ldA h 3 e) fun a=>stD h 3 c a fun _ h=>bnd (ldA h 3 c) fun a=>q a h)])
theorem ym(h:iw (CX Y) t0 (out v)):CP Y F.iw [t0] v:=CPo 10 (nBQ (nRQ [.slot 0,.slot 1]) (nBQ (nRQ [.slot 2,.slot 3]) (nCQ (aD (nCQ (.n (.l [18] [1,2,3,17] [((.exit 0),[],[2,3])] [4,5,7,8]) (df (nCQ (.n (.j [] [1,2,3,17,18]) (df (nBQ (aD (nCQ (.n (.l [5,28] [1,2,3,4,17,18,27] [((.exit 2),[5],[1,2,3,4,17,18])] [4]) (df (nCQ (nCQ (aD (nBQ (nRQ [.slot 4]) (nRQ [.o,.o,.slot 5])))))) .o))) (nBQ (nRQ [.o,.slot 6]) (df (nBQ (aD (nCQ (.n (.l [8,70] [1,2,3,4,5,17,18,69] [((.exit 4),[8],[1,2,3,17,18])] [7]) (df (nCQ (nCQ (aD (nBQ (nRQ [.slot 7]) (nRQ [.o,.slot 8])))))) .o))) (nRQ [.o,.slot 9])))))) .o))) .o)))))) Tryz.func19 h
def aV(C:CC)(a c d e f:V):aL:=fun l h q=>bIQ .gtr e (I 0) fun g=>gqQ g true h (ge l 1) fun i h=>gqQ g true h c fun j h=>gqQ g true h e fun k h=>gbQ g true h (biI .sub k (I 1)) fun k h=>gbQ g true h (ixV h 1 j k) fun j h=>gbQ g true h (ld1 h j) fun j h=>gbQ g true h (bj j) fun j h=>gbQ g true h (biI .lss i j) fun i h=>bpQ g i (B false) fun g=>cnd g (jn (fun a h=>bIQ .add (ge l 1) (I 1) fun c=>q .normal [ge a 0,c] h) fun g=>bIQ .sub e (I 1) fun i=>bxQ h 1 c i fun c=>b1Q h c fun c=>bxQ h 1 c (ge l 1) fun c=>b1Q h c fun c=>bnd (ldA h 6 a) fun i=>bIQ .sub e (I 1) fun j=>bnd (bld [(0,1),(1,1)] [.int .i64 0,.int .i64 0] [(0,(ge l 1)),(1,f)]) fun k=>clQ C h F.ik [i,d,j,k] fun d h=>clQ C h F.fu [c,d] fun c h=>bnd (ldA h 6 a) fun d=>clQ C h F.jj [d,e,f] fun d h=>clQ C h F.fu [c,d] fun c h=>bfQ 0 a fun a=>bfQ 0 a fun a=>b1Q h a fun a=>clQ C h F.gX [a,c,ge l 0] fun a h=>e2Q a fun a d=>bIQ .eql (ge l 1) (I 0) fun d=>gqQ d false h a fun a h=>gbQ d false h (biI .lss a (I 0)) fun a h=>bpQ d (B true) a fun a=>jn (fun a h=>g [ge a 0] h) fun d=>cnd a (d [c] h) (d [ge l 0] h)) (q (.exit 4) [ge l 0] h)
def et(C:CC)(a c d e:V):aL:=fun l h q=>bxQ h 1 c e fun f=>b1Q h f fun f=>blQ f fun f=>cIQ .lss (ge l 1) f (jn (fun a h=>bIQ .add (ge l 1) (I 1) fun c=>q .normal [ge a 0,c] h) fun f=>bnd (ldA h 6 a) fun g=>clQ C h F.jj [g,e,ge l 1] fun g h=>lp (aV C a c d e (ge l 1)) [] h [g,I 0] h (exK [((.exit 4),fun d h=>bxQ h 1 c e fun g=>b1Q h g fun g=>bxQ h 1 g (ge l 1) fun g=>b1Q h g fun g=>clQ C h F.fL [g,ge d 0] fun g h=>bnd (unV .not g) fun g=>cnd g (q .ret [B false] h) (bfQ 0 a fun a=>bfQ 0 a fun a=>b1Q h a fun a=>clQ C h F.gX [a,ge d 0,ge l 0] fun a h=>e2Q a fun a g=>blQ c fun c=>bIQ .sub c (I 1) fun c=>bIQ .eql e c fun c=>gqQ c true h (ge l 1) fun e h=>gbQ c true h (biI .eql e (I 0)) fun e h=>gqQ c true h e fun e h=>gqQ e false h a fun a h=>gbQ e false h (biI .lss a (I 0)) fun a h=>gbQ c true h (qM e (B true) a) fun a h=>bpQ c a (B false) fun a=>jn (fun a h=>f [ge a 0] h) fun c=>cnd a (c [ge d 0] h) (c [ge l 0] h)))])) (q (.exit 2) [ge l 0] h)
def eT(C:CC)(a c d:V):aL:=fun l h q=>blQ c fun e=>cIQ .lss (ge l 1) e (bxQ h 1 c (ge l 1) fun e=>b1Q h e fun e=>blQ e fun e=>bfQ 3 a fun f=>b1Q h f fun f=>bxQ h 1 f (ge l 1) fun f=>b1Q h f fun f=>blQ f fun f=>cIQ .neq e f (q .ret [B false] h) (lp (et C a c d (ge l 1)) [] h [ge l 0,I 0] h (exK [((.exit 2),fun a h=>bIQ .add (ge l 1) (I 1) fun c=>q .normal [ge a 0,c] h),(.ret,fun a h=>q .ret [ge a 0] h)]))) (q (.exit 0) [ge l 0] h)
def dk(C:CC)(a:V)(q:kQ):Prop:=let h:Hp:=.replicate 2 nnQ
 cQ 0 a h fun a h=>clQ C h F.fi [] fun c h=>bnd (unV .not c) fun c=>cnd c (q (B false) h) (bnd (ldA h 120 a) fun a=>clQ C h F.iu [a] fun a h=>alV 1 [.d nPQ,.d nPQ,.d nPQ,.d nPQ,.d (.str []),.d (.str [])] h fun c h=>stD h 6 c a fun _ h=>bnd (ldA h 6 c) fun a=>clQ C h F.ip [a] fun a h=>e2Q a fun a d=>bnd (ldA h 6 c) fun e=>clQ C h F.gH [e] fun e h=>e3Q e fun e f g=>bfQ 0 c fun e=>bnd (ldA h 3 e) fun e=>clQ C h F.gR [e] fun e h=>bIQ .neq d (I 0) fun d=>gqQ d false h g fun g h=>gbQ d false h (biI .neq g (I 0)) fun g h=>bpQ d (B true) g fun d=>gqQ d false h a fun g h=>gbQ d false h (bj g) fun g h=>gbQ d false h (faV 3 c) fun i h=>gbQ d false h (ld1 h i) fun i h=>gbQ d false h (bj i) fun i h=>gbQ d false h (biI .neq g i) fun g h=>bpQ d (B true) g fun d=>cnd d (q (B false) h) (lp (eT C c a e) [] h [nSQ,I 0] h (exK [((.exit 0),fun a h=>clQ C h F.fL [f,ge a 0] q),(.ret,fun a h=>q (ge a 0) h)])))
def iq:Ann:=(nBQ (nRQ [.slot 0]) (aD (nBQ (nRQ [.o,.slot 1]) (UT (nCQ (aD (nCQ (.n (.l [10,11] [3,4,7,9] [((.exit 0),[10],[7]),(.ret,[2],[])] []) (aD (nCQ (nCQ (df (nCQ (.n (.l [10,12] [3,4,7,9,11] [((.exit 2),[10],[3,4,7,9,11]),(.ret,[2],[])] []) (aD (nCQ (.n (.j [10] [3,4,7,9,11,12]) (aD (nBQ (aD (nCQ (.n (.l [13,14] [3,4,7,9,10,11,12] [((.exit 4),[13],[3,4,7,9,10,11,12])] []) (aD (nCQ (.n (.j [13] [3,4,7,9,10,11,12,14]) (yu (nJQ [13] [3,4,7,9,10,11,12,14])) .o))) .o))) (yu (nJQ [10] [3,4,7,9,11,12])))) .o))) .o)))))) .o))))))))
theorem oV(C:CC)(t0:V)(q:kkQ):fnD Y C Tryz.f3 2 iq [t0] q=dk C t0 q:=by kernel_rfl
theorem ly:okB Tryz.prog Tryz.f3 iq=true:=bb
theorem nT(h:dk (CX Y) t0 (out v)):CP Y F.dk [t0] v:=
 CP.of (fn:=Tryz.f3) (m:=2) (a:=iq) rfl (fun _=>rfl) Tryz.func3 ly (by rw[oV];exact h)
end Go.Vm
