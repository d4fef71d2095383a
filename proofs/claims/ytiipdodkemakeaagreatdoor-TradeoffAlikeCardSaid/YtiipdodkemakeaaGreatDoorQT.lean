/- Lemmas. -/
import Derived.Test.YtiipdodkemakeaaGreatDoorQVmC
set_option linter.unusedVariables false
set_option linter.unusedSimpArgs false
set_option maxRecDepth 100000
set_option maxHeartbeats 4000000
namespace Go.Vm
open Go Go.Am Go.Proofs
variable{v t0 t1 t2 t3:V}{h h2:Hp}
theorem CPo{f:FuncId}{fn:Func}(m:Nat)(a:Ann){ds:LwQ}(h3:Y.X.P.funcs[f]?=some fn)(h5:fnD Y (CX Y) fn m a ds (out v))(h1:Y.X.allow f=true:=by rfl)(h2:∀u,Y.X.orc f u=none:=by exact fun _=>rfl)(h4:okB Y.X.P fn a=true:=by decide+kernel):CP Y f ds v:=CP.of h1 h2 h3 h4 h5
abbrev nBQ(a b:Ann):Ann:=.n .x a b
abbrev nCQ(a:Ann):Ann:=.n .x a .o
abbrev nRQ(l:List Act):Ann:=.n (.r l) .o .o
abbrev nJQ(a b:LnQ):Ann:=.n (.j a b) .o .o
abbrev aG(a:Ann):Ann:=.n .x .o a
abbrev eY(a:Ann):Ann:=aG (aG a)
abbrev Be(a:Ann):Ann:=eY (aG a)
abbrev SU(a:Ann):Ann:=Be (aG a)
abbrev ae0(a:Ann):Ann:=SU (aG a)
abbrev ahk(a:Ann):Ann:=ae0 (aG a)
abbrev ajQ(a:Ann):Ann:=ahk (aG a)
theorem adH{p:Prop}(h:p:=by repeat' (first|(refine aeb rfl fun _=>?_)|(refine ahM rfl fun _ _=>?_)|(refine ad6 rfl fun _ _=>?_)|(refine ad5 rfl ?_ ?_)|(refine adY rfl fun _=>?_)|(refine XR rfl fun _ _=>?_)|(refine adI rfl fun _ _=>?_)|(refine aeg rfl fun _ _=>?_)|(refine aaG rfl fun _ _=>?_)|(refine ahD rfl (fun _ _=>?_) fun _=>?_)|(refine ahn rfl (fun _ _ _=>?_) fun _ _ _=>?_)|(refine ad2 rfl (fun _ _=>?_) ?_)|(refine adR rfl fun _ _=>?_)|(refine aef rfl fun _ _=>?_)|(refine ad7 rfl fun _ _=>?_)|(refine aid rfl fun _ _=>?_)|(refine XP rfl fun _ _=>?_)|(refine aeh rfl fun _ _=>?_)|(refine WQ rfl fun _=>?_)|exact rfl|(refine XW rfl ?_))):p:=h
theorem Uy{p:Prop}(h:p:=by repeat' (first|(refine aeb rfl fun _=>?_)|(refine ahM rfl fun _ _=>?_)|(refine ad6 rfl fun _ _=>?_)|(refine ad5 rfl ?_ ?_)|(refine adY rfl fun _=>?_)|(refine XR rfl fun _ _=>?_)|(refine adI rfl fun _ _=>?_)|(refine aeg rfl fun _ _=>?_)|(refine aaG rfl fun _ _=>?_)|(refine ahD rfl (fun _ _=>?_) fun _=>?_)|(refine ahn rfl (fun _ _ _=>?_) fun _ _ _=>?_)|(refine ad2 rfl (fun _ _=>?_) ?_)|(refine adR rfl fun _ _=>?_)|(refine aef rfl fun _ _=>?_)|(refine ad7 rfl fun _ _=>?_)|(refine XP rfl fun _ _=>?_)|(refine aeh rfl fun _ _=>?_)|(refine WQ rfl fun _=>?_)|exact rfl|(refine XW rfl ?_))):p:=h
abbrev kQ:=kkQ
abbrev clQ(C:CC)(h:Hp)(f:FuncId)(a:LwQ)(k:kQ):Prop:=cal C.p h (.fn f [] []) a k
abbrev ciQ(C:CC)(h:Hp)(f:FuncId)(a:LwQ)(s:Nat)(k:kQ):Prop:=cai C.i h (.fn f [] []) a s k
abbrev bIQ(o:BinOp)(x y:V)(k:V->Prop):Prop:=bnd (biI o x y) k
abbrev bSQ(o:BinOp)(x y:V)(k:V->Prop):Prop:=bnd (biS o x y) k
abbrev b1Q(h:Hp)(x:V)(k:V->Prop):Prop:=bnd (ld1 h x) k
abbrev bxQ(h:Hp)(n:Nat)(x y:V)(k:V->Prop):Prop:=bnd (ixV h n x y) k
abbrev blQ(x:V)(k:V->Prop):Prop:=bnd (aY x) k
abbrev bfQ(n:Nat)(x:V)(k:V->Prop):Prop:=bnd (faV n x) k
abbrev bpQ(x y z:V)(k:V->Prop):Prop:=bnd (mV x y z) k
abbrev cIQ(o:BinOp)(x y:V)(A B:Prop):Prop:=bnd (biI o x y) fun c=>cnd c A B
abbrev nzQ(x:V)(A B:Prop):Prop:=bnd (biI .neq x (I 0)) fun c=>cnd c A B
abbrev gbQ(c:V)(w:Bool)(h:Hp)(o:Option V)(k:kQ):Prop:=gd c w h (fun q=>bnd o fun v=>q v h) k
abbrev gqQ(c:V)(w:Bool)(h:Hp)(x:V)(k:kQ):Prop:=gd c w h (fun q=>q x h) k
abbrev e2Q(x:V)(k:V->V->Prop):Prop:=ext x 0 fun a=>ext x 1 fun b=>k a b
abbrev e3Q(x:V)(k:V->V->V->Prop):Prop:=ext x 0 fun a=>ext x 1 fun b=>ext x 2 fun c=>k a b c
abbrev nSQ:V:=.d nPQ
abbrev a1Q(s:Nat)(x y:V)(h:Hp)(k:kQ):Prop:=dR 1 [.int .i64 0] [(0,y)] h fun v h=>apV false s 1 8 x v h k
def bV(C:CC)(a c:V)(q:kQ):Prop:=let h:Hp:=[]
 gqQ a true h c fun d h=>gbQ a true h (biS .neq d (.d (.str [48]))) fun d h=>bpQ a d (B false) fun a=>cnd a (bSQ .add (.d (.str [45])) c fun a=>q a h) (q c h)
theorem yI(h:bV (CX Y) t0 t1 (out v)):CP Y F.bV [t0,t1] v:=CPo 0 .o Tryz.func89 h
def gk(C:CC)(a c:V)(q:kkQ):Prop:=let h:Hp:=List.replicate 6 nnQ
 cal C.p h (.fn F.fN [] []) [a,c] fun d h=>ext d 0 fun e=>ext d 1 fun f=>ext d 2 fun d=>cnd d (bnd (biI .add e f) fun a=>cal C.p h (.fn F.ju [] []) [a] fun a h=>q a h) (cai C.i h (.fn F.de [] []) [a] 0 fun a h=>cai C.i h (.fn F.de [] []) [c] 1 fun c h=>bnd (aY a) fun d=>bnd (aY c) fun e=>bnd (biI .lss d e) fun d=>jn (fun a h=>dR 1 [.int .u64 0] [(0,(.d (.int .u64 0)))] h fun c h=>apV false 2 1 8 (ge a 0) c h fun c h=>bnd (aY c) fun d=>bnd (biI .sub d (I 1)) fun d=>bnd (aY (ge a 1)) fun e=>bnd (biI .sub d e) fun d=>apZ false 3 1 8 [.int .u64 0] (ge a 1) d h fun a h=>cai C.i h (.fn F.cM [] []) [c,a,(I 0)] 4 fun a h=>cai C.i h (.fn F.aA [] []) [c] 5 fun a h=>cal C.p h (.fn F.aM [] []) [a] fun a h=>q a h) fun e=>cnd d (e [c,a] h) (e [a,c] h))
def tf:Ann:=(eY (nBQ (nRQ [.inl 0,.inl 1]) (nBQ (aG (nJQ [8,9] [])) (nBQ (nRQ [.o,.slot 2]) (nBQ (nRQ [.slot 3,.inl 4]) (nCQ (nRQ [.inl 5])))))))
attribute [local irreducible] bnd gd cal cnd ext dR uA stD alV alD fO jn lp exK mkS apV apZ cai yd in
theorem GT(C:CC)(t0:V)(t1:V)(q:kkQ):fnD Y C Tryz.f104 6 tf [t0,t1] q=gk C t0 t1 q:=adH
theorem GQ:okB Tryz.prog Tryz.f104 tf=true:=az
theorem GR(h:gk (CX Y) t0 t1 (out v)):CP Y F.gk [t0,t1] v:=
 CP.of (fn:=Tryz.f104) (m:=6) (a:=tf) rfl (fun _=>rfl) Tryz.func104 GQ (by rw[GT];exact h)
def cj(C:CC)(a c:V)(q:kQ):Prop:=let h:Hp:=[]
 bnd (nO a) fun d=>bnd (nO c) fun e=>cIQ .neq d e (bnd (nO a) fun a=>bnd (nO c) fun c=>bIQ .sub a c fun a=>bnd (mxI true [I (-1),a]) fun a=>bnd (mxI false [I 1,a]) fun a=>q a h) (bSQ .lss a c fun d=>cnd d (q (I (-1)) h) (bSQ .gtr a c fun a=>cnd a (q (I 1) h) (q (I 0) h)))
theorem zY(h:cj (CX Y) t0 t1 (out v)):CP Y F.cj [t0,t1] v:=CPo 0 .o Tryz.func95 h
def ia(C:CC)(a c:V)(q:kkQ):Prop:=let h:Hp:=List.replicate 7 nnQ
 cal C.p h (.fn F.cj [] []) [a,c] fun d h=>bnd (biI .lss d (I 0)) fun d=>cnd d (q (.tup [(.d (.str [])),(I 3)]) h) (cal C.p h (.fn F.fN [] []) [a,c] fun d h=>ext d 0 fun e=>ext d 1 fun f=>ext d 2 fun d=>cnd d (bnd (biI .sub e f) fun a=>cal C.p h (.fn F.ju [] []) [a] fun a h=>q (.tup [a,(I 0)]) h) (cai C.i h (.fn F.de [] []) [a] 0 fun a h=>dR 1 [.int .u64 0] [(0,(.d (.int .u64 0)))] h fun d h=>apV false 1 1 8 a d h fun a h=>cai C.i h (.fn F.de [] []) [c] 2 fun d h=>bnd (aY a) fun e=>bnd (biI .sub e (I 1)) fun e=>cai C.i h (.fn F.de [] []) [c] 3 fun c h=>bnd (aY c) fun c=>bnd (biI .sub e c) fun c=>apZ false 4 1 8 [.int .u64 0] d c h fun c h=>cai C.i h (.fn F.dJ [] []) [a,c,(.d (.int .u64 1)),(I 0)] 5 fun c h=>cai C.i h (.fn F.aA [] []) [a] 6 fun a h=>cal C.p h (.fn F.aM [] []) [a] fun a h=>q (.tup [a,(I 0)]) h))
def tc:Ann:=(Be (nBQ (nRQ [.inl 0,.o,.slot 1]) (nBQ (nRQ [.inl 2,.inl 3,.slot 4,.inl 5]) (nCQ (nRQ [.inl 6])))))
attribute [local irreducible] bnd gd cal cnd ext dR uA stD alV alD fO jn lp exK mkS apV apZ cai yd in
theorem GM(C:CC)(t0:V)(t1:V)(q:kkQ):fnD Y C Tryz.f105 7 tc [t0,t1] q=ia C t0 t1 q:=adH
theorem GK:okB Tryz.prog Tryz.f105 tc=true:=az
theorem GL(h:ia (CX Y) t0 t1 (out v)):CP Y F.ia [t0,t1] v:=
 CP.of (fn:=Tryz.f105) (m:=7) (a:=tc) rfl (fun _=>rfl) Tryz.func105 GK (by rw[GM];exact h)
def jT(C:CC)(a c:V)(q:kQ):Prop:=let h:Hp:=.replicate 3 nnQ
 bnd (nO a) fun d=>bnd (nO c) fun e=>bIQ .add d e fun d=>cIQ .leq d (I 18) (clQ C h F.fN [a,c] fun a h=>e3Q a fun a c d=>bIQ .mul a c fun a=>clQ C h F.ju [a] q) (ciQ C h F.de [a] 0 fun a h=>ciQ C h F.de [c] 1 fun c h=>ciQ C h F.bz [a,c] 2 fun a h=>clQ C h F.aM [a] q)
theorem GN(h:jT (CX Y) t0 t1 (out v)):CP Y F.jT [t0,t1] v:=CPo 3 (eY (nCQ (nRQ [.inl 0,.inl 1,.inl 2]))) Tryz.func90 h
def cO(C:CC)(a c:V)(q:kQ):Prop:=let h:Hp:=[]
 clQ C h F.bE [a,I 18] fun d h=>e2Q d fun d e=>jn (fun d h=>clQ C h F.aN [a] fun a h=>e2Q a fun a d=>clQ C h F.aN [c] fun c h=>e2Q c fun c e=>bnd (biB .eql a c) fun f=>cnd f (clQ C h F.gk [d,e] fun c h=>clQ C h F.bV [a,c] q) (clQ C h F.cj [d,e] fun f h=>bIQ .lss f (I 0) fun f=>jn (fun a h=>clQ C h F.ia [ge a 1,ge a 2] fun c h=>e2Q c fun c d=>clQ C h F.bV [ge a 0,c] q) fun g=>cnd f (g [c,e,d] h) (g [a,d,e] h))) fun a=>cnd e (clQ C h F.bE [c,I 18] fun c h=>e2Q c fun c e=>cnd e (bIQ .add d c fun a=>clQ C h F.dM [a] q) (a [] h)) (a [] h)
theorem KB(h:cO (CX Y) t0 t1 (out v)):CP Y F.cO [t0,t1] v:=CPo 0 (aG (nBQ (eY (nJQ [] [0,1])) (Be (nCQ (aG (nJQ [9,10,12] [])))))) Tryz.func82 h
def aP(C:CC)(a c:V)(q:kQ):Prop:=let h:Hp:=[]
 clQ C h F.bE [a,I 9] fun d h=>e2Q d fun d e=>jn (fun d h=>clQ C h F.aN [a] fun a h=>e2Q a fun a d=>clQ C h F.aN [c] fun c h=>e2Q c fun c e=>bnd (biB .neq a c) fun a=>clQ C h F.jT [d,e] fun c h=>clQ C h F.bV [a,c] q) fun a=>cnd e (clQ C h F.bE [c,I 9] fun c h=>e2Q c fun c e=>cnd e (bIQ .mul d c fun a=>clQ C h F.dM [a] q) (a [] h)) (a [] h)
theorem Ky(h:aP (CX Y) t0 t1 (out v)):CP Y F.aP [t0,t1] v:=CPo 0 (aG (nCQ (eY (nJQ [] [0,1])))) Tryz.func58 h
def uX(C:CC)(a:V)(q:kQ):Prop:=let h:Hp:=[]
 bIQ .geq a (.d (.int .u32 65536)) fun c=>jn (fun a h=>bIQ .geq (ge a 0) (.d (.int .u32 256)) fun c=>jn (fun a h=>bnd (cvI .u8 (ge a 0)) fun c=>bnd (ixS (.d (.str [0,1,2,2,3,3,3,3,4,4,4,4,4,4,4,4,5,5,5,5,5,5,5,5,5,5,5,5,5,5,5,5,6,6,6,6,6,6,6,6,6,6,6,6,6,6,6,6,6,6,6,6,6,6,6,6,6,6,6,6,6,6,6,6,7,7,7,7,7,7,7,7,7,7,7,7,7,7,7,7,7,7,7,7,7,7,7,7,7,7,7,7,7,7,7,7,7,7,7,7,7,7,7,7,7,7,7,7,7,7,7,7,7,7,7,7,7,7,7,7,7,7,7,7,7,7,7,7,8,8,8,8,8,8,8,8,8,8,8,8,8,8,8,8,8,8,8,8,8,8,8,8,8,8,8,8,8,8,8,8,8,8,8,8,8,8,8,8,8,8,8,8,8,8,8,8,8,8,8,8,8,8,8,8,8,8,8,8,8,8,8,8,8,8,8,8,8,8,8,8,8,8,8,8,8,8,8,8,8,8,8,8,8,8,8,8,8,8,8,8,8,8,8,8,8,8,8,8,8,8,8,8,8,8,8,8,8,8,8,8,8,8,8,8,8,8,8,8,8,8,8,8,8,8,8,8])) c) fun c=>bnd (cvI .i64 c) fun c=>bIQ .add (ge a 1) c fun a=>q a h) fun d=>cnd c (bIQ .shr (ge a 0) (.d (.int .u64 8)) fun c=>bIQ .add (ge a 1) (I 8) fun a=>d [c,a] h) (d [ge a 0,ge a 1] h)) fun d=>cnd c (bIQ .shr a (.d (.int .u64 16)) fun a=>d [a,I 16] h) (d [a,I 0] h)
def jW(C:CC)(a:V)(q:kQ):Prop:=let h:Hp:=[]
 cnd (B false) (bnd (cvI .u32 a) fun a=>clQ C h F.uX [a] q) (clQ C h F.eU [a] q)
theorem Cu(h:jW (CX Y) t0 (out v)):CP Y F.jW [t0] v:=CPo 0 .o Tryz.func188 h
def je(C:CC)(a:V):aS:=fun l h q=>bIQ .mul (ge l 0) (ge l 0) fun c=>cIQ .leq c a (bIQ .rem a (ge l 0) fun a=>cIQ .eql a (I 0) (q .ret [B false] h) (bIQ .add (ge l 0) (I 1) fun a=>q .normal [a] h)) (q (.exit 0) [] h)
def iW(C:CC)(a:V)(q:kQ):Prop:=let h:Hp:=[]
 bIQ .lss a (I 2) fun c=>gqQ c false h a fun d h=>gbQ c false h (biI .gtr d (I 97)) fun d h=>bpQ c (B true) d fun c=>cnd c (q (B false) h) (lp (je C a) [] h [I 2] h (exK [((.exit 0),fun a h=>q (B true) h),(.ret,fun a h=>q (ge a 0) h)]))
theorem Ct(h:iW (CX Y) t0 (out v)):CP Y F.iW [t0] v:=CPo 0 (eY (nCQ (aG (nCQ (.n (.l [3] [0] [((.exit 0),[],[]),(.ret,[2],[])] []) .o .o))))) Tryz.func42 h
def o6(C:CC)(a c d:V):aS:=fun l h q=>cIQ .lss (ge l 0) d (bxQ h 1 c (ge l 0) fun c=>b1Q h c fun c=>clQ C h F.iW [c] fun d h=>bnd (unV .not d) fun d=>cnd d (q .ret [I 25] h) (bIQ .gtr (ge l 0) (I 0) fun d=>gqQ d true h c fun c h=>gqQ d true h a fun a h=>gqQ d true h (ge l 0) fun e h=>gbQ d true h (biI .sub e (I 1)) fun e h=>gbQ d true h (ixV h 1 a e) fun a h=>gbQ d true h (ld1 h a) fun a h=>gbQ d true h (biI .leq c a) fun a h=>bpQ d a (B false) fun a=>cnd a (q .ret [I 6] h) (bIQ .add (ge l 0) (I 1) fun a=>q .normal [a] h))) (q (.exit 1) [] h)
def fk(C:CC)(a:V)(q:kQ):Prop:=let h:Hp:=[]
 blQ a fun c=>cIQ .eql c (I 0) (q (I 13) h) (blQ a fun c=>cIQ .gtr c (I 6) (q (I 4) h) (blQ a fun c=>lp (o6 C a a c) [] h [I 0] h (exK [((.exit 1),fun a h=>q (I 0) h),(.ret,fun a h=>q (ge a 0) h)])))
theorem Gx(h:fk (CX Y) t0 (out v)):CP Y F.fk [t0] v:=CPo 0 (eY (nCQ (aG (nCQ (.n (.l [15] [0,13,14] [((.exit 1),[],[]),(.ret,[2],[])] []) .o .o))))) Tryz.func26 h
def mS(C:CC)(a:V)(q:kQ):Prop:=let h:Hp:=.replicate 1 nnQ
 fO 0 a h fun a h=>bfQ 0 a fun c=>b1Q h c fun c=>clQ C h F.gB [c] fun c h=>bnd (nO c) fun c=>bIQ .leq c (I 30) fun c=>gbQ c true h (faV 1 a) fun a h=>gbQ c true h (ld1 h a) fun a h=>gbQ c true h (nO a) fun a h=>gbQ c true h (biI .leq a (I 30)) fun a h=>bpQ c a (B false) fun a=>q a h
theorem IS(h:mS (CX Y) t0 (out v)):CP Y F.mS [t0] v:=CPo 1 (nCQ (nRQ [.slot 0])) Tryz.func92 h
def p6(C:CC)(a c:V):aS:=fun l h q=>cIQ .lss (ge l 0) c (bxQ h 2 a (ge l 0) fun a=>bnd (ldA h 2 a) fun a=>alV 0 [.d (.str []),.d (.str [])] h fun c h=>stD h 2 c a fun _ h=>bnd (ldA h 2 c) fun a=>clQ C h F.hO [a] fun a h=>nzQ a (q .ret [I 2] h) (bnd (ldA h 2 c) fun a=>clQ C h F.mS [a] fun a h=>bnd (unV .not a) fun a=>cnd a (q .ret [I 4] h) (bIQ .add (ge l 0) (I 1) fun a=>q .normal [a] h))) (q (.exit 0) [] h)
def lG(C:CC)(a c:V)(q:kQ):Prop:=let h:Hp:=.replicate 1 nnQ
 blQ c fun d=>blQ a fun a=>cIQ .neq d a (q (I 5) h) (blQ c fun a=>lp (p6 C c a) [0] h [I 0] h (exK [((.exit 0),fun a h=>q (I 0) h),(.ret,fun a h=>q (ge a 0) h)]))
theorem IT(h:lG (CX Y) t0 t1 (out v)):CP Y F.lG [t0,t1] v:=CPo 1 (eY (nCQ (aG (nCQ (.n (.l [14] [12,13] [((.exit 0),[],[]),(.ret,[4],[])] [0]) (eY (nCQ (nCQ (nCQ (nRQ [.slot 0]))))) .o))))) Tryz.func59 h
def oo(C:CC)(a c:V)(q:kQ):Prop:=let h:Hp:=[]
 clQ C h F.fk [a] fun d h=>nzQ d (q d h) (clQ C h F.lG [a,c] q)
theorem IV(h:oo (CX Y) t0 t1 (out v)):CP Y F.oo [t0,t1] v:=CPo 0 .o Tryz.func35 h
def dX(C:CC)(a c:V)(q:kQ):Prop:=let h:Hp:=.replicate 2 nnQ
 cIQ .eql c (I 10) (cIQ .lss a (.d (.int .u64 100)) (bnd (cvI .i64 a) fun a=>clQ C h F.iE [a] q) (alD 0 1 (List.replicate 24 (.int .u8 0)) h fun c h=>clQ C h F.dG [a] fun d h=>bnd (slP 24 1 h c none (some d)) fun e=>ciQ C h F.bN [e,a] 1 fun a h=>bnd (slP 24 1 h c none (some d)) fun a=>bnd (cvT h a) fun a=>q a h)) (clQ C h F.qj [nSQ,a,c,B false,B false] fun a h=>e2Q a fun a c=>q c h)
theorem uI(h:dX (CX Y) t0 t1 (out v)):CP Y F.dX [t0,t1] v:=CPo 2 (aG (nCQ (aG (nCQ (aG (nBQ (nRQ [.slot 0]) (aG (nCQ (nRQ [.inl 1]))))))))) Tryz.func180 h
def gF(C:CC)(a c:V)(q:kQ):Prop:=let h:Hp:=[]
 clQ C h F.dX [a,c] q
theorem vP(h:gF (CX Y) t0 t1 (out v)):CP Y F.gF [t0,t1] v:=CPo 0 .o Tryz.func158 h
def ju(C:CC)(a:V)(q:kQ):Prop:=let h:Hp:=[]
 clQ C h F.gF [a,I 10] q
theorem JX(h:ju (CX Y) t0 (out v)):CP Y F.ju [t0] v:=CPo 0 .o Tryz.func121 h
def jb(C:CC)(a:V)(q:kQ):Prop:=let h:Hp:=[]
 clQ C h F.fG [a,I 10,I 64] fun a h=>e2Q a fun a c=>bnd (biF .neq c (.d (.pl .nilIface))) fun c=>cnd c (q (.tup [(.d (.int .u64 0)),B false]) h) (q (.tup [a,B true]) h)
theorem CO(h:jb (CX Y) t0 (out v)):CP Y F.jb [t0] v:=CPo 0 .o Tryz.func157 h
def fN(C:CC)(a c:V)(q:kQ):Prop:=let h:Hp:=[]
 bnd (nO a) fun d=>bIQ .gtr d (I 18) fun d=>gqQ d false h c fun e h=>gbQ d false h (nO e) fun e h=>gbQ d false h (biI .gtr e (I 18)) fun e h=>bpQ d (B true) e fun d=>cnd d (q (.tup [(.d (.int .u64 0)),(.d (.int .u64 0)),B false]) h) (clQ C h F.jb [a] fun a h=>e2Q a fun a d=>clQ C h F.jb [c] fun c h=>e2Q c fun c d=>q (.tup [a,c,B true]) h)
theorem FN(h:fN (CX Y) t0 t1 (out v)):CP Y F.fN [t0,t1] v:=CPo 0 .o Tryz.func120 h
def dZ(C:CC)(a c:V)(q:kQ):Prop:=let h:Hp:=.replicate 2 nnQ
 bSQ .eql c (.d (.str [48])) fun d=>cnd d (q (.tup [(.d (.str [])),(.d (.str [])),I 17]) h) (clQ C h F.fN [a,c] fun d h=>e3Q d fun d e f=>cnd f (bIQ .quo d e fun a=>clQ C h F.ju [a] fun a h=>bIQ .rem d e fun c=>clQ C h F.ju [c] fun c h=>q (.tup [a,c,I 0]) h) (ciQ C h F.de [a] 0 fun d h=>ciQ C h F.de [c] 1 fun c h=>clQ C h F.cE [d,c] fun e h=>cIQ .lss e (I 0) (q (.tup [(.d (.str [48])),a,I 0]) h) (blQ c fun a=>cIQ .eql a (I 1) (bxQ h 1 c (I 0) fun a=>b1Q h a fun a=>clQ C h F.c8 [d,a] fun a h=>e2Q a fun a c=>clQ C h F.aM [a] fun a h=>clQ C h F.ju [c] fun c h=>q (.tup [a,c,I 0]) h) (clQ C h F.dL [d,c] fun a h=>e2Q a fun a c=>clQ C h F.aM [a] fun a h=>clQ C h F.aM [c] fun c h=>q (.tup [a,c,I 0]) h))))
def pX:Ann:=(Be (nCQ (nRQ [.inl 0,.inl 1])))
attribute [local irreducible] bnd gd cal cnd ext dR uA stD alV alD fO jn lp exK mkS apV cai yd in
theorem BH(C:CC)(t0:V)(t1:V)(q:kkQ):fnD Y C Tryz.f103 2 pX [t0,t1] q=dZ C t0 t1 q:=Uy
theorem BF:okB Tryz.prog Tryz.f103 pX=true:=az
theorem BG(h:dZ (CX Y) t0 t1 (out v)):CP Y F.dZ [t0,t1] v:=
 CP.of (fn:=Tryz.f103) (m:=2) (a:=pX) rfl (fun _=>rfl) Tryz.func103 BF (by rw[BH];exact h)
def pu(C:CC):aS:=fun l h q=>bSQ .neq (ge l 1) (.d (.str [48])) fun a=>cnd a (clQ C h F.dZ [ge l 0,ge l 1] fun a h=>e3Q a fun a c d=>nzQ d (q .ret [(.d (.str []))] h) (q .normal [ge l 1,c] h)) (q (.exit 0) [ge l 0] h)
def m7(C:CC)(a c:V)(q:kQ):Prop:=let h:Hp:=[]
 lp (pu C) [] h [a,c] h (exK [((.exit 0),fun a h=>q (ge a 0) h),(.ret,fun a h=>q (ge a 0) h)])
theorem GP(h:m7 (CX Y) t0 t1 (out v)):CP Y F.m7 [t0,t1] v:=CPo 0 (aG (nCQ (nCQ (.n (.l [0,1] [] [((.exit 0),[0],[]),(.ret,[4],[])] []) .o .o)))) Tryz.func118 h
def strconv_Itoa(C:CC)(a:V)(q:kQ):Prop:=let h:Hp:=[]
 clQ C h F.kM [a] q
theorem D9(h:strconv_Itoa (CX Y) t0 (out v)):CP Y F.strconv_Itoa [t0] v:=CPo 0 .o Tryz.func61 h
def kM(C:CC)(a:V)(q:kQ):Prop:=let h:Hp:=[]
 clQ C h F.dI [a,I 10] q
theorem Bs(h:kM (CX Y) t0 (out v)):CP Y F.kM [t0] v:=CPo 0 .o Tryz.func93 h
def dI(C:CC)(a c:V)(q:kQ):Prop:=let h:Hp:=.replicate 2 nnQ
 cIQ .eql c (I 10) (bIQ .leq (I 0) a fun c=>gqQ c true h a fun d h=>gbQ c true h (biI .lss d (I 100)) fun d h=>bpQ c d (B false) fun c=>cnd c (clQ C h F.iE [a] q) (alD 0 1 (List.replicate 24 (.int .u8 0)) h fun c h=>bnd (cvI .u64 a) fun d=>bIQ .lss a (I 0) fun e=>jn (fun d h=>clQ C h F.dG [ge d 0] fun e h=>bIQ .add (I 1) e fun f=>bnd (slP 24 1 h c (some (I 1)) (some f)) fun f=>ciQ C h F.bN [f,ge d 0] 1 fun d h=>cIQ .lss a (I 0) (bnd (ixP 24 1 c (I 0)) fun a=>stD h 1 a (.d (.int .u8 45)) fun _ h=>bIQ .add (I 1) e fun a=>bnd (slP 24 1 h c none (some a)) fun a=>bnd (cvT h a) fun a=>q a h) (bIQ .add (I 1) e fun a=>bnd (slP 24 1 h c (some (I 1)) (some a)) fun a=>bnd (cvT h a) fun a=>q a h)) fun a=>cnd e (bnd (unV .neg d) fun c=>a [c] h) (a [d] h))) (bnd (cvI .u64 a) fun d=>bIQ .lss a (I 0) fun a=>clQ C h F.qj [nSQ,d,c,a,B false] fun a h=>e2Q a fun a c=>q c h)
theorem vr(h:dI (CX Y) t0 t1 (out v)):CP Y F.dI [t0,t1] v:=CPo 2 (aG (nCQ (aG (nCQ (aG (nBQ (nRQ [.slot 0]) (aG (nBQ (aG (nJQ [6] [0,5])) (aG (nCQ (nRQ [.inl 1]))))))))))) Tryz.func126 h
def iE(C:CC)(a:V)(q:kQ):Prop:=let h:Hp:=[]
 cIQ .lss a (I 10) (bIQ .add a (I 1) fun c=>bnd (slS (.d (.str [48,49,50,51,52,53,54,55,56,57,97,98,99,100,101,102,103,104,105,106,107,108,109,110,111,112,113,114,115,116,117,118,119,120,121,122])) (some a) (some c)) fun a=>q a h) (bIQ .mul a (I 2) fun c=>bIQ .mul a (I 2) fun a=>bIQ .add a (I 2) fun a=>bnd (slS (.d (.str [48,48,48,49,48,50,48,51,48,52,48,53,48,54,48,55,48,56,48,57,49,48,49,49,49,50,49,51,49,52,49,53,49,54,49,55,49,56,49,57,50,48,50,49,50,50,50,51,50,52,50,53,50,54,50,55,50,56,50,57,51,48,51,49,51,50,51,51,51,52,51,53,51,54,51,55,51,56,51,57,52,48,52,49,52,50,52,51,52,52,52,53,52,54,52,55,52,56,52,57,53,48,53,49,53,50,53,51,53,52,53,53,53,54,53,55,53,56,53,57,54,48,54,49,54,50,54,51,54,52,54,53,54,54,54,55,54,56,54,57,55,48,55,49,55,50,55,51,55,52,55,53,55,54,55,55,55,56,55,57,56,48,56,49,56,50,56,51,56,52,56,53,56,54,56,55,56,56,56,57,57,48,57,49,57,50,57,51,57,52,57,53,57,54,57,55,57,56,57,57])) (some c) (some a)) fun a=>q a h)
theorem zD(h:iE (CX Y) t0 (out v)):CP Y F.iE [t0] v:=CPo 0 .o Tryz.func161 h
def dG(C:CC)(a:V)(q:kQ):Prop:=let h:Hp:=[]
 clQ C h F.eU [a] fun c h=>clQ C h F.fT [c] fun c h=>bnd (ixP 20 1 (gl nW) c) fun d=>b1Q h d fun d=>bIQ .geq a d fun a=>clQ C h F.fU [a] fun a h=>bIQ .add c a fun a=>q a h
theorem vn(h:dG (CX Y) t0 (out v)):CP Y F.dG [t0] v:=CPo 0 .o Tryz.func162 h
def ef(C:CC)(b:Nat)(a:V):aS:=fun l h q=>cIQ .geq (ge l 1) (I 8) (bIQ .rem (ge l 0) (.d (.int .u64 100000000)) fun c=>bnd (cvI .u32 c) fun c=>bIQ .quo (ge l 0) (.d (.int .u64 100000000)) fun d=>bIQ .quo c (.d (.int .u32 10000)) fun e=>bIQ .rem c (.d (.int .u32 10000)) fun c=>bIQ .quo c (.d (.int .u32 100)) fun f=>bIQ .mul f (.d (.int .u32 2)) fun f=>bIQ .rem c (.d (.int .u32 100)) fun c=>bIQ .mul c (.d (.int .u32 2)) fun c=>bIQ .quo e (.d (.int .u32 100)) fun g=>bIQ .mul g (.d (.int .u32 2)) fun g=>bIQ .rem e (.d (.int .u32 100)) fun e=>bIQ .mul e (.d (.int .u32 2)) fun e=>bIQ .sub (ge l 1) (I 1) fun i=>bIQ .sub (ge l 1) (I 2) fun j=>bIQ .add c (.d (.int .u32 1)) fun k=>bnd (ixS (.d (.str [48,48,48,49,48,50,48,51,48,52,48,53,48,54,48,55,48,56,48,57,49,48,49,49,49,50,49,51,49,52,49,53,49,54,49,55,49,56,49,57,50,48,50,49,50,50,50,51,50,52,50,53,50,54,50,55,50,56,50,57,51,48,51,49,51,50,51,51,51,52,51,53,51,54,51,55,51,56,51,57,52,48,52,49,52,50,52,51,52,52,52,53,52,54,52,55,52,56,52,57,53,48,53,49,53,50,53,51,53,52,53,53,53,54,53,55,53,56,53,57,54,48,54,49,54,50,54,51,54,52,54,53,54,54,54,55,54,56,54,57,55,48,55,49,55,50,55,51,55,52,55,53,55,54,55,55,55,56,55,57,56,48,56,49,56,50,56,51,56,52,56,53,56,54,56,55,56,56,56,57,57,48,57,49,57,50,57,51,57,52,57,53,57,54,57,55,57,56,57,57])) k) fun k=>bnd (ixS (.d (.str [48,48,48,49,48,50,48,51,48,52,48,53,48,54,48,55,48,56,48,57,49,48,49,49,49,50,49,51,49,52,49,53,49,54,49,55,49,56,49,57,50,48,50,49,50,50,50,51,50,52,50,53,50,54,50,55,50,56,50,57,51,48,51,49,51,50,51,51,51,52,51,53,51,54,51,55,51,56,51,57,52,48,52,49,52,50,52,51,52,52,52,53,52,54,52,55,52,56,52,57,53,48,53,49,53,50,53,51,53,52,53,53,53,54,53,55,53,56,53,57,54,48,54,49,54,50,54,51,54,52,54,53,54,54,54,55,54,56,54,57,55,48,55,49,55,50,55,51,55,52,55,53,55,54,55,55,55,56,55,57,56,48,56,49,56,50,56,51,56,52,56,53,56,54,56,55,56,56,56,57,57,48,57,49,57,50,57,51,57,52,57,53,57,54,57,55,57,56,57,57])) c) fun c=>bxQ h 1 a i fun i=>stD h 1 i k fun _ h=>bxQ h 1 a j fun i=>stD h 1 i c fun _ h=>bIQ .sub (ge l 1) (I 3) fun c=>bIQ .sub (ge l 1) (I 4) fun i=>bIQ .add f (.d (.int .u32 1)) fun j=>bnd (ixS (.d (.str [48,48,48,49,48,50,48,51,48,52,48,53,48,54,48,55,48,56,48,57,49,48,49,49,49,50,49,51,49,52,49,53,49,54,49,55,49,56,49,57,50,48,50,49,50,50,50,51,50,52,50,53,50,54,50,55,50,56,50,57,51,48,51,49,51,50,51,51,51,52,51,53,51,54,51,55,51,56,51,57,52,48,52,49,52,50,52,51,52,52,52,53,52,54,52,55,52,56,52,57,53,48,53,49,53,50,53,51,53,52,53,53,53,54,53,55,53,56,53,57,54,48,54,49,54,50,54,51,54,52,54,53,54,54,54,55,54,56,54,57,55,48,55,49,55,50,55,51,55,52,55,53,55,54,55,55,55,56,55,57,56,48,56,49,56,50,56,51,56,52,56,53,56,54,56,55,56,56,56,57,57,48,57,49,57,50,57,51,57,52,57,53,57,54,57,55,57,56,57,57])) j) fun j=>bnd (ixS (.d (.str [48,48,48,49,48,50,48,51,48,52,48,53,48,54,48,55,48,56,48,57,49,48,49,49,49,50,49,51,49,52,49,53,49,54,49,55,49,56,49,57,50,48,50,49,50,50,50,51,50,52,50,53,50,54,50,55,50,56,50,57,51,48,51,49,51,50,51,51,51,52,51,53,51,54,51,55,51,56,51,57,52,48,52,49,52,50,52,51,52,52,52,53,52,54,52,55,52,56,52,57,53,48,53,49,53,50,53,51,53,52,53,53,53,54,53,55,53,56,53,57,54,48,54,49,54,50,54,51,54,52,54,53,54,54,54,55,54,56,54,57,55,48,55,49,55,50,55,51,55,52,55,53,55,54,55,55,55,56,55,57,56,48,56,49,56,50,56,51,56,52,56,53,56,54,56,55,56,56,56,57,57,48,57,49,57,50,57,51,57,52,57,53,57,54,57,55,57,56,57,57])) f) fun f=>bxQ h 1 a c fun c=>stD h 1 c j fun _ h=>bxQ h 1 a i fun c=>stD h 1 c f fun _ h=>bIQ .sub (ge l 1) (I 5) fun c=>bIQ .sub (ge l 1) (I 6) fun f=>bIQ .add e (.d (.int .u32 1)) fun i=>bnd (ixS (.d (.str [48,48,48,49,48,50,48,51,48,52,48,53,48,54,48,55,48,56,48,57,49,48,49,49,49,50,49,51,49,52,49,53,49,54,49,55,49,56,49,57,50,48,50,49,50,50,50,51,50,52,50,53,50,54,50,55,50,56,50,57,51,48,51,49,51,50,51,51,51,52,51,53,51,54,51,55,51,56,51,57,52,48,52,49,52,50,52,51,52,52,52,53,52,54,52,55,52,56,52,57,53,48,53,49,53,50,53,51,53,52,53,53,53,54,53,55,53,56,53,57,54,48,54,49,54,50,54,51,54,52,54,53,54,54,54,55,54,56,54,57,55,48,55,49,55,50,55,51,55,52,55,53,55,54,55,55,55,56,55,57,56,48,56,49,56,50,56,51,56,52,56,53,56,54,56,55,56,56,56,57,57,48,57,49,57,50,57,51,57,52,57,53,57,54,57,55,57,56,57,57])) i) fun i=>bnd (ixS (.d (.str [48,48,48,49,48,50,48,51,48,52,48,53,48,54,48,55,48,56,48,57,49,48,49,49,49,50,49,51,49,52,49,53,49,54,49,55,49,56,49,57,50,48,50,49,50,50,50,51,50,52,50,53,50,54,50,55,50,56,50,57,51,48,51,49,51,50,51,51,51,52,51,53,51,54,51,55,51,56,51,57,52,48,52,49,52,50,52,51,52,52,52,53,52,54,52,55,52,56,52,57,53,48,53,49,53,50,53,51,53,52,53,53,53,54,53,55,53,56,53,57,54,48,54,49,54,50,54,51,54,52,54,53,54,54,54,55,54,56,54,57,55,48,55,49,55,50,55,51,55,52,55,53,55,54,55,55,55,56,55,57,56,48,56,49,56,50,56,51,56,52,56,53,56,54,56,55,56,56,56,57,57,48,57,49,57,50,57,51,57,52,57,53,57,54,57,55,57,56,57,57])) e) fun e=>bxQ h 1 a c fun c=>stD h 1 c i fun _ h=>bxQ h 1 a f fun c=>stD h 1 c e fun _ h=>bIQ .sub (ge l 1) (I 7) fun c=>bIQ .sub (ge l 1) (I 8) fun e=>bIQ .add g (.d (.int .u32 1)) fun f=>bnd (ixS (.d (.str [48,48,48,49,48,50,48,51,48,52,48,53,48,54,48,55,48,56,48,57,49,48,49,49,49,50,49,51,49,52,49,53,49,54,49,55,49,56,49,57,50,48,50,49,50,50,50,51,50,52,50,53,50,54,50,55,50,56,50,57,51,48,51,49,51,50,51,51,51,52,51,53,51,54,51,55,51,56,51,57,52,48,52,49,52,50,52,51,52,52,52,53,52,54,52,55,52,56,52,57,53,48,53,49,53,50,53,51,53,52,53,53,53,54,53,55,53,56,53,57,54,48,54,49,54,50,54,51,54,52,54,53,54,54,54,55,54,56,54,57,55,48,55,49,55,50,55,51,55,52,55,53,55,54,55,55,55,56,55,57,56,48,56,49,56,50,56,51,56,52,56,53,56,54,56,55,56,56,56,57,57,48,57,49,57,50,57,51,57,52,57,53,57,54,57,55,57,56,57,57])) f) fun f=>bnd (ixS (.d (.str [48,48,48,49,48,50,48,51,48,52,48,53,48,54,48,55,48,56,48,57,49,48,49,49,49,50,49,51,49,52,49,53,49,54,49,55,49,56,49,57,50,48,50,49,50,50,50,51,50,52,50,53,50,54,50,55,50,56,50,57,51,48,51,49,51,50,51,51,51,52,51,53,51,54,51,55,51,56,51,57,52,48,52,49,52,50,52,51,52,52,52,53,52,54,52,55,52,56,52,57,53,48,53,49,53,50,53,51,53,52,53,53,53,54,53,55,53,56,53,57,54,48,54,49,54,50,54,51,54,52,54,53,54,54,54,55,54,56,54,57,55,48,55,49,55,50,55,51,55,52,55,53,55,54,55,55,55,56,55,57,56,48,56,49,56,50,56,51,56,52,56,53,56,54,56,55,56,56,56,57,57,48,57,49,57,50,57,51,57,52,57,53,57,54,57,55,57,56,57,57])) g) fun g=>bxQ h 1 a c fun c=>stD h 1 c f fun _ h=>bxQ h 1 a e fun a=>stD h 1 a g fun _ h=>bIQ .sub (ge l 1) (I 8) fun a=>q .normal [d,a] h) (q (.exit 0) [ge l 0,ge l 1] h)
def bN(C:CC)(b:Nat)(h:Hp)(a c:V)(q:kQ):Prop:=let h:Hp:=h++List.replicate 0 nnQ
 blQ a fun d=>lp (ef C b a) [] h [c,d] h (exK [((.exit 0),fun c h=>bnd (cvI .u32 (ge c 0)) fun d=>bIQ .geq (ge c 1) (I 4) fun e=>jn (fun c h=>bIQ .geq (ge c 1) (I 2) fun d=>jn (fun c h=>bIQ .gtr (ge c 1) (I 0) fun d=>jn (fun a h=>q (.tup []) h) fun e=>cnd d (bIQ .add (.d (.int .u32 48)) (ge c 0) fun c=>bnd (cvI .u8 c) fun c=>bxQ h 1 a (I 0) fun a=>stD h 1 a c fun _ h=>e [] h) (e [] h)) fun e=>cnd d (bIQ .rem (ge c 0) (.d (.int .u32 100)) fun d=>bIQ .mul d (.d (.int .u32 2)) fun d=>bIQ .quo (ge c 0) (.d (.int .u32 100)) fun f=>bIQ .sub (ge c 1) (I 1) fun g=>bIQ .sub (ge c 1) (I 2) fun i=>bIQ .add d (.d (.int .u32 1)) fun j=>bnd (ixS (.d (.str [48,48,48,49,48,50,48,51,48,52,48,53,48,54,48,55,48,56,48,57,49,48,49,49,49,50,49,51,49,52,49,53,49,54,49,55,49,56,49,57,50,48,50,49,50,50,50,51,50,52,50,53,50,54,50,55,50,56,50,57,51,48,51,49,51,50,51,51,51,52,51,53,51,54,51,55,51,56,51,57,52,48,52,49,52,50,52,51,52,52,52,53,52,54,52,55,52,56,52,57,53,48,53,49,53,50,53,51,53,52,53,53,53,54,53,55,53,56,53,57,54,48,54,49,54,50,54,51,54,52,54,53,54,54,54,55,54,56,54,57,55,48,55,49,55,50,55,51,55,52,55,53,55,54,55,55,55,56,55,57,56,48,56,49,56,50,56,51,56,52,56,53,56,54,56,55,56,56,56,57,57,48,57,49,57,50,57,51,57,52,57,53,57,54,57,55,57,56,57,57])) j) fun j=>bnd (ixS (.d (.str [48,48,48,49,48,50,48,51,48,52,48,53,48,54,48,55,48,56,48,57,49,48,49,49,49,50,49,51,49,52,49,53,49,54,49,55,49,56,49,57,50,48,50,49,50,50,50,51,50,52,50,53,50,54,50,55,50,56,50,57,51,48,51,49,51,50,51,51,51,52,51,53,51,54,51,55,51,56,51,57,52,48,52,49,52,50,52,51,52,52,52,53,52,54,52,55,52,56,52,57,53,48,53,49,53,50,53,51,53,52,53,53,53,54,53,55,53,56,53,57,54,48,54,49,54,50,54,51,54,52,54,53,54,54,54,55,54,56,54,57,55,48,55,49,55,50,55,51,55,52,55,53,55,54,55,55,55,56,55,57,56,48,56,49,56,50,56,51,56,52,56,53,56,54,56,55,56,56,56,57,57,48,57,49,57,50,57,51,57,52,57,53,57,54,57,55,57,56,57,57])) d) fun d=>bxQ h 1 a g fun g=>stD h 1 g j fun _ h=>bxQ h 1 a i fun a=>stD h 1 a d fun _ h=>bIQ .sub (ge c 1) (I 2) fun a=>e [f,a] h) (e [ge c 0,ge c 1] h)) fun f=>cnd e (bIQ .rem d (.d (.int .u32 10000)) fun e=>bIQ .quo d (.d (.int .u32 10000)) fun d=>bIQ .quo e (.d (.int .u32 100)) fun g=>bIQ .mul g (.d (.int .u32 2)) fun g=>bIQ .rem e (.d (.int .u32 100)) fun e=>bIQ .mul e (.d (.int .u32 2)) fun e=>bIQ .sub (ge c 1) (I 1) fun i=>bIQ .sub (ge c 1) (I 2) fun j=>bIQ .add e (.d (.int .u32 1)) fun k=>bnd (ixS (.d (.str [48,48,48,49,48,50,48,51,48,52,48,53,48,54,48,55,48,56,48,57,49,48,49,49,49,50,49,51,49,52,49,53,49,54,49,55,49,56,49,57,50,48,50,49,50,50,50,51,50,52,50,53,50,54,50,55,50,56,50,57,51,48,51,49,51,50,51,51,51,52,51,53,51,54,51,55,51,56,51,57,52,48,52,49,52,50,52,51,52,52,52,53,52,54,52,55,52,56,52,57,53,48,53,49,53,50,53,51,53,52,53,53,53,54,53,55,53,56,53,57,54,48,54,49,54,50,54,51,54,52,54,53,54,54,54,55,54,56,54,57,55,48,55,49,55,50,55,51,55,52,55,53,55,54,55,55,55,56,55,57,56,48,56,49,56,50,56,51,56,52,56,53,56,54,56,55,56,56,56,57,57,48,57,49,57,50,57,51,57,52,57,53,57,54,57,55,57,56,57,57])) k) fun k=>bnd (ixS (.d (.str [48,48,48,49,48,50,48,51,48,52,48,53,48,54,48,55,48,56,48,57,49,48,49,49,49,50,49,51,49,52,49,53,49,54,49,55,49,56,49,57,50,48,50,49,50,50,50,51,50,52,50,53,50,54,50,55,50,56,50,57,51,48,51,49,51,50,51,51,51,52,51,53,51,54,51,55,51,56,51,57,52,48,52,49,52,50,52,51,52,52,52,53,52,54,52,55,52,56,52,57,53,48,53,49,53,50,53,51,53,52,53,53,53,54,53,55,53,56,53,57,54,48,54,49,54,50,54,51,54,52,54,53,54,54,54,55,54,56,54,57,55,48,55,49,55,50,55,51,55,52,55,53,55,54,55,55,55,56,55,57,56,48,56,49,56,50,56,51,56,52,56,53,56,54,56,55,56,56,56,57,57,48,57,49,57,50,57,51,57,52,57,53,57,54,57,55,57,56,57,57])) e) fun e=>bxQ h 1 a i fun i=>stD h 1 i k fun _ h=>bxQ h 1 a j fun i=>stD h 1 i e fun _ h=>bIQ .sub (ge c 1) (I 3) fun e=>bIQ .sub (ge c 1) (I 4) fun i=>bIQ .add g (.d (.int .u32 1)) fun j=>bnd (ixS (.d (.str [48,48,48,49,48,50,48,51,48,52,48,53,48,54,48,55,48,56,48,57,49,48,49,49,49,50,49,51,49,52,49,53,49,54,49,55,49,56,49,57,50,48,50,49,50,50,50,51,50,52,50,53,50,54,50,55,50,56,50,57,51,48,51,49,51,50,51,51,51,52,51,53,51,54,51,55,51,56,51,57,52,48,52,49,52,50,52,51,52,52,52,53,52,54,52,55,52,56,52,57,53,48,53,49,53,50,53,51,53,52,53,53,53,54,53,55,53,56,53,57,54,48,54,49,54,50,54,51,54,52,54,53,54,54,54,55,54,56,54,57,55,48,55,49,55,50,55,51,55,52,55,53,55,54,55,55,55,56,55,57,56,48,56,49,56,50,56,51,56,52,56,53,56,54,56,55,56,56,56,57,57,48,57,49,57,50,57,51,57,52,57,53,57,54,57,55,57,56,57,57])) j) fun j=>bnd (ixS (.d (.str [48,48,48,49,48,50,48,51,48,52,48,53,48,54,48,55,48,56,48,57,49,48,49,49,49,50,49,51,49,52,49,53,49,54,49,55,49,56,49,57,50,48,50,49,50,50,50,51,50,52,50,53,50,54,50,55,50,56,50,57,51,48,51,49,51,50,51,51,51,52,51,53,51,54,51,55,51,56,51,57,52,48,52,49,52,50,52,51,52,52,52,53,52,54,52,55,52,56,52,57,53,48,53,49,53,50,53,51,53,52,53,53,53,54,53,55,53,56,53,57,54,48,54,49,54,50,54,51,54,52,54,53,54,54,54,55,54,56,54,57,55,48,55,49,55,50,55,51,55,52,55,53,55,54,55,55,55,56,55,57,56,48,56,49,56,50,56,51,56,52,56,53,56,54,56,55,56,56,56,57,57,48,57,49,57,50,57,51,57,52,57,53,57,54,57,55,57,56,57,57])) g) fun g=>bxQ h 1 a e fun e=>stD h 1 e j fun _ h=>bxQ h 1 a i fun a=>stD h 1 a g fun _ h=>bIQ .sub (ge c 1) (I 4) fun a=>f [d,a] h) (f [d,ge c 1] h))])
def j7(b:Nat):Ann:=(.n .x .o (.n .x (.n .x (.n (.l [1,4] [0] [((.exit 0),[1,4],[0])] []) .o .o) .o) (.n .x .o (.n .x (.n .x .o (.n (.j [12,4] [0]) .o .o)) (.n .x (.n .x .o (.n (.j [12,4] [0]) .o .o)) (.n .x .o (.n (.j [] []) .o .o)))))))
theorem sY(C:CC)(h:Hp)(t0:V)(t1:V)(q:kkQ):fnI Y C Tryz.f163 0 j7 [t0,t1] h q=bN C h.length h t0 t1 q:=by rfl
theorem sW(b:Nat):okB Tryz.prog Tryz.f163 (j7 b)=true:=by rfl
theorem sX(hh:bN (CX Y) h.length h t0 t1 (nN h.length v h2)):CI Y F.bN [t0,t1] h v h2:=
 CI.of (fn:=Tryz.f163) (m:=0) (a:=j7) rfl (fun _=>rfl) Tryz.func163 (sW _) (by rw[sY];exact hh)
def fT(C:CC)(a:V)(q:kQ):Prop:=let h:Hp:=[]
 bIQ .mul a (I 78913) fun a=>bIQ .shr a (.d (.int .u64 18)) fun a=>q a h
theorem vp(h:fT (CX Y) t0 (out v)):CP Y F.fT [t0] v:=CPo 0 .o Tryz.func182 h
def fU(C:CC)(a:V)(q:kQ):Prop:=let h:Hp:=[]
 cnd a (q (I 1) h) (q (I 0) h)
theorem vq(h:fU (CX Y) t0 (out v)):CP Y F.fU [t0] v:=CPo 0 .o Tryz.func184 h
def eU(C:CC)(a:V)(q:kQ):Prop:=let h:Hp:=[]
 bIQ .geq a (.d (.int .u64 4294967296)) fun c=>jn (fun a h=>bIQ .geq (ge a 0) (.d (.int .u64 65536)) fun c=>jn (fun a h=>bIQ .geq (ge a 0) (.d (.int .u64 256)) fun c=>jn (fun a h=>bnd (cvI .u8 (ge a 0)) fun c=>bnd (ixS (.d (.str [0,1,2,2,3,3,3,3,4,4,4,4,4,4,4,4,5,5,5,5,5,5,5,5,5,5,5,5,5,5,5,5,6,6,6,6,6,6,6,6,6,6,6,6,6,6,6,6,6,6,6,6,6,6,6,6,6,6,6,6,6,6,6,6,7,7,7,7,7,7,7,7,7,7,7,7,7,7,7,7,7,7,7,7,7,7,7,7,7,7,7,7,7,7,7,7,7,7,7,7,7,7,7,7,7,7,7,7,7,7,7,7,7,7,7,7,7,7,7,7,7,7,7,7,7,7,7,7,8,8,8,8,8,8,8,8,8,8,8,8,8,8,8,8,8,8,8,8,8,8,8,8,8,8,8,8,8,8,8,8,8,8,8,8,8,8,8,8,8,8,8,8,8,8,8,8,8,8,8,8,8,8,8,8,8,8,8,8,8,8,8,8,8,8,8,8,8,8,8,8,8,8,8,8,8,8,8,8,8,8,8,8,8,8,8,8,8,8,8,8,8,8,8,8,8,8,8,8,8,8,8,8,8,8,8,8,8,8,8,8,8,8,8,8,8,8,8,8,8,8,8,8,8,8,8,8])) c) fun c=>bnd (cvI .i64 c) fun c=>bIQ .add (ge a 1) c fun a=>q a h) fun d=>cnd c (bIQ .shr (ge a 0) (.d (.int .u64 8)) fun c=>bIQ .add (ge a 1) (I 8) fun a=>d [c,a] h) (d [ge a 0,ge a 1] h)) fun d=>cnd c (bIQ .shr (ge a 0) (.d (.int .u64 16)) fun c=>bIQ .add (ge a 1) (I 16) fun a=>d [c,a] h) (d [ge a 0,ge a 1] h)) fun d=>cnd c (bIQ .shr a (.d (.int .u64 32)) fun a=>d [a,I 32] h) (d [a,I 0] h)
theorem zj(h:eU (CX Y) t0 (out v)):CP Y F.eU [t0] v:=CPo 0 (aG (nBQ (aG (nJQ [0,2] [])) (nBQ (aG (nJQ [0,2] [])) (nCQ (aG (nJQ [0,2] [])))))) Tryz.func183 h
def f9(C:CC)(a c:V)(q:kkQ):Prop:=let h:Hp:=List.replicate 0 nnQ
 bnd (biI .and a (.d (.int .u64 4294967295))) fun d=>bnd (biI .shr a (.d (.int .u64 32))) fun e=>bnd (biI .and c (.d (.int .u64 4294967295))) fun f=>bnd (biI .shr c (.d (.int .u64 32))) fun g=>bnd (biI .mul d f) fun i=>bnd (biI .mul e f) fun f=>bnd (biI .shr i (.d (.int .u64 32))) fun i=>bnd (biI .add f i) fun f=>bnd (biI .and f (.d (.int .u64 4294967295))) fun i=>bnd (biI .shr f (.d (.int .u64 32))) fun f=>bnd (biI .mul d g) fun d=>bnd (biI .add i d) fun d=>bnd (biI .mul e g) fun e=>bnd (biI .add e f) fun e=>bnd (biI .shr d (.d (.int .u64 32))) fun d=>bnd (biI .add e d) fun d=>bnd (biI .mul a c) fun a=>q (.tup [d,a]) h
theorem zh(h:f9 (CX Y) t0 t1 (out v)):CP Y F.f9 [t0,t1] v:=CPo 0 .o Tryz.func189 h
def strconv_Atoi(C:CC)(a:V)(q:kQ):Prop:=let h:Hp:=[]
 clQ C h F.gZ [a] fun c h=>e2Q c fun c d=>bnd (biF .neq d (.d (.pl .nilIface))) fun e=>cnd e (clQ C h F.Cp [(.d (.str [65,116,111,105])),a,I 0,I 0,d] fun a h=>q (.tup [c,a]) h) (q (.tup [c,(.d (.pl .nilIface))]) h)
theorem vQ(h:strconv_Atoi (CX Y) t0 (out v)):CP Y F.strconv_Atoi [t0] v:=CPo 0 .o Tryz.func119 h
def mJ(C:CC)(a c:V):aS:=fun l h q=>cIQ .lss (ge l 1) c (bxQ h 1 a (ge l 1) fun a=>b1Q h a fun a=>bIQ .sub a (.d (.int .u8 48)) fun a=>cIQ .gtr a (.d (.int .u8 9)) (False /- makeInterface -/) (bIQ .mul (ge l 0) (I 10) fun c=>bnd (cvI .i64 a) fun a=>bIQ .add c a fun a=>bIQ .add (ge l 1) (I 1) fun c=>q .normal [a,c] h)) (q (.exit 0) [ge l 0] h)
def gZ(C:CC)(a:V)(q:kQ):Prop:=let h:Hp:=[]
 bnd (nO a) fun c=>gd (B false) true h (fun q=>q c h) fun d h=>gd (B false) true h (fun q=>bIQ .lss (I 0) d fun v=>q v h) fun d h=>gd (B false) true h (fun q=>q d h) fun d h=>gqQ d true h c fun e h=>gbQ d true h (biI .lss e (I 10)) fun e h=>gd (B false) true h (fun q=>bpQ d e (B false) fun v=>q v h) fun d h=>bpQ (B false) d (B false) fun d=>gqQ d false h (B true) fun e h=>gqQ e true h c fun f h=>gbQ e true h (biI .lss (I 0) f) fun f h=>gqQ e true h f fun f h=>gqQ f true h c fun c h=>gbQ f true h (biI .lss c (I 19)) fun c h=>gbQ e true h (mV f c (B false)) fun c h=>gbQ d false h (mV e c (B false)) fun c h=>bpQ d (B true) c fun c=>cnd c (bnd (ixS a (I 0)) fun c=>bIQ .eql c (.d (.int .u8 45)) fun c=>gqQ c false h a fun d h=>gbQ c false h (ixS d (I 0)) fun d h=>gbQ c false h (biI .eql d (.d (.int .u8 43))) fun d h=>bpQ c (B true) d fun c=>jn (fun c h=>cvB (ge c 0) h fun c h=>blQ c fun d=>lp (mJ C c d) [] h [I 0,I 0] h (exK [((.exit 0),fun c h=>bnd (ixS a (I 0)) fun a=>bIQ .eql a (.d (.int .u8 45)) fun a=>jn (fun a h=>q (.tup [ge a 0,(.d (.pl .nilIface))]) h) fun d=>cnd a (bnd (unV .neg (ge c 0)) fun a=>d [a] h) (d [ge c 0] h)),(.ret,fun a h=>q (.tup [ge a 0,ge a 1]) h)])) fun d=>cnd c (bnd (slS a (some (I 1)) none) fun a=>bnd (nO a) fun c=>cIQ .lss c (I 1) (False /- makeInterface -/) (d [a] h)) (d [a] h)) (clQ C h F.yo [a,I 10,I 0] fun a h=>e2Q a fun a c=>q (.tup [a,c]) h)
theorem tS(h:gZ (CX Y) t0 (out v)):CP Y F.gZ [t0] v:=CPo 0 (eY (nCQ (aG (nCQ (aG (nBQ (aG (nJQ [0] [5])) (aG (nBQ (aG (nCQ (.n (.l [6,49] [5,47,48] [((.exit 0),[6],[5]),(.ret,[2,3],[])] []) .o .o))) (nCQ (aG (nJQ [6] []))))))))))) Tryz.func156 h
def fx(C:CC)(a c:V):aS:=fun l h q=>cIQ .lss (ge l 0) c (bxQ h 1 a (ge l 0) fun a=>b1Q h a fun a=>bIQ .lss a (.d (.int .u8 48)) fun c=>gqQ c false h a fun a h=>gbQ c false h (biI .gtr a (.d (.int .u8 57))) fun a h=>bpQ c (B true) a fun a=>cnd a (q .ret [B false] h) (bIQ .add (ge l 0) (I 1) fun a=>q .normal [a] h)) (q (.exit 0) [] h)
def iw(C:CC)(a:V)(q:kQ):Prop:=let h:Hp:=[]
 cvB a h fun c h=>blQ c fun d=>lp (fx C c d) [] h [I 0] h (exK [((.exit 0),fun c h=>bnd (nO a) fun c=>bIQ .eql c (I 1) fun c=>gqQ c false h a fun d h=>gbQ c false h (nO d) fun d h=>gbQ c false h (biI .gtr d (I 1)) fun d h=>gqQ c false h d fun d h=>gqQ d true h a fun a h=>gbQ d true h (ixS a (I 0)) fun a h=>gbQ d true h (biI .neq a (.d (.int .u8 48))) fun a h=>gbQ c false h (mV d a (B false)) fun a h=>bpQ c (B true) a fun a=>q a h),(.ret,fun a h=>q (ge a 0) h)])
theorem xC(h:iw (CX Y) t0 (out v)):CP Y F.iw [t0] v:=CPo 0 (aG (nCQ (aG (nCQ (.n (.l [8] [0,6,7] [((.exit 0),[],[0]),(.ret,[2],[])] []) .o .o))))) Tryz.func181 h
def kh(C:CC)(a:V)(q:kQ):Prop:=let h:Hp:=[]
 clQ C h F.iw [a] fun c h=>bnd (unV .not c) fun c=>gqQ c false h a fun a h=>gbQ c false h (nO a) fun a h=>gbQ c false h (biI .gtr a (I 400)) fun a h=>bpQ c (B true) a fun a=>cnd a (q (I 2) h) (q (I 0) h)
theorem CU(h:kh (CX Y) t0 (out v)):CP Y F.kh [t0] v:=CPo 0 .o Tryz.func160 h
def bO(C:CC)(b:Nat):aS:=fun l h q=>blQ (ge l 0) fun a=>bIQ .gtr a (I 0) fun a=>gqQ a true h (ge l 0) fun c h=>gqQ a true h (ge l 0) fun d h=>gbQ a true h (aY d) fun d h=>gbQ a true h (biI .sub d (I 1)) fun d h=>gbQ a true h (ixV h 1 c d) fun c h=>gbQ a true h (ld1 h c) fun c h=>gbQ a true h (biI .eql c (.d (.int .u64 0))) fun c h=>bpQ a c (B false) fun a=>cnd a (blQ (ge l 0) fun a=>bIQ .sub a (I 1) fun a=>bnd (slV h 1 (ge l 0) none (some a)) fun a=>q .normal [a] h) (q (.exit 0) [ge l 0] h)
def aA(C:CC)(b:Nat)(h:Hp)(a:V)(q:kQ):Prop:=let h:Hp:=h++List.replicate 0 nnQ
 lp (bO C b) [] h [a] h (exK [((.exit 0),fun a h=>q (ge a 0) h)])
def mC(b:Nat):Ann:=(.n .x .o (.n .x (.n .x (.n (.l [0] [] [((.exit 0),[0],[])] []) .o .o) .o) .o))
theorem vu(C:CC)(h:Hp)(t0:V)(q:kkQ):fnI Y C Tryz.f138 0 mC [t0] h q=aA C h.length h t0 q:=by rfl
theorem vt(b:Nat):okB Tryz.prog Tryz.f138 (mC b)=true:=by rfl
theorem pC(hh:aA (CX Y) h.length h t0 (nN h.length v h2)):CI Y F.aA [t0] h v h2:=
 CI.of (fn:=Tryz.f138) (m:=0) (a:=mC) rfl (fun _=>rfl) Tryz.func138 (vt _) (by rw[vu];exact hh)
def po(C:CC)(b:Nat)(a c:V):aS:=fun l h q=>cIQ .lss (ge l 1) c (bxQ h 1 a (ge l 1) fun a=>b1Q h a fun a=>bIQ .mul (.d (.int .u64 10)) (ge l 0) fun c=>bIQ .sub a (.d (.int .u8 48)) fun a=>bnd (cvI .u64 a) fun a=>bIQ .add c a fun a=>bIQ .add (ge l 1) (I 1) fun c=>q .normal [a,c] h) (q (.exit 2) [ge l 0] h)
def pq(C:CC)(b:Nat)(a:V):aS:=fun l h q=>cIQ .gtr (ge l 1) (I 0) (bIQ .sub (ge l 1) (I 9) fun c=>bnd (mxI true [I 0,c]) fun c=>bnd (slS a (some c) (some (ge l 1))) fun a=>cvB a h fun a h=>blQ a fun c=>lp (po C b a c) [] h [(.d (.int .u64 0)),I 0] h (exK [((.exit 2),fun a h=>dR 1 [.int .u64 0] [(0,(ge a 0))] h fun a h=>apV false (b+1) 1 8 (ge l 0) a h fun a h=>bIQ .sub (ge l 1) (I 9) fun c=>q .normal [a,c] h)])) (q (.exit 0) [ge l 0] h)
def de(C:CC)(b:Nat)(h:Hp)(a:V)(q:kQ):Prop:=let h:Hp:=h++List.replicate 3 nnQ
 bnd (nO a) fun c=>bIQ .quo c (I 9) fun c=>bIQ .add c (I 1) fun c=>mkS (b+0) 8 [.int .u64 0] h (I 0) c fun c h=>bnd (nO a) fun d=>lp (pq C b a) [] h [c,d] h (exK [((.exit 0),fun a h=>ciQ C h F.aA [ge a 0] (b+2) q)])
def ta(b:Nat):Ann:=(.n .x .o (.n .x (.n (.r [.slot (b+0)]) .o .o) (.n .x (.n .x .o (.n .x (.n (.l [3,4] [0] [((.exit 0),[3],[])] []) (.n .x .o (.n .x (.n .x (.n .x .o (.n .x (.n .x .o (.n .x (.n (.l [5,27] [0,3,4,25,26] [((.exit 2),[5],[0,3,4])] []) .o .o) .o)) (.n (.r [.o,.slot (b+1)]) .o .o))) .o) .o)) .o) .o)) (.n .x (.n (.r [.inl (b+2)]) .o .o) .o))))
theorem GJ(C:CC)(h:Hp)(t0:V)(q:kkQ):fnI Y C Tryz.f122 3 ta [t0] h q=de C h.length h t0 q:=by rfl
theorem GH(b:Nat):okB Tryz.prog Tryz.f122 (ta b)=true:=by rfl
theorem GI(hh:de (CX Y) h.length h t0 (nN h.length v h2)):CI Y F.de [t0] h v h2:=
 CI.of (fn:=Tryz.f122) (m:=3) (a:=ta) rfl (fun _=>rfl) Tryz.func122 (GH _) (by rw[GJ];exact hh)
def dN(C:CC)(b:Nat)(a:V):aS:=fun l h q=>cIQ .lss (ge l 0) (ge l 1) (bxQ h 1 a (ge l 1) fun c=>b1Q h c fun c=>bxQ h 1 a (ge l 0) fun d=>b1Q h d fun d=>bxQ h 1 a (ge l 0) fun e=>stD h 1 e c fun _ h=>bxQ h 1 a (ge l 1) fun a=>stD h 1 a d fun _ h=>bIQ .add (ge l 0) (I 1) fun a=>bIQ .sub (ge l 1) (I 1) fun c=>q .normal [a,c] h) (q (.exit 0) [] h)
def bQ(C:CC)(b:Nat)(h:Hp)(a:V)(q:kQ):Prop:=let h:Hp:=h++List.replicate 0 nnQ
 blQ a fun c=>bIQ .sub c (I 1) fun c=>lp (dN C b a) [] h [I 0,c] h (exK [((.exit 0),fun a h=>q (.tup []) h)])
def jk(b:Nat):Ann:=(.n .x .o (.n .x (.n (.l [2,3] [0] [((.exit 0),[],[])] []) .o .o) .o))
theorem rR(C:CC)(h:Hp)(t0:V)(q:kkQ):fnI Y C Tryz.f159 0 jk [t0] h q=bQ C h.length h t0 q:=by kernel_rfl
theorem rP(b:Nat):okB Tryz.prog Tryz.f159 (jk b)=true:=of_decide_eq_true ag
theorem rQ(hh:bQ (CX Y) h.length h t0 (nN h.length v h2)):CI Y F.bQ [t0] h v h2:=
 CI.of (fn:=Tryz.f159) (m:=0) (a:=jk) rfl (fun _=>rfl) Tryz.func159 (rP _) (by rw[rR];exact hh)
def dj(C:CC)(a c:V):aS:=fun l h q=>bIQ .lss (ge l 2) (I 9) fun d=>gqQ d true h c fun c h=>gbQ d true h (biI .add c (I 1)) fun c h=>gqQ d true h a fun a h=>gbQ d true h (aY a) fun a h=>gbQ d true h (biI .lss c a) fun a h=>gqQ d true h a fun a h=>gqQ a false h (ge l 1) fun c h=>gbQ a false h (biI .gtr c (.d (.int .u64 0))) fun c h=>gbQ d true h (mV a (B true) c) fun a h=>bpQ d a (B false) fun a=>cnd a (bIQ .rem (ge l 1) (.d (.int .u64 10)) fun a=>bIQ .add (.d (.int .u64 48)) a fun a=>bnd (cvI .u8 a) fun a=>dR 1 [.int .u8 0] [(0,a)] h fun a h=>apV false 1 1 1 (ge l 0) a h fun a h=>bIQ .quo (ge l 1) (.d (.int .u64 10)) fun c=>bIQ .add (ge l 2) (I 1) fun d=>q .normal [a,c,d] h) (q (.exit 2) [ge l 0] h)
def iR(C:CC)(a c d:V):aS:=fun l h q=>cIQ .lss (ge l 1) d (bxQ h 1 c (ge l 1) fun c=>b1Q h c fun c=>lp (dj C a (ge l 1)) [] h [ge l 0,c,I 0] h (exK [((.exit 2),fun a h=>bIQ .add (ge l 1) (I 1) fun c=>q .normal [ge a 0,c] h)])) (q (.exit 0) [ge l 0] h)
def aM(C:CC)(a:V)(q:kQ):Prop:=let h:Hp:=.replicate 3 nnQ
 blQ a fun c=>cIQ .eql c (I 0) (q (.d (.str [48])) h) (blQ a fun c=>bIQ .mul (I 9) c fun c=>mkS 0 1 [.int .u8 0] h (I 0) c fun c h=>blQ a fun d=>lp (iR C a a d) [] h [c,I 0] h (exK [((.exit 0),fun a h=>ciQ C h F.bQ [ge a 0] 2 fun c h=>bnd (cvT h (ge a 0)) fun a=>q a h)]))
theorem vv(h:aM (CX Y) t0 (out v)):CP Y F.aM [t0] v:=CPo 3 (eY (nBQ (nRQ [.slot 0]) (nBQ (aG (nCQ (.n (.l [3,16] [0,14,15] [((.exit 0),[3],[])] []) (eY (nCQ (nCQ (eY (nCQ (.n (.l [3,5,6] [0,4,14,15,16] [((.exit 2),[3],[0,14,15,16])] []) (aG (nCQ (nCQ (nCQ (nRQ [.o,.slot 1]))))) .o)))))) .o))) (nCQ (nRQ [.inl 2]))))) Tryz.func124 h
def df(C:CC)(a c:V):aS:=fun l h q=>cIQ .geq (ge l 0) (I 0) (bxQ h 1 a (ge l 0) fun d=>b1Q h d fun d=>bxQ h 1 c (ge l 0) fun e=>b1Q h e fun e=>cIQ .lss d e (q .ret [I (-1)] h) (bxQ h 1 a (ge l 0) fun a=>b1Q h a fun a=>bxQ h 1 c (ge l 0) fun c=>b1Q h c fun c=>cIQ .gtr a c (q .ret [I 1] h) (bIQ .sub (ge l 0) (I 1) fun a=>q .normal [a] h))) (q (.exit 0) [] h)
def cE(C:CC)(a c:V)(q:kQ):Prop:=let h:Hp:=[]
 blQ a fun d=>blQ c fun e=>cIQ .neq d e (blQ a fun a=>blQ c fun c=>bIQ .sub a c fun a=>bnd (mxI true [I (-1),a]) fun a=>bnd (mxI false [I 1,a]) fun a=>q a h) (blQ a fun d=>bIQ .sub d (I 1) fun d=>lp (df C a c) [] h [d] h (exK [((.exit 0),fun a h=>q (I 0) h),(.ret,fun a h=>q (ge a 0) h)]))
theorem sZ(h:cE (CX Y) t0 t1 (out v)):CP Y F.cE [t0,t1] v:=CPo 0 (eY (nCQ (aG (nCQ (.n (.l [5] [0,1] [((.exit 0),[],[]),(.ret,[4],[])] []) .o .o))))) Tryz.func134 h
def ir(C:CC)(b:Nat)(a c d e f:V):aS:=fun l h q=>cIQ .lss (ge l 1) f (bxQ h 1 e (ge l 1) fun e=>b1Q h e fun e=>bIQ .add c (ge l 1) fun f=>bxQ h 1 a f fun f=>b1Q h f fun f=>bIQ .mul d e fun d=>bIQ .add f d fun d=>bIQ .add (ge l 0) d fun d=>bIQ .add c (ge l 1) fun c=>bIQ .rem d (.d (.int .u64 1000000000)) fun e=>bxQ h 1 a c fun a=>stD h 1 a e fun _ h=>bIQ .quo d (.d (.int .u64 1000000000)) fun a=>bIQ .add (ge l 1) (I 1) fun c=>q .normal [a,c] h) (q (.exit 2) [ge l 0] h)
def iu(C:CC)(b:Nat)(a c d e:V):aS:=fun l h q=>cIQ .lss (ge l 0) e (bxQ h 1 d (ge l 0) fun d=>b1Q h d fun d=>blQ a fun e=>lp (ir C b c (ge l 0) d a e) [] h [(.d (.int .u64 0)),I 0] h (exK [((.exit 2),fun d h=>blQ a fun a=>bIQ .add (ge l 0) a fun a=>bxQ h 1 c a fun a=>stD h 1 a (ge d 0) fun _ h=>bIQ .add (ge l 0) (I 1) fun a=>q .normal [a] h)])) (q (.exit 0) [] h)
def bz(C:CC)(b:Nat)(h:Hp)(a c:V)(q:kQ):Prop:=let h:Hp:=h++List.replicate 2 nnQ
 blQ a fun d=>blQ c fun e=>bIQ .add d e fun d=>mkS (b+0) 8 [.int .u64 0] h d d fun d h=>blQ a fun e=>lp (iu C b c d a e) [] h [I 0] h (exK [((.exit 0),fun a h=>ciQ C h F.aA [d] (b+1) q)])
def lS(b:Nat):Ann:=(.n .x .o (.n .x (.n (.r [.slot (b+0)]) .o .o) (.n .x (.n .x .o (.n .x (.n (.l [19] [1,5,17,18] [((.exit 0),[],[5])] []) (.n .x .o (.n .x .o (.n .x (.n .x (.n .x .o (.n .x .o (.n .x (.n .x .o (.n .x (.n (.l [8,26] [1,5,6,7,17,18,19,24,25] [((.exit 2),[8],[1,5,6,17,18,19])] []) .o .o) .o)) .o))) .o) .o))) .o) .o)) (.n .x (.n (.r [.inl (b+1)]) .o .o) .o))))
theorem uS(C:CC)(h:Hp)(t0:V)(t1:V)(q:kkQ):fnI Y C Tryz.f123 2 lS [t0,t1] h q=bz C h.length h t0 t1 q:=by rfl
theorem uQ(b:Nat):okB Tryz.prog Tryz.f123 (lS b)=true:=by rfl
theorem uR(hh:bz (CX Y) h.length h t0 t1 (nN h.length v h2)):CI Y F.bz [t0,t1] h v h2:=
 CI.of (fn:=Tryz.f123) (m:=2) (a:=lS) rfl (fun _=>rfl) Tryz.func123 (uQ _) (by rw[uS];exact hh)
def cg(C:CC)(b:Nat)(h:Hp)(a c:V)(q:kQ):Prop:=let h:Hp:=h++List.replicate 2 nnQ
 dR 1 [.int .u64 0] [(0,c)] h fun c h=>ciQ C h F.aA [c] (b+0) fun c h=>ciQ C h F.bz [a,c] (b+1) q
def kS(b:Nat):Ann:=(.n .x .o (.n .x (.n (.r [.o,.inl (b+0),.inl (b+1)]) .o .o) .o))
theorem tW(C:CC)(h:Hp)(t0:V)(t1:V)(q:kkQ):fnI Y C Tryz.f172 2 kS [t0,t1] h q=cg C h.length h t0 t1 q:=by rfl
theorem tU(b:Nat):okB Tryz.prog Tryz.f172 (kS b)=true:=by rfl
theorem tV(hh:cg (CX Y) h.length h t0 t1 (nN h.length v h2)):CI Y F.cg [t0,t1] h v h2:=
 CI.of (fn:=Tryz.f172) (m:=2) (a:=kS) rfl (fun _=>rfl) Tryz.func172 (tU _) (by rw[tW];exact hh)
def iv(C:CC)(a c d:V):aS:=fun l h q=>cIQ .geq (ge l 1) (I 0) (bIQ .mul (ge l 0) (.d (.int .u64 1000000000)) fun e=>bxQ h 1 a (ge l 1) fun a=>b1Q h a fun a=>bIQ .add e a fun a=>bIQ .quo a c fun e=>bxQ h 1 d (ge l 1) fun d=>stD h 1 d e fun _ h=>bIQ .rem a c fun a=>bIQ .sub (ge l 1) (I 1) fun c=>q .normal [a,c] h) (q (.exit 0) [ge l 0] h)
def c8(C:CC)(a c:V)(q:kQ):Prop:=let h:Hp:=.replicate 2 nnQ
 blQ a fun d=>mkS 0 8 [.int .u64 0] h d d fun d h=>blQ a fun e=>bIQ .sub e (I 1) fun e=>lp (iv C a c d) [] h [(.d (.int .u64 0)),e] h (exK [((.exit 0),fun a h=>ciQ C h F.aA [d] 1 fun c h=>q (.tup [c,ge a 0]) h)])
theorem uT(h:c8 (CX Y) t0 t1 (out v)):CP Y F.c8 [t0,t1] v:=CPo 2 (aG (nBQ (nRQ [.slot 0]) (aG (nBQ (aG (nCQ (.n (.l [7,8] [0,1,6] [((.exit 0),[7],[6])] []) .o .o))) (nCQ (nRQ [.inl 1])))))) Tryz.func135 h
def fM(C:CC)(b:Nat)(a c d e:V):aS:=fun l h q=>blQ c fun f=>cIQ .leq (ge l 2) f (blQ c fun f=>bIQ .lss (ge l 2) f fun f=>jn (fun c h=>bIQ .add e (ge l 2) fun d=>bxQ h 1 a d fun d=>b1Q h d fun d=>bnd (cvI .i64 d) fun d=>bIQ .rem (ge c 0) (.d (.int .u64 1000000000)) fun f=>bnd (cvI .i64 f) fun f=>bIQ .sub d f fun d=>bIQ .sub d (ge l 1) fun d=>bIQ .quo (ge c 0) (.d (.int .u64 1000000000)) fun c=>bIQ .lss d (I 0) fun f=>jn (fun d h=>bIQ .add e (ge l 2) fun e=>bnd (cvI .u64 (ge d 0)) fun f=>bxQ h 1 a e fun a=>stD h 1 a f fun _ h=>bIQ .add (ge l 2) (I 1) fun a=>q .normal [c,ge d 1,a] h) fun a=>cnd f (bIQ .add d (I 1000000000) fun c=>a [c,I 1] h) (a [d,I 0] h)) fun a=>cnd f (bxQ h 1 c (ge l 2) fun c=>b1Q h c fun c=>bIQ .mul d c fun c=>bIQ .add (ge l 0) c fun c=>a [c] h) (a [ge l 0] h)) (q (.exit 0) [ge l 1] h)
def dJ(C:CC)(b:Nat)(h:Hp)(a c d e:V)(q:kQ):Prop:=let h:Hp:=h++List.replicate 0 nnQ
 lp (fM C b a c d e) [] h [(.d (.int .u64 0)),I 0,I 0] h (exK [((.exit 0),fun a h=>bIQ .gtr (ge a 0) (I 0) fun a=>q a h)])
def mD(b:Nat):Ann:=(.n .x .o (.n .x .o (.n .x .o (.n .x (.n .x .o (.n .x (.n (.l [10,9,11] [0,1,2,3] [((.exit 0),[9],[])] []) (.n .x .o (.n .x (.n .x (.n .x (.n .x .o (.n (.j [10] [0,1,2,3,9,11]) .o .o)) (.n .x .o (.n .x .o (.n .x .o (.n .x (.n .x .o (.n (.j [12,9] [0,1,2,3,10,11]) .o .o)) .o))))) .o) .o)) .o) .o)) .o))))
theorem vA(C:CC)(h:Hp)(t0:V)(t1:V)(t2:V)(t3:V)(q:kkQ):fnI Y C Tryz.f139 0 mD [t0,t1,t2,t3] h q=dJ C h.length h t0 t1 t2 t3 q:=by rfl
theorem vw(b:Nat):okB Tryz.prog Tryz.f139 (mD b)=true:=by rfl
theorem vy(hh:dJ (CX Y) h.length h t0 t1 t2 t3 (nN h.length v h2)):CI Y F.dJ [t0,t1,t2,t3] h v h2:=
 CI.of (fn:=Tryz.f139) (m:=0) (a:=mD) rfl (fun _=>rfl) Tryz.func139 (vw _) (by rw[vA];exact hh)
def iS(C:CC)(b:Nat)(a c d:V):aS:=fun l h q=>blQ c fun e=>cIQ .leq (ge l 1) e (bIQ .add d (ge l 1) fun e=>bxQ h 1 a e fun e=>b1Q h e fun e=>bIQ .add (ge l 0) e fun e=>blQ c fun f=>bIQ .lss (ge l 1) f fun f=>jn (fun c h=>bIQ .add d (ge l 1) fun d=>bIQ .rem (ge c 0) (.d (.int .u64 1000000000)) fun e=>bxQ h 1 a d fun a=>stD h 1 a e fun _ h=>bIQ .quo (ge c 0) (.d (.int .u64 1000000000)) fun a=>bIQ .add (ge l 1) (I 1) fun c=>q .normal [a,c] h) fun a=>cnd f (bxQ h 1 c (ge l 1) fun c=>b1Q h c fun c=>bIQ .add e c fun c=>a [c] h) (a [e] h)) (q (.exit 0) [] h)
def cM(C:CC)(b:Nat)(h:Hp)(a c d:V)(q:kQ):Prop:=let h:Hp:=h++List.replicate 0 nnQ
 lp (iS C b a c d) [] h [(.d (.int .u64 0)),I 0] h (exK [((.exit 0),fun a h=>q (.tup []) h)])
def mE(b:Nat):Ann:=(.n .x .o (.n .x .o (.n .x (.n (.l [6,7] [0,1,2] [((.exit 0),[],[])] []) (.n .x .o (.n .x (.n .x (.n .x .o (.n .x (.n .x .o (.n (.j [6] [0,1,2,7]) .o .o)) .o)) .o) .o)) .o) .o)))
theorem vE(C:CC)(h:Hp)(t0:V)(t1:V)(t2:V)(q:kkQ):fnI Y C Tryz.f137 0 mE [t0,t1,t2] h q=cM C h.length h t0 t1 t2 q:=by rfl
theorem vB(b:Nat):okB Tryz.prog Tryz.f137 (mE b)=true:=by rfl
theorem vC(hh:cM (CX Y) h.length h t0 t1 t2 (nN h.length v h2)):CI Y F.cM [t0,t1,t2] h v h2:=
 CI.of (fn:=Tryz.f137) (m:=0) (a:=mE) rfl (fun _=>rfl) Tryz.func137 (vB _) (by rw[vE];exact hh)
def kf(C:CC)(a:V):aS:=fun l h q=>blQ (ge l 0) fun c=>blQ a fun a=>cIQ .leq c a (dR 1 [.int .u64 0] [(0,(.d (.int .u64 0)))] h fun a h=>apV false 3 1 8 (ge l 0) a h fun a h=>q .normal [a] h) (q (.exit 0) [ge l 0] h)
def bj(C:CC)(a c d e:V):aS:=fun l h q=>bIQ .geq (ge l 0) (.d (.int .u64 1000000000)) fun f=>gqQ f false h (ge l 1) fun g h=>gbQ f false h (biI .lss g (.d (.int .u64 1000000000))) fun g h=>gqQ f false h g fun g h=>gqQ g true h (ge l 0) fun i h=>gqQ g true h c fun j h=>gqQ g true h d fun k h=>gbQ g true h (biI .sub k (I 2)) fun k h=>gbQ g true h (ixV h 1 j k) fun j h=>gbQ g true h (ld1 h j) fun j h=>gbQ g true h (biI .mul i j) fun i h=>gqQ g true h (ge l 1) fun j h=>gbQ g true h (biI .mul j (.d (.int .u64 1000000000))) fun j h=>gqQ g true h a fun a h=>gqQ g true h e fun e h=>gqQ g true h d fun k h=>gbQ g true h (biI .add e k) fun e h=>gbQ g true h (biI .sub e (I 2)) fun e h=>gbQ g true h (ixV h 1 a e) fun a h=>gbQ g true h (ld1 h a) fun a h=>gbQ g true h (biI .add j a) fun a h=>gbQ g true h (biI .gtr i a) fun a h=>gbQ f false h (mV g a (B false)) fun a h=>bpQ f (B true) a fun a=>cnd a (bIQ .sub (ge l 0) (.d (.int .u64 1)) fun a=>bIQ .sub d (I 1) fun d=>bxQ h 1 c d fun c=>b1Q h c fun c=>bIQ .add (ge l 1) c fun c=>q .normal [a,c] h) (q (.exit 4) [ge l 0] h)
def dE(C:CC)(a c d e:V):aS:=fun l h q=>cIQ .geq (ge l 0) (I 0) (bIQ .add (ge l 0) d fun f=>bxQ h 1 a f fun f=>b1Q h f fun f=>bIQ .mul f (.d (.int .u64 1000000000)) fun f=>bIQ .add (ge l 0) d fun g=>bIQ .sub g (I 1) fun g=>bxQ h 1 a g fun g=>b1Q h g fun g=>bIQ .add f g fun f=>bIQ .sub d (I 1) fun g=>bxQ h 1 c g fun g=>b1Q h g fun g=>bIQ .quo f g fun g=>bIQ .sub d (I 1) fun i=>bxQ h 1 c i fun i=>b1Q h i fun i=>bIQ .rem f i fun f=>lp (bj C a c d (ge l 0)) [] h [g,f] h (exK [((.exit 4),fun d h=>ciQ C h F.dJ [a,c,ge d 0,ge l 0] 5 fun f h=>jn (fun a h=>bxQ h 1 e (ge l 0) fun c=>stD h 1 c (ge a 0) fun _ h=>bIQ .sub (ge l 0) (I 1) fun a=>q .normal [a] h) fun e=>cnd f (bIQ .sub (ge d 0) (.d (.int .u64 1)) fun d=>ciQ C h F.cM [a,c,ge l 0] 6 fun a h=>e [d] h) (e [ge d 0] h))])) (q (.exit 2) [] h)
def dL(C:CC)(a c:V)(q:kQ):Prop:=let h:Hp:=.replicate 9 nnQ
 blQ c fun d=>bIQ .sub d (I 1) fun d=>bxQ h 1 c d fun d=>b1Q h d fun d=>bIQ .add d (.d (.int .u64 1)) fun d=>bIQ .quo (.d (.int .u64 1000000000)) d fun d=>ciQ C h F.cg [a,d] 0 fun e h=>dR 1 [.int .u64 0] [(0,(.d (.int .u64 0)))] h fun f h=>apV false 1 1 8 e f h fun e h=>ciQ C h F.cg [c,d] 2 fun c h=>blQ c fun f=>lp (kf C a) [] h [e] h (exK [((.exit 0),fun a h=>blQ (ge a 0) fun e=>bIQ .sub e f fun e=>mkS 4 8 [.int .u64 0] h e e fun e h=>blQ (ge a 0) fun g=>bIQ .sub g f fun g=>bIQ .sub g (I 1) fun g=>lp (dE C (ge a 0) c f e) [5,6] h [g] h (exK [((.exit 2),fun c h=>ciQ C h F.aA [ge a 0] 7 fun a h=>clQ C h F.c8 [a,d] fun a h=>e2Q a fun a c=>ciQ C h F.aA [e] 8 fun c h=>q (.tup [c,a]) h)]))])
def kT:Ann:=(eY (nBQ (nRQ [.inl 0,.o,.slot 1,.inl 2]) (aG (nBQ (nCQ (.n (.l [7] [0,6,8,9] [((.exit 0),[7],[6,8,9])] []) (aG (nCQ (nRQ [.o,.slot 3]))) .o)) (nBQ (nRQ [.slot 4]) (nBQ (aG (nCQ (.n (.l [11] [6,7,8,9,10] [((.exit 2),[],[6,7,10])] [5,6]) (aG (nCQ (nCQ (eY (nBQ (nCQ (.n (.l [13,14] [6,7,8,9,10,11] [((.exit 4),[13],[6,7,8,9,10,11])] []) .o .o)) (nCQ (nBQ (nRQ [.inl 5]) (.n (.j [13] [6,7,8,9,10,11]) (aG (nRQ [.inl 6])) .o)))))))) .o))) (nBQ (nRQ [.inl 7]) (nCQ (nRQ [.inl 8])))))))))
attribute [local irreducible] bnd gd cal cnd ext dR uA stD alV alD fO jn lp exK mkS apV cai yd in
theorem tZ(C:CC)(t0:V)(t1:V)(q:kkQ):fnD Y C Tryz.f136 9 kT [t0,t1] q=dL C t0 t1 q:=Uy
theorem tX:okB Tryz.prog Tryz.f136 kT=true:=az
theorem tY(h:dL (CX Y) t0 t1 (out v)):CP Y F.dL [t0,t1] v:=
 CP.of (fn:=Tryz.f136) (m:=9) (a:=kT) rfl (fun _=>rfl) Tryz.func136 tX (by rw[tZ];exact h)
def dS(C:CC)(a c d:V):aS:=fun l h q=>cIQ .lss (ge l 0) d (bxQ h 1 a (ge l 0) fun a=>b1Q h a fun a=>cal C.p h c [a] fun a h=>cnd a (q .ret [ge l 0] h) (bIQ .add (ge l 0) (I 1) fun a=>q .normal [a] h)) (q (.exit 0) [] h)
def aV(C:CC)(a c:V)(q:kQ):Prop:=let h:Hp:=[]
 blQ a fun d=>lp (dS C a c d) [] h [I 0] h (exK [((.exit 0),fun a h=>q (I (-1)) h),(.ret,fun a h=>q (ge a 0) h)])
theorem pG(h:aV (CX Y) t0 t1 (out v)):CP Y F.aV [t0,t1] v:=CPo 0 (aG (nCQ (aG (nCQ (.n (.l [8] [0,1,7] [((.exit 0),[],[]),(.ret,[4],[])] []) .o .o))))) Tryz.func150 h
def aW(C:CC)(a c:V)(q:kQ):Prop:=let h:Hp:=[]
 clQ C h F.aV [a,c] fun a h=>bIQ .geq a (I 0) fun a=>q a h
theorem oR(h:aW (CX Y) t0 t1 (out v)):CP Y F.aW [t0,t1] v:=CPo 0 .o Tryz.func112 h
def mR(C:CC)(a c d:V):aS:=fun l h q=>cIQ .lss (ge l 0) d (bxQ h 1 a (ge l 0) fun a=>b1Q h a fun a=>cal C.p h c [a] fun a h=>cnd a (q .ret [ge l 0] h) (bIQ .add (ge l 0) (I 1) fun a=>q .normal [a] h)) (q (.exit 0) [] h)
def cW(C:CC)(a c:V)(q:kQ):Prop:=let h:Hp:=[]
 blQ a fun d=>lp (mR C a c d) [] h [I 0] h (exK [((.exit 0),fun a h=>q (I (-1)) h),(.ret,fun a h=>q (ge a 0) h)])
theorem nf(h:cW (CX Y) t0 t1 (out v)):CP Y F.cW [t0,t1] v:=CPo 0 (aG (nCQ (aG (nCQ (.n (.l [8] [0,1,7] [((.exit 0),[],[]),(.ret,[4],[])] []) .o .o))))) Tryz.func174 h
def aR(C:CC)(a c:V)(q:kQ):Prop:=let h:Hp:=[]
 clQ C h F.cW [a,c] fun a h=>bIQ .geq a (I 0) fun a=>q a h
theorem mr(h:aR (CX Y) t0 t1 (out v)):CP Y F.aR [t0,t1] v:=CPo 0 .o Tryz.func142 h
def aN(C:CC)(a:V)(q:kQ):Prop:=let h:Hp:=[]
 bnd (nO a) fun c=>bIQ .gtr c (I 0) fun c=>gqQ c true h a fun d h=>gbQ c true h (ixS d (I 0)) fun d h=>gbQ c true h (biI .eql d (.d (.int .u8 45))) fun d h=>bpQ c d (B false) fun c=>cnd c (bnd (slS a (some (I 1)) none) fun a=>q (.tup [B true,a]) h) (q (.tup [B false,a]) h)
theorem Gc(h:aN (CX Y) t0 (out v)):CP Y F.aN [t0] v:=CPo 0 .o Tryz.func88 h
def mO(C:CC)(a:V)(q:kQ):Prop:=let h:Hp:=[]
 clQ C h F.aN [a] fun a h=>e2Q a fun a c=>gqQ a true h c fun d h=>gbQ a true h (biS .eql d (.d (.str [48]))) fun d h=>bpQ a d (B false) fun a=>gqQ a false h c fun c h=>gd a false h (fun q=>clQ C h F.kh [c] q) fun c h=>gbQ a false h (biI .neq c (I 0)) fun c h=>bpQ a (B true) c fun a=>cnd a (q (I 2) h) (q (I 0) h)
theorem Gf(h:mO (CX Y) t0 (out v)):CP Y F.mO [t0] v:=CPo 0 .o Tryz.func125 h
def dh(C:CC)(a:V)(q:kQ):Prop:=let h:Hp:=[]
 bSQ .eql a (.d (.str [48])) fun c=>cnd c (q (I 0) h) (bnd (ixS a (I 0)) fun a=>cIQ .eql a (.d (.int .u8 45)) (q (I (-1)) h) (q (I 1) h))
theorem IG(h:dh (CX Y) t0 (out v)):CP Y F.dh [t0] v:=CPo 0 .o Tryz.func60 h
def dM(C:CC)(a:V)(q:kQ):Prop:=let h:Hp:=[]
 clQ C h F.strconv_Itoa [a] q
theorem DN(h:dM (CX Y) t0 (out v)):CP Y F.dM [t0] v:=CPo 0 .o Tryz.func37 h
def bE(C:CC)(a c:V)(q:kQ):Prop:=let h:Hp:=[]
 bnd (nO a) fun d=>cIQ .gtr d c (q (.tup [I 0,B false]) h) (clQ C h F.strconv_Atoi [a] fun a h=>e2Q a fun a c=>bnd (biF .eql c (.d (.pl .nilIface))) fun c=>q (.tup [a,c]) h)
theorem rJ(h:bE (CX Y) t0 t1 (out v)):CP Y F.bE [t0,t1] v:=CPo 0 .o Tryz.func87 h
def gB(C:CC)(a:V)(q:kQ):Prop:=let h:Hp:=[]
 clQ C h F.aN [a] fun a h=>e2Q a fun a c=>q c h
theorem BS(h:gB (CX Y) t0 (out v)):CP Y F.gB [t0] v:=CPo 0 .o Tryz.func72 h
def qK(C:CC):aS:=fun l h q=>cIQ .neq (ge l 1) (I 0) (bIQ .rem (ge l 0) (ge l 1) fun a=>q .normal [ge l 1,a] h) (q (.exit 0) [ge l 0] h)
def rC(C:CC)(a c:V)(q:kQ):Prop:=let h:Hp:=[]
 lp (qK C) [] h [a,c] h (exK [((.exit 0),fun a h=>q (ge a 0) h)])
theorem Kv(h:rC (CX Y) t0 t1 (out v)):CP Y F.rC [t0,t1] v:=CPo 0 (aG (nCQ (nCQ (.n (.l [0,1] [] [((.exit 0),[0],[])] []) .o .o)))) Tryz.func117 h
def oC(C:CC)(a c:V)(q:kQ):Prop:=let h:Hp:=[]
 clQ C h F.gB [a] fun a h=>clQ C h F.gB [c] fun c h=>clQ C h F.bE [a,I 18] fun d h=>e2Q d fun d e=>jn (fun d h=>clQ C h F.m7 [a,c] q) fun a=>cnd e (clQ C h F.bE [c,I 18] fun c h=>e2Q c fun c e=>cnd e (clQ C h F.rC [d,c] fun a h=>clQ C h F.dM [a] q) (a [] h)) (a [] h)
theorem KA(h:oC (CX Y) t0 t1 (out v)):CP Y F.oC [t0,t1] v:=CPo 0 (eY (nCQ (eY (nJQ [] [5,6])))) Tryz.func86 h
def hO(C:CC)(a:V)(q:kQ):Prop:=let h:Hp:=.replicate 1 nnQ
 fO 0 a h fun a h=>bfQ 0 a fun c=>b1Q h c fun c=>clQ C h F.mO [c] fun c h=>bIQ .neq c (I 0) fun c=>jn (fun c h=>cnd (ge c 0) (q (I 2) h) (bfQ 1 a fun c=>b1Q h c fun c=>clQ C h F.dh [c] fun c h=>bIQ .leq c (I 0) fun c=>jn (fun a h=>cnd (ge a 0) (q (I 2) h) (q (I 0) h)) fun d=>cnd c (d [c] h) (bfQ 0 a fun c=>b1Q h c fun c=>bfQ 1 a fun a=>b1Q h a fun a=>clQ C h F.oC [c,a] fun a h=>bSQ .neq a (.d (.str [49])) fun a=>d [a] h))) fun d=>cnd c (d [c] h) (bfQ 1 a fun a=>b1Q h a fun a=>clQ C h F.mO [a] fun a h=>bIQ .neq a (I 0) fun a=>d [a] h)
theorem By(h:hO (CX Y) t0 (out v)):CP Y F.hO [t0] v:=CPo 1 (nBQ (nRQ [.slot 0]) (nCQ (nCQ (nBQ (aG (nJQ [3] [1])) (aG (nCQ (aG (nJQ [12] [])))))))) Tryz.func91 h
def ma(C:CC)(a:V)(q:kQ):Prop:=let h:Hp:=[]
 clQ C h F.aN [a] fun a h=>e2Q a fun a c=>bnd (unV .not a) fun a=>clQ C h F.bV [a,c] q
theorem Kx(h:ma (CX Y) t0 (out v)):CP Y F.ma [t0] v:=CPo 0 .o Tryz.func85 h
def kY(C:CC)(a:V)(q:kQ):Prop:=let h:Hp:=[]
 clQ C h F.fj [a,I 10,I 64] fun a h=>e2Q a fun a c=>bnd (biF .neq c (.d (.pl .nilIface))) fun c=>cnd c (q (.tup [I 0,B false]) h) (q (.tup [a,B true]) h)
theorem Gd(h:kY (CX Y) t0 (out v)):CP Y F.kY [t0] v:=CPo 0 .o Tryz.func53 h
def d7(C:CC)(a c:V)(q:kQ):Prop:=let h:Hp:=[]
 clQ C h F.dh [a] fun d h=>clQ C h F.dh [c] fun e h=>cIQ .neq d e (cIQ .lss d e (q (I (-1)) h) (q (I 1) h)) (clQ C h F.aN [a] fun a h=>e2Q a fun a d=>clQ C h F.aN [c] fun c h=>e2Q c fun c e=>jn (fun a h=>clQ C h F.cj [ge a 0,ge a 1] q) fun c=>cnd a (c [e,d] h) (c [d,e] h))
theorem uU(h:d7 (CX Y) t0 t1 (out v)):CP Y F.d7 [t0,t1] v:=CPo 0 (SU (nCQ (aG (nJQ [8,10] [])))) Tryz.func63 h
def aT(C:CC)(a c:V)(q:kQ):Prop:=let h:Hp:=[]
 bSQ .eql c (.d (.str [48])) fun d=>cnd d (q (.tup [(.d (.str [])),(.d (.str [])),I 17]) h) (clQ C h F.bE [a,I 18] fun d h=>e2Q d fun d e=>jn (fun d h=>clQ C h F.aN [a] fun a h=>e2Q a fun a d=>clQ C h F.aN [c] fun c h=>e2Q c fun c e=>clQ C h F.dZ [d,e] fun d h=>e3Q d fun d f g=>nzQ g (q (.tup [(.d (.str [])),(.d (.str [])),g]) h) (bnd (biB .neq a c) fun g=>gqQ g true h f fun i h=>gbQ g true h (biS .neq i (.d (.str [48]))) fun i h=>bpQ g i (B false) fun g=>jn (fun d h=>bnd (biB .neq a c) fun a=>clQ C h F.bV [a,ge d 0] fun a h=>clQ C h F.bV [c,ge d 1] fun c h=>q (.tup [a,c,I 0]) h) fun a=>cnd g (clQ C h F.gk [d,(.d (.str [49]))] fun c h=>clQ C h F.ia [e,f] fun d h=>e2Q d fun d e=>a [c,d] h) (a [d,f] h))) fun a=>cnd e (clQ C h F.bE [c,I 18] fun c h=>e2Q c fun c e=>cnd e (bIQ .quo d c fun a=>bIQ .rem d c fun d=>bIQ .neq d (I 0) fun e=>gqQ e true h d fun f h=>gbQ e true h (biI .lss f (I 0)) fun f h=>gqQ e true h c fun g h=>gbQ e true h (biI .lss g (I 0)) fun g h=>gbQ e true h (biB .neq f g) fun f h=>bpQ e f (B false) fun e=>jn (fun a h=>clQ C h F.dM [ge a 0] fun c h=>clQ C h F.dM [ge a 1] fun a h=>q (.tup [c,a,I 0]) h) fun f=>cnd e (bIQ .sub a (I 1) fun a=>bIQ .add d c fun c=>f [a,c] h) (f [a,d] h)) (a [] h)) (a [] h))
def rK:Ann:=(eY (nBQ (eY (.n (.j [] [0,1]) (eY (nCQ (aG (nCQ (aG (nJQ [11,12] [])))))) .o)) (SU (nCQ (aG (nJQ [17,18] [13,15]))))))
theorem DR(C:CC)(t0:V)(t1:V)(q:kkQ):fnD Y C Tryz.f73 0 rK [t0,t1] q=aT C t0 t1 q:=by kernel_rfl
theorem DO:okB Tryz.prog Tryz.f73 rK=true:=az
theorem vG(h:aT (CX Y) t0 t1 (out v)):CP Y F.aT [t0,t1] v:=
 CP.of (fn:=Tryz.f73) (m:=0) (a:=rK) rfl (fun _=>rfl) Tryz.func73 DO (by rw[DR];exact h)
def pD(C:CC)(a c:V)(q:kQ):Prop:=let h:Hp:=[]
 clQ C h F.gB [a] fun a h=>clQ C h F.gB [c] fun c h=>clQ C h F.oP [a,c] q
theorem Kz(h:pD (CX Y) t0 t1 (out v)):CP Y F.pD [t0,t1] v:=CPo 0 .o Tryz.func98 h
def kZ(C:CC)(a c:V)(q:kQ):Prop:=let h:Hp:=[]
 cIQ .lss c (I 0) (q (.tup [(.d (.str [])),I 3]) h) (clQ C h F.aN [a] fun a h=>e2Q a fun a d=>bnd (nO d) fun e=>bIQ .quo (I 4000) e fun e=>cIQ .gtr c e (q (.tup [(.d (.str [])),I 4]) h) (clQ C h F.jc [d,c] fun d h=>e2Q d fun d e=>nzQ e (q (.tup [(.d (.str [])),e]) h) (gqQ a true h c fun c h=>gbQ a true h (biI .rem c (I 2)) fun c h=>gbQ a true h (biI .eql c (I 1)) fun c h=>bpQ a c (B false) fun a=>clQ C h F.bV [a,d] fun a h=>q (.tup [a,I 0]) h)))
theorem Ge(h:kZ (CX Y) t0 t1 (out v)):CP Y F.kZ [t0,t1] v:=CPo 0 .o Tryz.func170 h
def oP(C:CC)(a c:V)(q:kQ):Prop:=let h:Hp:=[]
 bSQ .eql a (.d (.str [48])) fun d=>gqQ d false h c fun e h=>gbQ d false h (biS .eql e (.d (.str [48]))) fun e h=>bpQ d (B true) e fun d=>cnd d (q (.d (.str [48])) h) (clQ C h F.m7 [a,c] fun d h=>clQ C h F.dZ [a,d] fun a h=>e3Q a fun a d e=>nzQ e (q (.d (.str [])) h) (clQ C h F.jT [a,c] q))
theorem GO(h:oP (CX Y) t0 t1 (out v)):CP Y F.oP [t0,t1] v:=CPo 0 .o Tryz.func130 h
def CV(C:CC)(a c:V):aS:=fun l h q=>cIQ .lss (ge l 1) c (bxQ h 1 a (ge l 1) fun c=>b1Q h c fun c=>bIQ .mul c (.d (.int .u64 1000000000)) fun c=>bIQ .add (ge l 0) c fun c=>bIQ .and c (.d (.int .u64 4294967295)) fun d=>bxQ h 1 a (ge l 1) fun a=>stD h 1 a d fun _ h=>bIQ .shr c (.d (.int .u64 32)) fun a=>bIQ .add (ge l 1) (I 1) fun c=>q .normal [a,c] h) (q (.exit 2) [ge l 0] h)
def CW(C:CC)(a:V):aS:=fun l h q=>cIQ .geq (ge l 1) (I 0) (jn (fun a h=>bIQ .sub (ge l 1) (I 1) fun c=>q .normal [ge a 0,c] h) fun c=>bxQ h 1 a (ge l 1) fun a=>b1Q h a fun a=>blQ (ge l 0) fun d=>lp (CV C (ge l 0) d) [] h [a,I 0] h (exK [((.exit 2),fun a h=>bIQ .gtr (ge a 0) (.d (.int .u64 0)) fun d=>jn (fun a h=>c [ge a 0] h) fun c=>cnd d (dR 1 [.int .u64 0] [(0,(ge a 0))] h fun a h=>apV false 1 1 8 (ge l 0) a h fun a h=>c [a] h) (c [ge l 0] h))])) (q (.exit 0) [ge l 0] h)
def nF(C:CC)(a:V)(q:kQ):Prop:=let h:Hp:=.replicate 2 nnQ
 clQ C h F.jb [a] fun c h=>e2Q c fun c d=>cnd d (clQ C h F.eU [c] q) (ciQ C h F.de [a] 0 fun a h=>blQ a fun c=>bIQ .sub c (I 1) fun c=>lp (CW C a) [] h [nSQ,c] h (exK [((.exit 0),fun a h=>blQ (ge a 0) fun c=>bIQ .sub c (I 1) fun c=>bIQ .mul (I 32) c fun c=>blQ (ge a 0) fun d=>bIQ .sub d (I 1) fun d=>bxQ h 1 (ge a 0) d fun a=>b1Q h a fun a=>clQ C h F.eU [a] fun a h=>bIQ .add c a fun a=>q a h)]))
theorem FO(h:nF (CX Y) t0 (out v)):CP Y F.nF [t0] v:=CPo 2 (Be (nBQ (nRQ [.inl 0]) (nCQ (aG (nCQ (.n (.l [5,7] [6] [((.exit 0),[5],[])] []) (aG (nCQ (.n (.j [5] [6,7]) (aG (nBQ (aG (nCQ (.n (.l [8,33] [5,6,7,32] [((.exit 2),[8],[5,6,7])] []) .o .o))) (aG (.n (.j [5] [6,7]) (nRQ [.o,.slot 1]) .o)))) .o))) .o)))))) Tryz.func194 h
def kU(C:CC):aS:=fun l h q=>cIQ .gtr (ge l 2) (I 0) (jn (fun a h=>bIQ .shr (ge l 2) (.d (.int .u64 1)) fun c=>q .normal [ge a 0,ge a 1,c] h) fun a=>bIQ .and (ge l 2) (I 1) fun c=>bIQ .eql c (I 1) fun c=>jn (fun c h=>bIQ .gtr (ge l 2) (I 1) fun d=>jn (fun d h=>a [ge c 0,ge d 0] h) fun a=>cnd d (ciQ C h F.bz [ge l 1,ge l 1] 2 fun c h=>a [c] h) (a [ge l 1] h)) fun a=>cnd c (ciQ C h F.bz [ge l 0,ge l 1] 1 fun c h=>a [c] h) (a [ge l 0] h)) (q (.exit 1) [ge l 0] h)
def jc(C:CC)(a c:V)(q:kQ):Prop:=let h:Hp:=.replicate 3 nnQ
 cIQ .lss c (I 0) (q (.tup [(.d (.str [])),I 3]) h) (bIQ .eql c (I 0) fun d=>gqQ d false h a fun e h=>gbQ d false h (biS .eql e (.d (.str [49]))) fun e h=>bpQ d (B true) e fun d=>cnd d (q (.tup [(.d (.str [49])),I 0]) h) (bSQ .eql a (.d (.str [48])) fun d=>cnd d (q (.tup [(.d (.str [48])),I 0]) h) (clQ C h F.nF [a] fun d h=>bIQ .sub d (I 1) fun d=>bIQ .quo (I 66439) d fun d=>cIQ .gtr c d (q (.tup [(.d (.str [])),I 4]) h) (dR 1 [.int .u64 0] [(0,(.d (.int .u64 1)))] h fun d h=>ciQ C h F.de [a] 0 fun a h=>lp (kU C) [] h [d,a,c] h (exK [((.exit 1),fun a h=>clQ C h F.aM [ge a 0] fun a h=>bnd (nO a) fun c=>cIQ .gtr c (I 20000) (q (.tup [(.d (.str [])),I 4]) h) (q (.tup [a,I 0]) h))])))))
def qD:Ann:=(Be (nBQ (nRQ [.o,.inl 0]) (nCQ (nCQ (.n (.l [7,8,1] [] [((.exit 1),[7],[])] []) (aG (nCQ (.n (.j [7,8] [1]) (nBQ (aG (.n (.j [7] [1,8]) (nRQ [.inl 1]) .o)) (aG (.n (.j [8] [1,7]) (nRQ [.inl 2]) .o))) .o))) .o)))))
attribute [local irreducible] bnd gd cal cnd ext dR uA stD alV alD fO jn lp exK mkS apV cai yd in
theorem CS(C:CC)(t0:V)(t1:V)(q:kkQ):fnD Y C Tryz.f190 3 qD [t0,t1] q=jc C t0 t1 q:=Uy
theorem CQ:okB Tryz.prog Tryz.f190 qD=true:=az
theorem CR(h:jc (CX Y) t0 t1 (out v)):CP Y F.jc [t0,t1] v:=
 CP.of (fn:=Tryz.f190) (m:=3) (a:=qD) rfl (fun _=>rfl) Tryz.func190 CQ (by rw[CS];exact h)
def gj(C:CC)(a:V)(q:kQ):Prop:=let h:Hp:=[]
 bnd (nO a) fun c=>cIQ .gtr c (I 9) (q (.tup [I 0,B false]) h) (clQ C h F.strconv_Atoi [a] fun a h=>e2Q a fun a c=>bnd (biF .eql c (.d (.pl .nilIface))) fun c=>q (.tup [a,c]) h)
theorem zK(h:gj (CX Y) t0 (out v)):CP Y F.gj [t0] v:=CPo 0 .o Tryz.func94 h
def dD(C:CC)(a:V)(q:kQ):Prop:=let h:Hp:=.replicate 1 nnQ
 fO 0 a h fun a h=>bfQ 0 a fun c=>b1Q h c fun c=>clQ C h F.gj [c] fun c h=>e2Q c fun c d=>bfQ 1 a fun a=>b1Q h a fun a=>clQ C h F.gj [a] fun a h=>e2Q a fun a e=>gqQ d true h e fun e h=>bpQ d e (B false) fun d=>q (.tup [c,a,d]) h
theorem CJ(h:dD (CX Y) t0 (out v)):CP Y F.dD [t0] v:=CPo 1 (nCQ (nRQ [.slot 0])) Tryz.func62 h
def m5(C:CC):aS:=fun l h q=>cIQ .neq (ge l 1) (I 0) (bIQ .rem (ge l 0) (ge l 1) fun a=>q .normal [ge l 1,a] h) (q (.exit 0) [ge l 0] h)
def ja(C:CC)(a c:V)(q:kQ):Prop:=let h:Hp:=.replicate 1 nnQ
 alV 0 [.d (.str []),.d (.str [])] h fun d h=>lp (m5 C) [] h [a,c] h (exK [((.exit 0),fun e h=>bIQ .lss (ge e 0) (I 0) fun f=>jn (fun e h=>bIQ .quo a (ge e 0) fun a=>clQ C h F.strconv_Itoa [a] fun a h=>bIQ .quo c (ge e 0) fun c=>clQ C h F.strconv_Itoa [c] fun c h=>bnd (bld [(0,1),(1,1)] [.str [],.str []] [(0,a),(1,c)]) fun a=>stD h 2 d a fun _ h=>bnd (ldA h 2 d) fun a=>q a h) fun a=>cnd f (bnd (unV .neg (ge e 0)) fun c=>a [c] h) (a [ge e 0] h))])
theorem GE(h:ja (CX Y) t0 t1 (out v)):CP Y F.ja [t0,t1] v:=CPo 1 (nBQ (nRQ [.slot 0]) (aG (nBQ (nCQ (.n (.l [5,6] [0,1,4] [((.exit 0),[5],[0,1,4])] []) .o .o)) (nCQ (aG (nJQ [5] [0,1,4])))))) Tryz.func84 h
def bi(C:CC)(a c:V)(q:kQ):Prop:=let h:Hp:=.replicate 1 nnQ
 alV 0 [.d (.str []),.d (.str [])] h fun d h=>clQ C h F.dh [c] fun e h=>bIQ .lss e (I 0) fun e=>jn (fun a h=>clQ C h F.oC [ge a 0,ge a 1] fun c h=>bSQ .neq c (.d (.str [49])) fun e=>jn (fun a h=>bnd (bld [(0,1),(1,1)] [.str [],.str []] [(0,(ge a 0)),(1,(ge a 1))]) fun a=>stD h 2 d a fun _ h=>bnd (ldA h 2 d) fun a=>q a h) fun d=>cnd e (clQ C h F.aT [ge a 0,c] fun e h=>e3Q e fun e f g=>clQ C h F.aT [ge a 1,c] fun a h=>e3Q a fun a c f=>d [e,a] h) (d [ge a 0,ge a 1] h)) fun d=>cnd e (clQ C h F.ma [a] fun a h=>clQ C h F.ma [c] fun c h=>d [a,c] h) (d [a,c] h)
theorem zJ(h:bi (CX Y) t0 t1 (out v)):CP Y F.bi [t0,t1] v:=CPo 1 (nBQ (nRQ [.slot 0]) (nBQ (aG (nJQ [0,1] [4])) (nCQ (eY (nJQ [0,1] [4]))))) Tryz.func57 h
def fL(C:CC)(a c:V)(q:kQ):Prop:=let h:Hp:=.replicate 3 nnQ
 fO 0 a h fun a h=>fO 1 c h fun c h=>alV 2 [.d (.str []),.d (.str [])] h fun d h=>bfQ 1 a fun e=>b1Q h e fun e=>bSQ .eql e (.d (.str [49])) fun e=>gbQ e true h (faV 1 c) fun f h=>gbQ e true h (ld1 h f) fun f h=>gbQ e true h (biS .eql f (.d (.str [49]))) fun f h=>bpQ e f (B false) fun e=>cnd e (bfQ 0 a fun a=>b1Q h a fun a=>bfQ 0 c fun c=>b1Q h c fun c=>clQ C h F.cO [a,c] fun a h=>bnd (bld [(0,1),(1,1)] [.str [],.str []] [(0,a),(1,(.d (.str [49])))]) fun a=>stD h 2 d a fun _ h=>bnd (ldA h 2 d) fun a=>q a h) (bnd (ldA h 2 a) fun e=>clQ C h F.dD [e] fun e h=>e3Q e fun e f g=>jn (fun e h=>bfQ 0 a fun e=>b1Q h e fun e=>bfQ 1 c fun f=>b1Q h f fun f=>clQ C h F.aP [e,f] fun e h=>bfQ 0 c fun f=>b1Q h f fun f=>bfQ 1 a fun g=>b1Q h g fun g=>clQ C h F.aP [f,g] fun f h=>clQ C h F.cO [e,f] fun e h=>bfQ 1 a fun a=>b1Q h a fun a=>bfQ 1 c fun c=>b1Q h c fun c=>clQ C h F.aP [a,c] fun a h=>clQ C h F.bi [e,a] fun a h=>stD h 2 d a fun _ h=>bnd (ldA h 2 d) fun a=>q a h) fun a=>cnd g (bnd (ldA h 2 c) fun c=>clQ C h F.dD [c] fun c h=>e3Q c fun c g i=>cnd i (bIQ .mul e g fun a=>bIQ .mul c f fun c=>bIQ .add a c fun a=>bIQ .mul f g fun c=>clQ C h F.ja [a,c] fun a h=>stD h 2 d a fun _ h=>bnd (ldA h 2 d) fun a=>q a h) (a [] h)) (a [] h))
def sd:Ann:=(nBQ (nRQ [.slot 0,.slot 1,.slot 2]) (aG (nCQ (eY (nJQ [] [2,3,4])))))
theorem FA(C:CC)(t0:V)(t1:V)(q:kkQ):fnD Y C Tryz.f54 3 sd [t0,t1] q=fL C t0 t1 q:=by kernel_rfl
theorem Fy:okB Tryz.prog Tryz.f54 sd=true:=az
theorem Fz(h:fL (CX Y) t0 t1 (out v)):CP Y F.fL [t0,t1] v:=
 CP.of (fn:=Tryz.f54) (m:=3) (a:=sd) rfl (fun _=>rfl) Tryz.func54 Fy (by rw[FA];exact h)
def lR(C:CC)(a c:V)(q:kQ):Prop:=let h:Hp:=.replicate 3 nnQ
 fO 0 a h fun a h=>fO 1 c h fun c h=>alV 2 [.d (.str []),.d (.str [])] h fun d h=>bnd (ldA h 2 a) fun e=>clQ C h F.dD [e] fun e h=>e3Q e fun e f g=>jn (fun e h=>bfQ 0 a fun e=>b1Q h e fun e=>bfQ 0 c fun f=>b1Q h f fun f=>clQ C h F.aP [e,f] fun e h=>bfQ 1 a fun a=>b1Q h a fun a=>bfQ 1 c fun c=>b1Q h c fun c=>clQ C h F.aP [a,c] fun a h=>clQ C h F.bi [e,a] fun a h=>stD h 2 d a fun _ h=>bnd (ldA h 2 d) fun a=>q a h) fun a=>cnd g (bnd (ldA h 2 c) fun c=>clQ C h F.dD [c] fun c h=>e3Q c fun c g i=>cnd i (bIQ .mul e c fun a=>bIQ .mul f g fun c=>clQ C h F.ja [a,c] fun a h=>stD h 2 d a fun _ h=>bnd (ldA h 2 d) fun a=>q a h) (a [] h)) (a [] h)
theorem Fv(h:lR (CX Y) t0 t1 (out v)):CP Y F.lR [t0,t1] v:=CPo 3 (nBQ (nRQ [.slot 0,.slot 1,.slot 2]) (nCQ (eY (nJQ [] [2,3,4])))) Tryz.func100 h
def mi(C:CC)(a:V)(q:kQ):Prop:=let h:Hp:=.replicate 1 nnQ
 fO 0 a h fun a h=>bfQ 0 a fun a=>b1Q h a fun a=>clQ C h F.dh [a] q
theorem CK(h:mi (CX Y) t0 (out v)):CP Y F.mi [t0] v:=CPo 1 (nCQ (nRQ [.slot 0])) Tryz.func56 h
def jR(C:CC)(a c:V)(q:kQ):Prop:=let h:Hp:=.replicate 3 nnQ
 fO 0 a h fun a h=>fO 1 c h fun c h=>alV 2 [.d (.str []),.d (.str [])] h fun d h=>bnd (ldA h 2 c) fun e=>clQ C h F.mi [e] fun e h=>cIQ .eql e (I 0) (bnd (bld [(0,1),(1,1)] [.str [],.str []] []) fun a=>stD h 2 d a fun _ h=>bnd (ldA h 2 d) fun a=>q (.tup [a,I 17]) h) (bfQ 0 a fun e=>b1Q h e fun e=>bfQ 1 c fun f=>b1Q h f fun f=>clQ C h F.aP [e,f] fun e h=>bfQ 1 a fun a=>b1Q h a fun a=>bfQ 0 c fun c=>b1Q h c fun c=>clQ C h F.aP [a,c] fun a h=>clQ C h F.bi [e,a] fun a h=>stD h 2 d a fun _ h=>bnd (ldA h 2 d) fun a=>q (.tup [a,I 0]) h)
theorem Fx(h:jR (CX Y) t0 t1 (out v)):CP Y F.jR [t0,t1] v:=CPo 3 (nCQ (nRQ [.slot 0,.slot 1,.slot 2])) Tryz.func34 h
def nC(C:CC)(a c:V)(q:kQ):Prop:=let h:Hp:=.replicate 1 nnQ
 alV 0 [.d (.str []),.d (.str [])] h fun d h=>clQ C h F.dh [c] fun e h=>cIQ .eql e (I 0) (bnd (bld [(0,1),(1,1)] [.str [],.str []] []) fun a=>stD h 2 d a fun _ h=>bnd (ldA h 2 d) fun a=>q (.tup [a,I 17]) h) (clQ C h F.bi [a,c] fun a h=>stD h 2 d a fun _ h=>bnd (ldA h 2 d) fun a=>q (.tup [a,I 0]) h)
theorem Ft(h:nC (CX Y) t0 t1 (out v)):CP Y F.nC [t0,t1] v:=CPo 1 (nCQ (nRQ [.slot 0])) Tryz.func36 h
def fu(C:CC)(a c:V)(q:kQ):Prop:=let h:Hp:=.replicate 1 nnQ
 alV 0 [.d (.str []),.d (.str [])] h fun d h=>clQ C h F.dM [a] fun a h=>clQ C h F.dM [c] fun c h=>clQ C h F.nC [a,c] fun a h=>e2Q a fun a c=>stD h 2 d a fun _ h=>bnd (ldA h 2 d) fun a=>q (.tup [a,c]) h
theorem GF(h:fu (CX Y) t0 t1 (out v)):CP Y F.fu [t0,t1] v:=CPo 1 (nCQ (nRQ [.slot 0])) Tryz.func18 h
def nZ(C:CC)(a c d:V):aS:=fun l h q=>cIQ .lss (ge l 0) d (bxQ h 2 c (ge l 0) fun c=>bnd (ldA h 2 c) fun c=>alV 2 [.d (.str []),.d (.str [])] h fun d h=>stD h 2 d c fun _ h=>bfQ 2 a fun c=>b1Q h c fun c=>bfQ 1 d fun d=>b1Q h d fun d=>clQ C h F.pD [c,d] fun c h=>bfQ 2 a fun a=>stD h 1 a c fun _ h=>bIQ .add (ge l 0) (I 1) fun a=>q .normal [a] h) (q (.exit 0) [] h)
def lV(C:CC)(a c d e:V):aS:=fun l h q=>cIQ .lss (ge l 0) e (jn (fun a h=>bIQ .add (ge l 0) (I 1) fun a=>q .normal [a] h) fun e=>bxQ h 2 d (ge l 0) fun d=>bnd (ldA h 2 d) fun d=>alV 3 [.d (.str []),.d (.str [])] h fun f h=>stD h 2 f d fun _ h=>bfQ 0 f fun d=>b1Q h d fun d=>bSQ .neq d (.d (.str [48])) fun d=>jn (fun a h=>e [] h) fun e=>cnd d (bfQ 2 c fun d=>b1Q h d fun d=>bfQ 1 f fun g=>b1Q h g fun g=>clQ C h F.aT [d,g] fun d h=>e3Q d fun d g i=>bfQ 0 c fun g=>sm h c g<|b1Q h g fun g=>bxQ h 1 a (ge l 0) fun a=>b1Q h a fun a=>dR 1 [.int .i64 0] [(0,a)] h fun a h=>sp h g [c,f]<|apV false 4 1 8 g a h fun a h=>bfQ 1 c fun g=>sm h c g<|b1Q h g fun g=>bfQ 0 f fun i=>sm h f i<|b1Q h i fun f=>clQ C h F.aP [f,d] fun d h=>dR 1 [.str []] [(0,d)] h fun d h=>apV false 5 1 16 g d h fun d h=>bfQ 0 c fun f=>stD h 1 f a fun _ h=>bfQ 1 c fun a=>stD h 1 a d fun _ h=>e [] h) (e [] h)) (q (.exit 2) [] h)
def lF(C:CC)(a c:V)(q:kQ):Prop:=let h:Hp:=.replicate 6 nnQ
 alV 0 [.d nPQ,.d nPQ,.d (.str [])] h fun d h=>bnd (bld [(0,1),(1,1),(2,1)] [nPQ,nPQ,.str []] [(2,(.d (.str [49])))]) fun e=>alV 1 [.d nPQ,.d nPQ,.d (.str [])] h fun f h=>stD h 3 f e fun _ h=>blQ c fun e=>lp (nZ C f c e) [2] h [I 0] h (exK [((.exit 0),fun e h=>blQ c fun e=>lp (lV C a f c e) [3] h [I 0] h (exK [((.exit 2),fun a h=>bnd (ldA h 3 f) fun a=>stD h 3 d a fun _ h=>bnd (ldA h 3 d) fun a=>q a h)]))])
def rT:Ann:=(nBQ (nRQ [.slot 0]) (nBQ (nRQ [.slot 1]) (nBQ (aG (nCQ (.n (.l [16] [0,1,4,5,14,15] [((.exit 0),[],[0,1,4,5])] [2]) (eY (nCQ (nCQ (nCQ (nRQ [.slot 2]))))) .o))) (nCQ (aG (nCQ (.n (.l [29] [0,4,5,27,28] [((.exit 2),[],[4,5])] [3]) (eY (nCQ (.n (.j [] [0,4,5,27,28,29]) (nBQ (nRQ [.slot 3]) (aG (.n (.j [] [0,4,5,27,28,29]) (aG (nRQ [.o,.slot 4,.o,.o,.slot 5])) .o))) .o))) .o)))))))
theorem Ei(C:CC)(t0:V)(t1:V)(q:kkQ):fnD Y C Tryz.f66 6 rT [t0,t1] q=lF C t0 t1 q:=by kernel_rfl
theorem Eg:okB Tryz.prog Tryz.f66 rT=true:=az
theorem Eh(h:lF (CX Y) t0 t1 (out v)):CP Y F.lF [t0,t1] v:=
 CP.of (fn:=Tryz.f66) (m:=6) (a:=rT) rfl (fun _=>rfl) Tryz.func66 Eg (by rw[Ei];exact h)
def fH(C:CC)(a:V)(q:kQ):Prop:=let h:Hp:=.replicate 1 nnQ
 fO 0 a h fun a h=>q (.fn F.cX [] [a]) h
theorem AK(h:fH (CX Y) t0 (out v)):CP Y F.fH [t0] v:=CPo 1 (nCQ (nRQ [.slot 0])) Tryz.func132 h
def lE(C:CC)(a c d:V):F9:=fun l h q=>
 b1Q h a fun a=>
 clQ C h F.rU [ge l 0,a] fun a h=>
 bIQ .neq (ge l 0) (I 2) fun e=>
 jn (fun e h=>
 clQ C h F.aP [a,ge l 1] fun a h=>
 clQ C h F.aP [ge e 0,ge l 1] fun e h=>
 clQ C h F.dh [ge l 1] fun f h=>
 bIQ .lss f (I 0) fun f=>
 jn (fun a h=>
 b1Q h c fun e=>
 clQ C h F.cO [e,ge a 0] fun e h=>
 b1Q h d fun f=>
 clQ C h F.cO [f,ge a 1] fun a h=>
 stD h 1 c e fun _ h=>
 stD h 1 d a fun _ h=>
 q .normal h) fun c=>
 cnd f (
 c [e,a] h) (
 c [a,e] h)) fun c=>
 cnd e (
 clQ C h F.cO [a,(.d (.str [49]))] fun a h=>
 c [a] h) (
 c [a] h)
def iz(C:CC)(a c:V)(q:kQ):Prop:=let h:Hp:=.replicate 4 nnQ
 fO 0 a h fun a h=>fO 1 c h fun c h=>alV 2 [.d (.str [])] h fun d h=>alV 3 [.d (.str [])] h fun e h=>stD h 1 d (.d (.str [48])) fun _ h=>stD h 1 e (.d (.str [48])) fun _ h=>bnd (ldA h 3 a) fun a=>clQ C h F.fH [a] fun a h=>rgO (sqV Y.seq a) 2 (lE C c d e) [] h (fun ex h=>exK [(.normal,fun _ h=>b1Q h d fun a=>b1Q h e fun c=>sp h d [e]<|stD h 1 d a fun _ h=>stD h 1 e c fun _ h=>b1Q h d fun a=>b1Q h e fun c=>q (.tup [a,c]) h)] ex [] h)
theorem yS(h:iz (CX Y) t0 t1 (out v)):CP Y F.iz [t0,t1] v:=CPo 4 (nBQ (nRQ [.slot 0,.slot 1,.slot 2,.slot 3]) (aG (nCQ (aG (nCQ (.n (.l [] [3,4,5] [(.normal,[],[4,5])] []) .o (nCQ (eY (nBQ (aG (nJQ [9] [4,5,7,8])) (aG (nCQ (aG (nJQ [8,9] [4,5]))))))))))))) Tryz.func102 h
def dT(C:CC)(a c d e:V):F9:=fun l h q=>
 clQ C h F.kY [ge l 1] fun f h=>
 ext f 0 fun g=>
 ext f 1 fun f=>
 bnd (unV .not f) fun f=>
 gqQ f false h g fun i h=>
 gbQ f false h (ld1 h a) fun j h=>
 gbQ f false h (biI .gtr i j) fun i h=>
 bpQ f (B true) i fun f=>
 gqQ f false h g fun i h=>
 gbQ f false h (ld1 h a) fun a h=>
 gbQ f false h (unV .neg a) fun a h=>
 gbQ f false h (biI .lss i a) fun a h=>
 bpQ f (B true) a fun a=>
 cnd a (
 stD h 1 c (I 0) fun _ h=>
 stD h 1 d (I 0) fun _ h=>
 stD h 1 e (B false) fun _ h=>
 q .ret h) (
 clQ C h F.rH [ge l 0] fun a h=>
 ext a 0 fun f=>
 ext a 1 fun a=>
 bnd (unV .not a) fun a=>
 cnd a (
 stD h 1 c (I 0) fun _ h=>
 stD h 1 d (I 0) fun _ h=>
 stD h 1 e (B false) fun _ h=>
 q .ret h) (
 bIQ .add f (I 1) fun a=>
 bIQ .eql (ge l 0) (I 2) fun e=>
 jn (fun a h=>
 b1Q h c fun e=>
 bIQ .mul g f fun i=>
 bIQ .mul g (ge a 0) fun j=>
 bnd (mxI false [i,j]) fun i=>
 bIQ .add e i fun e=>
 b1Q h d fun i=>
 bIQ .mul g f fun f=>
 bIQ .mul g (ge a 0) fun a=>
 bnd (mxI true [f,a]) fun a=>
 bIQ .add i a fun a=>
 sp h c [d]<|stD h 1 c e fun _ h=>
 stD h 1 d a fun _ h=>
 q .normal h) fun c=>
 cnd e (
 c [f] h) (
 c [a] h)))
def fY(C:CC)(a c:V)(q:kQ):Prop:=let h:Hp:=.replicate 5 nnQ
 fO 0 a h fun a h=>fO 1 c h fun c h=>alV 2 [.d (.int .i64 0)] h fun d h=>alV 3 [.d (.int .i64 0)] h fun e h=>alV 4 [.d (.bool false)] h fun f h=>bnd (ldA h 3 a) fun a=>clQ C h F.fH [a] fun a h=>rgO (sqV Y.seq a) 2 (dT C c d e f) [] h (fun ex h=>exK [(.ret,fun _ h=>b1Q h d fun a=>b1Q h e fun c=>b1Q h f fun d=>q (.tup [a,c,d]) h),(.normal,fun _ h=>b1Q h d fun a=>b1Q h e fun c=>sp h d [e]<|stD h 1 d a fun _ h=>stD h 1 e c fun _ h=>stD h 1 f (B true) fun _ h=>b1Q h d fun a=>b1Q h e fun c=>b1Q h f fun d=>q (.tup [a,c,d]) h)] ex [] h)
def oX:Ann:=(nBQ (nRQ [.slot 0,.slot 1,.slot 2,.slot 3,.slot 4]) (nCQ (aG (nCQ (.n (.l [] [3,4,5,6] [(.ret,[],[4,5,6]),(.normal,[],[4,5,6])] []) .o (nCQ (ae0 (nCQ (aG (nJQ [13] [4,5,9,11]))))))))))
theorem yR(C:CC)(t0:V)(t1:V)(q:kkQ):fnD Y C Tryz.f131 5 oX [t0,t1] q=fY C t0 t1 q:=by kernel_rfl
theorem yP:okB Tryz.prog Tryz.f131 oX=true:=az
theorem yQ(h:fY (CX Y) t0 t1 (out v)):CP Y F.fY [t0,t1] v:=
 CP.of (fn:=Tryz.f131) (m:=5) (a:=oX) rfl (fun _=>rfl) Tryz.func131 yP (by rw[yR];exact h)
def gG(C:CC)(a:V)(q:kQ):Prop:=let h:Hp:=.replicate 1 nnQ
 fO 0 a h fun a h=>bnd (ldA h 3 a) fun a=>clQ C h F.fY [a,I 10000000] fun a h=>e3Q a fun a c d=>bnd (unV .not d) fun d=>cnd d (q (I 0) h) (cIQ .geq a (I 0) (q (I 1) h) (cIQ .leq c (I 0) (q (I (-1)) h) (q (I 0) h)))
theorem xU(h:gG (CX Y) t0 (out v)):CP Y F.gG [t0] v:=CPo 1 (nCQ (nRQ [.slot 0])) Tryz.func101 h
def om(C:CC)(a:V):aS:=fun l h q=>bnd (ldA h 3 a) fun a=>clQ C h F.iz [a,ge l 0] fun a h=>e2Q a fun a c=>clQ C h F.dh [a] fun a h=>cIQ .geq a (I 0) (q .ret [I 1] h) (clQ C h F.dh [c] fun a h=>cIQ .leq a (I 0) (q .ret [I (-1)] h) (bIQ .mul (ge l 0) (I 2) fun a=>q .normal [a] h))
def fX(C:CC)(a:V)(q:kQ):Prop:=let h:Hp:=.replicate 1 nnQ
 fO 0 a h fun a h=>bfQ 0 a fun c=>b1Q h c fun c=>blQ c fun c=>cIQ .eql c (I 0) (q (I 0) h) (bnd (ldA h 3 a) fun c=>clQ C h F.gG [c] fun c h=>nzQ c (q c h) (lp (om C a) [] h [I 64] h (exK [(.ret,fun a h=>q (ge a 0) h)])))
theorem yO(h:fX (CX Y) t0 (out v)):CP Y F.fX [t0] v:=CPo 1 (nBQ (nRQ [.slot 0]) (nCQ (SU (nCQ (.n (.l [4] [1] [(.ret,[2],[])] []) .o .o))))) Tryz.func69 h
def qQ(C:CC):aS:=fun l h q=>cIQ .lss (ge l 3) (I 26) (jn (fun a h=>bIQ .add (ge l 3) (I 1) fun c=>q .normal [ge a 0,ge a 1,ge a 2,c] h) fun a=>clQ C h F.f9 [ge l 0,ge l 0] fun c h=>e2Q c fun c d=>bIQ .shl c (.d (.int .u64 2)) fun c=>bIQ .shr d (.d (.int .u64 62)) fun d=>bIQ .or c d fun c=>clQ C h F.f9 [ge l 1,ge l 1] fun d h=>e2Q d fun d e=>bIQ .shl d (.d (.int .u64 2)) fun d=>bIQ .shr e (.d (.int .u64 62)) fun e=>bIQ .or d e fun d=>bIQ .add d (.d (.int .u64 1)) fun d=>bIQ .mul (ge l 2) (I 2) fun e=>bIQ .geq c (.d (.int .u64 9223372036854775808)) fun f=>jn (fun c h=>a [ge c 1,ge c 2,ge c 0] h) fun a=>cnd f (bIQ .add e (I 1) fun e=>bIQ .shr c (.d (.int .u64 1)) fun c=>bIQ .shr d (.d (.int .u64 1)) fun d=>bIQ .add d (.d (.int .u64 1)) fun d=>a [e,c,d] h) (cIQ .geq d (.d (.int .u64 9223372036854775808)) (q .ret [I 0,B false] h) (a [e,c,d] h))) (q (.exit 0) [ge l 2] h)
def rH(C:CC)(a:V)(q:kQ):Prop:=let h:Hp:=[]
 bnd (cvI .u64 a) fun c=>clQ C h F.jW [c] fun c h=>bIQ .sub c (I 1) fun c=>bnd (cvI .u64 a) fun a=>bIQ .sub (I 62) c fun d=>bIQ .shl a d fun a=>lp (qQ C) [] h [a,a,c,I 0] h (exK [((.exit 0),fun a h=>q (.tup [ge a 0,B true]) h),(.ret,fun a h=>q (.tup [ge a 0,ge a 1]) h)])
theorem K8(h:rH (CX Y) t0 (out v)):CP Y F.rH [t0] v:=CPo 0 (ae0 (nCQ (aG (nCQ (.n (.l [5,6,7,21] [] [((.exit 0),[7],[]),(.ret,[2,3],[])] []) (eY (nCQ (.n (.j [5,6,7] [21]) (ahk (nJQ [7,5,6] [21])) .o))) .o))))) Tryz.func168 h
def B4(C:CC)(a c:V):aS:=fun l h q=>clQ C h F.size_digits [a,c,ge l 0] fun a h=>e2Q a fun a c=>cnd c (q .ret [a] h) (bIQ .mul (ge l 0) (I 2) fun a=>q .normal [a] h)
def rU(C:CC)(a c:V)(q:kQ):Prop:=let h:Hp:=[]
 cIQ .eql a (I 2) (clQ C h F.kZ [(.d (.str [50])),c] fun a h=>e2Q a fun a c=>q a h) (bIQ .add c (I 64) fun d=>lp (B4 C a c) [] h [d] h (exK [(.ret,fun a h=>q (ge a 0) h)]))
theorem N0(h:rU (CX Y) t0 t1 (out v)):CP Y F.rU [t0,t1] v:=CPo 0 (Be (nCQ (.n (.l [7] [0,1] [(.ret,[4],[])] []) .o .o))) Tryz.func133 h
def oY(C:CC)(a c d:V):aS:=fun l h q=>cIQ .lss (ge l 3) d (jn (fun a h=>bIQ .add (ge l 3) (I 1) fun c=>q .normal [ge a 0,ge a 1,ge a 2,c] h) fun d=>clQ C h F.aP [ge l 0,ge l 0] fun e h=>clQ C h F.aT [e,a] fun e h=>e3Q e fun e f g=>clQ C h F.aP [ge l 1,ge l 1] fun f h=>clQ C h F.aT [f,a] fun a h=>e3Q a fun a f g=>clQ C h F.cO [a,(.d (.str [49]))] fun a h=>clQ C h F.cO [ge l 2,ge l 2] fun f h=>jn (fun a h=>d [ge a 1,ge a 2,ge a 0] h) fun d=>clQ C h F.d7 [e,c] fun g h=>bIQ .geq g (I 0) fun g=>jn (fun a h=>d [ge a 0,ge a 1,ge a 2] h) fun d=>cnd g (clQ C h F.cO [f,(.d (.str [49]))] fun c h=>clQ C h F.aT [e,(.d (.str [50]))] fun e h=>e3Q e fun e f g=>clQ C h F.aT [a,(.d (.str [50]))] fun a h=>e3Q a fun a f g=>clQ C h F.cO [a,(.d (.str [49]))] fun a h=>d [c,e,a] h) (clQ C h F.d7 [a,c] fun c h=>cIQ .geq c (I 0) (q .ret [(.d (.str [])),B false] h) (d [f,e,a] h))) (q (.exit 0) [ge l 2] h)
def size_digits(C:CC)(a c d:V)(q:kQ):Prop:=let h:Hp:=[]
 bnd (cvI .u64 a) fun e=>clQ C h F.jW [e] fun e h=>bIQ .sub e (I 1) fun e=>clQ C h F.kZ [(.d (.str [50])),d] fun f h=>e2Q f fun f g=>clQ C h F.cO [f,f] fun g h=>bIQ .sub d e fun d=>clQ C h F.kZ [(.d (.str [50])),d] fun d h=>e2Q d fun d i=>clQ C h F.dM [a] fun a h=>clQ C h F.aP [a,d] fun a h=>clQ C h F.dM [e] fun d h=>lp (oY C f g c) [] h [a,a,d,I 0] h (exK [((.exit 0),fun a h=>q (.tup [ge a 0,B true]) h),(.ret,fun a h=>q (.tup [ge a 0,ge a 1]) h)])
theorem Gt(h:size_digits (CX Y) t0 t1 t2 (out v)):CP Y F.size_digits [t0,t1,t2] v:=CPo 0 (ajQ (aG (nCQ (aG (nCQ (.n (.l [14,15,16,50] [9,11,49] [((.exit 0),[16],[]),(.ret,[6,7],[])] []) (eY (nCQ (.n (.j [14,15,16] [9,11,49,50]) (SU (.n (.j [16,14,15] [9,11,49,50]) (aG (nJQ [16,14,15] [9,11,49,50])) .o)) .o))) .o)))))) Tryz.func171 h
def kP(C:CC)(a:V)(q:kQ):Prop:=let h:Hp:=[]
 clQ C h F.oG [a] fun c h=>nzQ c (q (.tup [B false,c]) h) (clQ C h F.kN [a] fun a h=>q (.tup [a,I 0]) h)
theorem Bu(h:kP (CX Y) t0 (out v)):CP Y F.kP [t0] v:=CPo 0 .o Tryz.func77 h
def mK(C:CC)(a c d:V):aS:=fun l h q=>cIQ .lss (ge l 1) d (bxQ h 1 c (ge l 1) fun c=>b1Q h c fun c=>alV 0 [.d nPQ] h fun d h=>stD h 1 d c fun _ h=>b1Q h d fun c=>clQ C h F.mg [c] fun c h=>alV 1 [.d (.int .i64 0)] h fun e h=>stD h 1 e c fun _ h=>b1Q h e fun c=>bIQ .leq c (ge l 0) fun c=>gbQ c false h (ld1 h d) fun f h=>gbQ c false h (ld1 h e) fun g h=>gbQ c false h (ixV h 1 f g) fun f h=>gbQ c false h (ld1 h f) fun f h=>gbQ c false h (biI .lss f (I 0)) fun f h=>bpQ c (B true) f fun c=>cnd c (q .ret [B false] h) (bnd (slV h 1 a none (some (ge l 1))) fun a=>clQ C h F.aR [a,(.fn F.eM [] [e,d])] fun a h=>cnd a (q .ret [B false] h) (b1Q h e fun a=>bIQ .add (ge l 1) (I 1) fun c=>q .normal [a,c] h))) (q (.exit 0) [] h)
def kN(C:CC)(a:V)(q:kQ):Prop:=let h:Hp:=.replicate 2 nnQ
 blQ a fun c=>lp (mK C a a c) [0,1] h [I (-1),I 0] h (exK [((.exit 0),fun a h=>q (B true) h),(.ret,fun a h=>q (ge a 0) h)])
theorem Bt(h:kN (CX Y) t0 (out v)):CP Y F.kN [t0] v:=CPo 2 (eY (nCQ (aG (nCQ (.n (.l [3,9] [0,7,8] [((.exit 0),[],[]),(.ret,[2],[])] [0,1]) (eY (nCQ (nCQ (nBQ (nRQ [.slot 0]) (nCQ (nRQ [.o,.slot 1])))))) .o))))) Tryz.func108 h
def eM(C:CC)(a c d:V)(q:kQ):Prop:=let h:Hp:=[]
 b1Q h c fun e=>bxQ h 1 a e fun e=>b1Q h e fun e=>bIQ .lss e (I 0) fun e=>gqQ e false h a fun a h=>gbQ e false h (ld1 h c) fun f h=>gbQ e false h (ixV h 1 a f) fun a h=>gbQ e false h (ld1 h a) fun a h=>gbQ e false h (ld1 h d) fun d h=>gbQ e false h (ld1 h c) fun c h=>gbQ e false h (ixV h 1 d c) fun c h=>gbQ e false h (ld1 h c) fun c h=>gbQ e false h (biI .geq a c) fun a h=>bpQ e (B true) a fun a=>q a h
theorem xB(h:eM (CX Y) t0 t1 t2 (out v)):CP Y F.eM [t0,t1,t2] v:=CPo 0 .o Tryz.func143 h
def mg(C:CC)(a:V)(q:kQ):Prop:=let h:Hp:=[]
 clQ C h F.aV [a,(.fn F.jh [] [])] q
theorem CG(h:mg (CX Y) t0 (out v)):CP Y F.mg [t0] v:=CPo 0 .o Tryz.func141 h
def jh(C:CC)(a:V)(q:kQ):Prop:=let h:Hp:=[]
 bIQ .neq a (I 0) fun a=>q a h
theorem yr(h:jh (CX Y) t0 (out v)):CP Y F.jh [t0] v:=CPo 0 .o Tryz.func173 h
def oV(C:CC)(a c d:V):aS:=fun l h q=>cIQ .lss (ge l 0) d (bxQ h 1 c (ge l 0) fun c=>b1Q h c fun c=>blQ c fun d=>cIQ .gtr d (I 12) (q .ret [I 4] h) (blQ c fun d=>bxQ h 1 a (I 0) fun a=>b1Q h a fun a=>blQ a fun a=>cIQ .neq d a (q .ret [I 5] h) (clQ C h F.aW [c,(.fn F.oE [] [])] fun a h=>cnd a (q .ret [I 4] h) (bIQ .add (ge l 0) (I 1) fun a=>q .normal [a] h)))) (q (.exit 0) [] h)
def oG(C:CC)(a:V)(q:kQ):Prop:=let h:Hp:=[]
 blQ a fun c=>cIQ .gtr c (I 12) (q (I 4) h) (blQ a fun c=>lp (oV C a a c) [] h [I 0] h (exK [((.exit 0),fun a h=>q (I 0) h),(.ret,fun a h=>q (ge a 0) h)]))
theorem Gl(h:oG (CX Y) t0 (out v)):CP Y F.oG [t0] v:=CPo 0 (eY (nCQ (aG (nCQ (.n (.l [10] [0,8,9] [((.exit 0),[],[]),(.ret,[2],[])] []) .o .o))))) Tryz.func107 h
def oE(C:CC)(a:V)(q:kQ):Prop:=let h:Hp:=[]
 bIQ .gtr a (I 1000000000) fun c=>gqQ c false h a fun a h=>gbQ c false h (biI .lss a (I (-1000000000))) fun a h=>bpQ c (B true) a fun a=>q a h
theorem Gk(h:oE (CX Y) t0 (out v)):CP Y F.oE [t0] v:=CPo 0 .o Tryz.func140 h
def oc(C:CC)(a c d:V):aS:=fun l h q=>cIQ .lss (ge l 0) d (bxQ h 1 c (ge l 0) fun c=>b1Q h c fun c=>clQ C h F.oM [c] fun d h=>nzQ d (q .ret [d] h) (blQ c fun c=>cIQ .neq c a (q .ret [I 5] h) (bIQ .add (ge l 0) (I 1) fun a=>q .normal [a] h))) (q (.exit 0) [] h)
def nA(C:CC)(a c:V)(q:kQ):Prop:=let h:Hp:=[]
 blQ a fun d=>lp (oc C c a d) [] h [I 0] h (exK [((.exit 0),fun a h=>q (I 0) h),(.ret,fun a h=>q (ge a 0) h)])
theorem Eu(h:nA (CX Y) t0 t1 (out v)):CP Y F.nA [t0,t1] v:=CPo 0 (aG (nCQ (aG (nCQ (.n (.l [10] [1,8,9] [((.exit 0),[],[]),(.ret,[4],[])] []) .o .o))))) Tryz.func70 h
def rD(C:CC)(a c:V)(q:kQ):Prop:=let h:Hp:=[]
 clQ C h F.ma [c] fun c h=>clQ C h F.cO [a,c] q
theorem Kw(h:rD (CX Y) t0 t1 (out v)):CP Y F.rD [t0,t1] v:=CPo 0 .o Tryz.func106 h
def mH(C:CC)(b:Nat)(a c:V):aS:=fun l h q=>cIQ .lss (ge l 1) c (bxQ h 1 a (ge l 1) fun a=>b1Q h a fun a=>clQ C h F.dM [a] fun a h=>dR 1 [.str []] [(0,a)] h fun a h=>apV false (b+1) 1 16 (ge l 0) a h fun a h=>bIQ .add (ge l 1) (I 1) fun c=>q .normal [a,c] h) (q (.exit 0) [ge l 0] h)
def fK(C:CC)(b:Nat)(h:Hp)(a:V)(q:kQ):Prop:=let h:Hp:=h++List.replicate 2 nnQ
 blQ a fun c=>mkS (b+0) 16 [.str []] h (I 0) c fun c h=>blQ a fun d=>lp (mH C b a d) [] h [c,I 0] h (exK [((.exit 0),fun a h=>q (ge a 0) h)])
def pP(b:Nat):Ann:=(.n .x .o (.n .x (.n (.r [.slot (b+0)]) .o .o) (.n .x (.n .x .o (.n .x (.n (.l [3,11] [9,10] [((.exit 0),[3],[])] []) (.n .x .o (.n .x .o (.n .x (.n .x (.n .x .o (.n (.r [.o,.o,.slot (b+1)]) .o .o)) .o) .o))) .o) .o)) .o)))
theorem Bo(C:CC)(h:Hp)(t0:V)(q:kkQ):fnI Y C Tryz.f71 2 pP [t0] h q=fK C h.length h t0 q:=by rfl
theorem Bm(b:Nat):okB Tryz.prog Tryz.f71 (pP b)=true:=by rfl
theorem Bn(hh:fK (CX Y) h.length h t0 (nN h.length v h2)):CI Y F.fK [t0] h v h2:=
 CI.of (fn:=Tryz.f71) (m:=2) (a:=pP) rfl (fun _=>rfl) Tryz.func71 (Bm _) (by rw[Bo];exact hh)
def jX(C:CC)(b:Nat)(h:Hp)(a:V)(q:kQ):Prop:=let h:Hp:=h++List.replicate 2 nnQ
 mkS (b+0) 8 [.int .i64 0] h a a fun a h=>ciQ C h F.fK [a] (b+1) q
def qC(b:Nat):Ann:=(.n .x .o (.n .x (.n (.r [.slot (b+0),.inl (b+1)]) .o .o) .o))
theorem Cy(C:CC)(h:Hp)(t0:V)(q:kkQ):fnI Y C Tryz.f78 2 qC [t0] h q=jX C h.length h t0 q:=by rfl
theorem Cw(b:Nat):okB Tryz.prog Tryz.f78 (qC b)=true:=by rfl
theorem Cx(hh:jX (CX Y) h.length h t0 (nN h.length v h2)):CI Y F.jX [t0] h v h2:=
 CI.of (fn:=Tryz.f78) (m:=2) (a:=qC) rfl (fun _=>rfl) Tryz.func78 (Cw _) (by rw[Cy];exact hh)
def jP(C:CC)(b:Nat)(a c d e:V):aS:=fun l h q=>cIQ .lss (ge l 0) e (bxQ h 1 d (ge l 0) fun d=>b1Q h d fun d=>bxQ h 1 a (ge l 0) fun e=>b1Q h e fun e=>clQ C h F.aP [c,d] fun c h=>clQ C h F.rD [e,c] fun c h=>bxQ h 1 a (ge l 0) fun a=>stD h 1 a c fun _ h=>bIQ .add (ge l 0) (I 1) fun a=>q .normal [a] h) (q (.exit 0) [] h)
def eJ(C:CC)(b:Nat)(h:Hp)(a c d:V)(q:kQ):Prop:=let h:Hp:=h++List.replicate 0 nnQ
 bSQ .eql c (.d (.str [48])) fun e=>cnd e (q (.tup []) h) (blQ d fun e=>lp (jP C b a c d e) [] h [I 0] h (exK [((.exit 0),fun a h=>q (.tup []) h)]))
def nP(b:Nat):Ann:=(.n .x .o (.n .x .o (.n .x (.n (.l [12] [0,1,10,11] [((.exit 0),[],[])] []) .o .o) .o)))
theorem xz(C:CC)(h:Hp)(t0:V)(t1:V)(t2:V)(q:kkQ):fnI Y C Tryz.f74 0 nP [t0,t1,t2] h q=eJ C h.length h t0 t1 t2 q:=by rfl
theorem xx(b:Nat):okB Tryz.prog Tryz.f74 (nP b)=true:=by rfl
theorem xy(hh:eJ (CX Y) h.length h t0 t1 t2 (nN h.length v h2)):CI Y F.eJ [t0,t1,t2] h v h2:=
 CI.of (fn:=Tryz.f74) (m:=0) (a:=nP) rfl (fun _=>rfl) Tryz.func74 (xx _) (by rw[xz];exact hh)
def iP(C:CC)(b:Nat)(a c d:V):aS:=fun l h q=>cIQ .lss (ge l 0) d (bxQ h 1 c (ge l 0) fun c=>b1Q h c fun c=>clQ C h F.ma [c] fun c h=>bxQ h 1 a (ge l 0) fun a=>stD h 1 a c fun _ h=>bIQ .add (ge l 0) (I 1) fun a=>q .normal [a] h) (q (.exit 0) [] h)
def eD(C:CC)(b:Nat)(h:Hp)(a:V)(q:kQ):Prop:=let h:Hp:=h++List.replicate 0 nnQ
 blQ a fun c=>lp (iP C b a a c) [] h [I 0] h (exK [((.exit 0),fun a h=>q (.tup []) h)])
def mA(b:Nat):Ann:=(.n .x .o (.n .x (.n (.l [6] [0,4,5] [((.exit 0),[],[])] []) .o .o) .o))
theorem vl(C:CC)(h:Hp)(t0:V)(q:kkQ):fnI Y C Tryz.f75 0 mA [t0] h q=eD C h.length h t0 q:=by rfl
theorem vj(b:Nat):okB Tryz.prog Tryz.f75 (mA b)=true:=by rfl
theorem vk(hh:eD (CX Y) h.length h t0 (nN h.length v h2)):CI Y F.eD [t0] h v h2:=
 CI.of (fn:=Tryz.f75) (m:=0) (a:=mA) rfl (fun _=>rfl) Tryz.func75 (vj _) (by rw[vl];exact hh)
def gz(C:CC)(b:Nat)(a c:V):aS:=fun l h q=>blQ a fun d=>cIQ .lss (ge l 1) d (jn (fun a h=>bIQ .add (ge l 1) (I 1) fun c=>q .normal [ge a 0,c] h) fun d=>bxQ h 1 a (ge l 1) fun e=>b1Q h e fun e=>bxQ h 1 e c fun e=>b1Q h e fun e=>bSQ .neq e (.d (.str [48])) fun e=>gqQ e true h (ge l 0) fun f h=>gbQ e true h (biI .lss f (I 0)) fun f h=>gqQ e true h f fun f h=>gqQ f false h a fun g h=>gqQ f false h (ge l 1) fun i h=>gbQ f false h (ixV h 1 g i) fun g h=>gbQ f false h (ld1 h g) fun g h=>gqQ f false h c fun i h=>gbQ f false h (ixV h 1 g i) fun g h=>gbQ f false h (ld1 h g) fun g h=>gd f false h (fun q=>clQ C h F.gB [g] q) fun g h=>gqQ f false h a fun a h=>gqQ f false h (ge l 0) fun i h=>gbQ f false h (ixV h 1 a i) fun a h=>gbQ f false h (ld1 h a) fun a h=>gqQ f false h c fun c h=>gbQ f false h (ixV h 1 a c) fun a h=>gbQ f false h (ld1 h a) fun a h=>gd f false h (fun q=>clQ C h F.gB [a] q) fun a h=>gd f false h (fun q=>clQ C h F.d7 [g,a] q) fun a h=>gbQ f false h (biI .lss a (I 0)) fun a h=>gbQ e true h (mV f (B true) a) fun a h=>bpQ e a (B false) fun a=>jn (fun a h=>d [ge a 0] h) fun c=>cnd a (c [ge l 1] h) (c [ge l 0] h)) (q (.exit 4) [ge l 0] h)
def jz(C:CC)(b:Nat)(a c d:V):aS:=fun l h q=>blQ a fun e=>cIQ .lss (ge l 1) e (bxQ h 1 a (ge l 1) fun e=>b1Q h e fun e=>bxQ h 1 e d fun e=>b1Q h e fun e=>bxQ h 1 a c fun f=>b1Q h f fun f=>bxQ h 1 f d fun d=>b1Q h d fun d=>clQ C h F.aT [e,d] fun d h=>e3Q d fun d e f=>bxQ h 1 a (ge l 1) fun f=>b1Q h f fun f=>bxQ h 1 a c fun a=>b1Q h a fun a=>ciQ C h F.eJ [f,d,a] (b+0) fun a h=>gqQ (ge l 0) false h e fun a h=>gbQ (ge l 0) false h (biS .neq a (.d (.str [48]))) fun a h=>bpQ (ge l 0) (B true) a fun a=>bIQ .add (ge l 1) (I 1) fun c=>q .normal [a,c] h) (q (.exit 6) [ge l 0] h)
def gy(C:CC)(b:Nat)(a c d e:V):aS:=fun l h q=>cIQ .lss (ge l 0) e (bxQ h 1 a (ge l 0) fun e=>b1Q h e fun e=>bxQ h 1 e d fun e=>b1Q h e fun e=>bxQ h 1 a c fun f=>b1Q h f fun f=>bxQ h 1 f d fun d=>b1Q h d fun d=>clQ C h F.aT [e,d] fun d h=>e3Q d fun d e f=>bxQ h 1 a (ge l 0) fun e=>b1Q h e fun e=>bxQ h 1 a c fun a=>b1Q h a fun a=>ciQ C h F.eJ [e,d,a] (b+2) fun a h=>bIQ .add (ge l 0) (I 1) fun a=>q .normal [a] h) (q (.exit 8) [] h)
def mz(C:CC)(b:Nat)(a c:V):aS:=fun l h q=>lp (gz C b a c) [] h [I (-1),ge l 0] h (exK [((.exit 4),fun d h=>cIQ .lss (ge d 0) (I 0) (q (.exit 2) [ge l 0] h) (bxQ h 1 a (ge d 0) fun e=>b1Q h e fun e=>bxQ h 1 a (ge l 0) fun f=>b1Q h f fun f=>bxQ h 1 a (ge l 0) fun g=>stD h 1 g e fun _ h=>bxQ h 1 a (ge d 0) fun d=>stD h 1 d f fun _ h=>bIQ .add (ge l 0) (I 1) fun d=>lp (jz C b a (ge l 0) c) [(b+0)] h [B false,d] h (exK [((.exit 6),fun d h=>cnd (ge d 0) (q .normal [ge l 0] h) (bxQ h 1 a (ge l 0) fun d=>b1Q h d fun d=>bxQ h 1 d c fun d=>b1Q h d fun d=>clQ C h F.dh [d] fun d h=>bIQ .lss d (I 0) fun d=>jn (fun d h=>lp (gy C b a (ge l 0) c (ge l 0)) [(b+2)] h [I 0] h (exK [((.exit 8),fun a h=>bIQ .add (ge l 0) (I 1) fun a=>q (.exit 2) [a] h)])) fun c=>cnd d (bxQ h 1 a (ge l 0) fun a=>b1Q h a fun a=>ciQ C h F.eD [a] (b+1) fun a h=>c [] h) (c [] h)))])))])
def gA(C:CC)(b:Nat)(a c:V):aS:=fun l h q=>bIQ .lss (ge l 1) c fun c=>gqQ c true h (ge l 0) fun d h=>gqQ c true h a fun e h=>gbQ c true h (aY e) fun e h=>gbQ c true h (biI .lss d e) fun d h=>bpQ c d (B false) fun c=>cnd c (lp (mz C b a (ge l 1)) [(b+0),(b+1),(b+2)] h [ge l 0] h (exK [((.exit 2),fun a h=>bIQ .add (ge l 1) (I 1) fun c=>q .normal [ge a 0,c] h)])) (q (.exit 0) [ge l 0] h)
def bZ(C:CC)(b:Nat)(h:Hp)(a c:V)(q:kQ):Prop:=let h:Hp:=h++List.replicate 3 nnQ
 lp (gA C b a c) [(b+0),(b+1),(b+2)] h [I 0,I 0] h (exK [((.exit 0),fun c h=>bnd (slV h 1 a none (some (ge c 0))) fun a=>q a h)])
def mZ(b:Nat):Ann:=(.n .x .o (.n .x .o (.n .x (.n .x .o (.n .x (.n (.l [5,6] [0,1] [((.exit 0),[5],[0])] [(b+0),(b+1),(b+2)]) (.n .x .o (.n .x (.n .x (.n .x (.n (.l [5] [0,1,6] [((.exit 2),[5],[0,1,6])] [(b+0),(b+1),(b+2)]) (.n .x (.n .x .o (.n .x (.n .x .o (.n .x (.n (.l [7,8] [0,1,5,6] [((.exit 4),[7],[0,1,5,6])] []) (.n .x .o (.n .x (.n (.j [7] [0,1,5,6,8]) (.n .x .o (.n (.j [7] [0,1,5,6,8]) .o .o)) .o) .o)) .o) .o)) (.n .x .o (.n .x .o (.n .x .o (.n .x (.n .x .o (.n .x (.n (.l [9,10] [0,1,5,6] [((.exit 6),[9],[0,1,5,6])] [(b+0)]) (.n .x .o (.n .x (.n .x (.n .x .o (.n .x (.n (.r [.inl (b+0)]) .o .o) .o)) .o) .o)) .o) .o)) (.n .x .o (.n .x (.n .x .o (.n (.j [] [0,1,5,6]) (.n (.r [.inl (b+1)]) .o .o) .o)) (.n .x (.n .x .o (.n .x (.n (.l [143] [0,1,5,6,142] [((.exit 8),[],[0,1,5,6])] [(b+2)]) (.n .x .o (.n .x .o (.n .x (.n .x (.n .x .o (.n .x .o (.n (.r [.inl (b+2)]) .o .o))) .o) .o))) .o) .o)) .o))))))))) .o) .o) .o) .o) .o)) .o) .o)) .o)))
theorem wz(C:CC)(h:Hp)(t0:V)(t1:V)(q:kkQ):fnI Y C Tryz.f45 3 mZ [t0,t1] h q=bZ C h.length h t0 t1 q:=by rfl
theorem ww(b:Nat):okB Tryz.prog Tryz.f45 (mZ b)=true:=by rfl
theorem qh(hh:bZ (CX Y) h.length h t0 t1 (nN h.length v h2)):CI Y F.bZ [t0,t1] h v h2:=
 CI.of (fn:=Tryz.f45) (m:=3) (a:=mZ) rfl (fun _=>rfl) Tryz.func45 (ww _) (by rw[wz];exact hh)
def lO(C:CC)(b:Nat)(a c:V):aS:=fun l h q=>cIQ .lss (ge l 1) c (bxQ h 1 a (ge l 1) fun a=>b1Q h a fun a=>anyS fun s4=>ciQ C h F.fK [a] s4 fun a h=>anyS fun s6=>Cv s6 1 [nPQ] [(0,a)] h fun a h=>anyS fun s8=>apW false s8 1 24 (ge l 0) a h fun a h=>bIQ .add (ge l 1) (I 1) fun c=>q .normal [a,c] h) (q (.exit 0) [ge l 0] h)
def cN(C:CC)(b:Nat)(h:Hp)(a:V)(q:kQ):Prop:=let h:Hp:=h++List.replicate 14 nnQ
 blQ a fun c=>lp (lO C b a c) [] h [nSQ,I 0] h (exK [((.exit 0),fun a h=>q (ge a 0) h)])
def o9(b:Nat):Ann:=(.n .x .o (.n .x .o (.n .x (.n .x .o (.n .x (.n (.l [3,8] [6,7] [((.exit 0),[3],[])] []) (.n .x .o (.n .x .o (.n .x (.n .x (.n .x .o (.n (.r [.anyI,.anyV,.anyV]) .o .o)) .o) .o))) .o) .o)) .o)))
theorem zw(C:CC)(h:Hp)(t0:V)(q:kkQ):fnI Y C Tryz.f44 14 o9 [t0] h q=cN C h.length h t0 q:=by rfl
theorem zt(b:Nat):okB Tryz.prog Tryz.f44 (o9 b)=true:=by rfl
theorem zu(hh:cN (CX Y) h.length h t0 (nN h.length v h2)):CI Y F.cN [t0] h v h2:=
 CI.of (fn:=Tryz.f44) (m:=14) (a:=o9) rfl (fun _=>rfl) Tryz.func44 (zt _) (by rw[zw];exact hh)
def jO(C:CC)(a c:V):aS:=fun l h q=>cIQ .lss (ge l 1) c (bxQ h 1 a (ge l 1) fun a=>b1Q h a fun a=>anyS fun s4=>ciQ C h F.fK [a] s4 fun a h=>anyS fun s6=>Cv s6 1 [nPQ] [(0,a)] h fun a h=>anyS fun s8=>apW false s8 1 24 (ge l 0) a h fun a h=>bIQ .add (ge l 1) (I 1) fun c=>q .normal [a,c] h) (q (.exit 0) [ge l 0] h)
def sJ(C:CC)(a:V)(q:kQ):Prop:=let h:Hp:=.replicate 14 nnQ
 blQ a fun c=>lp (jO C a c) [] h [nSQ,I 0] h (exK [((.exit 0),fun a h=>q (ge a 0) h)])
theorem xw(h:sJ (CX Y) t0 (out v)):CP Y F.cN [t0] v:=CPo 14 (eY (nCQ (aG (nCQ (.n (.l [3,8] [6,7] [((.exit 0),[3],[])] []) (eY (nCQ (nCQ (aG (nRQ [.anyI,.anyV,.anyV]))))) .o))))) Tryz.func44 h
def ft(C:CC)(b:Nat)(a c d:V):aS:=fun l h q=>cIQ .lss (ge l 1) d (jn (fun a h=>bIQ .add (ge l 1) (I 1) fun c=>q .normal [ge a 0,c] h) fun d=>bxQ h 1 c (ge l 1) fun c=>b1Q h c fun c=>clQ C h F.il [c] fun e h=>bIQ .geq e a fun e=>jn (fun a h=>d [ge a 0] h) fun d=>cnd e (bnd (slV h 1 c (some a) none) fun a=>anyS fun s12=>Cv s12 1 [nPQ] [(0,a)] h fun a h=>anyS fun s14=>apW false s14 1 24 (ge l 0) a h fun a h=>d [a] h) (d [ge l 0] h)) (q (.exit 0) [ge l 0] h)
def cD(C:CC)(b:Nat)(h:Hp)(a c d:V)(q:kQ):Prop:=let h:Hp:=h++List.replicate 2 nnQ
 blQ a fun e=>lp (ft C b c a e) [] h [nSQ,I 0] h (exK [((.exit 0),fun a h=>ciQ C h F.bZ [ge a 0,d] (b+0) q)])
def lN(b:Nat):Ann:=(.n .x .o (.n .x .o (.n .x (.n .x .o (.n .x (.n (.l [7,12] [1,2,10,11] [((.exit 0),[7],[2])] []) (.n .x .o (.n .x .o (.n .x (.n (.j [7] [1,2,10,11,12]) (.n .x .o (.n .x .o (.n (.j [7] [1,2,10,11,12]) (.n (.r [.anyV,.anyV]) .o .o) .o))) .o) .o))) .o) .o)) (.n .x (.n (.r [.inl (b+0)]) .o .o) .o))))
theorem uE(C:CC)(h:Hp)(t0:V)(t1:V)(t2:V)(q:kkQ):fnI Y C Tryz.f79 2 lN [t0,t1,t2] h q=cD C h.length h t0 t1 t2 q:=by rfl
theorem uD(b:Nat):okB Tryz.prog Tryz.f79 (lN b)=true:=by rfl
theorem o8(hh:cD (CX Y) h.length h t0 t1 t2 (nN h.length v h2)):CI Y F.cD [t0,t1,t2] h v h2:=
 CI.of (fn:=Tryz.f79) (m:=2) (a:=lN) rfl (fun _=>rfl) Tryz.func79 (uD _) (by rw[uE];exact hh)
def ij(C:CC)(a c d:V):aS:=fun l h q=>cIQ .lss (ge l 1) d (bxQ h 1 c (ge l 1) fun c=>b1Q h c fun c=>bxQ h 1 c a fun a=>b1Q h a fun a=>dR 1 [.str []] [(0,a)] h fun a h=>anyS fun s7=>apV false s7 1 16 (ge l 0) a h fun a h=>bIQ .add (ge l 1) (I 1) fun c=>q .normal [a,c] h) (q (.exit 2) [ge l 0] h)
def ik(C:CC)(a c d:V):aS:=fun l h q=>cIQ .lss (ge l 1) d (blQ a fun d=>lp (ij C (ge l 1) a d) [] h [nSQ,I 0] h (exK [((.exit 2),fun a h=>ciQ C h F.jX [c] 0 fun c h=>bxQ h 1 c (ge l 1) fun d=>stD h 1 d (.d (.str [49])) fun _ h=>anyS fun s7=>apV false s7 1 16 (ge a 0) c h fun a h=>anyS fun s9=>Cv s9 1 [nPQ] [(0,a)] h fun a h=>anyS fun s11=>apW false s11 1 24 (ge l 0) a h fun a h=>bIQ .add (ge l 1) (I 1) fun c=>q .normal [a,c] h)])) (q (.exit 0) [ge l 0] h)
def cZ(C:CC)(a c:V)(q:kQ):Prop:=let h:Hp:=.replicate 19 nnQ
 lp (ik C a c c) [0] h [nSQ,I 0] h (exK [((.exit 0),fun d h=>blQ a fun e=>bIQ .add e c fun e=>ciQ C h F.bZ [ge d 0,e] 1 fun d h=>blQ a fun a=>ciQ C h F.cD [d,a,c] 2 q)])
theorem uC(h:cZ (CX Y) t0 t1 (out v)):CP Y F.cZ [t0,t1] v:=CPo 19 (eY (nBQ (aG (nCQ (.n (.l [5,12] [0,1,11] [((.exit 0),[5],[0,1])] [0]) (eY (nCQ (nCQ (eY (nBQ (aG (nCQ (.n (.l [7,17] [0,1,5,6,11,12,15,16] [((.exit 2),[7],[0,1,5,6,11,12])] []) (eY (nCQ (nCQ (aG (nRQ [.o,.anyS]))))) .o))) (nBQ (nRQ [.inl 0]) (aG (nRQ [.anyS,.anyV,.anyV])))))))) .o))) (nCQ (nRQ [.inl 1,.inl 2])))) Tryz.func48 h
def il(C:CC)(a:V)(q:kQ):Prop:=let h:Hp:=[]
 clQ C h F.cG [a,(.fn F.dV [] [])] q
theorem xA(h:il (CX Y) t0 (out v)):CP Y F.il [t0] v:=CPo 0 .o Tryz.func109 h
def dV(C:CC)(a:V)(q:kQ):Prop:=let h:Hp:=[]
 bSQ .neq a (.d (.str [48])) fun a=>q a h
theorem uF(h:dV (CX Y) t0 (out v)):CP Y F.dV [t0] v:=CPo 0 .o Tryz.func145 h
def mp(C:CC)(a c d:V):aS:=fun l h q=>cIQ .lss (ge l 0) d (bxQ h 1 a (ge l 0) fun a=>b1Q h a fun a=>cal C.p h c [a] fun a h=>cnd a (q .ret [ge l 0] h) (bIQ .add (ge l 0) (I 1) fun a=>q .normal [a] h)) (q (.exit 0) [] h)
def cG(C:CC)(a c:V)(q:kQ):Prop:=let h:Hp:=[]
 blQ a fun d=>lp (mp C a c d) [] h [I 0] h (exK [((.exit 0),fun a h=>q (I (-1)) h),(.ret,fun a h=>q (ge a 0) h)])
theorem mN(h:cG (CX Y) t0 t1 (out v)):CP Y F.cG [t0,t1] v:=CPo 0 (aG (nCQ (aG (nCQ (.n (.l [8] [0,1,7] [((.exit 0),[],[]),(.ret,[4],[])] []) .o .o))))) Tryz.func144 h
def jA(C:CC)(a c:V):aS:=fun l h q=>cIQ .lss (ge l 1) c (bxQ h 1 a (ge l 1) fun a=>b1Q h a fun a=>clQ C h F.kY [a] fun a h=>e2Q a fun a c=>bnd (unV .not c) fun c=>gqQ c false h a fun d h=>gbQ c false h (biI .gtr d (I 1000000000)) fun d h=>bpQ c (B true) d fun c=>gqQ c false h a fun d h=>gbQ c false h (biI .lss d (I (-1000000000))) fun d h=>bpQ c (B true) d fun c=>cnd c (q .ret [nSQ,I 4] h) (a1Q 1 (ge l 0) a h fun a h=>bIQ .add (ge l 1) (I 1) fun c=>q .normal [a,c] h)) (q (.exit 0) [ge l 0] h)
def gI(C:CC)(a:V)(q:kQ):Prop:=let h:Hp:=.replicate 2 nnQ
 blQ a fun c=>mkS 0 8 [.int .i64 0] h (I 0) c fun c h=>blQ a fun d=>lp (jA C a d) [] h [c,I 0] h (exK [((.exit 0),fun a h=>q (.tup [ge a 0,I 0]) h),(.ret,fun a h=>q (.tup [ge a 0,ge a 1]) h)])
theorem wA(h:gI (CX Y) t0 (out v)):CP Y F.gI [t0] v:=CPo 2 (aG (nBQ (nRQ [.slot 0]) (nCQ (aG (nCQ (.n (.l [4,14] [12,13] [((.exit 0),[4],[]),(.ret,[2,3],[])] []) (eY (nCQ (nCQ (Be (nRQ [.o,.slot 1]))))) .o)))))) Tryz.func76 h
def iO(C:CC)(a c d e:V):aS:=fun l h q=>cIQ .lss (ge l 0) e (bxQ h 1 d (ge l 0) fun d=>b1Q h d fun d=>clQ C h F.gI [d] fun d h=>e2Q d fun d e=>nzQ e (bnd (bld [(0,1),(1,1)] [.int .i64 0,nPQ] []) fun c=>stD h 2 a c fun _ h=>q .ret [e] h) (bfQ 1 c fun a=>b1Q h a fun a=>dR 1 [nPQ] [(0,d)] h fun d h=>apV false 2 1 24 a d h fun a h=>bfQ 1 c fun c=>stD h 1 c a fun _ h=>bIQ .add (ge l 0) (I 1) fun a=>q .normal [a] h)) (q (.exit 0) [] h)
def dF(C:CC)(a c:V)(q:kQ):Prop:=let h:Hp:=.replicate 3 nnQ
 alV 0 [.d (.int .i64 0),.d nPQ] h fun d h=>bnd (bld [(0,1),(1,1)] [.int .i64 0,nPQ] [(0,c)]) fun c=>alV 1 [.d (.int .i64 0),.d nPQ] h fun e h=>stD h 2 e c fun _ h=>blQ a fun c=>lp (iO C d e a c) [] h [I 0] h (exK [((.exit 0),fun a h=>bnd (ldA h 2 e) fun a=>stD h 2 d a fun _ h=>bnd (ldA h 2 d) fun a=>q (.tup [a,I 0]) h),(.ret,fun a h=>bnd (ldA h 2 d) fun c=>q (.tup [c,ge a 0]) h)])
theorem vi(h:dF (CX Y) t0 t1 (out v)):CP Y F.dF [t0,t1] v:=CPo 3 (nBQ (nRQ [.slot 0]) (nBQ (nRQ [.slot 1]) (nCQ (aG (nCQ (.n (.l [15] [4,6,13,14] [((.exit 0),[],[4,6]),(.ret,[5],[4])] []) (eY (nCQ (nCQ (Be (nRQ [.o,.slot 2]))))) .o)))))) Tryz.func46 h
def gJ(C:CC)(a:V)(q:kQ):Prop:=let h:Hp:=.replicate 2 nnQ
 fO 0 a h fun a h=>alV 1 [.d (.int .i64 0),.d nPQ] h fun c h=>bnd (ldA h 2 a) fun d=>clQ C h F.iY [d] fun d h=>nzQ d (bnd (bld [(0,1),(1,1)] [.int .i64 0,nPQ] []) fun a=>stD h 2 c a fun _ h=>bnd (ldA h 2 c) fun a=>q (.tup [a,d]) h) (bfQ 1 a fun d=>b1Q h d fun d=>clQ C h F.cN [d] fun d h=>bfQ 0 a fun e=>b1Q h e fun e=>clQ C h F.cZ [d,e] fun d h=>bfQ 0 a fun e=>b1Q h e fun e=>clQ C h F.cZ [d,e] fun d h=>bfQ 0 a fun a=>b1Q h a fun a=>clQ C h F.dF [d,a] fun a h=>e2Q a fun a d=>stD h 2 c a fun _ h=>bnd (ldA h 2 c) fun a=>q (.tup [a,d]) h)
theorem yi(h:gJ (CX Y) t0 (out v)):CP Y F.gJ [t0] v:=CPo 2 (nCQ (nRQ [.slot 0,.slot 1])) Tryz.func28 h
def eE(C:CC)(a:V)(q:kQ):Prop:=let h:Hp:=.replicate 2 nnQ
 fO 0 a h fun a h=>alV 1 [.d (.int .i64 0),.d nPQ] h fun c h=>bnd (ldA h 2 a) fun d=>clQ C h F.iY [d] fun d h=>nzQ d (bnd (bld [(0,1),(1,1)] [.int .i64 0,nPQ] []) fun a=>stD h 2 c a fun _ h=>bnd (ldA h 2 c) fun a=>q (.tup [a,d]) h) (bfQ 1 a fun d=>b1Q h d fun d=>clQ C h F.cN [d] fun d h=>bfQ 0 a fun e=>b1Q h e fun e=>clQ C h F.cZ [d,e] fun d h=>bfQ 0 a fun a=>b1Q h a fun a=>clQ C h F.dF [d,a] fun a h=>e2Q a fun a d=>stD h 2 c a fun _ h=>bnd (ldA h 2 c) fun a=>q (.tup [a,d]) h)
theorem vm(h:eE (CX Y) t0 (out v)):CP Y F.eE [t0] v:=CPo 2 (nCQ (nRQ [.slot 0,.slot 1])) Tryz.func29 h
def pQ(C:CC)(a c:V)(q:kQ):Prop:=let h:Hp:=.replicate 16 nnQ
 alV 0 [.d (.int .i64 0),.d nPQ] h fun d h=>clQ C h F.jY [a,c] fun e h=>nzQ e (bnd (bld [(0,1),(1,1)] [.int .i64 0,nPQ] []) fun a=>stD h 2 d a fun _ h=>bnd (ldA h 2 d) fun a=>q (.tup [a,e]) h) (ciQ C h F.cN [c] 1 fun c h=>ciQ C h F.bZ [c,a] 2 fun c h=>clQ C h F.dF [c,a] fun a h=>e2Q a fun a c=>stD h 2 d a fun _ h=>bnd (ldA h 2 d) fun a=>q (.tup [a,c]) h)
theorem JH(h:pQ (CX Y) t0 t1 (out v)):CP Y F.pQ [t0,t1] v:=CPo 16 (nBQ (nRQ [.slot 0]) (aG (nCQ (nRQ [.inl 1,.inl 2])))) Tryz.func27 h
def jY(C:CC)(a c:V)(q:kQ):Prop:=let h:Hp:=[]
 bIQ .lss a (I 0) fun d=>gqQ d false h a fun e h=>gbQ d false h (biI .gtr e (I 12)) fun e h=>bpQ d (B true) e fun d=>cnd d (q (I 3) h) (blQ c fun d=>cIQ .gtr d (I 12) (q (I 4) h) (clQ C h F.nA [c,a] q))
theorem Cz(h:jY (CX Y) t0 t1 (out v)):CP Y F.jY [t0,t1] v:=CPo 0 .o Tryz.func43 h
def iY(C:CC)(a:V)(q:kQ):Prop:=let h:Hp:=.replicate 1 nnQ
 fO 0 a h fun a h=>bfQ 0 a fun c=>b1Q h c fun c=>bfQ 1 a fun d=>b1Q h d fun d=>clQ C h F.jY [c,d] fun c h=>nzQ c (q c h) (bfQ 1 a fun a=>b1Q h a fun a=>clQ C h F.kP [a] fun a h=>e2Q a fun a c=>bIQ .neq c (I 0) fun c=>gqQ c false h a fun a h=>gbQ c false h (unV .not a) fun a h=>bpQ c (B true) a fun a=>cnd a (q (I 7) h) (q (I 0) h))
theorem CE(h:iY (CX Y) t0 (out v)):CP Y F.iY [t0] v:=CPo 1 (nCQ (nRQ [.slot 0])) Tryz.func47 h
def jZ(C:CC)(a c:V)(q:kQ):Prop:=let h:Hp:=.replicate 2 nnQ
 fO 0 a h fun a h=>fO 1 c h fun c h=>bfQ 0 a fun d=>b1Q h d fun d=>bfQ 0 c fun e=>b1Q h e fun e=>bIQ .eql d e fun d=>gbQ d true h (faV 1 a) fun a h=>gbQ d true h (ld1 h a) fun a h=>gbQ d true h (faV 1 c) fun c h=>gbQ d true h (ld1 h c) fun c h=>gd d true h (fun q=>clQ C h F.aw [a,c,(.fn F.pK [] [])] q) fun a h=>bpQ d a (B false) fun a=>q a h
theorem CB(h:jZ (CX Y) t0 t1 (out v)):CP Y F.jZ [t0,t1] v:=CPo 2 (nCQ (nRQ [.slot 0,.slot 1])) Tryz.func110 h
def aK(C:CC)(a c d e:V):aS:=fun l h q=>cIQ .lss (ge l 0) e (bxQ h 1 d (ge l 0) fun d=>b1Q h d fun d=>bxQ h 1 a (ge l 0) fun a=>b1Q h a fun a=>cal C.p h c [d,a] fun a h=>bnd (unV .not a) fun a=>cnd a (q .ret [B false] h) (bIQ .add (ge l 0) (I 1) fun a=>q .normal [a] h)) (q (.exit 0) [] h)
def aw(C:CC)(a c d:V)(q:kQ):Prop:=let h:Hp:=[]
 blQ a fun e=>blQ c fun f=>cIQ .neq e f (q (B false) h) (blQ a fun e=>lp (aK C c d a e) [] h [I 0] h (exK [((.exit 0),fun a h=>q (B true) h),(.ret,fun a h=>q (ge a 0) h)]))
theorem gV(h:aw (CX Y) t0 t1 t2 (out v)):CP Y F.aw [t0,t1,t2] v:=CPo 0 (eY (nCQ (aG (nCQ (.n (.l [17] [1,2,15,16] [((.exit 0),[],[]),(.ret,[6],[])] []) .o .o))))) Tryz.func146 h
def qe(C:CC)(a:V)(q:kQ):Prop:=let h:Hp:=[]
 bIQ .geq a (I (-1000000000)) fun c=>gqQ c true h a fun a h=>gbQ c true h (biI .leq a (I 1000000000)) fun a h=>bpQ c a (B false) fun a=>q a h
theorem N6(h:qe (CX Y) t0 (out v)):CP Y F.qe [t0] v:=CPo 0 .o Tryz.func114 h
def nu(C:CC)(a:V)(q:kQ):Prop:=let h:Hp:=[]
 clQ C h F.qe [a] fun a h=>bnd (unV .not a) fun a=>q a h
theorem Et(h:nu (CX Y) t0 (out v)):CP Y F.nu [t0] v:=CPo 0 .o Tryz.func113 h
def oM(C:CC)(a:V)(q:kQ):Prop:=let h:Hp:=[]
 blQ a fun c=>bIQ .gtr c (I 64) fun c=>gqQ c false h a fun a h=>gd c false h (fun q=>clQ C h F.aW [a,(.fn F.nu [] [])] q) fun a h=>bpQ c (B true) a fun a=>cnd a (q (I 4) h) (q (I 0) h)
theorem Lq(h:oM (CX Y) t0 (out v)):CP Y F.oM [t0] v:=CPo 0 .o Tryz.func81 h
def pK(C:CC)(a c:V)(q:kQ):Prop:=let h:Hp:=[]
 clQ C h F.bS [a,c] q
theorem Lp(h:pK (CX Y) t0 t1 (out v)):CP Y F.pK [t0,t1] v:=CPo 0 .o Tryz.func147 h
def bB(C:CC)(a c d:V):aS:=fun l h q=>cIQ .lss (ge l 0) d (bxQ h 2 a (ge l 0) fun a=>bnd (ldA h 2 a) fun a=>cal C.p h c [a] fun a h=>cnd a (q .ret [ge l 0] h) (bIQ .add (ge l 0) (I 1) fun a=>q .normal [a] h)) (q (.exit 0) [] h)
def aU(C:CC)(a c:V)(q:kQ):Prop:=let h:Hp:=[]
 blQ a fun d=>lp (bB C a c d) [] h [I 0] h (exK [((.exit 0),fun a h=>q (I (-1)) h),(.ret,fun a h=>q (ge a 0) h)])
theorem kA(h:aU (CX Y) t0 t1 (out v)):CP Y F.aU [t0,t1] v:=CPo 0 (aG (nCQ (aG (nCQ (.n (.l [8] [0,1,7] [((.exit 0),[],[]),(.ret,[4],[])] []) .o .o))))) Tryz.func165 h
def aI(C:CC)(a c:V)(q:kQ):Prop:=let h:Hp:=[]
 clQ C h F.aU [a,c] fun a h=>bIQ .geq a (I 0) fun a=>q a h
theorem jH(h:aI (CX Y) t0 t1 (out v)):CP Y F.aI [t0,t1] v:=CPo 0 .o Tryz.func127 h
def bU(C:CC)(a c d:V):aS:=fun l h q=>cIQ .lss (ge l 0) d (bxQ h 2 a (ge l 0) fun a=>bnd (ldA h 2 a) fun a=>cal C.p h c [a] fun a h=>cnd a (q .ret [ge l 0] h) (bIQ .add (ge l 0) (I 1) fun a=>q .normal [a] h)) (q (.exit 0) [] h)
def bv(C:CC)(a c:V)(q:kQ):Prop:=let h:Hp:=[]
 blQ a fun d=>lp (bU C a c d) [] h [I 0] h (exK [((.exit 0),fun a h=>q (I (-1)) h),(.ret,fun a h=>q (ge a 0) h)])
theorem mq(h:bv (CX Y) t0 t1 (out v)):CP Y F.bv [t0,t1] v:=CPo 0 (aG (nCQ (aG (nCQ (.n (.l [8] [0,1,7] [((.exit 0),[],[]),(.ret,[4],[])] []) .o .o))))) Tryz.func187 h
def aL(C:CC)(a c:V)(q:kQ):Prop:=let h:Hp:=[]
 clQ C h F.bv [a,c] fun a h=>bIQ .geq a (I 0) fun a=>q a h
theorem kW(h:aL (CX Y) t0 t1 (out v)):CP Y F.aL [t0,t1] v:=CPo 0 .o Tryz.func166 h
def jI(C:CC)(a:V)(q:kQ):Prop:=let h:Hp:=.replicate 1 nnQ
 alV 0 [.d (.str []),.d (.str [])] h fun c h=>clQ C h F.dM [a] fun a h=>bnd (bld [(0,1),(1,1)] [.str [],.str []] [(0,a),(1,(.d (.str [49])))]) fun a=>stD h 2 c a fun _ h=>bnd (ldA h 2 c) fun a=>q a h
theorem Gr(h:jI (CX Y) t0 (out v)):CP Y F.jI [t0] v:=CPo 1 (nCQ (nRQ [.slot 0])) Tryz.func68 h
def qP(C:CC)(b:Nat)(a c:V):aS:=fun l h q=>cIQ .lss (ge l 0) c (clQ C h F.jI [I 0] fun c h=>bxQ h 2 a (ge l 0) fun a=>stD h 2 a c fun _ h=>bIQ .add (ge l 0) (I 1) fun a=>q .normal [a] h) (q (.exit 0) [] h)
def oI(C:CC)(b:Nat)(h:Hp)(a:V)(q:kQ):Prop:=let h:Hp:=h++List.replicate 1 nnQ
 mkS (b+0) 32 [.str [],.str []] h a a fun a h=>blQ a fun c=>lp (qP C b a c) [] h [I 0] h (exK [((.exit 0),fun c h=>q a h)])
def vT(b:Nat):Ann:=(.n .x .o (.n .x (.n (.r [.slot (b+0)]) .o .o) (.n .x (.n .x .o (.n .x (.n (.l [9] [3,8] [((.exit 0),[],[3])] []) .o .o) .o)) .o)))
theorem K7(C:CC)(h:Hp)(t0:V)(q:kkQ):fnI Y C Tryz.f99 1 vT [t0] h q=oI C h.length h t0 q:=by rfl
theorem K5(b:Nat):okB Tryz.prog Tryz.f99 (vT b)=true:=by rfl
theorem K6(hh:oI (CX Y) h.length h t0 (nN h.length v h2)):CI Y F.oI [t0] h v h2:=
 CI.of (fn:=Tryz.f99) (m:=1) (a:=vT) rfl (fun _=>rfl) Tryz.func99 (K5 _) (by rw[K7];exact hh)
def qc(C:CC)(a c d e f:V):aS:=fun l h q=>cIQ .lss (ge l 0) f (bxQ h 2 e (ge l 0) fun e=>bnd (ldA h 2 e) fun e=>alV 1 [.d (.str []),.d (.str [])] h fun f h=>stD h 2 f e fun _ h=>bxQ h 2 c (ge l 0) fun e=>bnd (ldA h 2 e) fun e=>bnd (ldA h 2 f) fun f=>bxQ h 2 a d fun a=>bnd (ldA h 2 a) fun a=>clQ C h F.lR [f,a] fun a h=>clQ C h F.fL [e,a] fun a h=>bxQ h 2 c (ge l 0) fun c=>stD h 2 c a fun _ h=>bIQ .add (ge l 0) (I 1) fun a=>q .normal [a] h) (q (.exit 2) [] h)
def sv(C:CC)(a c d e:V):aS:=fun l h q=>cIQ .lss (ge l 0) e (bxQ h 1 d (ge l 0) fun d=>b1Q h d fun d=>blQ d fun e=>lp (qc C a c (ge l 0) d e) [1] h [I 0] h (exK [((.exit 2),fun a h=>bIQ .add (ge l 0) (I 1) fun a=>q .normal [a] h)])) (q (.exit 0) [] h)
def qd(C:CC)(a c d:V)(q:kQ):Prop:=let h:Hp:=.replicate 2 nnQ
 ciQ C h F.oI [a] 0 fun a h=>blQ c fun e=>lp (sv C d a c e) [1] h [I 0] h (exK [((.exit 0),fun c h=>q a h)])
def xV:Ann:=(aG (nBQ (nRQ [.inl 0]) (nCQ (aG (nCQ (.n (.l [16] [2,7,14,15] [((.exit 0),[],[7])] [1]) (eY (nCQ (nCQ (eY (nCQ (.n (.l [23] [2,7,8,14,15,16,21,22] [((.exit 2),[],[2,7,14,15,16])] [1]) (eY (nCQ (nCQ (nCQ (nRQ [.slot 1]))))) .o)))))) .o))))))
theorem NZ(C:CC)(t0:V)(t1:V)(t2:V)(q:kkQ):fnD Y C Tryz.f67 2 xV [t0,t1,t2] q=qd C t0 t1 t2 q:=by kernel_rfl
theorem NX:okB Tryz.prog Tryz.f67 xV=true:=az
theorem NY(h:qd (CX Y) t0 t1 t2 (out v)):CP Y F.qd [t0,t1,t2] v:=
 CP.of (fn:=Tryz.f67) (m:=2) (a:=xV) rfl (fun _=>rfl) Tryz.func67 NX (by rw[NZ];exact h)
def nr(C:CC)(a c d:V):aS:=fun l h q=>cIQ .lss (ge l 0) d (bxQ h 1 c (ge l 0) fun c=>b1Q h c fun c=>clQ C h F.lG [a,c] fun a h=>nzQ a (q .ret [a] h) (bIQ .add (ge l 0) (I 1) fun a=>q .normal [a] h)) (q (.exit 0) [] h)
def jV(C:CC)(a c:V)(q:kQ):Prop:=let h:Hp:=[]
 clQ C h F.fk [a] fun d h=>nzQ d (q d h) (blQ c fun d=>lp (nr C a c d) [] h [I 0] h (exK [((.exit 0),fun a h=>q (I 0) h),(.ret,fun a h=>q (ge a 0) h)]))
theorem Cr(h:jV (CX Y) t0 t1 (out v)):CP Y F.jV [t0,t1] v:=CPo 0 (eY (nCQ (aG (nCQ (.n (.l [16] [0,14,15] [((.exit 0),[],[]),(.ret,[4],[])] []) .o .o))))) Tryz.func40 h
def oJ(C:CC)(a:V)(q:kQ):Prop:=let h:Hp:=[]
 clQ C h F.aL [a,(.fn F.jm [] [])] fun c h=>cnd c (q (.tup [nSQ,I 4]) h) (q (.tup [a,I 0]) h)
theorem Gp(h:oJ (CX Y) t0 (out v)):CP Y F.oJ [t0] v:=CPo 0 .o Tryz.func129 h
def jm(C:CC)(a:V)(q:kQ):Prop:=let h:Hp:=.replicate 1 nnQ
 fO 0 a h fun a h=>bnd (ldA h 2 a) fun a=>clQ C h F.mS [a] fun a h=>bnd (unV .not a) fun a=>q a h
theorem AL(h:jm (CX Y) t0 (out v)):CP Y F.jm [t0] v:=CPo 1 (nCQ (nRQ [.slot 0])) Tryz.func167 h
def nm(C:CC)(a c d:V)(q:kQ):Prop:=let h:Hp:=[]
 clQ C h F.jV [a,c] fun e h=>nzQ e (q (.tup [nSQ,e]) h) (blQ d fun e=>blQ c fun f=>cIQ .neq e f (q (.tup [nSQ,I 5]) h) (clQ C h F.aI [d,(.fn F.iA [] [])] fun e h=>cnd e (q (.tup [nSQ,I 2]) h) (blQ a fun a=>clQ C h F.qd [a,c,d] fun a h=>clQ C h F.oJ [a] fun a h=>e2Q a fun a c=>q (.tup [a,c]) h)))
theorem El(h:nm (CX Y) t0 t1 t2 (out v)):CP Y F.nm [t0,t1,t2] v:=CPo 0 .o Tryz.func97 h
def iA(C:CC)(a:V)(q:kQ):Prop:=let h:Hp:=.replicate 1 nnQ
 fO 0 a h fun a h=>bnd (ldA h 2 a) fun a=>clQ C h F.hO [a] fun a h=>bIQ .neq a (I 0) fun a=>q a h
theorem yT(h:iA (CX Y) t0 (out v)):CP Y F.iA [t0] v:=CPo 1 (nCQ (nRQ [.slot 0])) Tryz.func128 h
def pJ(C:CC)(a c d:V)(q:kQ):Prop:=let h:Hp:=.replicate 1 nnQ
 fO 0 d h fun d h=>dR 1 [nPQ] [(0,c)] h fun c h=>bnd (ldA h 2 d) fun d=>dR 1 [.str [],.str []] [(0,d)] h fun d h=>clQ C h F.nm [a,c,d] fun a h=>e2Q a fun a c=>q (.tup [a,c]) h
theorem IU(h:pJ (CX Y) t0 t1 t2 (out v)):CP Y F.pJ [t0,t1,t2] v:=CPo 1 (nCQ (nRQ [.slot 0])) Tryz.func65 h
def pI(C:CC)(b:Nat)(h:Hp)(a:V)(q:kQ):Prop:=let h:Hp:=h++List.replicate 1 nnQ
 clQ C h F.fk [a] fun c h=>nzQ c (q (.tup [nSQ,c]) h) (blQ a fun a=>ciQ C h F.oI [a] (b+0) fun a h=>q (.tup [a,I 0]) h)
def vU(b:Nat):Ann:=(.n .x .o (.n .x .o (.n .x (.n (.r [.inl (b+0)]) .o .o) .o)))
theorem Lb(C:CC)(h:Hp)(t0:V)(q:kkQ):fnI Y C Tryz.f96 1 vU [t0] h q=pI C h.length h t0 q:=by rfl
theorem K9(b:Nat):okB Tryz.prog Tryz.f96 (vU b)=true:=by rfl
theorem La(hh:pI (CX Y) h.length h t0 (nN h.length v h2)):CI Y F.pI [t0] h v h2:=
 CI.of (fn:=Tryz.f96) (m:=1) (a:=vU) rfl (fun _=>rfl) Tryz.func96 (K9 _) (by rw[Lb];exact hh)
def oL(C:CC)(a:V)(q:kQ):Prop:=let h:Hp:=.replicate 1 nnQ
 ciQ C h F.pI [a] 0 fun a h=>e2Q a fun a c=>nzQ c (q (.tup [nSQ,c]) h) (clQ C h F.jI [I 1] fun c h=>bxQ h 2 a (I 0) fun d=>stD h 2 d c fun _ h=>q (.tup [a,I 0]) h)
theorem Gu(h:oL (CX Y) t0 (out v)):CP Y F.oL [t0] v:=CPo 1 (aG (nCQ (nRQ [.inl 0]))) Tryz.func64 h
def fB(C:CC)(a c d:V):aS:=fun l h q=>cIQ .lss (ge l 0) d (bxQ h 1 a (ge l 0) fun a=>b1Q h a fun a=>bxQ h 1 c (ge l 0) fun c=>b1Q h c fun c=>cIQ .neq a c (q .ret [B false] h) (bIQ .add (ge l 0) (I 1) fun a=>q .normal [a] h)) (q (.exit 0) [] h)
def bS(C:CC)(a c:V)(q:kQ):Prop:=let h:Hp:=[]
 blQ a fun d=>blQ c fun e=>cIQ .neq d e (q (B false) h) (blQ a fun d=>lp (fB C a c d) [] h [I 0] h (exK [((.exit 0),fun a h=>q (B true) h),(.ret,fun a h=>q (ge a 0) h)]))
theorem rS(h:bS (CX Y) t0 t1 (out v)):CP Y F.bS [t0,t1] v:=CPo 0 (eY (nCQ (aG (nCQ (.n (.l [13] [0,1,12] [((.exit 0),[],[]),(.ret,[4],[])] []) .o .o))))) Tryz.func149 h
def mG(C:CC)(a c:V):aS:=fun l h q=>cIQ .lss (ge l 0) c (bxQ h 1 a (ge l 0) fun a=>b1Q h a fun a=>bIQ .gtr a (I 1000) fun c=>gqQ c false h a fun a h=>gbQ c false h (biI .lss a (I (-1000))) fun a h=>bpQ c (B true) a fun a=>cnd a (q .ret [I 4] h) (bIQ .add (ge l 0) (I 1) fun a=>q .normal [a] h)) (q (.exit 2) [] h)
def jN(C:CC)(a c d:V):aS:=fun l h q=>cIQ .lss (ge l 0) d (bxQ h 1 c (ge l 0) fun c=>b1Q h c fun c=>blQ c fun d=>blQ a fun a=>cIQ .neq d a (q .ret [I 5] h) (blQ c fun a=>lp (mG C c a) [] h [I 0] h (exK [((.exit 2),fun a h=>bIQ .add (ge l 0) (I 1) fun a=>q .normal [a] h),(.ret,fun a h=>q .ret [ge a 0] h)]))) (q (.exit 0) [] h)
def kK(C:CC)(a c:V)(q:kQ):Prop:=let h:Hp:=[]
 clQ C h F.fk [a] fun d h=>nzQ d (q d h) (blQ c fun d=>lp (jN C a c d) [] h [I 0] h (exK [((.exit 0),fun a h=>q (I 0) h),(.ret,fun a h=>q (ge a 0) h)]))
theorem Bf(h:kK (CX Y) t0 t1 (out v)):CP Y F.kK [t0,t1] v:=CPo 0 (eY (nCQ (aG (nCQ (.n (.l [17] [0,15,16] [((.exit 0),[],[]),(.ret,[4],[])] []) (eY (nCQ (nCQ (Be (nCQ (.n (.l [28] [0,15,16,17,26,27] [((.exit 2),[],[0,15,16,17]),(.ret,[4],[])] []) .o .o)))))) .o))))) Tryz.func31 h
def nh(C:CC)(a c d:V)(q:kQ):Prop:=let h:Hp:=[]
 blQ a fun e=>dR 2 [nPQ] [(0,c),(1,d)] h fun c h=>clQ C h F.jI [I 1] fun d h=>clQ C h F.jI [I (-1)] fun f h=>dR 2 [.str [],.str []] [(0,d),(1,f)] h fun d h=>clQ C h F.qd [e,c,d] fun c h=>clQ C h F.lF [a,c] fun a h=>clQ C h F.fX [a] q
theorem Ej(h:nh (CX Y) t0 t1 t2 (out v)):CP Y F.nh [t0,t1,t2] v:=CPo 0 .o Tryz.func41 h
def nj(C:CC)(a c d:V)(q:kQ):Prop:=let h:Hp:=[]
 dR 2 [nPQ] [(0,c),(1,d)] h fun e h=>clQ C h F.jV [a,e] fun e h=>nzQ e (q (.tup [I 0,e]) h) (clQ C h F.nh [a,c,d] fun a h=>q (.tup [a,I 0]) h)
theorem Ek(h:nj (CX Y) t0 t1 t2 (out v)):CP Y F.nj [t0,t1,t2] v:=CPo 0 .o Tryz.func22 h
def eC(C:CC)(a:V)(q:kQ):Prop:=let h:Hp:=[]
 dR 3 [.int .i64 0] [(0,(I 2)),(1,(I 3)),(2,(I 5))] h fun c h=>dR 4 [.int .i64 0] [(0,(I 2)),(1,(I 3)),(2,(I 5)),(3,(I 7))] h fun d h=>dR 2 [.int .i64 0] [(0,(I 2)),(1,(I 3))] h fun e h=>dR 3 [.int .i64 0] [(0,(I 2)),(1,(I 3)),(2,(I 7))] h fun f h=>dR 3 [.int .i64 0] [(0,(I 2)),(1,(I 5)),(2,(I 7))] h fun g h=>dR 3 [.int .i64 0] [(0,(I 3)),(1,(I 5)),(2,(I 7))] h fun i h=>dR 4 [.int .i64 0] [(0,(I 2)),(1,(I 3)),(2,(I 5)),(3,(I 11))] h fun j h=>dR 1 [.int .i64 0] [(0,(I 2))] h fun k h=>dR 4 [.int .i64 0] [(0,(I 2)),(1,(I 3)),(2,(I 7)),(3,(I 13))] h fun l h=>dR 4 [.int .i64 0] [(0,(I 3)),(1,(I 5)),(2,(I 7)),(3,(I 13))] h fun m h=>dR 10 [nPQ] [(0,c),(1,d),(2,e),(3,f),(4,g),(5,i),(6,j),(7,k),(8,l),(9,m)] h fun c h=>bnd (cvI .i64 a) fun a=>blQ c fun d=>bIQ .rem a d fun a=>bxQ h 1 c a fun a=>b1Q h a fun a=>q a h
def mu:Ann:=.o
theorem vg(C:CC)(t0:V)(q:kkQ):fnD Y C Tryz.f14 0 mu [t0] q=eC C t0 q:=by kernel_rfl
theorem vd:okB Tryz.prog Tryz.f14 mu=true:=az
theorem vf(h:eC (CX Y) t0 (out v)):CP Y F.eC [t0] v:=
 CP.of (fn:=Tryz.f14) (m:=0) (a:=mu) rfl (fun _=>rfl) Tryz.func14 vd (by rw[vg];exact h)
def gQ(C:CC)(a c:V):aS:=fun l h q=>blQ a fun a=>bIQ .lss (ge l 1) a fun a=>gqQ a true h (ge l 1) fun d h=>gbQ a true h (biI .lss d (I 4)) fun d h=>bpQ a d (B false) fun a=>cnd a (bnd (ixP 4 1 c (ge l 1)) fun a=>b1Q h a fun a=>bnd (cvI .i64 a) fun a=>bIQ .rem a (I 10) fun a=>a1Q 1 (ge l 0) a h fun a h=>bIQ .add (ge l 1) (I 1) fun c=>q .normal [a,c] h) (q (.exit 0) [ge l 0] h)
def b9(C:CC)(a c:V)(q:kQ):Prop:=let h:Hp:=.replicate 2 nnQ
 fO 0 c h fun c h=>lp (gQ C a c) [] h [nSQ,I 0] h (exK [((.exit 0),fun a h=>q (ge a 0) h)])
theorem tK(h:b9 (CX Y) t0 t1 (out v)):CP Y F.b9 [t0,t1] v:=CPo 2 (nBQ (nRQ [.slot 0]) (aG (nCQ (aG (nCQ (.n (.l [5,6] [0,3] [((.exit 0),[5],[])] []) (aG (nCQ (nCQ (nRQ [.o,.slot 1])))) .o)))))) Tryz.func7 h
def gD(C:CC)(a c:V)(q:kQ):Prop:=let h:Hp:=[]
 clQ C h F.aw [a,c,(.fn F.eA [] [])] q
theorem xR(h:gD (CX Y) t0 t1 (out v)):CP Y F.gD [t0,t1] v:=CPo 0 .o Tryz.func111 h
def eA(C:CC)(a c:V)(q:kQ):Prop:=let h:Hp:=[]
 clQ C h F.bS [a,c] q
theorem u9(h:eA (CX Y) t0 t1 (out v)):CP Y F.eA [t0,t1] v:=CPo 0 .o Tryz.func148 h
def fF(C:CC)(a:V)(q:kQ):Prop:=let h:Hp:=.replicate 4 nnQ
 fO 0 a h fun a h=>bfQ 0 a fun c=>b1Q h c fun c=>clQ C h F.fk [c] fun c h=>nzQ c (q c h) (bfQ 0 a fun c=>b1Q h c fun c=>blQ c fun c=>bfQ 1 a fun d=>b1Q h d fun d=>bnd (bld [(0,1),(1,1)] [.int .i64 0,nPQ] [(0,c),(1,d)]) fun c=>alV 1 [.d (.int .i64 0),.d nPQ] h fun d h=>stD h 2 d c fun _ h=>bnd (ldA h 2 d) fun c=>clQ C h F.iY [c] fun c h=>nzQ c (q c h) (bnd (ldA h 2 d) fun c=>clQ C h F.gJ [c] fun c h=>e2Q c fun c e=>alV 2 [.d (.int .i64 0),.d nPQ] h fun f h=>stD h 2 f c fun _ h=>bIQ .neq e (I 0) fun c=>gbQ c false h (ldA h 2 f) fun e h=>gbQ c false h (ldA h 2 d) fun f h=>gd c false h (fun q=>clQ C h F.jZ [e,f] q) fun e h=>gbQ c false h (unV .not e) fun e h=>bpQ c (B true) e fun c=>cnd c (q (I 7) h) (bnd (ldA h 2 d) fun c=>clQ C h F.eE [c] fun c h=>e2Q c fun c d=>alV 3 [.d (.int .i64 0),.d nPQ] h fun e h=>stD h 2 e c fun _ h=>bIQ .neq d (I 0) fun c=>gbQ c false h (faV 1 e) fun d h=>gbQ c false h (ld1 h d) fun d h=>gbQ c false h (faV 2 a) fun a h=>gbQ c false h (ld1 h a) fun a h=>gd c false h (fun q=>clQ C h F.gD [d,a] q) fun a h=>gbQ c false h (unV .not a) fun a h=>bpQ c (B true) a fun a=>cnd a (q (I 14) h) (q (I 0) h))))
theorem xp(h:fF (CX Y) t0 (out v)):CP Y F.fF [t0] v:=CPo 4 (nBQ (nRQ [.slot 0]) (aG (nBQ (nRQ [.slot 1]) (aG (nBQ (nRQ [.o,.slot 2]) (aG (nCQ (nRQ [.o,.slot 3])))))))) Tryz.func80 h
def jG(C:CC)(a c d:V):aS:=fun l h q=>cIQ .lss (ge l 0) d (bxQ h 1 c (ge l 0) fun c=>b1Q h c fun c=>clQ C h F.oM [c] fun d h=>nzQ d (q .ret [d] h) (blQ c fun c=>bfQ 0 a fun a=>b1Q h a fun a=>blQ a fun a=>cIQ .neq c a (q .ret [I 5] h) (bIQ .add (ge l 0) (I 1) fun a=>q .normal [a] h))) (q (.exit 0) [] h)
def ic(C:CC)(a c:V)(q:kQ):Prop:=let h:Hp:=.replicate 1 nnQ
 fO 0 a h fun a h=>bnd (ldA h 3 a) fun d=>clQ C h F.fF [d] fun d h=>nzQ d (q d h) (blQ c fun d=>lp (jG C a c d) [] h [I 0] h (exK [((.exit 0),fun a h=>q (I 0) h),(.ret,fun a h=>q (ge a 0) h)]))
theorem xo(h:ic (CX Y) t0 t1 (out v)):CP Y F.ic [t0,t1] v:=CPo 1 (nBQ (nRQ [.slot 0]) (aG (nCQ (aG (nCQ (.n (.l [16] [2,14,15] [((.exit 0),[],[]),(.ret,[4],[])] []) .o .o)))))) Tryz.func51 h
def jv(C:CC)(a c d:V):aS:=fun l h q=>cIQ .lss (ge l 1) d (bxQ h 1 c (ge l 1) fun c=>b1Q h c fun c=>clQ C h F.dM [c] fun c h=>bxQ h 1 a (ge l 1) fun a=>b1Q h a fun a=>clQ C h F.dM [a] fun a h=>clQ C h F.aP [c,a] fun a h=>clQ C h F.cO [ge l 0,a] fun a h=>bIQ .add (ge l 1) (I 1) fun c=>q .normal [a,c] h) (q (.exit 2) [ge l 0] h)
def jw(C:CC)(a c d:V):aS:=fun l h q=>cIQ .lss (ge l 1) d (bxQ h 1 c (ge l 1) fun c=>b1Q h c fun c=>blQ a fun d=>lp (jv C c a d) [] h [(.d (.str [48])),I 0] h (exK [((.exit 2),fun a h=>dR 1 [.str []] [(0,(ge a 0))] h fun a h=>apV false 1 1 16 (ge l 0) a h fun a h=>bIQ .add (ge l 1) (I 1) fun c=>q .normal [a,c] h)])) (q (.exit 0) [ge l 0] h)
def gC(C:CC)(a c:V)(q:kQ):Prop:=let h:Hp:=.replicate 2 nnQ
 fO 0 a h fun a h=>bfQ 2 a fun a=>b1Q h a fun a=>blQ a fun d=>lp (jw C c a d) [] h [nSQ,I 0] h (exK [((.exit 0),fun a h=>q (ge a 0) h)])
theorem vM(h:gC (CX Y) t0 t1 (out v)):CP Y F.gC [t0,t1] v:=CPo 2 (nBQ (nRQ [.slot 0]) (aG (nCQ (aG (nCQ (.n (.l [5,14] [1,12,13] [((.exit 0),[5],[])] []) (eY (nCQ (nCQ (eY (nBQ (aG (nCQ (.n (.l [8,20] [1,5,7,12,13,14,18,19] [((.exit 2),[8],[1,5,12,13,14])] []) .o .o))) (nRQ [.o,.slot 1])))))) .o)))))) Tryz.func52 h
def jy(C:CC)(a c:V):aS:=fun l h q=>cIQ .lss (ge l 1) c (bxQ h 1 a (ge l 1) fun a=>b1Q h a fun a=>clQ C h F.kY [a] fun a h=>e2Q a fun a c=>bnd (unV .not c) fun c=>gqQ c false h a fun d h=>gbQ c false h (biI .gtr d (I 1000000000)) fun d h=>bpQ c (B true) d fun c=>gqQ c false h a fun d h=>gbQ c false h (biI .lss d (I (-1000000000))) fun d h=>bpQ c (B true) d fun c=>cnd c (q .ret [nSQ,I 4] h) (a1Q 1 (ge l 0) a h fun a h=>bIQ .add (ge l 1) (I 1) fun c=>q .normal [a,c] h)) (q (.exit 0) [ge l 0] h)
def gE(C:CC)(a c:V)(q:kQ):Prop:=let h:Hp:=.replicate 2 nnQ
 fO 0 a h fun a h=>bnd (ldA h 3 a) fun d=>dR 1 [nPQ] [(0,c)] h fun e h=>clQ C h F.ic [d,e] fun d h=>nzQ d (q (.tup [nSQ,d]) h) (bnd (ldA h 3 a) fun a=>clQ C h F.gC [a,c] fun a h=>blQ a fun c=>lp (jy C a c) [] h [nSQ,I 0] h (exK [((.exit 0),fun a h=>q (.tup [ge a 0,I 0]) h),(.ret,fun a h=>q (.tup [ge a 0,ge a 1]) h)]))
theorem vN(h:gE (CX Y) t0 t1 (out v)):CP Y F.gE [t0,t1] v:=CPo 2 (nBQ (nRQ [.slot 0]) (eY (nCQ (aG (nCQ (.n (.l [7,23] [21,22] [((.exit 0),[7],[]),(.ret,[4,5],[])] []) (eY (nCQ (nCQ (Be (nRQ [.o,.slot 1]))))) .o)))))) Tryz.func32 h
def fI(C:CC)(a:V)(q:kQ):Prop:=let h:Hp:=.replicate 1 nnQ
 fO 0 a h fun a h=>bfQ 1 a fun a=>b1Q h a fun a=>blQ a fun a=>bIQ .leq a (I 3) fun a=>q a h
theorem xu(h:fI (CX Y) t0 (out v)):CP Y F.fI [t0] v:=CPo 1 (nCQ (nRQ [.slot 0])) Tryz.func5 h
def gH(C:CC)(a c d:V)(q:kQ):Prop:=let h:Hp:=.replicate 4 nnQ
 alV 0 [.d nPQ,.d nPQ,.d nPQ] h fun e h=>clQ C h F.fk [a] fun f h=>nzQ f (bnd (bld [(0,1),(1,1),(2,1)] [nPQ,nPQ,nPQ] []) fun a=>stD h 3 e a fun _ h=>bnd (ldA h 3 e) fun a=>q (.tup [a,f]) h) (blQ a fun f=>clQ C h F.pQ [f,c] fun c h=>e2Q c fun c f=>alV 1 [.d (.int .i64 0),.d nPQ] h fun g h=>stD h 2 g c fun _ h=>nzQ f (bnd (bld [(0,1),(1,1),(2,1)] [nPQ,nPQ,nPQ] []) fun a=>stD h 3 e a fun _ h=>bnd (ldA h 3 e) fun a=>q (.tup [a,f]) h) (bnd (ldA h 2 g) fun c=>clQ C h F.gJ [c] fun c h=>e2Q c fun c f=>alV 2 [.d (.int .i64 0),.d nPQ] h fun i h=>stD h 2 i c fun _ h=>bnd (ldA h 2 g) fun c=>clQ C h F.eE [c] fun c h=>e2Q c fun c g=>alV 3 [.d (.int .i64 0),.d nPQ] h fun j h=>stD h 2 j c fun _ h=>bIQ .neq f (I 0) fun c=>gqQ c false h g fun f h=>gbQ c false h (biI .neq f (I 0)) fun f h=>bpQ c (B true) f fun c=>cnd c (bnd (bld [(0,1),(1,1),(2,1)] [nPQ,nPQ,nPQ] []) fun a=>stD h 3 e a fun _ h=>bnd (ldA h 3 e) fun a=>q (.tup [a,I 4]) h) (jn (fun c h=>bfQ 1 i fun c=>b1Q h c fun c=>bfQ 1 j fun d=>b1Q h d fun d=>bnd (bld [(0,1),(1,1),(2,1)] [nPQ,nPQ,nPQ] [(0,a),(1,c),(2,d)]) fun a=>stD h 3 e a fun _ h=>bnd (ldA h 3 e) fun a=>q (.tup [a,I 0]) h) fun a=>cnd d (bnd (ldA h 2 j) fun c=>bnd (ldA h 2 i) fun d=>stD h 2 i c fun _ h=>stD h 2 j d fun _ h=>a [] h) (a [] h))))
theorem vX(h:gH (CX Y) t0 t1 t2 (out v)):CP Y F.gH [t0,t1,t2] v:=CPo 4 (nBQ (nRQ [.slot 0]) (aG (nBQ (nRQ [.o,.slot 1]) (aG (nBQ (nRQ [.o,.slot 2]) (nBQ (nRQ [.o,.slot 3]) (aG (nCQ (aG (nJQ [] [0,6,11,12])))))))))) Tryz.func15 h
def jK(C:CC)(a c:V):aS:=fun l h q=>bfQ 1 a fun d=>b1Q h d fun d=>blQ d fun d=>bIQ .lss (ge l 1) d fun d=>gqQ d true h (ge l 1) fun e h=>gbQ d true h (biI .lss e (I 3)) fun e h=>bpQ d e (B false) fun d=>cnd d (bfQ 1 a fun a=>b1Q h a fun a=>bxQ h 4 a (ge l 1) fun a=>bnd (ldA h 4 a) fun a=>clQ C h F.b9 [c,a] fun a h=>dR 1 [nPQ] [(0,a)] h fun a h=>apV false 2 1 24 (ge l 0) a h fun a h=>bIQ .add (ge l 1) (I 1) fun c=>q .normal [a,c] h) (q (.exit 0) [ge l 0] h)
def ie(C:CC)(a:V)(q:kQ):Prop:=let h:Hp:=.replicate 4 nnQ
 fO 0 a h fun a h=>alV 1 [.d nPQ,.d nPQ,.d nPQ] h fun c h=>bfQ 0 a fun d=>b1Q h d fun d=>clQ C h F.eC [d] fun d h=>lp (jK C a d) [] h [nSQ,I 0] h (exK [((.exit 0),fun e h=>bfQ 2 a fun a=>b1Q h a fun a=>clQ C h F.gH [d,ge e 0,a] fun a h=>e2Q a fun a d=>alV 3 [.d nPQ,.d nPQ,.d nPQ] h fun d h=>stD h 3 d a fun _ h=>bnd (ldA h 3 d) fun a=>stD h 3 c a fun _ h=>bnd (ldA h 3 c) fun a=>q a h)])
theorem xt(h:ie (CX Y) t0 (out v)):CP Y F.ie [t0] v:=CPo 4 (nBQ (nRQ [.slot 0,.slot 1]) (eY (nBQ (aG (nCQ (.n (.l [4,5] [1,2,3] [((.exit 0),[4],[1,2,3])] []) (aG (nCQ (nCQ (nRQ [.o,.o,.slot 2])))) .o))) (nCQ (nRQ [.o,.slot 3]))))) Tryz.func6 h
def cu(C:CC)(a c:V)(q:kQ):Prop:=let h:Hp:=.replicate 2 nnQ
 alV 0 [.d (.str []),.d (.str [])] h fun d h=>clQ C h F.fu [a,c] fun a h=>e2Q a fun a c=>alV 1 [.d (.str []),.d (.str [])] h fun c h=>stD h 2 c a fun _ h=>bnd (ldA h 2 c) fun a=>stD h 2 d a fun _ h=>bnd (ldA h 2 d) fun a=>q a h
theorem xq(h:cu (CX Y) t0 t1 (out v)):CP Y F.cu [t0,t1] v:=CPo 2 (nBQ (nRQ [.slot 0]) (nCQ (nRQ [.o,.slot 1]))) Tryz.func10 h
def mh(C:CC)(a:V)(q:kQ):Prop:=let h:Hp:=.replicate 1 nnQ
 fO 0 a h fun a h=>bnd (ldA h 3 a) fun c=>clQ C h F.fF [c] fun c h=>nzQ c (q c h) (bfQ 2 a fun c=>b1Q h c fun c=>blQ c fun c=>cIQ .neq c (I 2) (q (I 5) h) (bfQ 2 a fun a=>b1Q h a fun a=>bxQ h 1 a (I 0) fun a=>b1Q h a fun a=>bxQ h 1 a (I 0) fun a=>b1Q h a fun a=>cIQ .eql a (I 0) (q (I 26) h) (q (I 0) h)))
theorem CH(h:mh (CX Y) t0 (out v)):CP Y F.mh [t0] v:=CPo 1 (nCQ (nRQ [.slot 0])) Tryz.func49 h
def iF(C:CC)(a:V)(q:kQ):Prop:=let h:Hp:=.replicate 2 nnQ
 uA 0 0 [.int .i64 0] [] h fun c h=>apV false 1 1 8 c a h q
theorem zH(h:iF (CX Y) t0 (out v)):CP Y F.iF [t0] v:=CPo 2 (aG (nCQ (nRQ [.slot 0,.slot 1]))) Tryz.func50 h
def jQ(C:CC)(a:V)(q:kQ):Prop:=let h:Hp:=.replicate 2 nnQ
 fO 0 a h fun a h=>alV 1 [.d (.int .i64 0),.d nPQ,.d nPQ] h fun c h=>bnd (ldA h 3 a) fun d=>clQ C h F.mh [d] fun d h=>nzQ d (bnd (bld [(0,1),(1,1),(2,1)] [.int .i64 0,nPQ,nPQ] []) fun a=>stD h 3 c a fun _ h=>bnd (ldA h 3 c) fun a=>q (.tup [a,d]) h) (bfQ 2 a fun d=>b1Q h d fun d=>bxQ h 1 d (I 0) fun d=>b1Q h d fun d=>bxQ h 1 d (I 0) fun d=>b1Q h d fun d=>bfQ 2 a fun e=>b1Q h e fun e=>bxQ h 1 e (I 0) fun e=>b1Q h e fun e=>clQ C h F.iF [e] fun e h=>bfQ 2 a fun a=>b1Q h a fun a=>bxQ h 1 a (I 1) fun a=>b1Q h a fun a=>clQ C h F.iF [a] fun a h=>bnd (bld [(0,1),(1,1),(2,1)] [.int .i64 0,nPQ,nPQ] [(0,d),(1,e),(2,a)]) fun a=>stD h 3 c a fun _ h=>bnd (ldA h 3 c) fun a=>q (.tup [a,I 0]) h)
theorem wE(h:jQ (CX Y) t0 (out v)):CP Y F.jQ [t0] v:=CPo 2 (nCQ (nRQ [.slot 0,.slot 1])) Tryz.func30 h
def nD(C:CC)(a:V)(q:kQ):Prop:=let h:Hp:=.replicate 2 nnQ
 fO 0 a h fun a h=>alV 1 [.d (.str []),.d (.str [])] h fun c h=>bfQ 0 a fun d=>b1Q h d fun d=>clQ C h F.ma [d] fun d h=>bfQ 1 a fun a=>b1Q h a fun a=>bnd (bld [(0,1),(1,1)] [.str [],.str []] [(0,d),(1,a)]) fun a=>stD h 2 c a fun _ h=>bnd (ldA h 2 c) fun a=>q a h
theorem Fu(h:nD (CX Y) t0 (out v)):CP Y F.nD [t0] v:=CPo 2 (nCQ (nRQ [.slot 0,.slot 1])) Tryz.func55 h
def nB(C:CC)(a c:V)(q:kQ):Prop:=let h:Hp:=.replicate 3 nnQ
 fO 0 a h fun a h=>fO 1 c h fun c h=>alV 2 [.d (.str []),.d (.str [])] h fun d h=>bnd (ldA h 2 a) fun a=>bnd (ldA h 2 c) fun c=>clQ C h F.nD [c] fun c h=>clQ C h F.fL [a,c] fun a h=>stD h 2 d a fun _ h=>bnd (ldA h 2 d) fun a=>q a h
theorem Fs(h:nB (CX Y) t0 t1 (out v)):CP Y F.nB [t0,t1] v:=CPo 3 (nCQ (nRQ [.slot 0,.slot 1,.slot 2])) Tryz.func33 h
def fV(C:CC)(a c:V)(q:kQ):Prop:=let h:Hp:=.replicate 1 nnQ
 fO 0 c h fun c h=>clQ C h F.oL [a] fun d h=>e2Q d fun d e=>nzQ e (q (.tup [nSQ,e]) h) (bnd (ldA h 2 c) fun c=>clQ C h F.pJ [a,d,c] fun a h=>e2Q a fun a c=>q (.tup [a,c]) h)
theorem yK(h:fV (CX Y) t0 t1 (out v)):CP Y F.fV [t0,t1] v:=CPo 1 (nCQ (nRQ [.slot 0])) Tryz.func39 h
def jF(C:CC)(a c d:V):aS:=fun l h q=>cIQ .lss (ge l 1) d (bxQ h 1 c (ge l 1) fun c=>b1Q h c fun c=>bnd (ldA h 3 a) fun a=>clQ C h F.gE [a,c] fun a h=>e2Q a fun a c=>nzQ c (q .ret [nSQ,I 0,c] h) (dR 1 [nPQ] [(0,a)] h fun a h=>apV false 2 1 24 (ge l 0) a h fun a h=>bIQ .add (ge l 1) (I 1) fun c=>q .normal [a,c] h)) (q (.exit 1) [ge l 0] h)
def cT(C:CC)(a c:V)(q:kQ):Prop:=let h:Hp:=.replicate 3 nnQ
 fO 0 a h fun a h=>bnd (ldA h 3 a) fun d=>clQ C h F.jQ [d] fun d h=>e2Q d fun d e=>alV 1 [.d (.int .i64 0),.d nPQ,.d nPQ] h fun f h=>stD h 3 f d fun _ h=>nzQ e (q (.tup [nSQ,I 0,e]) h) (blQ c fun d=>cIQ .gtr d (I 60) (q (.tup [nSQ,I 0,I 4]) h) (bfQ 0 a fun d=>b1Q h d fun d=>clQ C h F.kK [d,c] fun d h=>nzQ d (q (.tup [nSQ,I 0,d]) h) (blQ c fun d=>lp (jF C a c d) [] h [nSQ,I 0] h (exK [((.exit 1),fun a h=>bfQ 0 f fun c=>b1Q h c fun c=>q (.tup [ge a 0,c,I 0]) h),(.ret,fun a h=>q (.tup [ge a 0,ge a 1,ge a 2]) h)]))))
theorem qH(h:cT (CX Y) t0 t1 (out v)):CP Y F.cT [t0,t1] v:=CPo 3 (nBQ (nRQ [.slot 0]) (nBQ (nRQ [.o,.slot 1]) (eY (nCQ (aG (nCQ (.n (.l [4,35] [2,7,33,34] [((.exit 1),[4],[7]),(.ret,[4,5,6],[])] []) (eY (nCQ (nCQ (Be (nRQ [.o,.slot 2]))))) .o))))))) Tryz.func16 h
def ky(C:CC)(a c d e f:V):aS:=fun l h q=>cIQ .lss (ge l 1) f (bxQ h 1 e (ge l 1) fun e=>b1Q h e fun e=>clQ C h F.fu [e,I 1] fun e h=>e2Q e fun e f=>alV 2 [.d (.str []),.d (.str [])] h fun f h=>stD h 2 f e fun _ h=>bIQ .eql (ge l 1) (I 0) fun e=>jn (fun a h=>bnd (ldA h 2 f) fun a=>bnd (ldA h 2 d) fun c=>clQ C h F.jR [a,c] fun a h=>e2Q a fun a c=>stD h 2 f a fun _ h=>bnd (ldA h 2 f) fun a=>dR 1 [.str [],.str []] [(0,a)] h fun a h=>apV false 4 2 32 (ge l 0) a h fun a h=>bIQ .add (ge l 1) (I 1) fun c=>q .normal [a,c] h) fun d=>cnd e (bxQ h 1 a (I 0) fun a=>b1Q h a fun a=>clQ C h F.fu [a,c] fun a h=>e2Q a fun a c=>alV 3 [.d (.str []),.d (.str [])] h fun c h=>stD h 2 c a fun _ h=>bnd (ldA h 2 f) fun a=>bnd (ldA h 2 c) fun c=>clQ C h F.nB [a,c] fun a h=>stD h 2 f a fun _ h=>d [] h) (d [] h)) (q (.exit 0) [ge l 0] h)
def gN(C:CC)(a c d e:V)(q:kQ):Prop:=let h:Hp:=.replicate 5 nnQ
 bxQ h 1 d (I 1) fun f=>b1Q h f fun f=>cIQ .eql f (I 0) (q (.tup [nSQ,B false,I 0]) h) (bxQ h 1 d (I 1) fun f=>b1Q h f fun f=>clQ C h F.fu [f,I 1] fun f h=>e2Q f fun f g=>alV 0 [.d (.str []),.d (.str [])] h fun g h=>stD h 2 g f fun _ h=>uA 1 0 [.str [],.str []] [] h fun f h=>blQ c fun i=>lp (ky C d e g c i) [2,3] h [f,I 0] h (exK [((.exit 0),fun c h=>clQ C h F.oo [a,ge c 0] fun a h=>nzQ a (q (.tup [nSQ,B false,I 4]) h) (q (.tup [ge c 0,B true,I 0]) h))]))
theorem uW(h:gN (CX Y) t0 t1 t2 t3 (out v)):CP Y F.gN [t0,t1,t2,t3] v:=CPo 5 (eY (nBQ (nRQ [.o,.slot 0]) (nBQ (nRQ [.slot 1]) (nCQ (aG (nCQ (.n (.l [13,34] [0,2,3,11,32,33] [((.exit 0),[13],[0])] [2,3]) (eY (nCQ (nCQ (aG (nBQ (nRQ [.o,.slot 2]) (nBQ (aG (.n (.j [] [0,2,3,11,13,16,32,33,34]) (nCQ (nRQ [.o,.slot 3])) .o)) (aG (nRQ [.o,.slot 4])))))))) .o))))))) Tryz.func17 h
def aQ(C:CC)(b:Nat)(h:Hp)(a:V)(q:kQ):Prop:=let h:Hp:=h++List.replicate 2 nnQ
 yd h .eql a nSQ fun c=>cnd c (q nSQ h) (uA (b+0) 0 [.str [],.str []] [] h fun c h=>apV false (b+1) 2 32 c a h q)
def eB(b:Nat):Ann:=(.n .x .o (.n .x .o (.n .x (.n (.r [.slot (b+0),.slot (b+1)]) .o .o) .o)))
theorem nM(C:CC)(h:Hp)(t0:V)(q:kkQ):fnI Y C Tryz.f24 2 eB [t0] h q=aQ C h.length h t0 q:=by rfl
theorem nK(b:Nat):okB Tryz.prog Tryz.f24 (eB b)=true:=by rfl
theorem nL(hh:aQ (CX Y) h.length h t0 (nN h.length v h2)):CI Y F.aQ [t0] h v h2:=
 CI.of (fn:=Tryz.f24) (m:=2) (a:=eB) rfl (fun _=>rfl) Tryz.func24 (nK _) (by rw[nM];exact hh)
def jJ(C:CC)(a c:V):aS:=fun l h q=>blQ a fun d=>cIQ .lss (ge l 0) d (bxQ h 2 a (ge l 0) fun a=>bnd (ldA h 2 a) fun a=>bxQ h 2 c (ge l 0) fun c=>bnd (ldA h 2 c) fun c=>bnd (biA [.str [],.str []] .neq a c) fun a=>cnd a (q .ret [B false] h) (bIQ .add (ge l 0) (I 1) fun a=>q .normal [a] h)) (q (.exit 0) [] h)
def cx(C:CC)(a c:V)(q:kQ):Prop:=let h:Hp:=[]
 blQ a fun d=>blQ c fun e=>cIQ .neq d e (q (B false) h) (lp (jJ C a c) [] h [I 0] h (exK [((.exit 0),fun a h=>q (B true) h),(.ret,fun a h=>q (ge a 0) h)]))
theorem xr(h:cx (CX Y) t0 t1 (out v)):CP Y F.cx [t0,t1] v:=CPo 0 (eY (nCQ (aG (nCQ (.n (.l [5] [0,1] [((.exit 0),[],[]),(.ret,[4],[])] []) .o .o))))) Tryz.func9 h
def eW(C:CC)(b:Nat)(h:Hp)(a c d e:V)(q:kQ):Prop:=let h:Hp:=h++List.replicate 3 nnQ
 cIQ .eql d (I 0) (bfQ 0 a fun d=>bfQ 6 d fun d=>b1Q h d fun d=>gqQ d false h c fun c h=>gbQ d false h (biI .lss c (I 0)) fun c h=>bpQ d (B true) c fun c=>bfQ 0 a fun a=>bfQ 6 a fun a=>stD h 1 a c fun _ h=>q (.tup []) h) (bnd (unV .neg c) fun c=>clQ C h F.fu [c,e] fun c h=>e2Q c fun c e=>alV (b+0) [.d (.str []),.d (.str [])] h fun e h=>stD h 2 e c fun _ h=>clQ C h F.fu [d,I 1] fun c h=>e2Q c fun c f=>alV (b+1) [.d (.str []),.d (.str [])] h fun f h=>stD h 2 f c fun _ h=>bnd (ldA h 2 e) fun c=>bnd (ldA h 2 f) fun e=>clQ C h F.jR [c,e] fun c h=>e2Q c fun c e=>alV (b+2) [.d (.str []),.d (.str [])] h fun e h=>stD h 2 e c fun _ h=>jn (fun a h=>q (.tup []) h) fun c=>bIQ .gtr d (I 0) fun f=>gqQ f true h a fun g h=>gbQ f true h (faV 0 g) fun g h=>gbQ f true h (faV 4 g) fun g h=>gbQ f true h (ld1 h g) fun g h=>gbQ f true h (unV .not g) fun g h=>gqQ f true h g fun g h=>gbQ g false h (ldA h 2 e) fun i h=>gqQ g false h a fun j h=>gbQ g false h (faV 0 j) fun j h=>gbQ g false h (faV 0 j) fun j h=>gbQ g false h (ldA h 2 j) fun j h=>gd g false h (fun q=>clQ C h F.fv [i,j] q) fun i h=>gbQ g false h (biI .gtr i (I 0)) fun i h=>gbQ f true h (mV g (B true) i) fun g h=>bpQ f g (B false) fun f=>jn (fun a h=>c [] h) fun c=>cnd f (bnd (ldA h 2 e) fun d=>bfQ 0 a fun e=>bfQ 0 e fun e=>stD h 2 e d fun _ h=>bfQ 0 a fun a=>bfQ 4 a fun a=>stD h 1 a (B true) fun _ h=>c [] h) (bIQ .lss d (I 0) fun d=>gqQ d true h a fun f h=>gbQ d true h (faV 0 f) fun f h=>gbQ d true h (faV 5 f) fun f h=>gbQ d true h (ld1 h f) fun f h=>gbQ d true h (unV .not f) fun f h=>gqQ d true h f fun f h=>gbQ f false h (ldA h 2 e) fun g h=>gqQ f false h a fun i h=>gbQ f false h (faV 0 i) fun i h=>gbQ f false h (faV 2 i) fun i h=>gbQ f false h (ldA h 2 i) fun i h=>gd f false h (fun q=>clQ C h F.fv [g,i] q) fun g h=>gbQ f false h (biI .lss g (I 0)) fun g h=>gbQ d true h (mV f (B true) g) fun f h=>bpQ d f (B false) fun d=>jn (fun a h=>c [] h) fun c=>cnd d (bnd (ldA h 2 e) fun d=>bfQ 0 a fun e=>bfQ 2 e fun e=>stD h 2 e d fun _ h=>bfQ 0 a fun a=>bfQ 5 a fun a=>stD h 1 a (B true) fun _ h=>c [] h) (c [] h)))
def mP(b:Nat):Ann:=(.n .x .o (.n .x (.n (.r [.o,.slot (b+0)]) .o .o) (.n .x (.n (.r [.o,.slot (b+1)]) .o .o) (.n .x (.n (.r [.o,.slot (b+2)]) .o .o) (.n (.j [] []) (.n .x .o (.n (.j [] []) .o (.n .x .o (.n (.j [] []) .o .o)))) .o)))))
theorem vL(C:CC)(h:Hp)(t0:V)(t1:V)(t2:V)(t3:V)(q:kkQ):fnI Y C Tryz.f19 3 mP [t0,t1,t2,t3] h q=eW C h.length h t0 t1 t2 t3 q:=by rfl
theorem vJ(b:Nat):okB Tryz.prog Tryz.f19 (mP b)=true:=by rfl
theorem vK(hh:eW (CX Y) h.length h t0 t1 t2 t3 (nN h.length v h2)):CI Y F.eW [t0,t1,t2,t3] h v h2:=
 CI.of (fn:=Tryz.f19) (m:=3) (a:=mP) rfl (fun _=>rfl) Tryz.func19 (vJ _) (by rw[vL];exact hh)
def jd(C:CC)(a c:V)(q:kQ):Prop:=let h:Hp:=.replicate 2 nnQ
 alV 0 [.d nPQ,.d nPQ,.d (.bool false),.d (.bool false),.d (.bool false)] h fun d h=>bfQ 0 a fun e=>bfQ 6 e fun e=>b1Q h e fun e=>gqQ e false h a fun f h=>gbQ e false h (faV 0 f) fun f h=>gbQ e false h (faV 4 f) fun f h=>gbQ e false h (ld1 h f) fun f h=>gqQ e false h f fun f h=>gqQ f true h a fun g h=>gbQ f true h (faV 0 g) fun g h=>gbQ f true h (faV 5 g) fun g h=>gbQ f true h (ld1 h g) fun g h=>gbQ e false h (mV f g (B false)) fun f h=>gqQ e false h f fun f h=>gqQ f true h a fun g h=>gbQ f true h (faV 0 g) fun g h=>gbQ f true h (faV 0 g) fun g h=>gbQ f true h (ldA h 2 g) fun g h=>gqQ f true h a fun i h=>gbQ f true h (faV 0 i) fun i h=>gbQ f true h (faV 2 i) fun i h=>gbQ f true h (ldA h 2 i) fun i h=>gd f true h (fun q=>clQ C h F.fv [g,i] q) fun g h=>gbQ f true h (biI .gtr g (I 0)) fun g h=>gbQ e false h (mV f g (B false)) fun f h=>bpQ e (B true) f fun e=>cnd e (bnd (bld [(0,1),(1,1),(2,1),(3,1),(4,1)] [nPQ,nPQ,.bool false,.bool false,.bool false] [(4,(B true))]) fun a=>stD h 5 d a fun _ h=>bnd (ldA h 5 d) fun a=>q (.tup [a,I 0]) h) (bfQ 0 a fun e=>bfQ 4 e fun e=>b1Q h e fun e=>bfQ 0 a fun f=>bfQ 5 f fun f=>b1Q h f fun f=>bnd (bld [(0,1),(1,1),(2,1),(3,1),(4,1)] [nPQ,nPQ,.bool false,.bool false,.bool false] [(2,e),(3,f)]) fun e=>alV 1 [.d nPQ,.d nPQ,.d (.bool false),.d (.bool false),.d (.bool false)] h fun f h=>stD h 5 f e fun _ h=>bfQ 0 a fun e=>bfQ 4 e fun e=>b1Q h e fun e=>jn (fun e h=>bfQ 0 a fun e=>bfQ 5 e fun e=>b1Q h e fun e=>jn (fun a h=>bnd (ldA h 5 f) fun a=>stD h 5 d a fun _ h=>bnd (ldA h 5 d) fun a=>q (.tup [a,I 0]) h) fun g=>cnd e (bfQ 0 a fun a=>bfQ 2 a fun a=>bnd (ldA h 2 a) fun a=>clQ C h F.fV [c,a] fun a h=>e2Q a fun a c=>bfQ 1 f fun e=>stD h 1 e a fun _ h=>nzQ c (bnd (bld [(0,1),(1,1),(2,1),(3,1),(4,1)] [nPQ,nPQ,.bool false,.bool false,.bool false] []) fun a=>stD h 5 d a fun _ h=>bnd (ldA h 5 d) fun a=>q (.tup [a,c]) h) (g [] h)) (g [] h)) fun g=>cnd e (bfQ 0 a fun a=>bfQ 0 a fun a=>bnd (ldA h 2 a) fun a=>clQ C h F.fV [c,a] fun a h=>e2Q a fun a c=>bfQ 0 f fun e=>stD h 1 e a fun _ h=>nzQ c (bnd (bld [(0,1),(1,1),(2,1),(3,1),(4,1)] [nPQ,nPQ,.bool false,.bool false,.bool false] []) fun a=>stD h 5 d a fun _ h=>bnd (ldA h 5 d) fun a=>q (.tup [a,c]) h) (g [] h)) (g [] h))
theorem xP(h:jd (CX Y) t0 t1 (out v)):CP Y F.jd [t0,t1] v:=CPo 2 (nBQ (nRQ [.slot 0]) (aG (nBQ (nRQ [.slot 1]) (aG (nBQ (aG (nJQ [] [0,1,4,6])) (nCQ (aG (nJQ [] [4,6])))))))) Tryz.func20 h
def lu(C:CC)(a c d:V):aS:=fun l h q=>blQ a fun e=>cIQ .lss (ge l 0) e (bxQ h 1 a (ge l 0) fun e=>b1Q h e fun e=>bxQ h 1 e (I 0) fun e=>b1Q h e fun e=>bIQ .sub (ge l 0) (I 1) fun f=>bxQ h 1 a f fun f=>b1Q h f fun f=>bxQ h 1 f (I 0) fun f=>b1Q h f fun f=>bIQ .sub e f fun e=>bxQ h 1 a (ge l 0) fun f=>b1Q h f fun f=>bxQ h 1 f (I 1) fun f=>b1Q h f fun f=>bIQ .sub (ge l 0) (I 1) fun g=>bxQ h 1 a g fun a=>b1Q h a fun a=>bxQ h 1 a (I 1) fun a=>b1Q h a fun a=>bIQ .sub f a fun a=>ciQ C h F.eW [d,e,a,c] 3 fun a h=>bIQ .add (ge l 0) (I 1) fun a=>q .normal [a] h) (q (.exit 0) [] h)
def fW(C:CC)(a c:V)(q:kQ):Prop:=let h:Hp:=.replicate 4 nnQ
 fO 0 a h fun a h=>alV 1 [.d nPQ,.d nPQ,.d (.bool false),.d (.bool false),.d (.bool false)] h fun d h=>bnd (ldA h 3 a) fun e=>clQ C h F.cT [e,c] fun c h=>e3Q c fun c e f=>nzQ f (bnd (bld [(0,1),(1,1),(2,1),(3,1),(4,1)] [nPQ,nPQ,.bool false,.bool false,.bool false] []) fun a=>stD h 5 d a fun _ h=>bnd (ldA h 5 d) fun a=>q (.tup [a,f]) h) (alV 2 [.d (.str []),.d (.str []),.d (.str []),.d (.str []),.d (.bool false),.d (.bool false),.d (.bool false)] h fun f h=>lp (lu C c e f) [3] h [I 1] h (exK [((.exit 0),fun c h=>bfQ 0 a fun a=>b1Q h a fun a=>clQ C h F.jd [f,a] fun a h=>e2Q a fun a c=>stD h 5 d a fun _ h=>bnd (ldA h 5 d) fun a=>q (.tup [a,c]) h)]))
theorem yL(h:fW (CX Y) t0 t1 (out v)):CP Y F.fW [t0,t1] v:=CPo 4 (nBQ (nRQ [.slot 0,.slot 1]) (eY (nBQ (nRQ [.slot 2]) (nCQ (aG (nCQ (.n (.l [10] [2,4,6,7,9] [((.exit 0),[],[2,4,9])] [3]) (aG (nCQ (nCQ (nRQ [.inl 3])))) .o))))))) Tryz.func11 h
def cU(C:CC)(a c:V):aS:=fun l h q=>blQ a fun d=>cIQ .lss (ge l 1) d (jn (fun a h=>bIQ .add (ge l 1) (I 1) fun c=>q .normal [ge a 0,c] h) fun d=>bxQ h 1 a (ge l 1) fun e=>b1Q h e fun e=>cal C.p h c [e,ge l 0] fun c h=>bIQ .lss c (I 0) fun c=>jn (fun a h=>d [ge a 0] h) fun d=>cnd c (bxQ h 1 a (ge l 1) fun a=>b1Q h a fun a=>d [a] h) (d [ge l 0] h)) (q (.exit 0) [ge l 0] h)
def bF(C:CC)(a c:V)(q:kQ):Prop:=let h:Hp:=[]
 blQ a fun d=>bIQ .lss d (I 1) fun d=>jn (fun d h=>bxQ h 1 a (I 0) fun d=>b1Q h d fun d=>lp (cU C a c) [] h [d,I 1] h (exK [((.exit 0),fun a h=>q (ge a 0) h)])) fun a=>cnd d (False /- makeInterface -/) (a [] h)
theorem oi(h:bF (CX Y) t0 t1 (out v)):CP Y F.bF [t0,t1] v:=CPo 0 (aG (nBQ (aG (nJQ [] [0,1])) (aG (nCQ (aG (nCQ (.n (.l [5,6] [0,1] [((.exit 0),[5],[])] []) (aG (nCQ (.n (.j [5] [0,1,6]) (aG (nJQ [5] [0,1,6])) .o))) .o))))))) Tryz.func23 h
def cV(C:CC)(a c:V):aS:=fun l h q=>blQ a fun d=>cIQ .lss (ge l 1) d (jn (fun a h=>bIQ .add (ge l 1) (I 1) fun c=>q .normal [ge a 0,c] h) fun d=>bxQ h 1 a (ge l 1) fun e=>b1Q h e fun e=>cal C.p h c [e,ge l 0] fun c h=>bIQ .gtr c (I 0) fun c=>jn (fun a h=>d [ge a 0] h) fun d=>cnd c (bxQ h 1 a (ge l 1) fun a=>b1Q h a fun a=>d [a] h) (d [ge l 0] h)) (q (.exit 0) [ge l 0] h)
def bG(C:CC)(a c:V)(q:kQ):Prop:=let h:Hp:=[]
 blQ a fun d=>bIQ .lss d (I 1) fun d=>jn (fun d h=>bxQ h 1 a (I 0) fun d=>b1Q h d fun d=>lp (cV C a c) [] h [d,I 1] h (exK [((.exit 0),fun a h=>q (ge a 0) h)])) fun a=>cnd d (False /- makeInterface -/) (a [] h)
theorem oj(h:bG (CX Y) t0 t1 (out v)):CP Y F.bG [t0,t1] v:=CPo 0 (aG (nBQ (aG (nJQ [] [0,1])) (aG (nCQ (aG (nCQ (.n (.l [5,6] [0,1] [((.exit 0),[5],[])] []) (aG (nCQ (.n (.j [5] [0,1,6]) (aG (nJQ [5] [0,1,6])) .o))) .o))))))) Tryz.func25 h
def kv(C:CC)(a c d e f g:V):aS:=fun l h q=>cIQ .lss (ge l 1) g (jn (fun a h=>bIQ .add (ge l 1) (I 1) fun c=>q .normal [ge a 0,c] h) fun g=>bxQ h 1 f (ge l 1) fun f=>b1Q h f fun f=>bfQ 0 a fun a=>b1Q h a fun a=>bxQ h 1 d (ge l 1) fun d=>b1Q h d fun d=>clQ C h F.gN [a,f,d,e] fun a h=>e3Q a fun a d e=>nzQ e (bnd (bld [(0,1),(1,1),(2,1),(3,1),(4,1)] [nPQ,nPQ,.bool false,.bool false,.bool false] []) fun a=>stD h 5 c a fun _ h=>q .ret [e] h) (jn (fun a h=>g [ge a 0] h) fun c=>cnd d (dR 1 [nPQ] [(0,a)] h fun a h=>apV false 2 1 24 (ge l 0) a h fun a h=>c [a] h) (c [ge l 0] h))) (q (.exit 0) [ge l 0] h)
def fe(C:CC)(a c:V)(q:kQ):Prop:=let h:Hp:=.replicate 4 nnQ
 fO 0 a h fun a h=>alV 1 [.d nPQ,.d nPQ,.d (.bool false),.d (.bool false),.d (.bool false)] h fun d h=>bnd (ldA h 3 a) fun e=>clQ C h F.cT [e,c] fun e h=>e3Q e fun e f g=>nzQ g (bnd (bld [(0,1),(1,1),(2,1),(3,1),(4,1)] [nPQ,nPQ,.bool false,.bool false,.bool false] []) fun a=>stD h 5 d a fun _ h=>bnd (ldA h 5 d) fun a=>q (.tup [a,g]) h) (blQ c fun g=>lp (kv C a d e f c g) [] h [nSQ,I 0] h (exK [((.exit 0),fun c h=>blQ (ge c 0) fun e=>cIQ .eql e (I 0) (bnd (bld [(0,1),(1,1),(2,1),(3,1),(4,1)] [nPQ,nPQ,.bool false,.bool false,.bool false] []) fun a=>stD h 5 d a fun _ h=>bnd (ldA h 5 d) fun a=>q (.tup [a,I 19]) h) (clQ C h F.bF [ge c 0,(.fn F.bh [] [a])] fun e h=>clQ C h F.bG [ge c 0,(.fn F.bh [] [a])] fun a h=>ciQ C h F.aQ [a] 3 fun a h=>bnd (bld [(0,1),(1,1),(2,1),(3,1),(4,1)] [nPQ,nPQ,.bool false,.bool false,.bool false] [(0,e),(1,a),(2,(B true)),(3,(B true))]) fun a=>stD h 5 d a fun _ h=>bnd (ldA h 5 d) fun a=>q (.tup [a,I 0]) h)),(.ret,fun a h=>bnd (ldA h 5 d) fun c=>q (.tup [c,ge a 0]) h)]))
theorem xQ(h:fe (CX Y) t0 t1 (out v)):CP Y F.fe [t0,t1] v:=CPo 4 (nBQ (nRQ [.slot 0,.slot 1]) (Be (nBQ (aG (nCQ (.n (.l [9,29] [2,4,6,7,27,28] [((.exit 0),[9],[2,4]),(.ret,[5],[4])] []) (eY (nCQ (.n (.j [9] [2,4,6,7,27,28,29]) (SU (.n (.j [9] [2,4,6,7,27,28,29]) (nRQ [.o,.slot 2]) .o)) .o))) .o))) (eY (nCQ (nRQ [.o,.o,.inl 3])))))) Tryz.func13 h
def bh(C:CC)(a c d:V)(q:kQ):Prop:=let h:Hp:=[]
 bfQ 0 d fun d=>b1Q h d fun d=>clQ C h F.nj [d,a,c] fun a h=>e2Q a fun a c=>q a h
theorem u7(h:bh (CX Y) t0 t1 t2 (out v)):CP Y F.bh [t0,t1,t2] v:=CPo 0 .o Tryz.func21 h
def dK(C:CC)(q:kQ):Prop:=let h:Hp:=.replicate 1 nnQ
 alV 0 [.d nPQ,.d nPQ,.d nPQ] h fun a h=>dR 3 [.int .i64 0] [(0,(I 2)),(1,(I 3)),(2,(I 5))] h fun c h=>dR 3 [.int .i64 0] [(0,(I 4)),(1,(I (-4))),(2,(I 1))] h fun d h=>dR 1 [nPQ] [(0,d)] h fun d h=>dR 3 [.int .i64 0] [(0,(I 1)),(1,(I 0)),(2,(I (-4)))] h fun e h=>dR 3 [.int .i64 0] [(0,(I 0)),(1,(I 1)),(2,(I 4))] h fun f h=>dR 2 [nPQ] [(0,e),(1,f)] h fun e h=>bnd (bld [(0,1),(1,1),(2,1)] [nPQ,nPQ,nPQ] [(0,c),(1,d),(2,e)]) fun c=>stD h 3 a c fun _ h=>bnd (ldA h 3 a) fun a=>q a h
theorem tJ(h:dK (CX Y) (out v)):CP Y F.dK [] v:=CPo 1 (nCQ (nRQ [.slot 0])) Tryz.func12 h
def eX(C:CC)(q:kQ):Prop:=let h:Hp:=.replicate 3 nnQ
 clQ C h F.cu [I 0,I 1] fun a h=>alV 0 [.d (.str []),.d (.str [])] h fun c h=>stD h 2 c a fun _ h=>clQ C h F.dK [] fun a h=>dR 3 [.int .i64 0] [(0,(I 0)),(1,(I 0)),(2,(I 0))] h fun d h=>dR 3 [.int .i64 0] [(0,(I (-3))),(1,(I 2)),(2,(I 0))] h fun e h=>dR 3 [.int .i64 0] [(0,(I (-2))),(1,(I 0)),(2,(I 1))] h fun f h=>dR 3 [.int .i64 0] [(0,(I 2)),(1,(I (-1))),(2,(I 0))] h fun g h=>dR 3 [.int .i64 0] [(0,(I (-1))),(1,(I 1)),(2,(I 0))] h fun i h=>dR 5 [nPQ] [(0,d),(1,e),(2,f),(3,g),(4,i)] h fun d h=>clQ C h F.fW [a,d] fun a h=>e2Q a fun a d=>alV 1 [.d nPQ,.d nPQ,.d (.bool false),.d (.bool false),.d (.bool false)] h fun e h=>stD h 5 e a fun _ h=>clQ C h F.dK [] fun a h=>dR 3 [.int .i64 0] [(0,(I (-2))),(1,(I 0)),(2,(I 1))] h fun f h=>dR 3 [.int .i64 0] [(0,(I (-1))),(1,(I 1)),(2,(I 0))] h fun g h=>dR 2 [nPQ] [(0,f),(1,g)] h fun f h=>clQ C h F.fe [a,f] fun a h=>e2Q a fun a f=>alV 2 [.d nPQ,.d nPQ,.d (.bool false),.d (.bool false),.d (.bool false)] h fun g h=>stD h 5 g a fun _ h=>bIQ .eql d (I 0) fun a=>gbQ a true h (faV 2 e) fun d h=>gbQ a true h (ld1 h d) fun d h=>bpQ a d (B false) fun a=>gbQ a true h (faV 3 e) fun d h=>gbQ a true h (ld1 h d) fun d h=>bpQ a d (B false) fun a=>gbQ a true h (faV 0 e) fun d h=>gbQ a true h (ld1 h d) fun d h=>gd a true h (fun q=>clQ C h F.cu [I 3,I 2] q) fun i h=>gbQ a true h (ldA h 2 c) fun j h=>gbQ a true h (ldA h 2 c) fun k h=>gd a true h (fun q=>dR 3 [.str [],.str []] [(0,i),(1,j),(2,k)] h q) fun i h=>gd a true h (fun q=>clQ C h F.cx [d,i] q) fun d h=>bpQ a d (B false) fun a=>gbQ a true h (faV 1 e) fun d h=>gbQ a true h (ld1 h d) fun d h=>gd a true h (fun q=>clQ C h F.cu [I 8,I 5] q) fun e h=>gbQ a true h (ldA h 2 c) fun i h=>gbQ a true h (ldA h 2 c) fun j h=>gd a true h (fun q=>dR 3 [.str [],.str []] [(0,e),(1,i),(2,j)] h q) fun e h=>gd a true h (fun q=>clQ C h F.cx [d,e] q) fun d h=>bpQ a d (B false) fun a=>gqQ a true h f fun d h=>gbQ a true h (biI .eql d (I 0)) fun d h=>bpQ a d (B false) fun a=>gbQ a true h (faV 0 g) fun d h=>gbQ a true h (ld1 h d) fun d h=>gd a true h (fun q=>clQ C h F.cu [I 1,I 1] q) fun e h=>gbQ a true h (ldA h 2 c) fun f h=>gd a true h (fun q=>clQ C h F.cu [I 1,I 4] q) fun i h=>gd a true h (fun q=>dR 3 [.str [],.str []] [(0,e),(1,f),(2,i)] h q) fun e h=>gd a true h (fun q=>clQ C h F.cx [d,e] q) fun d h=>bpQ a d (B false) fun a=>gbQ a true h (faV 1 g) fun d h=>gbQ a true h (ld1 h d) fun d h=>gbQ a true h (ldA h 2 c) fun e h=>gd a true h (fun q=>clQ C h F.cu [I 1,I 1] q) fun f h=>gbQ a true h (ldA h 2 c) fun c h=>gd a true h (fun q=>dR 3 [.str [],.str []] [(0,e),(1,f),(2,c)] h q) fun c h=>gd a true h (fun q=>clQ C h F.cx [d,c] q) fun c h=>bpQ a c (B false) fun a=>q a h
theorem vW(h:eX (CX Y) (out v)):CP Y F.eX [] v:=CPo 3 (aG (nBQ (nRQ [.o,.slot 0]) (nBQ (nRQ [.o,.o,.o,.o,.o,.o,.o,.o,.slot 1]) (nCQ (nRQ [.o,.o,.o,.o,.o,.slot 2]))))) Tryz.func4 h
def fv(C:CC)(a c:V)(q:kQ):Prop:=let h:Hp:=.replicate 2 nnQ
 fO 0 a h fun a h=>fO 1 c h fun c h=>bnd (ldA h 2 a) fun d=>clQ C h F.dD [d] fun d h=>e3Q d fun d e f=>jn (fun d h=>bfQ 1 a fun d=>b1Q h d fun d=>bfQ 1 c fun e=>b1Q h e fun e=>bSQ .eql d e fun d=>cnd d (bfQ 0 a fun a=>b1Q h a fun a=>bfQ 0 c fun c=>b1Q h c fun c=>clQ C h F.d7 [a,c] q) (bfQ 0 a fun d=>b1Q h d fun d=>bfQ 1 c fun e=>b1Q h e fun e=>clQ C h F.aP [d,e] fun d h=>bfQ 0 c fun c=>b1Q h c fun c=>bfQ 1 a fun a=>b1Q h a fun a=>clQ C h F.aP [c,a] fun a h=>clQ C h F.d7 [d,a] q)) fun a=>cnd f (bnd (ldA h 2 c) fun c=>clQ C h F.dD [c] fun c h=>e3Q c fun c f g=>cnd g (bIQ .mul d f fun a=>bIQ .mul c e fun c=>cIQ .lss a c (q (I (-1)) h) (cIQ .gtr a c (q (I 1) h) (q (I 0) h))) (a [] h)) (a [] h)
theorem yu(h:fv (CX Y) t0 t1 (out v)):CP Y F.fv [t0,t1] v:=CPo 2 (nBQ (nRQ [.slot 0,.slot 1]) (nCQ (eY (nJQ [] [2,3])))) Tryz.func38 h
def gP(C:CC)(a c:V)(q:kQ):Prop:=let h:Hp:=.replicate 1 nnQ
 fO 0 a h fun a h=>bnd (ldA h 3 a) fun d=>dR 1 [nPQ] [(0,c)] h fun e h=>clQ C h F.cT [d,e] fun d h=>e3Q d fun d e f=>nzQ f (q (.tup [nSQ,B false,f]) h) (bfQ 0 a fun a=>b1Q h a fun a=>bxQ h 1 d (I 0) fun d=>b1Q h d fun d=>clQ C h F.gN [a,c,d,e] fun a h=>e3Q a fun a c d=>q (.tup [a,c,d]) h)
theorem Cn(h:gP (CX Y) t0 t1 (out v)):CP Y F.gP [t0,t1] v:=CPo 1 (nCQ (nRQ [.slot 0])) Tryz.func8 h
def eH(C:CC)(a:V):aS:=fun l h q=>blQ a fun c=>cIQ .lss (ge l 0) c (bxQ h 1 a (ge l 0) fun c=>b1Q h c fun c=>bIQ .sub (I 0) c fun c=>bxQ h 1 a (ge l 0) fun a=>stD h 1 a c fun _ h=>bIQ .add (ge l 0) (I 1) fun a=>q .normal [a] h) (q (.exit 0) [] h)
def bW(C:CC)(a c:V)(q:kQ):Prop:=let h:Hp:=.replicate 7 nnQ
 fO 0 a h fun a h=>fO 1 c h fun c h=>clQ C h F.eX [] fun d h=>bnd (unV .not d) fun d=>gbQ d false h (ldA h 3 a) fun e h=>gd d false h (fun q=>clQ C h F.fI [e] q) fun e h=>gbQ d false h (unV .not e) fun e h=>bpQ d (B true) e fun d=>cnd d (clQ C h F.eX [] q) (bnd (ldA h 3 a) fun a=>clQ C h F.ie [a] fun a h=>alV 2 [.d nPQ,.d nPQ,.d nPQ] h fun d h=>stD h 3 d a fun _ h=>bfQ 0 d fun a=>b1Q h a fun a=>bnd (ldA h 4 c) fun c=>clQ C h F.b9 [a,c] fun a h=>bnd (ldA h 3 d) fun c=>clQ C h F.gP [c,a] fun c h=>e3Q c fun c e f=>uA 3 0 [.int .i64 0] [] h fun g h=>apV false 4 1 8 g a h fun g h=>uA 5 0 [.int .i64 0] [] h fun i h=>apV false 6 1 8 i a h fun a h=>lp (eH C g) [] h [I 0] h (exK [((.exit 0),fun i h=>bxQ h 1 a (I 0) fun i=>b1Q h i fun i=>bIQ .add i (I 1) fun i=>bxQ h 1 a (I 0) fun j=>stD h 1 j i fun _ h=>bnd (ldA h 3 d) fun i=>clQ C h F.gP [i,g] fun g h=>e3Q g fun g i j=>bnd (ldA h 3 d) fun d=>clQ C h F.gP [d,a] fun a h=>e3Q a fun a d k=>bIQ .eql f j fun j=>gqQ j true h f fun f h=>gqQ j true h k fun k h=>gbQ j true h (biI .eql f k) fun f h=>bpQ j f (B false) fun f=>gqQ f true h e fun j h=>gqQ f true h i fun i h=>gbQ f true h (biB .eql j i) fun i h=>bpQ f i (B false) fun f=>gqQ f true h e fun e h=>gqQ f true h d fun d h=>gbQ f true h (biB .eql e d) fun d h=>bpQ f d (B false) fun d=>gqQ d true h c fun e h=>gqQ d true h g fun f h=>gd d true h (fun q=>clQ C h F.cx [e,f] q) fun e h=>bpQ d e (B false) fun d=>gqQ d true h c fun c h=>gqQ d true h a fun a h=>gd d true h (fun q=>clQ C h F.cx [c,a] q) fun a h=>bpQ d a (B false) fun a=>q a h)]))
def iB:Ann:=(nBQ (nRQ [.slot 0,.slot 1]) (aG (nBQ (nRQ [.o,.slot 2]) (eY (nBQ (nRQ [.slot 3,.slot 4,.slot 5,.slot 6]) (nCQ (aG (nCQ (.n (.l [12] [5,7,8,9,10,11] [((.exit 0),[],[5,7,8,9,10,11])] []) .o .o)))))))))
theorem qy(C:CC)(t0:V)(t1:V)(q:kkQ):fnD Y C Tryz.f3 7 iB [t0,t1] q=bW C t0 t1 q:=by kernel_rfl
theorem qw:okB Tryz.prog Tryz.f3 iB=true:=az
theorem qx(h:bW (CX Y) t0 t1 (out v)):CP Y F.bW [t0,t1] v:=
 CP.of (fn:=Tryz.f3) (m:=7) (a:=iB) rfl (fun _=>rfl) Tryz.func3 qw (by rw[qy];exact h)
end Go.Vm
