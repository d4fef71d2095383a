/- Lemmas. -/
import Derived.Test.YtnomjjmegfhkhaaGreatDoorQVmC
set_option linter.unusedVariables false
set_option linter.unusedSimpArgs false
set_option maxRecDepth 100000
set_option maxHeartbeats 4000000
namespace Go.Vm
open Go Go.Am Go.Proofs
variable{v t0 t1 t2 t3:V}{h h2:Hp}
theorem CPo{f:FuncId}{fn:Func}(m:Nat)(a:Ann){ds:LwQ}(h3:Y.X.P.funcs[f]?=some fn)(h5:fnD Y (CX Y) fn m a ds (out v))(h1:Y.X.allow f=true:=by rfl)(h2:∀u,Y.X.orc f u=none:=by exact λ_=>rfl)(h4:okB Y.X.P fn a=true:=by decide+kernel):CP Y f ds v:=CP.of h1 h2 h3 h4 h5
abbrev nBQ(a b:Ann):Ann:=.n .x a b
abbrev nCQ(a:Ann):Ann:=.n .x a .o
abbrev nRQ(l:List Act):Ann:=.n (.r l) .o .o
abbrev nJQ(a b:LnQ):Ann:=.n (.j a b) .o .o
abbrev aA(a:Ann):Ann:=.n .x .o a
abbrev eE(a:Ann):Ann:=aA (aA a)
abbrev zz(a:Ann):Ann:=eE (aA a)
abbrev SD(a:Ann):Ann:=zz (aA a)
abbrev aek(a:Ann):Ann:=SD (aA a)
abbrev agh(a:Ann):Ann:=aek (aA a)
abbrev aii(a:Ann):Ann:=agh (aA a)
theorem ac5{p:Prop}(h:p:=by repeat' (first|(refine adw rfl λ_=>?_)|(refine agD rfl λ_ _=>?_)|(refine ads rfl λ_ _=>?_)|(refine adr rfl ?_ ?_)|(refine adk rfl λ_=>?_)|(refine WL rfl λ_ _=>?_)|(refine ac6 rfl λ_ _=>?_)|(refine adz rfl λ_ _=>?_)|(refine aad rfl λ_ _=>?_)|(refine agw rfl (λ_ _=>?_) λ_=>?_)|(refine agi rfl (λ_ _ _=>?_) λ_ _ _=>?_)|(refine adn rfl (λ_ _=>?_) ?_)|(refine adf rfl λ_ _=>?_)|(refine ady rfl λ_ _=>?_)|(refine adt rfl λ_ _=>?_)|(refine ag0 rfl λ_ _=>?_)|(refine WJ rfl λ_ _=>?_)|(refine adA rfl λ_ _=>?_)|(refine VP rfl λ_=>?_)|exact rfl|(refine WR rfl ?_))):p:=h
theorem Pv{p:Prop}(h:p:=by repeat' (first|(refine adw rfl λ_=>?_)|(refine agD rfl λ_ _=>?_)|(refine ads rfl λ_ _=>?_)|(refine adr rfl ?_ ?_)|(refine adk rfl λ_=>?_)|(refine WL rfl λ_ _=>?_)|(refine ac6 rfl λ_ _=>?_)|(refine adz rfl λ_ _=>?_)|(refine aad rfl λ_ _=>?_)|(refine agw rfl (λ_ _=>?_) λ_=>?_)|(refine agi rfl (λ_ _ _=>?_) λ_ _ _=>?_)|(refine adn rfl (λ_ _=>?_) ?_)|(refine adf rfl λ_ _=>?_)|(refine ady rfl λ_ _=>?_)|(refine adt rfl λ_ _=>?_)|(refine WJ rfl λ_ _=>?_)|(refine adA rfl λ_ _=>?_)|(refine VP rfl λ_=>?_)|exact rfl|(refine WR rfl ?_))):p:=h
abbrev kQ:=kkQ
abbrev clQ(C:CC)(h:Hp)(f:FuncId)(a:LwQ)(k:kQ):Prop:=cal C.p h (.fn f [] []) a k
abbrev ciQ(C:CC)(h:Hp)(f:FuncId)(a:LwQ)(s:Nat)(k:kQ):Prop:=cai C.i h (.fn f [] []) a s k
abbrev bIQ(o:BinOp)(x y:V)(k:V->Prop):Prop:=bnd (biI o x y) k
abbrev bSQ(o:BinOp)(x y:V)(k:V->Prop):Prop:=bnd (biS o x y) k
abbrev b1Q(h:Hp)(x:V)(k:V->Prop):Prop:=bnd (ld1 h x) k
abbrev bxQ(h:Hp)(n:Nat)(x y:V)(k:V->Prop):Prop:=bnd (ixV h n x y) k
abbrev blQ(x:V)(k:V->Prop):Prop:=bnd (aN x) k
abbrev bfQ(n:Nat)(x:V)(k:V->Prop):Prop:=bnd (faV n x) k
abbrev bpQ(x y z:V)(k:V->Prop):Prop:=bnd (mP x y z) k
abbrev cIQ(o:BinOp)(x y:V)(A B:Prop):Prop:=bnd (biI o x y) λc=>cnd c A B
abbrev nzQ(x:V)(A B:Prop):Prop:=bnd (biI .neq x (I 0)) λc=>cnd c A B
abbrev gbQ(c:V)(w:Bool)(h:Hp)(o:Option V)(k:kQ):Prop:=gd c w h (λq=>bnd o λv=>q v h) k
abbrev gqQ(c:V)(w:Bool)(h:Hp)(x:V)(k:kQ):Prop:=gd c w h (λq=>q x h) k
abbrev e2Q(x:V)(k:V->V->Prop):Prop:=ext x 0 λa=>ext x 1 λb=>k a b
abbrev e3Q(x:V)(k:V->V->V->Prop):Prop:=ext x 0 λa=>ext x 1 λb=>ext x 2 λc=>k a b c
abbrev nSQ:V:=.d nPQ
abbrev a1Q(s:Nat)(x y:V)(h:Hp)(k:kQ):Prop:=dI 1 [.int .i64 0] [(0,y)] h λv h=>apV false s 1 8 x v h k
def bW(C:CC)(a c:V)(q:kQ):Prop:=let h:Hp:=[]
 gqQ a true h c λd h=>gbQ a true h (biS .neq d (.d (.str [48]))) λd h=>bpQ a d (B false) λa=>cnd a (bSQ .add (.d (.str [45])) c λa=>q a h) (q c h)
theorem yY(h:bW (CX Y) t0 t1 (out v)):CP Y F.bW [t0,t1] v:=CPo 0 .o Tryz.func84 h
def gz(C:CC)(a c:V)(q:kkQ):Prop:=let h:Hp:=List.replicate 6 nnQ
 cal C.p h (.fn F.fV [] []) [a,c] λd h=>ext d 0 λe=>ext d 1 λf=>ext d 2 λd=>cnd d (bnd (biI .add e f) λa=>cal C.p h (.fn F.jE [] []) [a] λa h=>q a h) (cai C.i h (.fn F.cY [] []) [a] 0 λa h=>cai C.i h (.fn F.cY [] []) [c] 1 λc h=>bnd (aN a) λd=>bnd (aN c) λe=>bnd (biI .lss d e) λd=>jn (λa h=>dI 1 [.int .u64 0] [(0,(.d (.int .u64 0)))] h λc h=>apV false 2 1 8 (ge a 0) c h λc h=>bnd (aN c) λd=>bnd (biI .sub d (I 1)) λd=>bnd (aN (ge a 1)) λe=>bnd (biI .sub d e) λd=>apZ false 3 1 8 [.int .u64 0] (ge a 1) d h λa h=>cai C.i h (.fn F.cL [] []) [c,a,(I 0)] 4 λa h=>cai C.i h (.fn F.ay [] []) [c] 5 λa h=>cal C.p h (.fn F.aK [] []) [a] λa h=>q a h) λe=>cnd d (e [c,a] h) (e [a,c] h))
def tB:Ann:=(eE (nBQ (nRQ [.inl 0,.inl 1]) (nBQ (aA (nJQ [8,9] [])) (nBQ (nRQ [.o,.slot 2]) (nBQ (nRQ [.slot 3,.inl 4]) (nCQ (nRQ [.inl 5])))))))
attribute [local irreducible] bnd gd cal cnd ext dI vv stD alV alD eU jn lp exK mkS apV apZ cai yv in
theorem GZ(C:CC)(t0:V)(t1:V)(q:kkQ):fnD Y C Tryz.f111 6 tB [t0,t1] q=gz C t0 t1 q:=ac5
theorem GX:okB Tryz.prog Tryz.f111 tB=true:=aG
theorem GY(h:gz (CX Y) t0 t1 (out v)):CP Y F.gz [t0,t1] v:=
 CP.of (fn:=Tryz.f111) (m:=6) (a:=tB) rfl (λ_=>rfl) Tryz.func111 GX (by rw[GZ];exact h)
def cj(C:CC)(a c:V)(q:kQ):Prop:=let h:Hp:=[]
 bnd (oe a) λd=>bnd (oe c) λe=>cIQ .neq d e (bnd (oe a) λa=>bnd (oe c) λc=>bIQ .sub a c λa=>bnd (mxI true [I (-1),a]) λa=>bnd (mxI false [I 1,a]) λa=>q a h) (bSQ .lss a c λd=>cnd d (q (I (-1)) h) (bSQ .gtr a c λa=>cnd a (q (I 1) h) (q (I 0) h)))
theorem Ak(h:cj (CX Y) t0 t1 (out v)):CP Y F.cj [t0,t1] v:=CPo 0 .o Tryz.func112 h
def ie(C:CC)(a c:V)(q:kkQ):Prop:=let h:Hp:=List.replicate 7 nnQ
 cal C.p h (.fn F.cj [] []) [a,c] λd h=>bnd (biI .lss d (I 0)) λd=>cnd d (q (.tup [(.d (.str [])),(I 3)]) h) (cal C.p h (.fn F.fV [] []) [a,c] λd h=>ext d 0 λe=>ext d 1 λf=>ext d 2 λd=>cnd d (bnd (biI .sub e f) λa=>cal C.p h (.fn F.jE [] []) [a] λa h=>q (.tup [a,(I 0)]) h) (cai C.i h (.fn F.cY [] []) [a] 0 λa h=>dI 1 [.int .u64 0] [(0,(.d (.int .u64 0)))] h λd h=>apV false 1 1 8 a d h λa h=>cai C.i h (.fn F.cY [] []) [c] 2 λd h=>bnd (aN a) λe=>bnd (biI .sub e (I 1)) λe=>cai C.i h (.fn F.cY [] []) [c] 3 λc h=>bnd (aN c) λc=>bnd (biI .sub e c) λc=>apZ false 4 1 8 [.int .u64 0] d c h λc h=>cai C.i h (.fn F.dD [] []) [a,c,(.d (.int .u64 1)),(I 0)] 5 λc h=>cai C.i h (.fn F.ay [] []) [a] 6 λa h=>cal C.p h (.fn F.aK [] []) [a] λa h=>q (.tup [a,(I 0)]) h))
def tA:Ann:=(zz (nBQ (nRQ [.inl 0,.o,.slot 1]) (nBQ (nRQ [.inl 2,.inl 3,.slot 4,.inl 5]) (nCQ (nRQ [.inl 6])))))
attribute [local irreducible] bnd gd cal cnd ext dI vv stD alV alD eU jn lp exK mkS apV apZ cai yv in
theorem GT(C:CC)(t0:V)(t1:V)(q:kkQ):fnD Y C Tryz.f113 7 tA [t0,t1] q=ie C t0 t1 q:=ac5
theorem GQ:okB Tryz.prog Tryz.f113 tA=true:=aG
theorem GR(h:ie (CX Y) t0 t1 (out v)):CP Y F.ie [t0,t1] v:=
 CP.of (fn:=Tryz.f113) (m:=7) (a:=tA) rfl (λ_=>rfl) Tryz.func113 GQ (by rw[GT];exact h)
def kf(C:CC)(a c:V)(q:kQ):Prop:=let h:Hp:=.replicate 3 nnQ
 bnd (oe a) λd=>bnd (oe c) λe=>bIQ .add d e λd=>cIQ .leq d (I 18) (clQ C h F.fV [a,c] λa h=>e3Q a λa c d=>bIQ .mul a c λa=>clQ C h F.jE [a] q) (ciQ C h F.cY [a] 0 λa h=>ciQ C h F.cY [c] 1 λc h=>ciQ C h F.bB [a,c] 2 λa h=>clQ C h F.aK [a] q)
theorem GU(h:kf (CX Y) t0 t1 (out v)):CP Y F.kf [t0,t1] v:=CPo 3 (eE (nCQ (nRQ [.inl 0,.inl 1,.inl 2]))) Tryz.func85 h
def cO(C:CC)(a c:V)(q:kQ):Prop:=let h:Hp:=[]
 clQ C h F.bF [a,I 18] λd h=>e2Q d λd e=>jn (λd h=>clQ C h F.aL [a] λa h=>e2Q a λa d=>clQ C h F.aL [c] λc h=>e2Q c λc e=>bnd (biB .eql a c) λf=>cnd f (clQ C h F.gz [d,e] λc h=>clQ C h F.bW [a,c] q) (clQ C h F.cj [d,e] λf h=>bIQ .lss f (I 0) λf=>jn (λa h=>clQ C h F.ie [ge a 1,ge a 2] λc h=>e2Q c λc d=>clQ C h F.bW [ge a 0,c] q) λg=>cnd f (g [c,e,d] h) (g [a,d,e] h))) λa=>cnd e (clQ C h F.bF [c,I 18] λc h=>e2Q c λc e=>cnd e (bIQ .add d c λa=>clQ C h F.dK [a] q) (a [] h)) (a [] h)
theorem KE(h:cO (CX Y) t0 t1 (out v)):CP Y F.cO [t0,t1] v:=CPo 0 (aA (nBQ (eE (nJQ [] [0,1])) (zz (nCQ (aA (nJQ [9,10,12] [])))))) Tryz.func74 h
def aP(C:CC)(a c:V)(q:kQ):Prop:=let h:Hp:=[]
 clQ C h F.bF [a,I 9] λd h=>e2Q d λd e=>jn (λd h=>clQ C h F.aL [a] λa h=>e2Q a λa d=>clQ C h F.aL [c] λc h=>e2Q c λc e=>bnd (biB .neq a c) λa=>clQ C h F.kf [d,e] λc h=>clQ C h F.bW [a,c] q) λa=>cnd e (clQ C h F.bF [c,I 9] λc h=>e2Q c λc e=>cnd e (bIQ .mul d c λa=>clQ C h F.dK [a] q) (a [] h)) (a [] h)
theorem KB(h:aP (CX Y) t0 t1 (out v)):CP Y F.aP [t0,t1] v:=CPo 0 (aA (nCQ (eE (nJQ [] [0,1])))) Tryz.func53 h
def ko(C:CC)(a:V)(q:kQ):Prop:=let h:Hp:=[]
 cnd (B false) (bnd (cvI .u32 a) λa=>clQ C h F.Cx [a] q) (clQ C h F.fe [a] q)
theorem Cw(h:ko (CX Y) t0 (out v)):CP Y F.ko [t0] v:=CPo 0 .o Tryz.func181 h
def jq(C:CC)(a:V):aM:=λl h q=>bIQ .mul (ge l 0) (ge l 0) λc=>cIQ .leq c a (bIQ .rem a (ge l 0) λa=>cIQ .eql a (I 0) (q .ret [B false] h) (bIQ .add (ge l 0) (I 1) λa=>q .normal [a] h)) (q (.exit 0) [] h)
def jd(C:CC)(a:V)(q:kQ):Prop:=let h:Hp:=[]
 bIQ .lss a (I 2) λc=>gqQ c false h a λd h=>gbQ c false h (biI .gtr d (I 97)) λd h=>bpQ c (B true) d λc=>cnd c (q (B false) h) (lp (jq C a) [] h [I 2] h (exK [((.exit 0),λa h=>q (B true) h),(.ret,λa h=>q (ge a 0) h)]))
theorem Cv(h:jd (CX Y) t0 (out v)):CP Y F.jd [t0] v:=CPo 0 (eE (nCQ (aA (nCQ (.n (.l [3] [0] [((.exit 0),[],[]),(.ret,[2],[])] []) .o .o))))) Tryz.func63 h
def pz(C:CC)(a c d:V):aM:=λl h q=>cIQ .lss (ge l 0) d (bxQ h 1 c (ge l 0) λc=>b1Q h c λc=>clQ C h F.jd [c] λd h=>bnd (unV .not d) λd=>cnd d (q .ret [I 25] h) (bIQ .gtr (ge l 0) (I 0) λd=>gqQ d true h c λc h=>gqQ d true h a λa h=>gqQ d true h (ge l 0) λe h=>gbQ d true h (biI .sub e (I 1)) λe h=>gbQ d true h (ixV h 1 a e) λa h=>gbQ d true h (ld1 h a) λa h=>gbQ d true h (biI .leq c a) λa h=>bpQ d a (B false) λa=>cnd a (q .ret [I 6] h) (bIQ .add (ge l 0) (I 1) λa=>q .normal [a] h))) (q (.exit 1) [] h)
def fx(C:CC)(a:V)(q:kQ):Prop:=let h:Hp:=[]
 blQ a λc=>cIQ .eql c (I 0) (q (I 13) h) (blQ a λc=>cIQ .gtr c (I 6) (q (I 4) h) (blQ a λc=>lp (pz C a a c) [] h [I 0] h (exK [((.exit 1),λa h=>q (I 0) h),(.ret,λa h=>q (ge a 0) h)])))
theorem GD(h:fx (CX Y) t0 (out v)):CP Y F.fx [t0] v:=CPo 0 (eE (nCQ (aA (nCQ (.n (.l [15] [0,13,14] [((.exit 1),[],[]),(.ret,[2],[])] []) .o .o))))) Tryz.func39 h
def m6(C:CC)(a:V)(q:kQ):Prop:=let h:Hp:=.replicate 1 nnQ
 eU 0 a h λa h=>bfQ 0 a λc=>b1Q h c λc=>clQ C h F.gE [c] λc h=>bnd (oe c) λc=>bIQ .leq c (I 30) λc=>gbQ c true h (faV 1 a) λa h=>gbQ c true h (ld1 h a) λa h=>gbQ c true h (oe a) λa h=>gbQ c true h (biI .leq a (I 30)) λa h=>bpQ c a (B false) λa=>q a h
theorem IW(h:m6 (CX Y) t0 (out v)):CP Y F.m6 [t0] v:=CPo 1 (nCQ (nRQ [.slot 0])) Tryz.func87 h
def qn(C:CC)(a c:V):aM:=λl h q=>cIQ .lss (ge l 0) c (bxQ h 2 a (ge l 0) λa=>bnd (ldA h 2 a) λa=>alV 0 [.d (.str []),.d (.str [])] h λc h=>stD h 2 c a λ_ h=>bnd (ldA h 2 c) λa=>clQ C h F.ib [a] λa h=>nzQ a (q .ret [I 2] h) (bnd (ldA h 2 c) λa=>clQ C h F.m6 [a] λa h=>bnd (unV .not a) λa=>cnd a (q .ret [I 4] h) (bIQ .add (ge l 0) (I 1) λa=>q .normal [a] h))) (q (.exit 0) [] h)
def lW(C:CC)(a c:V)(q:kQ):Prop:=let h:Hp:=.replicate 1 nnQ
 blQ c λd=>blQ a λa=>cIQ .neq d a (q (I 5) h) (blQ c λa=>lp (qn C c a) [0] h [I 0] h (exK [((.exit 0),λa h=>q (I 0) h),(.ret,λa h=>q (ge a 0) h)]))
theorem IX(h:lW (CX Y) t0 t1 (out v)):CP Y F.lW [t0,t1] v:=CPo 1 (eE (nCQ (aA (nCQ (.n (.l [14] [12,13] [((.exit 0),[],[]),(.ret,[4],[])] [0]) (eE (nCQ (nCQ (nCQ (nRQ [.slot 0]))))) .o))))) Tryz.func54 h
def oJ(C:CC)(a c:V)(q:kQ):Prop:=let h:Hp:=[]
 clQ C h F.fx [a] λd h=>nzQ d (q d h) (clQ C h F.lW [a,c] q)
theorem IZ(h:oJ (CX Y) t0 t1 (out v)):CP Y F.oJ [t0,t1] v:=CPo 0 .o Tryz.func45 h
def dX(C:CC)(a c:V)(q:kQ):Prop:=let h:Hp:=.replicate 2 nnQ
 cIQ .eql c (I 10) (cIQ .lss a (.d (.int .u64 100)) (bnd (cvI .i64 a) λa=>clQ C h F.iI [a] q) (alD 0 1 (List.replicate 24 (.int .u8 0)) h λc h=>clQ C h F.dy [a] λd h=>bnd (slP 24 1 h c none (some d)) λe=>ciQ C h F.bM [e,a] 1 λa h=>bnd (slP 24 1 h c none (some d)) λa=>bnd (cvT h a) λa=>q a h)) (clQ C h F.qC [nSQ,a,c,B false,B false] λa h=>e2Q a λa c=>q c h)
theorem uQ(h:dX (CX Y) t0 t1 (out v)):CP Y F.dX [t0,t1] v:=CPo 2 (aA (nCQ (aA (nCQ (aA (nBQ (nRQ [.slot 0]) (aA (nCQ (nRQ [.inl 1]))))))))) Tryz.func179 h
def gH(C:CC)(a c:V)(q:kQ):Prop:=let h:Hp:=[]
 clQ C h F.dX [a,c] q
theorem wh(h:gH (CX Y) t0 t1 (out v)):CP Y F.gH [t0,t1] v:=CPo 0 .o Tryz.func156 h
def jE(C:CC)(a:V)(q:kQ):Prop:=let h:Hp:=[]
 clQ C h F.gH [a,I 10] q
theorem J0(h:jE (CX Y) t0 (out v)):CP Y F.jE [t0] v:=CPo 0 .o Tryz.func122 h
def jh(C:CC)(a:V)(q:kQ):Prop:=let h:Hp:=[]
 clQ C h F.fN [a,I 10,I 64] λa h=>e2Q a λa c=>bnd (biF .neq c (.d (.pl .nilIface))) λc=>cnd c (q (.tup [(.d (.int .u64 0)),B false]) h) (q (.tup [a,B true]) h)
theorem CR(h:jh (CX Y) t0 (out v)):CP Y F.jh [t0] v:=CPo 0 .o Tryz.func155 h
def fV(C:CC)(a c:V)(q:kQ):Prop:=let h:Hp:=[]
 bnd (oe a) λd=>bIQ .gtr d (I 18) λd=>gqQ d false h c λe h=>gbQ d false h (oe e) λe h=>gbQ d false h (biI .gtr e (I 18)) λe h=>bpQ d (B true) e λd=>cnd d (q (.tup [(.d (.int .u64 0)),(.d (.int .u64 0)),B false]) h) (clQ C h F.jh [a] λa h=>e2Q a λa d=>clQ C h F.jh [c] λc h=>e2Q c λc d=>q (.tup [a,c,B true]) h)
theorem FS(h:fV (CX Y) t0 t1 (out v)):CP Y F.fV [t0,t1] v:=CPo 0 .o Tryz.func121 h
def dZ(C:CC)(a c:V)(q:kQ):Prop:=let h:Hp:=.replicate 2 nnQ
 bSQ .eql c (.d (.str [48])) λd=>cnd d (q (.tup [(.d (.str [])),(.d (.str [])),I 17]) h) (clQ C h F.fV [a,c] λd h=>e3Q d λd e f=>cnd f (bIQ .quo d e λa=>clQ C h F.jE [a] λa h=>bIQ .rem d e λc=>clQ C h F.jE [c] λc h=>q (.tup [a,c,I 0]) h) (ciQ C h F.cY [a] 0 λd h=>ciQ C h F.cY [c] 1 λc h=>clQ C h F.cx [d,c] λe h=>cIQ .lss e (I 0) (q (.tup [(.d (.str [48])),a,I 0]) h) (blQ c λa=>cIQ .eql a (I 1) (bxQ h 1 c (I 0) λa=>b1Q h a λa=>clQ C h F.cX [d,a] λa h=>e2Q a λa c=>clQ C h F.aK [a] λa h=>clQ C h F.jE [c] λc h=>q (.tup [a,c,I 0]) h) (clQ C h F.dJ [d,c] λa h=>e2Q a λa c=>clQ C h F.aK [a] λa h=>clQ C h F.aK [c] λc h=>q (.tup [a,c,I 0]) h))))
def ql:Ann:=(zz (nCQ (nRQ [.inl 0,.inl 1])))
attribute [local irreducible] bnd gd cal cnd ext dI vv stD alV alD eU jn lp exK mkS apV cai yv in
theorem BP(C:CC)(t0:V)(t1:V)(q:kkQ):fnD Y C Tryz.f119 2 ql [t0,t1] q=dZ C t0 t1 q:=Pv
theorem BN:okB Tryz.prog Tryz.f119 ql=true:=aG
theorem BO(h:dZ (CX Y) t0 t1 (out v)):CP Y F.dZ [t0,t1] v:=
 CP.of (fn:=Tryz.f119) (m:=2) (a:=ql) rfl (λ_=>rfl) Tryz.func119 BN (by rw[BP];exact h)
def pL(C:CC):aM:=λl h q=>bSQ .neq (ge l 1) (.d (.str [48])) λa=>cnd a (clQ C h F.dZ [ge l 0,ge l 1] λa h=>e3Q a λa c d=>nzQ d (q .ret [(.d (.str []))] h) (q .normal [ge l 1,c] h)) (q (.exit 0) [ge l 0] h)
def nA(C:CC)(a c:V)(q:kQ):Prop:=let h:Hp:=[]
 lp (pL C) [] h [a,c] h (exK [((.exit 0),λa h=>q (ge a 0) h),(.ret,λa h=>q (ge a 0) h)])
theorem GW(h:nA (CX Y) t0 t1 (out v)):CP Y F.nA [t0,t1] v:=CPo 0 (aA (nCQ (nCQ (.n (.l [0,1] [] [((.exit 0),[0],[]),(.ret,[4],[])] []) .o .o)))) Tryz.func118 h
def strconv_Itoa(C:CC)(a:V)(q:kQ):Prop:=let h:Hp:=[]
 clQ C h F.kZ [a] q
theorem Ee(h:strconv_Itoa (CX Y) t0 (out v)):CP Y F.strconv_Itoa [t0] v:=CPo 0 .o Tryz.func93 h
def kZ(C:CC)(a:V)(q:kQ):Prop:=let h:Hp:=[]
 clQ C h F.dC [a,I 10] q
theorem BB(h:kZ (CX Y) t0 (out v)):CP Y F.kZ [t0] v:=CPo 0 .o Tryz.func131 h
def dC(C:CC)(a c:V)(q:kQ):Prop:=let h:Hp:=.replicate 2 nnQ
 cIQ .eql c (I 10) (bIQ .leq (I 0) a λc=>gqQ c true h a λd h=>gbQ c true h (biI .lss d (I 100)) λd h=>bpQ c d (B false) λc=>cnd c (clQ C h F.iI [a] q) (alD 0 1 (List.replicate 24 (.int .u8 0)) h λc h=>bnd (cvI .u64 a) λd=>bIQ .lss a (I 0) λe=>jn (λd h=>clQ C h F.dy [ge d 0] λe h=>bIQ .add (I 1) e λf=>bnd (slP 24 1 h c (some (I 1)) (some f)) λf=>ciQ C h F.bM [f,ge d 0] 1 λd h=>cIQ .lss a (I 0) (bnd (ixP 24 1 c (I 0)) λa=>stD h 1 a (.d (.int .u8 45)) λ_ h=>bIQ .add (I 1) e λa=>bnd (slP 24 1 h c none (some a)) λa=>bnd (cvT h a) λa=>q a h) (bIQ .add (I 1) e λa=>bnd (slP 24 1 h c (some (I 1)) (some a)) λa=>bnd (cvT h a) λa=>q a h)) λa=>cnd e (bnd (unV .neg d) λc=>a [c] h) (a [d] h))) (bnd (cvI .u64 a) λd=>bIQ .lss a (I 0) λa=>clQ C h F.qC [nSQ,d,c,a,B false] λa h=>e2Q a λa c=>q c h)
theorem vH(h:dC (CX Y) t0 t1 (out v)):CP Y F.dC [t0,t1] v:=CPo 2 (aA (nCQ (aA (nCQ (aA (nBQ (nRQ [.slot 0]) (aA (nBQ (aA (nJQ [6] [0,5])) (aA (nCQ (nRQ [.inl 1]))))))))))) Tryz.func163 h
def iI(C:CC)(a:V)(q:kQ):Prop:=let h:Hp:=[]
 cIQ .lss a (I 10) (bIQ .add a (I 1) λc=>bnd (slS (.d (.str [48,49,50,51,52,53,54,55,56,57,97,98,99,100,101,102,103,104,105,106,107,108,109,110,111,112,113,114,115,116,117,118,119,120,121,122])) (some a) (some c)) λa=>q a h) (bIQ .mul a (I 2) λc=>bIQ .mul a (I 2) λa=>bIQ .add a (I 2) λa=>bnd (slS (.d (.str [48,48,48,49,48,50,48,51,48,52,48,53,48,54,48,55,48,56,48,57,49,48,49,49,49,50,49,51,49,52,49,53,49,54,49,55,49,56,49,57,50,48,50,49,50,50,50,51,50,52,50,53,50,54,50,55,50,56,50,57,51,48,51,49,51,50,51,51,51,52,51,53,51,54,51,55,51,56,51,57,52,48,52,49,52,50,52,51,52,52,52,53,52,54,52,55,52,56,52,57,53,48,53,49,53,50,53,51,53,52,53,53,53,54,53,55,53,56,53,57,54,48,54,49,54,50,54,51,54,52,54,53,54,54,54,55,54,56,54,57,55,48,55,49,55,50,55,51,55,52,55,53,55,54,55,55,55,56,55,57,56,48,56,49,56,50,56,51,56,52,56,53,56,54,56,55,56,56,56,57,57,48,57,49,57,50,57,51,57,52,57,53,57,54,57,55,57,56,57,57])) (some c) (some a)) λa=>q a h)
theorem zQ(h:iI (CX Y) t0 (out v)):CP Y F.iI [t0] v:=CPo 0 .o Tryz.func184 h
def dy(C:CC)(a:V)(q:kQ):Prop:=let h:Hp:=[]
 clQ C h F.fe [a] λc h=>clQ C h F.f9 [c] λc h=>bnd (ixP 20 1 (gl oo) c) λd=>b1Q h d λd=>bIQ .geq a d λa=>clQ C h F.gj [a] λa h=>bIQ .add c a λa=>q a h
theorem vE(h:dy (CX Y) t0 (out v)):CP Y F.dy [t0] v:=CPo 0 .o Tryz.func185 h
def eA(C:CC)(b:Nat)(a:V):aM:=λl h q=>cIQ .geq (ge l 1) (I 8) (bIQ .rem (ge l 0) (.d (.int .u64 100000000)) λc=>bnd (cvI .u32 c) λc=>bIQ .quo (ge l 0) (.d (.int .u64 100000000)) λd=>bIQ .quo c (.d (.int .u32 10000)) λe=>bIQ .rem c (.d (.int .u32 10000)) λc=>bIQ .quo c (.d (.int .u32 100)) λf=>bIQ .mul f (.d (.int .u32 2)) λf=>bIQ .rem c (.d (.int .u32 100)) λc=>bIQ .mul c (.d (.int .u32 2)) λc=>bIQ .quo e (.d (.int .u32 100)) λg=>bIQ .mul g (.d (.int .u32 2)) λg=>bIQ .rem e (.d (.int .u32 100)) λe=>bIQ .mul e (.d (.int .u32 2)) λe=>bIQ .sub (ge l 1) (I 1) λi=>bIQ .sub (ge l 1) (I 2) λj=>bIQ .add c (.d (.int .u32 1)) λk=>bnd (ixS (.d (.str [48,48,48,49,48,50,48,51,48,52,48,53,48,54,48,55,48,56,48,57,49,48,49,49,49,50,49,51,49,52,49,53,49,54,49,55,49,56,49,57,50,48,50,49,50,50,50,51,50,52,50,53,50,54,50,55,50,56,50,57,51,48,51,49,51,50,51,51,51,52,51,53,51,54,51,55,51,56,51,57,52,48,52,49,52,50,52,51,52,52,52,53,52,54,52,55,52,56,52,57,53,48,53,49,53,50,53,51,53,52,53,53,53,54,53,55,53,56,53,57,54,48,54,49,54,50,54,51,54,52,54,53,54,54,54,55,54,56,54,57,55,48,55,49,55,50,55,51,55,52,55,53,55,54,55,55,55,56,55,57,56,48,56,49,56,50,56,51,56,52,56,53,56,54,56,55,56,56,56,57,57,48,57,49,57,50,57,51,57,52,57,53,57,54,57,55,57,56,57,57])) k) λk=>bnd (ixS (.d (.str [48,48,48,49,48,50,48,51,48,52,48,53,48,54,48,55,48,56,48,57,49,48,49,49,49,50,49,51,49,52,49,53,49,54,49,55,49,56,49,57,50,48,50,49,50,50,50,51,50,52,50,53,50,54,50,55,50,56,50,57,51,48,51,49,51,50,51,51,51,52,51,53,51,54,51,55,51,56,51,57,52,48,52,49,52,50,52,51,52,52,52,53,52,54,52,55,52,56,52,57,53,48,53,49,53,50,53,51,53,52,53,53,53,54,53,55,53,56,53,57,54,48,54,49,54,50,54,51,54,52,54,53,54,54,54,55,54,56,54,57,55,48,55,49,55,50,55,51,55,52,55,53,55,54,55,55,55,56,55,57,56,48,56,49,56,50,56,51,56,52,56,53,56,54,56,55,56,56,56,57,57,48,57,49,57,50,57,51,57,52,57,53,57,54,57,55,57,56,57,57])) c) λc=>bxQ h 1 a i λi=>stD h 1 i k λ_ h=>bxQ h 1 a j λi=>stD h 1 i c λ_ h=>bIQ .sub (ge l 1) (I 3) λc=>bIQ .sub (ge l 1) (I 4) λi=>bIQ .add f (.d (.int .u32 1)) λj=>bnd (ixS (.d (.str [48,48,48,49,48,50,48,51,48,52,48,53,48,54,48,55,48,56,48,57,49,48,49,49,49,50,49,51,49,52,49,53,49,54,49,55,49,56,49,57,50,48,50,49,50,50,50,51,50,52,50,53,50,54,50,55,50,56,50,57,51,48,51,49,51,50,51,51,51,52,51,53,51,54,51,55,51,56,51,57,52,48,52,49,52,50,52,51,52,52,52,53,52,54,52,55,52,56,52,57,53,48,53,49,53,50,53,51,53,52,53,53,53,54,53,55,53,56,53,57,54,48,54,49,54,50,54,51,54,52,54,53,54,54,54,55,54,56,54,57,55,48,55,49,55,50,55,51,55,52,55,53,55,54,55,55,55,56,55,57,56,48,56,49,56,50,56,51,56,52,56,53,56,54,56,55,56,56,56,57,57,48,57,49,57,50,57,51,57,52,57,53,57,54,57,55,57,56,57,57])) j) λj=>bnd (ixS (.d (.str [48,48,48,49,48,50,48,51,48,52,48,53,48,54,48,55,48,56,48,57,49,48,49,49,49,50,49,51,49,52,49,53,49,54,49,55,49,56,49,57,50,48,50,49,50,50,50,51,50,52,50,53,50,54,50,55,50,56,50,57,51,48,51,49,51,50,51,51,51,52,51,53,51,54,51,55,51,56,51,57,52,48,52,49,52,50,52,51,52,52,52,53,52,54,52,55,52,56,52,57,53,48,53,49,53,50,53,51,53,52,53,53,53,54,53,55,53,56,53,57,54,48,54,49,54,50,54,51,54,52,54,53,54,54,54,55,54,56,54,57,55,48,55,49,55,50,55,51,55,52,55,53,55,54,55,55,55,56,55,57,56,48,56,49,56,50,56,51,56,52,56,53,56,54,56,55,56,56,56,57,57,48,57,49,57,50,57,51,57,52,57,53,57,54,57,55,57,56,57,57])) f) λf=>bxQ h 1 a c λc=>stD h 1 c j λ_ h=>bxQ h 1 a i λc=>stD h 1 c f λ_ h=>bIQ .sub (ge l 1) (I 5) λc=>bIQ .sub (ge l 1) (I 6) λf=>bIQ .add e (.d (.int .u32 1)) λi=>bnd (ixS (.d (.str [48,48,48,49,48,50,48,51,48,52,48,53,48,54,48,55,48,56,48,57,49,48,49,49,49,50,49,51,49,52,49,53,49,54,49,55,49,56,49,57,50,48,50,49,50,50,50,51,50,52,50,53,50,54,50,55,50,56,50,57,51,48,51,49,51,50,51,51,51,52,51,53,51,54,51,55,51,56,51,57,52,48,52,49,52,50,52,51,52,52,52,53,52,54,52,55,52,56,52,57,53,48,53,49,53,50,53,51,53,52,53,53,53,54,53,55,53,56,53,57,54,48,54,49,54,50,54,51,54,52,54,53,54,54,54,55,54,56,54,57,55,48,55,49,55,50,55,51,55,52,55,53,55,54,55,55,55,56,55,57,56,48,56,49,56,50,56,51,56,52,56,53,56,54,56,55,56,56,56,57,57,48,57,49,57,50,57,51,57,52,57,53,57,54,57,55,57,56,57,57])) i) λi=>bnd (ixS (.d (.str [48,48,48,49,48,50,48,51,48,52,48,53,48,54,48,55,48,56,48,57,49,48,49,49,49,50,49,51,49,52,49,53,49,54,49,55,49,56,49,57,50,48,50,49,50,50,50,51,50,52,50,53,50,54,50,55,50,56,50,57,51,48,51,49,51,50,51,51,51,52,51,53,51,54,51,55,51,56,51,57,52,48,52,49,52,50,52,51,52,52,52,53,52,54,52,55,52,56,52,57,53,48,53,49,53,50,53,51,53,52,53,53,53,54,53,55,53,56,53,57,54,48,54,49,54,50,54,51,54,52,54,53,54,54,54,55,54,56,54,57,55,48,55,49,55,50,55,51,55,52,55,53,55,54,55,55,55,56,55,57,56,48,56,49,56,50,56,51,56,52,56,53,56,54,56,55,56,56,56,57,57,48,57,49,57,50,57,51,57,52,57,53,57,54,57,55,57,56,57,57])) e) λe=>bxQ h 1 a c λc=>stD h 1 c i λ_ h=>bxQ h 1 a f λc=>stD h 1 c e λ_ h=>bIQ .sub (ge l 1) (I 7) λc=>bIQ .sub (ge l 1) (I 8) λe=>bIQ .add g (.d (.int .u32 1)) λf=>bnd (ixS (.d (.str [48,48,48,49,48,50,48,51,48,52,48,53,48,54,48,55,48,56,48,57,49,48,49,49,49,50,49,51,49,52,49,53,49,54,49,55,49,56,49,57,50,48,50,49,50,50,50,51,50,52,50,53,50,54,50,55,50,56,50,57,51,48,51,49,51,50,51,51,51,52,51,53,51,54,51,55,51,56,51,57,52,48,52,49,52,50,52,51,52,52,52,53,52,54,52,55,52,56,52,57,53,48,53,49,53,50,53,51,53,52,53,53,53,54,53,55,53,56,53,57,54,48,54,49,54,50,54,51,54,52,54,53,54,54,54,55,54,56,54,57,55,48,55,49,55,50,55,51,55,52,55,53,55,54,55,55,55,56,55,57,56,48,56,49,56,50,56,51,56,52,56,53,56,54,56,55,56,56,56,57,57,48,57,49,57,50,57,51,57,52,57,53,57,54,57,55,57,56,57,57])) f) λf=>bnd (ixS (.d (.str [48,48,48,49,48,50,48,51,48,52,48,53,48,54,48,55,48,56,48,57,49,48,49,49,49,50,49,51,49,52,49,53,49,54,49,55,49,56,49,57,50,48,50,49,50,50,50,51,50,52,50,53,50,54,50,55,50,56,50,57,51,48,51,49,51,50,51,51,51,52,51,53,51,54,51,55,51,56,51,57,52,48,52,49,52,50,52,51,52,52,52,53,52,54,52,55,52,56,52,57,53,48,53,49,53,50,53,51,53,52,53,53,53,54,53,55,53,56,53,57,54,48,54,49,54,50,54,51,54,52,54,53,54,54,54,55,54,56,54,57,55,48,55,49,55,50,55,51,55,52,55,53,55,54,55,55,55,56,55,57,56,48,56,49,56,50,56,51,56,52,56,53,56,54,56,55,56,56,56,57,57,48,57,49,57,50,57,51,57,52,57,53,57,54,57,55,57,56,57,57])) g) λg=>bxQ h 1 a c λc=>stD h 1 c f λ_ h=>bxQ h 1 a e λa=>stD h 1 a g λ_ h=>bIQ .sub (ge l 1) (I 8) λa=>q .normal [d,a] h) (q (.exit 0) [ge l 0,ge l 1] h)
def bM(C:CC)(b:Nat)(h:Hp)(a c:V)(q:kQ):Prop:=let h:Hp:=h++List.replicate 0 nnQ
 blQ a λd=>lp (eA C b a) [] h [c,d] h (exK [((.exit 0),λc h=>bnd (cvI .u32 (ge c 0)) λd=>bIQ .geq (ge c 1) (I 4) λe=>jn (λc h=>bIQ .geq (ge c 1) (I 2) λd=>jn (λc h=>bIQ .gtr (ge c 1) (I 0) λd=>jn (λa h=>q (.tup []) h) λe=>cnd d (bIQ .add (.d (.int .u32 48)) (ge c 0) λc=>bnd (cvI .u8 c) λc=>bxQ h 1 a (I 0) λa=>stD h 1 a c λ_ h=>e [] h) (e [] h)) λe=>cnd d (bIQ .rem (ge c 0) (.d (.int .u32 100)) λd=>bIQ .mul d (.d (.int .u32 2)) λd=>bIQ .quo (ge c 0) (.d (.int .u32 100)) λf=>bIQ .sub (ge c 1) (I 1) λg=>bIQ .sub (ge c 1) (I 2) λi=>bIQ .add d (.d (.int .u32 1)) λj=>bnd (ixS (.d (.str [48,48,48,49,48,50,48,51,48,52,48,53,48,54,48,55,48,56,48,57,49,48,49,49,49,50,49,51,49,52,49,53,49,54,49,55,49,56,49,57,50,48,50,49,50,50,50,51,50,52,50,53,50,54,50,55,50,56,50,57,51,48,51,49,51,50,51,51,51,52,51,53,51,54,51,55,51,56,51,57,52,48,52,49,52,50,52,51,52,52,52,53,52,54,52,55,52,56,52,57,53,48,53,49,53,50,53,51,53,52,53,53,53,54,53,55,53,56,53,57,54,48,54,49,54,50,54,51,54,52,54,53,54,54,54,55,54,56,54,57,55,48,55,49,55,50,55,51,55,52,55,53,55,54,55,55,55,56,55,57,56,48,56,49,56,50,56,51,56,52,56,53,56,54,56,55,56,56,56,57,57,48,57,49,57,50,57,51,57,52,57,53,57,54,57,55,57,56,57,57])) j) λj=>bnd (ixS (.d (.str [48,48,48,49,48,50,48,51,48,52,48,53,48,54,48,55,48,56,48,57,49,48,49,49,49,50,49,51,49,52,49,53,49,54,49,55,49,56,49,57,50,48,50,49,50,50,50,51,50,52,50,53,50,54,50,55,50,56,50,57,51,48,51,49,51,50,51,51,51,52,51,53,51,54,51,55,51,56,51,57,52,48,52,49,52,50,52,51,52,52,52,53,52,54,52,55,52,56,52,57,53,48,53,49,53,50,53,51,53,52,53,53,53,54,53,55,53,56,53,57,54,48,54,49,54,50,54,51,54,52,54,53,54,54,54,55,54,56,54,57,55,48,55,49,55,50,55,51,55,52,55,53,55,54,55,55,55,56,55,57,56,48,56,49,56,50,56,51,56,52,56,53,56,54,56,55,56,56,56,57,57,48,57,49,57,50,57,51,57,52,57,53,57,54,57,55,57,56,57,57])) d) λd=>bxQ h 1 a g λg=>stD h 1 g j λ_ h=>bxQ h 1 a i λa=>stD h 1 a d λ_ h=>bIQ .sub (ge c 1) (I 2) λa=>e [f,a] h) (e [ge c 0,ge c 1] h)) λf=>cnd e (bIQ .rem d (.d (.int .u32 10000)) λe=>bIQ .quo d (.d (.int .u32 10000)) λd=>bIQ .quo e (.d (.int .u32 100)) λg=>bIQ .mul g (.d (.int .u32 2)) λg=>bIQ .rem e (.d (.int .u32 100)) λe=>bIQ .mul e (.d (.int .u32 2)) λe=>bIQ .sub (ge c 1) (I 1) λi=>bIQ .sub (ge c 1) (I 2) λj=>bIQ .add e (.d (.int .u32 1)) λk=>bnd (ixS (.d (.str [48,48,48,49,48,50,48,51,48,52,48,53,48,54,48,55,48,56,48,57,49,48,49,49,49,50,49,51,49,52,49,53,49,54,49,55,49,56,49,57,50,48,50,49,50,50,50,51,50,52,50,53,50,54,50,55,50,56,50,57,51,48,51,49,51,50,51,51,51,52,51,53,51,54,51,55,51,56,51,57,52,48,52,49,52,50,52,51,52,52,52,53,52,54,52,55,52,56,52,57,53,48,53,49,53,50,53,51,53,52,53,53,53,54,53,55,53,56,53,57,54,48,54,49,54,50,54,51,54,52,54,53,54,54,54,55,54,56,54,57,55,48,55,49,55,50,55,51,55,52,55,53,55,54,55,55,55,56,55,57,56,48,56,49,56,50,56,51,56,52,56,53,56,54,56,55,56,56,56,57,57,48,57,49,57,50,57,51,57,52,57,53,57,54,57,55,57,56,57,57])) k) λk=>bnd (ixS (.d (.str [48,48,48,49,48,50,48,51,48,52,48,53,48,54,48,55,48,56,48,57,49,48,49,49,49,50,49,51,49,52,49,53,49,54,49,55,49,56,49,57,50,48,50,49,50,50,50,51,50,52,50,53,50,54,50,55,50,56,50,57,51,48,51,49,51,50,51,51,51,52,51,53,51,54,51,55,51,56,51,57,52,48,52,49,52,50,52,51,52,52,52,53,52,54,52,55,52,56,52,57,53,48,53,49,53,50,53,51,53,52,53,53,53,54,53,55,53,56,53,57,54,48,54,49,54,50,54,51,54,52,54,53,54,54,54,55,54,56,54,57,55,48,55,49,55,50,55,51,55,52,55,53,55,54,55,55,55,56,55,57,56,48,56,49,56,50,56,51,56,52,56,53,56,54,56,55,56,56,56,57,57,48,57,49,57,50,57,51,57,52,57,53,57,54,57,55,57,56,57,57])) e) λe=>bxQ h 1 a i λi=>stD h 1 i k λ_ h=>bxQ h 1 a j λi=>stD h 1 i e λ_ h=>bIQ .sub (ge c 1) (I 3) λe=>bIQ .sub (ge c 1) (I 4) λi=>bIQ .add g (.d (.int .u32 1)) λj=>bnd (ixS (.d (.str [48,48,48,49,48,50,48,51,48,52,48,53,48,54,48,55,48,56,48,57,49,48,49,49,49,50,49,51,49,52,49,53,49,54,49,55,49,56,49,57,50,48,50,49,50,50,50,51,50,52,50,53,50,54,50,55,50,56,50,57,51,48,51,49,51,50,51,51,51,52,51,53,51,54,51,55,51,56,51,57,52,48,52,49,52,50,52,51,52,52,52,53,52,54,52,55,52,56,52,57,53,48,53,49,53,50,53,51,53,52,53,53,53,54,53,55,53,56,53,57,54,48,54,49,54,50,54,51,54,52,54,53,54,54,54,55,54,56,54,57,55,48,55,49,55,50,55,51,55,52,55,53,55,54,55,55,55,56,55,57,56,48,56,49,56,50,56,51,56,52,56,53,56,54,56,55,56,56,56,57,57,48,57,49,57,50,57,51,57,52,57,53,57,54,57,55,57,56,57,57])) j) λj=>bnd (ixS (.d (.str [48,48,48,49,48,50,48,51,48,52,48,53,48,54,48,55,48,56,48,57,49,48,49,49,49,50,49,51,49,52,49,53,49,54,49,55,49,56,49,57,50,48,50,49,50,50,50,51,50,52,50,53,50,54,50,55,50,56,50,57,51,48,51,49,51,50,51,51,51,52,51,53,51,54,51,55,51,56,51,57,52,48,52,49,52,50,52,51,52,52,52,53,52,54,52,55,52,56,52,57,53,48,53,49,53,50,53,51,53,52,53,53,53,54,53,55,53,56,53,57,54,48,54,49,54,50,54,51,54,52,54,53,54,54,54,55,54,56,54,57,55,48,55,49,55,50,55,51,55,52,55,53,55,54,55,55,55,56,55,57,56,48,56,49,56,50,56,51,56,52,56,53,56,54,56,55,56,56,56,57,57,48,57,49,57,50,57,51,57,52,57,53,57,54,57,55,57,56,57,57])) g) λg=>bxQ h 1 a e λe=>stD h 1 e j λ_ h=>bxQ h 1 a i λa=>stD h 1 a g λ_ h=>bIQ .sub (ge c 1) (I 4) λa=>f [d,a] h) (f [d,ge c 1] h))])
def kx(b:Nat):Ann:=(.n .x .o (.n .x (.n .x (.n (.l [1,4] [0] [((.exit 0),[1,4],[0])] []) .o .o) .o) (.n .x .o (.n .x (.n .x .o (.n (.j [12,4] [0]) .o .o)) (.n .x (.n .x .o (.n (.j [12,4] [0]) .o .o)) (.n .x .o (.n (.j [] []) .o .o)))))))
theorem tn(C:CC)(h:Hp)(t0:V)(t1:V)(q:kkQ):fnI Y C Tryz.f186 0 kx [t0,t1] h q=bM C h.length h t0 t1 q:=by rfl
theorem ti(b:Nat):okB Tryz.prog Tryz.f186 (kx b)=true:=by rfl
theorem tj(hh:bM (CX Y) h.length h t0 t1 (od h.length v h2)):CI Y F.bM [t0,t1] h v h2:=
 CI.of (fn:=Tryz.f186) (m:=0) (a:=kx) rfl (λ_=>rfl) Tryz.func186 (ti _) (by rw[tn];exact hh)
def f9(C:CC)(a:V)(q:kQ):Prop:=let h:Hp:=[]
 bIQ .mul a (I 78913) λa=>bIQ .shr a (.d (.int .u64 18)) λa=>q a h
theorem vF(h:f9 (CX Y) t0 (out v)):CP Y F.f9 [t0] v:=CPo 0 .o Tryz.func196 h
def gj(C:CC)(a:V)(q:kQ):Prop:=let h:Hp:=[]
 cnd a (q (I 1) h) (q (I 0) h)
theorem vG(h:gj (CX Y) t0 (out v)):CP Y F.gj [t0] v:=CPo 0 .o Tryz.func197 h
def fe(C:CC)(a:V)(q:kQ):Prop:=let h:Hp:=[]
 bIQ .geq a (.d (.int .u64 4294967296)) λc=>jn (λa h=>bIQ .geq (ge a 0) (.d (.int .u64 65536)) λc=>jn (λa h=>bIQ .geq (ge a 0) (.d (.int .u64 256)) λc=>jn (λa h=>bnd (cvI .u8 (ge a 0)) λc=>bnd (ixS (.d (.str [0,1,2,2,3,3,3,3,4,4,4,4,4,4,4,4,5,5,5,5,5,5,5,5,5,5,5,5,5,5,5,5,6,6,6,6,6,6,6,6,6,6,6,6,6,6,6,6,6,6,6,6,6,6,6,6,6,6,6,6,6,6,6,6,7,7,7,7,7,7,7,7,7,7,7,7,7,7,7,7,7,7,7,7,7,7,7,7,7,7,7,7,7,7,7,7,7,7,7,7,7,7,7,7,7,7,7,7,7,7,7,7,7,7,7,7,7,7,7,7,7,7,7,7,7,7,7,7,8,8,8,8,8,8,8,8,8,8,8,8,8,8,8,8,8,8,8,8,8,8,8,8,8,8,8,8,8,8,8,8,8,8,8,8,8,8,8,8,8,8,8,8,8,8,8,8,8,8,8,8,8,8,8,8,8,8,8,8,8,8,8,8,8,8,8,8,8,8,8,8,8,8,8,8,8,8,8,8,8,8,8,8,8,8,8,8,8,8,8,8,8,8,8,8,8,8,8,8,8,8,8,8,8,8,8,8,8,8,8,8,8,8,8,8,8,8,8,8,8,8,8,8,8,8,8,8])) c) λc=>bnd (cvI .i64 c) λc=>bIQ .add (ge a 1) c λa=>q a h) λd=>cnd c (bIQ .shr (ge a 0) (.d (.int .u64 8)) λc=>bIQ .add (ge a 1) (I 8) λa=>d [c,a] h) (d [ge a 0,ge a 1] h)) λd=>cnd c (bIQ .shr (ge a 0) (.d (.int .u64 16)) λc=>bIQ .add (ge a 1) (I 16) λa=>d [c,a] h) (d [ge a 0,ge a 1] h)) λd=>cnd c (bIQ .shr a (.d (.int .u64 32)) λa=>d [a,I 32] h) (d [a,I 0] h)
theorem zC(h:fe (CX Y) t0 (out v)):CP Y F.fe [t0] v:=CPo 0 (aA (nBQ (aA (nJQ [0,2] [])) (nBQ (aA (nJQ [0,2] [])) (nCQ (aA (nJQ [0,2] [])))))) Tryz.func194 h
def gv(C:CC)(a c:V)(q:kkQ):Prop:=let h:Hp:=List.replicate 0 nnQ
 bnd (biI .and a (.d (.int .u64 4294967295))) λd=>bnd (biI .shr a (.d (.int .u64 32))) λe=>bnd (biI .and c (.d (.int .u64 4294967295))) λf=>bnd (biI .shr c (.d (.int .u64 32))) λg=>bnd (biI .mul d f) λi=>bnd (biI .mul e f) λf=>bnd (biI .shr i (.d (.int .u64 32))) λi=>bnd (biI .add f i) λf=>bnd (biI .and f (.d (.int .u64 4294967295))) λi=>bnd (biI .shr f (.d (.int .u64 32))) λf=>bnd (biI .mul d g) λd=>bnd (biI .add i d) λd=>bnd (biI .mul e g) λe=>bnd (biI .add e f) λe=>bnd (biI .shr d (.d (.int .u64 32))) λd=>bnd (biI .add e d) λd=>bnd (biI .mul a c) λa=>q (.tup [d,a]) h
theorem zB(h:gv (CX Y) t0 t1 (out v)):CP Y F.gv [t0,t1] v:=CPo 0 .o Tryz.func182 h
def strconv_Atoi(C:CC)(a:V)(q:kQ):Prop:=let h:Hp:=[]
 clQ C h F.ia [a] λc h=>e2Q c λc d=>bnd (biF .neq d (.d (.pl .nilIface))) λe=>cnd e (clQ C h F.Cr [(.d (.str [65,116,111,105])),a,I 0,I 0,d] λa h=>q (.tup [c,a]) h) (q (.tup [c,(.d (.pl .nilIface))]) h)
theorem wi(h:strconv_Atoi (CX Y) t0 (out v)):CP Y F.strconv_Atoi [t0] v:=CPo 0 .o Tryz.func120 h
def mT(C:CC)(a c:V):aM:=λl h q=>cIQ .lss (ge l 1) c (bxQ h 1 a (ge l 1) λa=>b1Q h a λa=>bIQ .sub a (.d (.int .u8 48)) λa=>cIQ .gtr a (.d (.int .u8 9)) (False /- makeInterface -/) (bIQ .mul (ge l 0) (I 10) λc=>bnd (cvI .i64 a) λa=>bIQ .add c a λa=>bIQ .add (ge l 1) (I 1) λc=>q .normal [a,c] h)) (q (.exit 0) [ge l 0] h)
def ia(C:CC)(a:V)(q:kQ):Prop:=let h:Hp:=[]
 bnd (oe a) λc=>gd (B false) true h (λq=>q c h) λd h=>gd (B false) true h (λq=>bIQ .lss (I 0) d λv=>q v h) λd h=>gd (B false) true h (λq=>q d h) λd h=>gqQ d true h c λe h=>gbQ d true h (biI .lss e (I 10)) λe h=>gd (B false) true h (λq=>bpQ d e (B false) λv=>q v h) λd h=>bpQ (B false) d (B false) λd=>gqQ d false h (B true) λe h=>gqQ e true h c λf h=>gbQ e true h (biI .lss (I 0) f) λf h=>gqQ e true h f λf h=>gqQ f true h c λc h=>gbQ f true h (biI .lss c (I 19)) λc h=>gbQ e true h (mP f c (B false)) λc h=>gbQ d false h (mP e c (B false)) λc h=>bpQ d (B true) c λc=>cnd c (bnd (ixS a (I 0)) λc=>bIQ .eql c (.d (.int .u8 45)) λc=>gqQ c false h a λd h=>gbQ c false h (ixS d (I 0)) λd h=>gbQ c false h (biI .eql d (.d (.int .u8 43))) λd h=>bpQ c (B true) d λc=>jn (λc h=>cvB (ge c 0) h λc h=>blQ c λd=>lp (mT C c d) [] h [I 0,I 0] h (exK [((.exit 0),λc h=>bnd (ixS a (I 0)) λa=>bIQ .eql a (.d (.int .u8 45)) λa=>jn (λa h=>q (.tup [ge a 0,(.d (.pl .nilIface))]) h) λd=>cnd a (bnd (unV .neg (ge c 0)) λa=>d [a] h) (d [ge c 0] h)),(.ret,λa h=>q (.tup [ge a 0,ge a 1]) h)])) λd=>cnd c (bnd (slS a (some (I 1)) none) λa=>bnd (oe a) λc=>cIQ .lss c (I 1) (False /- makeInterface -/) (d [a] h)) (d [a] h)) (clQ C h F.yE [a,I 10,I 0] λa h=>e2Q a λa c=>q (.tup [a,c]) h)
theorem tZ(h:ia (CX Y) t0 (out v)):CP Y F.ia [t0] v:=CPo 0 (eE (nCQ (aA (nCQ (aA (nBQ (aA (nJQ [0] [5])) (aA (nBQ (aA (nCQ (.n (.l [6,49] [5,47,48] [((.exit 0),[6],[5]),(.ret,[2,3],[])] []) .o .o))) (nCQ (aA (nJQ [6] []))))))))))) Tryz.func154 h
def fG(C:CC)(a c:V):aM:=λl h q=>cIQ .lss (ge l 0) c (bxQ h 1 a (ge l 0) λa=>b1Q h a λa=>bIQ .lss a (.d (.int .u8 48)) λc=>gqQ c false h a λa h=>gbQ c false h (biI .gtr a (.d (.int .u8 57))) λa h=>bpQ c (B true) a λa=>cnd a (q .ret [B false] h) (bIQ .add (ge l 0) (I 1) λa=>q .normal [a] h)) (q (.exit 0) [] h)
def iD(C:CC)(a:V)(q:kQ):Prop:=let h:Hp:=[]
 cvB a h λc h=>blQ c λd=>lp (fG C c d) [] h [I 0] h (exK [((.exit 0),λc h=>bnd (oe a) λc=>bIQ .eql c (I 1) λc=>gqQ c false h a λd h=>gbQ c false h (oe d) λd h=>gbQ c false h (biI .gtr d (I 1)) λd h=>gqQ c false h d λd h=>gqQ d true h a λa h=>gbQ d true h (ixS a (I 0)) λa h=>gbQ d true h (biI .neq a (.d (.int .u8 48))) λa h=>gbQ c false h (mP d a (B false)) λa h=>bpQ c (B true) a λa=>q a h),(.ret,λa h=>q (ge a 0) h)])
theorem xU(h:iD (CX Y) t0 (out v)):CP Y F.iD [t0] v:=CPo 0 (aA (nCQ (aA (nCQ (.n (.l [8] [0,6,7] [((.exit 0),[],[0]),(.ret,[2],[])] []) .o .o))))) Tryz.func180 h
def kD(C:CC)(a:V)(q:kQ):Prop:=let h:Hp:=[]
 clQ C h F.iD [a] λc h=>bnd (unV .not c) λc=>gqQ c false h a λa h=>gbQ c false h (oe a) λa h=>gbQ c false h (biI .gtr a (I 400)) λa h=>bpQ c (B true) a λa=>cnd a (q (I 2) h) (q (I 0) h)
theorem CW(h:kD (CX Y) t0 (out v)):CP Y F.kD [t0] v:=CPo 0 .o Tryz.func158 h
def bN(C:CC)(b:Nat):aM:=λl h q=>blQ (ge l 0) λa=>bIQ .gtr a (I 0) λa=>gqQ a true h (ge l 0) λc h=>gqQ a true h (ge l 0) λd h=>gbQ a true h (aN d) λd h=>gbQ a true h (biI .sub d (I 1)) λd h=>gbQ a true h (ixV h 1 c d) λc h=>gbQ a true h (ld1 h c) λc h=>gbQ a true h (biI .eql c (.d (.int .u64 0))) λc h=>bpQ a c (B false) λa=>cnd a (blQ (ge l 0) λa=>bIQ .sub a (I 1) λa=>bnd (slV h 1 (ge l 0) none (some a)) λa=>q .normal [a] h) (q (.exit 0) [ge l 0] h)
def ay(C:CC)(b:Nat)(h:Hp)(a:V)(q:kQ):Prop:=let h:Hp:=h++List.replicate 0 nnQ
 lp (bN C b) [] h [a] h (exK [((.exit 0),λa h=>q (ge a 0) h)])
def mL(b:Nat):Ann:=(.n .x .o (.n .x (.n .x (.n (.l [0] [] [((.exit 0),[0],[])] []) .o .o) .o) .o))
theorem vJ(C:CC)(h:Hp)(t0:V)(q:kkQ):fnI Y C Tryz.f144 0 mL [t0] h q=ay C h.length h t0 q:=by rfl
theorem vI(b:Nat):okB Tryz.prog Tryz.f144 (mL b)=true:=by rfl
theorem pQ(hh:ay (CX Y) h.length h t0 (od h.length v h2)):CI Y F.ay [t0] h v h2:=
 CI.of (fn:=Tryz.f144) (m:=0) (a:=mL) rfl (λ_=>rfl) Tryz.func144 (vI _) (by rw[vJ];exact hh)
def pJ(C:CC)(b:Nat)(a c:V):aM:=λl h q=>cIQ .lss (ge l 1) c (bxQ h 1 a (ge l 1) λa=>b1Q h a λa=>bIQ .mul (.d (.int .u64 10)) (ge l 0) λc=>bIQ .sub a (.d (.int .u8 48)) λa=>bnd (cvI .u64 a) λa=>bIQ .add c a λa=>bIQ .add (ge l 1) (I 1) λc=>q .normal [a,c] h) (q (.exit 2) [ge l 0] h)
def pK(C:CC)(b:Nat)(a:V):aM:=λl h q=>cIQ .gtr (ge l 1) (I 0) (bIQ .sub (ge l 1) (I 9) λc=>bnd (mxI true [I 0,c]) λc=>bnd (slS a (some c) (some (ge l 1))) λa=>cvB a h λa h=>blQ a λc=>lp (pJ C b a c) [] h [(.d (.int .u64 0)),I 0] h (exK [((.exit 2),λa h=>dI 1 [.int .u64 0] [(0,(ge a 0))] h λa h=>apV false (b+1) 1 8 (ge l 0) a h λa h=>bIQ .sub (ge l 1) (I 9) λc=>q .normal [a,c] h)])) (q (.exit 0) [ge l 0] h)
def cY(C:CC)(b:Nat)(h:Hp)(a:V)(q:kQ):Prop:=let h:Hp:=h++List.replicate 3 nnQ
 bnd (oe a) λc=>bIQ .quo c (I 9) λc=>bIQ .add c (I 1) λc=>mkS (b+0) 8 [.int .u64 0] h (I 0) c λc h=>bnd (oe a) λd=>lp (pK C b a) [] h [c,d] h (exK [((.exit 0),λa h=>ciQ C h F.ay [ge a 0] (b+2) q)])
def tz(b:Nat):Ann:=(.n .x .o (.n .x (.n (.r [.slot (b+0)]) .o .o) (.n .x (.n .x .o (.n .x (.n (.l [3,4] [0] [((.exit 0),[3],[])] []) (.n .x .o (.n .x (.n .x (.n .x .o (.n .x (.n .x .o (.n .x (.n (.l [5,27] [0,3,4,25,26] [((.exit 2),[5],[0,3,4])] []) .o .o) .o)) (.n (.r [.o,.slot (b+1)]) .o .o))) .o) .o)) .o) .o)) (.n .x (.n (.r [.inl (b+2)]) .o .o) .o))))
theorem GP(C:CC)(h:Hp)(t0:V)(q:kkQ):fnI Y C Tryz.f123 3 tz [t0] h q=cY C h.length h t0 q:=by rfl
theorem GN(b:Nat):okB Tryz.prog Tryz.f123 (tz b)=true:=by rfl
theorem GO(hh:cY (CX Y) h.length h t0 (od h.length v h2)):CI Y F.cY [t0] h v h2:=
 CI.of (fn:=Tryz.f123) (m:=3) (a:=tz) rfl (λ_=>rfl) Tryz.func123 (GN _) (by rw[GP];exact hh)
def dL(C:CC)(b:Nat)(a:V):aM:=λl h q=>cIQ .lss (ge l 0) (ge l 1) (bxQ h 1 a (ge l 1) λc=>b1Q h c λc=>bxQ h 1 a (ge l 0) λd=>b1Q h d λd=>bxQ h 1 a (ge l 0) λe=>stD h 1 e c λ_ h=>bxQ h 1 a (ge l 1) λa=>stD h 1 a d λ_ h=>bIQ .add (ge l 0) (I 1) λa=>bIQ .sub (ge l 1) (I 1) λc=>q .normal [a,c] h) (q (.exit 0) [] h)
def bQ(C:CC)(b:Nat)(h:Hp)(a:V)(q:kQ):Prop:=let h:Hp:=h++List.replicate 0 nnQ
 blQ a λc=>bIQ .sub c (I 1) λc=>lp (dL C b a) [] h [I 0,c] h (exK [((.exit 0),λa h=>q (.tup []) h)])
def jw(b:Nat):Ann:=(.n .x .o (.n .x (.n (.l [2,3] [0] [((.exit 0),[],[])] []) .o .o) .o))
theorem rX(C:CC)(h:Hp)(t0:V)(q:kkQ):fnI Y C Tryz.f157 0 jw [t0] h q=bQ C h.length h t0 q:=by kernel_rfl
theorem rV(b:Nat):okB Tryz.prog Tryz.f157 (jw b)=true:=of_decide_eq_true ag
theorem rW(hh:bQ (CX Y) h.length h t0 (od h.length v h2)):CI Y F.bQ [t0] h v h2:=
 CI.of (fn:=Tryz.f157) (m:=0) (a:=jw) rfl (λ_=>rfl) Tryz.func157 (rV _) (by rw[rX];exact hh)
def dd(C:CC)(a c:V):aM:=λl h q=>bIQ .lss (ge l 2) (I 9) λd=>gqQ d true h c λc h=>gbQ d true h (biI .add c (I 1)) λc h=>gqQ d true h a λa h=>gbQ d true h (aN a) λa h=>gbQ d true h (biI .lss c a) λa h=>gqQ d true h a λa h=>gqQ a false h (ge l 1) λc h=>gbQ a false h (biI .gtr c (.d (.int .u64 0))) λc h=>gbQ d true h (mP a (B true) c) λa h=>bpQ d a (B false) λa=>cnd a (bIQ .rem (ge l 1) (.d (.int .u64 10)) λa=>bIQ .add (.d (.int .u64 48)) a λa=>bnd (cvI .u8 a) λa=>dI 1 [.int .u8 0] [(0,a)] h λa h=>apV false 1 1 1 (ge l 0) a h λa h=>bIQ .quo (ge l 1) (.d (.int .u64 10)) λc=>bIQ .add (ge l 2) (I 1) λd=>q .normal [a,c,d] h) (q (.exit 2) [ge l 0] h)
def iY(C:CC)(a c d:V):aM:=λl h q=>cIQ .lss (ge l 1) d (bxQ h 1 c (ge l 1) λc=>b1Q h c λc=>lp (dd C a (ge l 1)) [] h [ge l 0,c,I 0] h (exK [((.exit 2),λa h=>bIQ .add (ge l 1) (I 1) λc=>q .normal [ge a 0,c] h)])) (q (.exit 0) [ge l 0] h)
def aK(C:CC)(a:V)(q:kQ):Prop:=let h:Hp:=.replicate 3 nnQ
 blQ a λc=>cIQ .eql c (I 0) (q (.d (.str [48])) h) (blQ a λc=>bIQ .mul (I 9) c λc=>mkS 0 1 [.int .u8 0] h (I 0) c λc h=>blQ a λd=>lp (iY C a a d) [] h [c,I 0] h (exK [((.exit 0),λa h=>ciQ C h F.bQ [ge a 0] 2 λc h=>bnd (cvT h (ge a 0)) λa=>q a h)]))
theorem vK(h:aK (CX Y) t0 (out v)):CP Y F.aK [t0] v:=CPo 3 (eE (nBQ (nRQ [.slot 0]) (nBQ (aA (nCQ (.n (.l [3,16] [0,14,15] [((.exit 0),[3],[])] []) (eE (nCQ (nCQ (eE (nCQ (.n (.l [3,5,6] [0,4,14,15,16] [((.exit 2),[3],[0,14,15,16])] []) (aA (nCQ (nCQ (nCQ (nRQ [.o,.slot 1]))))) .o)))))) .o))) (nCQ (nRQ [.inl 2]))))) Tryz.func125 h
def cZ(C:CC)(a c:V):aM:=λl h q=>cIQ .geq (ge l 0) (I 0) (bxQ h 1 a (ge l 0) λd=>b1Q h d λd=>bxQ h 1 c (ge l 0) λe=>b1Q h e λe=>cIQ .lss d e (q .ret [I (-1)] h) (bxQ h 1 a (ge l 0) λa=>b1Q h a λa=>bxQ h 1 c (ge l 0) λc=>b1Q h c λc=>cIQ .gtr a c (q .ret [I 1] h) (bIQ .sub (ge l 0) (I 1) λa=>q .normal [a] h))) (q (.exit 0) [] h)
def cx(C:CC)(a c:V)(q:kQ):Prop:=let h:Hp:=[]
 blQ a λd=>blQ c λe=>cIQ .neq d e (blQ a λa=>blQ c λc=>bIQ .sub a c λa=>bnd (mxI true [I (-1),a]) λa=>bnd (mxI false [I 1,a]) λa=>q a h) (blQ a λd=>bIQ .sub d (I 1) λd=>lp (cZ C a c) [] h [d] h (exK [((.exit 0),λa h=>q (I 0) h),(.ret,λa h=>q (ge a 0) h)]))
theorem tv(h:cx (CX Y) t0 t1 (out v)):CP Y F.cx [t0,t1] v:=CPo 0 (eE (nCQ (aA (nCQ (.n (.l [5] [0,1] [((.exit 0),[],[]),(.ret,[4],[])] []) .o .o))))) Tryz.func151 h
def iA(C:CC)(b:Nat)(a c d e f:V):aM:=λl h q=>cIQ .lss (ge l 1) f (bxQ h 1 e (ge l 1) λe=>b1Q h e λe=>bIQ .add c (ge l 1) λf=>bxQ h 1 a f λf=>b1Q h f λf=>bIQ .mul d e λd=>bIQ .add f d λd=>bIQ .add (ge l 0) d λd=>bIQ .add c (ge l 1) λc=>bIQ .rem d (.d (.int .u64 1000000000)) λe=>bxQ h 1 a c λa=>stD h 1 a e λ_ h=>bIQ .quo d (.d (.int .u64 1000000000)) λa=>bIQ .add (ge l 1) (I 1) λc=>q .normal [a,c] h) (q (.exit 2) [ge l 0] h)
def iB(C:CC)(b:Nat)(a c d e:V):aM:=λl h q=>cIQ .lss (ge l 0) e (bxQ h 1 d (ge l 0) λd=>b1Q h d λd=>blQ a λe=>lp (iA C b c (ge l 0) d a e) [] h [(.d (.int .u64 0)),I 0] h (exK [((.exit 2),λd h=>blQ a λa=>bIQ .add (ge l 0) a λa=>bxQ h 1 c a λa=>stD h 1 a (ge d 0) λ_ h=>bIQ .add (ge l 0) (I 1) λa=>q .normal [a] h)])) (q (.exit 0) [] h)
def bB(C:CC)(b:Nat)(h:Hp)(a c:V)(q:kQ):Prop:=let h:Hp:=h++List.replicate 2 nnQ
 blQ a λd=>blQ c λe=>bIQ .add d e λd=>mkS (b+0) 8 [.int .u64 0] h d d λd h=>blQ a λe=>lp (iB C b c d a e) [] h [I 0] h (exK [((.exit 0),λa h=>ciQ C h F.ay [d] (b+1) q)])
def md(b:Nat):Ann:=(.n .x .o (.n .x (.n (.r [.slot (b+0)]) .o .o) (.n .x (.n .x .o (.n .x (.n (.l [19] [1,5,17,18] [((.exit 0),[],[5])] []) (.n .x .o (.n .x .o (.n .x (.n .x (.n .x .o (.n .x .o (.n .x (.n .x .o (.n .x (.n (.l [8,26] [1,5,6,7,17,18,19,24,25] [((.exit 2),[8],[1,5,6,17,18,19])] []) .o .o) .o)) .o))) .o) .o))) .o) .o)) (.n .x (.n (.r [.inl (b+1)]) .o .o) .o))))
theorem uZ(C:CC)(h:Hp)(t0:V)(t1:V)(q:kkQ):fnI Y C Tryz.f124 2 md [t0,t1] h q=bB C h.length h t0 t1 q:=by rfl
theorem uX(b:Nat):okB Tryz.prog Tryz.f124 (md b)=true:=by rfl
theorem uY(hh:bB (CX Y) h.length h t0 t1 (od h.length v h2)):CI Y F.bB [t0,t1] h v h2:=
 CI.of (fn:=Tryz.f124) (m:=2) (a:=md) rfl (λ_=>rfl) Tryz.func124 (uX _) (by rw[uZ];exact hh)
def b9(C:CC)(b:Nat)(h:Hp)(a c:V)(q:kQ):Prop:=let h:Hp:=h++List.replicate 2 nnQ
 dI 1 [.int .u64 0] [(0,c)] h λc h=>ciQ C h F.ay [c] (b+0) λc h=>ciQ C h F.bB [a,c] (b+1) q
def lj(b:Nat):Ann:=(.n .x .o (.n .x (.n (.r [.o,.inl (b+0),.inl (b+1)]) .o .o) .o))
theorem ua(C:CC)(h:Hp)(t0:V)(t1:V)(q:kkQ):fnI Y C Tryz.f177 2 lj [t0,t1] h q=b9 C h.length h t0 t1 q:=by rfl
theorem t7(b:Nat):okB Tryz.prog Tryz.f177 (lj b)=true:=by rfl
theorem t8(hh:b9 (CX Y) h.length h t0 t1 (od h.length v h2)):CI Y F.b9 [t0,t1] h v h2:=
 CI.of (fn:=Tryz.f177) (m:=2) (a:=lj) rfl (λ_=>rfl) Tryz.func177 (t7 _) (by rw[ua];exact hh)
def iC(C:CC)(a c d:V):aM:=λl h q=>cIQ .geq (ge l 1) (I 0) (bIQ .mul (ge l 0) (.d (.int .u64 1000000000)) λe=>bxQ h 1 a (ge l 1) λa=>b1Q h a λa=>bIQ .add e a λa=>bIQ .quo a c λe=>bxQ h 1 d (ge l 1) λd=>stD h 1 d e λ_ h=>bIQ .rem a c λa=>bIQ .sub (ge l 1) (I 1) λc=>q .normal [a,c] h) (q (.exit 0) [ge l 0] h)
def cX(C:CC)(a c:V)(q:kQ):Prop:=let h:Hp:=.replicate 2 nnQ
 blQ a λd=>mkS 0 8 [.int .u64 0] h d d λd h=>blQ a λe=>bIQ .sub e (I 1) λe=>lp (iC C a c d) [] h [(.d (.int .u64 0)),e] h (exK [((.exit 0),λa h=>ciQ C h F.ay [d] 1 λc h=>q (.tup [c,ge a 0]) h)])
theorem u5(h:cX (CX Y) t0 t1 (out v)):CP Y F.cX [t0,t1] v:=CPo 2 (aA (nBQ (nRQ [.slot 0]) (aA (nBQ (aA (nCQ (.n (.l [7,8] [0,1,6] [((.exit 0),[7],[6])] []) .o .o))) (nCQ (nRQ [.inl 1])))))) Tryz.func152 h
def fU(C:CC)(b:Nat)(a c d e:V):aM:=λl h q=>blQ c λf=>cIQ .leq (ge l 2) f (blQ c λf=>bIQ .lss (ge l 2) f λf=>jn (λc h=>bIQ .add e (ge l 2) λd=>bxQ h 1 a d λd=>b1Q h d λd=>bnd (cvI .i64 d) λd=>bIQ .rem (ge c 0) (.d (.int .u64 1000000000)) λf=>bnd (cvI .i64 f) λf=>bIQ .sub d f λd=>bIQ .sub d (ge l 1) λd=>bIQ .quo (ge c 0) (.d (.int .u64 1000000000)) λc=>bIQ .lss d (I 0) λf=>jn (λd h=>bIQ .add e (ge l 2) λe=>bnd (cvI .u64 (ge d 0)) λf=>bxQ h 1 a e λa=>stD h 1 a f λ_ h=>bIQ .add (ge l 2) (I 1) λa=>q .normal [c,ge d 1,a] h) λa=>cnd f (bIQ .add d (I 1000000000) λc=>a [c,I 1] h) (a [d,I 0] h)) λa=>cnd f (bxQ h 1 c (ge l 2) λc=>b1Q h c λc=>bIQ .mul d c λc=>bIQ .add (ge l 0) c λc=>a [c] h) (a [ge l 0] h)) (q (.exit 0) [ge l 1] h)
def dD(C:CC)(b:Nat)(h:Hp)(a c d e:V)(q:kQ):Prop:=let h:Hp:=h++List.replicate 0 nnQ
 lp (fU C b a c d e) [] h [(.d (.int .u64 0)),I 0,I 0] h (exK [((.exit 0),λa h=>bIQ .gtr (ge a 0) (I 0) λa=>q a h)])
def mM(b:Nat):Ann:=(.n .x .o (.n .x .o (.n .x .o (.n .x (.n .x .o (.n .x (.n (.l [10,9,11] [0,1,2,3] [((.exit 0),[9],[])] []) (.n .x .o (.n .x (.n .x (.n .x (.n .x .o (.n (.j [10] [0,1,2,3,9,11]) .o .o)) (.n .x .o (.n .x .o (.n .x .o (.n .x (.n .x .o (.n (.j [12,9] [0,1,2,3,10,11]) .o .o)) .o))))) .o) .o)) .o) .o)) .o))))
theorem vN(C:CC)(h:Hp)(t0:V)(t1:V)(t2:V)(t3:V)(q:kkQ):fnI Y C Tryz.f145 0 mM [t0,t1,t2,t3] h q=dD C h.length h t0 t1 t2 t3 q:=by rfl
theorem vL(b:Nat):okB Tryz.prog Tryz.f145 (mM b)=true:=by rfl
theorem vM(hh:dD (CX Y) h.length h t0 t1 t2 t3 (od h.length v h2)):CI Y F.dD [t0,t1,t2,t3] h v h2:=
 CI.of (fn:=Tryz.f145) (m:=0) (a:=mM) rfl (λ_=>rfl) Tryz.func145 (vL _) (by rw[vN];exact hh)
def iZ(C:CC)(b:Nat)(a c d:V):aM:=λl h q=>blQ c λe=>cIQ .leq (ge l 1) e (bIQ .add d (ge l 1) λe=>bxQ h 1 a e λe=>b1Q h e λe=>bIQ .add (ge l 0) e λe=>blQ c λf=>bIQ .lss (ge l 1) f λf=>jn (λc h=>bIQ .add d (ge l 1) λd=>bIQ .rem (ge c 0) (.d (.int .u64 1000000000)) λe=>bxQ h 1 a d λa=>stD h 1 a e λ_ h=>bIQ .quo (ge c 0) (.d (.int .u64 1000000000)) λa=>bIQ .add (ge l 1) (I 1) λc=>q .normal [a,c] h) λa=>cnd f (bxQ h 1 c (ge l 1) λc=>b1Q h c λc=>bIQ .add e c λc=>a [c] h) (a [e] h)) (q (.exit 0) [] h)
def cL(C:CC)(b:Nat)(h:Hp)(a c d:V)(q:kQ):Prop:=let h:Hp:=h++List.replicate 0 nnQ
 lp (iZ C b a c d) [] h [(.d (.int .u64 0)),I 0] h (exK [((.exit 0),λa h=>q (.tup []) h)])
def mN(b:Nat):Ann:=(.n .x .o (.n .x .o (.n .x (.n (.l [6,7] [0,1,2] [((.exit 0),[],[])] []) (.n .x .o (.n .x (.n .x (.n .x .o (.n .x (.n .x .o (.n (.j [6] [0,1,2,7]) .o .o)) .o)) .o) .o)) .o) .o)))
theorem vQ(C:CC)(h:Hp)(t0:V)(t1:V)(t2:V)(q:kkQ):fnI Y C Tryz.f143 0 mN [t0,t1,t2] h q=cL C h.length h t0 t1 t2 q:=by rfl
theorem vO(b:Nat):okB Tryz.prog Tryz.f143 (mN b)=true:=by rfl
theorem vP(hh:cL (CX Y) h.length h t0 t1 t2 (od h.length v h2)):CI Y F.cL [t0,t1,t2] h v h2:=
 CI.of (fn:=Tryz.f143) (m:=0) (a:=mN) rfl (λ_=>rfl) Tryz.func143 (vO _) (by rw[vQ];exact hh)
def kC(C:CC)(a:V):aM:=λl h q=>blQ (ge l 0) λc=>blQ a λa=>cIQ .leq c a (dI 1 [.int .u64 0] [(0,(.d (.int .u64 0)))] h λa h=>apV false 3 1 8 (ge l 0) a h λa h=>q .normal [a] h) (q (.exit 0) [ge l 0] h)
def bv(C:CC)(a c d e:V):aM:=λl h q=>bIQ .geq (ge l 0) (.d (.int .u64 1000000000)) λf=>gqQ f false h (ge l 1) λg h=>gbQ f false h (biI .lss g (.d (.int .u64 1000000000))) λg h=>gqQ f false h g λg h=>gqQ g true h (ge l 0) λi h=>gqQ g true h c λj h=>gqQ g true h d λk h=>gbQ g true h (biI .sub k (I 2)) λk h=>gbQ g true h (ixV h 1 j k) λj h=>gbQ g true h (ld1 h j) λj h=>gbQ g true h (biI .mul i j) λi h=>gqQ g true h (ge l 1) λj h=>gbQ g true h (biI .mul j (.d (.int .u64 1000000000))) λj h=>gqQ g true h a λa h=>gqQ g true h e λe h=>gqQ g true h d λk h=>gbQ g true h (biI .add e k) λe h=>gbQ g true h (biI .sub e (I 2)) λe h=>gbQ g true h (ixV h 1 a e) λa h=>gbQ g true h (ld1 h a) λa h=>gbQ g true h (biI .add j a) λa h=>gbQ g true h (biI .gtr i a) λa h=>gbQ f false h (mP g a (B false)) λa h=>bpQ f (B true) a λa=>cnd a (bIQ .sub (ge l 0) (.d (.int .u64 1)) λa=>bIQ .sub d (I 1) λd=>bxQ h 1 c d λc=>b1Q h c λc=>bIQ .add (ge l 1) c λc=>q .normal [a,c] h) (q (.exit 4) [ge l 0] h)
def du(C:CC)(a c d e:V):aM:=λl h q=>cIQ .geq (ge l 0) (I 0) (bIQ .add (ge l 0) d λf=>bxQ h 1 a f λf=>b1Q h f λf=>bIQ .mul f (.d (.int .u64 1000000000)) λf=>bIQ .add (ge l 0) d λg=>bIQ .sub g (I 1) λg=>bxQ h 1 a g λg=>b1Q h g λg=>bIQ .add f g λf=>bIQ .sub d (I 1) λg=>bxQ h 1 c g λg=>b1Q h g λg=>bIQ .quo f g λg=>bIQ .sub d (I 1) λi=>bxQ h 1 c i λi=>b1Q h i λi=>bIQ .rem f i λf=>lp (bv C a c d (ge l 0)) [] h [g,f] h (exK [((.exit 4),λd h=>ciQ C h F.dD [a,c,ge d 0,ge l 0] 5 λf h=>jn (λa h=>bxQ h 1 e (ge l 0) λc=>stD h 1 c (ge a 0) λ_ h=>bIQ .sub (ge l 0) (I 1) λa=>q .normal [a] h) λe=>cnd f (bIQ .sub (ge d 0) (.d (.int .u64 1)) λd=>ciQ C h F.cL [a,c,ge l 0] 6 λa h=>e [d] h) (e [ge d 0] h))])) (q (.exit 2) [] h)
def dJ(C:CC)(a c:V)(q:kQ):Prop:=let h:Hp:=.replicate 9 nnQ
 blQ c λd=>bIQ .sub d (I 1) λd=>bxQ h 1 c d λd=>b1Q h d λd=>bIQ .add d (.d (.int .u64 1)) λd=>bIQ .quo (.d (.int .u64 1000000000)) d λd=>ciQ C h F.b9 [a,d] 0 λe h=>dI 1 [.int .u64 0] [(0,(.d (.int .u64 0)))] h λf h=>apV false 1 1 8 e f h λe h=>ciQ C h F.b9 [c,d] 2 λc h=>blQ c λf=>lp (kC C a) [] h [e] h (exK [((.exit 0),λa h=>blQ (ge a 0) λe=>bIQ .sub e f λe=>mkS 4 8 [.int .u64 0] h e e λe h=>blQ (ge a 0) λg=>bIQ .sub g f λg=>bIQ .sub g (I 1) λg=>lp (du C (ge a 0) c f e) [5,6] h [g] h (exK [((.exit 2),λc h=>ciQ C h F.ay [ge a 0] 7 λa h=>clQ C h F.cX [a,d] λa h=>e2Q a λa c=>ciQ C h F.ay [e] 8 λc h=>q (.tup [c,a]) h)]))])
def lu:Ann:=(eE (nBQ (nRQ [.inl 0,.o,.slot 1,.inl 2]) (aA (nBQ (nCQ (.n (.l [7] [0,6,8,9] [((.exit 0),[7],[6,8,9])] []) (aA (nCQ (nRQ [.o,.slot 3]))) .o)) (nBQ (nRQ [.slot 4]) (nBQ (aA (nCQ (.n (.l [11] [6,7,8,9,10] [((.exit 2),[],[6,7,10])] [5,6]) (aA (nCQ (nCQ (eE (nBQ (nCQ (.n (.l [13,14] [6,7,8,9,10,11] [((.exit 4),[13],[6,7,8,9,10,11])] []) .o .o)) (nCQ (nBQ (nRQ [.inl 5]) (.n (.j [13] [6,7,8,9,10,11]) (aA (nRQ [.inl 6])) .o)))))))) .o))) (nBQ (nRQ [.inl 7]) (nCQ (nRQ [.inl 8])))))))))
attribute [local irreducible] bnd gd cal cnd ext dI vv stD alV alD eU jn lp exK mkS apV cai yv in
theorem uh(C:CC)(t0:V)(t1:V)(q:kkQ):fnD Y C Tryz.f153 9 lu [t0,t1] q=dJ C t0 t1 q:=Pv
theorem uf:okB Tryz.prog Tryz.f153 lu=true:=aG
theorem ug(h:dJ (CX Y) t0 t1 (out v)):CP Y F.dJ [t0,t1] v:=
 CP.of (fn:=Tryz.f153) (m:=9) (a:=lu) rfl (λ_=>rfl) Tryz.func153 uf (by rw[uh];exact h)
def dP(C:CC)(a c d:V):aM:=λl h q=>cIQ .lss (ge l 0) d (bxQ h 1 a (ge l 0) λa=>b1Q h a λa=>cal C.p h c [a] λa h=>cnd a (q .ret [ge l 0] h) (bIQ .add (ge l 0) (I 1) λa=>q .normal [a] h)) (q (.exit 0) [] h)
def aV(C:CC)(a c:V)(q:kQ):Prop:=let h:Hp:=[]
 blQ a λd=>lp (dP C a c d) [] h [I 0] h (exK [((.exit 0),λa h=>q (I (-1)) h),(.ret,λa h=>q (ge a 0) h)])
theorem pU(h:aV (CX Y) t0 t1 (out v)):CP Y F.aV [t0,t1] v:=CPo 0 (aA (nCQ (aA (nCQ (.n (.l [8] [0,1,7] [((.exit 0),[],[]),(.ret,[4],[])] []) .o .o))))) Tryz.func142 h
def aX(C:CC)(a c:V)(q:kQ):Prop:=let h:Hp:=[]
 clQ C h F.aV [a,c] λa h=>bIQ .geq a (I 0) λa=>q a h
theorem pj(h:aX (CX Y) t0 t1 (out v)):CP Y F.aX [t0,t1] v:=CPo 0 .o Tryz.func108 h
def m5(C:CC)(a c d:V):aM:=λl h q=>cIQ .lss (ge l 0) d (bxQ h 1 a (ge l 0) λa=>b1Q h a λa=>cal C.p h c [a] λa h=>cnd a (q .ret [ge l 0] h) (bIQ .add (ge l 0) (I 1) λa=>q .normal [a] h)) (q (.exit 0) [] h)
def cT(C:CC)(a c:V)(q:kQ):Prop:=let h:Hp:=[]
 blQ a λd=>lp (m5 C a c d) [] h [I 0] h (exK [((.exit 0),λa h=>q (I (-1)) h),(.ret,λa h=>q (ge a 0) h)])
theorem nD(h:cT (CX Y) t0 t1 (out v)):CP Y F.cT [t0,t1] v:=CPo 0 (aA (nCQ (aA (nCQ (.n (.l [8] [0,1,7] [((.exit 0),[],[]),(.ret,[4],[])] []) .o .o))))) Tryz.func192 h
def aR(C:CC)(a c:V)(q:kQ):Prop:=let h:Hp:=[]
 clQ C h F.cT [a,c] λa h=>bIQ .geq a (I 0) λa=>q a h
theorem mF(h:aR (CX Y) t0 t1 (out v)):CP Y F.aR [t0,t1] v:=CPo 0 .o Tryz.func169 h
def aL(C:CC)(a:V)(q:kQ):Prop:=let h:Hp:=[]
 bnd (oe a) λc=>bIQ .gtr c (I 0) λc=>gqQ c true h a λd h=>gbQ c true h (ixS d (I 0)) λd h=>gbQ c true h (biI .eql d (.d (.int .u8 45))) λd h=>bpQ c d (B false) λc=>cnd c (bnd (slS a (some (I 1)) none) λa=>q (.tup [B true,a]) h) (q (.tup [B false,a]) h)
theorem Gj(h:aL (CX Y) t0 (out v)):CP Y F.aL [t0] v:=CPo 0 .o Tryz.func83 h
def mX(C:CC)(a:V)(q:kQ):Prop:=let h:Hp:=[]
 clQ C h F.aL [a] λa h=>e2Q a λa c=>gqQ a true h c λd h=>gbQ a true h (biS .eql d (.d (.str [48]))) λd h=>bpQ a d (B false) λa=>gqQ a false h c λc h=>gd a false h (λq=>clQ C h F.kD [c] q) λc h=>gbQ a false h (biI .neq c (I 0)) λc h=>bpQ a (B true) c λa=>cnd a (q (I 2) h) (q (I 0) h)
theorem Gm(h:mX (CX Y) t0 (out v)):CP Y F.mX [t0] v:=CPo 0 .o Tryz.func126 h
def c8(C:CC)(a:V)(q:kQ):Prop:=let h:Hp:=[]
 bSQ .eql a (.d (.str [48])) λc=>cnd c (q (I 0) h) (bnd (ixS a (I 0)) λa=>cIQ .eql a (.d (.int .u8 45)) (q (I (-1)) h) (q (I 1) h))
theorem IJ(h:c8 (CX Y) t0 (out v)):CP Y F.c8 [t0] v:=CPo 0 .o Tryz.func79 h
def dK(C:CC)(a:V)(q:kQ):Prop:=let h:Hp:=[]
 clQ C h F.strconv_Itoa [a] q
theorem DV(h:dK (CX Y) t0 (out v)):CP Y F.dK [t0] v:=CPo 0 .o Tryz.func60 h
def bF(C:CC)(a c:V)(q:kQ):Prop:=let h:Hp:=[]
 bnd (oe a) λd=>cIQ .gtr d c (q (.tup [I 0,B false]) h) (clQ C h F.strconv_Atoi [a] λa h=>e2Q a λa c=>bnd (biF .eql c (.d (.pl .nilIface))) λc=>q (.tup [a,c]) h)
theorem rQ(h:bF (CX Y) t0 t1 (out v)):CP Y F.bF [t0,t1] v:=CPo 0 .o Tryz.func82 h
def gE(C:CC)(a:V)(q:kQ):Prop:=let h:Hp:=[]
 clQ C h F.aL [a] λa h=>e2Q a λa c=>q c h
theorem BZ(h:gE (CX Y) t0 (out v)):CP Y F.gE [t0] v:=CPo 0 .o Tryz.func99 h
def qW(C:CC):aM:=λl h q=>cIQ .neq (ge l 1) (I 0) (bIQ .rem (ge l 0) (ge l 1) λa=>q .normal [ge l 1,a] h) (q (.exit 0) [ge l 0] h)
def rI(C:CC)(a c:V)(q:kQ):Prop:=let h:Hp:=[]
 lp (qW C) [] h [a,c] h (exK [((.exit 0),λa h=>q (ge a 0) h)])
theorem Ky(h:rI (CX Y) t0 t1 (out v)):CP Y F.rI [t0,t1] v:=CPo 0 (aA (nCQ (nCQ (.n (.l [0,1] [] [((.exit 0),[0],[])] []) .o .o)))) Tryz.func117 h
def oR(C:CC)(a c:V)(q:kQ):Prop:=let h:Hp:=[]
 clQ C h F.gE [a] λa h=>clQ C h F.gE [c] λc h=>clQ C h F.bF [a,I 18] λd h=>e2Q d λd e=>jn (λd h=>clQ C h F.nA [a,c] q) λa=>cnd e (clQ C h F.bF [c,I 18] λc h=>e2Q c λc e=>cnd e (clQ C h F.rI [d,c] λa h=>clQ C h F.dK [a] q) (a [] h)) (a [] h)
theorem KD(h:oR (CX Y) t0 t1 (out v)):CP Y F.oR [t0,t1] v:=CPo 0 (eE (nCQ (eE (nJQ [] [5,6])))) Tryz.func80 h
def ib(C:CC)(a:V)(q:kQ):Prop:=let h:Hp:=.replicate 1 nnQ
 eU 0 a h λa h=>bfQ 0 a λc=>b1Q h c λc=>clQ C h F.mX [c] λc h=>bIQ .neq c (I 0) λc=>jn (λc h=>cnd (ge c 0) (q (I 2) h) (bfQ 1 a λc=>b1Q h c λc=>clQ C h F.c8 [c] λc h=>bIQ .leq c (I 0) λc=>jn (λa h=>cnd (ge a 0) (q (I 2) h) (q (I 0) h)) λd=>cnd c (d [c] h) (bfQ 0 a λc=>b1Q h c λc=>bfQ 1 a λa=>b1Q h a λa=>clQ C h F.oR [c,a] λa h=>bSQ .neq a (.d (.str [49])) λa=>d [a] h))) λd=>cnd c (d [c] h) (bfQ 1 a λa=>b1Q h a λa=>clQ C h F.mX [a] λa h=>bIQ .neq a (I 0) λa=>d [a] h)
theorem BF(h:ib (CX Y) t0 (out v)):CP Y F.ib [t0] v:=CPo 1 (nBQ (nRQ [.slot 0]) (nCQ (nCQ (nBQ (aA (nJQ [3] [1])) (aA (nCQ (aA (nJQ [12] [])))))))) Tryz.func86 h
def mp(C:CC)(a:V)(q:kQ):Prop:=let h:Hp:=[]
 clQ C h F.aL [a] λa h=>e2Q a λa c=>bnd (unV .not a) λa=>clQ C h F.bW [a,c] q
theorem KA(h:mp (CX Y) t0 (out v)):CP Y F.mp [t0] v:=CPo 0 .o Tryz.func78 h
def lI(C:CC)(a:V)(q:kQ):Prop:=let h:Hp:=[]
 clQ C h F.fq [a,I 10,I 64] λa h=>e2Q a λa c=>bnd (biF .neq c (.d (.pl .nilIface))) λc=>cnd c (q (.tup [I 0,B false]) h) (q (.tup [a,B true]) h)
theorem Gk(h:lI (CX Y) t0 (out v)):CP Y F.lI [t0] v:=CPo 0 .o Tryz.func48 h
def d6(C:CC)(a c:V)(q:kQ):Prop:=let h:Hp:=[]
 clQ C h F.c8 [a] λd h=>clQ C h F.c8 [c] λe h=>cIQ .neq d e (cIQ .lss d e (q (I (-1)) h) (q (I 1) h)) (clQ C h F.aL [a] λa h=>e2Q a λa d=>clQ C h F.aL [c] λc h=>e2Q c λc e=>jn (λa h=>clQ C h F.cj [ge a 0,ge a 1] q) λc=>cnd a (c [e,d] h) (c [d,e] h))
theorem u9(h:d6 (CX Y) t0 t1 (out v)):CP Y F.d6 [t0,t1] v:=CPo 0 (SD (nCQ (aA (nJQ [8,10] [])))) Tryz.func94 h
def aS(C:CC)(a c:V)(q:kQ):Prop:=let h:Hp:=[]
 bSQ .eql c (.d (.str [48])) λd=>cnd d (q (.tup [(.d (.str [])),(.d (.str [])),I 17]) h) (clQ C h F.bF [a,I 18] λd h=>e2Q d λd e=>jn (λd h=>clQ C h F.aL [a] λa h=>e2Q a λa d=>clQ C h F.aL [c] λc h=>e2Q c λc e=>clQ C h F.dZ [d,e] λd h=>e3Q d λd f g=>nzQ g (q (.tup [(.d (.str [])),(.d (.str [])),g]) h) (bnd (biB .neq a c) λg=>gqQ g true h f λi h=>gbQ g true h (biS .neq i (.d (.str [48]))) λi h=>bpQ g i (B false) λg=>jn (λd h=>bnd (biB .neq a c) λa=>clQ C h F.bW [a,ge d 0] λa h=>clQ C h F.bW [c,ge d 1] λc h=>q (.tup [a,c,I 0]) h) λa=>cnd g (clQ C h F.gz [d,(.d (.str [49]))] λc h=>clQ C h F.ie [e,f] λd h=>e2Q d λd e=>a [c,d] h) (a [d,f] h))) λa=>cnd e (clQ C h F.bF [c,I 18] λc h=>e2Q c λc e=>cnd e (bIQ .quo d c λa=>bIQ .rem d c λd=>bIQ .neq d (I 0) λe=>gqQ e true h d λf h=>gbQ e true h (biI .lss f (I 0)) λf h=>gqQ e true h c λg h=>gbQ e true h (biI .lss g (I 0)) λg h=>gbQ e true h (biB .neq f g) λf h=>bpQ e f (B false) λe=>jn (λa h=>clQ C h F.dK [ge a 0] λc h=>clQ C h F.dK [ge a 1] λa h=>q (.tup [c,a,I 0]) h) λf=>cnd e (bIQ .sub a (I 1) λa=>bIQ .add d c λc=>f [a,c] h) (f [a,d] h)) (a [] h)) (a [] h))
def rR:Ann:=(eE (nBQ (eE (.n (.j [] [0,1]) (eE (nCQ (aA (nCQ (aA (nJQ [11,12] [])))))) .o)) (SD (nCQ (aA (nJQ [17,18] [13,15]))))))
theorem DX(C:CC)(t0:V)(t1:V)(q:kkQ):fnD Y C Tryz.f81 0 rR [t0,t1] q=aS C t0 t1 q:=by kernel_rfl
theorem DW:okB Tryz.prog Tryz.f81 rR=true:=aG
theorem vU(h:aS (CX Y) t0 t1 (out v)):CP Y F.aS [t0,t1] v:=
 CP.of (fn:=Tryz.f81) (m:=0) (a:=rR) rfl (λ_=>rfl) Tryz.func81 DW (by rw[DX];exact h)
def pR(C:CC)(a c:V)(q:kQ):Prop:=let h:Hp:=[]
 clQ C h F.gE [a] λa h=>clQ C h F.gE [c] λc h=>clQ C h F.pf [a,c] q
theorem KC(h:pR (CX Y) t0 t1 (out v)):CP Y F.pR [t0,t1] v:=CPo 0 .o Tryz.func88 h
def lJ(C:CC)(a c:V)(q:kQ):Prop:=let h:Hp:=[]
 cIQ .lss c (I 0) (q (.tup [(.d (.str [])),I 3]) h) (clQ C h F.aL [a] λa h=>e2Q a λa d=>bnd (oe d) λe=>bIQ .quo (I 4000) e λe=>cIQ .gtr c e (q (.tup [(.d (.str [])),I 4]) h) (clQ C h F.ji [d,c] λd h=>e2Q d λd e=>nzQ e (q (.tup [(.d (.str [])),e]) h) (gqQ a true h c λc h=>gbQ a true h (biI .rem c (I 2)) λc h=>gbQ a true h (biI .eql c (I 1)) λc h=>bpQ a c (B false) λa=>clQ C h F.bW [a,d] λa h=>q (.tup [a,I 0]) h)))
theorem Gl(h:lJ (CX Y) t0 t1 (out v)):CP Y F.lJ [t0,t1] v:=CPo 0 .o Tryz.func161 h
def pf(C:CC)(a c:V)(q:kQ):Prop:=let h:Hp:=[]
 bSQ .eql a (.d (.str [48])) λd=>gqQ d false h c λe h=>gbQ d false h (biS .eql e (.d (.str [48]))) λe h=>bpQ d (B true) e λd=>cnd d (q (.d (.str [48])) h) (clQ C h F.nA [a,c] λd h=>clQ C h F.dZ [a,d] λa h=>e3Q a λa d e=>nzQ e (q (.d (.str [])) h) (clQ C h F.kf [a,c] q))
theorem GV(h:pf (CX Y) t0 t1 (out v)):CP Y F.pf [t0,t1] v:=CPo 0 .o Tryz.func127 h
def CY(C:CC)(a c:V):aM:=λl h q=>cIQ .lss (ge l 1) c (bxQ h 1 a (ge l 1) λc=>b1Q h c λc=>bIQ .mul c (.d (.int .u64 1000000000)) λc=>bIQ .add (ge l 0) c λc=>bIQ .and c (.d (.int .u64 4294967295)) λd=>bxQ h 1 a (ge l 1) λa=>stD h 1 a d λ_ h=>bIQ .shr c (.d (.int .u64 32)) λa=>bIQ .add (ge l 1) (I 1) λc=>q .normal [a,c] h) (q (.exit 2) [ge l 0] h)
def CZ(C:CC)(a:V):aM:=λl h q=>cIQ .geq (ge l 1) (I 0) (jn (λa h=>bIQ .sub (ge l 1) (I 1) λc=>q .normal [ge a 0,c] h) λc=>bxQ h 1 a (ge l 1) λa=>b1Q h a λa=>blQ (ge l 0) λd=>lp (CY C (ge l 0) d) [] h [a,I 0] h (exK [((.exit 2),λa h=>bIQ .gtr (ge a 0) (.d (.int .u64 0)) λd=>jn (λa h=>c [ge a 0] h) λc=>cnd d (dI 1 [.int .u64 0] [(0,(ge a 0))] h λa h=>apV false 1 1 8 (ge l 0) a h λa h=>c [a] h) (c [ge l 0] h))])) (q (.exit 0) [ge l 0] h)
def nQ(C:CC)(a:V)(q:kQ):Prop:=let h:Hp:=.replicate 2 nnQ
 clQ C h F.jh [a] λc h=>e2Q c λc d=>cnd d (clQ C h F.fe [c] q) (ciQ C h F.cY [a] 0 λa h=>blQ a λc=>bIQ .sub c (I 1) λc=>lp (CZ C a) [] h [nSQ,c] h (exK [((.exit 0),λa h=>blQ (ge a 0) λc=>bIQ .sub c (I 1) λc=>bIQ .mul (I 32) c λc=>blQ (ge a 0) λd=>bIQ .sub d (I 1) λd=>bxQ h 1 (ge a 0) d λa=>b1Q h a λa=>clQ C h F.fe [a] λa h=>bIQ .add c a λa=>q a h)]))
theorem FT(h:nQ (CX Y) t0 (out v)):CP Y F.nQ [t0] v:=CPo 2 (zz (nBQ (nRQ [.inl 0]) (nCQ (aA (nCQ (.n (.l [5,7] [6] [((.exit 0),[5],[])] []) (aA (nCQ (.n (.j [5] [6,7]) (aA (nBQ (aA (nCQ (.n (.l [8,33] [5,6,7,32] [((.exit 2),[8],[5,6,7])] []) .o .o))) (aA (.n (.j [5] [6,7]) (nRQ [.o,.slot 1]) .o)))) .o))) .o)))))) Tryz.func195 h
def ly(C:CC):aM:=λl h q=>cIQ .gtr (ge l 2) (I 0) (jn (λa h=>bIQ .shr (ge l 2) (.d (.int .u64 1)) λc=>q .normal [ge a 0,ge a 1,c] h) λa=>bIQ .and (ge l 2) (I 1) λc=>bIQ .eql c (I 1) λc=>jn (λc h=>bIQ .gtr (ge l 2) (I 1) λd=>jn (λd h=>a [ge c 0,ge d 0] h) λa=>cnd d (ciQ C h F.bB [ge l 1,ge l 1] 2 λc h=>a [c] h) (a [ge l 1] h)) λa=>cnd c (ciQ C h F.bB [ge l 0,ge l 1] 1 λc h=>a [c] h) (a [ge l 0] h)) (q (.exit 1) [ge l 0] h)
def ji(C:CC)(a c:V)(q:kQ):Prop:=let h:Hp:=.replicate 3 nnQ
 cIQ .lss c (I 0) (q (.tup [(.d (.str [])),I 3]) h) (bIQ .eql c (I 0) λd=>gqQ d false h a λe h=>gbQ d false h (biS .eql e (.d (.str [49]))) λe h=>bpQ d (B true) e λd=>cnd d (q (.tup [(.d (.str [49])),I 0]) h) (bSQ .eql a (.d (.str [48])) λd=>cnd d (q (.tup [(.d (.str [48])),I 0]) h) (clQ C h F.nQ [a] λd h=>bIQ .sub d (I 1) λd=>bIQ .quo (I 66439) d λd=>cIQ .gtr c d (q (.tup [(.d (.str [])),I 4]) h) (dI 1 [.int .u64 0] [(0,(.d (.int .u64 1)))] h λd h=>ciQ C h F.cY [a] 0 λa h=>lp (ly C) [] h [d,a,c] h (exK [((.exit 1),λa h=>clQ C h F.aK [ge a 0] λa h=>bnd (oe a) λc=>cIQ .gtr c (I 20000) (q (.tup [(.d (.str [])),I 4]) h) (q (.tup [a,I 0]) h))])))))
def qO:Ann:=(zz (nBQ (nRQ [.o,.inl 0]) (nCQ (nCQ (.n (.l [7,8,1] [] [((.exit 1),[7],[])] []) (aA (nCQ (.n (.j [7,8] [1]) (nBQ (aA (.n (.j [7] [1,8]) (nRQ [.inl 1]) .o)) (aA (.n (.j [8] [1,7]) (nRQ [.inl 2]) .o))) .o))) .o)))))
attribute [local irreducible] bnd gd cal cnd ext dI vv stD alV alD eU jn lp exK mkS apV cai yv in
theorem CV(C:CC)(t0:V)(t1:V)(q:kkQ):fnD Y C Tryz.f183 3 qO [t0,t1] q=ji C t0 t1 q:=Pv
theorem CS:okB Tryz.prog Tryz.f183 qO=true:=aG
theorem CU(h:ji (CX Y) t0 t1 (out v)):CP Y F.ji [t0,t1] v:=
 CP.of (fn:=Tryz.f183) (m:=3) (a:=qO) rfl (λ_=>rfl) Tryz.func183 CS (by rw[CV];exact h)
def gy(C:CC)(a:V)(q:kQ):Prop:=let h:Hp:=[]
 bnd (oe a) λc=>cIQ .gtr c (I 9) (q (.tup [I 0,B false]) h) (clQ C h F.strconv_Atoi [a] λa h=>e2Q a λa c=>bnd (biF .eql c (.d (.pl .nilIface))) λc=>q (.tup [a,c]) h)
theorem zY(h:gy (CX Y) t0 (out v)):CP Y F.gy [t0] v:=CPo 0 .o Tryz.func116 h
def dp(C:CC)(a:V)(q:kQ):Prop:=let h:Hp:=.replicate 1 nnQ
 eU 0 a h λa h=>bfQ 0 a λc=>b1Q h c λc=>clQ C h F.gy [c] λc h=>e2Q c λc d=>bfQ 1 a λa=>b1Q h a λa=>clQ C h F.gy [a] λa h=>e2Q a λa e=>gqQ d true h e λe h=>bpQ d e (B false) λd=>q (.tup [c,a,d]) h
theorem CM(h:dp (CX Y) t0 (out v)):CP Y F.dp [t0] v:=CPo 1 (nCQ (nRQ [.slot 0])) Tryz.func76 h
def nu(C:CC):aM:=λl h q=>cIQ .neq (ge l 1) (I 0) (bIQ .rem (ge l 0) (ge l 1) λa=>q .normal [ge l 1,a] h) (q (.exit 0) [ge l 0] h)
def jg(C:CC)(a c:V)(q:kQ):Prop:=let h:Hp:=.replicate 1 nnQ
 alV 0 [.d (.str []),.d (.str [])] h λd h=>lp (nu C) [] h [a,c] h (exK [((.exit 0),λe h=>bIQ .lss (ge e 0) (I 0) λf=>jn (λe h=>bIQ .quo a (ge e 0) λa=>clQ C h F.strconv_Itoa [a] λa h=>bIQ .quo c (ge e 0) λc=>clQ C h F.strconv_Itoa [c] λc h=>bnd (bld [(0,1),(1,1)] [.str [],.str []] [(0,a),(1,c)]) λa=>stD h 2 d a λ_ h=>bnd (ldA h 2 d) λa=>q a h) λa=>cnd f (bnd (unV .neg (ge e 0)) λc=>a [c] h) (a [ge e 0] h))])
theorem GK(h:jg (CX Y) t0 t1 (out v)):CP Y F.jg [t0,t1] v:=CPo 1 (nBQ (nRQ [.slot 0]) (aA (nBQ (nCQ (.n (.l [5,6] [0,1,4] [((.exit 0),[5],[0,1,4])] []) .o .o)) (nCQ (aA (nJQ [5] [0,1,4])))))) Tryz.func77 h
def bq(C:CC)(a c:V)(q:kQ):Prop:=let h:Hp:=.replicate 1 nnQ
 alV 0 [.d (.str []),.d (.str [])] h λd h=>clQ C h F.c8 [c] λe h=>bIQ .lss e (I 0) λe=>jn (λa h=>clQ C h F.oR [ge a 0,ge a 1] λc h=>bSQ .neq c (.d (.str [49])) λe=>jn (λa h=>bnd (bld [(0,1),(1,1)] [.str [],.str []] [(0,(ge a 0)),(1,(ge a 1))]) λa=>stD h 2 d a λ_ h=>bnd (ldA h 2 d) λa=>q a h) λd=>cnd e (clQ C h F.aS [ge a 0,c] λe h=>e3Q e λe f g=>clQ C h F.aS [ge a 1,c] λa h=>e3Q a λa c f=>d [e,a] h) (d [ge a 0,ge a 1] h)) λd=>cnd e (clQ C h F.mp [a] λa h=>clQ C h F.mp [c] λc h=>d [a,c] h) (d [a,c] h)
theorem zX(h:bq (CX Y) t0 t1 (out v)):CP Y F.bq [t0,t1] v:=CPo 1 (nBQ (nRQ [.slot 0]) (nBQ (aA (nJQ [0,1] [4])) (nCQ (eE (nJQ [0,1] [4]))))) Tryz.func52 h
def fT(C:CC)(a c:V)(q:kQ):Prop:=let h:Hp:=.replicate 3 nnQ
 eU 0 a h λa h=>eU 1 c h λc h=>alV 2 [.d (.str []),.d (.str [])] h λd h=>bfQ 1 a λe=>b1Q h e λe=>bSQ .eql e (.d (.str [49])) λe=>gbQ e true h (faV 1 c) λf h=>gbQ e true h (ld1 h f) λf h=>gbQ e true h (biS .eql f (.d (.str [49]))) λf h=>bpQ e f (B false) λe=>cnd e (bfQ 0 a λa=>b1Q h a λa=>bfQ 0 c λc=>b1Q h c λc=>clQ C h F.cO [a,c] λa h=>bnd (bld [(0,1),(1,1)] [.str [],.str []] [(0,a),(1,(.d (.str [49])))]) λa=>stD h 2 d a λ_ h=>bnd (ldA h 2 d) λa=>q a h) (bnd (ldA h 2 a) λe=>clQ C h F.dp [e] λe h=>e3Q e λe f g=>jn (λe h=>bfQ 0 a λe=>b1Q h e λe=>bfQ 1 c λf=>b1Q h f λf=>clQ C h F.aP [e,f] λe h=>bfQ 0 c λf=>b1Q h f λf=>bfQ 1 a λg=>b1Q h g λg=>clQ C h F.aP [f,g] λf h=>clQ C h F.cO [e,f] λe h=>bfQ 1 a λa=>b1Q h a λa=>bfQ 1 c λc=>b1Q h c λc=>clQ C h F.aP [a,c] λa h=>clQ C h F.bq [e,a] λa h=>stD h 2 d a λ_ h=>bnd (ldA h 2 d) λa=>q a h) λa=>cnd g (bnd (ldA h 2 c) λc=>clQ C h F.dp [c] λc h=>e3Q c λc g i=>cnd i (bIQ .mul e g λa=>bIQ .mul c f λc=>bIQ .add a c λa=>bIQ .mul f g λc=>clQ C h F.jg [a,c] λa h=>stD h 2 d a λ_ h=>bnd (ldA h 2 d) λa=>q a h) (a [] h)) (a [] h))
def sv:Ann:=(nBQ (nRQ [.slot 0,.slot 1,.slot 2]) (aA (nCQ (eE (nJQ [] [2,3,4])))))
theorem FH(C:CC)(t0:V)(t1:V)(q:kkQ):fnD Y C Tryz.f49 3 sv [t0,t1] q=fT C t0 t1 q:=by kernel_rfl
theorem FF:okB Tryz.prog Tryz.f49 sv=true:=aG
theorem FG(h:fT (CX Y) t0 t1 (out v)):CP Y F.fT [t0,t1] v:=
 CP.of (fn:=Tryz.f49) (m:=3) (a:=sv) rfl (λ_=>rfl) Tryz.func49 FF (by rw[FH];exact h)
def mc(C:CC)(a c:V)(q:kQ):Prop:=let h:Hp:=.replicate 3 nnQ
 eU 0 a h λa h=>eU 1 c h λc h=>alV 2 [.d (.str []),.d (.str [])] h λd h=>bnd (ldA h 2 a) λe=>clQ C h F.dp [e] λe h=>e3Q e λe f g=>jn (λe h=>bfQ 0 a λe=>b1Q h e λe=>bfQ 0 c λf=>b1Q h f λf=>clQ C h F.aP [e,f] λe h=>bfQ 1 a λa=>b1Q h a λa=>bfQ 1 c λc=>b1Q h c λc=>clQ C h F.aP [a,c] λa h=>clQ C h F.bq [e,a] λa h=>stD h 2 d a λ_ h=>bnd (ldA h 2 d) λa=>q a h) λa=>cnd g (bnd (ldA h 2 c) λc=>clQ C h F.dp [c] λc h=>e3Q c λc g i=>cnd i (bIQ .mul e c λa=>bIQ .mul f g λc=>clQ C h F.jg [a,c] λa h=>stD h 2 d a λ_ h=>bnd (ldA h 2 d) λa=>q a h) (a [] h)) (a [] h)
theorem FD(h:mc (CX Y) t0 t1 (out v)):CP Y F.mc [t0,t1] v:=CPo 3 (nBQ (nRQ [.slot 0,.slot 1,.slot 2]) (nCQ (eE (nJQ [] [2,3,4])))) Tryz.func90 h
def mC(C:CC)(a:V)(q:kQ):Prop:=let h:Hp:=.replicate 1 nnQ
 eU 0 a h λa h=>bfQ 0 a λa=>b1Q h a λa=>clQ C h F.c8 [a] q
theorem CN(h:mC (CX Y) t0 (out v)):CP Y F.mC [t0] v:=CPo 1 (nCQ (nRQ [.slot 0])) Tryz.func51 h
def gX(C:CC)(a c:V)(q:kQ):Prop:=let h:Hp:=.replicate 3 nnQ
 eU 0 a h λa h=>eU 1 c h λc h=>alV 2 [.d (.str []),.d (.str [])] h λd h=>bnd (ldA h 2 c) λe=>clQ C h F.mC [e] λe h=>cIQ .eql e (I 0) (bnd (bld [(0,1),(1,1)] [.str [],.str []] []) λa=>stD h 2 d a λ_ h=>bnd (ldA h 2 d) λa=>q (.tup [a,I 17]) h) (bfQ 0 a λe=>b1Q h e λe=>bfQ 1 c λf=>b1Q h f λf=>clQ C h F.aP [e,f] λe h=>bfQ 1 a λa=>b1Q h a λa=>bfQ 0 c λc=>b1Q h c λc=>clQ C h F.aP [a,c] λa h=>clQ C h F.bq [e,a] λa h=>stD h 2 d a λ_ h=>bnd (ldA h 2 d) λa=>q (.tup [a,I 0]) h)
theorem FE(h:gX (CX Y) t0 t1 (out v)):CP Y F.gX [t0,t1] v:=CPo 3 (nCQ (nRQ [.slot 0,.slot 1,.slot 2])) Tryz.func33 h
def nL(C:CC)(a c:V)(q:kQ):Prop:=let h:Hp:=.replicate 1 nnQ
 alV 0 [.d (.str []),.d (.str [])] h λd h=>clQ C h F.c8 [c] λe h=>cIQ .eql e (I 0) (bnd (bld [(0,1),(1,1)] [.str [],.str []] []) λa=>stD h 2 d a λ_ h=>bnd (ldA h 2 d) λa=>q (.tup [a,I 17]) h) (clQ C h F.bq [a,c] λa h=>stD h 2 d a λ_ h=>bnd (ldA h 2 d) λa=>q (.tup [a,I 0]) h)
theorem FB(h:nL (CX Y) t0 t1 (out v)):CP Y F.nL [t0,t1] v:=CPo 1 (nCQ (nRQ [.slot 0])) Tryz.func59 h
def fD(C:CC)(a c:V)(q:kQ):Prop:=let h:Hp:=.replicate 1 nnQ
 alV 0 [.d (.str []),.d (.str [])] h λd h=>clQ C h F.dK [a] λa h=>clQ C h F.dK [c] λc h=>clQ C h F.nL [a,c] λa h=>e2Q a λa c=>stD h 2 d a λ_ h=>bnd (ldA h 2 d) λa=>q (.tup [a,c]) h
theorem GL(h:fD (CX Y) t0 t1 (out v)):CP Y F.fD [t0,t1] v:=CPo 1 (nCQ (nRQ [.slot 0])) Tryz.func36 h
def ov(C:CC)(a c d:V):aM:=λl h q=>cIQ .lss (ge l 0) d (bxQ h 2 c (ge l 0) λc=>bnd (ldA h 2 c) λc=>alV 2 [.d (.str []),.d (.str [])] h λd h=>stD h 2 d c λ_ h=>bfQ 2 a λc=>b1Q h c λc=>bfQ 1 d λd=>b1Q h d λd=>clQ C h F.pR [c,d] λc h=>bfQ 2 a λa=>stD h 1 a c λ_ h=>bIQ .add (ge l 0) (I 1) λa=>q .normal [a] h) (q (.exit 0) [] h)
def mg(C:CC)(a c d e:V):aM:=λl h q=>cIQ .lss (ge l 0) e (jn (λa h=>bIQ .add (ge l 0) (I 1) λa=>q .normal [a] h) λe=>bxQ h 2 d (ge l 0) λd=>bnd (ldA h 2 d) λd=>alV 3 [.d (.str []),.d (.str [])] h λf h=>stD h 2 f d λ_ h=>bfQ 0 f λd=>b1Q h d λd=>bSQ .neq d (.d (.str [48])) λd=>jn (λa h=>e [] h) λe=>cnd d (bfQ 2 c λd=>b1Q h d λd=>bfQ 1 f λg=>b1Q h g λg=>clQ C h F.aS [d,g] λd h=>e3Q d λd g i=>bfQ 0 c λg=>sm h c g<|b1Q h g λg=>bxQ h 1 a (ge l 0) λa=>b1Q h a λa=>dI 1 [.int .i64 0] [(0,a)] h λa h=>sp h g [c,f]<|apV false 4 1 8 g a h λa h=>bfQ 1 c λg=>sm h c g<|b1Q h g λg=>bfQ 0 f λi=>sm h f i<|b1Q h i λf=>clQ C h F.aP [f,d] λd h=>dI 1 [.str []] [(0,d)] h λd h=>apV false 5 1 16 g d h λd h=>bfQ 0 c λf=>stD h 1 f a λ_ h=>bfQ 1 c λa=>stD h 1 a d λ_ h=>e [] h) (e [] h)) (q (.exit 2) [] h)
def lV(C:CC)(a c:V)(q:kQ):Prop:=let h:Hp:=.replicate 6 nnQ
 alV 0 [.d nPQ,.d nPQ,.d (.str [])] h λd h=>bnd (bld [(0,1),(1,1),(2,1)] [nPQ,nPQ,.str []] [(2,(.d (.str [49])))]) λe=>alV 1 [.d nPQ,.d nPQ,.d (.str [])] h λf h=>stD h 3 f e λ_ h=>blQ c λe=>lp (ov C f c e) [2] h [I 0] h (exK [((.exit 0),λe h=>blQ c λe=>lp (mg C a f c e) [3] h [I 0] h (exK [((.exit 2),λa h=>bnd (ldA h 3 f) λa=>stD h 3 d a λ_ h=>bnd (ldA h 3 d) λa=>q a h)]))])
def rZ:Ann:=(nBQ (nRQ [.slot 0]) (nBQ (nRQ [.slot 1]) (nBQ (aA (nCQ (.n (.l [16] [0,1,4,5,14,15] [((.exit 0),[],[0,1,4,5])] [2]) (eE (nCQ (nCQ (nCQ (nRQ [.slot 2]))))) .o))) (nCQ (aA (nCQ (.n (.l [29] [0,4,5,27,28] [((.exit 2),[],[4,5])] [3]) (eE (nCQ (.n (.j [] [0,4,5,27,28,29]) (nBQ (nRQ [.slot 3]) (aA (.n (.j [] [0,4,5,27,28,29]) (aA (nRQ [.o,.slot 4,.o,.o,.slot 5])) .o))) .o))) .o)))))))
theorem Em(C:CC)(t0:V)(t1:V)(q:kkQ):fnD Y C Tryz.f55 6 rZ [t0,t1] q=lV C t0 t1 q:=by kernel_rfl
theorem Ek:okB Tryz.prog Tryz.f55 rZ=true:=aG
theorem El(h:lV (CX Y) t0 t1 (out v)):CP Y F.lV [t0,t1] v:=
 CP.of (fn:=Tryz.f55) (m:=6) (a:=rZ) rfl (λ_=>rfl) Tryz.func55 Ek (by rw[Em];exact h)
def fO(C:CC)(a:V)(q:kQ):Prop:=let h:Hp:=.replicate 1 nnQ
 eU 0 a h λa h=>q (.fn F.cU [] [a]) h
theorem AU(h:fO (CX Y) t0 (out v)):CP Y F.fO [t0] v:=CPo 1 (nCQ (nRQ [.slot 0])) Tryz.func129 h
def lU(C:CC)(a c d:V):Gf:=λl h q=>
 b1Q h a λa=>
 clQ C h F.r8 [ge l 0,a] λa h=>
 bIQ .neq (ge l 0) (I 2) λe=>
 jn (λe h=>
 clQ C h F.aP [a,ge l 1] λa h=>
 clQ C h F.aP [ge e 0,ge l 1] λe h=>
 clQ C h F.c8 [ge l 1] λf h=>
 bIQ .lss f (I 0) λf=>
 jn (λa h=>
 b1Q h c λe=>
 clQ C h F.cO [e,ge a 0] λe h=>
 b1Q h d λf=>
 clQ C h F.cO [f,ge a 1] λa h=>
 stD h 1 c e λ_ h=>
 stD h 1 d a λ_ h=>
 q .normal h) λc=>
 cnd f (
 c [e,a] h) (
 c [a,e] h)) λc=>
 cnd e (
 clQ C h F.cO [a,(.d (.str [49]))] λa h=>
 c [a] h) (
 c [a] h)
def iF(C:CC)(a c:V)(q:kQ):Prop:=let h:Hp:=.replicate 4 nnQ
 eU 0 a h λa h=>eU 1 c h λc h=>alV 2 [.d (.str [])] h λd h=>alV 3 [.d (.str [])] h λe h=>stD h 1 d (.d (.str [48])) λ_ h=>stD h 1 e (.d (.str [48])) λ_ h=>bnd (ldA h 3 a) λa=>clQ C h F.fO [a] λa h=>rgO (sqV Y.seq a) 2 (lU C c d e) [] h (λex h=>exK [(.normal,λ_ h=>b1Q h d λa=>b1Q h e λc=>sp h d [e]<|stD h 1 d a λ_ h=>stD h 1 e c λ_ h=>b1Q h d λa=>b1Q h e λc=>q (.tup [a,c]) h)] ex [] h)
theorem zh(h:iF (CX Y) t0 t1 (out v)):CP Y F.iF [t0,t1] v:=CPo 4 (nBQ (nRQ [.slot 0,.slot 1,.slot 2,.slot 3]) (aA (nCQ (aA (nCQ (.n (.l [] [3,4,5] [(.normal,[],[4,5])] []) .o (nCQ (eE (nBQ (aA (nJQ [9] [4,5,7,8])) (aA (nCQ (aA (nJQ [8,9] [4,5]))))))))))))) Tryz.func92 h
def dR(C:CC)(a c d e:V):Gf:=λl h q=>
 clQ C h F.lI [ge l 1] λf h=>
 ext f 0 λg=>
 ext f 1 λf=>
 bnd (unV .not f) λf=>
 gqQ f false h g λi h=>
 gbQ f false h (ld1 h a) λj h=>
 gbQ f false h (biI .gtr i j) λi h=>
 bpQ f (B true) i λf=>
 gqQ f false h g λi h=>
 gbQ f false h (ld1 h a) λa h=>
 gbQ f false h (unV .neg a) λa h=>
 gbQ f false h (biI .lss i a) λa h=>
 bpQ f (B true) a λa=>
 cnd a (
 stD h 1 c (I 0) λ_ h=>
 stD h 1 d (I 0) λ_ h=>
 stD h 1 e (B false) λ_ h=>
 q .ret h) (
 clQ C h F.rN [ge l 0] λa h=>
 ext a 0 λf=>
 ext a 1 λa=>
 bnd (unV .not a) λa=>
 cnd a (
 stD h 1 c (I 0) λ_ h=>
 stD h 1 d (I 0) λ_ h=>
 stD h 1 e (B false) λ_ h=>
 q .ret h) (
 bIQ .add f (I 1) λa=>
 bIQ .eql (ge l 0) (I 2) λe=>
 jn (λa h=>
 b1Q h c λe=>
 bIQ .mul g f λi=>
 bIQ .mul g (ge a 0) λj=>
 bnd (mxI false [i,j]) λi=>
 bIQ .add e i λe=>
 b1Q h d λi=>
 bIQ .mul g f λf=>
 bIQ .mul g (ge a 0) λa=>
 bnd (mxI true [f,a]) λa=>
 bIQ .add i a λa=>
 sp h c [d]<|stD h 1 c e λ_ h=>
 stD h 1 d a λ_ h=>
 q .normal h) λc=>
 cnd e (
 c [f] h) (
 c [a] h)))
def gr(C:CC)(a c:V)(q:kQ):Prop:=let h:Hp:=.replicate 5 nnQ
 eU 0 a h λa h=>eU 1 c h λc h=>alV 2 [.d (.int .i64 0)] h λd h=>alV 3 [.d (.int .i64 0)] h λe h=>alV 4 [.d (.bool false)] h λf h=>bnd (ldA h 3 a) λa=>clQ C h F.fO [a] λa h=>rgO (sqV Y.seq a) 2 (dR C c d e f) [] h (λex h=>exK [(.ret,λ_ h=>b1Q h d λa=>b1Q h e λc=>b1Q h f λd=>q (.tup [a,c,d]) h),(.normal,λ_ h=>b1Q h d λa=>b1Q h e λc=>sp h d [e]<|stD h 1 d a λ_ h=>stD h 1 e c λ_ h=>stD h 1 f (B true) λ_ h=>b1Q h d λa=>b1Q h e λc=>b1Q h f λd=>q (.tup [a,c,d]) h)] ex [] h)
def pu:Ann:=(nBQ (nRQ [.slot 0,.slot 1,.slot 2,.slot 3,.slot 4]) (nCQ (aA (nCQ (.n (.l [] [3,4,5,6] [(.ret,[],[4,5,6]),(.normal,[],[4,5,6])] []) .o (nCQ (aek (nCQ (aA (nJQ [13] [4,5,9,11]))))))))))
theorem zg(C:CC)(t0:V)(t1:V)(q:kkQ):fnD Y C Tryz.f128 5 pu [t0,t1] q=gr C t0 t1 q:=by kernel_rfl
theorem ze:okB Tryz.prog Tryz.f128 pu=true:=aG
theorem zf(h:gr (CX Y) t0 t1 (out v)):CP Y F.gr [t0,t1] v:=
 CP.of (fn:=Tryz.f128) (m:=5) (a:=pu) rfl (λ_=>rfl) Tryz.func128 ze (by rw[zg];exact h)
def fu(C:CC)(a:V)(q:kQ):Prop:=let h:Hp:=.replicate 1 nnQ
 eU 0 a h λa h=>bnd (ldA h 3 a) λa=>clQ C h F.gr [a,I 10000000] λa h=>e3Q a λa c d=>bnd (unV .not d) λd=>cnd d (q (I 0) h) (cIQ .geq a (I 0) (q (I 1) h) (cIQ .leq c (I 0) (q (I (-1)) h) (q (I 0) h)))
theorem yh(h:fu (CX Y) t0 (out v)):CP Y F.fu [t0] v:=CPo 1 (nCQ (nRQ [.slot 0])) Tryz.func91 h
def oI(C:CC)(a:V):aM:=λl h q=>bnd (ldA h 3 a) λa=>clQ C h F.iF [a,ge l 0] λa h=>e2Q a λa c=>clQ C h F.c8 [a] λa h=>cIQ .geq a (I 0) (q .ret [I 1] h) (clQ C h F.c8 [c] λa h=>cIQ .leq a (I 0) (q .ret [I (-1)] h) (bIQ .mul (ge l 0) (I 2) λa=>q .normal [a] h))
def cM(C:CC)(a:V)(q:kQ):Prop:=let h:Hp:=.replicate 1 nnQ
 eU 0 a h λa h=>bfQ 0 a λc=>b1Q h c λc=>blQ c λc=>cIQ .eql c (I 0) (q (I 0) h) (bnd (ldA h 3 a) λc=>clQ C h F.fu [c] λc h=>nzQ c (q c h) (lp (oI C a) [] h [I 64] h (exK [(.ret,λa h=>q (ge a 0) h)])))
theorem sL(h:cM (CX Y) t0 (out v)):CP Y F.cM [t0] v:=CPo 1 (nBQ (nRQ [.slot 0]) (nCQ (SD (nCQ (.n (.l [4] [1] [(.ret,[2],[])] []) .o .o))))) Tryz.func58 h
def rc(C:CC):aM:=λl h q=>cIQ .lss (ge l 3) (I 26) (jn (λa h=>bIQ .add (ge l 3) (I 1) λc=>q .normal [ge a 0,ge a 1,ge a 2,c] h) λa=>clQ C h F.gv [ge l 0,ge l 0] λc h=>e2Q c λc d=>bIQ .shl c (.d (.int .u64 2)) λc=>bIQ .shr d (.d (.int .u64 62)) λd=>bIQ .or c d λc=>clQ C h F.gv [ge l 1,ge l 1] λd h=>e2Q d λd e=>bIQ .shl d (.d (.int .u64 2)) λd=>bIQ .shr e (.d (.int .u64 62)) λe=>bIQ .or d e λd=>bIQ .add d (.d (.int .u64 1)) λd=>bIQ .mul (ge l 2) (I 2) λe=>bIQ .geq c (.d (.int .u64 9223372036854775808)) λf=>jn (λc h=>a [ge c 1,ge c 2,ge c 0] h) λa=>cnd f (bIQ .add e (I 1) λe=>bIQ .shr c (.d (.int .u64 1)) λc=>bIQ .shr d (.d (.int .u64 1)) λd=>bIQ .add d (.d (.int .u64 1)) λd=>a [e,c,d] h) (cIQ .geq d (.d (.int .u64 9223372036854775808)) (q .ret [I 0,B false] h) (a [e,c,d] h))) (q (.exit 0) [ge l 2] h)
def rN(C:CC)(a:V)(q:kQ):Prop:=let h:Hp:=[]
 bnd (cvI .u64 a) λc=>clQ C h F.ko [c] λc h=>bIQ .sub c (I 1) λc=>bnd (cvI .u64 a) λa=>bIQ .sub (I 62) c λd=>bIQ .shl a d λa=>lp (rc C) [] h [a,a,c,I 0] h (exK [((.exit 0),λa h=>q (.tup [ge a 0,B true]) h),(.ret,λa h=>q (.tup [ge a 0,ge a 1]) h)])
theorem K9(h:rN (CX Y) t0 (out v)):CP Y F.rN [t0] v:=CPo 0 (aek (nCQ (aA (nCQ (.n (.l [5,6,7,21] [] [((.exit 0),[7],[]),(.ret,[2,3],[])] []) (eE (nCQ (.n (.j [5,6,7] [21]) (agh (nJQ [7,5,6] [21])) .o))) .o))))) Tryz.func159 h
def B9(C:CC)(a c:V):aM:=λl h q=>clQ C h F.size_digits [a,c,ge l 0] λa h=>e2Q a λa c=>cnd c (q .ret [a] h) (bIQ .mul (ge l 0) (I 2) λa=>q .normal [a] h)
def r8(C:CC)(a c:V)(q:kQ):Prop:=let h:Hp:=[]
 cIQ .eql a (I 2) (clQ C h F.lJ [(.d (.str [50])),c] λa h=>e2Q a λa c=>q a h) (bIQ .add c (I 64) λd=>lp (B9 C a c) [] h [d] h (exK [(.ret,λa h=>q (ge a 0) h)]))
theorem NQ(h:r8 (CX Y) t0 t1 (out v)):CP Y F.r8 [t0,t1] v:=CPo 0 (zz (nCQ (.n (.l [7] [0,1] [(.ret,[4],[])] []) .o .o))) Tryz.func130 h
def px(C:CC)(a c d:V):aM:=λl h q=>cIQ .lss (ge l 3) d (jn (λa h=>bIQ .add (ge l 3) (I 1) λc=>q .normal [ge a 0,ge a 1,ge a 2,c] h) λd=>clQ C h F.aP [ge l 0,ge l 0] λe h=>clQ C h F.aS [e,a] λe h=>e3Q e λe f g=>clQ C h F.aP [ge l 1,ge l 1] λf h=>clQ C h F.aS [f,a] λa h=>e3Q a λa f g=>clQ C h F.cO [a,(.d (.str [49]))] λa h=>clQ C h F.cO [ge l 2,ge l 2] λf h=>jn (λa h=>d [ge a 1,ge a 2,ge a 0] h) λd=>clQ C h F.d6 [e,c] λg h=>bIQ .geq g (I 0) λg=>jn (λa h=>d [ge a 0,ge a 1,ge a 2] h) λd=>cnd g (clQ C h F.cO [f,(.d (.str [49]))] λc h=>clQ C h F.aS [e,(.d (.str [50]))] λe h=>e3Q e λe f g=>clQ C h F.aS [a,(.d (.str [50]))] λa h=>e3Q a λa f g=>clQ C h F.cO [a,(.d (.str [49]))] λa h=>d [c,e,a] h) (clQ C h F.d6 [a,c] λc h=>cIQ .geq c (I 0) (q .ret [(.d (.str [])),B false] h) (d [f,e,a] h))) (q (.exit 0) [ge l 2] h)
def size_digits(C:CC)(a c d:V)(q:kQ):Prop:=let h:Hp:=[]
 bnd (cvI .u64 a) λe=>clQ C h F.ko [e] λe h=>bIQ .sub e (I 1) λe=>clQ C h F.lJ [(.d (.str [50])),d] λf h=>e2Q f λf g=>clQ C h F.cO [f,f] λg h=>bIQ .sub d e λd=>clQ C h F.lJ [(.d (.str [50])),d] λd h=>e2Q d λd i=>clQ C h F.dK [a] λa h=>clQ C h F.aP [a,d] λa h=>clQ C h F.dK [e] λd h=>lp (px C f g c) [] h [a,a,d,I 0] h (exK [((.exit 0),λa h=>q (.tup [ge a 0,B true]) h),(.ret,λa h=>q (.tup [ge a 0,ge a 1]) h)])
theorem Gy(h:size_digits (CX Y) t0 t1 t2 (out v)):CP Y F.size_digits [t0,t1,t2] v:=CPo 0 (aii (aA (nCQ (aA (nCQ (.n (.l [14,15,16,50] [9,11,49] [((.exit 0),[16],[]),(.ret,[6,7],[])] []) (eE (nCQ (.n (.j [14,15,16] [9,11,49,50]) (SD (.n (.j [16,14,15] [9,11,49,50]) (aA (nJQ [16,14,15] [9,11,49,50])) .o)) .o))) .o)))))) Tryz.func162 h
def k9(C:CC)(a:V)(q:kQ):Prop:=let h:Hp:=[]
 clQ C h F.oV [a] λc h=>nzQ c (q (.tup [B false,c]) h) (clQ C h F.k8 [a] λa h=>q (.tup [a,I 0]) h)
theorem BD(h:k9 (CX Y) t0 (out v)):CP Y F.k9 [t0] v:=CPo 0 .o Tryz.func103 h
def mU(C:CC)(a c d:V):aM:=λl h q=>cIQ .lss (ge l 1) d (bxQ h 1 c (ge l 1) λc=>b1Q h c λc=>alV 0 [.d nPQ] h λd h=>stD h 1 d c λ_ h=>b1Q h d λc=>clQ C h F.mB [c] λc h=>alV 1 [.d (.int .i64 0)] h λe h=>stD h 1 e c λ_ h=>b1Q h e λc=>bIQ .leq c (ge l 0) λc=>gbQ c false h (ld1 h d) λf h=>gbQ c false h (ld1 h e) λg h=>gbQ c false h (ixV h 1 f g) λf h=>gbQ c false h (ld1 h f) λf h=>gbQ c false h (biI .lss f (I 0)) λf h=>bpQ c (B true) f λc=>cnd c (q .ret [B false] h) (bnd (slV h 1 a none (some (ge l 1))) λa=>clQ C h F.aR [a,(.fn F.eT [] [e,d])] λa h=>cnd a (q .ret [B false] h) (b1Q h e λa=>bIQ .add (ge l 1) (I 1) λc=>q .normal [a,c] h))) (q (.exit 0) [] h)
def k8(C:CC)(a:V)(q:kQ):Prop:=let h:Hp:=.replicate 2 nnQ
 blQ a λc=>lp (mU C a a c) [0,1] h [I (-1),I 0] h (exK [((.exit 0),λa h=>q (B true) h),(.ret,λa h=>q (ge a 0) h)])
theorem BC(h:k8 (CX Y) t0 (out v)):CP Y F.k8 [t0] v:=CPo 2 (eE (nCQ (aA (nCQ (.n (.l [3,9] [0,7,8] [((.exit 0),[],[]),(.ret,[2],[])] [0,1]) (eE (nCQ (nCQ (nBQ (nRQ [.slot 0]) (nCQ (nRQ [.o,.slot 1])))))) .o))))) Tryz.func136 h
def eT(C:CC)(a c d:V)(q:kQ):Prop:=let h:Hp:=[]
 b1Q h c λe=>bxQ h 1 a e λe=>b1Q h e λe=>bIQ .lss e (I 0) λe=>gqQ e false h a λa h=>gbQ e false h (ld1 h c) λf h=>gbQ e false h (ixV h 1 a f) λa h=>gbQ e false h (ld1 h a) λa h=>gbQ e false h (ld1 h d) λd h=>gbQ e false h (ld1 h c) λc h=>gbQ e false h (ixV h 1 d c) λc h=>gbQ e false h (ld1 h c) λc h=>gbQ e false h (biI .geq a c) λa h=>bpQ e (B true) a λa=>q a h
theorem xT(h:eT (CX Y) t0 t1 t2 (out v)):CP Y F.eT [t0,t1,t2] v:=CPo 0 .o Tryz.func170 h
def mB(C:CC)(a:V)(q:kQ):Prop:=let h:Hp:=[]
 clQ C h F.aV [a,(.fn F.ju [] [])] q
theorem CK(h:mB (CX Y) t0 (out v)):CP Y F.mB [t0] v:=CPo 0 .o Tryz.func168 h
def ju(C:CC)(a:V)(q:kQ):Prop:=let h:Hp:=[]
 bIQ .neq a (I 0) λa=>q a h
theorem yH(h:ju (CX Y) t0 (out v)):CP Y F.ju [t0] v:=CPo 0 .o Tryz.func191 h
def po(C:CC)(a c d:V):aM:=λl h q=>cIQ .lss (ge l 0) d (bxQ h 1 c (ge l 0) λc=>b1Q h c λc=>blQ c λd=>cIQ .gtr d (I 12) (q .ret [I 4] h) (blQ c λd=>bxQ h 1 a (I 0) λa=>b1Q h a λa=>blQ a λa=>cIQ .neq d a (q .ret [I 5] h) (clQ C h F.aX [c,(.fn F.oU [] [])] λa h=>cnd a (q .ret [I 4] h) (bIQ .add (ge l 0) (I 1) λa=>q .normal [a] h)))) (q (.exit 0) [] h)
def oV(C:CC)(a:V)(q:kQ):Prop:=let h:Hp:=[]
 blQ a λc=>cIQ .gtr c (I 12) (q (I 4) h) (blQ a λc=>lp (po C a a c) [] h [I 0] h (exK [((.exit 0),λa h=>q (I 0) h),(.ret,λa h=>q (ge a 0) h)]))
theorem Gu(h:oV (CX Y) t0 (out v)):CP Y F.oV [t0] v:=CPo 0 (eE (nCQ (aA (nCQ (.n (.l [10] [0,8,9] [((.exit 0),[],[]),(.ret,[2],[])] []) .o .o))))) Tryz.func135 h
def oU(C:CC)(a:V)(q:kQ):Prop:=let h:Hp:=[]
 bIQ .gtr a (I 1000000000) λc=>gqQ c false h a λa h=>gbQ c false h (biI .lss a (I (-1000000000))) λa h=>bpQ c (B true) a λa=>q a h
theorem Gt(h:oU (CX Y) t0 (out v)):CP Y F.oU [t0] v:=CPo 0 .o Tryz.func167 h
def oz(C:CC)(a c d:V):aM:=λl h q=>cIQ .lss (ge l 0) d (bxQ h 1 c (ge l 0) λc=>b1Q h c λc=>clQ C h F.o5 [c] λd h=>nzQ d (q .ret [d] h) (blQ c λc=>cIQ .neq c a (q .ret [I 5] h) (bIQ .add (ge l 0) (I 1) λa=>q .normal [a] h))) (q (.exit 0) [] h)
def nJ(C:CC)(a c:V)(q:kQ):Prop:=let h:Hp:=[]
 blQ a λd=>lp (oz C c a d) [] h [I 0] h (exK [((.exit 0),λa h=>q (I 0) h),(.ret,λa h=>q (ge a 0) h)])
theorem Ew(h:nJ (CX Y) t0 t1 (out v)):CP Y F.nJ [t0,t1] v:=CPo 0 (aA (nCQ (aA (nCQ (.n (.l [10] [1,8,9] [((.exit 0),[],[]),(.ret,[4],[])] []) .o .o))))) Tryz.func97 h
def rJ(C:CC)(a c:V)(q:kQ):Prop:=let h:Hp:=[]
 clQ C h F.mp [c] λc h=>clQ C h F.cO [a,c] q
theorem Kz(h:rJ (CX Y) t0 t1 (out v)):CP Y F.rJ [t0,t1] v:=CPo 0 .o Tryz.func134 h
def mR(C:CC)(b:Nat)(a c:V):aM:=λl h q=>cIQ .lss (ge l 1) c (bxQ h 1 a (ge l 1) λa=>b1Q h a λa=>clQ C h F.dK [a] λa h=>dI 1 [.str []] [(0,a)] h λa h=>apV false (b+1) 1 16 (ge l 0) a h λa h=>bIQ .add (ge l 1) (I 1) λc=>q .normal [a,c] h) (q (.exit 0) [ge l 0] h)
def fS(C:CC)(b:Nat)(h:Hp)(a:V)(q:kQ):Prop:=let h:Hp:=h++List.replicate 2 nnQ
 blQ a λc=>mkS (b+0) 16 [.str []] h (I 0) c λc h=>blQ a λd=>lp (mR C b a d) [] h [c,I 0] h (exK [((.exit 0),λa h=>q (ge a 0) h)])
def qe(b:Nat):Ann:=(.n .x .o (.n .x (.n (.r [.slot (b+0)]) .o .o) (.n .x (.n .x .o (.n .x (.n (.l [3,11] [9,10] [((.exit 0),[3],[])] []) (.n .x .o (.n .x .o (.n .x (.n .x (.n .x .o (.n (.r [.o,.o,.slot (b+1)]) .o .o)) .o) .o))) .o) .o)) .o)))
theorem Bw(C:CC)(h:Hp)(t0:V)(q:kkQ):fnI Y C Tryz.f98 2 qe [t0] h q=fS C h.length h t0 q:=by rfl
theorem Bt(b:Nat):okB Tryz.prog Tryz.f98 (qe b)=true:=by rfl
theorem Bu(hh:fS (CX Y) h.length h t0 (od h.length v h2)):CI Y F.fS [t0] h v h2:=
 CI.of (fn:=Tryz.f98) (m:=2) (a:=qe) rfl (λ_=>rfl) Tryz.func98 (Bt _) (by rw[Bw];exact hh)
def kr(C:CC)(b:Nat)(h:Hp)(a:V)(q:kQ):Prop:=let h:Hp:=h++List.replicate 2 nnQ
 mkS (b+0) 8 [.int .i64 0] h a a λa h=>ciQ C h F.fS [a] (b+1) q
def qN(b:Nat):Ann:=(.n .x .o (.n .x (.n (.r [.slot (b+0),.inl (b+1)]) .o .o) .o))
theorem CE(C:CC)(h:Hp)(t0:V)(q:kkQ):fnI Y C Tryz.f104 2 qN [t0] h q=kr C h.length h t0 q:=by rfl
theorem Cz(b:Nat):okB Tryz.prog Tryz.f104 (qN b)=true:=by rfl
theorem CB(hh:kr (CX Y) h.length h t0 (od h.length v h2)):CI Y F.kr [t0] h v h2:=
 CI.of (fn:=Tryz.f104) (m:=2) (a:=qN) rfl (λ_=>rfl) Tryz.func104 (Cz _) (by rw[CE];exact hh)
def j7(C:CC)(b:Nat)(a c d e:V):aM:=λl h q=>cIQ .lss (ge l 0) e (bxQ h 1 d (ge l 0) λd=>b1Q h d λd=>bxQ h 1 a (ge l 0) λe=>b1Q h e λe=>clQ C h F.aP [c,d] λc h=>clQ C h F.rJ [e,c] λc h=>bxQ h 1 a (ge l 0) λa=>stD h 1 a c λ_ h=>bIQ .add (ge l 0) (I 1) λa=>q .normal [a] h) (q (.exit 0) [] h)
def eQ(C:CC)(b:Nat)(h:Hp)(a c d:V)(q:kQ):Prop:=let h:Hp:=h++List.replicate 0 nnQ
 bSQ .eql c (.d (.str [48])) λe=>cnd e (q (.tup []) h) (blQ d λe=>lp (j7 C b a c d e) [] h [I 0] h (exK [((.exit 0),λa h=>q (.tup []) h)]))
def og(b:Nat):Ann:=(.n .x .o (.n .x .o (.n .x (.n (.l [12] [0,1,10,11] [((.exit 0),[],[])] []) .o .o) .o)))
theorem xR(C:CC)(h:Hp)(t0:V)(t1:V)(t2:V)(q:kkQ):fnI Y C Tryz.f100 0 og [t0,t1,t2] h q=eQ C h.length h t0 t1 t2 q:=by rfl
theorem xP(b:Nat):okB Tryz.prog Tryz.f100 (og b)=true:=by rfl
theorem xQ(hh:eQ (CX Y) h.length h t0 t1 t2 (od h.length v h2)):CI Y F.eQ [t0,t1,t2] h v h2:=
 CI.of (fn:=Tryz.f100) (m:=0) (a:=og) rfl (λ_=>rfl) Tryz.func100 (xP _) (by rw[xR];exact hh)
def iW(C:CC)(b:Nat)(a c d:V):aM:=λl h q=>cIQ .lss (ge l 0) d (bxQ h 1 c (ge l 0) λc=>b1Q h c λc=>clQ C h F.mp [c] λc h=>bxQ h 1 a (ge l 0) λa=>stD h 1 a c λ_ h=>bIQ .add (ge l 0) (I 1) λa=>q .normal [a] h) (q (.exit 0) [] h)
def eH(C:CC)(b:Nat)(h:Hp)(a:V)(q:kQ):Prop:=let h:Hp:=h++List.replicate 0 nnQ
 blQ a λc=>lp (iW C b a a c) [] h [I 0] h (exK [((.exit 0),λa h=>q (.tup []) h)])
def mJ(b:Nat):Ann:=(.n .x .o (.n .x (.n (.l [6] [0,4,5] [((.exit 0),[],[])] []) .o .o) .o))
theorem vB(C:CC)(h:Hp)(t0:V)(q:kkQ):fnI Y C Tryz.f101 0 mJ [t0] h q=eH C h.length h t0 q:=by rfl
theorem vy(b:Nat):okB Tryz.prog Tryz.f101 (mJ b)=true:=by rfl
theorem vA(hh:eH (CX Y) h.length h t0 (od h.length v h2)):CI Y F.eH [t0] h v h2:=
 CI.of (fn:=Tryz.f101) (m:=0) (a:=mJ) rfl (λ_=>rfl) Tryz.func101 (vy _) (by rw[vB];exact hh)
def gC(C:CC)(b:Nat)(a c:V):aM:=λl h q=>blQ a λd=>cIQ .lss (ge l 1) d (jn (λa h=>bIQ .add (ge l 1) (I 1) λc=>q .normal [ge a 0,c] h) λd=>bxQ h 1 a (ge l 1) λe=>b1Q h e λe=>bxQ h 1 e c λe=>b1Q h e λe=>bSQ .neq e (.d (.str [48])) λe=>gqQ e true h (ge l 0) λf h=>gbQ e true h (biI .lss f (I 0)) λf h=>gqQ e true h f λf h=>gqQ f false h a λg h=>gqQ f false h (ge l 1) λi h=>gbQ f false h (ixV h 1 g i) λg h=>gbQ f false h (ld1 h g) λg h=>gqQ f false h c λi h=>gbQ f false h (ixV h 1 g i) λg h=>gbQ f false h (ld1 h g) λg h=>gd f false h (λq=>clQ C h F.gE [g] q) λg h=>gqQ f false h a λa h=>gqQ f false h (ge l 0) λi h=>gbQ f false h (ixV h 1 a i) λa h=>gbQ f false h (ld1 h a) λa h=>gqQ f false h c λc h=>gbQ f false h (ixV h 1 a c) λa h=>gbQ f false h (ld1 h a) λa h=>gd f false h (λq=>clQ C h F.gE [a] q) λa h=>gd f false h (λq=>clQ C h F.d6 [g,a] q) λa h=>gbQ f false h (biI .lss a (I 0)) λa h=>gbQ e true h (mP f (B true) a) λa h=>bpQ e a (B false) λa=>jn (λa h=>d [ge a 0] h) λc=>cnd a (c [ge l 1] h) (c [ge l 0] h)) (q (.exit 4) [ge l 0] h)
def jI(C:CC)(b:Nat)(a c d:V):aM:=λl h q=>blQ a λe=>cIQ .lss (ge l 1) e (bxQ h 1 a (ge l 1) λe=>b1Q h e λe=>bxQ h 1 e d λe=>b1Q h e λe=>bxQ h 1 a c λf=>b1Q h f λf=>bxQ h 1 f d λd=>b1Q h d λd=>clQ C h F.aS [e,d] λd h=>e3Q d λd e f=>bxQ h 1 a (ge l 1) λf=>b1Q h f λf=>bxQ h 1 a c λa=>b1Q h a λa=>ciQ C h F.eQ [f,d,a] (b+0) λa h=>gqQ (ge l 0) false h e λa h=>gbQ (ge l 0) false h (biS .neq a (.d (.str [48]))) λa h=>bpQ (ge l 0) (B true) a λa=>bIQ .add (ge l 1) (I 1) λc=>q .normal [a,c] h) (q (.exit 6) [ge l 0] h)
def gB(C:CC)(b:Nat)(a c d e:V):aM:=λl h q=>cIQ .lss (ge l 0) e (bxQ h 1 a (ge l 0) λe=>b1Q h e λe=>bxQ h 1 e d λe=>b1Q h e λe=>bxQ h 1 a c λf=>b1Q h f λf=>bxQ h 1 f d λd=>b1Q h d λd=>clQ C h F.aS [e,d] λd h=>e3Q d λd e f=>bxQ h 1 a (ge l 0) λe=>b1Q h e λe=>bxQ h 1 a c λa=>b1Q h a λa=>ciQ C h F.eQ [e,d,a] (b+2) λa h=>bIQ .add (ge l 0) (I 1) λa=>q .normal [a] h) (q (.exit 8) [] h)
def mI(C:CC)(b:Nat)(a c:V):aM:=λl h q=>lp (gC C b a c) [] h [I (-1),ge l 0] h (exK [((.exit 4),λd h=>cIQ .lss (ge d 0) (I 0) (q (.exit 2) [ge l 0] h) (bxQ h 1 a (ge d 0) λe=>b1Q h e λe=>bxQ h 1 a (ge l 0) λf=>b1Q h f λf=>bxQ h 1 a (ge l 0) λg=>stD h 1 g e λ_ h=>bxQ h 1 a (ge d 0) λd=>stD h 1 d f λ_ h=>bIQ .add (ge l 0) (I 1) λd=>lp (jI C b a (ge l 0) c) [(b+0)] h [B false,d] h (exK [((.exit 6),λd h=>cnd (ge d 0) (q .normal [ge l 0] h) (bxQ h 1 a (ge l 0) λd=>b1Q h d λd=>bxQ h 1 d c λd=>b1Q h d λd=>clQ C h F.c8 [d] λd h=>bIQ .lss d (I 0) λd=>jn (λd h=>lp (gB C b a (ge l 0) c (ge l 0)) [(b+2)] h [I 0] h (exK [((.exit 8),λa h=>bIQ .add (ge l 0) (I 1) λa=>q (.exit 2) [a] h)])) λc=>cnd d (bxQ h 1 a (ge l 0) λa=>b1Q h a λa=>ciQ C h F.eH [a] (b+1) λa h=>c [] h) (c [] h)))])))])
def gD(C:CC)(b:Nat)(a c:V):aM:=λl h q=>bIQ .lss (ge l 1) c λc=>gqQ c true h (ge l 0) λd h=>gqQ c true h a λe h=>gbQ c true h (aN e) λe h=>gbQ c true h (biI .lss d e) λd h=>bpQ c d (B false) λc=>cnd c (lp (mI C b a (ge l 1)) [(b+0),(b+1),(b+2)] h [ge l 0] h (exK [((.exit 2),λa h=>bIQ .add (ge l 1) (I 1) λc=>q .normal [ge a 0,c] h)])) (q (.exit 0) [ge l 0] h)
def bY(C:CC)(b:Nat)(h:Hp)(a c:V)(q:kQ):Prop:=let h:Hp:=h++List.replicate 3 nnQ
 lp (gD C b a c) [(b+0),(b+1),(b+2)] h [I 0,I 0] h (exK [((.exit 0),λc h=>bnd (slV h 1 a none (some (ge c 0))) λa=>q a h)])
def nm(b:Nat):Ann:=(.n .x .o (.n .x .o (.n .x (.n .x .o (.n .x (.n (.l [5,6] [0,1] [((.exit 0),[5],[0])] [(b+0),(b+1),(b+2)]) (.n .x .o (.n .x (.n .x (.n .x (.n (.l [5] [0,1,6] [((.exit 2),[5],[0,1,6])] [(b+0),(b+1),(b+2)]) (.n .x (.n .x .o (.n .x (.n .x .o (.n .x (.n (.l [7,8] [0,1,5,6] [((.exit 4),[7],[0,1,5,6])] []) (.n .x .o (.n .x (.n (.j [7] [0,1,5,6,8]) (.n .x .o (.n (.j [7] [0,1,5,6,8]) .o .o)) .o) .o)) .o) .o)) (.n .x .o (.n .x .o (.n .x .o (.n .x (.n .x .o (.n .x (.n (.l [9,10] [0,1,5,6] [((.exit 6),[9],[0,1,5,6])] [(b+0)]) (.n .x .o (.n .x (.n .x (.n .x .o (.n .x (.n (.r [.inl (b+0)]) .o .o) .o)) .o) .o)) .o) .o)) (.n .x .o (.n .x (.n .x .o (.n (.j [] [0,1,5,6]) (.n (.r [.inl (b+1)]) .o .o) .o)) (.n .x (.n .x .o (.n .x (.n (.l [143] [0,1,5,6,142] [((.exit 8),[],[0,1,5,6])] [(b+2)]) (.n .x .o (.n .x .o (.n .x (.n .x (.n .x .o (.n .x .o (.n (.r [.inl (b+2)]) .o .o))) .o) .o))) .o) .o)) .o))))))))) .o) .o) .o) .o) .o)) .o) .o)) .o)))
theorem wO(C:CC)(h:Hp)(t0:V)(t1:V)(q:kkQ):fnI Y C Tryz.f66 3 nm [t0,t1] h q=bY C h.length h t0 t1 q:=by rfl
theorem wN(b:Nat):okB Tryz.prog Tryz.f66 (nm b)=true:=by rfl
theorem qz(hh:bY (CX Y) h.length h t0 t1 (od h.length v h2)):CI Y F.bY [t0,t1] h v h2:=
 CI.of (fn:=Tryz.f66) (m:=3) (a:=nm) rfl (λ_=>rfl) Tryz.func66 (wN _) (by rw[wO];exact hh)
def ma(C:CC)(b:Nat)(a c:V):aM:=λl h q=>cIQ .lss (ge l 1) c (bxQ h 1 a (ge l 1) λa=>b1Q h a λa=>anyS λs4=>ciQ C h F.fS [a] s4 λa h=>anyS λs6=>Cy s6 1 [nPQ] [(0,a)] h λa h=>anyS λs8=>apW false s8 1 24 (ge l 0) a h λa h=>bIQ .add (ge l 1) (I 1) λc=>q .normal [a,c] h) (q (.exit 0) [ge l 0] h)
def cN(C:CC)(b:Nat)(h:Hp)(a:V)(q:kQ):Prop:=let h:Hp:=h++List.replicate 14 nnQ
 blQ a λc=>lp (ma C b a c) [] h [nSQ,I 0] h (exK [((.exit 0),λa h=>q (ge a 0) h)])
def pD(b:Nat):Ann:=(.n .x .o (.n .x .o (.n .x (.n .x .o (.n .x (.n (.l [3,8] [6,7] [((.exit 0),[3],[])] []) (.n .x .o (.n .x .o (.n .x (.n .x (.n .x .o (.n (.r [.anyI,.anyV,.anyV]) .o .o)) .o) .o))) .o) .o)) .o)))
theorem zK(C:CC)(h:Hp)(t0:V)(q:kkQ):fnI Y C Tryz.f65 14 pD [t0] h q=cN C h.length h t0 q:=by rfl
theorem zI(b:Nat):okB Tryz.prog Tryz.f65 (pD b)=true:=by rfl
theorem zJ(hh:cN (CX Y) h.length h t0 (od h.length v h2)):CI Y F.cN [t0] h v h2:=
 CI.of (fn:=Tryz.f65) (m:=14) (a:=pD) rfl (λ_=>rfl) Tryz.func65 (zI _) (by rw[zK];exact hh)
def j6(C:CC)(a c:V):aM:=λl h q=>cIQ .lss (ge l 1) c (bxQ h 1 a (ge l 1) λa=>b1Q h a λa=>anyS λs4=>ciQ C h F.fS [a] s4 λa h=>anyS λs6=>Cy s6 1 [nPQ] [(0,a)] h λa h=>anyS λs8=>apW false s8 1 24 (ge l 0) a h λa h=>bIQ .add (ge l 1) (I 1) λc=>q .normal [a,c] h) (q (.exit 0) [ge l 0] h)
def sU(C:CC)(a:V)(q:kQ):Prop:=let h:Hp:=.replicate 14 nnQ
 blQ a λc=>lp (j6 C a c) [] h [nSQ,I 0] h (exK [((.exit 0),λa h=>q (ge a 0) h)])
theorem xO(h:sU (CX Y) t0 (out v)):CP Y F.cN [t0] v:=CPo 14 (eE (nCQ (aA (nCQ (.n (.l [3,8] [6,7] [((.exit 0),[3],[])] []) (eE (nCQ (nCQ (aA (nRQ [.anyI,.anyV,.anyV]))))) .o))))) Tryz.func65 h
def fC(C:CC)(b:Nat)(a c d:V):aM:=λl h q=>cIQ .lss (ge l 1) d (jn (λa h=>bIQ .add (ge l 1) (I 1) λc=>q .normal [ge a 0,c] h) λd=>bxQ h 1 c (ge l 1) λc=>b1Q h c λc=>clQ C h F.iv [c] λe h=>bIQ .geq e a λe=>jn (λa h=>d [ge a 0] h) λd=>cnd e (bnd (slV h 1 c (some a) none) λa=>anyS λs12=>Cy s12 1 [nPQ] [(0,a)] h λa h=>anyS λs14=>apW false s14 1 24 (ge l 0) a h λa h=>d [a] h) (d [ge l 0] h)) (q (.exit 0) [ge l 0] h)
def cu(C:CC)(b:Nat)(h:Hp)(a c d:V)(q:kQ):Prop:=let h:Hp:=h++List.replicate 2 nnQ
 blQ a λe=>lp (fC C b c a e) [] h [nSQ,I 0] h (exK [((.exit 0),λa h=>ciQ C h F.bY [ge a 0,d] (b+0) q)])
def lZ(b:Nat):Ann:=(.n .x .o (.n .x .o (.n .x (.n .x .o (.n .x (.n (.l [7,12] [1,2,10,11] [((.exit 0),[7],[2])] []) (.n .x .o (.n .x .o (.n .x (.n (.j [7] [1,2,10,11,12]) (.n .x .o (.n .x .o (.n (.j [7] [1,2,10,11,12]) (.n (.r [.anyV,.anyV]) .o .o) .o))) .o) .o))) .o) .o)) (.n .x (.n (.r [.inl (b+0)]) .o .o) .o))))
theorem uL(C:CC)(h:Hp)(t0:V)(t1:V)(t2:V)(q:kkQ):fnI Y C Tryz.f105 2 lZ [t0,t1,t2] h q=cu C h.length h t0 t1 t2 q:=by rfl
theorem uK(b:Nat):okB Tryz.prog Tryz.f105 (lZ b)=true:=by rfl
theorem pC(hh:cu (CX Y) h.length h t0 t1 t2 (od h.length v h2)):CI Y F.cu [t0,t1,t2] h v h2:=
 CI.of (fn:=Tryz.f105) (m:=2) (a:=lZ) rfl (λ_=>rfl) Tryz.func105 (uK _) (by rw[uL];exact hh)
def ir(C:CC)(a c d:V):aM:=λl h q=>cIQ .lss (ge l 1) d (bxQ h 1 c (ge l 1) λc=>b1Q h c λc=>bxQ h 1 c a λa=>b1Q h a λa=>dI 1 [.str []] [(0,a)] h λa h=>anyS λs7=>apV false s7 1 16 (ge l 0) a h λa h=>bIQ .add (ge l 1) (I 1) λc=>q .normal [a,c] h) (q (.exit 2) [ge l 0] h)
def iu(C:CC)(a c d:V):aM:=λl h q=>cIQ .lss (ge l 1) d (blQ a λd=>lp (ir C (ge l 1) a d) [] h [nSQ,I 0] h (exK [((.exit 2),λa h=>ciQ C h F.kr [c] 0 λc h=>bxQ h 1 c (ge l 1) λd=>stD h 1 d (.d (.str [49])) λ_ h=>anyS λs7=>apV false s7 1 16 (ge a 0) c h λa h=>anyS λs9=>Cy s9 1 [nPQ] [(0,a)] h λa h=>anyS λs11=>apW false s11 1 24 (ge l 0) a h λa h=>bIQ .add (ge l 1) (I 1) λc=>q .normal [a,c] h)])) (q (.exit 0) [ge l 0] h)
def cW(C:CC)(a c:V)(q:kQ):Prop:=let h:Hp:=.replicate 19 nnQ
 lp (iu C a c c) [0] h [nSQ,I 0] h (exK [((.exit 0),λd h=>blQ a λe=>bIQ .add e c λe=>ciQ C h F.bY [ge d 0,e] 1 λd h=>blQ a λa=>ciQ C h F.cu [d,a,c] 2 q)])
theorem uJ(h:cW (CX Y) t0 t1 (out v)):CP Y F.cW [t0,t1] v:=CPo 19 (eE (nBQ (aA (nCQ (.n (.l [5,12] [0,1,11] [((.exit 0),[5],[0,1])] [0]) (eE (nCQ (nCQ (eE (nBQ (aA (nCQ (.n (.l [7,17] [0,1,5,6,11,12,15,16] [((.exit 2),[7],[0,1,5,6,11,12])] []) (eE (nCQ (nCQ (aA (nRQ [.o,.anyS]))))) .o))) (nBQ (nRQ [.inl 0]) (aA (nRQ [.anyS,.anyV,.anyV])))))))) .o))) (nCQ (nRQ [.inl 1,.inl 2])))) Tryz.func69 h
def iv(C:CC)(a:V)(q:kQ):Prop:=let h:Hp:=[]
 clQ C h F.cD [a,(.fn F.dV [] [])] q
theorem xS(h:iv (CX Y) t0 (out v)):CP Y F.iv [t0] v:=CPo 0 .o Tryz.func137 h
def dV(C:CC)(a:V)(q:kQ):Prop:=let h:Hp:=[]
 bSQ .neq a (.d (.str [48])) λa=>q a h
theorem uM(h:dV (CX Y) t0 (out v)):CP Y F.dV [t0] v:=CPo 0 .o Tryz.func172 h
def mD(C:CC)(a c d:V):aM:=λl h q=>cIQ .lss (ge l 0) d (bxQ h 1 a (ge l 0) λa=>b1Q h a λa=>cal C.p h c [a] λa h=>cnd a (q .ret [ge l 0] h) (bIQ .add (ge l 0) (I 1) λa=>q .normal [a] h)) (q (.exit 0) [] h)
def cD(C:CC)(a c:V)(q:kQ):Prop:=let h:Hp:=[]
 blQ a λd=>lp (mD C a c d) [] h [I 0] h (exK [((.exit 0),λa h=>q (I (-1)) h),(.ret,λa h=>q (ge a 0) h)])
theorem mW(h:cD (CX Y) t0 t1 (out v)):CP Y F.cD [t0,t1] v:=CPo 0 (aA (nCQ (aA (nCQ (.n (.l [8] [0,1,7] [((.exit 0),[],[]),(.ret,[4],[])] []) .o .o))))) Tryz.func171 h
def jJ(C:CC)(a c:V):aM:=λl h q=>cIQ .lss (ge l 1) c (bxQ h 1 a (ge l 1) λa=>b1Q h a λa=>clQ C h F.lI [a] λa h=>e2Q a λa c=>bnd (unV .not c) λc=>gqQ c false h a λd h=>gbQ c false h (biI .gtr d (I 1000000000)) λd h=>bpQ c (B true) d λc=>gqQ c false h a λd h=>gbQ c false h (biI .lss d (I (-1000000000))) λd h=>bpQ c (B true) d λc=>cnd c (q .ret [nSQ,I 4] h) (a1Q 1 (ge l 0) a h λa h=>bIQ .add (ge l 1) (I 1) λc=>q .normal [a,c] h)) (q (.exit 0) [ge l 0] h)
def gK(C:CC)(a:V)(q:kQ):Prop:=let h:Hp:=.replicate 2 nnQ
 blQ a λc=>mkS 0 8 [.int .i64 0] h (I 0) c λc h=>blQ a λd=>lp (jJ C a d) [] h [c,I 0] h (exK [((.exit 0),λa h=>q (.tup [ge a 0,I 0]) h),(.ret,λa h=>q (.tup [ge a 0,ge a 1]) h)])
theorem wP(h:gK (CX Y) t0 (out v)):CP Y F.gK [t0] v:=CPo 2 (aA (nBQ (nRQ [.slot 0]) (nCQ (aA (nCQ (.n (.l [4,14] [12,13] [((.exit 0),[4],[]),(.ret,[2,3],[])] []) (eE (nCQ (nCQ (zz (nRQ [.o,.slot 1]))))) .o)))))) Tryz.func102 h
def iV(C:CC)(a c d e:V):aM:=λl h q=>cIQ .lss (ge l 0) e (bxQ h 1 d (ge l 0) λd=>b1Q h d λd=>clQ C h F.gK [d] λd h=>e2Q d λd e=>nzQ e (bnd (bld [(0,1),(1,1)] [.int .i64 0,nPQ] []) λc=>stD h 2 a c λ_ h=>q .ret [e] h) (bfQ 1 c λa=>b1Q h a λa=>dI 1 [nPQ] [(0,d)] h λd h=>apV false 2 1 24 a d h λa h=>bfQ 1 c λc=>stD h 1 c a λ_ h=>bIQ .add (ge l 0) (I 1) λa=>q .normal [a] h)) (q (.exit 0) [] h)
def dw(C:CC)(a c:V)(q:kQ):Prop:=let h:Hp:=.replicate 3 nnQ
 alV 0 [.d (.int .i64 0),.d nPQ] h λd h=>bnd (bld [(0,1),(1,1)] [.int .i64 0,nPQ] [(0,c)]) λc=>alV 1 [.d (.int .i64 0),.d nPQ] h λe h=>stD h 2 e c λ_ h=>blQ a λc=>lp (iV C d e a c) [] h [I 0] h (exK [((.exit 0),λa h=>bnd (ldA h 2 e) λa=>stD h 2 d a λ_ h=>bnd (ldA h 2 d) λa=>q (.tup [a,I 0]) h),(.ret,λa h=>bnd (ldA h 2 d) λc=>q (.tup [c,ge a 0]) h)])
theorem vw(h:dw (CX Y) t0 t1 (out v)):CP Y F.dw [t0,t1] v:=CPo 3 (nBQ (nRQ [.slot 0]) (nBQ (nRQ [.slot 1]) (nCQ (aA (nCQ (.n (.l [15] [4,6,13,14] [((.exit 0),[],[4,6]),(.ret,[5],[4])] []) (eE (nCQ (nCQ (zz (nRQ [.o,.slot 2]))))) .o)))))) Tryz.func67 h
def gL(C:CC)(a:V)(q:kQ):Prop:=let h:Hp:=.replicate 2 nnQ
 eU 0 a h λa h=>alV 1 [.d (.int .i64 0),.d nPQ] h λc h=>bnd (ldA h 2 a) λd=>clQ C h F.jf [d] λd h=>nzQ d (bnd (bld [(0,1),(1,1)] [.int .i64 0,nPQ] []) λa=>stD h 2 c a λ_ h=>bnd (ldA h 2 c) λa=>q (.tup [a,d]) h) (bfQ 1 a λd=>b1Q h d λd=>clQ C h F.cN [d] λd h=>bfQ 0 a λe=>b1Q h e λe=>clQ C h F.cW [d,e] λd h=>bfQ 0 a λe=>b1Q h e λe=>clQ C h F.cW [d,e] λd h=>bfQ 0 a λa=>b1Q h a λa=>clQ C h F.dw [d,a] λa h=>e2Q a λa d=>stD h 2 c a λ_ h=>bnd (ldA h 2 c) λa=>q (.tup [a,d]) h)
theorem yB(h:gL (CX Y) t0 (out v)):CP Y F.gL [t0] v:=CPo 2 (nCQ (nRQ [.slot 0,.slot 1])) Tryz.func41 h
def eJ(C:CC)(a:V)(q:kQ):Prop:=let h:Hp:=.replicate 2 nnQ
 eU 0 a h λa h=>alV 1 [.d (.int .i64 0),.d nPQ] h λc h=>bnd (ldA h 2 a) λd=>clQ C h F.jf [d] λd h=>nzQ d (bnd (bld [(0,1),(1,1)] [.int .i64 0,nPQ] []) λa=>stD h 2 c a λ_ h=>bnd (ldA h 2 c) λa=>q (.tup [a,d]) h) (bfQ 1 a λd=>b1Q h d λd=>clQ C h F.cN [d] λd h=>bfQ 0 a λe=>b1Q h e λe=>clQ C h F.cW [d,e] λd h=>bfQ 0 a λa=>b1Q h a λa=>clQ C h F.dw [d,a] λa h=>e2Q a λa d=>stD h 2 c a λ_ h=>bnd (ldA h 2 c) λa=>q (.tup [a,d]) h)
theorem vC(h:eJ (CX Y) t0 (out v)):CP Y F.eJ [t0] v:=CPo 2 (nCQ (nRQ [.slot 0,.slot 1])) Tryz.func42 h
def qf(C:CC)(a c:V)(q:kQ):Prop:=let h:Hp:=.replicate 16 nnQ
 alV 0 [.d (.int .i64 0),.d nPQ] h λd h=>clQ C h F.kt [a,c] λe h=>nzQ e (bnd (bld [(0,1),(1,1)] [.int .i64 0,nPQ] []) λa=>stD h 2 d a λ_ h=>bnd (ldA h 2 d) λa=>q (.tup [a,e]) h) (ciQ C h F.cN [c] 1 λc h=>ciQ C h F.bY [c,a] 2 λc h=>clQ C h F.dw [c,a] λa h=>e2Q a λa c=>stD h 2 d a λ_ h=>bnd (ldA h 2 d) λa=>q (.tup [a,c]) h)
theorem JI(h:qf (CX Y) t0 t1 (out v)):CP Y F.qf [t0,t1] v:=CPo 16 (nBQ (nRQ [.slot 0]) (aA (nCQ (nRQ [.inl 1,.inl 2])))) Tryz.func40 h
def kt(C:CC)(a c:V)(q:kQ):Prop:=let h:Hp:=[]
 bIQ .lss a (I 0) λd=>gqQ d false h a λe h=>gbQ d false h (biI .gtr e (I 12)) λe h=>bpQ d (B true) e λd=>cnd d (q (I 3) h) (blQ c λd=>cIQ .gtr d (I 12) (q (I 4) h) (clQ C h F.nJ [c,a] q))
theorem CF(h:kt (CX Y) t0 t1 (out v)):CP Y F.kt [t0,t1] v:=CPo 0 .o Tryz.func64 h
def jf(C:CC)(a:V)(q:kQ):Prop:=let h:Hp:=.replicate 1 nnQ
 eU 0 a h λa h=>bfQ 0 a λc=>b1Q h c λc=>bfQ 1 a λd=>b1Q h d λd=>clQ C h F.kt [c,d] λc h=>nzQ c (q c h) (bfQ 1 a λa=>b1Q h a λa=>clQ C h F.k9 [a] λa h=>e2Q a λa c=>bIQ .neq c (I 0) λc=>gqQ c false h a λa h=>gbQ c false h (unV .not a) λa h=>bpQ c (B true) a λa=>cnd a (q (I 7) h) (q (I 0) h))
theorem CH(h:jf (CX Y) t0 (out v)):CP Y F.jf [t0] v:=CPo 1 (nCQ (nRQ [.slot 0])) Tryz.func68 h
def ku(C:CC)(a c:V)(q:kQ):Prop:=let h:Hp:=.replicate 2 nnQ
 eU 0 a h λa h=>eU 1 c h λc h=>bfQ 0 a λd=>b1Q h d λd=>bfQ 0 c λe=>b1Q h e λe=>bIQ .eql d e λd=>gbQ d true h (faV 1 a) λa h=>gbQ d true h (ld1 h a) λa h=>gbQ d true h (faV 1 c) λc h=>gbQ d true h (ld1 h c) λc h=>gd d true h (λq=>clQ C h F.au [a,c,(.fn F.p6 [] [])] q) λa h=>bpQ d a (B false) λa=>q a h
theorem CG(h:ku (CX Y) t0 t1 (out v)):CP Y F.ku [t0,t1] v:=CPo 2 (nCQ (nRQ [.slot 0,.slot 1])) Tryz.func106 h
def aI(C:CC)(a c d e:V):aM:=λl h q=>cIQ .lss (ge l 0) e (bxQ h 1 d (ge l 0) λd=>b1Q h d λd=>bxQ h 1 a (ge l 0) λa=>b1Q h a λa=>cal C.p h c [d,a] λa h=>bnd (unV .not a) λa=>cnd a (q .ret [B false] h) (bIQ .add (ge l 0) (I 1) λa=>q .normal [a] h)) (q (.exit 0) [] h)
def au(C:CC)(a c d:V)(q:kQ):Prop:=let h:Hp:=[]
 blQ a λe=>blQ c λf=>cIQ .neq e f (q (B false) h) (blQ a λe=>lp (aI C c d a e) [] h [I 0] h (exK [((.exit 0),λa h=>q (B true) h),(.ret,λa h=>q (ge a 0) h)]))
theorem gY(h:au (CX Y) t0 t1 t2 (out v)):CP Y F.au [t0,t1,t2] v:=CPo 0 (eE (nCQ (aA (nCQ (.n (.l [17] [1,2,15,16] [((.exit 0),[],[]),(.ret,[6],[])] []) .o .o))))) Tryz.func138 h
def qx(C:CC)(a:V)(q:kQ):Prop:=let h:Hp:=[]
 bIQ .geq a (I (-1000000000)) λc=>gqQ c true h a λa h=>gbQ c true h (biI .leq a (I 1000000000)) λa h=>bpQ c a (B false) λa=>q a h
theorem NW(h:qx (CX Y) t0 (out v)):CP Y F.qx [t0] v:=CPo 0 .o Tryz.func110 h
def nI(C:CC)(a:V)(q:kQ):Prop:=let h:Hp:=[]
 clQ C h F.qx [a] λa h=>bnd (unV .not a) λa=>q a h
theorem Ev(h:nI (CX Y) t0 (out v)):CP Y F.nI [t0] v:=CPo 0 .o Tryz.func109 h
def o5(C:CC)(a:V)(q:kQ):Prop:=let h:Hp:=[]
 blQ a λc=>bIQ .gtr c (I 64) λc=>gqQ c false h a λa h=>gd c false h (λq=>clQ C h F.aX [a,(.fn F.nI [] [])] q) λa h=>bpQ c (B true) a λa=>cnd a (q (I 4) h) (q (I 0) h)
theorem Lr(h:o5 (CX Y) t0 (out v)):CP Y F.o5 [t0] v:=CPo 0 .o Tryz.func73 h
def p6(C:CC)(a c:V)(q:kQ):Prop:=let h:Hp:=[]
 clQ C h F.bS [a,c] q
theorem Lq(h:p6 (CX Y) t0 t1 (out v)):CP Y F.p6 [t0,t1] v:=CPo 0 .o Tryz.func139 h
def bD(C:CC)(a c d:V):aM:=λl h q=>cIQ .lss (ge l 0) d (bxQ h 2 a (ge l 0) λa=>bnd (ldA h 2 a) λa=>cal C.p h c [a] λa h=>cnd a (q .ret [ge l 0] h) (bIQ .add (ge l 0) (I 1) λa=>q .normal [a] h)) (q (.exit 0) [] h)
def aT(C:CC)(a c:V)(q:kQ):Prop:=let h:Hp:=[]
 blQ a λd=>lp (bD C a c d) [] h [I 0] h (exK [((.exit 0),λa h=>q (I (-1)) h),(.ret,λa h=>q (ge a 0) h)])
theorem kS(h:aT (CX Y) t0 t1 (out v)):CP Y F.aT [t0,t1] v:=CPo 0 (aA (nCQ (aA (nCQ (.n (.l [8] [0,1,7] [((.exit 0),[],[]),(.ret,[4],[])] []) .o .o))))) Tryz.func188 h
def aF(C:CC)(a c:V)(q:kQ):Prop:=let h:Hp:=[]
 clQ C h F.aT [a,c] λa h=>bIQ .geq a (I 0) λa=>q a h
theorem jS(h:aF (CX Y) t0 t1 (out v)):CP Y F.aF [t0,t1] v:=CPo 0 .o Tryz.func164 h
def bV(C:CC)(a c d:V):aM:=λl h q=>cIQ .lss (ge l 0) d (bxQ h 2 a (ge l 0) λa=>bnd (ldA h 2 a) λa=>cal C.p h c [a] λa h=>cnd a (q .ret [ge l 0] h) (bIQ .add (ge l 0) (I 1) λa=>q .normal [a] h)) (q (.exit 0) [] h)
def bA(C:CC)(a c:V)(q:kQ):Prop:=let h:Hp:=[]
 blQ a λd=>lp (bV C a c d) [] h [I 0] h (exK [((.exit 0),λa h=>q (I (-1)) h),(.ret,λa h=>q (ge a 0) h)])
theorem mE(h:bA (CX Y) t0 t1 (out v)):CP Y F.bA [t0,t1] v:=CPo 0 (aA (nCQ (aA (nCQ (.n (.l [8] [0,1,7] [((.exit 0),[],[]),(.ret,[4],[])] []) .o .o))))) Tryz.func200 h
def aJ(C:CC)(a c:V)(q:kQ):Prop:=let h:Hp:=[]
 clQ C h F.bA [a,c] λa h=>bIQ .geq a (I 0) λa=>q a h
theorem lE(h:aJ (CX Y) t0 t1 (out v)):CP Y F.aJ [t0,t1] v:=CPo 0 .o Tryz.func189 h
def jT(C:CC)(a:V)(q:kQ):Prop:=let h:Hp:=.replicate 1 nnQ
 alV 0 [.d (.str []),.d (.str [])] h λc h=>clQ C h F.dK [a] λa h=>bnd (bld [(0,1),(1,1)] [.str [],.str []] [(0,a),(1,(.d (.str [49])))]) λa=>stD h 2 c a λ_ h=>bnd (ldA h 2 c) λa=>q a h
theorem Gx(h:jT (CX Y) t0 (out v)):CP Y F.jT [t0] v:=CPo 1 (nCQ (nRQ [.slot 0])) Tryz.func57 h
def qZ(C:CC)(b:Nat)(a c:V):aM:=λl h q=>cIQ .lss (ge l 0) c (clQ C h F.jT [I 0] λc h=>bxQ h 2 a (ge l 0) λa=>stD h 2 a c λ_ h=>bIQ .add (ge l 0) (I 1) λa=>q .normal [a] h) (q (.exit 0) [] h)
def oX(C:CC)(b:Nat)(h:Hp)(a:V)(q:kQ):Prop:=let h:Hp:=h++List.replicate 1 nnQ
 mkS (b+0) 32 [.str [],.str []] h a a λa h=>blQ a λc=>lp (qZ C b a c) [] h [I 0] h (exK [((.exit 0),λc h=>q a h)])
def wl(b:Nat):Ann:=(.n .x .o (.n .x (.n (.r [.slot (b+0)]) .o .o) (.n .x (.n .x .o (.n .x (.n (.l [9] [3,8] [((.exit 0),[],[3])] []) .o .o) .o)) .o)))
theorem K8(C:CC)(h:Hp)(t0:V)(q:kkQ):fnI Y C Tryz.f89 1 wl [t0] h q=oX C h.length h t0 q:=by rfl
theorem K6(b:Nat):okB Tryz.prog Tryz.f89 (wl b)=true:=by rfl
theorem K7(hh:oX (CX Y) h.length h t0 (od h.length v h2)):CI Y F.oX [t0] h v h2:=
 CI.of (fn:=Tryz.f89) (m:=1) (a:=wl) rfl (λ_=>rfl) Tryz.func89 (K6 _) (by rw[K8];exact hh)
def qu(C:CC)(a c d e f:V):aM:=λl h q=>cIQ .lss (ge l 0) f (bxQ h 2 e (ge l 0) λe=>bnd (ldA h 2 e) λe=>alV 1 [.d (.str []),.d (.str [])] h λf h=>stD h 2 f e λ_ h=>bxQ h 2 c (ge l 0) λe=>bnd (ldA h 2 e) λe=>bnd (ldA h 2 f) λf=>bxQ h 2 a d λa=>bnd (ldA h 2 a) λa=>clQ C h F.mc [f,a] λa h=>clQ C h F.fT [e,a] λa h=>bxQ h 2 c (ge l 0) λc=>stD h 2 c a λ_ h=>bIQ .add (ge l 0) (I 1) λa=>q .normal [a] h) (q (.exit 2) [] h)
def sN(C:CC)(a c d e:V):aM:=λl h q=>cIQ .lss (ge l 0) e (bxQ h 1 d (ge l 0) λd=>b1Q h d λd=>blQ d λe=>lp (qu C a c (ge l 0) d e) [1] h [I 0] h (exK [((.exit 2),λa h=>bIQ .add (ge l 0) (I 1) λa=>q .normal [a] h)])) (q (.exit 0) [] h)
def qw(C:CC)(a c d:V)(q:kQ):Prop:=let h:Hp:=.replicate 2 nnQ
 ciQ C h F.oX [a] 0 λa h=>blQ c λe=>lp (sN C d a c e) [1] h [I 0] h (exK [((.exit 0),λc h=>q a h)])
def yi:Ann:=(aA (nBQ (nRQ [.inl 0]) (nCQ (aA (nCQ (.n (.l [16] [2,7,14,15] [((.exit 0),[],[7])] [1]) (eE (nCQ (nCQ (eE (nCQ (.n (.l [23] [2,7,8,14,15,16,21,22] [((.exit 2),[],[2,7,14,15,16])] [1]) (eE (nCQ (nCQ (nCQ (nRQ [.slot 1]))))) .o)))))) .o))))))
theorem NP(C:CC)(t0:V)(t1:V)(t2:V)(q:kkQ):fnD Y C Tryz.f56 2 yi [t0,t1,t2] q=qw C t0 t1 t2 q:=by kernel_rfl
theorem NN:okB Tryz.prog Tryz.f56 yi=true:=aG
theorem NO(h:qw (CX Y) t0 t1 t2 (out v)):CP Y F.qw [t0,t1,t2] v:=
 CP.of (fn:=Tryz.f56) (m:=2) (a:=yi) rfl (λ_=>rfl) Tryz.func56 NN (by rw[NP];exact h)
def nH(C:CC)(a c d:V):aM:=λl h q=>cIQ .lss (ge l 0) d (bxQ h 1 c (ge l 0) λc=>b1Q h c λc=>clQ C h F.lW [a,c] λa h=>nzQ a (q .ret [a] h) (bIQ .add (ge l 0) (I 1) λa=>q .normal [a] h)) (q (.exit 0) [] h)
def km(C:CC)(a c:V)(q:kQ):Prop:=let h:Hp:=[]
 clQ C h F.fx [a] λd h=>nzQ d (q d h) (blQ c λd=>lp (nH C a c d) [] h [I 0] h (exK [((.exit 0),λa h=>q (I 0) h),(.ret,λa h=>q (ge a 0) h)]))
theorem Ct(h:km (CX Y) t0 t1 (out v)):CP Y F.km [t0,t1] v:=CPo 0 (eE (nCQ (aA (nCQ (.n (.l [16] [0,14,15] [((.exit 0),[],[]),(.ret,[4],[])] []) .o .o))))) Tryz.func34 h
def oY(C:CC)(a:V)(q:kQ):Prop:=let h:Hp:=[]
 clQ C h F.aJ [a,(.fn F.jy [] [])] λc h=>cnd c (q (.tup [nSQ,I 4]) h) (q (.tup [a,I 0]) h)
theorem Gw(h:oY (CX Y) t0 (out v)):CP Y F.oY [t0] v:=CPo 0 .o Tryz.func166 h
def jy(C:CC)(a:V)(q:kQ):Prop:=let h:Hp:=.replicate 1 nnQ
 eU 0 a h λa h=>bnd (ldA h 2 a) λa=>clQ C h F.m6 [a] λa h=>bnd (unV .not a) λa=>q a h
theorem AV(h:jy (CX Y) t0 (out v)):CP Y F.jy [t0] v:=CPo 1 (nCQ (nRQ [.slot 0])) Tryz.func190 h
def nF(C:CC)(a c d:V)(q:kQ):Prop:=let h:Hp:=[]
 clQ C h F.km [a,c] λe h=>nzQ e (q (.tup [nSQ,e]) h) (blQ d λe=>blQ c λf=>cIQ .neq e f (q (.tup [nSQ,I 5]) h) (clQ C h F.aF [d,(.fn F.iG [] [])] λe h=>cnd e (q (.tup [nSQ,I 2]) h) (blQ a λa=>clQ C h F.qw [a,c,d] λa h=>clQ C h F.oY [a] λa h=>e2Q a λa c=>q (.tup [a,c]) h)))
theorem Eo(h:nF (CX Y) t0 t1 t2 (out v)):CP Y F.nF [t0,t1,t2] v:=CPo 0 .o Tryz.func133 h
def iG(C:CC)(a:V)(q:kQ):Prop:=let h:Hp:=.replicate 1 nnQ
 eU 0 a h λa h=>bnd (ldA h 2 a) λa=>clQ C h F.ib [a] λa h=>bIQ .neq a (I 0) λa=>q a h
theorem zj(h:iG (CX Y) t0 (out v)):CP Y F.iG [t0] v:=CPo 1 (nCQ (nRQ [.slot 0])) Tryz.func165 h
def pW(C:CC)(a c d:V)(q:kQ):Prop:=let h:Hp:=.replicate 1 nnQ
 eU 0 d h λd h=>dI 1 [nPQ] [(0,c)] h λc h=>bnd (ldA h 2 d) λd=>dI 1 [.str [],.str []] [(0,d)] h λd h=>clQ C h F.nF [a,c,d] λa h=>e2Q a λa c=>q (.tup [a,c]) h
theorem IY(h:pW (CX Y) t0 t1 t2 (out v)):CP Y F.pW [t0,t1,t2] v:=CPo 1 (nCQ (nRQ [.slot 0])) Tryz.func96 h
def pV(C:CC)(b:Nat)(h:Hp)(a:V)(q:kQ):Prop:=let h:Hp:=h++List.replicate 1 nnQ
 clQ C h F.fx [a] λc h=>nzQ c (q (.tup [nSQ,c]) h) (blQ a λa=>ciQ C h F.oX [a] (b+0) λa h=>q (.tup [a,I 0]) h)
def wm(b:Nat):Ann:=(.n .x .o (.n .x .o (.n .x (.n (.r [.inl (b+0)]) .o .o) .o)))
theorem Ld(C:CC)(h:Hp)(t0:V)(q:kkQ):fnI Y C Tryz.f132 1 wm [t0] h q=pV C h.length h t0 q:=by rfl
theorem La(b:Nat):okB Tryz.prog Tryz.f132 (wm b)=true:=by rfl
theorem Lb(hh:pV (CX Y) h.length h t0 (od h.length v h2)):CI Y F.pV [t0] h v h2:=
 CI.of (fn:=Tryz.f132) (m:=1) (a:=wm) rfl (λ_=>rfl) Tryz.func132 (La _) (by rw[Ld];exact hh)
def oZ(C:CC)(a:V)(q:kQ):Prop:=let h:Hp:=.replicate 1 nnQ
 ciQ C h F.pV [a] 0 λa h=>e2Q a λa c=>nzQ c (q (.tup [nSQ,c]) h) (clQ C h F.jT [I 1] λc h=>bxQ h 2 a (I 0) λd=>stD h 2 d c λ_ h=>q (.tup [a,I 0]) h)
theorem Gz(h:oZ (CX Y) t0 (out v)):CP Y F.oZ [t0] v:=CPo 1 (aA (nCQ (nRQ [.inl 0]))) Tryz.func95 h
def fI(C:CC)(a c d:V):aM:=λl h q=>cIQ .lss (ge l 0) d (bxQ h 1 a (ge l 0) λa=>b1Q h a λa=>bxQ h 1 c (ge l 0) λc=>b1Q h c λc=>cIQ .neq a c (q .ret [B false] h) (bIQ .add (ge l 0) (I 1) λa=>q .normal [a] h)) (q (.exit 0) [] h)
def bS(C:CC)(a c:V)(q:kQ):Prop:=let h:Hp:=[]
 blQ a λd=>blQ c λe=>cIQ .neq d e (q (B false) h) (blQ a λd=>lp (fI C a c d) [] h [I 0] h (exK [((.exit 0),λa h=>q (B true) h),(.ret,λa h=>q (ge a 0) h)]))
theorem rY(h:bS (CX Y) t0 t1 (out v)):CP Y F.bS [t0,t1] v:=CPo 0 (eE (nCQ (aA (nCQ (.n (.l [13] [0,1,12] [((.exit 0),[],[]),(.ret,[4],[])] []) .o .o))))) Tryz.func141 h
def o7(C:CC)(a c:V)(q:kQ):Prop:=let h:Hp:=[]
 dI 1 [nPQ] [(0,c)] h λc h=>clQ C h F.jA [a,c] q
theorem GE(h:o7 (CX Y) t0 t1 (out v)):CP Y F.o7 [t0,t1] v:=CPo 0 .o Tryz.func29 h
def mQ(C:CC)(a c:V):aM:=λl h q=>cIQ .lss (ge l 0) c (bxQ h 1 a (ge l 0) λa=>b1Q h a λa=>bIQ .gtr a (I 1000) λc=>gqQ c false h a λa h=>gbQ c false h (biI .lss a (I (-1000))) λa h=>bpQ c (B true) a λa=>cnd a (q .ret [I 4] h) (bIQ .add (ge l 0) (I 1) λa=>q .normal [a] h)) (q (.exit 2) [] h)
def j5(C:CC)(a c d:V):aM:=λl h q=>cIQ .lss (ge l 0) d (bxQ h 1 c (ge l 0) λc=>b1Q h c λc=>blQ c λd=>blQ a λa=>cIQ .neq d a (q .ret [I 5] h) (blQ c λa=>lp (mQ C c a) [] h [I 0] h (exK [((.exit 2),λa h=>bIQ .add (ge l 0) (I 1) λa=>q .normal [a] h),(.ret,λa h=>q .ret [ge a 0] h)]))) (q (.exit 0) [] h)
def jA(C:CC)(a c:V)(q:kQ):Prop:=let h:Hp:=[]
 clQ C h F.fx [a] λd h=>nzQ d (q d h) (blQ c λd=>lp (j5 C a c d) [] h [I 0] h (exK [((.exit 0),λa h=>q (I 0) h),(.ret,λa h=>q (ge a 0) h)]))
theorem Bm(h:jA (CX Y) t0 t1 (out v)):CP Y F.jA [t0,t1] v:=CPo 0 (eE (nCQ (aA (nCQ (.n (.l [17] [0,15,16] [((.exit 0),[],[]),(.ret,[4],[])] []) (eE (nCQ (nCQ (zz (nCQ (.n (.l [28] [0,15,16,17,26,27] [((.exit 2),[],[0,15,16,17]),(.ret,[4],[])] []) .o .o)))))) .o))))) Tryz.func44 h
def nE(C:CC)(a c d:V)(q:kQ):Prop:=let h:Hp:=[]
 blQ a λe=>dI 2 [nPQ] [(0,c),(1,d)] h λc h=>clQ C h F.jT [I 1] λd h=>clQ C h F.jT [I (-1)] λf h=>dI 2 [.str [],.str []] [(0,d),(1,f)] h λd h=>clQ C h F.qw [e,c,d] λc h=>clQ C h F.lV [a,c] λa h=>clQ C h F.cM [a] q
theorem En(h:nE (CX Y) t0 t1 t2 (out v)):CP Y F.nE [t0,t1,t2] v:=CPo 0 .o Tryz.func35 h
def gS(C:CC)(a c d:V)(q:kQ):Prop:=let h:Hp:=[]
 dI 2 [nPQ] [(0,c),(1,d)] h λe h=>clQ C h F.km [a,e] λe h=>nzQ e (q (.tup [I 0,e]) h) (clQ C h F.nE [a,c,d] λa h=>q (.tup [a,I 0]) h)
theorem wn(h:gS (CX Y) t0 t1 t2 (out v)):CP Y F.gS [t0,t1,t2] v:=CPo 0 .o Tryz.func14 h
def eD(C:CC)(a:V)(q:kQ):Prop:=let h:Hp:=[]
 dI 3 [.int .i64 0] [(0,(I 2)),(1,(I 3)),(2,(I 5))] h λc h=>dI 4 [.int .i64 0] [(0,(I 2)),(1,(I 3)),(2,(I 5)),(3,(I 7))] h λd h=>dI 2 [.int .i64 0] [(0,(I 2)),(1,(I 3))] h λe h=>dI 3 [.int .i64 0] [(0,(I 2)),(1,(I 3)),(2,(I 7))] h λf h=>dI 3 [.int .i64 0] [(0,(I 2)),(1,(I 5)),(2,(I 7))] h λg h=>dI 3 [.int .i64 0] [(0,(I 3)),(1,(I 5)),(2,(I 7))] h λi h=>dI 4 [.int .i64 0] [(0,(I 2)),(1,(I 3)),(2,(I 5)),(3,(I 11))] h λj h=>dI 1 [.int .i64 0] [(0,(I 2))] h λk h=>dI 4 [.int .i64 0] [(0,(I 2)),(1,(I 3)),(2,(I 7)),(3,(I 13))] h λl h=>dI 4 [.int .i64 0] [(0,(I 3)),(1,(I 5)),(2,(I 7)),(3,(I 13))] h λm h=>dI 10 [nPQ] [(0,c),(1,d),(2,e),(3,f),(4,g),(5,i),(6,j),(7,k),(8,l),(9,m)] h λc h=>bnd (cvI .i64 a) λa=>blQ c λd=>bIQ .rem a d λa=>bxQ h 1 c a λa=>b1Q h a λa=>q a h
def mG:Ann:=.o
theorem vr(C:CC)(t0:V)(q:kkQ):fnD Y C Tryz.f20 0 mG [t0] q=eD C t0 q:=by kernel_rfl
theorem vp:okB Tryz.prog Tryz.f20 mG=true:=aG
theorem vq(h:eD (CX Y) t0 (out v)):CP Y F.eD [t0] v:=
 CP.of (fn:=Tryz.f20) (m:=0) (a:=mG) rfl (λ_=>rfl) Tryz.func20 vp (by rw[vr];exact h)
def gU(C:CC)(a c:V):aM:=λl h q=>blQ a λa=>bIQ .lss (ge l 1) a λa=>gqQ a true h (ge l 1) λd h=>gbQ a true h (biI .lss d (I 4)) λd h=>bpQ a d (B false) λa=>cnd a (bnd (ixP 4 1 c (ge l 1)) λa=>b1Q h a λa=>bnd (cvI .i64 a) λa=>bIQ .rem a (I 10) λa=>a1Q 1 (ge l 0) a h λa h=>bIQ .add (ge l 1) (I 1) λc=>q .normal [a,c] h) (q (.exit 0) [ge l 0] h)
def dF(C:CC)(a c:V)(q:kQ):Prop:=let h:Hp:=.replicate 2 nnQ
 eU 0 c h λc h=>lp (gU C a c) [] h [nSQ,I 0] h (exK [((.exit 0),λa h=>q (ge a 0) h)])
theorem tR(h:dF (CX Y) t0 t1 (out v)):CP Y F.dF [t0,t1] v:=CPo 2 (nBQ (nRQ [.slot 0]) (aA (nCQ (aA (nCQ (.n (.l [5,6] [0,3] [((.exit 0),[5],[])] []) (aA (nCQ (nCQ (nRQ [.o,.slot 1])))) .o)))))) Tryz.func21 h
def jk(C:CC)(a c:V)(q:kQ):Prop:=let h:Hp:=[]
 clQ C h F.au [a,c,(.fn F.eB [] [])] q
theorem ye(h:jk (CX Y) t0 t1 (out v)):CP Y F.jk [t0,t1] v:=CPo 0 .o Tryz.func107 h
def eB(C:CC)(a c:V)(q:kQ):Prop:=let h:Hp:=[]
 clQ C h F.bS [a,c] q
theorem vk(h:eB (CX Y) t0 t1 (out v)):CP Y F.eB [t0,t1] v:=CPo 0 .o Tryz.func140 h
def eM(C:CC)(a:V)(q:kQ):Prop:=let h:Hp:=.replicate 4 nnQ
 eU 0 a h λa h=>bfQ 0 a λc=>b1Q h c λc=>clQ C h F.fx [c] λc h=>nzQ c (q c h) (bfQ 0 a λc=>b1Q h c λc=>blQ c λc=>bfQ 1 a λd=>b1Q h d λd=>bnd (bld [(0,1),(1,1)] [.int .i64 0,nPQ] [(0,c),(1,d)]) λc=>alV 1 [.d (.int .i64 0),.d nPQ] h λd h=>stD h 2 d c λ_ h=>bnd (ldA h 2 d) λc=>clQ C h F.jf [c] λc h=>nzQ c (q c h) (bnd (ldA h 2 d) λc=>clQ C h F.gL [c] λc h=>e2Q c λc e=>alV 2 [.d (.int .i64 0),.d nPQ] h λf h=>stD h 2 f c λ_ h=>bIQ .neq e (I 0) λc=>gbQ c false h (ldA h 2 f) λe h=>gbQ c false h (ldA h 2 d) λf h=>gd c false h (λq=>clQ C h F.ku [e,f] q) λe h=>gbQ c false h (unV .not e) λe h=>bpQ c (B true) e λc=>cnd c (q (I 7) h) (bnd (ldA h 2 d) λc=>clQ C h F.eJ [c] λc h=>e2Q c λc d=>alV 3 [.d (.int .i64 0),.d nPQ] h λe h=>stD h 2 e c λ_ h=>bIQ .neq d (I 0) λc=>gbQ c false h (faV 1 e) λd h=>gbQ c false h (ld1 h d) λd h=>gbQ c false h (faV 2 a) λa h=>gbQ c false h (ld1 h a) λa h=>gd c false h (λq=>clQ C h F.jk [d,a] q) λa h=>gbQ c false h (unV .not a) λa h=>bpQ c (B true) a λa=>cnd a (q (I 14) h) (q (I 0) h))))
theorem xG(h:eM (CX Y) t0 (out v)):CP Y F.eM [t0] v:=CPo 4 (nBQ (nRQ [.slot 0]) (aA (nBQ (nRQ [.slot 1]) (aA (nBQ (nRQ [.o,.slot 2]) (aA (nCQ (nRQ [.o,.slot 3])))))))) Tryz.func72 h
def jR(C:CC)(a c d:V):aM:=λl h q=>cIQ .lss (ge l 0) d (bxQ h 1 c (ge l 0) λc=>b1Q h c λc=>clQ C h F.o5 [c] λd h=>nzQ d (q .ret [d] h) (blQ c λc=>bfQ 0 a λa=>b1Q h a λa=>blQ a λa=>cIQ .neq c a (q .ret [I 5] h) (bIQ .add (ge l 0) (I 1) λa=>q .normal [a] h))) (q (.exit 0) [] h)
def ij(C:CC)(a c:V)(q:kQ):Prop:=let h:Hp:=.replicate 1 nnQ
 eU 0 a h λa h=>bnd (ldA h 3 a) λd=>clQ C h F.eM [d] λd h=>nzQ d (q d h) (blQ c λd=>lp (jR C a c d) [] h [I 0] h (exK [((.exit 0),λa h=>q (I 0) h),(.ret,λa h=>q (ge a 0) h)]))
theorem xF(h:ij (CX Y) t0 t1 (out v)):CP Y F.ij [t0,t1] v:=CPo 1 (nBQ (nRQ [.slot 0]) (aA (nCQ (aA (nCQ (.n (.l [16] [2,14,15] [((.exit 0),[],[]),(.ret,[4],[])] []) .o .o)))))) Tryz.func46 h
def jF(C:CC)(a c d:V):aM:=λl h q=>cIQ .lss (ge l 1) d (bxQ h 1 c (ge l 1) λc=>b1Q h c λc=>clQ C h F.dK [c] λc h=>bxQ h 1 a (ge l 1) λa=>b1Q h a λa=>clQ C h F.dK [a] λa h=>clQ C h F.aP [c,a] λa h=>clQ C h F.cO [ge l 0,a] λa h=>bIQ .add (ge l 1) (I 1) λc=>q .normal [a,c] h) (q (.exit 2) [ge l 0] h)
def jG(C:CC)(a c d:V):aM:=λl h q=>cIQ .lss (ge l 1) d (bxQ h 1 c (ge l 1) λc=>b1Q h c λc=>blQ a λd=>lp (jF C c a d) [] h [(.d (.str [48])),I 0] h (exK [((.exit 2),λa h=>dI 1 [.str []] [(0,(ge a 0))] h λa h=>apV false 1 1 16 (ge l 0) a h λa h=>bIQ .add (ge l 1) (I 1) λc=>q .normal [a,c] h)])) (q (.exit 0) [ge l 0] h)
def gF(C:CC)(a c:V)(q:kQ):Prop:=let h:Hp:=.replicate 2 nnQ
 eU 0 a h λa h=>bfQ 2 a λa=>b1Q h a λa=>blQ a λd=>lp (jG C c a d) [] h [nSQ,I 0] h (exK [((.exit 0),λa h=>q (ge a 0) h)])
theorem wd(h:gF (CX Y) t0 t1 (out v)):CP Y F.gF [t0,t1] v:=CPo 2 (nBQ (nRQ [.slot 0]) (aA (nCQ (aA (nCQ (.n (.l [5,14] [1,12,13] [((.exit 0),[5],[])] []) (eE (nCQ (nCQ (eE (nBQ (aA (nCQ (.n (.l [8,20] [1,5,7,12,13,14,18,19] [((.exit 2),[8],[1,5,12,13,14])] []) .o .o))) (nRQ [.o,.slot 1])))))) .o)))))) Tryz.func47 h
def jH(C:CC)(a c:V):aM:=λl h q=>cIQ .lss (ge l 1) c (bxQ h 1 a (ge l 1) λa=>b1Q h a λa=>clQ C h F.lI [a] λa h=>e2Q a λa c=>bnd (unV .not c) λc=>gqQ c false h a λd h=>gbQ c false h (biI .gtr d (I 1000000000)) λd h=>bpQ c (B true) d λc=>gqQ c false h a λd h=>gbQ c false h (biI .lss d (I (-1000000000))) λd h=>bpQ c (B true) d λc=>cnd c (q .ret [nSQ,I 4] h) (a1Q 1 (ge l 0) a h λa h=>bIQ .add (ge l 1) (I 1) λc=>q .normal [a,c] h)) (q (.exit 0) [ge l 0] h)
def fj(C:CC)(a c:V)(q:kQ):Prop:=let h:Hp:=.replicate 2 nnQ
 eU 0 a h λa h=>bnd (ldA h 3 a) λd=>dI 1 [nPQ] [(0,c)] h λe h=>clQ C h F.ij [d,e] λd h=>nzQ d (q (.tup [nSQ,d]) h) (bnd (ldA h 3 a) λa=>clQ C h F.gF [a,c] λa h=>blQ a λc=>lp (jH C a c) [] h [nSQ,I 0] h (exK [((.exit 0),λa h=>q (.tup [ge a 0,I 0]) h),(.ret,λa h=>q (.tup [ge a 0,ge a 1]) h)]))
theorem we(h:fj (CX Y) t0 t1 (out v)):CP Y F.fj [t0,t1] v:=CPo 2 (nBQ (nRQ [.slot 0]) (eE (nCQ (aA (nCQ (.n (.l [7,23] [21,22] [((.exit 0),[7],[]),(.ret,[4,5],[])] []) (eE (nCQ (nCQ (zz (nRQ [.o,.slot 1]))))) .o)))))) Tryz.func30 h
def aU(C:CC)(a c:V)(q:kQ):Prop:=let h:Hp:=.replicate 2 nnQ
 alV 0 [.d (.str []),.d (.str [])] h λd h=>clQ C h F.fD [a,c] λa h=>e2Q a λa c=>alV 1 [.d (.str []),.d (.str [])] h λc h=>stD h 2 c a λ_ h=>bnd (ldA h 2 c) λa=>stD h 2 d a λ_ h=>bnd (ldA h 2 d) λa=>q a h
theorem xH(h:aU (CX Y) t0 t1 (out v)):CP Y F.aU [t0,t1] v:=CPo 2 (nBQ (nRQ [.slot 0]) (nCQ (nRQ [.o,.slot 1]))) Tryz.func16 h
def kA(C:CC)(a:V)(q:kQ):Prop:=let h:Hp:=.replicate 1 nnQ
 eU 0 a h λa h=>bnd (ldA h 3 a) λc=>clQ C h F.eM [c] λc h=>nzQ c (q c h) (bfQ 2 a λc=>b1Q h c λc=>blQ c λc=>cIQ .neq c (I 2) (q (I 5) h) (bfQ 2 a λa=>b1Q h a λa=>bxQ h 1 a (I 0) λa=>b1Q h a λa=>bxQ h 1 a (I 0) λa=>b1Q h a λa=>cIQ .eql a (I 0) (q (I 26) h) (q (I 0) h)))
theorem CL(h:kA (CX Y) t0 (out v)):CP Y F.kA [t0] v:=CPo 1 (nCQ (nRQ [.slot 0])) Tryz.func70 h
def iJ(C:CC)(a:V)(q:kQ):Prop:=let h:Hp:=.replicate 2 nnQ
 vv 0 0 [.int .i64 0] [] h λc h=>apV false 1 1 8 c a h q
theorem zV(h:iJ (CX Y) t0 (out v)):CP Y F.iJ [t0] v:=CPo 2 (aA (nCQ (nRQ [.slot 0,.slot 1]))) Tryz.func71 h
def j8(C:CC)(a:V)(q:kQ):Prop:=let h:Hp:=.replicate 2 nnQ
 eU 0 a h λa h=>alV 1 [.d (.int .i64 0),.d nPQ,.d nPQ] h λc h=>bnd (ldA h 3 a) λd=>clQ C h F.kA [d] λd h=>nzQ d (bnd (bld [(0,1),(1,1),(2,1)] [.int .i64 0,nPQ,nPQ] []) λa=>stD h 3 c a λ_ h=>bnd (ldA h 3 c) λa=>q (.tup [a,d]) h) (bfQ 2 a λd=>b1Q h d λd=>bxQ h 1 d (I 0) λd=>b1Q h d λd=>bxQ h 1 d (I 0) λd=>b1Q h d λd=>bfQ 2 a λe=>b1Q h e λe=>bxQ h 1 e (I 0) λe=>b1Q h e λe=>clQ C h F.iJ [e] λe h=>bfQ 2 a λa=>b1Q h a λa=>bxQ h 1 a (I 1) λa=>b1Q h a λa=>clQ C h F.iJ [a] λa h=>bnd (bld [(0,1),(1,1),(2,1)] [.int .i64 0,nPQ,nPQ] [(0,d),(1,e),(2,a)]) λa=>stD h 3 c a λ_ h=>bnd (ldA h 3 c) λa=>q (.tup [a,I 0]) h)
theorem wU(h:j8 (CX Y) t0 (out v)):CP Y F.j8 [t0] v:=CPo 2 (nCQ (nRQ [.slot 0,.slot 1])) Tryz.func43 h
def nM(C:CC)(a:V)(q:kQ):Prop:=let h:Hp:=.replicate 2 nnQ
 eU 0 a h λa h=>alV 1 [.d (.str []),.d (.str [])] h λc h=>bfQ 0 a λd=>b1Q h d λd=>clQ C h F.mp [d] λd h=>bfQ 1 a λa=>b1Q h a λa=>bnd (bld [(0,1),(1,1)] [.str [],.str []] [(0,d),(1,a)]) λa=>stD h 2 c a λ_ h=>bnd (ldA h 2 c) λa=>q a h
theorem FC(h:nM (CX Y) t0 (out v)):CP Y F.nM [t0] v:=CPo 2 (nCQ (nRQ [.slot 0,.slot 1])) Tryz.func50 h
def mb(C:CC)(a c:V)(q:kQ):Prop:=let h:Hp:=.replicate 3 nnQ
 eU 0 a h λa h=>eU 1 c h λc h=>alV 2 [.d (.str []),.d (.str [])] h λd h=>bnd (ldA h 2 a) λa=>bnd (ldA h 2 c) λc=>clQ C h F.nM [c] λc h=>clQ C h F.fT [a,c] λa h=>stD h 2 d a λ_ h=>bnd (ldA h 2 d) λa=>q a h
theorem FA(h:mb (CX Y) t0 t1 (out v)):CP Y F.mb [t0,t1] v:=CPo 3 (nCQ (nRQ [.slot 0,.slot 1,.slot 2])) Tryz.func32 h
def gk(C:CC)(a c:V)(q:kQ):Prop:=let h:Hp:=.replicate 1 nnQ
 eU 0 c h λc h=>clQ C h F.oZ [a] λd h=>e2Q d λd e=>nzQ e (q (.tup [nSQ,e]) h) (bnd (ldA h 2 c) λc=>clQ C h F.pW [a,d,c] λa h=>e2Q a λa c=>q (.tup [a,c]) h)
theorem y9(h:gk (CX Y) t0 t1 (out v)):CP Y F.gk [t0,t1] v:=CPo 1 (nCQ (nRQ [.slot 0])) Tryz.func62 h
def jP(C:CC)(a c d:V):aM:=λl h q=>cIQ .lss (ge l 1) d (bxQ h 1 c (ge l 1) λc=>b1Q h c λc=>bnd (ldA h 3 a) λa=>clQ C h F.fj [a,c] λa h=>e2Q a λa c=>nzQ c (q .ret [nSQ,I 0,c] h) (dI 1 [nPQ] [(0,a)] h λa h=>apV false 2 1 24 (ge l 0) a h λa h=>bIQ .add (ge l 1) (I 1) λc=>q .normal [a,c] h)) (q (.exit 1) [ge l 0] h)
def cn(C:CC)(a c:V)(q:kQ):Prop:=let h:Hp:=.replicate 3 nnQ
 eU 0 a h λa h=>bnd (ldA h 3 a) λd=>clQ C h F.j8 [d] λd h=>e2Q d λd e=>alV 1 [.d (.int .i64 0),.d nPQ,.d nPQ] h λf h=>stD h 3 f d λ_ h=>nzQ e (q (.tup [nSQ,I 0,e]) h) (blQ c λd=>cIQ .gtr d (I 60) (q (.tup [nSQ,I 0,I 4]) h) (bfQ 0 a λd=>b1Q h d λd=>clQ C h F.jA [d,c] λd h=>nzQ d (q (.tup [nSQ,I 0,d]) h) (blQ c λd=>lp (jP C a c d) [] h [nSQ,I 0] h (exK [((.exit 1),λa h=>bfQ 0 f λc=>b1Q h c λc=>q (.tup [ge a 0,c,I 0]) h),(.ret,λa h=>q (.tup [ge a 0,ge a 1,ge a 2]) h)]))))
theorem nX(h:cn (CX Y) t0 t1 (out v)):CP Y F.cn [t0,t1] v:=CPo 3 (nBQ (nRQ [.slot 0]) (nBQ (nRQ [.o,.slot 1]) (eE (nCQ (aA (nCQ (.n (.l [4,35] [2,7,33,34] [((.exit 1),[4],[7]),(.ret,[4,5,6],[])] []) (eE (nCQ (nCQ (zz (nRQ [.o,.slot 2]))))) .o))))))) Tryz.func23 h
def kN(C:CC)(a c d e f:V):aM:=λl h q=>cIQ .lss (ge l 1) f (bxQ h 1 e (ge l 1) λe=>b1Q h e λe=>clQ C h F.fD [e,I 1] λe h=>e2Q e λe f=>alV 2 [.d (.str []),.d (.str [])] h λf h=>stD h 2 f e λ_ h=>bIQ .eql (ge l 1) (I 0) λe=>jn (λa h=>bnd (ldA h 2 f) λa=>bnd (ldA h 2 d) λc=>clQ C h F.gX [a,c] λa h=>e2Q a λa c=>stD h 2 f a λ_ h=>bnd (ldA h 2 f) λa=>dI 1 [.str [],.str []] [(0,a)] h λa h=>apV false 4 2 32 (ge l 0) a h λa h=>bIQ .add (ge l 1) (I 1) λc=>q .normal [a,c] h) λd=>cnd e (bxQ h 1 a (I 0) λa=>b1Q h a λa=>clQ C h F.fD [a,c] λa h=>e2Q a λa c=>alV 3 [.d (.str []),.d (.str [])] h λc h=>stD h 2 c a λ_ h=>bnd (ldA h 2 f) λa=>bnd (ldA h 2 c) λc=>clQ C h F.mb [a,c] λa h=>stD h 2 f a λ_ h=>d [] h) (d [] h)) (q (.exit 0) [ge l 0] h)
def ja(C:CC)(a c d e:V)(q:kQ):Prop:=let h:Hp:=.replicate 5 nnQ
 bxQ h 1 d (I 1) λf=>b1Q h f λf=>cIQ .eql f (I 0) (q (.tup [nSQ,B false,I 0]) h) (bxQ h 1 d (I 1) λf=>b1Q h f λf=>clQ C h F.fD [f,I 1] λf h=>e2Q f λf g=>alV 0 [.d (.str []),.d (.str [])] h λg h=>stD h 2 g f λ_ h=>vv 1 0 [.str [],.str []] [] h λf h=>blQ c λi=>lp (kN C d e g c i) [2,3] h [f,I 0] h (exK [((.exit 0),λc h=>clQ C h F.oJ [a,ge c 0] λa h=>nzQ a (q (.tup [nSQ,B false,I 4]) h) (q (.tup [ge c 0,B true,I 0]) h))]))
theorem vf(h:ja (CX Y) t0 t1 t2 t3 (out v)):CP Y F.ja [t0,t1,t2,t3] v:=CPo 5 (eE (nBQ (nRQ [.o,.slot 0]) (nBQ (nRQ [.slot 1]) (nCQ (aA (nCQ (.n (.l [13,34] [0,2,3,11,32,33] [((.exit 0),[13],[0])] [2,3]) (eE (nCQ (nCQ (aA (nBQ (nRQ [.o,.slot 2]) (nBQ (aA (.n (.j [] [0,2,3,11,13,16,32,33,34]) (nCQ (nRQ [.o,.slot 3])) .o)) (aA (nRQ [.o,.slot 4])))))))) .o))))))) Tryz.func24 h
def aQ(C:CC)(b:Nat)(h:Hp)(a:V)(q:kQ):Prop:=let h:Hp:=h++List.replicate 2 nnQ
 yv h .eql a nSQ λc=>cnd c (q nSQ h) (vv (b+0) 0 [.str [],.str []] [] h λc h=>apV false (b+1) 2 32 c a h q)
def eC(b:Nat):Ann:=(.n .x .o (.n .x .o (.n .x (.n (.r [.slot (b+0),.slot (b+1)]) .o .o) .o)))
theorem oc(C:CC)(h:Hp)(t0:V)(q:kkQ):fnI Y C Tryz.f27 2 eC [t0] h q=aQ C h.length h t0 q:=by rfl
theorem nY(b:Nat):okB Tryz.prog Tryz.f27 (eC b)=true:=by rfl
theorem nZ(hh:aQ (CX Y) h.length h t0 (od h.length v h2)):CI Y F.aQ [t0] h v h2:=
 CI.of (fn:=Tryz.f27) (m:=2) (a:=eC) rfl (λ_=>rfl) Tryz.func27 (nY _) (by rw[oc];exact hh)
def jW(C:CC)(a c:V):aM:=λl h q=>blQ a λd=>cIQ .lss (ge l 0) d (bxQ h 2 a (ge l 0) λa=>bnd (ldA h 2 a) λa=>bxQ h 2 c (ge l 0) λc=>bnd (ldA h 2 c) λc=>bnd (biA [.str [],.str []] .neq a c) λa=>cnd a (q .ret [B false] h) (bIQ .add (ge l 0) (I 1) λa=>q .normal [a] h)) (q (.exit 0) [] h)
def cr(C:CC)(a c:V)(q:kQ):Prop:=let h:Hp:=[]
 blQ a λd=>blQ c λe=>cIQ .neq d e (q (B false) h) (lp (jW C a c) [] h [I 0] h (exK [((.exit 0),λa h=>q (B true) h),(.ret,λa h=>q (ge a 0) h)]))
theorem xK(h:cr (CX Y) t0 t1 (out v)):CP Y F.cr [t0,t1] v:=CPo 0 (eE (nCQ (aA (nCQ (.n (.l [5] [0,1] [((.exit 0),[],[]),(.ret,[4],[])] []) .o .o))))) Tryz.func19 h
def fP(C:CC)(a:V)(q:kQ):Prop:=let h:Hp:=.replicate 1 nnQ
 eU 0 a h λa h=>bfQ 1 a λa=>b1Q h a λa=>blQ a λa=>bIQ .leq a (I 3) λa=>q a h
theorem xM(h:fP (CX Y) t0 (out v)):CP Y F.fP [t0] v:=CPo 1 (nCQ (nRQ [.slot 0])) Tryz.func5 h
def gJ(C:CC)(a c d:V)(q:kQ):Prop:=let h:Hp:=.replicate 4 nnQ
 alV 0 [.d nPQ,.d nPQ,.d nPQ] h λe h=>clQ C h F.fx [a] λf h=>nzQ f (bnd (bld [(0,1),(1,1),(2,1)] [nPQ,nPQ,nPQ] []) λa=>stD h 3 e a λ_ h=>bnd (ldA h 3 e) λa=>q (.tup [a,f]) h) (blQ a λf=>clQ C h F.qf [f,c] λc h=>e2Q c λc f=>alV 1 [.d (.int .i64 0),.d nPQ] h λg h=>stD h 2 g c λ_ h=>nzQ f (bnd (bld [(0,1),(1,1),(2,1)] [nPQ,nPQ,nPQ] []) λa=>stD h 3 e a λ_ h=>bnd (ldA h 3 e) λa=>q (.tup [a,f]) h) (bnd (ldA h 2 g) λc=>clQ C h F.gL [c] λc h=>e2Q c λc f=>alV 2 [.d (.int .i64 0),.d nPQ] h λi h=>stD h 2 i c λ_ h=>bnd (ldA h 2 g) λc=>clQ C h F.eJ [c] λc h=>e2Q c λc g=>alV 3 [.d (.int .i64 0),.d nPQ] h λj h=>stD h 2 j c λ_ h=>bIQ .neq f (I 0) λc=>gqQ c false h g λf h=>gbQ c false h (biI .neq f (I 0)) λf h=>bpQ c (B true) f λc=>cnd c (bnd (bld [(0,1),(1,1),(2,1)] [nPQ,nPQ,nPQ] []) λa=>stD h 3 e a λ_ h=>bnd (ldA h 3 e) λa=>q (.tup [a,I 4]) h) (jn (λc h=>bfQ 1 i λc=>b1Q h c λc=>bfQ 1 j λd=>b1Q h d λd=>bnd (bld [(0,1),(1,1),(2,1)] [nPQ,nPQ,nPQ] [(0,a),(1,c),(2,d)]) λa=>stD h 3 e a λ_ h=>bnd (ldA h 3 e) λa=>q (.tup [a,I 0]) h) λa=>cnd d (bnd (ldA h 2 j) λc=>bnd (ldA h 2 i) λd=>stD h 2 i c λ_ h=>stD h 2 j d λ_ h=>a [] h) (a [] h))))
theorem wz(h:gJ (CX Y) t0 t1 t2 (out v)):CP Y F.gJ [t0,t1,t2] v:=CPo 4 (nBQ (nRQ [.slot 0]) (aA (nBQ (nRQ [.o,.slot 1]) (aA (nBQ (nRQ [.o,.slot 2]) (nBQ (nRQ [.o,.slot 3]) (aA (nCQ (aA (nJQ [] [0,6,11,12])))))))))) Tryz.func22 h
def jX(C:CC)(a c:V):aM:=λl h q=>bfQ 1 a λd=>b1Q h d λd=>blQ d λd=>bIQ .lss (ge l 1) d λd=>gqQ d true h (ge l 1) λe h=>gbQ d true h (biI .lss e (I 3)) λe h=>bpQ d e (B false) λd=>cnd d (bfQ 1 a λa=>b1Q h a λa=>bxQ h 4 a (ge l 1) λa=>bnd (ldA h 4 a) λa=>clQ C h F.dF [c,a] λa h=>dI 1 [nPQ] [(0,a)] h λa h=>apV false 2 1 24 (ge l 0) a h λa h=>bIQ .add (ge l 1) (I 1) λc=>q .normal [a,c] h) (q (.exit 0) [ge l 0] h)
def eO(C:CC)(a:V)(q:kQ):Prop:=let h:Hp:=.replicate 4 nnQ
 eU 0 a h λa h=>alV 1 [.d nPQ,.d nPQ,.d nPQ] h λc h=>bfQ 0 a λd=>b1Q h d λd=>clQ C h F.eD [d] λd h=>lp (jX C a d) [] h [nSQ,I 0] h (exK [((.exit 0),λe h=>bfQ 2 a λa=>b1Q h a λa=>clQ C h F.gJ [d,ge e 0,a] λa h=>e2Q a λa d=>alV 3 [.d nPQ,.d nPQ,.d nPQ] h λd h=>stD h 3 d a λ_ h=>bnd (ldA h 3 d) λa=>stD h 3 c a λ_ h=>bnd (ldA h 3 c) λa=>q a h)])
theorem xL(h:eO (CX Y) t0 (out v)):CP Y F.eO [t0] v:=CPo 4 (nBQ (nRQ [.slot 0,.slot 1]) (eE (nBQ (aA (nCQ (.n (.l [4,5] [1,2,3] [((.exit 0),[4],[1,2,3])] []) (aA (nCQ (nCQ (nRQ [.o,.o,.slot 2])))) .o))) (nCQ (nRQ [.o,.slot 3]))))) Tryz.func7 h
def fh(C:CC)(b:Nat)(h:Hp)(a c d e:V)(q:kQ):Prop:=let h:Hp:=h++List.replicate 3 nnQ
 cIQ .eql d (I 0) (bfQ 0 a λd=>bfQ 6 d λd=>b1Q h d λd=>gqQ d false h c λc h=>gbQ d false h (biI .lss c (I 0)) λc h=>bpQ d (B true) c λc=>bfQ 0 a λa=>bfQ 6 a λa=>stD h 1 a c λ_ h=>q (.tup []) h) (bnd (unV .neg c) λc=>clQ C h F.fD [c,e] λc h=>e2Q c λc e=>alV (b+0) [.d (.str []),.d (.str [])] h λe h=>stD h 2 e c λ_ h=>clQ C h F.fD [d,I 1] λc h=>e2Q c λc f=>alV (b+1) [.d (.str []),.d (.str [])] h λf h=>stD h 2 f c λ_ h=>bnd (ldA h 2 e) λc=>bnd (ldA h 2 f) λe=>clQ C h F.gX [c,e] λc h=>e2Q c λc e=>alV (b+2) [.d (.str []),.d (.str [])] h λe h=>stD h 2 e c λ_ h=>jn (λa h=>q (.tup []) h) λc=>bIQ .gtr d (I 0) λf=>gqQ f true h a λg h=>gbQ f true h (faV 0 g) λg h=>gbQ f true h (faV 4 g) λg h=>gbQ f true h (ld1 h g) λg h=>gbQ f true h (unV .not g) λg h=>gqQ f true h g λg h=>gbQ g false h (ldA h 2 e) λi h=>gqQ g false h a λj h=>gbQ g false h (faV 0 j) λj h=>gbQ g false h (faV 0 j) λj h=>gbQ g false h (ldA h 2 j) λj h=>gd g false h (λq=>clQ C h F.fE [i,j] q) λi h=>gbQ g false h (biI .gtr i (I 0)) λi h=>gbQ f true h (mP g (B true) i) λg h=>bpQ f g (B false) λf=>jn (λa h=>c [] h) λc=>cnd f (bnd (ldA h 2 e) λd=>bfQ 0 a λe=>bfQ 0 e λe=>stD h 2 e d λ_ h=>bfQ 0 a λa=>bfQ 4 a λa=>stD h 1 a (B true) λ_ h=>c [] h) (bIQ .lss d (I 0) λd=>gqQ d true h a λf h=>gbQ d true h (faV 0 f) λf h=>gbQ d true h (faV 5 f) λf h=>gbQ d true h (ld1 h f) λf h=>gbQ d true h (unV .not f) λf h=>gqQ d true h f λf h=>gbQ f false h (ldA h 2 e) λg h=>gqQ f false h a λi h=>gbQ f false h (faV 0 i) λi h=>gbQ f false h (faV 2 i) λi h=>gbQ f false h (ldA h 2 i) λi h=>gd f false h (λq=>clQ C h F.fE [g,i] q) λg h=>gbQ f false h (biI .lss g (I 0)) λg h=>gbQ d true h (mP f (B true) g) λf h=>bpQ d f (B false) λd=>jn (λa h=>c [] h) λc=>cnd d (bnd (ldA h 2 e) λd=>bfQ 0 a λe=>bfQ 2 e λe=>stD h 2 e d λ_ h=>bfQ 0 a λa=>bfQ 5 a λa=>stD h 1 a (B true) λ_ h=>c [] h) (c [] h)))
def mY(b:Nat):Ann:=(.n .x .o (.n .x (.n (.r [.o,.slot (b+0)]) .o .o) (.n .x (.n (.r [.o,.slot (b+1)]) .o .o) (.n .x (.n (.r [.o,.slot (b+2)]) .o .o) (.n (.j [] []) (.n .x .o (.n (.j [] []) .o (.n .x .o (.n (.j [] []) .o .o)))) .o)))))
theorem vZ(C:CC)(h:Hp)(t0:V)(t1:V)(t2:V)(t3:V)(q:kkQ):fnI Y C Tryz.f37 3 mY [t0,t1,t2,t3] h q=fh C h.length h t0 t1 t2 t3 q:=by rfl
theorem vX(b:Nat):okB Tryz.prog Tryz.f37 (mY b)=true:=by rfl
theorem vY(hh:fh (CX Y) h.length h t0 t1 t2 t3 (od h.length v h2)):CI Y F.fh [t0,t1,t2,t3] h v h2:=
 CI.of (fn:=Tryz.f37) (m:=3) (a:=mY) rfl (λ_=>rfl) Tryz.func37 (vX _) (by rw[vZ];exact hh)
def jj(C:CC)(a c:V)(q:kQ):Prop:=let h:Hp:=.replicate 2 nnQ
 alV 0 [.d nPQ,.d nPQ,.d (.bool false),.d (.bool false),.d (.bool false)] h λd h=>bfQ 0 a λe=>bfQ 6 e λe=>b1Q h e λe=>gqQ e false h a λf h=>gbQ e false h (faV 0 f) λf h=>gbQ e false h (faV 4 f) λf h=>gbQ e false h (ld1 h f) λf h=>gqQ e false h f λf h=>gqQ f true h a λg h=>gbQ f true h (faV 0 g) λg h=>gbQ f true h (faV 5 g) λg h=>gbQ f true h (ld1 h g) λg h=>gbQ e false h (mP f g (B false)) λf h=>gqQ e false h f λf h=>gqQ f true h a λg h=>gbQ f true h (faV 0 g) λg h=>gbQ f true h (faV 0 g) λg h=>gbQ f true h (ldA h 2 g) λg h=>gqQ f true h a λi h=>gbQ f true h (faV 0 i) λi h=>gbQ f true h (faV 2 i) λi h=>gbQ f true h (ldA h 2 i) λi h=>gd f true h (λq=>clQ C h F.fE [g,i] q) λg h=>gbQ f true h (biI .gtr g (I 0)) λg h=>gbQ e false h (mP f g (B false)) λf h=>bpQ e (B true) f λe=>cnd e (bnd (bld [(0,1),(1,1),(2,1),(3,1),(4,1)] [nPQ,nPQ,.bool false,.bool false,.bool false] [(4,(B true))]) λa=>stD h 5 d a λ_ h=>bnd (ldA h 5 d) λa=>q (.tup [a,I 0]) h) (bfQ 0 a λe=>bfQ 4 e λe=>b1Q h e λe=>bfQ 0 a λf=>bfQ 5 f λf=>b1Q h f λf=>bnd (bld [(0,1),(1,1),(2,1),(3,1),(4,1)] [nPQ,nPQ,.bool false,.bool false,.bool false] [(2,e),(3,f)]) λe=>alV 1 [.d nPQ,.d nPQ,.d (.bool false),.d (.bool false),.d (.bool false)] h λf h=>stD h 5 f e λ_ h=>bfQ 0 a λe=>bfQ 4 e λe=>b1Q h e λe=>jn (λe h=>bfQ 0 a λe=>bfQ 5 e λe=>b1Q h e λe=>jn (λa h=>bnd (ldA h 5 f) λa=>stD h 5 d a λ_ h=>bnd (ldA h 5 d) λa=>q (.tup [a,I 0]) h) λg=>cnd e (bfQ 0 a λa=>bfQ 2 a λa=>bnd (ldA h 2 a) λa=>clQ C h F.gk [c,a] λa h=>e2Q a λa c=>bfQ 1 f λe=>stD h 1 e a λ_ h=>nzQ c (bnd (bld [(0,1),(1,1),(2,1),(3,1),(4,1)] [nPQ,nPQ,.bool false,.bool false,.bool false] []) λa=>stD h 5 d a λ_ h=>bnd (ldA h 5 d) λa=>q (.tup [a,c]) h) (g [] h)) (g [] h)) λg=>cnd e (bfQ 0 a λa=>bfQ 0 a λa=>bnd (ldA h 2 a) λa=>clQ C h F.gk [c,a] λa h=>e2Q a λa c=>bfQ 0 f λe=>stD h 1 e a λ_ h=>nzQ c (bnd (bld [(0,1),(1,1),(2,1),(3,1),(4,1)] [nPQ,nPQ,.bool false,.bool false,.bool false] []) λa=>stD h 5 d a λ_ h=>bnd (ldA h 5 d) λa=>q (.tup [a,c]) h) (g [] h)) (g [] h))
theorem yd(h:jj (CX Y) t0 t1 (out v)):CP Y F.jj [t0,t1] v:=CPo 2 (nBQ (nRQ [.slot 0]) (aA (nBQ (nRQ [.slot 1]) (aA (nBQ (aA (nJQ [] [0,1,4,6])) (nCQ (aA (nJQ [] [4,6])))))))) Tryz.func38 h
def lR(C:CC)(a c d:V):aM:=λl h q=>blQ a λe=>cIQ .lss (ge l 0) e (bxQ h 1 a (ge l 0) λe=>b1Q h e λe=>bxQ h 1 e (I 0) λe=>b1Q h e λe=>bIQ .sub (ge l 0) (I 1) λf=>bxQ h 1 a f λf=>b1Q h f λf=>bxQ h 1 f (I 0) λf=>b1Q h f λf=>bIQ .sub e f λe=>bxQ h 1 a (ge l 0) λf=>b1Q h f λf=>bxQ h 1 f (I 1) λf=>b1Q h f λf=>bIQ .sub (ge l 0) (I 1) λg=>bxQ h 1 a g λa=>b1Q h a λa=>bxQ h 1 a (I 1) λa=>b1Q h a λa=>bIQ .sub f a λa=>ciQ C h F.fh [d,e,a,c] 3 λa h=>bIQ .add (ge l 0) (I 1) λa=>q .normal [a] h) (q (.exit 0) [] h)
def gn(C:CC)(a c:V)(q:kQ):Prop:=let h:Hp:=.replicate 4 nnQ
 eU 0 a h λa h=>alV 1 [.d nPQ,.d nPQ,.d (.bool false),.d (.bool false),.d (.bool false)] h λd h=>bnd (ldA h 3 a) λe=>clQ C h F.cn [e,c] λc h=>e3Q c λc e f=>nzQ f (bnd (bld [(0,1),(1,1),(2,1),(3,1),(4,1)] [nPQ,nPQ,.bool false,.bool false,.bool false] []) λa=>stD h 5 d a λ_ h=>bnd (ldA h 5 d) λa=>q (.tup [a,f]) h) (alV 2 [.d (.str []),.d (.str []),.d (.str []),.d (.str []),.d (.bool false),.d (.bool false),.d (.bool false)] h λf h=>lp (lR C c e f) [3] h [I 1] h (exK [((.exit 0),λc h=>bfQ 0 a λa=>b1Q h a λa=>clQ C h F.jj [f,a] λa h=>e2Q a λa c=>stD h 5 d a λ_ h=>bnd (ldA h 5 d) λa=>q (.tup [a,c]) h)]))
theorem za(h:gn (CX Y) t0 t1 (out v)):CP Y F.gn [t0,t1] v:=CPo 4 (nBQ (nRQ [.slot 0,.slot 1]) (eE (nBQ (nRQ [.slot 2]) (nCQ (aA (nCQ (.n (.l [10] [2,4,6,7,9] [((.exit 0),[],[2,4,9])] [3]) (aA (nCQ (nCQ (nRQ [.inl 3])))) .o))))))) Tryz.func17 h
def cQ(C:CC)(a c:V):aM:=λl h q=>blQ a λd=>cIQ .lss (ge l 1) d (jn (λa h=>bIQ .add (ge l 1) (I 1) λc=>q .normal [ge a 0,c] h) λd=>bxQ h 1 a (ge l 1) λe=>b1Q h e λe=>cal C.p h c [e,ge l 0] λc h=>bIQ .lss c (I 0) λc=>jn (λa h=>d [ge a 0] h) λd=>cnd c (bxQ h 1 a (ge l 1) λa=>b1Q h a λa=>d [a] h) (d [ge l 0] h)) (q (.exit 0) [ge l 0] h)
def bG(C:CC)(a c:V)(q:kQ):Prop:=let h:Hp:=[]
 blQ a λd=>bIQ .lss d (I 1) λd=>jn (λd h=>bxQ h 1 a (I 0) λd=>b1Q h d λd=>lp (cQ C a c) [] h [d,I 1] h (exK [((.exit 0),λa h=>q (ge a 0) h)])) λa=>cnd d (False /- makeInterface -/) (a [] h)
theorem oG(h:bG (CX Y) t0 t1 (out v)):CP Y F.bG [t0,t1] v:=CPo 0 (aA (nBQ (aA (nJQ [] [0,1])) (aA (nCQ (aA (nCQ (.n (.l [5,6] [0,1] [((.exit 0),[5],[])] []) (aA (nCQ (.n (.j [5] [0,1,6]) (aA (nJQ [5] [0,1,6])) .o))) .o))))))) Tryz.func26 h
def cS(C:CC)(a c:V):aM:=λl h q=>blQ a λd=>cIQ .lss (ge l 1) d (jn (λa h=>bIQ .add (ge l 1) (I 1) λc=>q .normal [ge a 0,c] h) λd=>bxQ h 1 a (ge l 1) λe=>b1Q h e λe=>cal C.p h c [e,ge l 0] λc h=>bIQ .gtr c (I 0) λc=>jn (λa h=>d [ge a 0] h) λd=>cnd c (bxQ h 1 a (ge l 1) λa=>b1Q h a λa=>d [a] h) (d [ge l 0] h)) (q (.exit 0) [ge l 0] h)
def bH(C:CC)(a c:V)(q:kQ):Prop:=let h:Hp:=[]
 blQ a λd=>bIQ .lss d (I 1) λd=>jn (λd h=>bxQ h 1 a (I 0) λd=>b1Q h d λd=>lp (cS C a c) [] h [d,I 1] h (exK [((.exit 0),λa h=>q (ge a 0) h)])) λa=>cnd d (False /- makeInterface -/) (a [] h)
theorem oH(h:bH (CX Y) t0 t1 (out v)):CP Y F.bH [t0,t1] v:=CPo 0 (aA (nBQ (aA (nJQ [] [0,1])) (aA (nCQ (aA (nCQ (.n (.l [5,6] [0,1] [((.exit 0),[5],[])] []) (aA (nCQ (.n (.j [5] [0,1,6]) (aA (nJQ [5] [0,1,6])) .o))) .o))))))) Tryz.func28 h
def kJ(C:CC)(a c d e f g:V):aM:=λl h q=>cIQ .lss (ge l 1) g (jn (λa h=>bIQ .add (ge l 1) (I 1) λc=>q .normal [ge a 0,c] h) λg=>bxQ h 1 f (ge l 1) λf=>b1Q h f λf=>bfQ 0 a λa=>b1Q h a λa=>bxQ h 1 d (ge l 1) λd=>b1Q h d λd=>clQ C h F.ja [a,f,d,e] λa h=>e3Q a λa d e=>nzQ e (bnd (bld [(0,1),(1,1),(2,1),(3,1),(4,1)] [nPQ,nPQ,.bool false,.bool false,.bool false] []) λa=>stD h 5 c a λ_ h=>q .ret [e] h) (jn (λa h=>g [ge a 0] h) λc=>cnd d (dI 1 [nPQ] [(0,a)] h λa h=>apV false 2 1 24 (ge l 0) a h λa h=>c [a] h) (c [ge l 0] h))) (q (.exit 0) [ge l 0] h)
def bf(C:CC)(a c:V)(q:kQ):Prop:=let h:Hp:=.replicate 4 nnQ
 eU 0 a h λa h=>alV 1 [.d nPQ,.d nPQ,.d (.bool false),.d (.bool false),.d (.bool false)] h λd h=>bnd (ldA h 3 a) λe=>clQ C h F.cn [e,c] λe h=>e3Q e λe f g=>nzQ g (bnd (bld [(0,1),(1,1),(2,1),(3,1),(4,1)] [nPQ,nPQ,.bool false,.bool false,.bool false] []) λa=>stD h 5 d a λ_ h=>bnd (ldA h 5 d) λa=>q (.tup [a,g]) h) (blQ c λg=>lp (kJ C a d e f c g) [] h [nSQ,I 0] h (exK [((.exit 0),λc h=>blQ (ge c 0) λe=>cIQ .eql e (I 0) (bnd (bld [(0,1),(1,1),(2,1),(3,1),(4,1)] [nPQ,nPQ,.bool false,.bool false,.bool false] []) λa=>stD h 5 d a λ_ h=>bnd (ldA h 5 d) λa=>q (.tup [a,I 19]) h) (clQ C h F.bG [ge c 0,(.fn F.bj [] [a])] λe h=>clQ C h F.bH [ge c 0,(.fn F.bj [] [a])] λa h=>ciQ C h F.aQ [a] 3 λa h=>bnd (bld [(0,1),(1,1),(2,1),(3,1),(4,1)] [nPQ,nPQ,.bool false,.bool false,.bool false] [(0,e),(1,a),(2,(B true)),(3,(B true))]) λa=>stD h 5 d a λ_ h=>bnd (ldA h 5 d) λa=>q (.tup [a,I 0]) h)),(.ret,λa h=>bnd (ldA h 5 d) λc=>q (.tup [c,ge a 0]) h)]))
theorem lS(h:bf (CX Y) t0 t1 (out v)):CP Y F.bf [t0,t1] v:=CPo 4 (nBQ (nRQ [.slot 0,.slot 1]) (zz (nBQ (aA (nCQ (.n (.l [9,29] [2,4,6,7,27,28] [((.exit 0),[9],[2,4]),(.ret,[5],[4])] []) (eE (nCQ (.n (.j [9] [2,4,6,7,27,28,29]) (SD (.n (.j [9] [2,4,6,7,27,28,29]) (nRQ [.o,.slot 2]) .o)) .o))) .o))) (eE (nCQ (nRQ [.o,.o,.inl 3])))))) Tryz.func8 h
def bj(C:CC)(a c d:V)(q:kQ):Prop:=let h:Hp:=[]
 bfQ 0 d λd=>b1Q h d λd=>clQ C h F.gS [d,a,c] λa h=>e2Q a λa c=>q a h
theorem vj(h:bj (CX Y) t0 t1 t2 (out v)):CP Y F.bj [t0,t1,t2] v:=CPo 0 .o Tryz.func25 h
def dE(C:CC)(q:kQ):Prop:=let h:Hp:=.replicate 1 nnQ
 alV 0 [.d nPQ,.d nPQ,.d nPQ] h λa h=>dI 3 [.int .i64 0] [(0,(I 2)),(1,(I 3)),(2,(I 5))] h λc h=>dI 3 [.int .i64 0] [(0,(I 4)),(1,(I (-4))),(2,(I 1))] h λd h=>dI 1 [nPQ] [(0,d)] h λd h=>dI 3 [.int .i64 0] [(0,(I 1)),(1,(I 0)),(2,(I (-4)))] h λe h=>dI 3 [.int .i64 0] [(0,(I 0)),(1,(I 1)),(2,(I 4))] h λf h=>dI 2 [nPQ] [(0,e),(1,f)] h λe h=>bnd (bld [(0,1),(1,1),(2,1)] [nPQ,nPQ,nPQ] [(0,c),(1,d),(2,e)]) λc=>stD h 3 a c λ_ h=>bnd (ldA h 3 a) λa=>q a h
theorem tQ(h:dE (CX Y) (out v)):CP Y F.dE [] v:=CPo 1 (nCQ (nRQ [.slot 0])) Tryz.func18 h
def fk(C:CC)(q:kQ):Prop:=let h:Hp:=.replicate 3 nnQ
 clQ C h F.aU [I 0,I 1] λa h=>alV 0 [.d (.str []),.d (.str [])] h λc h=>stD h 2 c a λ_ h=>clQ C h F.dE [] λa h=>dI 3 [.int .i64 0] [(0,(I 0)),(1,(I 0)),(2,(I 0))] h λd h=>dI 3 [.int .i64 0] [(0,(I (-3))),(1,(I 2)),(2,(I 0))] h λe h=>dI 3 [.int .i64 0] [(0,(I (-2))),(1,(I 0)),(2,(I 1))] h λf h=>dI 3 [.int .i64 0] [(0,(I 2)),(1,(I (-1))),(2,(I 0))] h λg h=>dI 3 [.int .i64 0] [(0,(I (-1))),(1,(I 1)),(2,(I 0))] h λi h=>dI 5 [nPQ] [(0,d),(1,e),(2,f),(3,g),(4,i)] h λd h=>clQ C h F.gn [a,d] λa h=>e2Q a λa d=>alV 1 [.d nPQ,.d nPQ,.d (.bool false),.d (.bool false),.d (.bool false)] h λe h=>stD h 5 e a λ_ h=>clQ C h F.dE [] λa h=>dI 3 [.int .i64 0] [(0,(I (-2))),(1,(I 0)),(2,(I 1))] h λf h=>dI 3 [.int .i64 0] [(0,(I (-1))),(1,(I 1)),(2,(I 0))] h λg h=>dI 2 [nPQ] [(0,f),(1,g)] h λf h=>clQ C h F.bf [a,f] λa h=>e2Q a λa f=>alV 2 [.d nPQ,.d nPQ,.d (.bool false),.d (.bool false),.d (.bool false)] h λg h=>stD h 5 g a λ_ h=>bIQ .eql d (I 0) λa=>gbQ a true h (faV 2 e) λd h=>gbQ a true h (ld1 h d) λd h=>bpQ a d (B false) λa=>gbQ a true h (faV 3 e) λd h=>gbQ a true h (ld1 h d) λd h=>bpQ a d (B false) λa=>gbQ a true h (faV 0 e) λd h=>gbQ a true h (ld1 h d) λd h=>gd a true h (λq=>clQ C h F.aU [I 3,I 2] q) λi h=>gbQ a true h (ldA h 2 c) λj h=>gbQ a true h (ldA h 2 c) λk h=>gd a true h (λq=>dI 3 [.str [],.str []] [(0,i),(1,j),(2,k)] h q) λi h=>gd a true h (λq=>clQ C h F.cr [d,i] q) λd h=>bpQ a d (B false) λa=>gbQ a true h (faV 1 e) λd h=>gbQ a true h (ld1 h d) λd h=>gd a true h (λq=>clQ C h F.aU [I 8,I 5] q) λe h=>gbQ a true h (ldA h 2 c) λi h=>gbQ a true h (ldA h 2 c) λj h=>gd a true h (λq=>dI 3 [.str [],.str []] [(0,e),(1,i),(2,j)] h q) λe h=>gd a true h (λq=>clQ C h F.cr [d,e] q) λd h=>bpQ a d (B false) λa=>gqQ a true h f λd h=>gbQ a true h (biI .eql d (I 0)) λd h=>bpQ a d (B false) λa=>gbQ a true h (faV 0 g) λd h=>gbQ a true h (ld1 h d) λd h=>gd a true h (λq=>clQ C h F.aU [I 1,I 1] q) λe h=>gbQ a true h (ldA h 2 c) λf h=>gd a true h (λq=>clQ C h F.aU [I 1,I 4] q) λi h=>gd a true h (λq=>dI 3 [.str [],.str []] [(0,e),(1,f),(2,i)] h q) λe h=>gd a true h (λq=>clQ C h F.cr [d,e] q) λd h=>bpQ a d (B false) λa=>gbQ a true h (faV 1 g) λd h=>gbQ a true h (ld1 h d) λd h=>gbQ a true h (ldA h 2 c) λe h=>gd a true h (λq=>clQ C h F.aU [I 1,I 1] q) λf h=>gbQ a true h (ldA h 2 c) λc h=>gd a true h (λq=>dI 3 [.str [],.str []] [(0,e),(1,f),(2,c)] h q) λc h=>gd a true h (λq=>clQ C h F.cr [d,c] q) λc h=>bpQ a c (B false) λa=>q a h
theorem wt(h:fk (CX Y) (out v)):CP Y F.fk [] v:=CPo 3 (aA (nBQ (nRQ [.o,.slot 0]) (nBQ (nRQ [.o,.o,.o,.o,.o,.o,.o,.o,.slot 1]) (nCQ (nRQ [.o,.o,.o,.o,.o,.slot 2]))))) Tryz.func4 h
def fE(C:CC)(a c:V)(q:kQ):Prop:=let h:Hp:=.replicate 2 nnQ
 eU 0 a h λa h=>eU 1 c h λc h=>bnd (ldA h 2 a) λd=>clQ C h F.dp [d] λd h=>e3Q d λd e f=>jn (λd h=>bfQ 1 a λd=>b1Q h d λd=>bfQ 1 c λe=>b1Q h e λe=>bSQ .eql d e λd=>cnd d (bfQ 0 a λa=>b1Q h a λa=>bfQ 0 c λc=>b1Q h c λc=>clQ C h F.d6 [a,c] q) (bfQ 0 a λd=>b1Q h d λd=>bfQ 1 c λe=>b1Q h e λe=>clQ C h F.aP [d,e] λd h=>bfQ 0 c λc=>b1Q h c λc=>bfQ 1 a λa=>b1Q h a λa=>clQ C h F.aP [c,a] λa h=>clQ C h F.d6 [d,a] q)) λa=>cnd f (bnd (ldA h 2 c) λc=>clQ C h F.dp [c] λc h=>e3Q c λc f g=>cnd g (bIQ .mul d f λa=>bIQ .mul c e λc=>cIQ .lss a c (q (I (-1)) h) (cIQ .gtr a c (q (I 1) h) (q (I 0) h))) (a [] h)) (a [] h)
theorem yJ(h:fE (CX Y) t0 t1 (out v)):CP Y F.fE [t0,t1] v:=CPo 2 (nBQ (nRQ [.slot 0,.slot 1]) (nCQ (eE (nJQ [] [2,3])))) Tryz.func61 h
def dS(C:CC)(a c:V)(q:kQ):Prop:=let h:Hp:=.replicate 2 nnQ
 eU 0 a h λa h=>eU 1 c h λc h=>bfQ 0 a λd=>b1Q h d λd=>bfQ 0 c λe=>b1Q h e λe=>clQ C h F.cr [d,e] λd h=>gbQ d true h (faV 1 a) λe h=>gbQ d true h (ld1 h e) λe h=>gbQ d true h (faV 1 c) λf h=>gbQ d true h (ld1 h f) λf h=>gd d true h (λq=>clQ C h F.cr [e,f] q) λe h=>bpQ d e (B false) λd=>gbQ d true h (faV 2 a) λe h=>gbQ d true h (ld1 h e) λe h=>gbQ d true h (faV 2 c) λf h=>gbQ d true h (ld1 h f) λf h=>gbQ d true h (biB .eql e f) λe h=>bpQ d e (B false) λd=>gbQ d true h (faV 3 a) λe h=>gbQ d true h (ld1 h e) λe h=>gbQ d true h (faV 3 c) λf h=>gbQ d true h (ld1 h f) λf h=>gbQ d true h (biB .eql e f) λe h=>bpQ d e (B false) λd=>gbQ d true h (faV 4 a) λa h=>gbQ d true h (ld1 h a) λa h=>gbQ d true h (faV 4 c) λc h=>gbQ d true h (ld1 h c) λc h=>gbQ d true h (biB .eql a c) λa h=>bpQ d a (B false) λa=>q a h
theorem wu(h:dS (CX Y) t0 t1 (out v)):CP Y F.dS [t0,t1] v:=CPo 2 (nCQ (nRQ [.slot 0,.slot 1])) Tryz.func15 h
def dT(C:CC)(a:V)(q:kQ):Prop:=let h:Hp:=.replicate 1 nnQ
 eU 0 a h λa h=>bnd (ldA h 5 a) λa=>bnd (bld [(0,1),(1,1),(2,1),(3,1),(4,1)] [nPQ,nPQ,.bool false,.bool false,.bool false] []) λc=>clQ C h F.dS [a,c] q
theorem ww(h:dT (CX Y) t0 (out v)):CP Y F.dT [t0] v:=CPo 1 (nCQ (nRQ [.slot 0])) Tryz.func11 h
def jm(C:CC)(a:V)(q:kQ):Prop:=let h:Hp:=.replicate 1 nnQ
 eU 0 a h λa h=>bfQ 2 a λc=>b1Q h c λc=>blQ c λc=>cIQ .neq c (I 2) (q (I 5) h) (bfQ 2 a λa=>b1Q h a λa=>bxQ h 1 a (I 0) λa=>b1Q h a λa=>bxQ h 1 a (I 0) λa=>b1Q h a λa=>cIQ .eql a (I 0) (q (I 26) h) (q (I 0) h))
theorem yj(h:jm (CX Y) t0 (out v)):CP Y F.jm [t0] v:=CPo 1 (nCQ (nRQ [.slot 0])) Tryz.func9 h
def iR(C:CC)(a c:V):aM:=λl h q=>blQ a λd=>cIQ .lss (ge l 2) d (bfQ 2 c λd=>b1Q h d λd=>bxQ h 1 d (I 0) λd=>b1Q h d λd=>bxQ h 1 d (ge l 2) λd=>b1Q h d λd=>bxQ h 1 a (ge l 2) λe=>b1Q h e λe=>bIQ .mul d e λd=>bIQ .add (ge l 0) d λd=>bfQ 2 c λc=>b1Q h c λc=>bxQ h 1 c (I 1) λc=>b1Q h c λc=>bxQ h 1 c (ge l 2) λc=>b1Q h c λc=>bxQ h 1 a (ge l 2) λa=>b1Q h a λa=>bIQ .mul c a λa=>bIQ .add (ge l 1) a λa=>bIQ .add (ge l 2) (I 1) λc=>q .normal [d,a,c] h) (q (.exit 0) [ge l 0,ge l 1] h)
def fY(C:CC)(a c:V)(q:kQ):Prop:=let h:Hp:=.replicate 1 nnQ
 eU 0 a h λa h=>lp (iR C c a) [] h [I 0,I 0,I 0] h (exK [((.exit 0),λa h=>q (.tup [ge a 0,ge a 1]) h)])
theorem vn(h:fY (CX Y) t0 t1 (out v)):CP Y F.fY [t0,t1] v:=CPo 1 (nBQ (nRQ [.slot 0]) (aA (nCQ (aA (nCQ (.n (.l [6,7,8] [1,2] [((.exit 0),[6,7],[])] []) .o .o)))))) Tryz.func31 h
def eu(C:CC)(a c d e:V):aM:=λl h q=>blQ a λf=>cIQ .lss (ge l 1) f (bxQ h 1 a (ge l 1) λa=>b1Q h a λa=>clQ C h F.aU [a,I 1] λa h=>alV 1 [.d (.str []),.d (.str [])] h λf h=>stD h 2 f a λ_ h=>bIQ .eql (ge l 1) (I 0) λa=>jn (λa h=>bnd (ldA h 2 f) λa=>clQ C h F.aU [e,I 1] λc h=>clQ C h F.gX [a,c] λa h=>e2Q a λa c=>alV 2 [.d (.str []),.d (.str [])] h λc h=>stD h 2 c a λ_ h=>bnd (ldA h 2 c) λa=>dI 1 [.str [],.str []] [(0,a)] h λa h=>apV false 3 2 32 (ge l 0) a h λa h=>bIQ .add (ge l 1) (I 1) λc=>q .normal [a,c] h) λe=>cnd a (bnd (ldA h 2 f) λa=>bfQ 2 c λc=>b1Q h c λc=>bxQ h 1 c (I 0) λc=>b1Q h c λc=>bxQ h 1 c (I 0) λc=>b1Q h c λc=>clQ C h F.aU [d,c] λc h=>clQ C h F.mb [a,c] λa h=>stD h 2 f a λ_ h=>e [] h) (e [] h)) (q (.exit 0) [ge l 0] h)
def d8(C:CC)(a c:V)(q:kQ):Prop:=let h:Hp:=.replicate 4 nnQ
 eU 0 a h λa h=>bnd (ldA h 3 a) λd=>clQ C h F.fY [d,c] λd h=>e2Q d λd e=>cIQ .eql e (I 0) (q (.tup [nSQ,B false]) h) (lp (eu C c a d e) [1,2] h [nSQ,I 0] h (exK [((.exit 0),λa h=>q (.tup [ge a 0,B true]) h)]))
theorem sX(h:d8 (CX Y) t0 t1 (out v)):CP Y F.d8 [t0,t1] v:=CPo 4 (nBQ (nRQ [.slot 0]) (zz (nCQ (aA (nCQ (.n (.l [8,9] [1,2,6,7] [((.exit 0),[8],[])] [1,2]) (aA (nCQ (nCQ (nBQ (nRQ [.o,.slot 1]) (nBQ (aA (nJQ [] [1,2,6,7,8,9,10])) (nBQ (nRQ [.o,.o,.slot 2]) (nRQ [.o,.slot 3]))))))) .o)))))) Tryz.func13 h
def jV(C:CC)(a c:V):aM:=λl h q=>blQ a λd=>cIQ .lss (ge l 0) d (bnd (ldA h 3 c) λc=>bxQ h 1 a (ge l 0) λa=>b1Q h a λa=>clQ C h F.fj [c,a] λa h=>e2Q a λa c=>nzQ c (q .ret [B false] h) (bIQ .add (ge l 0) (I 1) λa=>q .normal [a] h)) (q (.exit 0) [] h)
def im(C:CC)(a c:V)(q:kQ):Prop:=let h:Hp:=.replicate 1 nnQ
 eU 0 a h λa h=>lp (jV C c a) [] h [I 0] h (exK [((.exit 0),λa h=>q (B true) h),(.ret,λa h=>q (ge a 0) h)])
theorem xJ(h:im (CX Y) t0 t1 (out v)):CP Y F.im [t0,t1] v:=CPo 1 (nBQ (nRQ [.slot 0]) (nCQ (aA (nCQ (.n (.l [5] [1,2] [((.exit 0),[],[]),(.ret,[4],[])] []) .o .o))))) Tryz.func12 h
def fX(C:CC)(a:V):aM:=λl h q=>blQ a λc=>cIQ .lss (ge l 0) c (bxQ h 1 a (ge l 0) λa=>b1Q h a λa=>blQ a λa=>cIQ .gtr a (I 8) (q .ret [B false] h) (bIQ .add (ge l 0) (I 1) λa=>q .normal [a] h)) (q (.exit 0) [] h)
def jp(C:CC)(a:V)(q:kQ):Prop:=let h:Hp:=[]
 blQ a λc=>bIQ .gtr c (I 5) λc=>gqQ c true h a λd h=>gbQ c true h (aN d) λd h=>gbQ c true h (biI .neq d (I 60)) λd h=>bpQ c d (B false) λc=>gqQ c true h a λd h=>gbQ c true h (aN d) λd h=>gbQ c true h (biI .neq d (I 61)) λd h=>bpQ c d (B false) λc=>cnd c (q (B false) h) (lp (fX C a) [] h [I 0] h (exK [((.exit 0),λa h=>q (B true) h),(.ret,λa h=>q (ge a 0) h)]))
theorem yk(h:jp (CX Y) t0 (out v)):CP Y F.jp [t0] v:=CPo 0 (eE (nCQ (aA (nCQ (.n (.l [3] [0] [((.exit 0),[],[]),(.ret,[2],[])] []) .o .o))))) Tryz.func6 h
def jU(C:CC)(a c:V):aM:=λl h q=>blQ a λd=>cIQ .lss (ge l 0) d (bfQ 0 c λc=>b1Q h c λc=>bxQ h 1 a (ge l 0) λa=>b1Q h a λa=>clQ C h F.o7 [c,a] λa h=>nzQ a (q .ret [a] h) (bIQ .add (ge l 0) (I 1) λa=>q .normal [a] h)) (q (.exit 0) [] h)
def il(C:CC)(a c:V)(q:kQ):Prop:=let h:Hp:=.replicate 1 nnQ
 eU 0 a h λa h=>blQ c λd=>cIQ .gtr d (I 60) (q (I 4) h) (lp (jU C c a) [] h [I 0] h (exK [((.exit 0),λa h=>q (I 0) h),(.ret,λa h=>q (ge a 0) h)]))
theorem xI(h:il (CX Y) t0 t1 (out v)):CP Y F.il [t0,t1] v:=CPo 1 (nBQ (nRQ [.slot 0]) (aA (nCQ (aA (nCQ (.n (.l [5] [1,2] [((.exit 0),[],[]),(.ret,[4],[])] []) .o .o)))))) Tryz.func10 h
def dQ(C:CC)(a c d:V):aM:=λl h q=>blQ a λe=>cIQ .lss (ge l 0) e (jn (λa h=>bIQ .add (ge l 0) (I 1) λa=>q .normal [a] h) λe=>bnd (ldA h 3 c) λf=>bxQ h 1 a (ge l 0) λa=>b1Q h a λa=>clQ C h F.d8 [f,a] λa h=>e2Q a λa f=>bnd (unV .not f) λf=>cnd f (e [] h) (bfQ 0 c λf=>b1Q h f λf=>bfQ 0 d λg=>b1Q h g λg=>clQ C h F.gS [f,a,g] λf h=>e2Q f λf g=>bfQ 2 d λg=>b1Q h g λg=>bnd (unV .not g) λg=>gqQ g false h f λf h=>gbQ g false h (biI .lss f (I 0)) λf h=>bpQ g (B true) f λf=>jn (λf h=>bfQ 0 c λc=>b1Q h c λc=>bfQ 1 d λf=>b1Q h f λf=>clQ C h F.gS [c,a,f] λc h=>e2Q c λc f=>bfQ 3 d λf=>b1Q h f λf=>bnd (unV .not f) λf=>gqQ f false h c λc h=>gbQ f false h (biI .gtr c (I 0)) λc h=>bpQ f (B true) c λc=>jn (λa h=>e [] h) λe=>cnd c (bfQ 1 d λc=>stD h 1 c a λ_ h=>bfQ 3 d λa=>stD h 1 a (B true) λ_ h=>e [] h) (e [] h)) λc=>cnd f (bfQ 0 d λe=>stD h 1 e a λ_ h=>bfQ 2 d λa=>stD h 1 a (B true) λ_ h=>c [] h) (c [] h))) (q (.exit 0) [] h)
def ci(C:CC)(a c:V)(q:kQ):Prop:=let h:Hp:=.replicate 4 nnQ
 eU 0 a h λa h=>clQ C h F.fk [] λd h=>bnd (unV .not d) λd=>gbQ d false h (ldA h 3 a) λe h=>gd d false h (λq=>clQ C h F.fP [e] q) λe h=>gbQ d false h (unV .not e) λe h=>bpQ d (B true) e λd=>gqQ d false h c λe h=>gd d false h (λq=>clQ C h F.jp [e] q) λe h=>gbQ d false h (unV .not e) λe h=>bpQ d (B true) e λd=>gqQ d false h c λe h=>gbQ d false h (aN e) λe h=>gbQ d false h (biI .gtr e (I 5)) λe h=>bpQ d (B true) e λd=>cnd d (clQ C h F.fk [] q) (bnd (ldA h 3 a) λa=>clQ C h F.eO [a] λa h=>alV 1 [.d nPQ,.d nPQ,.d nPQ] h λd h=>stD h 3 d a λ_ h=>bnd (ldA h 3 d) λa=>clQ C h F.bf [a,c] λa h=>e2Q a λa e=>alV 2 [.d nPQ,.d nPQ,.d (.bool false),.d (.bool false),.d (.bool false)] h λf h=>stD h 5 f a λ_ h=>bnd (ldA h 3 d) λa=>clQ C h F.jm [a] λa h=>bIQ .eql a (I 0) λg=>jn (λa h=>cIQ .neq (ge a 0) (I 0) (bnd (ldA h 5 f) λc=>clQ C h F.dT [c] λc h=>gqQ c true h e λd h=>gqQ c true h (ge a 0) λa h=>gbQ c true h (biI .eql d a) λa h=>bpQ c a (B false) λa=>q a h) (bnd (ldA h 3 d) λa=>clQ C h F.im [a,c] λa h=>bnd (unV .not a) λa=>cnd a (bnd (ldA h 5 f) λa=>clQ C h F.dT [a] λa h=>gqQ a true h e λc h=>gbQ a true h (biI .eql c (I 4)) λc h=>gqQ a true h c λc h=>gqQ c false h e λd h=>gbQ c false h (biI .eql d (I 19)) λd h=>gbQ a true h (mP c (B true) d) λc h=>bpQ a c (B false) λa=>q a h) (alV 3 [.d nPQ,.d nPQ,.d (.bool false),.d (.bool false),.d (.bool false)] h λa h=>lp (dQ C c d a) [] h [I 0] h (exK [((.exit 0),λc h=>bfQ 2 a λc=>b1Q h c λc=>bnd (unV .not c) λc=>cnd c (bnd (ldA h 5 f) λa=>clQ C h F.dT [a] λa h=>gqQ a true h e λc h=>gbQ a true h (biI .eql c (I 19)) λc h=>bpQ a c (B false) λa=>q a h) (bnd (ldA h 5 f) λc=>bnd (ldA h 5 a) λa=>clQ C h F.dS [c,a] λa h=>gqQ a true h e λc h=>gbQ a true h (biI .eql c (I 0)) λc h=>bpQ a c (B false) λa=>q a h))])))) λe=>cnd g (bnd (ldA h 3 d) λa=>clQ C h F.il [a,c] λa h=>e [a] h) (e [a] h))
def gI:Ann:=(nBQ (nRQ [.slot 0]) (aA (nBQ (nRQ [.o,.slot 1]) (nBQ (nRQ [.o,.slot 2]) (aA (nBQ (aA (nJQ [8] [1,5,6,7])) (eE (nBQ (nRQ [.slot 3]) (nCQ (aA (nCQ (.n (.l [10] [1,5,6,7,9] [((.exit 0),[],[6,7,9])] []) (aA (nCQ (.n (.j [] [1,5,6,7,9,10]) (eE (nBQ (eE (nJQ [] [1,5,6,7,9,10,11])) (eE (nJQ [] [1,5,6,7,9,10])))) .o))) .o))))))))))))
attribute [local irreducible] bnd gd cal cnd ext dI vv stD alV alD eU jn lp exK mkS apV cai yv in
theorem pZ(C:CC)(t0:V)(t1:V)(q:kkQ):fnD Y C Tryz.f3 4 gI [t0,t1] q=ci C t0 t1 q:=Pv
theorem pX:okB Tryz.prog Tryz.f3 gI=true:=aG
theorem pY(h:ci (CX Y) t0 t1 (out v)):CP Y F.ci [t0,t1] v:=
 CP.of (fn:=Tryz.f3) (m:=4) (a:=gI) rfl (λ_=>rfl) Tryz.func3 pX (by rw[pZ];exact h)
end Go.Vm
