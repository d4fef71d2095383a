/- Lemmas. -/
import Derived.Test.YtmjcaiaiibdadaaGreatDoorQVmC
set_option linter.unusedVariables false
set_option linter.unusedSimpArgs false
set_option maxRecDepth 100000
set_option maxHeartbeats 4000000
namespace Go.Vm
open Go Go.Am Go.Proofs
variable{v t0 t1 t2 t3:V}{h h2:Hp}
theorem CPo{f:FuncId}{fn:Func}(m:Nat)(a:Ann){ds:LwQ}(h3:Y.X.P.funcs[f]?=some fn)(h5:fnD Y (CX Y) fn m a ds (out v))(h1:Y.X.allow f=true:=by rfl)(h2:∀u,Y.X.orc f u=none:=by exact λ_=>rfl)(h4:okB Y.X.P fn a=true:=by decide+kernel):CP Y f ds v:=CP.of h1 h2 h3 h4 h5
abbrev nBQ(a b:Ann):Ann:=.n .x a b
abbrev nCQ(a:Ann):Ann:=.n .x a .o
abbrev nRQ(l:List Act):Ann:=.n (.r l) .o .o
abbrev nJQ(a b:LnQ):Ann:=.n (.j a b) .o .o
abbrev aD(a:Ann):Ann:=.n .x .o a
abbrev dP(a:Ann):Ann:=aD (aD a)
abbrev Dc(a:Ann):Ann:=dP (aD a)
abbrev SP(a:Ann):Ann:=Dc (aD a)
abbrev aeg(a:Ann):Ann:=SP (aD a)
abbrev af5(a:Ann):Ann:=aeg (aD a)
abbrev aiB(a:Ann):Ann:=af5 (aD a)
theorem ac1{p:Prop}(h:p:=by repeat' (first|(refine ads rfl λ_=>?_)|(refine ags rfl λ_ _=>?_)|(refine ado rfl λ_ _=>?_)|(refine adn rfl ?_ ?_)|(refine adh rfl λ_=>?_)|(refine WR rfl λ_ _=>?_)|(refine ac2 rfl λ_ _=>?_)|(refine adv rfl λ_ _=>?_)|(refine aad rfl λ_ _=>?_)|(refine agl rfl (λ_ _=>?_) λ_=>?_)|(refine af7 rfl (λ_ _ _=>?_) λ_ _ _=>?_)|(refine adk rfl (λ_ _=>?_) ?_)|(refine ada rfl λ_ _=>?_)|(refine adu rfl λ_ _=>?_)|(refine adq rfl λ_ _=>?_)|(refine agI rfl λ_ _=>?_)|(refine WP rfl λ_ _=>?_)|(refine adw rfl λ_ _=>?_)|(refine V3 rfl λ_=>?_)|exact rfl|(refine WW rfl ?_))):p:=h
theorem Ur{p:Prop}(h:p:=by repeat' (first|(refine ads rfl λ_=>?_)|(refine ags rfl λ_ _=>?_)|(refine ado rfl λ_ _=>?_)|(refine adn rfl ?_ ?_)|(refine adh rfl λ_=>?_)|(refine WR rfl λ_ _=>?_)|(refine ac2 rfl λ_ _=>?_)|(refine adv rfl λ_ _=>?_)|(refine aad rfl λ_ _=>?_)|(refine agl rfl (λ_ _=>?_) λ_=>?_)|(refine af7 rfl (λ_ _ _=>?_) λ_ _ _=>?_)|(refine adk rfl (λ_ _=>?_) ?_)|(refine ada rfl λ_ _=>?_)|(refine adu rfl λ_ _=>?_)|(refine adq rfl λ_ _=>?_)|(refine WP rfl λ_ _=>?_)|(refine adw rfl λ_ _=>?_)|(refine V3 rfl λ_=>?_)|exact rfl|(refine WW rfl ?_))):p:=h
abbrev kQ:=kkQ
abbrev clQ(C:CC)(h:Hp)(f:FuncId)(a:LwQ)(k:kQ):Prop:=cal C.p h (.fn f [] []) a k
abbrev ciQ(C:CC)(h:Hp)(f:FuncId)(a:LwQ)(s:Nat)(k:kQ):Prop:=cai C.i h (.fn f [] []) a s k
abbrev bIQ(o:BinOp)(x y:V)(k:V->Prop):Prop:=bnd (biI o x y) k
abbrev bSQ(o:BinOp)(x y:V)(k:V->Prop):Prop:=bnd (biS o x y) k
abbrev b1Q(h:Hp)(x:V)(k:V->Prop):Prop:=bnd (ld1 h x) k
abbrev bxQ(h:Hp)(n:Nat)(x y:V)(k:V->Prop):Prop:=bnd (ixV h n x y) k
abbrev blQ(x:V)(k:V->Prop):Prop:=bnd (aO x) k
abbrev bfQ(n:Nat)(x:V)(k:V->Prop):Prop:=bnd (faV n x) k
abbrev bpQ(x y z:V)(k:V->Prop):Prop:=bnd (nL x y z) k
abbrev cIQ(o:BinOp)(x y:V)(A B:Prop):Prop:=bnd (biI o x y) λc=>cnd c A B
abbrev nzQ(x:V)(A B:Prop):Prop:=bnd (biI .neq x (I 0)) λc=>cnd c A B
abbrev gbQ(c:V)(w:Bool)(h:Hp)(o:Option V)(k:kQ):Prop:=gd c w h (λq=>bnd o λv=>q v h) k
abbrev gqQ(c:V)(w:Bool)(h:Hp)(x:V)(k:kQ):Prop:=gd c w h (λq=>q x h) k
abbrev e2Q(x:V)(k:V->V->Prop):Prop:=ext x 0 λa=>ext x 1 λb=>k a b
abbrev e3Q(x:V)(k:V->V->V->Prop):Prop:=ext x 0 λa=>ext x 1 λb=>ext x 2 λc=>k a b c
abbrev nSQ:V:=.d nPQ
abbrev a1Q(s:Nat)(x y:V)(h:Hp)(k:kQ):Prop:=cY 1 [.int .i64 0] [(0,y)] h λv h=>apV false s 1 8 x v h k
def nF(C:CC)(a:V)(q:kQ):Prop:=let h:Hp:=.replicate 2 nnQ
 vg h .eql a nSQ λc=>cnd c (q nSQ h) (tQ 0 0 [.int .i64 0] [] h λc h=>apV false 1 1 8 c a h q)
theorem rD(h:nF (CX Y) t0 (out v)):CP Y F.kr [t0] v:=CPo 2 (dP (nCQ (nRQ [.slot 0,.slot 1]))) Tryz.func69 h
def lK(C:CC)(a:V)(q:kQ):Prop:=let h:Hp:=.replicate 2 nnQ
 vg h .eql a nSQ λc=>cnd c (q nSQ h) (tQ 0 0 [.int .i64 0] [] h λc h=>apV false 1 1 8 c a h q)
theorem qf(h:lK (CX Y) t0 (out v)):CP Y F.iU [t0] v:=CPo 2 (dP (nCQ (nRQ [.slot 0,.slot 1]))) Tryz.func33 h
def iO(C:CC)(a:V)(q:kQ):Prop:=let h:Hp:=.replicate 2 nnQ
 vg h .eql a nSQ λc=>cnd c (q nSQ h) (tQ 0 0 [.str [],.str []] [] h λc h=>apV false 1 2 32 c a h q)
theorem nE(h:iO (CX Y) t0 (out v)):CP Y F.aA [t0] v:=CPo 2 (dP (nCQ (nRQ [.slot 0,.slot 1]))) Tryz.func35 h
def mC(C:CC)(a c d:V)(q:kQ):Prop:=let h:Hp:=.replicate 1 nnQ
 clQ C h F.d7 [c,d] λc h=>e2Q c λc d=>alV 0 [.d (.str []),.d (.str [])] h λd h=>stD h 2 d c λ_ h=>bnd (ldA h 2 d) λc=>clQ C h F.fu [a,c] λa h=>e2Q a λa c=>q (.tup [a,c]) h
theorem CZ(h:mC (CX Y) t0 t1 t2 (out v)):CP Y F.mC [t0,t1,t2] v:=CPo 1 (aD (nCQ (nRQ [.o,.slot 0]))) Tryz.func32 h
def lT(C:CC)(a c:V):aN:=λl h q=>cIQ .lss (ge l 1) c (bxQ h 1 a (ge l 1) λa=>b1Q h a λa=>clQ C h F.kr [a] λa h=>cY 1 [nPQ] [(0,a)] h λa h=>apV false 0 1 24 (ge l 0) a h λa h=>bIQ .add (ge l 1) (I 1) λc=>q .normal [a,c] h) (q (.exit 0) [ge l 0] h)
def iF(C:CC)(a:V)(q:kQ):Prop:=let h:Hp:=.replicate 1 nnQ
 blQ a λc=>lp (lT C a c) [] h [nSQ,I 0] h (exK [((.exit 0),λa h=>q (ge a 0) h)])
theorem zF(h:iF (CX Y) t0 (out v)):CP Y F.iF [t0] v:=CPo 1 (dP (nCQ (aD (nCQ (.n (.l [3,8] [6,7] [((.exit 0),[3],[])] []) (dP (nCQ (nCQ (aD (nRQ [.o,.o,.slot 0]))))) .o))))) Tryz.func34 h
def eB(C:CC)(a c:V)(q:kQ):Prop:=let h:Hp:=.replicate 4 nnQ
 ef 0 a h λa h=>alV 1 [.d nPQ,.d nPQ,.d nPQ,.d nPQ] h λd h=>bnd (ldA h 3 a) λe=>clQ C h F.iZ [e] λe h=>e2Q e λe f=>alV 2 [.d (.int .i64 0),.d nPQ,.d nPQ] h λg h=>stD h 3 g e λ_ h=>nzQ f (bnd (bld [(0,3),(3,1)] [nPQ,nPQ,nPQ,nPQ] []) λa=>stD h 4 d a λ_ h=>bnd (ldA h 4 d) λa=>q (.tup [a,f]) h) (bfQ 0 a λe=>b1Q h e λe=>clQ C h F.lY [e,c] λe h=>nzQ e (bnd (bld [(0,3),(3,1)] [nPQ,nPQ,nPQ,nPQ] []) λa=>stD h 4 d a λ_ h=>bnd (ldA h 4 d) λa=>q (.tup [a,e]) h) (bfQ 0 a λe=>b1Q h e λe=>bfQ 0 g λf=>b1Q h f λf=>clQ C h F.mC [e,I 1,f] λe h=>e2Q e λe f=>nzQ f (bnd (bld [(0,3),(3,1)] [nPQ,nPQ,nPQ,nPQ] []) λa=>stD h 4 d a λ_ h=>bnd (ldA h 4 d) λa=>q (.tup [a,f]) h) (bfQ 0 a λf=>b1Q h f λf=>clQ C h F.iU [f] λf h=>bfQ 1 a λg=>b1Q h g λg=>clQ C h F.iF [g] λg h=>bfQ 2 a λa=>b1Q h a λa=>clQ C h F.iF [a] λa h=>bnd (bld [(0,1),(1,1),(2,1)] [nPQ,nPQ,nPQ] [(0,f),(1,g),(2,a)]) λa=>alV 3 [.d nPQ,.d nPQ,.d nPQ] h λf h=>stD h 3 f a λ_ h=>bnd (ldA h 3 f) λa=>clQ C h F.aA [c] λc h=>cY 2 [nPQ] [(0,e),(1,c)] h λc h=>bnd (bld [(0,3),(3,1)] [nPQ,nPQ,nPQ,nPQ] [(0,a),(1,c)]) λa=>stD h 4 d a λ_ h=>bnd (ldA h 4 d) λa=>q (.tup [a,I 0]) h)))
theorem pN(h:eB (CX Y) t0 t1 (out v)):CP Y F.eB [t0,t1] v:=CPo 4 (nBQ (nRQ [.slot 0,.slot 1]) (nBQ (nRQ [.o,.slot 2]) (SP (nCQ (nRQ [.o,.o,.o,.slot 3]))))) Tryz.func9 h
def iE(C:CC)(b:Nat)(h:Hp)(a c:V)(q:kQ):Prop:=let h:Hp:=h++List.replicate 2 nnQ
 ef (b+0) a h λa h=>bnd (ldA h 4 a) λd=>clQ C h F.lS [d] λd h=>nzQ d (q (.tup [nSQ,d]) h) (bfQ 0 a λd=>bfQ 0 d λd=>b1Q h d λd=>clQ C h F.pD [d,c] λe h=>nzQ e (q (.tup [nSQ,e]) h) (bfQ 0 a λe=>bnd (ldA h 3 e) λe=>clQ C h F.fx [e,c] λc h=>e2Q c λc e=>nzQ e (q (.tup [nSQ,e]) h) (bfQ 3 a λa=>b1Q h a λa=>clQ C h F.jv [c] λc h=>ciQ C h F.jw [d,a,c] (b+1) λa h=>q (.tup [a,I 0]) h)))
def pM(b:Nat):Ann:=(.n .x (.n (.r [.slot (b+0)]) .o .o) (.n .x .o (.n .x .o (.n .x .o (.n .x .o (.n .x .o (.n .x (.n (.r [.o,.inl (b+1)]) .o .o) .o)))))))
theorem zC(C:CC)(h:Hp)(t0:V)(t1:V)(q:kkQ):fnI Y C Tryz.f50 2 pM [t0,t1] h q=iE C h.length h t0 t1 q:=by rfl
theorem zA(b:Nat):okB Tryz.prog Tryz.f50 (pM b)=true:=by rfl
theorem zB(hh:iE (CX Y) h.length h t0 t1 (mi h.length v h2)):CI Y F.iE [t0,t1] h v h2:=
 CI.of (fn:=Tryz.f50) (m:=2) (a:=pM) rfl (λ_=>rfl) Tryz.func50 (zA _) (by rw[zC];exact hh)
def lS(C:CC)(a:V)(q:kQ):Prop:=let h:Hp:=.replicate 1 nnQ
 ef 0 a h λa h=>bfQ 0 a λc=>bnd (ldA h 3 c) λc=>clQ C h F.cT [c] λc h=>nzQ c (q c h) (bfQ 3 a λc=>b1Q h c λc=>blQ c λc=>bfQ 0 a λd=>bfQ 2 d λd=>b1Q h d λd=>blQ d λd=>cIQ .neq c d (q (I 5) h) (bfQ 0 a λc=>bfQ 0 c λc=>b1Q h c λc=>bfQ 3 a λa=>b1Q h a λa=>clQ C h F.je [c,a] q))
theorem Ev(h:lS (CX Y) t0 (out v)):CP Y F.lS [t0] v:=CPo 1 (nCQ (nRQ [.slot 0])) Tryz.func48 h
def mY(C:CC)(a c:V):aN:=λl h q=>cIQ .lss (ge l 1) c (bxQ h 1 a (ge l 1) λa=>b1Q h a λa=>clQ C h F.d7 [a,I 1] λa h=>e2Q a λa c=>alV 0 [.d (.str []),.d (.str [])] h λc h=>stD h 2 c a λ_ h=>bnd (ldA h 2 c) λa=>cY 1 [.str [],.str []] [(0,a)] h λa h=>apV false 1 2 32 (ge l 0) a h λa h=>bIQ .add (ge l 1) (I 1) λc=>q .normal [a,c] h) (q (.exit 0) [ge l 0] h)
def jv(C:CC)(a:V)(q:kQ):Prop:=let h:Hp:=.replicate 2 nnQ
 blQ a λc=>lp (mY C a c) [0] h [nSQ,I 0] h (exK [((.exit 0),λa h=>q (ge a 0) h)])
theorem Bl(h:jv (CX Y) t0 (out v)):CP Y F.jv [t0] v:=CPo 2 (dP (nCQ (aD (nCQ (.n (.l [3,10] [8,9] [((.exit 0),[3],[])] [0]) (dP (nCQ (nCQ (aD (nBQ (nRQ [.o,.slot 0]) (nRQ [.o,.slot 1])))))) .o))))) Tryz.func52 h
def bv(C:CC)(b:Nat)(a:V):aN:=λl h q=>blQ a λc=>cIQ .lss (ge l 0) c (bnd (slV h 2 a (some (ge l 0)) none) λc=>bnd (slV h 2 a none (some (ge l 0))) λa=>cpD h 2 c a λa h=>bIQ .add (ge l 0) a λa=>q .normal [a] h) (q (.exit 0) [] h)
def aP(C:CC)(b:Nat)(h:Hp)(a c:V)(q:kQ):Prop:=let h:Hp:=h++List.replicate 1 nnQ
 bIQ .lss c (I 0) λd=>jn (λd h=>blQ a λd=>bnd (cvI .u64 d) λd=>bnd (cvI .u64 c) λc=>clQ C h F.mH [d,c] λc h=>e2Q c λc d=>bIQ .gtr c (.d (.int .u64 0)) λc=>gqQ c false h d λe h=>gbQ c false h (biI .gtr e (.d (.int .u64 9223372036854775807))) λe h=>bpQ c (B true) e λc=>jn (λc h=>bnd (cvI .i64 d) λc=>mkS (b+0) 32 [.str [],.str []] h c c λc h=>cpD h 2 c a λa h=>lp (bv C b c) [] h [a] h (exK [((.exit 0),λa h=>q c h)])) λa=>cnd c (False /- makeInterface -/) (a [] h)) λa=>cnd d (False /- makeInterface -/) (a [] h)
def eE(b:Nat):Ann:=(.n .x .o (.n .x (.n .x .o (.n (.j [] [0,1]) .o .o)) (.n .x .o (.n .x (.n .x .o (.n (.j [] [0,6]) .o .o)) (.n .x (.n (.r [.slot (b+0)]) .o .o) (.n .x .o (.n .x (.n .x (.n (.l [8] [7] [((.exit 0),[],[7])] []) .o .o) .o) .o)))))))
theorem nV(C:CC)(h:Hp)(t0:V)(t1:V)(q:kkQ):fnI Y C Tryz.f118 1 eE [t0,t1] h q=aP C h.length h t0 t1 q:=by rfl
theorem nS(b:Nat):okB Tryz.prog Tryz.f118 (eE b)=true:=by rfl
theorem nU(hh:aP (CX Y) h.length h t0 t1 (mi h.length v h2)):CI Y F.aP [t0,t1] h v h2:=
 CI.of (fn:=Tryz.f118) (m:=1) (a:=eE) rfl (λ_=>rfl) Tryz.func118 (nS _) (by rw[nV];exact hh)
def mZ(C:CC)(b:Nat)(a c d e f:V):aN:=λl h q=>cIQ .lss (ge l 0) f (bxQ h 2 c (ge l 0) λf=>bnd (ldA h 2 f) λf=>bxQ h 2 e (ge l 0) λe=>bnd (ldA h 2 e) λe=>bxQ h 2 a d λa=>bnd (ldA h 2 a) λa=>clQ C h F.kf [e,a] λa h=>clQ C h F.fv [f,a] λa h=>bxQ h 2 c (ge l 0) λc=>stD h 2 c a λ_ h=>bIQ .add (ge l 0) (I 1) λa=>q .normal [a] h) (q (.exit 2) [] h)
def m5(C:CC)(b:Nat)(a c d e:V):aN:=λl h q=>cIQ .lss (ge l 0) e (bxQ h 1 d (ge l 0) λd=>b1Q h d λd=>blQ c λe=>lp (mZ C b a c (ge l 0) d e) [] h [I 0] h (exK [((.exit 2),λa h=>bIQ .add (ge l 0) (I 1) λa=>q .normal [a] h)])) (q (.exit 0) [] h)
def jw(C:CC)(b:Nat)(h:Hp)(a c d:V)(q:kQ):Prop:=let h:Hp:=h++List.replicate 1 nnQ
 bnd (bld [(0,1),(1,1)] [.str [],.str []] [(0,(.d (.str [48]))),(1,(.d (.str [49])))]) λe=>cY 1 [.str [],.str []] [(0,e)] h λe h=>blQ a λa=>ciQ C h F.aP [e,a] (b+0) λa h=>blQ c λe=>lp (m5 C b d a c e) [] h [I 0] h (exK [((.exit 0),λc h=>q a h)])
def qj(b:Nat):Ann:=(.n .x .o (.n .x (.n (.r [.o,.inl (b+0)]) .o .o) (.n .x (.n .x .o (.n .x (.n (.l [18] [2,7,16,17] [((.exit 0),[],[7])] []) (.n .x .o (.n .x .o (.n .x (.n .x (.n .x .o (.n .x .o (.n .x (.n (.l [25] [2,7,8,9,16,17,18,24] [((.exit 2),[],[2,7,16,17,18])] []) .o .o) .o))) .o) .o))) .o) .o)) .o)))
theorem Bo(C:CC)(h:Hp)(t0:V)(t1:V)(t2:V)(q:kkQ):fnI Y C Tryz.f85 1 qj [t0,t1,t2] h q=jw C h.length h t0 t1 t2 q:=by rfl
theorem Bm(b:Nat):okB Tryz.prog Tryz.f85 (qj b)=true:=by rfl
theorem Bn(hh:jw (CX Y) h.length h t0 t1 t2 (mi h.length v h2)):CI Y F.jw [t0,t1,t2] h v h2:=
 CI.of (fn:=Tryz.f85) (m:=1) (a:=qj) rfl (λ_=>rfl) Tryz.func85 (Bm _) (by rw[Bo];exact hh)
def cM(C:CC)(a c:V)(q:kQ):Prop:=let h:Hp:=[]
 gqQ a true h c λd h=>gbQ a true h (biS .neq d (.d (.str [48]))) λd h=>bpQ a d (B false) λa=>cnd a (bSQ .add (.d (.str [45])) c λa=>q a h) (q c h)
theorem I5(h:cM (CX Y) t0 t1 (out v)):CP Y F.cM [t0,t1] v:=CPo 0 .o Tryz.func138 h
def gy(C:CC)(a c:V)(q:kkQ):Prop:=let h:Hp:=List.replicate 6 nnQ
 cal C.p h (.fn F.fY [] []) [a,c] λd h=>ext d 0 λe=>ext d 1 λf=>ext d 2 λd=>cnd d (bnd (biI .add e f) λa=>cal C.p h (.fn F.jG [] []) [a] λa h=>q a h) (cai C.i h (.fn F.d8 [] []) [a] 0 λa h=>cai C.i h (.fn F.d8 [] []) [c] 1 λc h=>bnd (aO a) λd=>bnd (aO c) λe=>bnd (biI .lss d e) λd=>jn (λa h=>cY 1 [.int .u64 0] [(0,(.d (.int .u64 0)))] h λc h=>apV false 2 1 8 (ge a 0) c h λc h=>bnd (aO c) λd=>bnd (biI .sub d (I 1)) λd=>bnd (aO (ge a 1)) λe=>bnd (biI .sub d e) λd=>apZ false 3 1 8 [.int .u64 0] (ge a 1) d h λa h=>cai C.i h (.fn F.cI [] []) [c,a,(I 0)] 4 λa h=>cai C.i h (.fn F.az [] []) [c] 5 λa h=>cal C.p h (.fn F.aT [] []) [a] λa h=>q a h) λe=>cnd d (e [c,a] h) (e [a,c] h))
def tY:Ann:=(dP (nBQ (nRQ [.inl 0,.inl 1]) (nBQ (aD (nJQ [8,9] [])) (nBQ (nRQ [.o,.slot 2]) (nBQ (nRQ [.slot 3,.inl 4]) (nCQ (nRQ [.inl 5])))))))
attribute [local irreducible] bnd gd cal cnd ext cY tQ stD alV alD ef jn lp exK mkS apV apZ cai vg in
theorem Hn(C:CC)(t0:V)(t1:V)(q:kkQ):fnD Y C Tryz.f154 6 tY [t0,t1] q=gy C t0 t1 q:=ac1
theorem Hk:okB Tryz.prog Tryz.f154 tY=true:=aJ
theorem Hl(h:gy (CX Y) t0 t1 (out v)):CP Y F.gy [t0,t1] v:=
 CP.of (fn:=Tryz.f154) (m:=6) (a:=tY) rfl (λ_=>rfl) Tryz.func154 Hk (by rw[Hn];exact h)
def cn(C:CC)(a c:V)(q:kQ):Prop:=let h:Hp:=[]
 bnd (oJ a) λd=>bnd (oJ c) λe=>cIQ .neq d e (bnd (oJ a) λa=>bnd (oJ c) λc=>bIQ .sub a c λa=>bnd (mxI true [I (-1),a]) λa=>bnd (mxI false [I 1,a]) λa=>q a h) (bSQ .lss a c λd=>cnd d (q (I (-1)) h) (bSQ .gtr a c λa=>cnd a (q (I 1) h) (q (I 0) h)))
theorem AQ(h:cn (CX Y) t0 t1 (out v)):CP Y F.cn [t0,t1] v:=CPo 0 .o Tryz.func141 h
def ic(C:CC)(a c:V)(q:kkQ):Prop:=let h:Hp:=List.replicate 7 nnQ
 cal C.p h (.fn F.cn [] []) [a,c] λd h=>bnd (biI .lss d (I 0)) λd=>cnd d (q (.tup [(.d (.str [])),(I 3)]) h) (cal C.p h (.fn F.fY [] []) [a,c] λd h=>ext d 0 λe=>ext d 1 λf=>ext d 2 λd=>cnd d (bnd (biI .sub e f) λa=>cal C.p h (.fn F.jG [] []) [a] λa h=>q (.tup [a,(I 0)]) h) (cai C.i h (.fn F.d8 [] []) [a] 0 λa h=>cY 1 [.int .u64 0] [(0,(.d (.int .u64 0)))] h λd h=>apV false 1 1 8 a d h λa h=>cai C.i h (.fn F.d8 [] []) [c] 2 λd h=>bnd (aO a) λe=>bnd (biI .sub e (I 1)) λe=>cai C.i h (.fn F.d8 [] []) [c] 3 λc h=>bnd (aO c) λc=>bnd (biI .sub e c) λc=>apZ false 4 1 8 [.int .u64 0] d c h λc h=>cai C.i h (.fn F.dJ [] []) [a,c,(.d (.int .u64 1)),(I 0)] 5 λc h=>cai C.i h (.fn F.az [] []) [a] 6 λa h=>cal C.p h (.fn F.aT [] []) [a] λa h=>q (.tup [a,(I 0)]) h))
def tX:Ann:=(Dc (nBQ (nRQ [.inl 0,.o,.slot 1]) (nBQ (nRQ [.inl 2,.inl 3,.slot 4,.inl 5]) (nCQ (nRQ [.inl 6])))))
attribute [local irreducible] bnd gd cal cnd ext cY tQ stD alV alD ef jn lp exK mkS apV apZ cai vg in
theorem He(C:CC)(t0:V)(t1:V)(q:kkQ):fnD Y C Tryz.f155 7 tX [t0,t1] q=ic C t0 t1 q:=ac1
theorem Hb:okB Tryz.prog Tryz.f155 tX=true:=aJ
theorem Hd(h:ic (CX Y) t0 t1 (out v)):CP Y F.ic [t0,t1] v:=
 CP.of (fn:=Tryz.f155) (m:=7) (a:=tX) rfl (λ_=>rfl) Tryz.func155 Hb (by rw[He];exact h)
def km(C:CC)(a c:V)(q:kQ):Prop:=let h:Hp:=.replicate 3 nnQ
 bnd (oJ a) λd=>bnd (oJ c) λe=>bIQ .add d e λd=>cIQ .leq d (I 18) (clQ C h F.fY [a,c] λa h=>e3Q a λa c d=>bIQ .mul a c λa=>clQ C h F.jG [a] q) (ciQ C h F.d8 [a] 0 λa h=>ciQ C h F.d8 [c] 1 λc h=>ciQ C h F.dd [a,c] 2 λa h=>clQ C h F.aT [a] q)
theorem Hf(h:km (CX Y) t0 t1 (out v)):CP Y F.km [t0,t1] v:=CPo 3 (dP (nCQ (nRQ [.inl 0,.inl 1,.inl 2]))) Tryz.func139 h
def kS(C:CC)(a c:V)(q:kQ):Prop:=let h:Hp:=[]
 clQ C h F.bD [a,I 18] λd h=>e2Q d λd e=>jn (λd h=>clQ C h F.aQ [a] λa h=>e2Q a λa d=>clQ C h F.aQ [c] λc h=>e2Q c λc e=>bnd (biB .eql a c) λf=>cnd f (clQ C h F.gy [d,e] λc h=>clQ C h F.cM [a,c] q) (clQ C h F.cn [d,e] λf h=>bIQ .lss f (I 0) λf=>jn (λa h=>clQ C h F.ic [ge a 1,ge a 2] λc h=>e2Q c λc d=>clQ C h F.cM [ge a 0,c] q) λg=>cnd f (g [c,e,d] h) (g [a,d,e] h))) λa=>cnd e (clQ C h F.bD [c,I 18] λc h=>e2Q c λc e=>cnd e (bIQ .add d c λa=>clQ C h F.eH [a] q) (a [] h)) (a [] h)
theorem KS(h:kS (CX Y) t0 t1 (out v)):CP Y F.kS [t0,t1] v:=CPo 0 (aD (nBQ (dP (nJQ [] [0,1])) (Dc (nCQ (aD (nJQ [9,10,12] [])))))) Tryz.func133 h
def bN(C:CC)(a c:V)(q:kQ):Prop:=let h:Hp:=[]
 clQ C h F.bD [a,I 9] λd h=>e2Q d λd e=>jn (λd h=>clQ C h F.aQ [a] λa h=>e2Q a λa d=>clQ C h F.aQ [c] λc h=>e2Q c λc e=>bnd (biB .neq a c) λa=>clQ C h F.km [d,e] λc h=>clQ C h F.cM [a,c] q) λa=>cnd e (clQ C h F.bD [c,I 9] λc h=>e2Q c λc e=>cnd e (bIQ .mul d c λa=>clQ C h F.eH [a] q) (a [] h)) (a [] h)
theorem KP(h:bN (CX Y) t0 t1 (out v)):CP Y F.bN [t0,t1] v:=CPo 0 (aD (nCQ (dP (nJQ [] [0,1])))) Tryz.func105 h
def mI(C:CC)(a:V)(q:kQ):Prop:=let h:Hp:=[]
 cnd (B false) (bnd (cvI .u32 a) λa=>clQ C h F.Dh [a] q) (clQ C h F.iI [a] q)
theorem Dg(h:mI (CX Y) t0 (out v)):CP Y F.mI [t0] v:=CPo 0 .o Tryz.func219 h
def jq(C:CC)(a:V):aN:=λl h q=>bIQ .mul (ge l 0) (ge l 0) λc=>cIQ .leq c a (bIQ .rem a (ge l 0) λa=>cIQ .eql a (I 0) (q .ret [B false] h) (bIQ .add (ge l 0) (I 1) λa=>q .normal [a] h)) (q (.exit 0) [] h)
def jg(C:CC)(a:V)(q:kQ):Prop:=let h:Hp:=[]
 bIQ .lss a (I 2) λc=>gqQ c false h a λd h=>gbQ c false h (biI .gtr d (I 97)) λd h=>bpQ c (B true) d λc=>cnd c (q (B false) h) (lp (jq C a) [] h [I 2] h (exK [((.exit 0),λa h=>q (B true) h),(.ret,λa h=>q (ge a 0) h)]))
theorem Db(h:jg (CX Y) t0 (out v)):CP Y F.jg [t0] v:=CPo 0 (dP (nCQ (aD (nCQ (.n (.l [3] [0] [((.exit 0),[],[]),(.ret,[2],[])] []) .o .o))))) Tryz.func56 h
def pT(C:CC)(a c d:V):aN:=λl h q=>cIQ .lss (ge l 0) d (bxQ h 1 c (ge l 0) λc=>b1Q h c λc=>clQ C h F.jg [c] λd h=>bnd (unV .not d) λd=>cnd d (q .ret [I 25] h) (bIQ .gtr (ge l 0) (I 0) λd=>gqQ d true h c λc h=>gqQ d true h a λa h=>gqQ d true h (ge l 0) λe h=>gbQ d true h (biI .sub e (I 1)) λe h=>gbQ d true h (ixV h 1 a e) λa h=>gbQ d true h (ld1 h a) λa h=>gbQ d true h (biI .leq c a) λa h=>bpQ d a (B false) λa=>cnd a (q .ret [I 6] h) (bIQ .add (ge l 0) (I 1) λa=>q .normal [a] h))) (q (.exit 1) [] h)
def fG(C:CC)(a:V)(q:kQ):Prop:=let h:Hp:=[]
 blQ a λc=>cIQ .eql c (I 0) (q (I 13) h) (blQ a λc=>cIQ .gtr c (I 6) (q (I 4) h) (blQ a λc=>lp (pT C a a c) [] h [I 0] h (exK [((.exit 1),λa h=>q (I 0) h),(.ret,λa h=>q (ge a 0) h)])))
theorem GY(h:fG (CX Y) t0 (out v)):CP Y F.fG [t0] v:=CPo 0 (dP (nCQ (aD (nCQ (.n (.l [15] [0,13,14] [((.exit 1),[],[]),(.ret,[2],[])] []) .o .o))))) Tryz.func25 h
def nH(C:CC)(a:V)(q:kQ):Prop:=let h:Hp:=.replicate 1 nnQ
 ef 0 a h λa h=>bfQ 0 a λc=>b1Q h c λc=>clQ C h F.gE [c] λc h=>bnd (oJ c) λc=>bIQ .leq c (I 30) λc=>gbQ c true h (faV 1 a) λa h=>gbQ c true h (ld1 h a) λa h=>gbQ c true h (oJ a) λa h=>gbQ c true h (biI .leq a (I 30)) λa h=>bpQ c a (B false) λa=>q a h
theorem Jj(h:nH (CX Y) t0 (out v)):CP Y F.nH [t0] v:=CPo 1 (nCQ (nRQ [.slot 0])) Tryz.func83 h
def qH(C:CC)(a c:V):aN:=λl h q=>cIQ .lss (ge l 0) c (bxQ h 2 a (ge l 0) λa=>bnd (ldA h 2 a) λa=>alV 0 [.d (.str []),.d (.str [])] h λc h=>stD h 2 c a λ_ h=>bnd (ldA h 2 c) λa=>clQ C h F.ib [a] λa h=>nzQ a (q .ret [I 2] h) (bnd (ldA h 2 c) λa=>clQ C h F.nH [a] λa h=>bnd (unV .not a) λa=>cnd a (q .ret [I 4] h) (bIQ .add (ge l 0) (I 1) λa=>q .normal [a] h))) (q (.exit 0) [] h)
def lX(C:CC)(a c:V)(q:kQ):Prop:=let h:Hp:=.replicate 1 nnQ
 blQ c λd=>blQ a λa=>cIQ .neq d a (q (I 5) h) (blQ c λa=>lp (qH C c a) [0] h [I 0] h (exK [((.exit 0),λa h=>q (I 0) h),(.ret,λa h=>q (ge a 0) h)]))
theorem Jk(h:lX (CX Y) t0 t1 (out v)):CP Y F.lX [t0,t1] v:=CPo 1 (dP (nCQ (aD (nCQ (.n (.l [14] [12,13] [((.exit 0),[],[]),(.ret,[4],[])] [0]) (dP (nCQ (nCQ (nCQ (nRQ [.slot 0]))))) .o))))) Tryz.func47 h
def lY(C:CC)(a c:V)(q:kQ):Prop:=let h:Hp:=[]
 clQ C h F.fG [a] λd h=>nzQ d (q d h) (clQ C h F.lX [a,c] q)
theorem Jm(h:lY (CX Y) t0 t1 (out v)):CP Y F.lY [t0,t1] v:=CPo 0 .o Tryz.func15 h
def dZ(C:CC)(a c:V)(q:kQ):Prop:=let h:Hp:=.replicate 2 nnQ
 cIQ .eql c (I 10) (cIQ .lss a (.d (.int .u64 100)) (bnd (cvI .i64 a) λa=>clQ C h F.iJ [a] q) (alD 0 1 (List.replicate 24 (.int .u8 0)) h λc h=>clQ C h F.dG [a] λd h=>bnd (slP 24 1 h c none (some d)) λe=>ciQ C h F.bP [e,a] 1 λa h=>bnd (slP 24 1 h c none (some d)) λa=>bnd (cvT h a) λa=>q a h)) (clQ C h F.qZ [nSQ,a,c,B false,B false] λa h=>e2Q a λa c=>q c h)
theorem vu(h:dZ (CX Y) t0 t1 (out v)):CP Y F.dZ [t0,t1] v:=CPo 2 (aD (nCQ (aD (nCQ (aD (nBQ (nRQ [.slot 0]) (aD (nCQ (nRQ [.inl 1]))))))))) Tryz.func218 h
def gH(C:CC)(a c:V)(q:kQ):Prop:=let h:Hp:=[]
 clQ C h F.dZ [a,c] q
theorem wS(h:gH (CX Y) t0 t1 (out v)):CP Y F.gH [t0,t1] v:=CPo 0 .o Tryz.func200 h
def jG(C:CC)(a:V)(q:kQ):Prop:=let h:Hp:=[]
 clQ C h F.gH [a,I 10] q
theorem Kf(h:jG (CX Y) t0 (out v)):CP Y F.jG [t0] v:=CPo 0 .o Tryz.func171 h
def kD(C:CC)(a:V)(q:kQ):Prop:=let h:Hp:=[]
 clQ C h F.fS [a,I 10,I 64] λa h=>e2Q a λa c=>bnd (biF .neq c (.d (.pl .nilIface))) λc=>cnd c (q (.tup [(.d (.int .u64 0)),B false]) h) (q (.tup [a,B true]) h)
theorem Du(h:kD (CX Y) t0 (out v)):CP Y F.kD [t0] v:=CPo 0 .o Tryz.func199 h
def fY(C:CC)(a c:V)(q:kQ):Prop:=let h:Hp:=[]
 bnd (oJ a) λd=>bIQ .gtr d (I 18) λd=>gqQ d false h c λe h=>gbQ d false h (oJ e) λe h=>gbQ d false h (biI .gtr e (I 18)) λe h=>bpQ d (B true) e λd=>cnd d (q (.tup [(.d (.int .u64 0)),(.d (.int .u64 0)),B false]) h) (clQ C h F.kD [a] λa h=>e2Q a λa d=>clQ C h F.kD [c] λc h=>e2Q c λc d=>q (.tup [a,c,B true]) h)
theorem Gt(h:fY (CX Y) t0 t1 (out v)):CP Y F.fY [t0,t1] v:=CPo 0 .o Tryz.func170 h
def d9(C:CC)(a c:V)(q:kQ):Prop:=let h:Hp:=.replicate 2 nnQ
 bSQ .eql c (.d (.str [48])) λd=>cnd d (q (.tup [(.d (.str [])),(.d (.str [])),I 17]) h) (clQ C h F.fY [a,c] λd h=>e3Q d λd e f=>cnd f (bIQ .quo d e λa=>clQ C h F.jG [a] λa h=>bIQ .rem d e λc=>clQ C h F.jG [c] λc h=>q (.tup [a,c,I 0]) h) (ciQ C h F.d8 [a] 0 λd h=>ciQ C h F.d8 [c] 1 λc h=>clQ C h F.cC [d,c] λe h=>cIQ .lss e (I 0) (q (.tup [(.d (.str [48])),a,I 0]) h) (blQ c λa=>cIQ .eql a (I 1) (bxQ h 1 c (I 0) λa=>b1Q h a λa=>clQ C h F.de [d,a] λa h=>e2Q a λa c=>clQ C h F.aT [a] λa h=>clQ C h F.jG [c] λc h=>q (.tup [a,c,I 0]) h) (clQ C h F.dM [d,c] λa h=>e2Q a λa c=>clQ C h F.aT [a] λa h=>clQ C h F.aT [c] λc h=>q (.tup [a,c,I 0]) h))))
def qF:Ann:=(Dc (nCQ (nRQ [.inl 0,.inl 1])))
attribute [local irreducible] bnd gd cal cnd ext cY tQ stD alV alD ef jn lp exK mkS apV cai vg in
theorem Cj(C:CC)(t0:V)(t1:V)(q:kkQ):fnD Y C Tryz.f153 2 qF [t0,t1] q=d9 C t0 t1 q:=Ur
theorem Ch:okB Tryz.prog Tryz.f153 qF=true:=aJ
theorem Ci(h:d9 (CX Y) t0 t1 (out v)):CP Y F.d9 [t0,t1] v:=
 CP.of (fn:=Tryz.f153) (m:=2) (a:=qF) rfl (λ_=>rfl) Tryz.func153 Ch (by rw[Cj];exact h)
def qc(C:CC):aN:=λl h q=>bSQ .neq (ge l 1) (.d (.str [48])) λa=>cnd a (clQ C h F.d9 [ge l 0,ge l 1] λa h=>e3Q a λa c d=>nzQ d (q .ret [(.d (.str []))] h) (q .normal [ge l 1,c] h)) (q (.exit 0) [ge l 0] h)
def nP(C:CC)(a c:V)(q:kQ):Prop:=let h:Hp:=[]
 lp (qc C) [] h [a,c] h (exK [((.exit 0),λa h=>q (ge a 0) h),(.ret,λa h=>q (ge a 0) h)])
theorem Hj(h:nP (CX Y) t0 t1 (out v)):CP Y F.nP [t0,t1] v:=CPo 0 (aD (nCQ (nCQ (.n (.l [0,1] [] [((.exit 0),[0],[]),(.ret,[4],[])] []) .o .o)))) Tryz.func150 h
def strconv_Itoa(C:CC)(a:V)(q:kQ):Prop:=let h:Hp:=[]
 clQ C h F.k9 [a] q
theorem EC(h:strconv_Itoa (CX Y) t0 (out v)):CP Y F.strconv_Itoa [t0] v:=CPo 0 .o Tryz.func120 h
def k9(C:CC)(a:V)(q:kQ):Prop:=let h:Hp:=[]
 clQ C h F.dI [a,I 10] q
theorem B4(h:k9 (CX Y) t0 (out v)):CP Y F.k9 [t0] v:=CPo 0 .o Tryz.func152 h
def dI(C:CC)(a c:V)(q:kQ):Prop:=let h:Hp:=.replicate 2 nnQ
 cIQ .eql c (I 10) (bIQ .leq (I 0) a λc=>gqQ c true h a λd h=>gbQ c true h (biI .lss d (I 100)) λd h=>bpQ c d (B false) λc=>cnd c (clQ C h F.iJ [a] q) (alD 0 1 (List.replicate 24 (.int .u8 0)) h λc h=>bnd (cvI .u64 a) λd=>bIQ .lss a (I 0) λe=>jn (λd h=>clQ C h F.dG [ge d 0] λe h=>bIQ .add (I 1) e λf=>bnd (slP 24 1 h c (some (I 1)) (some f)) λf=>ciQ C h F.bP [f,ge d 0] 1 λd h=>cIQ .lss a (I 0) (bnd (ixP 24 1 c (I 0)) λa=>stD h 1 a (.d (.int .u8 45)) λ_ h=>bIQ .add (I 1) e λa=>bnd (slP 24 1 h c none (some a)) λa=>bnd (cvT h a) λa=>q a h) (bIQ .add (I 1) e λa=>bnd (slP 24 1 h c (some (I 1)) (some a)) λa=>bnd (cvT h a) λa=>q a h)) λa=>cnd e (bnd (unV .neg d) λc=>a [c] h) (a [d] h))) (bnd (cvI .u64 a) λd=>bIQ .lss a (I 0) λa=>clQ C h F.qZ [nSQ,d,c,a,B false] λa h=>e2Q a λa c=>q c h)
theorem wn(h:dI (CX Y) t0 t1 (out v)):CP Y F.dI [t0,t1] v:=CPo 2 (aD (nCQ (aD (nCQ (aD (nBQ (nRQ [.slot 0]) (aD (nBQ (aD (nJQ [6] [0,5])) (aD (nCQ (nRQ [.inl 1]))))))))))) Tryz.func183 h
def iJ(C:CC)(a:V)(q:kQ):Prop:=let h:Hp:=[]
 cIQ .lss a (I 10) (bIQ .add a (I 1) λc=>bnd (slS (.d (.str [48,49,50,51,52,53,54,55,56,57,97,98,99,100,101,102,103,104,105,106,107,108,109,110,111,112,113,114,115,116,117,118,119,120,121,122])) (some a) (some c)) λa=>q a h) (bIQ .mul a (I 2) λc=>bIQ .mul a (I 2) λa=>bIQ .add a (I 2) λa=>bnd (slS (.d (.str [48,48,48,49,48,50,48,51,48,52,48,53,48,54,48,55,48,56,48,57,49,48,49,49,49,50,49,51,49,52,49,53,49,54,49,55,49,56,49,57,50,48,50,49,50,50,50,51,50,52,50,53,50,54,50,55,50,56,50,57,51,48,51,49,51,50,51,51,51,52,51,53,51,54,51,55,51,56,51,57,52,48,52,49,52,50,52,51,52,52,52,53,52,54,52,55,52,56,52,57,53,48,53,49,53,50,53,51,53,52,53,53,53,54,53,55,53,56,53,57,54,48,54,49,54,50,54,51,54,52,54,53,54,54,54,55,54,56,54,57,55,48,55,49,55,50,55,51,55,52,55,53,55,54,55,55,55,56,55,57,56,48,56,49,56,50,56,51,56,52,56,53,56,54,56,55,56,56,56,57,57,48,57,49,57,50,57,51,57,52,57,53,57,54,57,55,57,56,57,57])) (some c) (some a)) λa=>q a h)
theorem Aw(h:iJ (CX Y) t0 (out v)):CP Y F.iJ [t0] v:=CPo 0 .o Tryz.func207 h
def dG(C:CC)(a:V)(q:kQ):Prop:=let h:Hp:=[]
 clQ C h F.iI [a] λc h=>clQ C h F.gj [c] λc h=>bnd (ixP 20 1 (gl oP) c) λd=>b1Q h d λd=>bIQ .geq a d λa=>clQ C h F.gk [a] λa h=>bIQ .add c a λa=>q a h
theorem wi(h:dG (CX Y) t0 (out v)):CP Y F.dG [t0] v:=CPo 0 .o Tryz.func208 h
def eO(C:CC)(b:Nat)(a:V):aN:=λl h q=>cIQ .geq (ge l 1) (I 8) (bIQ .rem (ge l 0) (.d (.int .u64 100000000)) λc=>bnd (cvI .u32 c) λc=>bIQ .quo (ge l 0) (.d (.int .u64 100000000)) λd=>bIQ .quo c (.d (.int .u32 10000)) λe=>bIQ .rem c (.d (.int .u32 10000)) λc=>bIQ .quo c (.d (.int .u32 100)) λf=>bIQ .mul f (.d (.int .u32 2)) λf=>bIQ .rem c (.d (.int .u32 100)) λc=>bIQ .mul c (.d (.int .u32 2)) λc=>bIQ .quo e (.d (.int .u32 100)) λg=>bIQ .mul g (.d (.int .u32 2)) λg=>bIQ .rem e (.d (.int .u32 100)) λe=>bIQ .mul e (.d (.int .u32 2)) λe=>bIQ .sub (ge l 1) (I 1) λi=>bIQ .sub (ge l 1) (I 2) λj=>bIQ .add c (.d (.int .u32 1)) λk=>bnd (ixS (.d (.str [48,48,48,49,48,50,48,51,48,52,48,53,48,54,48,55,48,56,48,57,49,48,49,49,49,50,49,51,49,52,49,53,49,54,49,55,49,56,49,57,50,48,50,49,50,50,50,51,50,52,50,53,50,54,50,55,50,56,50,57,51,48,51,49,51,50,51,51,51,52,51,53,51,54,51,55,51,56,51,57,52,48,52,49,52,50,52,51,52,52,52,53,52,54,52,55,52,56,52,57,53,48,53,49,53,50,53,51,53,52,53,53,53,54,53,55,53,56,53,57,54,48,54,49,54,50,54,51,54,52,54,53,54,54,54,55,54,56,54,57,55,48,55,49,55,50,55,51,55,52,55,53,55,54,55,55,55,56,55,57,56,48,56,49,56,50,56,51,56,52,56,53,56,54,56,55,56,56,56,57,57,48,57,49,57,50,57,51,57,52,57,53,57,54,57,55,57,56,57,57])) k) λk=>bnd (ixS (.d (.str [48,48,48,49,48,50,48,51,48,52,48,53,48,54,48,55,48,56,48,57,49,48,49,49,49,50,49,51,49,52,49,53,49,54,49,55,49,56,49,57,50,48,50,49,50,50,50,51,50,52,50,53,50,54,50,55,50,56,50,57,51,48,51,49,51,50,51,51,51,52,51,53,51,54,51,55,51,56,51,57,52,48,52,49,52,50,52,51,52,52,52,53,52,54,52,55,52,56,52,57,53,48,53,49,53,50,53,51,53,52,53,53,53,54,53,55,53,56,53,57,54,48,54,49,54,50,54,51,54,52,54,53,54,54,54,55,54,56,54,57,55,48,55,49,55,50,55,51,55,52,55,53,55,54,55,55,55,56,55,57,56,48,56,49,56,50,56,51,56,52,56,53,56,54,56,55,56,56,56,57,57,48,57,49,57,50,57,51,57,52,57,53,57,54,57,55,57,56,57,57])) c) λc=>bxQ h 1 a i λi=>stD h 1 i k λ_ h=>bxQ h 1 a j λi=>stD h 1 i c λ_ h=>bIQ .sub (ge l 1) (I 3) λc=>bIQ .sub (ge l 1) (I 4) λi=>bIQ .add f (.d (.int .u32 1)) λj=>bnd (ixS (.d (.str [48,48,48,49,48,50,48,51,48,52,48,53,48,54,48,55,48,56,48,57,49,48,49,49,49,50,49,51,49,52,49,53,49,54,49,55,49,56,49,57,50,48,50,49,50,50,50,51,50,52,50,53,50,54,50,55,50,56,50,57,51,48,51,49,51,50,51,51,51,52,51,53,51,54,51,55,51,56,51,57,52,48,52,49,52,50,52,51,52,52,52,53,52,54,52,55,52,56,52,57,53,48,53,49,53,50,53,51,53,52,53,53,53,54,53,55,53,56,53,57,54,48,54,49,54,50,54,51,54,52,54,53,54,54,54,55,54,56,54,57,55,48,55,49,55,50,55,51,55,52,55,53,55,54,55,55,55,56,55,57,56,48,56,49,56,50,56,51,56,52,56,53,56,54,56,55,56,56,56,57,57,48,57,49,57,50,57,51,57,52,57,53,57,54,57,55,57,56,57,57])) j) λj=>bnd (ixS (.d (.str [48,48,48,49,48,50,48,51,48,52,48,53,48,54,48,55,48,56,48,57,49,48,49,49,49,50,49,51,49,52,49,53,49,54,49,55,49,56,49,57,50,48,50,49,50,50,50,51,50,52,50,53,50,54,50,55,50,56,50,57,51,48,51,49,51,50,51,51,51,52,51,53,51,54,51,55,51,56,51,57,52,48,52,49,52,50,52,51,52,52,52,53,52,54,52,55,52,56,52,57,53,48,53,49,53,50,53,51,53,52,53,53,53,54,53,55,53,56,53,57,54,48,54,49,54,50,54,51,54,52,54,53,54,54,54,55,54,56,54,57,55,48,55,49,55,50,55,51,55,52,55,53,55,54,55,55,55,56,55,57,56,48,56,49,56,50,56,51,56,52,56,53,56,54,56,55,56,56,56,57,57,48,57,49,57,50,57,51,57,52,57,53,57,54,57,55,57,56,57,57])) f) λf=>bxQ h 1 a c λc=>stD h 1 c j λ_ h=>bxQ h 1 a i λc=>stD h 1 c f λ_ h=>bIQ .sub (ge l 1) (I 5) λc=>bIQ .sub (ge l 1) (I 6) λf=>bIQ .add e (.d (.int .u32 1)) λi=>bnd (ixS (.d (.str [48,48,48,49,48,50,48,51,48,52,48,53,48,54,48,55,48,56,48,57,49,48,49,49,49,50,49,51,49,52,49,53,49,54,49,55,49,56,49,57,50,48,50,49,50,50,50,51,50,52,50,53,50,54,50,55,50,56,50,57,51,48,51,49,51,50,51,51,51,52,51,53,51,54,51,55,51,56,51,57,52,48,52,49,52,50,52,51,52,52,52,53,52,54,52,55,52,56,52,57,53,48,53,49,53,50,53,51,53,52,53,53,53,54,53,55,53,56,53,57,54,48,54,49,54,50,54,51,54,52,54,53,54,54,54,55,54,56,54,57,55,48,55,49,55,50,55,51,55,52,55,53,55,54,55,55,55,56,55,57,56,48,56,49,56,50,56,51,56,52,56,53,56,54,56,55,56,56,56,57,57,48,57,49,57,50,57,51,57,52,57,53,57,54,57,55,57,56,57,57])) i) λi=>bnd (ixS (.d (.str [48,48,48,49,48,50,48,51,48,52,48,53,48,54,48,55,48,56,48,57,49,48,49,49,49,50,49,51,49,52,49,53,49,54,49,55,49,56,49,57,50,48,50,49,50,50,50,51,50,52,50,53,50,54,50,55,50,56,50,57,51,48,51,49,51,50,51,51,51,52,51,53,51,54,51,55,51,56,51,57,52,48,52,49,52,50,52,51,52,52,52,53,52,54,52,55,52,56,52,57,53,48,53,49,53,50,53,51,53,52,53,53,53,54,53,55,53,56,53,57,54,48,54,49,54,50,54,51,54,52,54,53,54,54,54,55,54,56,54,57,55,48,55,49,55,50,55,51,55,52,55,53,55,54,55,55,55,56,55,57,56,48,56,49,56,50,56,51,56,52,56,53,56,54,56,55,56,56,56,57,57,48,57,49,57,50,57,51,57,52,57,53,57,54,57,55,57,56,57,57])) e) λe=>bxQ h 1 a c λc=>stD h 1 c i λ_ h=>bxQ h 1 a f λc=>stD h 1 c e λ_ h=>bIQ .sub (ge l 1) (I 7) λc=>bIQ .sub (ge l 1) (I 8) λe=>bIQ .add g (.d (.int .u32 1)) λf=>bnd (ixS (.d (.str [48,48,48,49,48,50,48,51,48,52,48,53,48,54,48,55,48,56,48,57,49,48,49,49,49,50,49,51,49,52,49,53,49,54,49,55,49,56,49,57,50,48,50,49,50,50,50,51,50,52,50,53,50,54,50,55,50,56,50,57,51,48,51,49,51,50,51,51,51,52,51,53,51,54,51,55,51,56,51,57,52,48,52,49,52,50,52,51,52,52,52,53,52,54,52,55,52,56,52,57,53,48,53,49,53,50,53,51,53,52,53,53,53,54,53,55,53,56,53,57,54,48,54,49,54,50,54,51,54,52,54,53,54,54,54,55,54,56,54,57,55,48,55,49,55,50,55,51,55,52,55,53,55,54,55,55,55,56,55,57,56,48,56,49,56,50,56,51,56,52,56,53,56,54,56,55,56,56,56,57,57,48,57,49,57,50,57,51,57,52,57,53,57,54,57,55,57,56,57,57])) f) λf=>bnd (ixS (.d (.str [48,48,48,49,48,50,48,51,48,52,48,53,48,54,48,55,48,56,48,57,49,48,49,49,49,50,49,51,49,52,49,53,49,54,49,55,49,56,49,57,50,48,50,49,50,50,50,51,50,52,50,53,50,54,50,55,50,56,50,57,51,48,51,49,51,50,51,51,51,52,51,53,51,54,51,55,51,56,51,57,52,48,52,49,52,50,52,51,52,52,52,53,52,54,52,55,52,56,52,57,53,48,53,49,53,50,53,51,53,52,53,53,53,54,53,55,53,56,53,57,54,48,54,49,54,50,54,51,54,52,54,53,54,54,54,55,54,56,54,57,55,48,55,49,55,50,55,51,55,52,55,53,55,54,55,55,55,56,55,57,56,48,56,49,56,50,56,51,56,52,56,53,56,54,56,55,56,56,56,57,57,48,57,49,57,50,57,51,57,52,57,53,57,54,57,55,57,56,57,57])) g) λg=>bxQ h 1 a c λc=>stD h 1 c f λ_ h=>bxQ h 1 a e λa=>stD h 1 a g λ_ h=>bIQ .sub (ge l 1) (I 8) λa=>q .normal [d,a] h) (q (.exit 0) [ge l 0,ge l 1] h)
def bP(C:CC)(b:Nat)(h:Hp)(a c:V)(q:kQ):Prop:=let h:Hp:=h++List.replicate 0 nnQ
 blQ a λd=>lp (eO C b a) [] h [c,d] h (exK [((.exit 0),λc h=>bnd (cvI .u32 (ge c 0)) λd=>bIQ .geq (ge c 1) (I 4) λe=>jn (λc h=>bIQ .geq (ge c 1) (I 2) λd=>jn (λc h=>bIQ .gtr (ge c 1) (I 0) λd=>jn (λa h=>q (.tup []) h) λe=>cnd d (bIQ .add (.d (.int .u32 48)) (ge c 0) λc=>bnd (cvI .u8 c) λc=>bxQ h 1 a (I 0) λa=>stD h 1 a c λ_ h=>e [] h) (e [] h)) λe=>cnd d (bIQ .rem (ge c 0) (.d (.int .u32 100)) λd=>bIQ .mul d (.d (.int .u32 2)) λd=>bIQ .quo (ge c 0) (.d (.int .u32 100)) λf=>bIQ .sub (ge c 1) (I 1) λg=>bIQ .sub (ge c 1) (I 2) λi=>bIQ .add d (.d (.int .u32 1)) λj=>bnd (ixS (.d (.str [48,48,48,49,48,50,48,51,48,52,48,53,48,54,48,55,48,56,48,57,49,48,49,49,49,50,49,51,49,52,49,53,49,54,49,55,49,56,49,57,50,48,50,49,50,50,50,51,50,52,50,53,50,54,50,55,50,56,50,57,51,48,51,49,51,50,51,51,51,52,51,53,51,54,51,55,51,56,51,57,52,48,52,49,52,50,52,51,52,52,52,53,52,54,52,55,52,56,52,57,53,48,53,49,53,50,53,51,53,52,53,53,53,54,53,55,53,56,53,57,54,48,54,49,54,50,54,51,54,52,54,53,54,54,54,55,54,56,54,57,55,48,55,49,55,50,55,51,55,52,55,53,55,54,55,55,55,56,55,57,56,48,56,49,56,50,56,51,56,52,56,53,56,54,56,55,56,56,56,57,57,48,57,49,57,50,57,51,57,52,57,53,57,54,57,55,57,56,57,57])) j) λj=>bnd (ixS (.d (.str [48,48,48,49,48,50,48,51,48,52,48,53,48,54,48,55,48,56,48,57,49,48,49,49,49,50,49,51,49,52,49,53,49,54,49,55,49,56,49,57,50,48,50,49,50,50,50,51,50,52,50,53,50,54,50,55,50,56,50,57,51,48,51,49,51,50,51,51,51,52,51,53,51,54,51,55,51,56,51,57,52,48,52,49,52,50,52,51,52,52,52,53,52,54,52,55,52,56,52,57,53,48,53,49,53,50,53,51,53,52,53,53,53,54,53,55,53,56,53,57,54,48,54,49,54,50,54,51,54,52,54,53,54,54,54,55,54,56,54,57,55,48,55,49,55,50,55,51,55,52,55,53,55,54,55,55,55,56,55,57,56,48,56,49,56,50,56,51,56,52,56,53,56,54,56,55,56,56,56,57,57,48,57,49,57,50,57,51,57,52,57,53,57,54,57,55,57,56,57,57])) d) λd=>bxQ h 1 a g λg=>stD h 1 g j λ_ h=>bxQ h 1 a i λa=>stD h 1 a d λ_ h=>bIQ .sub (ge c 1) (I 2) λa=>e [f,a] h) (e [ge c 0,ge c 1] h)) λf=>cnd e (bIQ .rem d (.d (.int .u32 10000)) λe=>bIQ .quo d (.d (.int .u32 10000)) λd=>bIQ .quo e (.d (.int .u32 100)) λg=>bIQ .mul g (.d (.int .u32 2)) λg=>bIQ .rem e (.d (.int .u32 100)) λe=>bIQ .mul e (.d (.int .u32 2)) λe=>bIQ .sub (ge c 1) (I 1) λi=>bIQ .sub (ge c 1) (I 2) λj=>bIQ .add e (.d (.int .u32 1)) λk=>bnd (ixS (.d (.str [48,48,48,49,48,50,48,51,48,52,48,53,48,54,48,55,48,56,48,57,49,48,49,49,49,50,49,51,49,52,49,53,49,54,49,55,49,56,49,57,50,48,50,49,50,50,50,51,50,52,50,53,50,54,50,55,50,56,50,57,51,48,51,49,51,50,51,51,51,52,51,53,51,54,51,55,51,56,51,57,52,48,52,49,52,50,52,51,52,52,52,53,52,54,52,55,52,56,52,57,53,48,53,49,53,50,53,51,53,52,53,53,53,54,53,55,53,56,53,57,54,48,54,49,54,50,54,51,54,52,54,53,54,54,54,55,54,56,54,57,55,48,55,49,55,50,55,51,55,52,55,53,55,54,55,55,55,56,55,57,56,48,56,49,56,50,56,51,56,52,56,53,56,54,56,55,56,56,56,57,57,48,57,49,57,50,57,51,57,52,57,53,57,54,57,55,57,56,57,57])) k) λk=>bnd (ixS (.d (.str [48,48,48,49,48,50,48,51,48,52,48,53,48,54,48,55,48,56,48,57,49,48,49,49,49,50,49,51,49,52,49,53,49,54,49,55,49,56,49,57,50,48,50,49,50,50,50,51,50,52,50,53,50,54,50,55,50,56,50,57,51,48,51,49,51,50,51,51,51,52,51,53,51,54,51,55,51,56,51,57,52,48,52,49,52,50,52,51,52,52,52,53,52,54,52,55,52,56,52,57,53,48,53,49,53,50,53,51,53,52,53,53,53,54,53,55,53,56,53,57,54,48,54,49,54,50,54,51,54,52,54,53,54,54,54,55,54,56,54,57,55,48,55,49,55,50,55,51,55,52,55,53,55,54,55,55,55,56,55,57,56,48,56,49,56,50,56,51,56,52,56,53,56,54,56,55,56,56,56,57,57,48,57,49,57,50,57,51,57,52,57,53,57,54,57,55,57,56,57,57])) e) λe=>bxQ h 1 a i λi=>stD h 1 i k λ_ h=>bxQ h 1 a j λi=>stD h 1 i e λ_ h=>bIQ .sub (ge c 1) (I 3) λe=>bIQ .sub (ge c 1) (I 4) λi=>bIQ .add g (.d (.int .u32 1)) λj=>bnd (ixS (.d (.str [48,48,48,49,48,50,48,51,48,52,48,53,48,54,48,55,48,56,48,57,49,48,49,49,49,50,49,51,49,52,49,53,49,54,49,55,49,56,49,57,50,48,50,49,50,50,50,51,50,52,50,53,50,54,50,55,50,56,50,57,51,48,51,49,51,50,51,51,51,52,51,53,51,54,51,55,51,56,51,57,52,48,52,49,52,50,52,51,52,52,52,53,52,54,52,55,52,56,52,57,53,48,53,49,53,50,53,51,53,52,53,53,53,54,53,55,53,56,53,57,54,48,54,49,54,50,54,51,54,52,54,53,54,54,54,55,54,56,54,57,55,48,55,49,55,50,55,51,55,52,55,53,55,54,55,55,55,56,55,57,56,48,56,49,56,50,56,51,56,52,56,53,56,54,56,55,56,56,56,57,57,48,57,49,57,50,57,51,57,52,57,53,57,54,57,55,57,56,57,57])) j) λj=>bnd (ixS (.d (.str [48,48,48,49,48,50,48,51,48,52,48,53,48,54,48,55,48,56,48,57,49,48,49,49,49,50,49,51,49,52,49,53,49,54,49,55,49,56,49,57,50,48,50,49,50,50,50,51,50,52,50,53,50,54,50,55,50,56,50,57,51,48,51,49,51,50,51,51,51,52,51,53,51,54,51,55,51,56,51,57,52,48,52,49,52,50,52,51,52,52,52,53,52,54,52,55,52,56,52,57,53,48,53,49,53,50,53,51,53,52,53,53,53,54,53,55,53,56,53,57,54,48,54,49,54,50,54,51,54,52,54,53,54,54,54,55,54,56,54,57,55,48,55,49,55,50,55,51,55,52,55,53,55,54,55,55,55,56,55,57,56,48,56,49,56,50,56,51,56,52,56,53,56,54,56,55,56,56,56,57,57,48,57,49,57,50,57,51,57,52,57,53,57,54,57,55,57,56,57,57])) g) λg=>bxQ h 1 a e λe=>stD h 1 e j λ_ h=>bxQ h 1 a i λa=>stD h 1 a g λ_ h=>bIQ .sub (ge c 1) (I 4) λa=>f [d,a] h) (f [d,ge c 1] h))])
def ky(b:Nat):Ann:=(.n .x .o (.n .x (.n .x (.n (.l [1,4] [0] [((.exit 0),[1,4],[0])] []) .o .o) .o) (.n .x .o (.n .x (.n .x .o (.n (.j [12,4] [0]) .o .o)) (.n .x (.n .x .o (.n (.j [12,4] [0]) .o .o)) (.n .x .o (.n (.j [] []) .o .o)))))))
theorem tT(C:CC)(h:Hp)(t0:V)(t1:V)(q:kkQ):fnI Y C Tryz.f209 0 ky [t0,t1] h q=bP C h.length h t0 t1 q:=by rfl
theorem tR(b:Nat):okB Tryz.prog Tryz.f209 (ky b)=true:=by rfl
theorem tS(hh:bP (CX Y) h.length h t0 t1 (mi h.length v h2)):CI Y F.bP [t0,t1] h v h2:=
 CI.of (fn:=Tryz.f209) (m:=0) (a:=ky) rfl (λ_=>rfl) Tryz.func209 (tR _) (by rw[tT];exact hh)
def gj(C:CC)(a:V)(q:kQ):Prop:=let h:Hp:=[]
 bIQ .mul a (I 78913) λa=>bIQ .shr a (.d (.int .u64 18)) λa=>q a h
theorem wj(h:gj (CX Y) t0 (out v)):CP Y F.gj [t0] v:=CPo 0 .o Tryz.func221 h
def gk(C:CC)(a:V)(q:kQ):Prop:=let h:Hp:=[]
 cnd a (q (I 1) h) (q (I 0) h)
theorem wm(h:gk (CX Y) t0 (out v)):CP Y F.gk [t0] v:=CPo 0 .o Tryz.func223 h
def iI(C:CC)(a:V)(q:kQ):Prop:=let h:Hp:=[]
 bIQ .geq a (.d (.int .u64 4294967296)) λc=>jn (λa h=>bIQ .geq (ge a 0) (.d (.int .u64 65536)) λc=>jn (λa h=>bIQ .geq (ge a 0) (.d (.int .u64 256)) λc=>jn (λa h=>bnd (cvI .u8 (ge a 0)) λc=>bnd (ixS (.d (.str [0,1,2,2,3,3,3,3,4,4,4,4,4,4,4,4,5,5,5,5,5,5,5,5,5,5,5,5,5,5,5,5,6,6,6,6,6,6,6,6,6,6,6,6,6,6,6,6,6,6,6,6,6,6,6,6,6,6,6,6,6,6,6,6,7,7,7,7,7,7,7,7,7,7,7,7,7,7,7,7,7,7,7,7,7,7,7,7,7,7,7,7,7,7,7,7,7,7,7,7,7,7,7,7,7,7,7,7,7,7,7,7,7,7,7,7,7,7,7,7,7,7,7,7,7,7,7,7,8,8,8,8,8,8,8,8,8,8,8,8,8,8,8,8,8,8,8,8,8,8,8,8,8,8,8,8,8,8,8,8,8,8,8,8,8,8,8,8,8,8,8,8,8,8,8,8,8,8,8,8,8,8,8,8,8,8,8,8,8,8,8,8,8,8,8,8,8,8,8,8,8,8,8,8,8,8,8,8,8,8,8,8,8,8,8,8,8,8,8,8,8,8,8,8,8,8,8,8,8,8,8,8,8,8,8,8,8,8,8,8,8,8,8,8,8,8,8,8,8,8,8,8,8,8,8,8])) c) λc=>bnd (cvI .i64 c) λc=>bIQ .add (ge a 1) c λa=>q a h) λd=>cnd c (bIQ .shr (ge a 0) (.d (.int .u64 8)) λc=>bIQ .add (ge a 1) (I 8) λa=>d [c,a] h) (d [ge a 0,ge a 1] h)) λd=>cnd c (bIQ .shr (ge a 0) (.d (.int .u64 16)) λc=>bIQ .add (ge a 1) (I 16) λa=>d [c,a] h) (d [ge a 0,ge a 1] h)) λd=>cnd c (bIQ .shr a (.d (.int .u64 32)) λa=>d [a,I 32] h) (d [a,I 0] h)
theorem Ac(h:iI (CX Y) t0 (out v)):CP Y F.iI [t0] v:=CPo 0 (aD (nBQ (aD (nJQ [0,2] [])) (nBQ (aD (nJQ [0,2] [])) (nCQ (aD (nJQ [0,2] [])))))) Tryz.func222 h
def mH(C:CC)(a c:V)(q:kQ):Prop:=let h:Hp:=[]
 cnd (B false) (bnd (cvI .u32 a) λa=>bnd (cvI .u32 c) λc=>clQ C h F.Df [a,c] λa h=>e2Q a λa c=>bnd (cvI .u64 a) λa=>bnd (cvI .u64 c) λc=>q (.tup [a,c]) h) (clQ C h F.dw [a,c] λa h=>e2Q a λa c=>q (.tup [a,c]) h)
theorem De(h:mH (CX Y) t0 t1 (out v)):CP Y F.mH [t0,t1] v:=CPo 0 .o Tryz.func151 h
def dw(C:CC)(a c:V)(q:kkQ):Prop:=let h:Hp:=List.replicate 0 nnQ
 bnd (biI .and a (.d (.int .u64 4294967295))) λd=>bnd (biI .shr a (.d (.int .u64 32))) λe=>bnd (biI .and c (.d (.int .u64 4294967295))) λf=>bnd (biI .shr c (.d (.int .u64 32))) λg=>bnd (biI .mul d f) λi=>bnd (biI .mul e f) λf=>bnd (biI .shr i (.d (.int .u64 32))) λi=>bnd (biI .add f i) λf=>bnd (biI .and f (.d (.int .u64 4294967295))) λi=>bnd (biI .shr f (.d (.int .u64 32))) λf=>bnd (biI .mul d g) λd=>bnd (biI .add i d) λd=>bnd (biI .mul e g) λe=>bnd (biI .add e f) λe=>bnd (biI .shr d (.d (.int .u64 32))) λd=>bnd (biI .add e d) λd=>bnd (biI .mul a c) λa=>q (.tup [d,a]) h
theorem tD(h:dw (CX Y) t0 t1 (out v)):CP Y F.dw [t0,t1] v:=CPo 0 .o Tryz.func182 h
def strconv_Atoi(C:CC)(a:V)(q:kQ):Prop:=let h:Hp:=[]
 clQ C h F.ia [a] λc h=>e2Q c λc d=>bnd (biF .neq d (.d (.pl .nilIface))) λe=>cnd e (clQ C h F.C5 [(.d (.str [65,116,111,105])),a,I 0,I 0,d] λa h=>q (.tup [c,a]) h) (q (.tup [c,(.d (.pl .nilIface))]) h)
theorem wT(h:strconv_Atoi (CX Y) t0 (out v)):CP Y F.strconv_Atoi [t0] v:=CPo 0 .o Tryz.func169 h
def nh(C:CC)(a c:V):aN:=λl h q=>cIQ .lss (ge l 1) c (bxQ h 1 a (ge l 1) λa=>b1Q h a λa=>bIQ .sub a (.d (.int .u8 48)) λa=>cIQ .gtr a (.d (.int .u8 9)) (False /- makeInterface -/) (bIQ .mul (ge l 0) (I 10) λc=>bnd (cvI .i64 a) λa=>bIQ .add c a λa=>bIQ .add (ge l 1) (I 1) λc=>q .normal [a,c] h)) (q (.exit 0) [ge l 0] h)
def ia(C:CC)(a:V)(q:kQ):Prop:=let h:Hp:=[]
 bnd (oJ a) λc=>gd (B false) true h (λq=>q c h) λd h=>gd (B false) true h (λq=>bIQ .lss (I 0) d λv=>q v h) λd h=>gd (B false) true h (λq=>q d h) λd h=>gqQ d true h c λe h=>gbQ d true h (biI .lss e (I 10)) λe h=>gd (B false) true h (λq=>bpQ d e (B false) λv=>q v h) λd h=>bpQ (B false) d (B false) λd=>gqQ d false h (B true) λe h=>gqQ e true h c λf h=>gbQ e true h (biI .lss (I 0) f) λf h=>gqQ e true h f λf h=>gqQ f true h c λc h=>gbQ f true h (biI .lss c (I 19)) λc h=>gbQ e true h (nL f c (B false)) λc h=>gbQ d false h (nL e c (B false)) λc h=>bpQ d (B true) c λc=>cnd c (bnd (ixS a (I 0)) λc=>bIQ .eql c (.d (.int .u8 45)) λc=>gqQ c false h a λd h=>gbQ c false h (ixS d (I 0)) λd h=>gbQ c false h (biI .eql d (.d (.int .u8 43))) λd h=>bpQ c (B true) d λc=>jn (λc h=>cvB (ge c 0) h λc h=>blQ c λd=>lp (nh C c d) [] h [I 0,I 0] h (exK [((.exit 0),λc h=>bnd (ixS a (I 0)) λa=>bIQ .eql a (.d (.int .u8 45)) λa=>jn (λa h=>q (.tup [ge a 0,(.d (.pl .nilIface))]) h) λd=>cnd a (bnd (unV .neg (ge c 0)) λa=>d [a] h) (d [ge c 0] h)),(.ret,λa h=>q (.tup [ge a 0,ge a 1]) h)])) λd=>cnd c (bnd (slS a (some (I 1)) none) λa=>bnd (oJ a) λc=>cIQ .lss c (I 1) (False /- makeInterface -/) (d [a] h)) (d [a] h)) (clQ C h F.zd [a,I 10,I 0] λa h=>e2Q a λa c=>q (.tup [a,c]) h)
theorem uB(h:ia (CX Y) t0 (out v)):CP Y F.ia [t0] v:=CPo 0 (dP (nCQ (aD (nCQ (aD (nBQ (aD (nJQ [0] [5])) (aD (nBQ (aD (nCQ (.n (.l [6,49] [5,47,48] [((.exit 0),[6],[5]),(.ret,[2,3],[])] []) .o .o))) (nCQ (aD (nJQ [6] []))))))))))) Tryz.func198 h
def fK(C:CC)(a c:V):aN:=λl h q=>cIQ .lss (ge l 0) c (bxQ h 1 a (ge l 0) λa=>b1Q h a λa=>bIQ .lss a (.d (.int .u8 48)) λc=>gqQ c false h a λa h=>gbQ c false h (biI .gtr a (.d (.int .u8 57))) λa h=>bpQ c (B true) a λa=>cnd a (q .ret [B false] h) (bIQ .add (ge l 0) (I 1) λa=>q .normal [a] h)) (q (.exit 0) [] h)
def iC(C:CC)(a:V)(q:kQ):Prop:=let h:Hp:=[]
 cvB a h λc h=>blQ c λd=>lp (fK C c d) [] h [I 0] h (exK [((.exit 0),λc h=>bnd (oJ a) λc=>bIQ .eql c (I 1) λc=>gqQ c false h a λd h=>gbQ c false h (oJ d) λd h=>gbQ c false h (biI .gtr d (I 1)) λd h=>gqQ c false h d λd h=>gqQ d true h a λa h=>gbQ d true h (ixS a (I 0)) λa h=>gbQ d true h (biI .neq a (.d (.int .u8 48))) λa h=>gbQ c false h (nL d a (B false)) λa h=>bpQ c (B true) a λa=>q a h),(.ret,λa h=>q (ge a 0) h)])
theorem yq(h:iC (CX Y) t0 (out v)):CP Y F.iC [t0] v:=CPo 0 (aD (nCQ (aD (nCQ (.n (.l [8] [0,6,7] [((.exit 0),[],[0]),(.ret,[2],[])] []) .o .o))))) Tryz.func180 h
def kG(C:CC)(a:V)(q:kQ):Prop:=let h:Hp:=[]
 clQ C h F.iC [a] λc h=>bnd (unV .not c) λc=>gqQ c false h a λa h=>gbQ c false h (oJ a) λa h=>gbQ c false h (biI .gtr a (I 400)) λa h=>bpQ c (B true) a λa=>cnd a (q (I 2) h) (q (I 0) h)
theorem Dv(h:kG (CX Y) t0 (out v)):CP Y F.kG [t0] v:=CPo 0 .o Tryz.func148 h
def bQ(C:CC)(b:Nat):aN:=λl h q=>blQ (ge l 0) λa=>bIQ .gtr a (I 0) λa=>gqQ a true h (ge l 0) λc h=>gqQ a true h (ge l 0) λd h=>gbQ a true h (aO d) λd h=>gbQ a true h (biI .sub d (I 1)) λd h=>gbQ a true h (ixV h 1 c d) λc h=>gbQ a true h (ld1 h c) λc h=>gbQ a true h (biI .eql c (.d (.int .u64 0))) λc h=>bpQ a c (B false) λa=>cnd a (blQ (ge l 0) λa=>bIQ .sub a (I 1) λa=>bnd (slV h 1 (ge l 0) none (some a)) λa=>q .normal [a] h) (q (.exit 0) [ge l 0] h)
def az(C:CC)(b:Nat)(h:Hp)(a:V)(q:kQ):Prop:=let h:Hp:=h++List.replicate 0 nnQ
 lp (bQ C b) [] h [a] h (exK [((.exit 0),λa h=>q (ge a 0) h)])
def mT(b:Nat):Ann:=(.n .x .o (.n .x (.n .x (.n (.l [0] [] [((.exit 0),[0],[])] []) .o .o) .o) .o))
theorem wt(C:CC)(h:Hp)(t0:V)(q:kkQ):fnI Y C Tryz.f188 0 mT [t0] h q=az C h.length h t0 q:=by rfl
theorem wq(b:Nat):okB Tryz.prog Tryz.f188 (mT b)=true:=by rfl
theorem qh(hh:az (CX Y) h.length h t0 (mi h.length v h2)):CI Y F.az [t0] h v h2:=
 CI.of (fn:=Tryz.f188) (m:=0) (a:=mT) rfl (λ_=>rfl) Tryz.func188 (wq _) (by rw[wt];exact hh)
def qa(C:CC)(b:Nat)(a c:V):aN:=λl h q=>cIQ .lss (ge l 1) c (bxQ h 1 a (ge l 1) λa=>b1Q h a λa=>bIQ .mul (.d (.int .u64 10)) (ge l 0) λc=>bIQ .sub a (.d (.int .u8 48)) λa=>bnd (cvI .u64 a) λa=>bIQ .add c a λa=>bIQ .add (ge l 1) (I 1) λc=>q .normal [a,c] h) (q (.exit 2) [ge l 0] h)
def qb(C:CC)(b:Nat)(a:V):aN:=λl h q=>cIQ .gtr (ge l 1) (I 0) (bIQ .sub (ge l 1) (I 9) λc=>bnd (mxI true [I 0,c]) λc=>bnd (slS a (some c) (some (ge l 1))) λa=>cvB a h λa h=>blQ a λc=>lp (qa C b a c) [] h [(.d (.int .u64 0)),I 0] h (exK [((.exit 2),λa h=>cY 1 [.int .u64 0] [(0,(ge a 0))] h λa h=>apV false (b+1) 1 8 (ge l 0) a h λa h=>bIQ .sub (ge l 1) (I 9) λc=>q .normal [a,c] h)])) (q (.exit 0) [ge l 0] h)
def d8(C:CC)(b:Nat)(h:Hp)(a:V)(q:kQ):Prop:=let h:Hp:=h++List.replicate 3 nnQ
 bnd (oJ a) λc=>bIQ .quo c (I 9) λc=>bIQ .add c (I 1) λc=>mkS (b+0) 8 [.int .u64 0] h (I 0) c λc h=>bnd (oJ a) λd=>lp (qb C b a) [] h [c,d] h (exK [((.exit 0),λa h=>ciQ C h F.az [ge a 0] (b+2) q)])
def tW(b:Nat):Ann:=(.n .x .o (.n .x (.n (.r [.slot (b+0)]) .o .o) (.n .x (.n .x .o (.n .x (.n (.l [3,4] [0] [((.exit 0),[3],[])] []) (.n .x .o (.n .x (.n .x (.n .x .o (.n .x (.n .x .o (.n .x (.n (.l [5,27] [0,3,4,25,26] [((.exit 2),[5],[0,3,4])] []) .o .o) .o)) (.n (.r [.o,.slot (b+1)]) .o .o))) .o) .o)) .o) .o)) (.n .x (.n (.r [.inl (b+2)]) .o .o) .o))))
theorem Ha(C:CC)(h:Hp)(t0:V)(q:kkQ):fnI Y C Tryz.f172 3 tW [t0] h q=d8 C h.length h t0 q:=by rfl
theorem G8(b:Nat):okB Tryz.prog Tryz.f172 (tW b)=true:=by rfl
theorem G9(hh:d8 (CX Y) h.length h t0 (mi h.length v h2)):CI Y F.d8 [t0] h v h2:=
 CI.of (fn:=Tryz.f172) (m:=3) (a:=tW) rfl (λ_=>rfl) Tryz.func172 (G8 _) (by rw[Ha];exact hh)
def dN(C:CC)(b:Nat)(a:V):aN:=λl h q=>cIQ .lss (ge l 0) (ge l 1) (bxQ h 1 a (ge l 1) λc=>b1Q h c λc=>bxQ h 1 a (ge l 0) λd=>b1Q h d λd=>bxQ h 1 a (ge l 0) λe=>stD h 1 e c λ_ h=>bxQ h 1 a (ge l 1) λa=>stD h 1 a d λ_ h=>bIQ .add (ge l 0) (I 1) λa=>bIQ .sub (ge l 1) (I 1) λc=>q .normal [a,c] h) (q (.exit 0) [] h)
def bW(C:CC)(b:Nat)(h:Hp)(a:V)(q:kQ):Prop:=let h:Hp:=h++List.replicate 0 nnQ
 blQ a λc=>bIQ .sub c (I 1) λc=>lp (dN C b a) [] h [I 0,c] h (exK [((.exit 0),λa h=>q (.tup []) h)])
def jy(b:Nat):Ann:=(.n .x .o (.n .x (.n (.l [2,3] [0] [((.exit 0),[],[])] []) .o .o) .o))
theorem sO(C:CC)(h:Hp)(t0:V)(q:kkQ):fnI Y C Tryz.f201 0 jy [t0] h q=bW C h.length h t0 q:=by kernel_rfl
theorem sL(b:Nat):okB Tryz.prog Tryz.f201 (jy b)=true:=of_decide_eq_true ag
theorem sN(hh:bW (CX Y) h.length h t0 (mi h.length v h2)):CI Y F.bW [t0] h v h2:=
 CI.of (fn:=Tryz.f201) (m:=0) (a:=jy) rfl (λ_=>rfl) Tryz.func201 (sL _) (by rw[sO];exact hh)
def dj(C:CC)(a c:V):aN:=λl h q=>bIQ .lss (ge l 2) (I 9) λd=>gqQ d true h c λc h=>gbQ d true h (biI .add c (I 1)) λc h=>gqQ d true h a λa h=>gbQ d true h (aO a) λa h=>gbQ d true h (biI .lss c a) λa h=>gqQ d true h a λa h=>gqQ a false h (ge l 1) λc h=>gbQ a false h (biI .gtr c (.d (.int .u64 0))) λc h=>gbQ d true h (nL a (B true) c) λa h=>bpQ d a (B false) λa=>cnd a (bIQ .rem (ge l 1) (.d (.int .u64 10)) λa=>bIQ .add (.d (.int .u64 48)) a λa=>bnd (cvI .u8 a) λa=>cY 1 [.int .u8 0] [(0,a)] h λa h=>apV false 1 1 1 (ge l 0) a h λa h=>bIQ .quo (ge l 1) (.d (.int .u64 10)) λc=>bIQ .add (ge l 2) (I 1) λd=>q .normal [a,c,d] h) (q (.exit 2) [ge l 0] h)
def ja(C:CC)(a c d:V):aN:=λl h q=>cIQ .lss (ge l 1) d (bxQ h 1 c (ge l 1) λc=>b1Q h c λc=>lp (dj C a (ge l 1)) [] h [ge l 0,c,I 0] h (exK [((.exit 2),λa h=>bIQ .add (ge l 1) (I 1) λc=>q .normal [ge a 0,c] h)])) (q (.exit 0) [ge l 0] h)
def aT(C:CC)(a:V)(q:kQ):Prop:=let h:Hp:=.replicate 3 nnQ
 blQ a λc=>cIQ .eql c (I 0) (q (.d (.str [48])) h) (blQ a λc=>bIQ .mul (I 9) c λc=>mkS 0 1 [.int .u8 0] h (I 0) c λc h=>blQ a λd=>lp (ja C a a d) [] h [c,I 0] h (exK [((.exit 0),λa h=>ciQ C h F.bW [ge a 0] 2 λc h=>bnd (cvT h (ge a 0)) λa=>q a h)]))
theorem wu(h:aT (CX Y) t0 (out v)):CP Y F.aT [t0] v:=CPo 3 (dP (nBQ (nRQ [.slot 0]) (nBQ (aD (nCQ (.n (.l [3,16] [0,14,15] [((.exit 0),[3],[])] []) (dP (nCQ (nCQ (dP (nCQ (.n (.l [3,5,6] [0,4,14,15,16] [((.exit 2),[3],[0,14,15,16])] []) (aD (nCQ (nCQ (nCQ (nRQ [.o,.slot 1]))))) .o)))))) .o))) (nCQ (nRQ [.inl 2]))))) Tryz.func174 h
def dh(C:CC)(a c:V):aN:=λl h q=>cIQ .geq (ge l 0) (I 0) (bxQ h 1 a (ge l 0) λd=>b1Q h d λd=>bxQ h 1 c (ge l 0) λe=>b1Q h e λe=>cIQ .lss d e (q .ret [I (-1)] h) (bxQ h 1 a (ge l 0) λa=>b1Q h a λa=>bxQ h 1 c (ge l 0) λc=>b1Q h c λc=>cIQ .gtr a c (q .ret [I 1] h) (bIQ .sub (ge l 0) (I 1) λa=>q .normal [a] h))) (q (.exit 0) [] h)
def cC(C:CC)(a c:V)(q:kQ):Prop:=let h:Hp:=[]
 blQ a λd=>blQ c λe=>cIQ .neq d e (blQ a λa=>blQ c λc=>bIQ .sub a c λa=>bnd (mxI true [I (-1),a]) λa=>bnd (mxI false [I 1,a]) λa=>q a h) (blQ a λd=>bIQ .sub d (I 1) λd=>lp (dh C a c) [] h [d] h (exK [((.exit 0),λa h=>q (I 0) h),(.ret,λa h=>q (ge a 0) h)]))
theorem tV(h:cC (CX Y) t0 t1 (out v)):CP Y F.cC [t0,t1] v:=CPo 0 (dP (nCQ (aD (nCQ (.n (.l [5] [0,1] [((.exit 0),[],[]),(.ret,[4],[])] []) .o .o))))) Tryz.func184 h
def iz(C:CC)(b:Nat)(a c d e f:V):aN:=λl h q=>cIQ .lss (ge l 1) f (bxQ h 1 e (ge l 1) λe=>b1Q h e λe=>bIQ .add c (ge l 1) λf=>bxQ h 1 a f λf=>b1Q h f λf=>bIQ .mul d e λd=>bIQ .add f d λd=>bIQ .add (ge l 0) d λd=>bIQ .add c (ge l 1) λc=>bIQ .rem d (.d (.int .u64 1000000000)) λe=>bxQ h 1 a c λa=>stD h 1 a e λ_ h=>bIQ .quo d (.d (.int .u64 1000000000)) λa=>bIQ .add (ge l 1) (I 1) λc=>q .normal [a,c] h) (q (.exit 2) [ge l 0] h)
def iA(C:CC)(b:Nat)(a c d e:V):aN:=λl h q=>cIQ .lss (ge l 0) e (bxQ h 1 d (ge l 0) λd=>b1Q h d λd=>blQ a λe=>lp (iz C b c (ge l 0) d a e) [] h [(.d (.int .u64 0)),I 0] h (exK [((.exit 2),λd h=>blQ a λa=>bIQ .add (ge l 0) a λa=>bxQ h 1 c a λa=>stD h 1 a (ge d 0) λ_ h=>bIQ .add (ge l 0) (I 1) λa=>q .normal [a] h)])) (q (.exit 0) [] h)
def dd(C:CC)(b:Nat)(h:Hp)(a c:V)(q:kQ):Prop:=let h:Hp:=h++List.replicate 2 nnQ
 blQ a λd=>blQ c λe=>bIQ .add d e λd=>mkS (b+0) 8 [.int .u64 0] h d d λd h=>blQ a λe=>lp (iA C b c d a e) [] h [I 0] h (exK [((.exit 0),λa h=>ciQ C h F.az [d] (b+1) q)])
def md(b:Nat):Ann:=(.n .x .o (.n .x (.n (.r [.slot (b+0)]) .o .o) (.n .x (.n .x .o (.n .x (.n (.l [19] [1,5,17,18] [((.exit 0),[],[5])] []) (.n .x .o (.n .x .o (.n .x (.n .x (.n .x .o (.n .x .o (.n .x (.n .x .o (.n .x (.n (.l [8,26] [1,5,6,7,17,18,19,24,25] [((.exit 2),[8],[1,5,6,17,18,19])] []) .o .o) .o)) .o))) .o) .o))) .o) .o)) (.n .x (.n (.r [.inl (b+1)]) .o .o) .o))))
theorem vG(C:CC)(h:Hp)(t0:V)(t1:V)(q:kkQ):fnI Y C Tryz.f173 2 md [t0,t1] h q=dd C h.length h t0 t1 q:=by rfl
theorem vE(b:Nat):okB Tryz.prog Tryz.f173 (md b)=true:=by rfl
theorem vF(hh:dd (CX Y) h.length h t0 t1 (mi h.length v h2)):CI Y F.dd [t0,t1] h v h2:=
 CI.of (fn:=Tryz.f173) (m:=2) (a:=md) rfl (λ_=>rfl) Tryz.func173 (vE _) (by rw[vG];exact hh)
def cj(C:CC)(b:Nat)(h:Hp)(a c:V)(q:kQ):Prop:=let h:Hp:=h++List.replicate 2 nnQ
 cY 1 [.int .u64 0] [(0,c)] h λc h=>ciQ C h F.az [c] (b+0) λc h=>ciQ C h F.dd [a,c] (b+1) q
def ly(b:Nat):Ann:=(.n .x .o (.n .x (.n (.r [.o,.inl (b+0),.inl (b+1)]) .o .o) .o))
theorem uG(C:CC)(h:Hp)(t0:V)(t1:V)(q:kkQ):fnI Y C Tryz.f211 2 ly [t0,t1] h q=cj C h.length h t0 t1 q:=by rfl
theorem uE(b:Nat):okB Tryz.prog Tryz.f211 (ly b)=true:=by rfl
theorem uF(hh:cj (CX Y) h.length h t0 t1 (mi h.length v h2)):CI Y F.cj [t0,t1] h v h2:=
 CI.of (fn:=Tryz.f211) (m:=2) (a:=ly) rfl (λ_=>rfl) Tryz.func211 (uE _) (by rw[uG];exact hh)
def iB(C:CC)(a c d:V):aN:=λl h q=>cIQ .geq (ge l 1) (I 0) (bIQ .mul (ge l 0) (.d (.int .u64 1000000000)) λe=>bxQ h 1 a (ge l 1) λa=>b1Q h a λa=>bIQ .add e a λa=>bIQ .quo a c λe=>bxQ h 1 d (ge l 1) λd=>stD h 1 d e λ_ h=>bIQ .rem a c λa=>bIQ .sub (ge l 1) (I 1) λc=>q .normal [a,c] h) (q (.exit 0) [ge l 0] h)
def de(C:CC)(a c:V)(q:kQ):Prop:=let h:Hp:=.replicate 2 nnQ
 blQ a λd=>mkS 0 8 [.int .u64 0] h d d λd h=>blQ a λe=>bIQ .sub e (I 1) λe=>lp (iB C a c d) [] h [(.d (.int .u64 0)),e] h (exK [((.exit 0),λa h=>ciQ C h F.az [d] 1 λc h=>q (.tup [c,ge a 0]) h)])
theorem vH(h:de (CX Y) t0 t1 (out v)):CP Y F.de [t0,t1] v:=CPo 2 (aD (nBQ (nRQ [.slot 0]) (aD (nBQ (aD (nCQ (.n (.l [7,8] [0,1,6] [((.exit 0),[7],[6])] []) .o .o))) (nCQ (nRQ [.inl 1])))))) Tryz.func185 h
def fX(C:CC)(b:Nat)(a c d e:V):aN:=λl h q=>blQ c λf=>cIQ .leq (ge l 2) f (blQ c λf=>bIQ .lss (ge l 2) f λf=>jn (λc h=>bIQ .add e (ge l 2) λd=>bxQ h 1 a d λd=>b1Q h d λd=>bnd (cvI .i64 d) λd=>bIQ .rem (ge c 0) (.d (.int .u64 1000000000)) λf=>bnd (cvI .i64 f) λf=>bIQ .sub d f λd=>bIQ .sub d (ge l 1) λd=>bIQ .quo (ge c 0) (.d (.int .u64 1000000000)) λc=>bIQ .lss d (I 0) λf=>jn (λd h=>bIQ .add e (ge l 2) λe=>bnd (cvI .u64 (ge d 0)) λf=>bxQ h 1 a e λa=>stD h 1 a f λ_ h=>bIQ .add (ge l 2) (I 1) λa=>q .normal [c,ge d 1,a] h) λa=>cnd f (bIQ .add d (I 1000000000) λc=>a [c,I 1] h) (a [d,I 0] h)) λa=>cnd f (bxQ h 1 c (ge l 2) λc=>b1Q h c λc=>bIQ .mul d c λc=>bIQ .add (ge l 0) c λc=>a [c] h) (a [ge l 0] h)) (q (.exit 0) [ge l 1] h)
def dJ(C:CC)(b:Nat)(h:Hp)(a c d e:V)(q:kQ):Prop:=let h:Hp:=h++List.replicate 0 nnQ
 lp (fX C b a c d e) [] h [(.d (.int .u64 0)),I 0,I 0] h (exK [((.exit 0),λa h=>bIQ .gtr (ge a 0) (I 0) λa=>q a h)])
def mU(b:Nat):Ann:=(.n .x .o (.n .x .o (.n .x .o (.n .x (.n .x .o (.n .x (.n (.l [10,9,11] [0,1,2,3] [((.exit 0),[9],[])] []) (.n .x .o (.n .x (.n .x (.n .x (.n .x .o (.n (.j [10] [0,1,2,3,9,11]) .o .o)) (.n .x .o (.n .x .o (.n .x .o (.n .x (.n .x .o (.n (.j [12,9] [0,1,2,3,10,11]) .o .o)) .o))))) .o) .o)) .o) .o)) .o))))
theorem wA(C:CC)(h:Hp)(t0:V)(t1:V)(t2:V)(t3:V)(q:kkQ):fnI Y C Tryz.f189 0 mU [t0,t1,t2,t3] h q=dJ C h.length h t0 t1 t2 t3 q:=by rfl
theorem ww(b:Nat):okB Tryz.prog Tryz.f189 (mU b)=true:=by rfl
theorem wz(hh:dJ (CX Y) h.length h t0 t1 t2 t3 (mi h.length v h2)):CI Y F.dJ [t0,t1,t2,t3] h v h2:=
 CI.of (fn:=Tryz.f189) (m:=0) (a:=mU) rfl (λ_=>rfl) Tryz.func189 (ww _) (by rw[wA];exact hh)
def jb(C:CC)(b:Nat)(a c d:V):aN:=λl h q=>blQ c λe=>cIQ .leq (ge l 1) e (bIQ .add d (ge l 1) λe=>bxQ h 1 a e λe=>b1Q h e λe=>bIQ .add (ge l 0) e λe=>blQ c λf=>bIQ .lss (ge l 1) f λf=>jn (λc h=>bIQ .add d (ge l 1) λd=>bIQ .rem (ge c 0) (.d (.int .u64 1000000000)) λe=>bxQ h 1 a d λa=>stD h 1 a e λ_ h=>bIQ .quo (ge c 0) (.d (.int .u64 1000000000)) λa=>bIQ .add (ge l 1) (I 1) λc=>q .normal [a,c] h) λa=>cnd f (bxQ h 1 c (ge l 1) λc=>b1Q h c λc=>bIQ .add e c λc=>a [c] h) (a [e] h)) (q (.exit 0) [] h)
def cI(C:CC)(b:Nat)(h:Hp)(a c d:V)(q:kQ):Prop:=let h:Hp:=h++List.replicate 0 nnQ
 lp (jb C b a c d) [] h [(.d (.int .u64 0)),I 0] h (exK [((.exit 0),λa h=>q (.tup []) h)])
def mV(b:Nat):Ann:=(.n .x .o (.n .x .o (.n .x (.n (.l [6,7] [0,1,2] [((.exit 0),[],[])] []) (.n .x .o (.n .x (.n .x (.n .x .o (.n .x (.n .x .o (.n (.j [6] [0,1,2,7]) .o .o)) .o)) .o) .o)) .o) .o)))
theorem wD(C:CC)(h:Hp)(t0:V)(t1:V)(t2:V)(q:kkQ):fnI Y C Tryz.f187 0 mV [t0,t1,t2] h q=cI C h.length h t0 t1 t2 q:=by rfl
theorem wB(b:Nat):okB Tryz.prog Tryz.f187 (mV b)=true:=by rfl
theorem wC(hh:cI (CX Y) h.length h t0 t1 t2 (mi h.length v h2)):CI Y F.cI [t0,t1,t2] h v h2:=
 CI.of (fn:=Tryz.f187) (m:=0) (a:=mV) rfl (λ_=>rfl) Tryz.func187 (wB _) (by rw[wD];exact hh)
def kC(C:CC)(a:V):aN:=λl h q=>blQ (ge l 0) λc=>blQ a λa=>cIQ .leq c a (cY 1 [.int .u64 0] [(0,(.d (.int .u64 0)))] h λa h=>apV false 3 1 8 (ge l 0) a h λa h=>q .normal [a] h) (q (.exit 0) [ge l 0] h)
def bq(C:CC)(a c d e:V):aN:=λl h q=>bIQ .geq (ge l 0) (.d (.int .u64 1000000000)) λf=>gqQ f false h (ge l 1) λg h=>gbQ f false h (biI .lss g (.d (.int .u64 1000000000))) λg h=>gqQ f false h g λg h=>gqQ g true h (ge l 0) λi h=>gqQ g true h c λj h=>gqQ g true h d λk h=>gbQ g true h (biI .sub k (I 2)) λk h=>gbQ g true h (ixV h 1 j k) λj h=>gbQ g true h (ld1 h j) λj h=>gbQ g true h (biI .mul i j) λi h=>gqQ g true h (ge l 1) λj h=>gbQ g true h (biI .mul j (.d (.int .u64 1000000000))) λj h=>gqQ g true h a λa h=>gqQ g true h e λe h=>gqQ g true h d λk h=>gbQ g true h (biI .add e k) λe h=>gbQ g true h (biI .sub e (I 2)) λe h=>gbQ g true h (ixV h 1 a e) λa h=>gbQ g true h (ld1 h a) λa h=>gbQ g true h (biI .add j a) λa h=>gbQ g true h (biI .gtr i a) λa h=>gbQ f false h (nL g a (B false)) λa h=>bpQ f (B true) a λa=>cnd a (bIQ .sub (ge l 0) (.d (.int .u64 1)) λa=>bIQ .sub d (I 1) λd=>bxQ h 1 c d λc=>b1Q h c λc=>bIQ .add (ge l 1) c λc=>q .normal [a,c] h) (q (.exit 4) [ge l 0] h)
def dE(C:CC)(a c d e:V):aN:=λl h q=>cIQ .geq (ge l 0) (I 0) (bIQ .add (ge l 0) d λf=>bxQ h 1 a f λf=>b1Q h f λf=>bIQ .mul f (.d (.int .u64 1000000000)) λf=>bIQ .add (ge l 0) d λg=>bIQ .sub g (I 1) λg=>bxQ h 1 a g λg=>b1Q h g λg=>bIQ .add f g λf=>bIQ .sub d (I 1) λg=>bxQ h 1 c g λg=>b1Q h g λg=>bIQ .quo f g λg=>bIQ .sub d (I 1) λi=>bxQ h 1 c i λi=>b1Q h i λi=>bIQ .rem f i λf=>lp (bq C a c d (ge l 0)) [] h [g,f] h (exK [((.exit 4),λd h=>ciQ C h F.dJ [a,c,ge d 0,ge l 0] 5 λf h=>jn (λa h=>bxQ h 1 e (ge l 0) λc=>stD h 1 c (ge a 0) λ_ h=>bIQ .sub (ge l 0) (I 1) λa=>q .normal [a] h) λe=>cnd f (bIQ .sub (ge d 0) (.d (.int .u64 1)) λd=>ciQ C h F.cI [a,c,ge l 0] 6 λa h=>e [d] h) (e [ge d 0] h))])) (q (.exit 2) [] h)
def dM(C:CC)(a c:V)(q:kQ):Prop:=let h:Hp:=.replicate 9 nnQ
 blQ c λd=>bIQ .sub d (I 1) λd=>bxQ h 1 c d λd=>b1Q h d λd=>bIQ .add d (.d (.int .u64 1)) λd=>bIQ .quo (.d (.int .u64 1000000000)) d λd=>ciQ C h F.cj [a,d] 0 λe h=>cY 1 [.int .u64 0] [(0,(.d (.int .u64 0)))] h λf h=>apV false 1 1 8 e f h λe h=>ciQ C h F.cj [c,d] 2 λc h=>blQ c λf=>lp (kC C a) [] h [e] h (exK [((.exit 0),λa h=>blQ (ge a 0) λe=>bIQ .sub e f λe=>mkS 4 8 [.int .u64 0] h e e λe h=>blQ (ge a 0) λg=>bIQ .sub g f λg=>bIQ .sub g (I 1) λg=>lp (dE C (ge a 0) c f e) [5,6] h [g] h (exK [((.exit 2),λc h=>ciQ C h F.az [ge a 0] 7 λa h=>clQ C h F.de [a,d] λa h=>e2Q a λa c=>ciQ C h F.az [e] 8 λc h=>q (.tup [c,a]) h)]))])
def lC:Ann:=(dP (nBQ (nRQ [.inl 0,.o,.slot 1,.inl 2]) (aD (nBQ (nCQ (.n (.l [7] [0,6,8,9] [((.exit 0),[7],[6,8,9])] []) (aD (nCQ (nRQ [.o,.slot 3]))) .o)) (nBQ (nRQ [.slot 4]) (nBQ (aD (nCQ (.n (.l [11] [6,7,8,9,10] [((.exit 2),[],[6,7,10])] [5,6]) (aD (nCQ (nCQ (dP (nBQ (nCQ (.n (.l [13,14] [6,7,8,9,10,11] [((.exit 4),[13],[6,7,8,9,10,11])] []) .o .o)) (nCQ (nBQ (nRQ [.inl 5]) (.n (.j [13] [6,7,8,9,10,11]) (aD (nRQ [.inl 6])) .o)))))))) .o))) (nBQ (nRQ [.inl 7]) (nCQ (nRQ [.inl 8])))))))))
attribute [local irreducible] bnd gd cal cnd ext cY tQ stD alV alD ef jn lp exK mkS apV cai vg in
theorem uJ(C:CC)(t0:V)(t1:V)(q:kkQ):fnD Y C Tryz.f186 9 lC [t0,t1] q=dM C t0 t1 q:=Ur
theorem uH:okB Tryz.prog Tryz.f186 lC=true:=aJ
theorem uI(h:dM (CX Y) t0 t1 (out v)):CP Y F.dM [t0,t1] v:=
 CP.of (fn:=Tryz.f186) (m:=9) (a:=lC) rfl (λ_=>rfl) Tryz.func186 uH (by rw[uJ];exact h)
def dT(C:CC)(a c d:V):aN:=λl h q=>cIQ .lss (ge l 0) d (bxQ h 1 a (ge l 0) λa=>b1Q h a λa=>cal C.p h c [a] λa h=>cnd a (q .ret [ge l 0] h) (bIQ .add (ge l 0) (I 1) λa=>q .normal [a] h)) (q (.exit 0) [] h)
def aY(C:CC)(a c:V)(q:kQ):Prop:=let h:Hp:=[]
 blQ a λd=>lp (dT C a c d) [] h [I 0] h (exK [((.exit 0),λa h=>q (I (-1)) h),(.ret,λa h=>q (ge a 0) h)])
theorem qm(h:aY (CX Y) t0 t1 (out v)):CP Y F.aY [t0,t1] v:=CPo 0 (aD (nCQ (aD (nCQ (.n (.l [8] [0,1,7] [((.exit 0),[],[]),(.ret,[4],[])] []) .o .o))))) Tryz.func159 h
def bb(C:CC)(a c:V)(q:kQ):Prop:=let h:Hp:=[]
 clQ C h F.aY [a,c] λa h=>bIQ .geq a (I 0) λa=>q a h
theorem pJ(h:bb (CX Y) t0 t1 (out v)):CP Y F.bb [t0,t1] v:=CPo 0 .o Tryz.func125 h
def nD(C:CC)(a c d:V):aN:=λl h q=>cIQ .lss (ge l 0) d (bxQ h 1 a (ge l 0) λa=>b1Q h a λa=>cal C.p h c [a] λa h=>cnd a (q .ret [ge l 0] h) (bIQ .add (ge l 0) (I 1) λa=>q .normal [a] h)) (q (.exit 0) [] h)
def cW(C:CC)(a c:V)(q:kQ):Prop:=let h:Hp:=[]
 blQ a λd=>lp (nD C a c d) [] h [I 0] h (exK [((.exit 0),λa h=>q (I (-1)) h),(.ret,λa h=>q (ge a 0) h)])
theorem nW(h:cW (CX Y) t0 t1 (out v)):CP Y F.cW [t0,t1] v:=CPo 0 (aD (nCQ (aD (nCQ (.n (.l [8] [0,1,7] [((.exit 0),[],[]),(.ret,[4],[])] []) .o .o))))) Tryz.func161 h
def aU(C:CC)(a c:V)(q:kQ):Prop:=let h:Hp:=[]
 clQ C h F.cW [a,c] λa h=>bIQ .geq a (I 0) λa=>q a h
theorem mN(h:aU (CX Y) t0 t1 (out v)):CP Y F.aU [t0,t1] v:=CPo 0 .o Tryz.func128 h
def aQ(C:CC)(a:V)(q:kQ):Prop:=let h:Hp:=[]
 bnd (oJ a) λc=>bIQ .gtr c (I 0) λc=>gqQ c true h a λd h=>gbQ c true h (ixS d (I 0)) λd h=>gbQ c true h (biI .eql d (.d (.int .u8 45))) λd h=>bpQ c d (B false) λc=>cnd c (bnd (slS a (some (I 1)) none) λa=>q (.tup [B true,a]) h) (q (.tup [B false,a]) h)
theorem GJ(h:aQ (CX Y) t0 (out v)):CP Y F.aQ [t0] v:=CPo 0 .o Tryz.func137 h
def nu(C:CC)(a:V)(q:kQ):Prop:=let h:Hp:=[]
 clQ C h F.aQ [a] λa h=>e2Q a λa c=>gqQ a true h c λd h=>gbQ a true h (biS .eql d (.d (.str [48]))) λd h=>bpQ a d (B false) λa=>gqQ a false h c λc h=>gd a false h (λq=>clQ C h F.kG [c] q) λc h=>gbQ a false h (biI .neq c (I 0)) λc h=>bpQ a (B true) c λa=>cnd a (q (I 2) h) (q (I 0) h)
theorem GL(h:nu (CX Y) t0 (out v)):CP Y F.nu [t0] v:=CPo 0 .o Tryz.func114 h
def dV(C:CC)(a:V)(q:kQ):Prop:=let h:Hp:=[]
 bSQ .eql a (.d (.str [48])) λc=>cnd c (q (I 0) h) (bnd (ixS a (I 0)) λa=>cIQ .eql a (.d (.int .u8 45)) (q (I (-1)) h) (q (I 1) h))
theorem I6(h:dV (CX Y) t0 (out v)):CP Y F.dV [t0] v:=CPo 0 .o Tryz.func115 h
def eH(C:CC)(a:V)(q:kQ):Prop:=let h:Hp:=[]
 clQ C h F.strconv_Itoa [a] q
theorem Eo(h:eH (CX Y) t0 (out v)):CP Y F.eH [t0] v:=CPo 0 .o Tryz.func89 h
def bD(C:CC)(a c:V)(q:kQ):Prop:=let h:Hp:=[]
 bnd (oJ a) λd=>cIQ .gtr d c (q (.tup [I 0,B false]) h) (clQ C h F.strconv_Atoi [a] λa h=>e2Q a λa c=>bnd (biF .eql c (.d (.pl .nilIface))) λc=>q (.tup [a,c]) h)
theorem sv(h:bD (CX Y) t0 t1 (out v)):CP Y F.bD [t0,t1] v:=CPo 0 .o Tryz.func136 h
def gE(C:CC)(a:V)(q:kQ):Prop:=let h:Hp:=[]
 clQ C h F.aQ [a] λa h=>e2Q a λa c=>q c h
theorem Cu(h:gE (CX Y) t0 (out v)):CP Y F.gE [t0] v:=CPo 0 .o Tryz.func117 h
def rM(C:CC):aN:=λl h q=>cIQ .neq (ge l 1) (I 0) (bIQ .rem (ge l 0) (ge l 1) λa=>q .normal [ge l 1,a] h) (q (.exit 0) [ge l 0] h)
def r9(C:CC)(a c:V)(q:kQ):Prop:=let h:Hp:=[]
 lp (rM C) [] h [a,c] h (exK [((.exit 0),λa h=>q (ge a 0) h)])
theorem KM(h:r9 (CX Y) t0 t1 (out v)):CP Y F.r9 [t0,t1] v:=CPo 0 (aD (nCQ (nCQ (.n (.l [0,1] [] [((.exit 0),[0],[])] []) .o .o)))) Tryz.func149 h
def po(C:CC)(a c:V)(q:kQ):Prop:=let h:Hp:=[]
 clQ C h F.gE [a] λa h=>clQ C h F.gE [c] λc h=>clQ C h F.bD [a,I 18] λd h=>e2Q d λd e=>jn (λd h=>clQ C h F.nP [a,c] q) λa=>cnd e (clQ C h F.bD [c,I 18] λc h=>e2Q c λc e=>cnd e (clQ C h F.r9 [d,c] λa h=>clQ C h F.eH [a] q) (a [] h)) (a [] h)
theorem KR(h:po (CX Y) t0 t1 (out v)):CP Y F.po [t0,t1] v:=CPo 0 (dP (nCQ (dP (nJQ [] [5,6])))) Tryz.func116 h
def ib(C:CC)(a:V)(q:kQ):Prop:=let h:Hp:=.replicate 1 nnQ
 ef 0 a h λa h=>bfQ 0 a λc=>b1Q h c λc=>clQ C h F.nu [c] λc h=>bIQ .neq c (I 0) λc=>jn (λc h=>cnd (ge c 0) (q (I 2) h) (bfQ 1 a λc=>b1Q h c λc=>clQ C h F.dV [c] λc h=>bIQ .leq c (I 0) λc=>jn (λa h=>cnd (ge a 0) (q (I 2) h) (q (I 0) h)) λd=>cnd c (d [c] h) (bfQ 0 a λc=>b1Q h c λc=>bfQ 1 a λa=>b1Q h a λa=>clQ C h F.po [c,a] λa h=>bSQ .neq a (.d (.str [49])) λa=>d [a] h))) λd=>cnd c (d [c] h) (bfQ 1 a λa=>b1Q h a λa=>clQ C h F.nu [a] λa h=>bIQ .neq a (I 0) λa=>d [a] h)
theorem B8(h:ib (CX Y) t0 (out v)):CP Y F.ib [t0] v:=CPo 1 (nBQ (nRQ [.slot 0]) (nCQ (nCQ (nBQ (aD (nJQ [3] [1])) (aD (nCQ (aD (nJQ [12] [])))))))) Tryz.func82 h
def mA(C:CC)(a:V)(q:kQ):Prop:=let h:Hp:=[]
 clQ C h F.aQ [a] λa h=>e2Q a λa c=>bnd (unV .not a) λa=>clQ C h F.cM [a,c] q
theorem KO(h:mA (CX Y) t0 (out v)):CP Y F.mA [t0] v:=CPo 0 .o Tryz.func135 h
def lI(C:CC)(a:V)(q:kQ):Prop:=let h:Hp:=[]
 clQ C h F.fE [a,I 10,I 64] λa h=>e2Q a λa c=>bnd (biF .neq c (.d (.pl .nilIface))) λc=>cnd c (q (.tup [I 0,B false]) h) (q (.tup [a,B true]) h)
theorem GK(h:lI (CX Y) t0 (out v)):CP Y F.lI [t0] v:=CPo 0 .o Tryz.func102 h
def fR(C:CC)(a c:V)(q:kQ):Prop:=let h:Hp:=[]
 clQ C h F.dV [a] λd h=>clQ C h F.dV [c] λe h=>cIQ .neq d e (cIQ .lss d e (q (I (-1)) h) (q (I 1) h)) (clQ C h F.aQ [a] λa h=>e2Q a λa d=>clQ C h F.aQ [c] λc h=>e2Q c λc e=>jn (λa h=>clQ C h F.cn [ge a 0,ge a 1] q) λc=>cnd a (c [e,d] h) (c [d,e] h))
theorem vL(h:fR (CX Y) t0 t1 (out v)):CP Y F.fR [t0,t1] v:=CPo 0 (SP (nCQ (aD (nJQ [8,10] [])))) Tryz.func107 h
def bO(C:CC)(a c:V)(q:kQ):Prop:=let h:Hp:=[]
 bSQ .eql c (.d (.str [48])) λd=>cnd d (q (.tup [(.d (.str [])),(.d (.str [])),I 17]) h) (clQ C h F.bD [a,I 18] λd h=>e2Q d λd e=>jn (λd h=>clQ C h F.aQ [a] λa h=>e2Q a λa d=>clQ C h F.aQ [c] λc h=>e2Q c λc e=>clQ C h F.d9 [d,e] λd h=>e3Q d λd f g=>nzQ g (q (.tup [(.d (.str [])),(.d (.str [])),g]) h) (bnd (biB .neq a c) λg=>gqQ g true h f λi h=>gbQ g true h (biS .neq i (.d (.str [48]))) λi h=>bpQ g i (B false) λg=>jn (λd h=>bnd (biB .neq a c) λa=>clQ C h F.cM [a,ge d 0] λa h=>clQ C h F.cM [c,ge d 1] λc h=>q (.tup [a,c,I 0]) h) λa=>cnd g (clQ C h F.gy [d,(.d (.str [49]))] λc h=>clQ C h F.ic [e,f] λd h=>e2Q d λd e=>a [c,d] h) (a [d,f] h))) λa=>cnd e (clQ C h F.bD [c,I 18] λc h=>e2Q c λc e=>cnd e (bIQ .quo d c λa=>bIQ .rem d c λd=>bIQ .neq d (I 0) λe=>gqQ e true h d λf h=>gbQ e true h (biI .lss f (I 0)) λf h=>gqQ e true h c λg h=>gbQ e true h (biI .lss g (I 0)) λg h=>gbQ e true h (biB .neq f g) λf h=>bpQ e f (B false) λe=>jn (λa h=>clQ C h F.eH [ge a 0] λc h=>clQ C h F.eH [ge a 1] λa h=>q (.tup [c,a,I 0]) h) λf=>cnd e (bIQ .sub a (I 1) λa=>bIQ .add d c λc=>f [a,c] h) (f [a,d] h)) (a [] h)) (a [] h))
def sy:Ann:=(dP (nBQ (dP (.n (.j [] [0,1]) (dP (nCQ (aD (nCQ (aD (nJQ [11,12] [])))))) .o)) (SP (nCQ (aD (nJQ [17,18] [13,15]))))))
theorem Er(C:CC)(t0:V)(t1:V)(q:kkQ):fnD Y C Tryz.f121 0 sy [t0,t1] q=bO C t0 t1 q:=by kernel_rfl
theorem Ep:okB Tryz.prog Tryz.f121 sy=true:=aJ
theorem wG(h:bO (CX Y) t0 t1 (out v)):CP Y F.bO [t0,t1] v:=
 CP.of (fn:=Tryz.f121) (m:=0) (a:=sy) rfl (λ_=>rfl) Tryz.func121 Ep (by rw[Er];exact h)
def qi(C:CC)(a c:V)(q:kQ):Prop:=let h:Hp:=[]
 clQ C h F.gE [a] λa h=>clQ C h F.gE [c] λc h=>clQ C h F.pG [a,c] q
theorem KQ(h:qi (CX Y) t0 t1 (out v)):CP Y F.qi [t0,t1] v:=CPo 0 .o Tryz.func144 h
def pG(C:CC)(a c:V)(q:kQ):Prop:=let h:Hp:=[]
 bSQ .eql a (.d (.str [48])) λd=>gqQ d false h c λe h=>gbQ d false h (biS .eql e (.d (.str [48]))) λe h=>bpQ d (B true) e λd=>cnd d (q (.d (.str [48])) h) (clQ C h F.nP [a,c] λd h=>clQ C h F.d9 [a,d] λa h=>e3Q a λa d e=>nzQ e (q (.d (.str [])) h) (clQ C h F.km [a,c] q))
theorem Hh(h:pG (CX Y) t0 t1 (out v)):CP Y F.pG [t0,t1] v:=CPo 0 .o Tryz.func176 h
def gv(C:CC)(a:V)(q:kQ):Prop:=let h:Hp:=[]
 bnd (oJ a) λc=>cIQ .gtr c (I 9) (q (.tup [I 0,B false]) h) (clQ C h F.strconv_Atoi [a] λa h=>e2Q a λa c=>bnd (biF .eql c (.d (.pl .nilIface))) λc=>q (.tup [a,c]) h)
theorem AD(h:gv (CX Y) t0 (out v)):CP Y F.gv [t0] v:=CPo 0 .o Tryz.func140 h
def dD(C:CC)(a:V)(q:kQ):Prop:=let h:Hp:=.replicate 1 nnQ
 ef 0 a h λa h=>bfQ 0 a λc=>b1Q h c λc=>clQ C h F.gv [c] λc h=>e2Q c λc d=>bfQ 1 a λa=>b1Q h a λa=>clQ C h F.gv [a] λa h=>e2Q a λa e=>gqQ d true h e λe h=>bpQ d e (B false) λd=>q (.tup [c,a,d]) h
theorem Dr(h:dD (CX Y) t0 (out v)):CP Y F.dD [t0] v:=CPo 1 (nCQ (nRQ [.slot 0])) Tryz.func106 h
def nO(C:CC):aN:=λl h q=>cIQ .neq (ge l 1) (I 0) (bIQ .rem (ge l 0) (ge l 1) λa=>q .normal [ge l 1,a] h) (q (.exit 0) [ge l 0] h)
def jj(C:CC)(a c:V)(q:kQ):Prop:=let h:Hp:=.replicate 1 nnQ
 alV 0 [.d (.str []),.d (.str [])] h λd h=>lp (nO C) [] h [a,c] h (exK [((.exit 0),λe h=>bIQ .lss (ge e 0) (I 0) λf=>jn (λe h=>bIQ .quo a (ge e 0) λa=>clQ C h F.strconv_Itoa [a] λa h=>bIQ .quo c (ge e 0) λc=>clQ C h F.strconv_Itoa [c] λc h=>bnd (bld [(0,1),(1,1)] [.str [],.str []] [(0,a),(1,c)]) λa=>stD h 2 d a λ_ h=>bnd (ldA h 2 d) λa=>q a h) λa=>cnd f (bnd (unV .neg (ge e 0)) λc=>a [c] h) (a [ge e 0] h))])
theorem G5(h:jj (CX Y) t0 t1 (out v)):CP Y F.jj [t0,t1] v:=CPo 1 (nBQ (nRQ [.slot 0]) (aD (nBQ (nCQ (.n (.l [5,6] [0,1,4] [((.exit 0),[5],[0,1,4])] []) .o .o)) (nCQ (aD (nJQ [5] [0,1,4])))))) Tryz.func147 h
def bj(C:CC)(a c:V)(q:kQ):Prop:=let h:Hp:=.replicate 1 nnQ
 alV 0 [.d (.str []),.d (.str [])] h λd h=>clQ C h F.dV [c] λe h=>bIQ .lss e (I 0) λe=>jn (λa h=>clQ C h F.po [ge a 0,ge a 1] λc h=>bSQ .neq c (.d (.str [49])) λe=>jn (λa h=>bnd (bld [(0,1),(1,1)] [.str [],.str []] [(0,(ge a 0)),(1,(ge a 1))]) λa=>stD h 2 d a λ_ h=>bnd (ldA h 2 d) λa=>q a h) λd=>cnd e (clQ C h F.bO [ge a 0,c] λe h=>e3Q e λe f g=>clQ C h F.bO [ge a 1,c] λa h=>e3Q a λa c f=>d [e,a] h) (d [ge a 0,ge a 1] h)) λd=>cnd e (clQ C h F.mA [a] λa h=>clQ C h F.mA [c] λc h=>d [a,c] h) (d [a,c] h)
theorem AC(h:bj (CX Y) t0 t1 (out v)):CP Y F.bj [t0,t1] v:=CPo 1 (nBQ (nRQ [.slot 0]) (nBQ (aD (nJQ [0,1] [4])) (nCQ (dP (nJQ [0,1] [4]))))) Tryz.func104 h
def fv(C:CC)(a c:V)(q:kQ):Prop:=let h:Hp:=.replicate 3 nnQ
 ef 0 a h λa h=>ef 1 c h λc h=>alV 2 [.d (.str []),.d (.str [])] h λd h=>bfQ 1 a λe=>b1Q h e λe=>bSQ .eql e (.d (.str [49])) λe=>gbQ e true h (faV 1 c) λf h=>gbQ e true h (ld1 h f) λf h=>gbQ e true h (biS .eql f (.d (.str [49]))) λf h=>bpQ e f (B false) λe=>cnd e (bfQ 0 a λa=>b1Q h a λa=>bfQ 0 c λc=>b1Q h c λc=>clQ C h F.kS [a,c] λa h=>bnd (bld [(0,1),(1,1)] [.str [],.str []] [(0,a),(1,(.d (.str [49])))]) λa=>stD h 2 d a λ_ h=>bnd (ldA h 2 d) λa=>q a h) (bnd (ldA h 2 a) λe=>clQ C h F.dD [e] λe h=>e3Q e λe f g=>jn (λe h=>bfQ 0 a λe=>b1Q h e λe=>bfQ 1 c λf=>b1Q h f λf=>clQ C h F.bN [e,f] λe h=>bfQ 0 c λf=>b1Q h f λf=>bfQ 1 a λg=>b1Q h g λg=>clQ C h F.bN [f,g] λf h=>clQ C h F.kS [e,f] λe h=>bfQ 1 a λa=>b1Q h a λa=>bfQ 1 c λc=>b1Q h c λc=>clQ C h F.bN [a,c] λa h=>clQ C h F.bj [e,a] λa h=>stD h 2 d a λ_ h=>bnd (ldA h 2 d) λa=>q a h) λa=>cnd g (bnd (ldA h 2 c) λc=>clQ C h F.dD [c] λc h=>e3Q c λc g i=>cnd i (bIQ .mul e g λa=>bIQ .mul c f λc=>bIQ .add a c λa=>bIQ .mul f g λc=>clQ C h F.jj [a,c] λa h=>stD h 2 d a λ_ h=>bnd (ldA h 2 d) λa=>q a h) (a [] h)) (a [] h))
def sZ:Ann:=(nBQ (nRQ [.slot 0,.slot 1,.slot 2]) (aD (nCQ (dP (nJQ [] [2,3,4])))))
theorem Ge(C:CC)(t0:V)(t1:V)(q:kkQ):fnD Y C Tryz.f112 3 sZ [t0,t1] q=fv C t0 t1 q:=by kernel_rfl
theorem Gc:okB Tryz.prog Tryz.f112 sZ=true:=aJ
theorem Gd(h:fv (CX Y) t0 t1 (out v)):CP Y F.fv [t0,t1] v:=
 CP.of (fn:=Tryz.f112) (m:=3) (a:=sZ) rfl (λ_=>rfl) Tryz.func112 Gc (by rw[Ge];exact h)
def kf(C:CC)(a c:V)(q:kQ):Prop:=let h:Hp:=.replicate 3 nnQ
 ef 0 a h λa h=>ef 1 c h λc h=>alV 2 [.d (.str []),.d (.str [])] h λd h=>bnd (ldA h 2 a) λe=>clQ C h F.dD [e] λe h=>e3Q e λe f g=>jn (λe h=>bfQ 0 a λe=>b1Q h e λe=>bfQ 0 c λf=>b1Q h f λf=>clQ C h F.bN [e,f] λe h=>bfQ 1 a λa=>b1Q h a λa=>bfQ 1 c λc=>b1Q h c λc=>clQ C h F.bN [a,c] λa h=>clQ C h F.bj [e,a] λa h=>stD h 2 d a λ_ h=>bnd (ldA h 2 d) λa=>q a h) λa=>cnd g (bnd (ldA h 2 c) λc=>clQ C h F.dD [c] λc h=>e3Q c λc g i=>cnd i (bIQ .mul e c λa=>bIQ .mul f g λc=>clQ C h F.jj [a,c] λa h=>stD h 2 d a λ_ h=>bnd (ldA h 2 d) λa=>q a h) (a [] h)) (a [] h)
theorem Ga(h:kf (CX Y) t0 t1 (out v)):CP Y F.kf [t0,t1] v:=CPo 3 (nBQ (nRQ [.slot 0,.slot 1,.slot 2]) (nCQ (dP (nJQ [] [2,3,4])))) Tryz.func119 h
def mK(C:CC)(a:V)(q:kQ):Prop:=let h:Hp:=.replicate 1 nnQ
 ef 0 a h λa h=>bfQ 0 a λa=>b1Q h a λa=>clQ C h F.dV [a] q
theorem Dt(h:mK (CX Y) t0 (out v)):CP Y F.mK [t0] v:=CPo 1 (nCQ (nRQ [.slot 0])) Tryz.func103 h
def kh(C:CC)(a c:V)(q:kQ):Prop:=let h:Hp:=.replicate 3 nnQ
 ef 0 a h λa h=>ef 1 c h λc h=>alV 2 [.d (.str []),.d (.str [])] h λd h=>bnd (ldA h 2 c) λe=>clQ C h F.mK [e] λe h=>cIQ .eql e (I 0) (bnd (bld [(0,1),(1,1)] [.str [],.str []] []) λa=>stD h 2 d a λ_ h=>bnd (ldA h 2 d) λa=>q (.tup [a,I 17]) h) (bfQ 0 a λe=>b1Q h e λe=>bfQ 1 c λf=>b1Q h f λf=>clQ C h F.bN [e,f] λe h=>bfQ 1 a λa=>b1Q h a λa=>bfQ 0 c λc=>b1Q h c λc=>clQ C h F.bN [a,c] λa h=>clQ C h F.bj [e,a] λa h=>stD h 2 d a λ_ h=>bnd (ldA h 2 d) λa=>q (.tup [a,I 0]) h)
theorem Gb(h:kh (CX Y) t0 t1 (out v)):CP Y F.kh [t0,t1] v:=CPo 3 (nCQ (nRQ [.slot 0,.slot 1,.slot 2])) Tryz.func72 h
def ot(C:CC)(a c:V)(q:kQ):Prop:=let h:Hp:=.replicate 1 nnQ
 alV 0 [.d (.str []),.d (.str [])] h λd h=>clQ C h F.dV [c] λe h=>cIQ .eql e (I 0) (bnd (bld [(0,1),(1,1)] [.str [],.str []] []) λa=>stD h 2 d a λ_ h=>bnd (ldA h 2 d) λa=>q (.tup [a,I 17]) h) (clQ C h F.bj [a,c] λa h=>stD h 2 d a λ_ h=>bnd (ldA h 2 d) λa=>q (.tup [a,I 0]) h)
theorem F8(h:ot (CX Y) t0 t1 (out v)):CP Y F.ot [t0,t1] v:=CPo 1 (nCQ (nRQ [.slot 0])) Tryz.func88 h
def d7(C:CC)(a c:V)(q:kQ):Prop:=let h:Hp:=.replicate 1 nnQ
 alV 0 [.d (.str []),.d (.str [])] h λd h=>clQ C h F.eH [a] λa h=>clQ C h F.eH [c] λc h=>clQ C h F.ot [a,c] λa h=>e2Q a λa c=>stD h 2 d a λ_ h=>bnd (ldA h 2 d) λa=>q (.tup [a,c]) h
theorem G6(h:d7 (CX Y) t0 t1 (out v)):CP Y F.d7 [t0,t1] v:=CPo 1 (nCQ (nRQ [.slot 0])) Tryz.func54 h
def oW(C:CC)(a c d:V):aN:=λl h q=>cIQ .lss (ge l 0) d (bxQ h 2 c (ge l 0) λc=>bnd (ldA h 2 c) λc=>alV 2 [.d (.str []),.d (.str [])] h λd h=>stD h 2 d c λ_ h=>bfQ 2 a λc=>b1Q h c λc=>bfQ 1 d λd=>b1Q h d λd=>clQ C h F.qi [c,d] λc h=>bfQ 2 a λa=>stD h 1 a c λ_ h=>bIQ .add (ge l 0) (I 1) λa=>q .normal [a] h) (q (.exit 0) [] h)
def mg(C:CC)(a c d e:V):aN:=λl h q=>cIQ .lss (ge l 0) e (jn (λa h=>bIQ .add (ge l 0) (I 1) λa=>q .normal [a] h) λe=>bxQ h 2 d (ge l 0) λd=>bnd (ldA h 2 d) λd=>alV 3 [.d (.str []),.d (.str [])] h λf h=>stD h 2 f d λ_ h=>bfQ 0 f λd=>b1Q h d λd=>bSQ .neq d (.d (.str [48])) λd=>jn (λa h=>e [] h) λe=>cnd d (bfQ 2 c λd=>b1Q h d λd=>bfQ 1 f λg=>b1Q h g λg=>clQ C h F.bO [d,g] λd h=>e3Q d λd g i=>bfQ 0 c λg=>sm h c g<|b1Q h g λg=>bxQ h 1 a (ge l 0) λa=>b1Q h a λa=>cY 1 [.int .i64 0] [(0,a)] h λa h=>sp h g [c,f]<|apV false 4 1 8 g a h λa h=>bfQ 1 c λg=>sm h c g<|b1Q h g λg=>bfQ 0 f λi=>sm h f i<|b1Q h i λf=>clQ C h F.bN [f,d] λd h=>cY 1 [.str []] [(0,d)] h λd h=>apV false 5 1 16 g d h λd h=>bfQ 0 c λf=>stD h 1 f a λ_ h=>bfQ 1 c λa=>stD h 1 a d λ_ h=>e [] h) (e [] h)) (q (.exit 2) [] h)
def lW(C:CC)(a c:V)(q:kQ):Prop:=let h:Hp:=.replicate 6 nnQ
 alV 0 [.d nPQ,.d nPQ,.d (.str [])] h λd h=>bnd (bld [(0,1),(1,1),(2,1)] [nPQ,nPQ,.str []] [(2,(.d (.str [49])))]) λe=>alV 1 [.d nPQ,.d nPQ,.d (.str [])] h λf h=>stD h 3 f e λ_ h=>blQ c λe=>lp (oW C f c e) [2] h [I 0] h (exK [((.exit 0),λe h=>blQ c λe=>lp (mg C a f c e) [3] h [I 0] h (exK [((.exit 2),λa h=>bnd (ldA h 3 f) λa=>stD h 3 d a λ_ h=>bnd (ldA h 3 d) λa=>q a h)]))])
def sR:Ann:=(nBQ (nRQ [.slot 0]) (nBQ (nRQ [.slot 1]) (nBQ (aD (nCQ (.n (.l [16] [0,1,4,5,14,15] [((.exit 0),[],[0,1,4,5])] [2]) (dP (nCQ (nCQ (nCQ (nRQ [.slot 2]))))) .o))) (nCQ (aD (nCQ (.n (.l [29] [0,4,5,27,28] [((.exit 2),[],[4,5])] [3]) (dP (nCQ (.n (.j [] [0,4,5,27,28,29]) (nBQ (nRQ [.slot 3]) (aD (.n (.j [] [0,4,5,27,28,29]) (aD (nRQ [.o,.slot 4,.o,.o,.slot 5])) .o))) .o))) .o)))))))
theorem EL(C:CC)(t0:V)(t1:V)(q:kkQ):fnD Y C Tryz.f109 6 sR [t0,t1] q=lW C t0 t1 q:=by kernel_rfl
theorem EJ:okB Tryz.prog Tryz.f109 sR=true:=aJ
theorem EK(h:lW (CX Y) t0 t1 (out v)):CP Y F.lW [t0,t1] v:=
 CP.of (fn:=Tryz.f109) (m:=6) (a:=sR) rfl (λ_=>rfl) Tryz.func109 EJ (by rw[EL];exact h)
def jz(C:CC)(a:V)(q:kQ):Prop:=let h:Hp:=.replicate 1 nnQ
 ef 0 a h λa h=>q (.fn F.dO [] [a]) h
theorem Bu(h:jz (CX Y) t0 (out v)):CP Y F.jz [t0] v:=CPo 1 (nCQ (nRQ [.slot 0])) Tryz.func178 h
def dW(C:CC)(a c d e:V):IU:=λl h q=>
 clQ C h F.lI [ge l 1] λf h=>
 ext f 0 λg=>
 ext f 1 λf=>
 bnd (unV .not f) λf=>
 gqQ f false h g λi h=>
 gbQ f false h (ld1 h a) λj h=>
 gbQ f false h (biI .gtr i j) λi h=>
 bpQ f (B true) i λf=>
 gqQ f false h g λi h=>
 gbQ f false h (ld1 h a) λa h=>
 gbQ f false h (unV .neg a) λa h=>
 gbQ f false h (biI .lss i a) λa h=>
 bpQ f (B true) a λa=>
 cnd a (
 stD h 1 c (I 0) λ_ h=>
 stD h 1 d (I 0) λ_ h=>
 stD h 1 e (B false) λ_ h=>
 q .ret h) (
 clQ C h F.sj [ge l 0] λa h=>
 ext a 0 λf=>
 ext a 1 λa=>
 bnd (unV .not a) λa=>
 cnd a (
 stD h 1 c (I 0) λ_ h=>
 stD h 1 d (I 0) λ_ h=>
 stD h 1 e (B false) λ_ h=>
 q .ret h) (
 bIQ .add f (I 1) λa=>
 bIQ .eql (ge l 0) (I 2) λe=>
 jn (λa h=>
 b1Q h c λe=>
 bIQ .mul g f λi=>
 bIQ .mul g (ge a 0) λj=>
 bnd (mxI false [i,j]) λi=>
 bIQ .add e i λe=>
 b1Q h d λi=>
 bIQ .mul g f λf=>
 bIQ .mul g (ge a 0) λa=>
 bnd (mxI true [f,a]) λa=>
 bIQ .add i a λa=>
 sp h c [d]<|stD h 1 c e λ_ h=>
 stD h 1 d a λ_ h=>
 q .normal h) λc=>
 cnd e (
 c [f] h) (
 c [a] h)))
def gn(C:CC)(a c:V)(q:kQ):Prop:=let h:Hp:=.replicate 5 nnQ
 ef 0 a h λa h=>ef 1 c h λc h=>alV 2 [.d (.int .i64 0)] h λd h=>alV 3 [.d (.int .i64 0)] h λe h=>alV 4 [.d (.bool false)] h λf h=>bnd (ldA h 3 a) λa=>clQ C h F.jz [a] λa h=>rgO (sqV Y.seq a) 2 (dW C c d e f) [] h (λex h=>exK [(.ret,λ_ h=>b1Q h d λa=>b1Q h e λc=>b1Q h f λd=>q (.tup [a,c,d]) h),(.normal,λ_ h=>b1Q h d λa=>b1Q h e λc=>sp h d [e]<|stD h 1 d a λ_ h=>stD h 1 e c λ_ h=>stD h 1 f (B true) λ_ h=>b1Q h d λa=>b1Q h e λc=>b1Q h f λd=>q (.tup [a,c,d]) h)] ex [] h)
def pR:Ann:=(nBQ (nRQ [.slot 0,.slot 1,.slot 2,.slot 3,.slot 4]) (nCQ (aD (nCQ (.n (.l [] [3,4,5,6] [(.ret,[],[4,5,6]),(.normal,[],[4,5,6])] []) .o (nCQ (aeg (nCQ (aD (nJQ [13] [4,5,9,11]))))))))))
theorem zN(C:CC)(t0:V)(t1:V)(q:kkQ):fnD Y C Tryz.f177 5 pR [t0,t1] q=gn C t0 t1 q:=by kernel_rfl
theorem zL:okB Tryz.prog Tryz.f177 pR=true:=aJ
theorem zM(h:gn (CX Y) t0 t1 (out v)):CP Y F.gn [t0,t1] v:=
 CP.of (fn:=Tryz.f177) (m:=5) (a:=pR) rfl (λ_=>rfl) Tryz.func177 zL (by rw[zN];exact h)
def gI(C:CC)(a:V)(q:kQ):Prop:=let h:Hp:=.replicate 1 nnQ
 ef 0 a h λa h=>bnd (ldA h 3 a) λa=>clQ C h F.gn [a,I 10000000] λa h=>e3Q a λa c d=>bnd (unV .not d) λd=>cnd d (q (I 0) h) (cIQ .geq a (I 0) (q (I 1) h) (cIQ .leq c (I 0) (q (I (-1)) h) (q (I 0) h)))
theorem yL(h:gI (CX Y) t0 (out v)):CP Y F.gI [t0] v:=CPo 1 (nCQ (nRQ [.slot 0])) Tryz.func145 h
def yK(C:CC)(a:V):aN:=λl h q=>bnd (ldA h 3 a) λa=>clQ C h F.C7 [a,ge l 0] λa h=>e2Q a λa c=>clQ C h F.dV [a] λa h=>cIQ .geq a (I 0) (q .ret [I 1] h) (clQ C h F.dV [c] λa h=>cIQ .leq a (I 0) (q .ret [I (-1)] h) (bIQ .mul (ge l 0) (I 2) λa=>q .normal [a] h))
def gm(C:CC)(a:V)(q:kQ):Prop:=let h:Hp:=.replicate 1 nnQ
 ef 0 a h λa h=>bfQ 0 a λc=>b1Q h c λc=>blQ c λc=>cIQ .eql c (I 0) (q (I 0) h) (bnd (ldA h 3 a) λc=>clQ C h F.gI [c] λc h=>nzQ c (q c h) (lp (yK C a) [] h [I 64] h (exK [(.ret,λa h=>q (ge a 0) h)])))
theorem zK(h:gm (CX Y) t0 (out v)):CP Y F.gm [t0] v:=CPo 1 (nBQ (nRQ [.slot 0]) (nCQ (SP (nCQ (.n (.l [4] [1] [(.ret,[2],[])] []) .o .o))))) Tryz.func111 h
def rQ(C:CC):aN:=λl h q=>cIQ .lss (ge l 3) (I 26) (jn (λa h=>bIQ .add (ge l 3) (I 1) λc=>q .normal [ge a 0,ge a 1,ge a 2,c] h) λa=>clQ C h F.dw [ge l 0,ge l 0] λc h=>e2Q c λc d=>bIQ .shl c (.d (.int .u64 2)) λc=>bIQ .shr d (.d (.int .u64 62)) λd=>bIQ .or c d λc=>clQ C h F.dw [ge l 1,ge l 1] λd h=>e2Q d λd e=>bIQ .shl d (.d (.int .u64 2)) λd=>bIQ .shr e (.d (.int .u64 62)) λe=>bIQ .or d e λd=>bIQ .add d (.d (.int .u64 1)) λd=>bIQ .mul (ge l 2) (I 2) λe=>bIQ .geq c (.d (.int .u64 9223372036854775808)) λf=>jn (λc h=>a [ge c 1,ge c 2,ge c 0] h) λa=>cnd f (bIQ .add e (I 1) λe=>bIQ .shr c (.d (.int .u64 1)) λc=>bIQ .shr d (.d (.int .u64 1)) λd=>bIQ .add d (.d (.int .u64 1)) λd=>a [e,c,d] h) (cIQ .geq d (.d (.int .u64 9223372036854775808)) (q .ret [I 0,B false] h) (a [e,c,d] h))) (q (.exit 0) [ge l 2] h)
def sj(C:CC)(a:V)(q:kQ):Prop:=let h:Hp:=[]
 bnd (cvI .u64 a) λc=>clQ C h F.mI [c] λc h=>bIQ .sub c (I 1) λc=>bnd (cvI .u64 a) λa=>bIQ .sub (I 62) c λd=>bIQ .shl a d λa=>lp (rQ C) [] h [a,a,c,I 0] h (exK [((.exit 0),λa h=>q (.tup [ge a 0,B true]) h),(.ret,λa h=>q (.tup [ge a 0,ge a 1]) h)])
theorem Lq(h:sj (CX Y) t0 (out v)):CP Y F.sj [t0] v:=CPo 0 (aeg (nCQ (aD (nCQ (.n (.l [5,6,7,21] [] [((.exit 0),[7],[]),(.ret,[2,3],[])] []) (dP (nCQ (.n (.j [5,6,7] [21]) (af5 (nJQ [7,5,6] [21])) .o))) .o))))) Tryz.func203 h
def lj(C:CC)(a:V)(q:kQ):Prop:=let h:Hp:=[]
 clQ C h F.pw [a] λc h=>nzQ c (q (.tup [B false,c]) h) (clQ C h F.lh [a] λa h=>q (.tup [a,I 0]) h)
theorem B6(h:lj (CX Y) t0 (out v)):CP Y F.lj [t0] v:=CPo 0 .o Tryz.func58 h
def nj(C:CC)(a c d:V):aN:=λl h q=>cIQ .lss (ge l 1) d (bxQ h 1 c (ge l 1) λc=>b1Q h c λc=>alV 0 [.d nPQ] h λd h=>stD h 1 d c λ_ h=>b1Q h d λc=>clQ C h F.mJ [c] λc h=>alV 1 [.d (.int .i64 0)] h λe h=>stD h 1 e c λ_ h=>b1Q h e λc=>bIQ .leq c (ge l 0) λc=>gbQ c false h (ld1 h d) λf h=>gbQ c false h (ld1 h e) λg h=>gbQ c false h (ixV h 1 f g) λf h=>gbQ c false h (ld1 h f) λf h=>gbQ c false h (biI .lss f (I 0)) λf h=>bpQ c (B true) f λc=>cnd c (q .ret [B false] h) (bnd (slV h 1 a none (some (ge l 1))) λa=>clQ C h F.aU [a,(.fn F.fe [] [e,d])] λa h=>cnd a (q .ret [B false] h) (b1Q h e λa=>bIQ .add (ge l 1) (I 1) λc=>q .normal [a,c] h))) (q (.exit 0) [] h)
def lh(C:CC)(a:V)(q:kQ):Prop:=let h:Hp:=.replicate 2 nnQ
 blQ a λc=>lp (nj C a a c) [0,1] h [I (-1),I 0] h (exK [((.exit 0),λa h=>q (B true) h),(.ret,λa h=>q (ge a 0) h)])
theorem B5(h:lh (CX Y) t0 (out v)):CP Y F.lh [t0] v:=CPo 2 (dP (nCQ (aD (nCQ (.n (.l [3,9] [0,7,8] [((.exit 0),[],[]),(.ret,[2],[])] [0,1]) (dP (nCQ (nCQ (nBQ (nRQ [.slot 0]) (nCQ (nRQ [.o,.slot 1])))))) .o))))) Tryz.func93 h
def fe(C:CC)(a c d:V)(q:kQ):Prop:=let h:Hp:=[]
 b1Q h c λe=>bxQ h 1 a e λe=>b1Q h e λe=>bIQ .lss e (I 0) λe=>gqQ e false h a λa h=>gbQ e false h (ld1 h c) λf h=>gbQ e false h (ixV h 1 a f) λa h=>gbQ e false h (ld1 h a) λa h=>gbQ e false h (ld1 h d) λd h=>gbQ e false h (ld1 h c) λc h=>gbQ e false h (ixV h 1 d c) λc h=>gbQ e false h (ld1 h c) λc h=>gbQ e false h (biI .geq a c) λa h=>bpQ e (B true) a λa=>q a h
theorem yp(h:fe (CX Y) t0 t1 t2 (out v)):CP Y F.fe [t0,t1,t2] v:=CPo 0 .o Tryz.func129 h
def mJ(C:CC)(a:V)(q:kQ):Prop:=let h:Hp:=[]
 clQ C h F.aY [a,(.fn F.jt [] [])] q
theorem Dq(h:mJ (CX Y) t0 (out v)):CP Y F.mJ [t0] v:=CPo 0 .o Tryz.func127 h
def jt(C:CC)(a:V)(q:kQ):Prop:=let h:Hp:=[]
 bIQ .neq a (I 0) λa=>q a h
theorem zh(h:jt (CX Y) t0 (out v)):CP Y F.jt [t0] v:=CPo 0 .o Tryz.func160 h
def pO(C:CC)(a c d:V):aN:=λl h q=>cIQ .lss (ge l 0) d (bxQ h 1 c (ge l 0) λc=>b1Q h c λc=>blQ c λd=>cIQ .gtr d (I 12) (q .ret [I 4] h) (blQ c λd=>bxQ h 1 a (I 0) λa=>b1Q h a λa=>blQ a λa=>cIQ .neq d a (q .ret [I 5] h) (clQ C h F.bb [c,(.fn F.pu [] [])] λa h=>cnd a (q .ret [I 4] h) (bIQ .add (ge l 0) (I 1) λa=>q .normal [a] h)))) (q (.exit 0) [] h)
def pw(C:CC)(a:V)(q:kQ):Prop:=let h:Hp:=[]
 blQ a λc=>cIQ .gtr c (I 12) (q (I 4) h) (blQ a λc=>lp (pO C a a c) [] h [I 0] h (exK [((.exit 0),λa h=>q (I 0) h),(.ret,λa h=>q (ge a 0) h)]))
theorem GR(h:pw (CX Y) t0 (out v)):CP Y F.pw [t0] v:=CPo 0 (dP (nCQ (aD (nCQ (.n (.l [10] [0,8,9] [((.exit 0),[],[]),(.ret,[2],[])] []) .o .o))))) Tryz.func92 h
def pu(C:CC)(a:V)(q:kQ):Prop:=let h:Hp:=[]
 bIQ .gtr a (I 1000000000) λc=>gqQ c false h a λa h=>gbQ c false h (biI .lss a (I (-1000000000))) λa h=>bpQ c (B true) a λa=>q a h
theorem GQ(h:pu (CX Y) t0 (out v)):CP Y F.pu [t0] v:=CPo 0 .o Tryz.func126 h
def oX(C:CC)(a c d:V):aN:=λl h q=>cIQ .lss (ge l 0) d (bxQ h 1 c (ge l 0) λc=>b1Q h c λc=>clQ C h F.pC [c] λd h=>nzQ d (q .ret [d] h) (blQ c λc=>cIQ .neq c a (q .ret [I 5] h) (bIQ .add (ge l 0) (I 1) λa=>q .normal [a] h))) (q (.exit 0) [] h)
def oe(C:CC)(a c:V)(q:kQ):Prop:=let h:Hp:=[]
 blQ a λd=>lp (oX C c a d) [] h [I 0] h (exK [((.exit 0),λa h=>q (I 0) h),(.ret,λa h=>q (ge a 0) h)])
theorem EX(h:oe (CX Y) t0 t1 (out v)):CP Y F.oe [t0,t1] v:=CPo 0 (aD (nCQ (aD (nCQ (.n (.l [10] [1,8,9] [((.exit 0),[],[]),(.ret,[4],[])] []) .o .o))))) Tryz.func91 h
def sd(C:CC)(a c:V)(q:kQ):Prop:=let h:Hp:=[]
 clQ C h F.mA [c] λc h=>clQ C h F.kS [a,c] q
theorem KN(h:sd (CX Y) t0 t1 (out v)):CP Y F.sd [t0,t1] v:=CPo 0 .o Tryz.func156 h
def m8(C:CC)(b:Nat)(a c:V):aN:=λl h q=>cIQ .lss (ge l 1) c (bxQ h 1 a (ge l 1) λa=>b1Q h a λa=>clQ C h F.eH [a] λa h=>cY 1 [.str []] [(0,a)] h λa h=>apV false (b+1) 1 16 (ge l 0) a h λa h=>bIQ .add (ge l 1) (I 1) λc=>q .normal [a,c] h) (q (.exit 0) [ge l 0] h)
def fW(C:CC)(b:Nat)(h:Hp)(a:V)(q:kQ):Prop:=let h:Hp:=h++List.replicate 2 nnQ
 blQ a λc=>mkS (b+0) 16 [.str []] h (I 0) c λc h=>blQ a λd=>lp (m8 C b a d) [] h [c,I 0] h (exK [((.exit 0),λa h=>q (ge a 0) h)])
def qx(b:Nat):Ann:=(.n .x .o (.n .x (.n (.r [.slot (b+0)]) .o .o) (.n .x (.n .x .o (.n .x (.n (.l [3,11] [9,10] [((.exit 0),[3],[])] []) (.n .x .o (.n .x .o (.n .x (.n .x (.n .x .o (.n (.r [.o,.o,.slot (b+1)]) .o .o)) .o) .o))) .o) .o)) .o)))
theorem BW(C:CC)(h:Hp)(t0:V)(q:kkQ):fnI Y C Tryz.f94 2 qx [t0] h q=fW C h.length h t0 q:=by rfl
theorem BU(b:Nat):okB Tryz.prog Tryz.f94 (qx b)=true:=by rfl
theorem BV(hh:fW (CX Y) h.length h t0 (mi h.length v h2)):CI Y F.fW [t0] h v h2:=
 CI.of (fn:=Tryz.f94) (m:=2) (a:=qx) rfl (λ_=>rfl) Tryz.func94 (BU _) (by rw[BW];exact hh)
def kt(C:CC)(b:Nat)(h:Hp)(a:V)(q:kQ):Prop:=let h:Hp:=h++List.replicate 2 nnQ
 mkS (b+0) 8 [.int .i64 0] h a a λa h=>ciQ C h F.fW [a] (b+1) q
def rG(b:Nat):Ann:=(.n .x .o (.n .x (.n (.r [.slot (b+0),.inl (b+1)]) .o .o) .o))
theorem Dl(C:CC)(h:Hp)(t0:V)(q:kkQ):fnI Y C Tryz.f95 2 rG [t0] h q=kt C h.length h t0 q:=by rfl
theorem Dj(b:Nat):okB Tryz.prog Tryz.f95 (rG b)=true:=by rfl
theorem Dk(hh:kt (CX Y) h.length h t0 (mi h.length v h2)):CI Y F.kt [t0] h v h2:=
 CI.of (fn:=Tryz.f95) (m:=2) (a:=rG) rfl (λ_=>rfl) Tryz.func95 (Dj _) (by rw[Dl];exact hh)
def j9(C:CC)(b:Nat)(a c d e:V):aN:=λl h q=>cIQ .lss (ge l 0) e (bxQ h 1 d (ge l 0) λd=>b1Q h d λd=>bxQ h 1 a (ge l 0) λe=>b1Q h e λe=>clQ C h F.bN [c,d] λc h=>clQ C h F.sd [e,c] λc h=>bxQ h 1 a (ge l 0) λa=>stD h 1 a c λ_ h=>bIQ .add (ge l 0) (I 1) λa=>q .normal [a] h) (q (.exit 0) [] h)
def fc(C:CC)(b:Nat)(h:Hp)(a c d:V)(q:kQ):Prop:=let h:Hp:=h++List.replicate 0 nnQ
 bSQ .eql c (.d (.str [48])) λe=>cnd e (q (.tup []) h) (blQ d λe=>lp (j9 C b a c d e) [] h [I 0] h (exK [((.exit 0),λa h=>q (.tup []) h)]))
def oL(b:Nat):Ann:=(.n .x .o (.n .x .o (.n .x (.n (.l [12] [0,1,10,11] [((.exit 0),[],[])] []) .o .o) .o)))
theorem yn(C:CC)(h:Hp)(t0:V)(t1:V)(t2:V)(q:kkQ):fnI Y C Tryz.f122 0 oL [t0,t1,t2] h q=fc C h.length h t0 t1 t2 q:=by rfl
theorem yk(b:Nat):okB Tryz.prog Tryz.f122 (oL b)=true:=by rfl
theorem yl(hh:fc (CX Y) h.length h t0 t1 t2 (mi h.length v h2)):CI Y F.fc [t0,t1,t2] h v h2:=
 CI.of (fn:=Tryz.f122) (m:=0) (a:=oL) rfl (λ_=>rfl) Tryz.func122 (yk _) (by rw[yn];exact hh)
def iX(C:CC)(b:Nat)(a c d:V):aN:=λl h q=>cIQ .lss (ge l 0) d (bxQ h 1 c (ge l 0) λc=>b1Q h c λc=>clQ C h F.mA [c] λc h=>bxQ h 1 a (ge l 0) λa=>stD h 1 a c λ_ h=>bIQ .add (ge l 0) (I 1) λa=>q .normal [a] h) (q (.exit 0) [] h)
def eW(C:CC)(b:Nat)(h:Hp)(a:V)(q:kQ):Prop:=let h:Hp:=h++List.replicate 0 nnQ
 blQ a λc=>lp (iX C b a a c) [] h [I 0] h (exK [((.exit 0),λa h=>q (.tup []) h)])
def mQ(b:Nat):Ann:=(.n .x .o (.n .x (.n (.l [6] [0,4,5] [((.exit 0),[],[])] []) .o .o) .o))
theorem wg(C:CC)(h:Hp)(t0:V)(q:kkQ):fnI Y C Tryz.f123 0 mQ [t0] h q=eW C h.length h t0 q:=by rfl
theorem wd(b:Nat):okB Tryz.prog Tryz.f123 (mQ b)=true:=by rfl
theorem we(hh:eW (CX Y) h.length h t0 (mi h.length v h2)):CI Y F.eW [t0] h v h2:=
 CI.of (fn:=Tryz.f123) (m:=0) (a:=mQ) rfl (λ_=>rfl) Tryz.func123 (wd _) (by rw[wg];exact hh)
def gC(C:CC)(b:Nat)(a c:V):aN:=λl h q=>blQ a λd=>cIQ .lss (ge l 1) d (jn (λa h=>bIQ .add (ge l 1) (I 1) λc=>q .normal [ge a 0,c] h) λd=>bxQ h 1 a (ge l 1) λe=>b1Q h e λe=>bxQ h 1 e c λe=>b1Q h e λe=>bSQ .neq e (.d (.str [48])) λe=>gqQ e true h (ge l 0) λf h=>gbQ e true h (biI .lss f (I 0)) λf h=>gqQ e true h f λf h=>gqQ f false h a λg h=>gqQ f false h (ge l 1) λi h=>gbQ f false h (ixV h 1 g i) λg h=>gbQ f false h (ld1 h g) λg h=>gqQ f false h c λi h=>gbQ f false h (ixV h 1 g i) λg h=>gbQ f false h (ld1 h g) λg h=>gd f false h (λq=>clQ C h F.gE [g] q) λg h=>gqQ f false h a λa h=>gqQ f false h (ge l 0) λi h=>gbQ f false h (ixV h 1 a i) λa h=>gbQ f false h (ld1 h a) λa h=>gqQ f false h c λc h=>gbQ f false h (ixV h 1 a c) λa h=>gbQ f false h (ld1 h a) λa h=>gd f false h (λq=>clQ C h F.gE [a] q) λa h=>gd f false h (λq=>clQ C h F.fR [g,a] q) λa h=>gbQ f false h (biI .lss a (I 0)) λa h=>gbQ e true h (nL f (B true) a) λa h=>bpQ e a (B false) λa=>jn (λa h=>d [ge a 0] h) λc=>cnd a (c [ge l 1] h) (c [ge l 0] h)) (q (.exit 4) [ge l 0] h)
def jL(C:CC)(b:Nat)(a c d:V):aN:=λl h q=>blQ a λe=>cIQ .lss (ge l 1) e (bxQ h 1 a (ge l 1) λe=>b1Q h e λe=>bxQ h 1 e d λe=>b1Q h e λe=>bxQ h 1 a c λf=>b1Q h f λf=>bxQ h 1 f d λd=>b1Q h d λd=>clQ C h F.bO [e,d] λd h=>e3Q d λd e f=>bxQ h 1 a (ge l 1) λf=>b1Q h f λf=>bxQ h 1 a c λa=>b1Q h a λa=>ciQ C h F.fc [f,d,a] (b+0) λa h=>gqQ (ge l 0) false h e λa h=>gbQ (ge l 0) false h (biS .neq a (.d (.str [48]))) λa h=>bpQ (ge l 0) (B true) a λa=>bIQ .add (ge l 1) (I 1) λc=>q .normal [a,c] h) (q (.exit 6) [ge l 0] h)
def gB(C:CC)(b:Nat)(a c d e:V):aN:=λl h q=>cIQ .lss (ge l 0) e (bxQ h 1 a (ge l 0) λe=>b1Q h e λe=>bxQ h 1 e d λe=>b1Q h e λe=>bxQ h 1 a c λf=>b1Q h f λf=>bxQ h 1 f d λd=>b1Q h d λd=>clQ C h F.bO [e,d] λd h=>e3Q d λd e f=>bxQ h 1 a (ge l 0) λe=>b1Q h e λe=>bxQ h 1 a c λa=>b1Q h a λa=>ciQ C h F.fc [e,d,a] (b+2) λa h=>bIQ .add (ge l 0) (I 1) λa=>q .normal [a] h) (q (.exit 8) [] h)
def mP(C:CC)(b:Nat)(a c:V):aN:=λl h q=>lp (gC C b a c) [] h [I (-1),ge l 0] h (exK [((.exit 4),λd h=>cIQ .lss (ge d 0) (I 0) (q (.exit 2) [ge l 0] h) (bxQ h 1 a (ge d 0) λe=>b1Q h e λe=>bxQ h 1 a (ge l 0) λf=>b1Q h f λf=>bxQ h 1 a (ge l 0) λg=>stD h 1 g e λ_ h=>bxQ h 1 a (ge d 0) λd=>stD h 1 d f λ_ h=>bIQ .add (ge l 0) (I 1) λd=>lp (jL C b a (ge l 0) c) [(b+0)] h [B false,d] h (exK [((.exit 6),λd h=>cnd (ge d 0) (q .normal [ge l 0] h) (bxQ h 1 a (ge l 0) λd=>b1Q h d λd=>bxQ h 1 d c λd=>b1Q h d λd=>clQ C h F.dV [d] λd h=>bIQ .lss d (I 0) λd=>jn (λd h=>lp (gB C b a (ge l 0) c (ge l 0)) [(b+2)] h [I 0] h (exK [((.exit 8),λa h=>bIQ .add (ge l 0) (I 1) λa=>q (.exit 2) [a] h)])) λc=>cnd d (bxQ h 1 a (ge l 0) λa=>b1Q h a λa=>ciQ C h F.eW [a] (b+1) λa h=>c [] h) (c [] h)))])))])
def gD(C:CC)(b:Nat)(a c:V):aN:=λl h q=>bIQ .lss (ge l 1) c λc=>gqQ c true h (ge l 0) λd h=>gqQ c true h a λe h=>gbQ c true h (aO e) λe h=>gbQ c true h (biI .lss d e) λd h=>bpQ c d (B false) λc=>cnd c (lp (mP C b a (ge l 1)) [(b+0),(b+1),(b+2)] h [ge l 0] h (exK [((.exit 2),λa h=>bIQ .add (ge l 1) (I 1) λc=>q .normal [ge a 0,c] h)])) (q (.exit 0) [ge l 0] h)
def cg(C:CC)(b:Nat)(h:Hp)(a c:V)(q:kQ):Prop:=let h:Hp:=h++List.replicate 3 nnQ
 lp (gD C b a c) [(b+0),(b+1),(b+2)] h [I 0,I 0] h (exK [((.exit 0),λc h=>bnd (slV h 1 a none (some (ge c 0))) λa=>q a h)])
def nN(b:Nat):Ann:=(.n .x .o (.n .x .o (.n .x (.n .x .o (.n .x (.n (.l [5,6] [0,1] [((.exit 0),[5],[0])] [(b+0),(b+1),(b+2)]) (.n .x .o (.n .x (.n .x (.n .x (.n (.l [5] [0,1,6] [((.exit 2),[5],[0,1,6])] [(b+0),(b+1),(b+2)]) (.n .x (.n .x .o (.n .x (.n .x .o (.n .x (.n (.l [7,8] [0,1,5,6] [((.exit 4),[7],[0,1,5,6])] []) (.n .x .o (.n .x (.n (.j [7] [0,1,5,6,8]) (.n .x .o (.n (.j [7] [0,1,5,6,8]) .o .o)) .o) .o)) .o) .o)) (.n .x .o (.n .x .o (.n .x .o (.n .x (.n .x .o (.n .x (.n (.l [9,10] [0,1,5,6] [((.exit 6),[9],[0,1,5,6])] [(b+0)]) (.n .x .o (.n .x (.n .x (.n .x .o (.n .x (.n (.r [.inl (b+0)]) .o .o) .o)) .o) .o)) .o) .o)) (.n .x .o (.n .x (.n .x .o (.n (.j [] [0,1,5,6]) (.n (.r [.inl (b+1)]) .o .o) .o)) (.n .x (.n .x .o (.n .x (.n (.l [143] [0,1,5,6,142] [((.exit 8),[],[0,1,5,6])] [(b+2)]) (.n .x .o (.n .x .o (.n .x (.n .x (.n .x .o (.n .x .o (.n (.r [.inl (b+2)]) .o .o))) .o) .o))) .o) .o)) .o))))))))) .o) .o) .o) .o) .o)) .o) .o)) .o)))
theorem xh(C:CC)(h:Hp)(t0:V)(t1:V)(q:kkQ):fnI Y C Tryz.f90 3 nN [t0,t1] h q=cg C h.length h t0 t1 q:=by rfl
theorem xg(b:Nat):okB Tryz.prog Tryz.f90 (nN b)=true:=by rfl
theorem qW(hh:cg (CX Y) h.length h t0 t1 (mi h.length v h2)):CI Y F.cg [t0,t1] h v h2:=
 CI.of (fn:=Tryz.f90) (m:=3) (a:=nN) rfl (λ_=>rfl) Tryz.func90 (xg _) (by rw[xh];exact hh)
def mb(C:CC)(b:Nat)(a c:V):aN:=λl h q=>cIQ .lss (ge l 1) c (bxQ h 1 a (ge l 1) λa=>b1Q h a λa=>anyS λs4=>ciQ C h F.fW [a] s4 λa h=>anyS λs6=>Di s6 1 [nPQ] [(0,a)] h λa h=>anyS λs8=>apW false s8 1 24 (ge l 0) a h λa h=>bIQ .add (ge l 1) (I 1) λc=>q .normal [a,c] h) (q (.exit 0) [ge l 0] h)
def cL(C:CC)(b:Nat)(h:Hp)(a:V)(q:kQ):Prop:=let h:Hp:=h++List.replicate 14 nnQ
 blQ a λc=>lp (mb C b a c) [] h [nSQ,I 0] h (exK [((.exit 0),λa h=>q (ge a 0) h)])
def pW(b:Nat):Ann:=(.n .x .o (.n .x .o (.n .x (.n .x .o (.n .x (.n (.l [3,8] [6,7] [((.exit 0),[3],[])] []) (.n .x .o (.n .x .o (.n .x (.n .x (.n .x .o (.n (.r [.anyI,.anyV,.anyV]) .o .o)) .o) .o))) .o) .o)) .o)))
theorem An(C:CC)(h:Hp)(t0:V)(q:kkQ):fnI Y C Tryz.f59 14 pW [t0] h q=cL C h.length h t0 q:=by rfl
theorem Ak(b:Nat):okB Tryz.prog Tryz.f59 (pW b)=true:=by rfl
theorem Al(hh:cL (CX Y) h.length h t0 (mi h.length v h2)):CI Y F.cL [t0] h v h2:=
 CI.of (fn:=Tryz.f59) (m:=14) (a:=pW) rfl (λ_=>rfl) Tryz.func59 (Ak _) (by rw[An];exact hh)
def j8(C:CC)(a c:V):aN:=λl h q=>cIQ .lss (ge l 1) c (bxQ h 1 a (ge l 1) λa=>b1Q h a λa=>anyS λs4=>ciQ C h F.fW [a] s4 λa h=>anyS λs6=>Di s6 1 [nPQ] [(0,a)] h λa h=>anyS λs8=>apW false s8 1 24 (ge l 0) a h λa h=>bIQ .add (ge l 1) (I 1) λc=>q .normal [a,c] h) (q (.exit 0) [ge l 0] h)
def tF(C:CC)(a:V)(q:kQ):Prop:=let h:Hp:=.replicate 14 nnQ
 blQ a λc=>lp (j8 C a c) [] h [nSQ,I 0] h (exK [((.exit 0),λa h=>q (ge a 0) h)])
theorem yj(h:tF (CX Y) t0 (out v)):CP Y F.cL [t0] v:=CPo 14 (dP (nCQ (aD (nCQ (.n (.l [3,8] [6,7] [((.exit 0),[3],[])] []) (dP (nCQ (nCQ (aD (nRQ [.anyI,.anyV,.anyV]))))) .o))))) Tryz.func59 h
def fH(C:CC)(b:Nat)(a c d:V):aN:=λl h q=>cIQ .lss (ge l 1) d (jn (λa h=>bIQ .add (ge l 1) (I 1) λc=>q .normal [ge a 0,c] h) λd=>bxQ h 1 c (ge l 1) λc=>b1Q h c λc=>clQ C h F.iv [c] λe h=>bIQ .geq e a λe=>jn (λa h=>d [ge a 0] h) λd=>cnd e (bnd (slV h 1 c (some a) none) λa=>anyS λs12=>Di s12 1 [nPQ] [(0,a)] h λa h=>anyS λs14=>apW false s14 1 24 (ge l 0) a h λa h=>d [a] h) (d [ge l 0] h)) (q (.exit 0) [ge l 0] h)
def cx(C:CC)(b:Nat)(h:Hp)(a c d:V)(q:kQ):Prop:=let h:Hp:=h++List.replicate 2 nnQ
 blQ a λe=>lp (fH C b c a e) [] h [nSQ,I 0] h (exK [((.exit 0),λa h=>ciQ C h F.cg [ge a 0,d] (b+0) q)])
def ma(b:Nat):Ann:=(.n .x .o (.n .x .o (.n .x (.n .x .o (.n .x (.n (.l [7,12] [1,2,10,11] [((.exit 0),[7],[2])] []) (.n .x .o (.n .x .o (.n .x (.n (.j [7] [1,2,10,11,12]) (.n .x .o (.n .x .o (.n (.j [7] [1,2,10,11,12]) (.n (.r [.anyV,.anyV]) .o .o) .o))) .o) .o))) .o) .o)) (.n .x (.n (.r [.inl (b+0)]) .o .o) .o))))
theorem vm(C:CC)(h:Hp)(t0:V)(t1:V)(t2:V)(q:kkQ):fnI Y C Tryz.f96 2 ma [t0,t1,t2] h q=cx C h.length h t0 t1 t2 q:=by rfl
theorem vl(b:Nat):okB Tryz.prog Tryz.f96 (ma b)=true:=by rfl
theorem pV(hh:cx (CX Y) h.length h t0 t1 t2 (mi h.length v h2)):CI Y F.cx [t0,t1,t2] h v h2:=
 CI.of (fn:=Tryz.f96) (m:=2) (a:=ma) rfl (λ_=>rfl) Tryz.func96 (vl _) (by rw[vm];exact hh)
def ir(C:CC)(a c d:V):aN:=λl h q=>cIQ .lss (ge l 1) d (bxQ h 1 c (ge l 1) λc=>b1Q h c λc=>bxQ h 1 c a λa=>b1Q h a λa=>cY 1 [.str []] [(0,a)] h λa h=>anyS λs7=>apV false s7 1 16 (ge l 0) a h λa h=>bIQ .add (ge l 1) (I 1) λc=>q .normal [a,c] h) (q (.exit 2) [ge l 0] h)
def iu(C:CC)(a c d:V):aN:=λl h q=>cIQ .lss (ge l 1) d (blQ a λd=>lp (ir C (ge l 1) a d) [] h [nSQ,I 0] h (exK [((.exit 2),λa h=>ciQ C h F.kt [c] 0 λc h=>bxQ h 1 c (ge l 1) λd=>stD h 1 d (.d (.str [49])) λ_ h=>anyS λs7=>apV false s7 1 16 (ge a 0) c h λa h=>anyS λs9=>Di s9 1 [nPQ] [(0,a)] h λa h=>anyS λs11=>apW false s11 1 24 (ge l 0) a h λa h=>bIQ .add (ge l 1) (I 1) λc=>q .normal [a,c] h)])) (q (.exit 0) [ge l 0] h)
def c8(C:CC)(a c:V)(q:kQ):Prop:=let h:Hp:=.replicate 19 nnQ
 lp (iu C a c c) [0] h [nSQ,I 0] h (exK [((.exit 0),λd h=>blQ a λe=>bIQ .add e c λe=>ciQ C h F.cg [ge d 0,e] 1 λd h=>blQ a λa=>ciQ C h F.cx [d,a,c] 2 q)])
theorem vk(h:c8 (CX Y) t0 t1 (out v)):CP Y F.c8 [t0,t1] v:=CPo 19 (dP (nBQ (aD (nCQ (.n (.l [5,12] [0,1,11] [((.exit 0),[5],[0,1])] [0]) (dP (nCQ (nCQ (dP (nBQ (aD (nCQ (.n (.l [7,17] [0,1,5,6,11,12,15,16] [((.exit 2),[7],[0,1,5,6,11,12])] []) (dP (nCQ (nCQ (aD (nRQ [.o,.anyS]))))) .o))) (nBQ (nRQ [.inl 0]) (aD (nRQ [.anyS,.anyV,.anyV])))))))) .o))) (nCQ (nRQ [.inl 1,.inl 2])))) Tryz.func60 h
def iv(C:CC)(a:V)(q:kQ):Prop:=let h:Hp:=[]
 clQ C h F.cE [a,(.fn F.dY [] [])] q
theorem yo(h:iv (CX Y) t0 (out v)):CP Y F.iv [t0] v:=CPo 0 .o Tryz.func130 h
def dY(C:CC)(a:V)(q:kQ):Prop:=let h:Hp:=[]
 bSQ .neq a (.d (.str [48])) λa=>q a h
theorem vn(h:dY (CX Y) t0 (out v)):CP Y F.dY [t0] v:=CPo 0 .o Tryz.func163 h
def mL(C:CC)(a c d:V):aN:=λl h q=>cIQ .lss (ge l 0) d (bxQ h 1 a (ge l 0) λa=>b1Q h a λa=>cal C.p h c [a] λa h=>cnd a (q .ret [ge l 0] h) (bIQ .add (ge l 0) (I 1) λa=>q .normal [a] h)) (q (.exit 0) [] h)
def cE(C:CC)(a c:V)(q:kQ):Prop:=let h:Hp:=[]
 blQ a λd=>lp (mL C a c d) [] h [I 0] h (exK [((.exit 0),λa h=>q (I (-1)) h),(.ret,λa h=>q (ge a 0) h)])
theorem nr(h:cE (CX Y) t0 t1 (out v)):CP Y F.cE [t0,t1] v:=CPo 0 (aD (nCQ (aD (nCQ (.n (.l [8] [0,1,7] [((.exit 0),[],[]),(.ret,[4],[])] []) .o .o))))) Tryz.func162 h
def jM(C:CC)(a c:V):aN:=λl h q=>cIQ .lss (ge l 1) c (bxQ h 1 a (ge l 1) λa=>b1Q h a λa=>clQ C h F.lI [a] λa h=>e2Q a λa c=>bnd (unV .not c) λc=>gqQ c false h a λd h=>gbQ c false h (biI .gtr d (I 1000000000)) λd h=>bpQ c (B true) d λc=>gqQ c false h a λd h=>gbQ c false h (biI .lss d (I (-1000000000))) λd h=>bpQ c (B true) d λc=>cnd c (q .ret [nSQ,I 4] h) (a1Q 1 (ge l 0) a h λa h=>bIQ .add (ge l 1) (I 1) λc=>q .normal [a,c] h)) (q (.exit 0) [ge l 0] h)
def gL(C:CC)(a:V)(q:kQ):Prop:=let h:Hp:=.replicate 2 nnQ
 blQ a λc=>mkS 0 8 [.int .i64 0] h (I 0) c λc h=>blQ a λd=>lp (jM C a d) [] h [c,I 0] h (exK [((.exit 0),λa h=>q (.tup [ge a 0,I 0]) h),(.ret,λa h=>q (.tup [ge a 0,ge a 1]) h)])
theorem xi(h:gL (CX Y) t0 (out v)):CP Y F.gL [t0] v:=CPo 2 (aD (nBQ (nRQ [.slot 0]) (nCQ (aD (nCQ (.n (.l [4,14] [12,13] [((.exit 0),[4],[]),(.ret,[2,3],[])] []) (dP (nCQ (nCQ (Dc (nRQ [.o,.slot 1]))))) .o)))))) Tryz.func97 h
def iW(C:CC)(a c d e:V):aN:=λl h q=>cIQ .lss (ge l 0) e (bxQ h 1 d (ge l 0) λd=>b1Q h d λd=>clQ C h F.gL [d] λd h=>e2Q d λd e=>nzQ e (bnd (bld [(0,1),(1,1)] [.int .i64 0,nPQ] []) λc=>stD h 2 a c λ_ h=>q .ret [e] h) (bfQ 1 c λa=>b1Q h a λa=>cY 1 [nPQ] [(0,d)] h λd h=>apV false 2 1 24 a d h λa h=>bfQ 1 c λc=>stD h 1 c a λ_ h=>bIQ .add (ge l 0) (I 1) λa=>q .normal [a] h)) (q (.exit 0) [] h)
def dF(C:CC)(a c:V)(q:kQ):Prop:=let h:Hp:=.replicate 3 nnQ
 alV 0 [.d (.int .i64 0),.d nPQ] h λd h=>bnd (bld [(0,1),(1,1)] [.int .i64 0,nPQ] [(0,c)]) λc=>alV 1 [.d (.int .i64 0),.d nPQ] h λe h=>stD h 2 e c λ_ h=>blQ a λc=>lp (iW C d e a c) [] h [I 0] h (exK [((.exit 0),λa h=>bnd (ldA h 2 e) λa=>stD h 2 d a λ_ h=>bnd (ldA h 2 d) λa=>q (.tup [a,I 0]) h),(.ret,λa h=>bnd (ldA h 2 d) λc=>q (.tup [c,ge a 0]) h)])
theorem vZ(h:dF (CX Y) t0 t1 (out v)):CP Y F.dF [t0,t1] v:=CPo 3 (nBQ (nRQ [.slot 0]) (nBQ (nRQ [.slot 1]) (nCQ (aD (nCQ (.n (.l [15] [4,6,13,14] [((.exit 0),[],[4,6]),(.ret,[5],[4])] []) (dP (nCQ (nCQ (Dc (nRQ [.o,.slot 2]))))) .o)))))) Tryz.func61 h
def gM(C:CC)(a:V)(q:kQ):Prop:=let h:Hp:=.replicate 2 nnQ
 ef 0 a h λa h=>alV 1 [.d (.int .i64 0),.d nPQ] h λc h=>bnd (ldA h 2 a) λd=>clQ C h F.jh [d] λd h=>nzQ d (bnd (bld [(0,1),(1,1)] [.int .i64 0,nPQ] []) λa=>stD h 2 c a λ_ h=>bnd (ldA h 2 c) λa=>q (.tup [a,d]) h) (bfQ 1 a λd=>b1Q h d λd=>clQ C h F.cL [d] λd h=>bfQ 0 a λe=>b1Q h e λe=>clQ C h F.c8 [d,e] λd h=>bfQ 0 a λe=>b1Q h e λe=>clQ C h F.c8 [d,e] λd h=>bfQ 0 a λa=>b1Q h a λa=>clQ C h F.dF [d,a] λa h=>e2Q a λa d=>stD h 2 c a λ_ h=>bnd (ldA h 2 c) λa=>q (.tup [a,d]) h)
theorem za(h:gM (CX Y) t0 (out v)):CP Y F.gM [t0] v:=CPo 2 (nCQ (nRQ [.slot 0,.slot 1])) Tryz.func27 h
def eX(C:CC)(a:V)(q:kQ):Prop:=let h:Hp:=.replicate 2 nnQ
 ef 0 a h λa h=>alV 1 [.d (.int .i64 0),.d nPQ] h λc h=>bnd (ldA h 2 a) λd=>clQ C h F.jh [d] λd h=>nzQ d (bnd (bld [(0,1),(1,1)] [.int .i64 0,nPQ] []) λa=>stD h 2 c a λ_ h=>bnd (ldA h 2 c) λa=>q (.tup [a,d]) h) (bfQ 1 a λd=>b1Q h d λd=>clQ C h F.cL [d] λd h=>bfQ 0 a λe=>b1Q h e λe=>clQ C h F.c8 [d,e] λd h=>bfQ 0 a λa=>b1Q h a λa=>clQ C h F.dF [d,a] λa h=>e2Q a λa d=>stD h 2 c a λ_ h=>bnd (ldA h 2 c) λa=>q (.tup [a,d]) h)
theorem wh(h:eX (CX Y) t0 (out v)):CP Y F.eX [t0] v:=CPo 2 (nCQ (nRQ [.slot 0,.slot 1])) Tryz.func29 h
def qy(C:CC)(a c:V)(q:kQ):Prop:=let h:Hp:=.replicate 16 nnQ
 alV 0 [.d (.int .i64 0),.d nPQ] h λd h=>clQ C h F.ku [a,c] λe h=>nzQ e (bnd (bld [(0,1),(1,1)] [.int .i64 0,nPQ] []) λa=>stD h 2 d a λ_ h=>bnd (ldA h 2 d) λa=>q (.tup [a,e]) h) (ciQ C h F.cL [c] 1 λc h=>ciQ C h F.cg [c,a] 2 λc h=>clQ C h F.dF [c,a] λa h=>e2Q a λa c=>stD h 2 d a λ_ h=>bnd (ldA h 2 d) λa=>q (.tup [a,c]) h)
theorem JY(h:qy (CX Y) t0 t1 (out v)):CP Y F.qy [t0,t1] v:=CPo 16 (nBQ (nRQ [.slot 0]) (aD (nCQ (nRQ [.inl 1,.inl 2])))) Tryz.func55 h
def ku(C:CC)(a c:V)(q:kQ):Prop:=let h:Hp:=[]
 bIQ .lss a (I 0) λd=>gqQ d false h a λe h=>gbQ d false h (biI .gtr e (I 12)) λe h=>bpQ d (B true) e λd=>cnd d (q (I 3) h) (blQ c λd=>cIQ .gtr d (I 12) (q (I 4) h) (clQ C h F.oe [c,a] q))
theorem Dm(h:ku (CX Y) t0 t1 (out v)):CP Y F.ku [t0,t1] v:=CPo 0 .o Tryz.func57 h
def jh(C:CC)(a:V)(q:kQ):Prop:=let h:Hp:=.replicate 1 nnQ
 ef 0 a h λa h=>bfQ 0 a λc=>b1Q h c λc=>bfQ 1 a λd=>b1Q h d λd=>clQ C h F.ku [c,d] λc h=>nzQ c (q c h) (bfQ 1 a λa=>b1Q h a λa=>clQ C h F.lj [a] λa h=>e2Q a λa c=>bIQ .neq c (I 0) λc=>gqQ c false h a λa h=>gbQ c false h (unV .not a) λa h=>bpQ c (B true) a λa=>cnd a (q (I 7) h) (q (I 0) h))
theorem Do(h:jh (CX Y) t0 (out v)):CP Y F.jh [t0] v:=CPo 1 (nCQ (nRQ [.slot 0])) Tryz.func26 h
def kv(C:CC)(a c:V)(q:kQ):Prop:=let h:Hp:=.replicate 2 nnQ
 ef 0 a h λa h=>ef 1 c h λc h=>bfQ 0 a λd=>b1Q h d λd=>bfQ 0 c λe=>b1Q h e λe=>bIQ .eql d e λd=>gbQ d true h (faV 1 a) λa h=>gbQ d true h (ld1 h a) λa h=>gbQ d true h (faV 1 c) λc h=>gbQ d true h (ld1 h c) λc h=>gd d true h (λq=>clQ C h F.au [a,c,(.fn F.qq [] [])] q) λa h=>bpQ d a (B false) λa=>q a h
theorem Dn(h:kv (CX Y) t0 t1 (out v)):CP Y F.kv [t0,t1] v:=CPo 2 (nCQ (nRQ [.slot 0,.slot 1])) Tryz.func28 h
def aI(C:CC)(a c d e:V):aN:=λl h q=>cIQ .lss (ge l 0) e (bxQ h 1 d (ge l 0) λd=>b1Q h d λd=>bxQ h 1 a (ge l 0) λa=>b1Q h a λa=>cal C.p h c [d,a] λa h=>bnd (unV .not a) λa=>cnd a (q .ret [B false] h) (bIQ .add (ge l 0) (I 1) λa=>q .normal [a] h)) (q (.exit 0) [] h)
def au(C:CC)(a c d:V)(q:kQ):Prop:=let h:Hp:=[]
 blQ a λe=>blQ c λf=>cIQ .neq e f (q (B false) h) (blQ a λe=>lp (aI C c d a e) [] h [I 0] h (exK [((.exit 0),λa h=>q (B true) h),(.ret,λa h=>q (ge a 0) h)]))
theorem gX(h:au (CX Y) t0 t1 t2 (out v)):CP Y F.au [t0,t1,t2] v:=CPo 0 (dP (nCQ (aD (nCQ (.n (.l [17] [1,2,15,16] [((.exit 0),[],[]),(.ret,[6],[])] []) .o .o))))) Tryz.func62 h
def qS(C:CC)(a:V)(q:kQ):Prop:=let h:Hp:=[]
 bIQ .geq a (I (-1000000000)) λc=>gqQ c true h a λa h=>gbQ c true h (biI .leq a (I 1000000000)) λa h=>bpQ c a (B false) λa=>q a h
theorem N5(h:qS (CX Y) t0 (out v)):CP Y F.qS [t0] v:=CPo 0 .o Tryz.func158 h
def od(C:CC)(a:V)(q:kQ):Prop:=let h:Hp:=[]
 clQ C h F.qS [a] λa h=>bnd (unV .not a) λa=>q a h
theorem EW(h:od (CX Y) t0 (out v)):CP Y F.od [t0] v:=CPo 0 .o Tryz.func157 h
def pC(C:CC)(a:V)(q:kQ):Prop:=let h:Hp:=[]
 blQ a λc=>bIQ .gtr c (I 64) λc=>gqQ c false h a λa h=>gd c false h (λq=>clQ C h F.bb [a,(.fn F.od [] [])] q) λa h=>bpQ c (B true) a λa=>cnd a (q (I 4) h) (q (I 0) h)
theorem LI(h:pC (CX Y) t0 (out v)):CP Y F.pC [t0] v:=CPo 0 .o Tryz.func124 h
def sU(C:CC)(b:Nat)(h:Hp)(a:V)(q:kQ):Prop:=let h:Hp:=h++List.replicate 1 nnQ
 bIQ .lss a (I 0) λc=>gqQ c false h a λd h=>gbQ c false h (biI .gtr d (I 64)) λd h=>bpQ c (B true) d λc=>cnd c (q (.tup [nSQ,I 3]) h) (mkS (b+0) 8 [.int .i64 0] h a a λa h=>q (.tup [a,I 0]) h)
def yO(b:Nat):Ann:=(.n .x .o (.n .x .o (.n .x (.n (.r [.slot (b+0)]) .o .o) .o)))
theorem N8(C:CC)(h:Hp)(t0:V)(q:kkQ):fnI Y C Tryz.f84 1 yO [t0] h q=sU C h.length h t0 q:=by rfl
theorem N6(b:Nat):okB Tryz.prog Tryz.f84 (yO b)=true:=by rfl
theorem N7(hh:sU (CX Y) h.length h t0 (mi h.length v h2)):CI Y F.sU [t0] h v h2:=
 CI.of (fn:=Tryz.f84) (m:=1) (a:=yO) rfl (λ_=>rfl) Tryz.func84 (N6 _) (by rw[N8];exact hh)
def uu(C:CC)(a c:V)(q:kQ):Prop:=let h:Hp:=.replicate 1 nnQ
 ciQ C h F.sU [a] 0 λd h=>e2Q d λd e=>nzQ e (q (.tup [nSQ,e]) h) (bIQ .lss c (I 0) λe=>gqQ e false h c λf h=>gqQ e false h a λa h=>gbQ e false h (biI .geq f a) λa h=>bpQ e (B true) a λa=>cnd a (q (.tup [nSQ,I 3]) h) (bxQ h 1 d c λa=>stD h 1 a (I 1) λ_ h=>q (.tup [d,I 0]) h))
theorem N9(h:uu (CX Y) t0 t1 (out v)):CP Y F.uu [t0,t1] v:=CPo 1 (aD (nCQ (nRQ [.inl 0]))) Tryz.func49 h
def qq(C:CC)(a c:V)(q:kQ):Prop:=let h:Hp:=[]
 clQ C h F.bX [a,c] q
theorem LH(h:qq (CX Y) t0 t1 (out v)):CP Y F.qq [t0,t1] v:=CPo 0 .o Tryz.func63 h
def bB(C:CC)(a c d:V):aN:=λl h q=>cIQ .lss (ge l 0) d (bxQ h 2 a (ge l 0) λa=>bnd (ldA h 2 a) λa=>cal C.p h c [a] λa h=>cnd a (q .ret [ge l 0] h) (bIQ .add (ge l 0) (I 1) λa=>q .normal [a] h)) (q (.exit 0) [] h)
def aV(C:CC)(a c:V)(q:kQ):Prop:=let h:Hp:=[]
 blQ a λd=>lp (bB C a c d) [] h [I 0] h (exK [((.exit 0),λa h=>q (I (-1)) h),(.ret,λa h=>q (ge a 0) h)])
theorem kV(h:aV (CX Y) t0 t1 (out v)):CP Y F.aV [t0,t1] v:=CPo 0 (aD (nCQ (aD (nCQ (.n (.l [8] [0,1,7] [((.exit 0),[],[]),(.ret,[4],[])] []) .o .o))))) Tryz.func190 h
def aG(C:CC)(a c:V)(q:kQ):Prop:=let h:Hp:=[]
 clQ C h F.aV [a,c] λa h=>bIQ .geq a (I 0) λa=>q a h
theorem jW(h:aG (CX Y) t0 t1 (out v)):CP Y F.aG [t0,t1] v:=CPo 0 .o Tryz.func164 h
def bZ(C:CC)(a c d:V):aN:=λl h q=>cIQ .lss (ge l 0) d (bxQ h 2 a (ge l 0) λa=>bnd (ldA h 2 a) λa=>cal C.p h c [a] λa h=>cnd a (q .ret [ge l 0] h) (bIQ .add (ge l 0) (I 1) λa=>q .normal [a] h)) (q (.exit 0) [] h)
def bz(C:CC)(a c:V)(q:kQ):Prop:=let h:Hp:=[]
 blQ a λd=>lp (bZ C a c d) [] h [I 0] h (exK [((.exit 0),λa h=>q (I (-1)) h),(.ret,λa h=>q (ge a 0) h)])
theorem mM(h:bz (CX Y) t0 t1 (out v)):CP Y F.bz [t0,t1] v:=CPo 0 (aD (nCQ (aD (nCQ (.n (.l [8] [0,1,7] [((.exit 0),[],[]),(.ret,[4],[])] []) .o .o))))) Tryz.func212 h
def aL(C:CC)(a c:V)(q:kQ):Prop:=let h:Hp:=[]
 clQ C h F.bz [a,c] λa h=>bIQ .geq a (I 0) λa=>q a h
theorem lF(h:aL (CX Y) t0 t1 (out v)):CP Y F.aL [t0,t1] v:=CPo 0 .o Tryz.func191 h
def bG(C:CC)(a c d:V):aN:=λl h q=>cIQ .lss (ge l 0) d (bxQ h 2 a (ge l 0) λa=>bnd (ldA h 2 a) λa=>bxQ h 2 c (ge l 0) λc=>bnd (ldA h 2 c) λc=>bnd (biA [.str [],.str []] .neq a c) λa=>cnd a (q .ret [B false] h) (bIQ .add (ge l 0) (I 1) λa=>q .normal [a] h)) (q (.exit 0) [] h)
def aR(C:CC)(a c:V)(q:kQ):Prop:=let h:Hp:=[]
 blQ a λd=>blQ c λe=>cIQ .neq d e (q (B false) h) (blQ a λd=>lp (bG C a c d) [] h [I 0] h (exK [((.exit 0),λa h=>q (B true) h),(.ret,λa h=>q (ge a 0) h)]))
theorem oE(h:aR (CX Y) t0 t1 (out v)):CP Y F.aR [t0,t1] v:=CPo 0 (dP (nCQ (aD (nCQ (.n (.l [13] [0,1,12] [((.exit 0),[],[]),(.ret,[4],[])] []) .o .o))))) Tryz.func51 h
def jX(C:CC)(a:V)(q:kQ):Prop:=let h:Hp:=.replicate 1 nnQ
 alV 0 [.d (.str []),.d (.str [])] h λc h=>clQ C h F.eH [a] λa h=>bnd (bld [(0,1),(1,1)] [.str [],.str []] [(0,a),(1,(.d (.str [49])))]) λa=>stD h 2 c a λ_ h=>bnd (ldA h 2 c) λa=>q a h
theorem GU(h:jX (CX Y) t0 (out v)):CP Y F.jX [t0] v:=CPo 1 (nCQ (nRQ [.slot 0])) Tryz.func76 h
def rP(C:CC)(b:Nat)(a c:V):aN:=λl h q=>cIQ .lss (ge l 0) c (clQ C h F.jX [I 0] λc h=>bxQ h 2 a (ge l 0) λa=>stD h 2 a c λ_ h=>bIQ .add (ge l 0) (I 1) λa=>q .normal [a] h) (q (.exit 0) [] h)
def py(C:CC)(b:Nat)(h:Hp)(a:V)(q:kQ):Prop:=let h:Hp:=h++List.replicate 1 nnQ
 mkS (b+0) 32 [.str [],.str []] h a a λa h=>blQ a λc=>lp (rP C b a c) [] h [I 0] h (exK [((.exit 0),λc h=>q a h)])
def wU(b:Nat):Ann:=(.n .x .o (.n .x (.n (.r [.slot (b+0)]) .o .o) (.n .x (.n .x .o (.n .x (.n (.l [9] [3,8] [((.exit 0),[],[3])] []) .o .o) .o)) .o)))
theorem Lp(C:CC)(h:Hp)(t0:V)(q:kkQ):fnI Y C Tryz.f75 1 wU [t0] h q=py C h.length h t0 q:=by rfl
theorem Lm(b:Nat):okB Tryz.prog Tryz.f75 (wU b)=true:=by rfl
theorem Lo(hh:py (CX Y) h.length h t0 (mi h.length v h2)):CI Y F.py [t0] h v h2:=
 CI.of (fn:=Tryz.f75) (m:=1) (a:=wU) rfl (λ_=>rfl) Tryz.func75 (Lm _) (by rw[Lp];exact hh)
def qM(C:CC)(a c d e f:V):aN:=λl h q=>cIQ .lss (ge l 0) f (bxQ h 2 e (ge l 0) λe=>bnd (ldA h 2 e) λe=>alV 1 [.d (.str []),.d (.str [])] h λf h=>stD h 2 f e λ_ h=>bxQ h 2 c (ge l 0) λe=>bnd (ldA h 2 e) λe=>bnd (ldA h 2 f) λf=>bxQ h 2 a d λa=>bnd (ldA h 2 a) λa=>clQ C h F.kf [f,a] λa h=>clQ C h F.fv [e,a] λa h=>bxQ h 2 c (ge l 0) λc=>stD h 2 c a λ_ h=>bIQ .add (ge l 0) (I 1) λa=>q .normal [a] h) (q (.exit 2) [] h)
def tA(C:CC)(a c d e:V):aN:=λl h q=>cIQ .lss (ge l 0) e (bxQ h 1 d (ge l 0) λd=>b1Q h d λd=>blQ d λe=>lp (qM C a c (ge l 0) d e) [1] h [I 0] h (exK [((.exit 2),λa h=>bIQ .add (ge l 0) (I 1) λa=>q .normal [a] h)])) (q (.exit 0) [] h)
def qN(C:CC)(a c d:V)(q:kQ):Prop:=let h:Hp:=.replicate 2 nnQ
 ciQ C h F.py [a] 0 λa h=>blQ c λe=>lp (tA C d a c e) [1] h [I 0] h (exK [((.exit 0),λc h=>q a h)])
def yM:Ann:=(aD (nBQ (nRQ [.inl 0]) (nCQ (aD (nCQ (.n (.l [16] [2,7,14,15] [((.exit 0),[],[7])] [1]) (dP (nCQ (nCQ (dP (nCQ (.n (.l [23] [2,7,8,14,15,16,21,22] [((.exit 2),[],[2,7,14,15,16])] [1]) (dP (nCQ (nCQ (nCQ (nRQ [.slot 1]))))) .o)))))) .o))))))
theorem N3(C:CC)(t0:V)(t1:V)(t2:V)(q:kkQ):fnD Y C Tryz.f110 2 yM [t0,t1,t2] q=qN C t0 t1 t2 q:=by kernel_rfl
theorem N0:okB Tryz.prog Tryz.f110 yM=true:=aJ
theorem N2(h:qN (CX Y) t0 t1 t2 (out v)):CP Y F.qN [t0,t1,t2] v:=
 CP.of (fn:=Tryz.f110) (m:=2) (a:=yM) rfl (λ_=>rfl) Tryz.func110 N0 (by rw[N3];exact h)
def oc(C:CC)(a c d:V):aN:=λl h q=>cIQ .lss (ge l 0) d (bxQ h 1 c (ge l 0) λc=>b1Q h c λc=>clQ C h F.lX [a,c] λa h=>nzQ a (q .ret [a] h) (bIQ .add (ge l 0) (I 1) λa=>q .normal [a] h)) (q (.exit 0) [] h)
def je(C:CC)(a c:V)(q:kQ):Prop:=let h:Hp:=[]
 clQ C h F.fG [a] λd h=>nzQ d (q d h) (blQ c λd=>lp (oc C a c d) [] h [I 0] h (exK [((.exit 0),λa h=>q (I 0) h),(.ret,λa h=>q (ge a 0) h)]))
theorem C8(h:je (CX Y) t0 t1 (out v)):CP Y F.je [t0,t1] v:=CPo 0 (dP (nCQ (aD (nCQ (.n (.l [16] [0,14,15] [((.exit 0),[],[]),(.ret,[4],[])] []) .o .o))))) Tryz.func77 h
def pz(C:CC)(a:V)(q:kQ):Prop:=let h:Hp:=[]
 clQ C h F.aL [a,(.fn F.jA [] [])] λc h=>cnd c (q (.tup [nSQ,I 4]) h) (q (.tup [a,I 0]) h)
theorem GT(h:pz (CX Y) t0 (out v)):CP Y F.pz [t0] v:=CPo 0 .o Tryz.func166 h
def jA(C:CC)(a:V)(q:kQ):Prop:=let h:Hp:=.replicate 1 nnQ
 ef 0 a h λa h=>bnd (ldA h 2 a) λa=>clQ C h F.nH [a] λa h=>bnd (unV .not a) λa=>q a h
theorem Bv(h:jA (CX Y) t0 (out v)):CP Y F.jA [t0] v:=CPo 1 (nCQ (nRQ [.slot 0])) Tryz.func192 h
def nZ(C:CC)(a c d:V)(q:kQ):Prop:=let h:Hp:=[]
 clQ C h F.je [a,c] λe h=>nzQ e (q (.tup [nSQ,e]) h) (blQ d λe=>blQ c λf=>cIQ .neq e f (q (.tup [nSQ,I 5]) h) (clQ C h F.aG [d,(.fn F.iG [] [])] λe h=>cnd e (q (.tup [nSQ,I 2]) h) (blQ a λa=>clQ C h F.qN [a,c,d] λa h=>clQ C h F.pz [a] λa h=>e2Q a λa c=>q (.tup [a,c]) h)))
theorem EO(h:nZ (CX Y) t0 t1 t2 (out v)):CP Y F.nZ [t0,t1,t2] v:=CPo 0 .o Tryz.func132 h
def iG(C:CC)(a:V)(q:kQ):Prop:=let h:Hp:=.replicate 1 nnQ
 ef 0 a h λa h=>bnd (ldA h 2 a) λa=>clQ C h F.ib [a] λa h=>bIQ .neq a (I 0) λa=>q a h
theorem zO(h:iG (CX Y) t0 (out v)):CP Y F.iG [t0] v:=CPo 1 (nCQ (nRQ [.slot 0])) Tryz.func165 h
def qp(C:CC)(a c d:V)(q:kQ):Prop:=let h:Hp:=.replicate 1 nnQ
 ef 0 d h λd h=>cY 1 [nPQ] [(0,c)] h λc h=>bnd (ldA h 2 d) λd=>cY 1 [.str [],.str []] [(0,d)] h λd h=>clQ C h F.nZ [a,c,d] λa h=>e2Q a λa c=>q (.tup [a,c]) h
theorem Jl(h:qp (CX Y) t0 t1 t2 (out v)):CP Y F.qp [t0,t1,t2] v:=CPo 1 (nCQ (nRQ [.slot 0])) Tryz.func99 h
def qn(C:CC)(b:Nat)(h:Hp)(a:V)(q:kQ):Prop:=let h:Hp:=h++List.replicate 1 nnQ
 clQ C h F.fG [a] λc h=>nzQ c (q (.tup [nSQ,c]) h) (blQ a λa=>ciQ C h F.py [a] (b+0) λa h=>q (.tup [a,I 0]) h)
def wV(b:Nat):Ann:=(.n .x .o (.n .x .o (.n .x (.n (.r [.inl (b+0)]) .o .o) .o)))
theorem Lt(C:CC)(h:Hp)(t0:V)(q:kkQ):fnI Y C Tryz.f131 1 wV [t0] h q=qn C h.length h t0 q:=by rfl
theorem Lr(b:Nat):okB Tryz.prog Tryz.f131 (wV b)=true:=by rfl
theorem Ls(hh:qn (CX Y) h.length h t0 (mi h.length v h2)):CI Y F.qn [t0] h v h2:=
 CI.of (fn:=Tryz.f131) (m:=1) (a:=wV) rfl (λ_=>rfl) Tryz.func131 (Lr _) (by rw[Lt];exact hh)
def pA(C:CC)(a:V)(q:kQ):Prop:=let h:Hp:=.replicate 1 nnQ
 ciQ C h F.qn [a] 0 λa h=>e2Q a λa c=>nzQ c (q (.tup [nSQ,c]) h) (clQ C h F.jX [I 1] λc h=>bxQ h 2 a (I 0) λd=>stD h 2 d c λ_ h=>q (.tup [a,I 0]) h)
theorem GV(h:pA (CX Y) t0 (out v)):CP Y F.pA [t0] v:=CPo 1 (aD (nCQ (nRQ [.inl 0]))) Tryz.func98 h
def fM(C:CC)(a c d:V):aN:=λl h q=>cIQ .lss (ge l 0) d (bxQ h 1 a (ge l 0) λa=>b1Q h a λa=>bxQ h 1 c (ge l 0) λc=>b1Q h c λc=>cIQ .neq a c (q .ret [B false] h) (bIQ .add (ge l 0) (I 1) λa=>q .normal [a] h)) (q (.exit 0) [] h)
def bX(C:CC)(a c:V)(q:kQ):Prop:=let h:Hp:=[]
 blQ a λd=>blQ c λe=>cIQ .neq d e (q (B false) h) (blQ a λd=>lp (fM C a c d) [] h [I 0] h (exK [((.exit 0),λa h=>q (B true) h),(.ret,λa h=>q (ge a 0) h)]))
theorem sQ(h:bX (CX Y) t0 t1 (out v)):CP Y F.bX [t0,t1] v:=CPo 0 (dP (nCQ (aD (nCQ (.n (.l [13] [0,1,12] [((.exit 0),[],[]),(.ret,[4],[])] []) .o .o))))) Tryz.func65 h
def pD(C:CC)(a c:V)(q:kQ):Prop:=let h:Hp:=[]
 cY 1 [nPQ] [(0,c)] h λc h=>clQ C h F.jC [a,c] q
theorem GZ(h:pD (CX Y) t0 t1 (out v)):CP Y F.pD [t0,t1] v:=CPo 0 .o Tryz.func74 h
def m7(C:CC)(a c:V):aN:=λl h q=>cIQ .lss (ge l 0) c (bxQ h 1 a (ge l 0) λa=>b1Q h a λa=>bIQ .gtr a (I 1000) λc=>gqQ c false h a λa h=>gbQ c false h (biI .lss a (I (-1000))) λa h=>bpQ c (B true) a λa=>cnd a (q .ret [I 4] h) (bIQ .add (ge l 0) (I 1) λa=>q .normal [a] h)) (q (.exit 2) [] h)
def j7(C:CC)(a c d:V):aN:=λl h q=>cIQ .lss (ge l 0) d (bxQ h 1 c (ge l 0) λc=>b1Q h c λc=>blQ c λd=>blQ a λa=>cIQ .neq d a (q .ret [I 5] h) (blQ c λa=>lp (m7 C c a) [] h [I 0] h (exK [((.exit 2),λa h=>bIQ .add (ge l 0) (I 1) λa=>q .normal [a] h),(.ret,λa h=>q .ret [ge a 0] h)]))) (q (.exit 0) [] h)
def jC(C:CC)(a c:V)(q:kQ):Prop:=let h:Hp:=[]
 clQ C h F.fG [a] λd h=>nzQ d (q d h) (blQ c λd=>lp (j7 C a c d) [] h [I 0] h (exK [((.exit 0),λa h=>q (I 0) h),(.ret,λa h=>q (ge a 0) h)]))
theorem BM(h:jC (CX Y) t0 t1 (out v)):CP Y F.jC [t0,t1] v:=CPo 0 (dP (nCQ (aD (nCQ (.n (.l [17] [0,15,16] [((.exit 0),[],[]),(.ret,[4],[])] []) (dP (nCQ (nCQ (Dc (nCQ (.n (.l [28] [0,15,16,17,26,27] [((.exit 2),[],[0,15,16,17]),(.ret,[4],[])] []) .o .o)))))) .o))))) Tryz.func70 h
def nX(C:CC)(a c d:V)(q:kQ):Prop:=let h:Hp:=[]
 blQ a λe=>cY 2 [nPQ] [(0,c),(1,d)] h λc h=>clQ C h F.jX [I 1] λd h=>clQ C h F.jX [I (-1)] λf h=>cY 2 [.str [],.str []] [(0,d),(1,f)] h λd h=>clQ C h F.qN [e,c,d] λc h=>clQ C h F.lW [a,c] λa h=>clQ C h F.gm [a] q
theorem EM(h:nX (CX Y) t0 t1 t2 (out v)):CP Y F.nX [t0,t1,t2] v:=CPo 0 .o Tryz.func80 h
def nY(C:CC)(a c d:V)(q:kQ):Prop:=let h:Hp:=[]
 cY 2 [nPQ] [(0,c),(1,d)] h λe h=>clQ C h F.je [a,e] λe h=>nzQ e (q (.tup [I 0,e]) h) (clQ C h F.nX [a,c,d] λa h=>q (.tup [a,I 0]) h)
theorem EN(h:nY (CX Y) t0 t1 t2 (out v)):CP Y F.nY [t0,t1,t2] v:=CPo 0 .o Tryz.func43 h
def eM(C:CC)(a c:V):aN:=λl h q=>blQ a λd=>cIQ .lss (ge l 0) d (bxQ h 1 a (ge l 0) λa=>b1Q h a λa=>bxQ h 1 c (ge l 0) λc=>b1Q h c λc=>cIQ .neq a c (q .ret [B false] h) (bIQ .add (ge l 0) (I 1) λa=>q .normal [a] h)) (q (.exit 0) [] h)
def ct(C:CC)(a c:V)(q:kQ):Prop:=let h:Hp:=[]
 blQ a λd=>blQ c λe=>cIQ .neq d e (q (B false) h) (lp (eM C a c) [] h [I 0] h (exK [((.exit 0),λa h=>q (B true) h),(.ret,λa h=>q (ge a 0) h)]))
theorem tJ(h:ct (CX Y) t0 t1 (out v)):CP Y F.ct [t0,t1] v:=CPo 0 (dP (nCQ (aD (nCQ (.n (.l [5] [0,1] [((.exit 0),[],[]),(.ret,[4],[])] []) .o .o))))) Tryz.func86 h
def eT(C:CC)(a:V)(q:kQ):Prop:=let h:Hp:=[]
 cY 3 [.int .i64 0] [(0,(I 2)),(1,(I 3)),(2,(I 5))] h λc h=>cY 4 [.int .i64 0] [(0,(I 2)),(1,(I 3)),(2,(I 5)),(3,(I 7))] h λd h=>cY 2 [.int .i64 0] [(0,(I 2)),(1,(I 3))] h λe h=>cY 3 [.int .i64 0] [(0,(I 2)),(1,(I 3)),(2,(I 7))] h λf h=>cY 3 [.int .i64 0] [(0,(I 2)),(1,(I 5)),(2,(I 7))] h λg h=>cY 3 [.int .i64 0] [(0,(I 3)),(1,(I 5)),(2,(I 7))] h λi h=>cY 4 [.int .i64 0] [(0,(I 2)),(1,(I 3)),(2,(I 5)),(3,(I 11))] h λj h=>cY 1 [.int .i64 0] [(0,(I 2))] h λk h=>cY 4 [.int .i64 0] [(0,(I 2)),(1,(I 3)),(2,(I 7)),(3,(I 13))] h λl h=>cY 4 [.int .i64 0] [(0,(I 3)),(1,(I 5)),(2,(I 7)),(3,(I 13))] h λm h=>cY 10 [nPQ] [(0,c),(1,d),(2,e),(3,f),(4,g),(5,i),(6,j),(7,k),(8,l),(9,m)] h λc h=>bnd (cvI .i64 a) λa=>blQ c λd=>bIQ .rem a d λa=>bxQ h 1 c a λa=>b1Q h a λa=>q a h
def mO:Ann:=.o
theorem vY(C:CC)(t0:V)(q:kkQ):fnD Y C Tryz.f22 0 mO [t0] q=eT C t0 q:=by kernel_rfl
theorem vW:okB Tryz.prog Tryz.f22 mO=true:=aJ
theorem vX(h:eT (CX Y) t0 (out v)):CP Y F.eT [t0] v:=
 CP.of (fn:=Tryz.f22) (m:=0) (a:=mO) rfl (λ_=>rfl) Tryz.func22 vW (by rw[vY];exact h)
def gU(C:CC)(a c:V):aN:=λl h q=>blQ a λa=>bIQ .lss (ge l 1) a λa=>gqQ a true h (ge l 1) λd h=>gbQ a true h (biI .lss d (I 4)) λd h=>bpQ a d (B false) λa=>cnd a (bnd (ixP 4 1 c (ge l 1)) λa=>b1Q h a λa=>bnd (cvI .i64 a) λa=>bIQ .rem a (I 10) λa=>a1Q 1 (ge l 0) a h λa h=>bIQ .add (ge l 1) (I 1) λc=>q .normal [a,c] h) (q (.exit 0) [ge l 0] h)
def dL(C:CC)(a c:V)(q:kQ):Prop:=let h:Hp:=.replicate 2 nnQ
 ef 0 c h λc h=>lp (gU C a c) [] h [nSQ,I 0] h (exK [((.exit 0),λa h=>q (ge a 0) h)])
theorem uq(h:dL (CX Y) t0 t1 (out v)):CP Y F.dL [t0,t1] v:=CPo 2 (nBQ (nRQ [.slot 0]) (aD (nCQ (aD (nCQ (.n (.l [5,6] [0,3] [((.exit 0),[5],[])] []) (aD (nCQ (nCQ (nRQ [.o,.slot 1])))) .o)))))) Tryz.func23 h
def jm(C:CC)(a c:V)(q:kQ):Prop:=let h:Hp:=[]
 clQ C h F.au [a,c,(.fn F.eQ [] [])] q
theorem yG(h:jm (CX Y) t0 t1 (out v)):CP Y F.jm [t0,t1] v:=CPo 0 .o Tryz.func30 h
def eQ(C:CC)(a c:V)(q:kQ):Prop:=let h:Hp:=[]
 clQ C h F.bX [a,c] q
theorem vV(h:eQ (CX Y) t0 t1 (out v)):CP Y F.eQ [t0,t1] v:=CPo 0 .o Tryz.func64 h
def cT(C:CC)(a:V)(q:kQ):Prop:=let h:Hp:=.replicate 4 nnQ
 ef 0 a h λa h=>bfQ 0 a λc=>b1Q h c λc=>clQ C h F.fG [c] λc h=>nzQ c (q c h) (bfQ 0 a λc=>b1Q h c λc=>blQ c λc=>bfQ 1 a λd=>b1Q h d λd=>bnd (bld [(0,1),(1,1)] [.int .i64 0,nPQ] [(0,c),(1,d)]) λc=>alV 1 [.d (.int .i64 0),.d nPQ] h λd h=>stD h 2 d c λ_ h=>bnd (ldA h 2 d) λc=>clQ C h F.jh [c] λc h=>nzQ c (q c h) (bnd (ldA h 2 d) λc=>clQ C h F.gM [c] λc h=>e2Q c λc e=>alV 2 [.d (.int .i64 0),.d nPQ] h λf h=>stD h 2 f c λ_ h=>bIQ .neq e (I 0) λc=>gbQ c false h (ldA h 2 f) λe h=>gbQ c false h (ldA h 2 d) λf h=>gd c false h (λq=>clQ C h F.kv [e,f] q) λe h=>gbQ c false h (unV .not e) λe h=>bpQ c (B true) e λc=>cnd c (q (I 7) h) (bnd (ldA h 2 d) λc=>clQ C h F.eX [c] λc h=>e2Q c λc d=>alV 3 [.d (.int .i64 0),.d nPQ] h λe h=>stD h 2 e c λ_ h=>bIQ .neq d (I 0) λc=>gbQ c false h (faV 1 e) λd h=>gbQ c false h (ld1 h d) λd h=>gbQ c false h (faV 2 a) λa h=>gbQ c false h (ld1 h a) λa h=>gd c false h (λq=>clQ C h F.jm [d,a] q) λa h=>gbQ c false h (unV .not a) λa h=>bpQ c (B true) a λa=>cnd a (q (I 14) h) (q (I 0) h))))
theorem yb(h:cT (CX Y) t0 (out v)):CP Y F.cT [t0] v:=CPo 4 (nBQ (nRQ [.slot 0]) (aD (nBQ (nRQ [.slot 1]) (aD (nBQ (nRQ [.o,.slot 2]) (aD (nCQ (nRQ [.o,.slot 3])))))))) Tryz.func7 h
def jV(C:CC)(a c d:V):aN:=λl h q=>cIQ .lss (ge l 0) d (bxQ h 1 c (ge l 0) λc=>b1Q h c λc=>clQ C h F.pC [c] λd h=>nzQ d (q .ret [d] h) (blQ c λc=>bfQ 0 a λa=>b1Q h a λa=>blQ a λa=>cIQ .neq c a (q .ret [I 5] h) (bIQ .add (ge l 0) (I 1) λa=>q .normal [a] h))) (q (.exit 0) [] h)
def ij(C:CC)(a c:V)(q:kQ):Prop:=let h:Hp:=.replicate 1 nnQ
 ef 0 a h λa h=>bnd (ldA h 3 a) λd=>clQ C h F.cT [d] λd h=>nzQ d (q d h) (blQ c λd=>lp (jV C a c d) [] h [I 0] h (exK [((.exit 0),λa h=>q (I 0) h),(.ret,λa h=>q (ge a 0) h)]))
theorem ya(h:ij (CX Y) t0 t1 (out v)):CP Y F.ij [t0,t1] v:=CPo 1 (nBQ (nRQ [.slot 0]) (aD (nCQ (aD (nCQ (.n (.l [16] [2,14,15] [((.exit 0),[],[]),(.ret,[4],[])] []) .o .o)))))) Tryz.func100 h
def jH(C:CC)(a c d:V):aN:=λl h q=>cIQ .lss (ge l 1) d (bxQ h 1 c (ge l 1) λc=>b1Q h c λc=>clQ C h F.eH [c] λc h=>bxQ h 1 a (ge l 1) λa=>b1Q h a λa=>clQ C h F.eH [a] λa h=>clQ C h F.bN [c,a] λa h=>clQ C h F.kS [ge l 0,a] λa h=>bIQ .add (ge l 1) (I 1) λc=>q .normal [a,c] h) (q (.exit 2) [ge l 0] h)
def jI(C:CC)(a c d:V):aN:=λl h q=>cIQ .lss (ge l 1) d (bxQ h 1 c (ge l 1) λc=>b1Q h c λc=>blQ a λd=>lp (jH C c a d) [] h [(.d (.str [48])),I 0] h (exK [((.exit 2),λa h=>cY 1 [.str []] [(0,(ge a 0))] h λa h=>apV false 1 1 16 (ge l 0) a h λa h=>bIQ .add (ge l 1) (I 1) λc=>q .normal [a,c] h)])) (q (.exit 0) [ge l 0] h)
def gF(C:CC)(a c:V)(q:kQ):Prop:=let h:Hp:=.replicate 2 nnQ
 ef 0 a h λa h=>bfQ 2 a λa=>b1Q h a λa=>blQ a λd=>lp (jI C c a d) [] h [nSQ,I 0] h (exK [((.exit 0),λa h=>q (ge a 0) h)])
theorem wO(h:gF (CX Y) t0 t1 (out v)):CP Y F.gF [t0,t1] v:=CPo 2 (nBQ (nRQ [.slot 0]) (aD (nCQ (aD (nCQ (.n (.l [5,14] [1,12,13] [((.exit 0),[5],[])] []) (dP (nCQ (nCQ (dP (nBQ (aD (nCQ (.n (.l [8,20] [1,5,7,12,13,14,18,19] [((.exit 2),[8],[1,5,12,13,14])] []) .o .o))) (nRQ [.o,.slot 1])))))) .o)))))) Tryz.func101 h
def jJ(C:CC)(a c:V):aN:=λl h q=>cIQ .lss (ge l 1) c (bxQ h 1 a (ge l 1) λa=>b1Q h a λa=>clQ C h F.lI [a] λa h=>e2Q a λa c=>bnd (unV .not c) λc=>gqQ c false h a λd h=>gbQ c false h (biI .gtr d (I 1000000000)) λd h=>bpQ c (B true) d λc=>gqQ c false h a λd h=>gbQ c false h (biI .lss d (I (-1000000000))) λd h=>bpQ c (B true) d λc=>cnd c (q .ret [nSQ,I 4] h) (a1Q 1 (ge l 0) a h λa h=>bIQ .add (ge l 1) (I 1) λc=>q .normal [a,c] h)) (q (.exit 0) [ge l 0] h)
def fx(C:CC)(a c:V)(q:kQ):Prop:=let h:Hp:=.replicate 2 nnQ
 ef 0 a h λa h=>bnd (ldA h 3 a) λd=>cY 1 [nPQ] [(0,c)] h λe h=>clQ C h F.ij [d,e] λd h=>nzQ d (q (.tup [nSQ,d]) h) (bnd (ldA h 3 a) λa=>clQ C h F.gF [a,c] λa h=>blQ a λc=>lp (jJ C a c) [] h [nSQ,I 0] h (exK [((.exit 0),λa h=>q (.tup [ge a 0,I 0]) h),(.ret,λa h=>q (.tup [ge a 0,ge a 1]) h)]))
theorem wP(h:fx (CX Y) t0 t1 (out v)):CP Y F.fx [t0,t1] v:=CPo 2 (nBQ (nRQ [.slot 0]) (dP (nCQ (aD (nCQ (.n (.l [7,23] [21,22] [((.exit 0),[7],[]),(.ret,[4,5],[])] []) (dP (nCQ (nCQ (Dc (nRQ [.o,.slot 1]))))) .o)))))) Tryz.func71 h
def bH(C:CC)(a c:V)(q:kQ):Prop:=let h:Hp:=.replicate 2 nnQ
 alV 0 [.d (.str []),.d (.str [])] h λd h=>clQ C h F.d7 [a,c] λa h=>e2Q a λa c=>alV 1 [.d (.str []),.d (.str [])] h λc h=>stD h 2 c a λ_ h=>bnd (ldA h 2 c) λa=>stD h 2 d a λ_ h=>bnd (ldA h 2 d) λa=>q a h
theorem yc(h:bH (CX Y) t0 t1 (out v)):CP Y F.bH [t0,t1] v:=CPo 2 (nBQ (nRQ [.slot 0]) (nCQ (nRQ [.o,.slot 1]))) Tryz.func20 h
def ji(C:CC)(a:V)(q:kQ):Prop:=let h:Hp:=.replicate 1 nnQ
 ef 0 a h λa h=>bnd (ldA h 3 a) λc=>clQ C h F.cT [c] λc h=>nzQ c (q c h) (bfQ 2 a λc=>b1Q h c λc=>blQ c λc=>cIQ .neq c (I 2) (q (I 5) h) (bfQ 2 a λa=>b1Q h a λa=>bxQ h 1 a (I 0) λa=>b1Q h a λa=>bxQ h 1 a (I 0) λa=>b1Q h a λa=>cIQ .eql a (I 0) (q (I 26) h) (q (I 0) h)))
theorem vQ(h:ji (CX Y) t0 (out v)):CP Y F.ji [t0] v:=CPo 1 (nCQ (nRQ [.slot 0])) Tryz.func66 h
def iK(C:CC)(a:V)(q:kQ):Prop:=let h:Hp:=.replicate 2 nnQ
 tQ 0 0 [.int .i64 0] [] h λc h=>apV false 1 1 8 c a h q
theorem AA(h:iK (CX Y) t0 (out v)):CP Y F.iK [t0] v:=CPo 2 (aD (nCQ (nRQ [.slot 0,.slot 1]))) Tryz.func67 h
def iZ(C:CC)(a:V)(q:kQ):Prop:=let h:Hp:=.replicate 2 nnQ
 ef 0 a h λa h=>alV 1 [.d (.int .i64 0),.d nPQ,.d nPQ] h λc h=>bnd (ldA h 3 a) λd=>clQ C h F.ji [d] λd h=>nzQ d (bnd (bld [(0,1),(1,1),(2,1)] [.int .i64 0,nPQ,nPQ] []) λa=>stD h 3 c a λ_ h=>bnd (ldA h 3 c) λa=>q (.tup [a,d]) h) (bfQ 2 a λd=>b1Q h d λd=>bxQ h 1 d (I 0) λd=>b1Q h d λd=>bxQ h 1 d (I 0) λd=>b1Q h d λd=>bfQ 2 a λe=>b1Q h e λe=>bxQ h 1 e (I 0) λe=>b1Q h e λe=>clQ C h F.iK [e] λe h=>bfQ 2 a λa=>b1Q h a λa=>bxQ h 1 a (I 1) λa=>b1Q h a λa=>clQ C h F.iK [a] λa h=>bnd (bld [(0,1),(1,1),(2,1)] [.int .i64 0,nPQ,nPQ] [(0,d),(1,e),(2,a)]) λa=>stD h 3 c a λ_ h=>bnd (ldA h 3 c) λa=>q (.tup [a,I 0]) h)
theorem xn(h:iZ (CX Y) t0 (out v)):CP Y F.iZ [t0] v:=CPo 2 (nCQ (nRQ [.slot 0,.slot 1])) Tryz.func31 h
def ou(C:CC)(a:V)(q:kQ):Prop:=let h:Hp:=.replicate 2 nnQ
 ef 0 a h λa h=>alV 1 [.d (.str []),.d (.str [])] h λc h=>bfQ 0 a λd=>b1Q h d λd=>clQ C h F.mA [d] λd h=>bfQ 1 a λa=>b1Q h a λa=>bnd (bld [(0,1),(1,1)] [.str [],.str []] [(0,d),(1,a)]) λa=>stD h 2 c a λ_ h=>bnd (ldA h 2 c) λa=>q a h
theorem F9(h:ou (CX Y) t0 (out v)):CP Y F.ou [t0] v:=CPo 2 (nCQ (nRQ [.slot 0,.slot 1])) Tryz.func113 h
def oo(C:CC)(a c:V)(q:kQ):Prop:=let h:Hp:=.replicate 3 nnQ
 ef 0 a h λa h=>ef 1 c h λc h=>alV 2 [.d (.str []),.d (.str [])] h λd h=>bnd (ldA h 2 a) λa=>bnd (ldA h 2 c) λc=>clQ C h F.ou [c] λc h=>clQ C h F.fv [a,c] λa h=>stD h 2 d a λ_ h=>bnd (ldA h 2 d) λa=>q a h
theorem F7(h:oo (CX Y) t0 t1 (out v)):CP Y F.oo [t0,t1] v:=CPo 3 (nCQ (nRQ [.slot 0,.slot 1,.slot 2])) Tryz.func81 h
def fu(C:CC)(a c:V)(q:kQ):Prop:=let h:Hp:=.replicate 1 nnQ
 ef 0 c h λc h=>clQ C h F.pA [a] λd h=>e2Q d λd e=>nzQ e (q (.tup [nSQ,e]) h) (bnd (ldA h 2 c) λc=>clQ C h F.qp [a,d,c] λa h=>e2Q a λa c=>q (.tup [a,c]) h)
theorem zE(h:fu (CX Y) t0 t1 (out v)):CP Y F.fu [t0,t1] v:=CPo 1 (nCQ (nRQ [.slot 0])) Tryz.func68 h
def jU(C:CC)(a c d:V):aN:=λl h q=>cIQ .lss (ge l 1) d (bxQ h 1 c (ge l 1) λc=>b1Q h c λc=>bnd (ldA h 3 a) λa=>clQ C h F.fx [a,c] λa h=>e2Q a λa c=>nzQ c (q .ret [nSQ,I 0,c] h) (cY 1 [nPQ] [(0,a)] h λa h=>apV false 2 1 24 (ge l 0) a h λa h=>bIQ .add (ge l 1) (I 1) λc=>q .normal [a,c] h)) (q (.exit 1) [ge l 0] h)
def cr(C:CC)(a c:V)(q:kQ):Prop:=let h:Hp:=.replicate 3 nnQ
 ef 0 a h λa h=>bnd (ldA h 3 a) λd=>clQ C h F.iZ [d] λd h=>e2Q d λd e=>alV 1 [.d (.int .i64 0),.d nPQ,.d nPQ] h λf h=>stD h 3 f d λ_ h=>nzQ e (q (.tup [nSQ,I 0,e]) h) (blQ c λd=>cIQ .gtr d (I 60) (q (.tup [nSQ,I 0,I 4]) h) (bfQ 0 a λd=>b1Q h d λd=>clQ C h F.jC [d,c] λd h=>nzQ d (q (.tup [nSQ,I 0,d]) h) (blQ c λd=>lp (jU C a c d) [] h [nSQ,I 0] h (exK [((.exit 1),λa h=>bfQ 0 f λc=>b1Q h c λc=>q (.tup [ge a 0,c,I 0]) h),(.ret,λa h=>q (.tup [ge a 0,ge a 1,ge a 2]) h)]))))
theorem rI(h:cr (CX Y) t0 t1 (out v)):CP Y F.cr [t0,t1] v:=CPo 3 (nBQ (nRQ [.slot 0]) (nBQ (nRQ [.o,.slot 1]) (dP (nCQ (aD (nCQ (.n (.l [4,35] [2,7,33,34] [((.exit 1),[4],[7]),(.ret,[4,5,6],[])] []) (dP (nCQ (nCQ (Dc (nRQ [.o,.slot 2]))))) .o))))))) Tryz.func36 h
def kT(C:CC)(a c d e f:V):aN:=λl h q=>cIQ .lss (ge l 1) f (bxQ h 1 e (ge l 1) λe=>b1Q h e λe=>clQ C h F.d7 [e,I 1] λe h=>e2Q e λe f=>alV 2 [.d (.str []),.d (.str [])] h λf h=>stD h 2 f e λ_ h=>bIQ .eql (ge l 1) (I 0) λe=>jn (λa h=>bnd (ldA h 2 f) λa=>bnd (ldA h 2 d) λc=>clQ C h F.kh [a,c] λa h=>e2Q a λa c=>stD h 2 f a λ_ h=>bnd (ldA h 2 f) λa=>cY 1 [.str [],.str []] [(0,a)] h λa h=>apV false 4 2 32 (ge l 0) a h λa h=>bIQ .add (ge l 1) (I 1) λc=>q .normal [a,c] h) λd=>cnd e (bxQ h 1 a (I 0) λa=>b1Q h a λa=>clQ C h F.d7 [a,c] λa h=>e2Q a λa c=>alV 3 [.d (.str []),.d (.str [])] h λc h=>stD h 2 c a λ_ h=>bnd (ldA h 2 f) λa=>bnd (ldA h 2 c) λc=>clQ C h F.oo [a,c] λa h=>stD h 2 f a λ_ h=>d [] h) (d [] h)) (q (.exit 0) [ge l 0] h)
def gS(C:CC)(a c d e:V)(q:kQ):Prop:=let h:Hp:=.replicate 5 nnQ
 bxQ h 1 d (I 1) λf=>b1Q h f λf=>cIQ .eql f (I 0) (q (.tup [nSQ,B false,I 0]) h) (bxQ h 1 d (I 1) λf=>b1Q h f λf=>clQ C h F.d7 [f,I 1] λf h=>e2Q f λf g=>alV 0 [.d (.str []),.d (.str [])] h λg h=>stD h 2 g f λ_ h=>tQ 1 0 [.str [],.str []] [] h λf h=>blQ c λi=>lp (kT C d e g c i) [2,3] h [f,I 0] h (exK [((.exit 0),λc h=>clQ C h F.lY [a,ge c 0] λa h=>nzQ a (q (.tup [nSQ,B false,I 4]) h) (q (.tup [ge c 0,B true,I 0]) h))]))
theorem vN(h:gS (CX Y) t0 t1 t2 t3 (out v)):CP Y F.gS [t0,t1,t2,t3] v:=CPo 5 (dP (nBQ (nRQ [.o,.slot 0]) (nBQ (nRQ [.slot 1]) (nCQ (aD (nCQ (.n (.l [13,34] [0,2,3,11,32,33] [((.exit 0),[13],[0])] [2,3]) (dP (nCQ (nCQ (aD (nBQ (nRQ [.o,.slot 2]) (nBQ (aD (.n (.j [] [0,2,3,11,13,16,32,33,34]) (nCQ (nRQ [.o,.slot 3])) .o)) (aD (nRQ [.o,.slot 4])))))))) .o))))))) Tryz.func41 h
def aA(C:CC)(b:Nat)(h:Hp)(a:V)(q:kQ):Prop:=let h:Hp:=h++List.replicate 2 nnQ
 vg h .eql a nSQ λc=>cnd c (q nSQ h) (tQ (b+0) 0 [.str [],.str []] [] h λc h=>apV false (b+1) 2 32 c a h q)
def eR(b:Nat):Ann:=(.n .x .o (.n .x .o (.n .x (.n (.r [.slot (b+0),.slot (b+1)]) .o .o) .o)))
theorem oI(C:CC)(h:Hp)(t0:V)(q:kkQ):fnI Y C Tryz.f35 2 eR [t0] h q=aA C h.length h t0 q:=by rfl
theorem oG(b:Nat):okB Tryz.prog Tryz.f35 (eR b)=true:=by rfl
theorem oH(hh:aA (CX Y) h.length h t0 (mi h.length v h2)):CI Y F.aA [t0] h v h2:=
 CI.of (fn:=Tryz.f35) (m:=2) (a:=eR) rfl (λ_=>rfl) Tryz.func35 (oG _) (by rw[oI];exact hh)
def jY(C:CC)(a c:V):aN:=λl h q=>blQ a λd=>cIQ .lss (ge l 0) d (bxQ h 2 a (ge l 0) λa=>bnd (ldA h 2 a) λa=>bxQ h 2 c (ge l 0) λc=>bnd (ldA h 2 c) λc=>bnd (biA [.str [],.str []] .neq a c) λa=>cnd a (q .ret [B false] h) (bIQ .add (ge l 0) (I 1) λa=>q .normal [a] h)) (q (.exit 0) [] h)
def bI(C:CC)(a c:V)(q:kQ):Prop:=let h:Hp:=[]
 blQ a λd=>blQ c λe=>cIQ .neq d e (q (B false) h) (lp (jY C a c) [] h [I 0] h (exK [((.exit 0),λa h=>q (B true) h),(.ret,λa h=>q (ge a 0) h)]))
theorem yd(h:bI (CX Y) t0 t1 (out v)):CP Y F.bI [t0,t1] v:=CPo 0 (dP (nCQ (aD (nCQ (.n (.l [5] [0,1] [((.exit 0),[],[]),(.ret,[4],[])] []) .o .o))))) Tryz.func18 h
def fU(C:CC)(a:V)(q:kQ):Prop:=let h:Hp:=.replicate 1 nnQ
 ef 0 a h λa h=>bfQ 1 a λa=>b1Q h a λa=>blQ a λa=>bIQ .leq a (I 3) λa=>q a h
theorem yh(h:fU (CX Y) t0 (out v)):CP Y F.fU [t0] v:=CPo 1 (nCQ (nRQ [.slot 0])) Tryz.func5 h
def gJ(C:CC)(a c d:V)(q:kQ):Prop:=let h:Hp:=.replicate 4 nnQ
 alV 0 [.d nPQ,.d nPQ,.d nPQ] h λe h=>clQ C h F.fG [a] λf h=>nzQ f (bnd (bld [(0,1),(1,1),(2,1)] [nPQ,nPQ,nPQ] []) λa=>stD h 3 e a λ_ h=>bnd (ldA h 3 e) λa=>q (.tup [a,f]) h) (blQ a λf=>clQ C h F.qy [f,c] λc h=>e2Q c λc f=>alV 1 [.d (.int .i64 0),.d nPQ] h λg h=>stD h 2 g c λ_ h=>nzQ f (bnd (bld [(0,1),(1,1),(2,1)] [nPQ,nPQ,nPQ] []) λa=>stD h 3 e a λ_ h=>bnd (ldA h 3 e) λa=>q (.tup [a,f]) h) (bnd (ldA h 2 g) λc=>clQ C h F.gM [c] λc h=>e2Q c λc f=>alV 2 [.d (.int .i64 0),.d nPQ] h λi h=>stD h 2 i c λ_ h=>bnd (ldA h 2 g) λc=>clQ C h F.eX [c] λc h=>e2Q c λc g=>alV 3 [.d (.int .i64 0),.d nPQ] h λj h=>stD h 2 j c λ_ h=>bIQ .neq f (I 0) λc=>gqQ c false h g λf h=>gbQ c false h (biI .neq f (I 0)) λf h=>bpQ c (B true) f λc=>cnd c (bnd (bld [(0,1),(1,1),(2,1)] [nPQ,nPQ,nPQ] []) λa=>stD h 3 e a λ_ h=>bnd (ldA h 3 e) λa=>q (.tup [a,I 4]) h) (jn (λc h=>bfQ 1 i λc=>b1Q h c λc=>bfQ 1 j λd=>b1Q h d λd=>bnd (bld [(0,1),(1,1),(2,1)] [nPQ,nPQ,nPQ] [(0,a),(1,c),(2,d)]) λa=>stD h 3 e a λ_ h=>bnd (ldA h 3 e) λa=>q (.tup [a,I 0]) h) λa=>cnd d (bnd (ldA h 2 j) λc=>bnd (ldA h 2 i) λd=>stD h 2 i c λ_ h=>stD h 2 j d λ_ h=>a [] h) (a [] h))))
theorem w5(h:gJ (CX Y) t0 t1 t2 (out v)):CP Y F.gJ [t0,t1,t2] v:=CPo 4 (nBQ (nRQ [.slot 0]) (aD (nBQ (nRQ [.o,.slot 1]) (aD (nBQ (nRQ [.o,.slot 2]) (nBQ (nRQ [.o,.slot 3]) (aD (nCQ (aD (nJQ [] [0,6,11,12])))))))))) Tryz.func24 h
def jZ(C:CC)(a c:V):aN:=λl h q=>bfQ 1 a λd=>b1Q h d λd=>blQ d λd=>bIQ .lss (ge l 1) d λd=>gqQ d true h (ge l 1) λe h=>gbQ d true h (biI .lss e (I 3)) λe h=>bpQ d e (B false) λd=>cnd d (bfQ 1 a λa=>b1Q h a λa=>bxQ h 4 a (ge l 1) λa=>bnd (ldA h 4 a) λa=>clQ C h F.dL [c,a] λa h=>cY 1 [nPQ] [(0,a)] h λa h=>apV false 2 1 24 (ge l 0) a h λa h=>bIQ .add (ge l 1) (I 1) λc=>q .normal [a,c] h) (q (.exit 0) [ge l 0] h)
def fT(C:CC)(a:V)(q:kQ):Prop:=let h:Hp:=.replicate 4 nnQ
 ef 0 a h λa h=>alV 1 [.d nPQ,.d nPQ,.d nPQ] h λc h=>bfQ 0 a λd=>b1Q h d λd=>clQ C h F.eT [d] λd h=>lp (jZ C a d) [] h [nSQ,I 0] h (exK [((.exit 0),λe h=>bfQ 2 a λa=>b1Q h a λa=>clQ C h F.gJ [d,ge e 0,a] λa h=>e2Q a λa d=>alV 3 [.d nPQ,.d nPQ,.d nPQ] h λd h=>stD h 3 d a λ_ h=>bnd (ldA h 3 d) λa=>stD h 3 c a λ_ h=>bnd (ldA h 3 c) λa=>q a h)])
theorem yg(h:fT (CX Y) t0 (out v)):CP Y F.fT [t0] v:=CPo 4 (nBQ (nRQ [.slot 0,.slot 1]) (dP (nBQ (aD (nCQ (.n (.l [4,5] [1,2,3] [((.exit 0),[4],[1,2,3])] []) (aD (nCQ (nCQ (nRQ [.o,.o,.slot 2])))) .o))) (nCQ (nRQ [.o,.slot 3]))))) Tryz.func6 h
def fw(C:CC)(b:Nat)(h:Hp)(a c d e:V)(q:kQ):Prop:=let h:Hp:=h++List.replicate 3 nnQ
 cIQ .eql d (I 0) (bfQ 0 a λd=>bfQ 6 d λd=>b1Q h d λd=>gqQ d false h c λc h=>gbQ d false h (biI .lss c (I 0)) λc h=>bpQ d (B true) c λc=>bfQ 0 a λa=>bfQ 6 a λa=>stD h 1 a c λ_ h=>q (.tup []) h) (bnd (unV .neg c) λc=>clQ C h F.d7 [c,e] λc h=>e2Q c λc e=>alV (b+0) [.d (.str []),.d (.str [])] h λe h=>stD h 2 e c λ_ h=>clQ C h F.d7 [d,I 1] λc h=>e2Q c λc f=>alV (b+1) [.d (.str []),.d (.str [])] h λf h=>stD h 2 f c λ_ h=>bnd (ldA h 2 e) λc=>bnd (ldA h 2 f) λe=>clQ C h F.kh [c,e] λc h=>e2Q c λc e=>alV (b+2) [.d (.str []),.d (.str [])] h λe h=>stD h 2 e c λ_ h=>jn (λa h=>q (.tup []) h) λc=>bIQ .gtr d (I 0) λf=>gqQ f true h a λg h=>gbQ f true h (faV 0 g) λg h=>gbQ f true h (faV 4 g) λg h=>gbQ f true h (ld1 h g) λg h=>gbQ f true h (unV .not g) λg h=>gqQ f true h g λg h=>gbQ g false h (ldA h 2 e) λi h=>gqQ g false h a λj h=>gbQ g false h (faV 0 j) λj h=>gbQ g false h (faV 0 j) λj h=>gbQ g false h (ldA h 2 j) λj h=>gd g false h (λq=>clQ C h F.fI [i,j] q) λi h=>gbQ g false h (biI .gtr i (I 0)) λi h=>gbQ f true h (nL g (B true) i) λg h=>bpQ f g (B false) λf=>jn (λa h=>c [] h) λc=>cnd f (bnd (ldA h 2 e) λd=>bfQ 0 a λe=>bfQ 0 e λe=>stD h 2 e d λ_ h=>bfQ 0 a λa=>bfQ 4 a λa=>stD h 1 a (B true) λ_ h=>c [] h) (bIQ .lss d (I 0) λd=>gqQ d true h a λf h=>gbQ d true h (faV 0 f) λf h=>gbQ d true h (faV 5 f) λf h=>gbQ d true h (ld1 h f) λf h=>gbQ d true h (unV .not f) λf h=>gqQ d true h f λf h=>gbQ f false h (ldA h 2 e) λg h=>gqQ f false h a λi h=>gbQ f false h (faV 0 i) λi h=>gbQ f false h (faV 2 i) λi h=>gbQ f false h (ldA h 2 i) λi h=>gd f false h (λq=>clQ C h F.fI [g,i] q) λg h=>gbQ f false h (biI .lss g (I 0)) λg h=>gbQ d true h (nL f (B true) g) λf h=>bpQ d f (B false) λd=>jn (λa h=>c [] h) λc=>cnd d (bnd (ldA h 2 e) λd=>bfQ 0 a λe=>bfQ 2 e λe=>stD h 2 e d λ_ h=>bfQ 0 a λa=>bfQ 5 a λa=>stD h 1 a (B true) λ_ h=>c [] h) (c [] h)))
def nB(b:Nat):Ann:=(.n .x .o (.n .x (.n (.r [.o,.slot (b+0)]) .o .o) (.n .x (.n (.r [.o,.slot (b+1)]) .o .o) (.n .x (.n (.r [.o,.slot (b+2)]) .o .o) (.n (.j [] []) (.n .x .o (.n (.j [] []) .o (.n .x .o (.n (.j [] []) .o .o)))) .o)))))
theorem wK(C:CC)(h:Hp)(t0:V)(t1:V)(t2:V)(t3:V)(q:kkQ):fnI Y C Tryz.f37 3 nB [t0,t1,t2,t3] h q=fw C h.length h t0 t1 t2 t3 q:=by rfl
theorem wI(b:Nat):okB Tryz.prog Tryz.f37 (nB b)=true:=by rfl
theorem wJ(hh:fw (CX Y) h.length h t0 t1 t2 t3 (mi h.length v h2)):CI Y F.fw [t0,t1,t2,t3] h v h2:=
 CI.of (fn:=Tryz.f37) (m:=3) (a:=nB) rfl (λ_=>rfl) Tryz.func37 (wI _) (by rw[wK];exact hh)
def jk(C:CC)(a c:V)(q:kQ):Prop:=let h:Hp:=.replicate 2 nnQ
 alV 0 [.d nPQ,.d nPQ,.d (.bool false),.d (.bool false),.d (.bool false)] h λd h=>bfQ 0 a λe=>bfQ 6 e λe=>b1Q h e λe=>gqQ e false h a λf h=>gbQ e false h (faV 0 f) λf h=>gbQ e false h (faV 4 f) λf h=>gbQ e false h (ld1 h f) λf h=>gqQ e false h f λf h=>gqQ f true h a λg h=>gbQ f true h (faV 0 g) λg h=>gbQ f true h (faV 5 g) λg h=>gbQ f true h (ld1 h g) λg h=>gbQ e false h (nL f g (B false)) λf h=>gqQ e false h f λf h=>gqQ f true h a λg h=>gbQ f true h (faV 0 g) λg h=>gbQ f true h (faV 0 g) λg h=>gbQ f true h (ldA h 2 g) λg h=>gqQ f true h a λi h=>gbQ f true h (faV 0 i) λi h=>gbQ f true h (faV 2 i) λi h=>gbQ f true h (ldA h 2 i) λi h=>gd f true h (λq=>clQ C h F.fI [g,i] q) λg h=>gbQ f true h (biI .gtr g (I 0)) λg h=>gbQ e false h (nL f g (B false)) λf h=>bpQ e (B true) f λe=>cnd e (bnd (bld [(0,1),(1,1),(2,1),(3,1),(4,1)] [nPQ,nPQ,.bool false,.bool false,.bool false] [(4,(B true))]) λa=>stD h 5 d a λ_ h=>bnd (ldA h 5 d) λa=>q (.tup [a,I 0]) h) (bfQ 0 a λe=>bfQ 4 e λe=>b1Q h e λe=>bfQ 0 a λf=>bfQ 5 f λf=>b1Q h f λf=>bnd (bld [(0,1),(1,1),(2,1),(3,1),(4,1)] [nPQ,nPQ,.bool false,.bool false,.bool false] [(2,e),(3,f)]) λe=>alV 1 [.d nPQ,.d nPQ,.d (.bool false),.d (.bool false),.d (.bool false)] h λf h=>stD h 5 f e λ_ h=>bfQ 0 a λe=>bfQ 4 e λe=>b1Q h e λe=>jn (λe h=>bfQ 0 a λe=>bfQ 5 e λe=>b1Q h e λe=>jn (λa h=>bnd (ldA h 5 f) λa=>stD h 5 d a λ_ h=>bnd (ldA h 5 d) λa=>q (.tup [a,I 0]) h) λg=>cnd e (bfQ 0 a λa=>bfQ 2 a λa=>bnd (ldA h 2 a) λa=>clQ C h F.fu [c,a] λa h=>e2Q a λa c=>bfQ 1 f λe=>stD h 1 e a λ_ h=>nzQ c (bnd (bld [(0,1),(1,1),(2,1),(3,1),(4,1)] [nPQ,nPQ,.bool false,.bool false,.bool false] []) λa=>stD h 5 d a λ_ h=>bnd (ldA h 5 d) λa=>q (.tup [a,c]) h) (g [] h)) (g [] h)) λg=>cnd e (bfQ 0 a λa=>bfQ 0 a λa=>bnd (ldA h 2 a) λa=>clQ C h F.fu [c,a] λa h=>e2Q a λa c=>bfQ 0 f λe=>stD h 1 e a λ_ h=>nzQ c (bnd (bld [(0,1),(1,1),(2,1),(3,1),(4,1)] [nPQ,nPQ,.bool false,.bool false,.bool false] []) λa=>stD h 5 d a λ_ h=>bnd (ldA h 5 d) λa=>q (.tup [a,c]) h) (g [] h)) (g [] h))
theorem yE(h:jk (CX Y) t0 t1 (out v)):CP Y F.jk [t0,t1] v:=CPo 2 (nBQ (nRQ [.slot 0]) (aD (nBQ (nRQ [.slot 1]) (aD (nBQ (aD (nJQ [] [0,1,4,6])) (nCQ (aD (nJQ [] [4,6])))))))) Tryz.func38 h
def lU(C:CC)(a c d:V):aN:=λl h q=>blQ a λe=>cIQ .lss (ge l 0) e (bxQ h 1 a (ge l 0) λe=>b1Q h e λe=>bxQ h 1 e (I 0) λe=>b1Q h e λe=>bIQ .sub (ge l 0) (I 1) λf=>bxQ h 1 a f λf=>b1Q h f λf=>bxQ h 1 f (I 0) λf=>b1Q h f λf=>bIQ .sub e f λe=>bxQ h 1 a (ge l 0) λf=>b1Q h f λf=>bxQ h 1 f (I 1) λf=>b1Q h f λf=>bIQ .sub (ge l 0) (I 1) λg=>bxQ h 1 a g λa=>b1Q h a λa=>bxQ h 1 a (I 1) λa=>b1Q h a λa=>bIQ .sub f a λa=>ciQ C h F.fw [d,e,a,c] 3 λa h=>bIQ .add (ge l 0) (I 1) λa=>q .normal [a] h) (q (.exit 0) [] h)
def cJ(C:CC)(a c:V)(q:kQ):Prop:=let h:Hp:=.replicate 4 nnQ
 ef 0 a h λa h=>alV 1 [.d nPQ,.d nPQ,.d (.bool false),.d (.bool false),.d (.bool false)] h λd h=>bnd (ldA h 3 a) λe=>clQ C h F.cr [e,c] λc h=>e3Q c λc e f=>nzQ f (bnd (bld [(0,1),(1,1),(2,1),(3,1),(4,1)] [nPQ,nPQ,.bool false,.bool false,.bool false] []) λa=>stD h 5 d a λ_ h=>bnd (ldA h 5 d) λa=>q (.tup [a,f]) h) (alV 2 [.d (.str []),.d (.str []),.d (.str []),.d (.str []),.d (.bool false),.d (.bool false),.d (.bool false)] h λf h=>lp (lU C c e f) [3] h [I 1] h (exK [((.exit 0),λc h=>bfQ 0 a λa=>b1Q h a λa=>clQ C h F.jk [f,a] λa h=>e2Q a λa c=>stD h 5 d a λ_ h=>bnd (ldA h 5 d) λa=>q (.tup [a,c]) h)]))
theorem tv(h:cJ (CX Y) t0 t1 (out v)):CP Y F.cJ [t0,t1] v:=CPo 4 (nBQ (nRQ [.slot 0,.slot 1]) (dP (nBQ (nRQ [.slot 2]) (nCQ (aD (nCQ (.n (.l [10] [2,4,6,7,9] [((.exit 0),[],[2,4,9])] [3]) (aD (nCQ (nCQ (nRQ [.inl 3])))) .o))))))) Tryz.func10 h
def cU(C:CC)(a c:V):aN:=λl h q=>blQ a λd=>cIQ .lss (ge l 1) d (jn (λa h=>bIQ .add (ge l 1) (I 1) λc=>q .normal [ge a 0,c] h) λd=>bxQ h 1 a (ge l 1) λe=>b1Q h e λe=>cal C.p h c [e,ge l 0] λc h=>bIQ .lss c (I 0) λc=>jn (λa h=>d [ge a 0] h) λd=>cnd c (bxQ h 1 a (ge l 1) λa=>b1Q h a λa=>d [a] h) (d [ge l 0] h)) (q (.exit 0) [ge l 0] h)
def bE(C:CC)(a c:V)(q:kQ):Prop:=let h:Hp:=[]
 blQ a λd=>bIQ .lss d (I 1) λd=>jn (λd h=>bxQ h 1 a (I 0) λd=>b1Q h d λd=>lp (cU C a c) [] h [d,I 1] h (exK [((.exit 0),λa h=>q (ge a 0) h)])) λa=>cnd d (False /- makeInterface -/) (a [] h)
theorem o8(h:bE (CX Y) t0 t1 (out v)):CP Y F.bE [t0,t1] v:=CPo 0 (aD (nBQ (aD (nJQ [] [0,1])) (aD (nCQ (aD (nCQ (.n (.l [5,6] [0,1] [((.exit 0),[5],[])] []) (aD (nCQ (.n (.j [5] [0,1,6]) (aD (nJQ [5] [0,1,6])) .o))) .o))))))) Tryz.func44 h
def cV(C:CC)(a c:V):aN:=λl h q=>blQ a λd=>cIQ .lss (ge l 1) d (jn (λa h=>bIQ .add (ge l 1) (I 1) λc=>q .normal [ge a 0,c] h) λd=>bxQ h 1 a (ge l 1) λe=>b1Q h e λe=>cal C.p h c [e,ge l 0] λc h=>bIQ .gtr c (I 0) λc=>jn (λa h=>d [ge a 0] h) λd=>cnd c (bxQ h 1 a (ge l 1) λa=>b1Q h a λa=>d [a] h) (d [ge l 0] h)) (q (.exit 0) [ge l 0] h)
def bF(C:CC)(a c:V)(q:kQ):Prop:=let h:Hp:=[]
 blQ a λd=>bIQ .lss d (I 1) λd=>jn (λd h=>bxQ h 1 a (I 0) λd=>b1Q h d λd=>lp (cV C a c) [] h [d,I 1] h (exK [((.exit 0),λa h=>q (ge a 0) h)])) λa=>cnd d (False /- makeInterface -/) (a [] h)
theorem o9(h:bF (CX Y) t0 t1 (out v)):CP Y F.bF [t0,t1] v:=CPo 0 (aD (nBQ (aD (nJQ [] [0,1])) (aD (nCQ (aD (nCQ (.n (.l [5,6] [0,1] [((.exit 0),[5],[])] []) (aD (nCQ (.n (.j [5] [0,1,6]) (aD (nJQ [5] [0,1,6])) .o))) .o))))))) Tryz.func45 h
def kM(C:CC)(a c d e f g:V):aN:=λl h q=>cIQ .lss (ge l 1) g (jn (λa h=>bIQ .add (ge l 1) (I 1) λc=>q .normal [ge a 0,c] h) λg=>bxQ h 1 f (ge l 1) λf=>b1Q h f λf=>bfQ 0 a λa=>b1Q h a λa=>bxQ h 1 d (ge l 1) λd=>b1Q h d λd=>clQ C h F.gS [a,f,d,e] λa h=>e3Q a λa d e=>nzQ e (bnd (bld [(0,1),(1,1),(2,1),(3,1),(4,1)] [nPQ,nPQ,.bool false,.bool false,.bool false] []) λa=>stD h 5 c a λ_ h=>q .ret [e] h) (jn (λa h=>g [ge a 0] h) λc=>cnd d (cY 1 [nPQ] [(0,a)] h λa h=>apV false 2 1 24 (ge l 0) a h λa h=>c [a] h) (c [ge l 0] h))) (q (.exit 0) [ge l 0] h)
def cN(C:CC)(a c:V)(q:kQ):Prop:=let h:Hp:=.replicate 4 nnQ
 ef 0 a h λa h=>alV 1 [.d nPQ,.d nPQ,.d (.bool false),.d (.bool false),.d (.bool false)] h λd h=>bnd (ldA h 3 a) λe=>clQ C h F.cr [e,c] λe h=>e3Q e λe f g=>nzQ g (bnd (bld [(0,1),(1,1),(2,1),(3,1),(4,1)] [nPQ,nPQ,.bool false,.bool false,.bool false] []) λa=>stD h 5 d a λ_ h=>bnd (ldA h 5 d) λa=>q (.tup [a,g]) h) (blQ c λg=>lp (kM C a d e f c g) [] h [nSQ,I 0] h (exK [((.exit 0),λc h=>blQ (ge c 0) λe=>cIQ .eql e (I 0) (bnd (bld [(0,1),(1,1),(2,1),(3,1),(4,1)] [nPQ,nPQ,.bool false,.bool false,.bool false] []) λa=>stD h 5 d a λ_ h=>bnd (ldA h 5 d) λa=>q (.tup [a,I 19]) h) (clQ C h F.bE [ge c 0,(.fn F.bi [] [a])] λe h=>clQ C h F.bF [ge c 0,(.fn F.bi [] [a])] λa h=>ciQ C h F.aA [a] 3 λa h=>bnd (bld [(0,1),(1,1),(2,1),(3,1),(4,1)] [nPQ,nPQ,.bool false,.bool false,.bool false] [(0,e),(1,a),(2,(B true)),(3,(B true))]) λa=>stD h 5 d a λ_ h=>bnd (ldA h 5 d) λa=>q (.tup [a,I 0]) h)),(.ret,λa h=>bnd (ldA h 5 d) λc=>q (.tup [c,ge a 0]) h)]))
theorem sF(h:cN (CX Y) t0 t1 (out v)):CP Y F.cN [t0,t1] v:=CPo 4 (nBQ (nRQ [.slot 0,.slot 1]) (Dc (nBQ (aD (nCQ (.n (.l [9,29] [2,4,6,7,27,28] [((.exit 0),[9],[2,4]),(.ret,[5],[4])] []) (dP (nCQ (.n (.j [9] [2,4,6,7,27,28,29]) (SP (.n (.j [9] [2,4,6,7,27,28,29]) (nRQ [.o,.slot 2]) .o)) .o))) .o))) (dP (nCQ (nRQ [.o,.o,.inl 3])))))) Tryz.func13 h
def bi(C:CC)(a c d:V)(q:kQ):Prop:=let h:Hp:=[]
 bfQ 0 d λd=>b1Q h d λd=>clQ C h F.nY [d,a,c] λa h=>e2Q a λa c=>q a h
theorem vU(h:bi (CX Y) t0 t1 t2 (out v)):CP Y F.bi [t0,t1,t2] v:=CPo 0 .o Tryz.func42 h
def dK(C:CC)(q:kQ):Prop:=let h:Hp:=.replicate 1 nnQ
 alV 0 [.d nPQ,.d nPQ,.d nPQ] h λa h=>cY 3 [.int .i64 0] [(0,(I 2)),(1,(I 3)),(2,(I 5))] h λc h=>cY 3 [.int .i64 0] [(0,(I 4)),(1,(I (-4))),(2,(I 1))] h λd h=>cY 1 [nPQ] [(0,d)] h λd h=>cY 3 [.int .i64 0] [(0,(I 1)),(1,(I 0)),(2,(I (-4)))] h λe h=>cY 3 [.int .i64 0] [(0,(I 0)),(1,(I 1)),(2,(I 4))] h λf h=>cY 2 [nPQ] [(0,e),(1,f)] h λe h=>bnd (bld [(0,1),(1,1),(2,1)] [nPQ,nPQ,nPQ] [(0,c),(1,d),(2,e)]) λc=>stD h 3 a c λ_ h=>bnd (ldA h 3 a) λa=>q a h
theorem uk(h:dK (CX Y) (out v)):CP Y F.dK [] v:=CPo 1 (nCQ (nRQ [.slot 0])) Tryz.func21 h
def fB(C:CC)(q:kQ):Prop:=let h:Hp:=.replicate 3 nnQ
 clQ C h F.bH [I 0,I 1] λa h=>alV 0 [.d (.str []),.d (.str [])] h λc h=>stD h 2 c a λ_ h=>clQ C h F.dK [] λa h=>cY 3 [.int .i64 0] [(0,(I 0)),(1,(I 0)),(2,(I 0))] h λd h=>cY 3 [.int .i64 0] [(0,(I (-3))),(1,(I 2)),(2,(I 0))] h λe h=>cY 3 [.int .i64 0] [(0,(I (-2))),(1,(I 0)),(2,(I 1))] h λf h=>cY 3 [.int .i64 0] [(0,(I 2)),(1,(I (-1))),(2,(I 0))] h λg h=>cY 3 [.int .i64 0] [(0,(I (-1))),(1,(I 1)),(2,(I 0))] h λi h=>cY 5 [nPQ] [(0,d),(1,e),(2,f),(3,g),(4,i)] h λd h=>clQ C h F.cJ [a,d] λa h=>e2Q a λa d=>alV 1 [.d nPQ,.d nPQ,.d (.bool false),.d (.bool false),.d (.bool false)] h λe h=>stD h 5 e a λ_ h=>clQ C h F.dK [] λa h=>cY 3 [.int .i64 0] [(0,(I (-2))),(1,(I 0)),(2,(I 1))] h λf h=>cY 3 [.int .i64 0] [(0,(I (-1))),(1,(I 1)),(2,(I 0))] h λg h=>cY 2 [nPQ] [(0,f),(1,g)] h λf h=>clQ C h F.cN [a,f] λa h=>e2Q a λa f=>alV 2 [.d nPQ,.d nPQ,.d (.bool false),.d (.bool false),.d (.bool false)] h λg h=>stD h 5 g a λ_ h=>bIQ .eql d (I 0) λa=>gbQ a true h (faV 2 e) λd h=>gbQ a true h (ld1 h d) λd h=>bpQ a d (B false) λa=>gbQ a true h (faV 3 e) λd h=>gbQ a true h (ld1 h d) λd h=>bpQ a d (B false) λa=>gbQ a true h (faV 0 e) λd h=>gbQ a true h (ld1 h d) λd h=>gd a true h (λq=>clQ C h F.bH [I 3,I 2] q) λi h=>gbQ a true h (ldA h 2 c) λj h=>gbQ a true h (ldA h 2 c) λk h=>gd a true h (λq=>cY 3 [.str [],.str []] [(0,i),(1,j),(2,k)] h q) λi h=>gd a true h (λq=>clQ C h F.bI [d,i] q) λd h=>bpQ a d (B false) λa=>gbQ a true h (faV 1 e) λd h=>gbQ a true h (ld1 h d) λd h=>gd a true h (λq=>clQ C h F.bH [I 8,I 5] q) λe h=>gbQ a true h (ldA h 2 c) λi h=>gbQ a true h (ldA h 2 c) λj h=>gd a true h (λq=>cY 3 [.str [],.str []] [(0,e),(1,i),(2,j)] h q) λe h=>gd a true h (λq=>clQ C h F.bI [d,e] q) λd h=>bpQ a d (B false) λa=>gqQ a true h f λd h=>gbQ a true h (biI .eql d (I 0)) λd h=>bpQ a d (B false) λa=>gbQ a true h (faV 0 g) λd h=>gbQ a true h (ld1 h d) λd h=>gd a true h (λq=>clQ C h F.bH [I 1,I 1] q) λe h=>gbQ a true h (ldA h 2 c) λf h=>gd a true h (λq=>clQ C h F.bH [I 1,I 4] q) λi h=>gd a true h (λq=>cY 3 [.str [],.str []] [(0,e),(1,f),(2,i)] h q) λe h=>gd a true h (λq=>clQ C h F.bI [d,e] q) λd h=>bpQ a d (B false) λa=>gbQ a true h (faV 1 g) λd h=>gbQ a true h (ld1 h d) λd h=>gbQ a true h (ldA h 2 c) λe h=>gd a true h (λq=>clQ C h F.bH [I 1,I 1] q) λf h=>gbQ a true h (ldA h 2 c) λc h=>gd a true h (λq=>cY 3 [.str [],.str []] [(0,e),(1,f),(2,c)] h q) λc h=>gd a true h (λq=>clQ C h F.bI [d,c] q) λc h=>bpQ a c (B false) λa=>q a h
theorem wX(h:fB (CX Y) (out v)):CP Y F.fB [] v:=CPo 3 (aD (nBQ (nRQ [.o,.slot 0]) (nBQ (nRQ [.o,.o,.o,.o,.o,.o,.o,.o,.slot 1]) (nCQ (nRQ [.o,.o,.o,.o,.o,.slot 2]))))) Tryz.func4 h
def fI(C:CC)(a c:V)(q:kQ):Prop:=let h:Hp:=.replicate 2 nnQ
 ef 0 a h λa h=>ef 1 c h λc h=>bnd (ldA h 2 a) λd=>clQ C h F.dD [d] λd h=>e3Q d λd e f=>jn (λd h=>bfQ 1 a λd=>b1Q h d λd=>bfQ 1 c λe=>b1Q h e λe=>bSQ .eql d e λd=>cnd d (bfQ 0 a λa=>b1Q h a λa=>bfQ 0 c λc=>b1Q h c λc=>clQ C h F.fR [a,c] q) (bfQ 0 a λd=>b1Q h d λd=>bfQ 1 c λe=>b1Q h e λe=>clQ C h F.bN [d,e] λd h=>bfQ 0 c λc=>b1Q h c λc=>bfQ 1 a λa=>b1Q h a λa=>clQ C h F.bN [c,a] λa h=>clQ C h F.fR [d,a] q)) λa=>cnd f (bnd (ldA h 2 c) λc=>clQ C h F.dD [c] λc h=>e3Q c λc f g=>cnd g (bIQ .mul d f λa=>bIQ .mul c e λc=>cIQ .lss a c (q (I (-1)) h) (cIQ .gtr a c (q (I 1) h) (q (I 0) h))) (a [] h)) (a [] h)
theorem zj(h:fI (CX Y) t0 t1 (out v)):CP Y F.fI [t0,t1] v:=CPo 2 (nBQ (nRQ [.slot 0,.slot 1]) (nCQ (dP (nJQ [] [2,3])))) Tryz.func73 h
def mD(C:CC)(a c:V)(q:kQ):Prop:=let h:Hp:=.replicate 1 nnQ
 ef 0 a h λa h=>bnd (ldA h 3 a) λd=>cY 1 [nPQ] [(0,c)] h λe h=>clQ C h F.cr [d,e] λd h=>e3Q d λd e f=>nzQ f (q (.tup [nSQ,B false,f]) h) (bfQ 0 a λa=>b1Q h a λa=>bxQ h 1 d (I 0) λd=>b1Q h d λd=>clQ C h F.gS [a,c,d,e] λa h=>e3Q a λa c d=>q (.tup [a,c,d]) h)
theorem C3(h:mD (CX Y) t0 t1 (out v)):CP Y F.mD [t0,t1] v:=CPo 1 (nCQ (nRQ [.slot 0])) Tryz.func12 h
def wM(C:CC)(a c d e:V):aN:=λl h q=>cIQ .lss (ge l 1) e (bxQ h 1 d (ge l 1) λd=>b1Q h d λd=>bfQ 0 a λa=>b1Q h a λa=>clQ C h F.aa0 [a,d] λa h=>e2Q a λa d=>nzQ d (bnd (bld [(0,1),(1,1),(2,1),(3,1),(4,1)] [nPQ,nPQ,.bool false,.bool false,.bool false] []) λa=>stD h 5 c a λ_ h=>q .ret [d] h) (cY 1 [nPQ] [(0,a)] h λa h=>apV false 2 1 24 (ge l 0) a h λa h=>bIQ .add (ge l 1) (I 1) λc=>q .normal [a,c] h)) (q (.exit 0) [ge l 0] h)
def wL(C:CC)(a c d:V):aN:=λl h q=>cIQ .lss (ge l 1) d (bxQ h 1 c (ge l 1) λc=>b1Q h c λc=>bxQ h 1 a c λa=>b1Q h a λa=>cY 1 [nPQ] [(0,a)] h λa h=>apV false 3 1 24 (ge l 0) a h λa h=>bIQ .add (ge l 1) (I 1) λc=>q .normal [a,c] h) (q (.exit 2) [ge l 0] h)
def ii(C:CC)(a c:V)(q:kQ):Prop:=let h:Hp:=.replicate 4 nnQ
 ef 0 a h λa h=>alV 1 [.d nPQ,.d nPQ,.d (.bool false),.d (.bool false),.d (.bool false)] h λd h=>bnd (ldA h 3 a) λe=>clQ C h F.cr [e,c] λe h=>e3Q e λe f g=>nzQ g (bnd (bld [(0,1),(1,1),(2,1),(3,1),(4,1)] [nPQ,nPQ,.bool false,.bool false,.bool false] []) λa=>stD h 5 d a λ_ h=>bnd (ldA h 5 d) λa=>q (.tup [a,g]) h) (blQ c λe=>lp (wM C a d c e) [] h [nSQ,I 0] h (exK [((.exit 0),λe h=>bfQ 0 a λf=>b1Q h f λf=>clQ C h F.Sm [f,ge e 0] λe h=>e2Q e λe f=>nzQ f (bnd (bld [(0,1),(1,1),(2,1),(3,1),(4,1)] [nPQ,nPQ,.bool false,.bool false,.bool false] []) λa=>stD h 5 d a λ_ h=>bnd (ldA h 5 d) λa=>q (.tup [a,f]) h) (blQ e λf=>lp (wL C c e f) [] h [nSQ,I 0] h (exK [((.exit 2),λc h=>bnd (ldA h 3 a) λa=>clQ C h F.cJ [a,ge c 0] λa h=>e2Q a λa c=>stD h 5 d a λ_ h=>bnd (ldA h 5 d) λa=>q (.tup [a,c]) h)]))),(.ret,λa h=>bnd (ldA h 5 d) λc=>q (.tup [c,ge a 0]) h)]))
theorem x9(h:ii (CX Y) t0 t1 (out v)):CP Y F.ii [t0,t1] v:=CPo 4 (nBQ (nRQ [.slot 0,.slot 1]) (dP (nBQ (aD (nCQ (.n (.l [9,32] [1,2,4,30,31] [((.exit 0),[9],[1,2,4]),(.ret,[5],[4])] []) (dP (nCQ (nCQ (Dc (nRQ [.o,.slot 2]))))) .o))) (Dc (nCQ (aD (nCQ (.n (.l [16,65] [1,2,4,63,64] [((.exit 2),[16],[2,4])] []) (dP (nCQ (nCQ (aD (nRQ [.o,.slot 3]))))) .o)))))))) Tryz.func11 h
def fC(C:CC)(a c:V)(q:kQ):Prop:=let h:Hp:=.replicate 2 nnQ
 ef 0 a h λa h=>ef 1 c h λc h=>bfQ 0 a λd=>b1Q h d λd=>bfQ 0 c λe=>b1Q h e λe=>clQ C h F.bI [d,e] λd h=>gbQ d true h (faV 1 a) λe h=>gbQ d true h (ld1 h e) λe h=>gbQ d true h (faV 1 c) λf h=>gbQ d true h (ld1 h f) λf h=>gd d true h (λq=>clQ C h F.bI [e,f] q) λe h=>bpQ d e (B false) λd=>gbQ d true h (faV 2 a) λe h=>gbQ d true h (ld1 h e) λe h=>gbQ d true h (faV 2 c) λf h=>gbQ d true h (ld1 h f) λf h=>gbQ d true h (biB .eql e f) λe h=>bpQ d e (B false) λd=>gbQ d true h (faV 3 a) λe h=>gbQ d true h (ld1 h e) λe h=>gbQ d true h (faV 3 c) λf h=>gbQ d true h (ld1 h f) λf h=>gbQ d true h (biB .eql e f) λe h=>bpQ d e (B false) λd=>gbQ d true h (faV 4 a) λa h=>gbQ d true h (ld1 h a) λa h=>gbQ d true h (faV 4 c) λc h=>gbQ d true h (ld1 h c) λc h=>gbQ d true h (biB .eql a c) λa h=>bpQ d a (B false) λa=>q a h
theorem wY(h:fC (CX Y) t0 t1 (out v)):CP Y F.fC [t0,t1] v:=CPo 2 (nCQ (nRQ [.slot 0,.slot 1])) Tryz.func46 h
def dX(C:CC)(a:V)(q:kQ):Prop:=let h:Hp:=.replicate 1 nnQ
 ef 0 a h λa h=>bnd (ldA h 5 a) λa=>bnd (bld [(0,1),(1,1),(2,1),(3,1),(4,1)] [nPQ,nPQ,.bool false,.bool false,.bool false] []) λc=>clQ C h F.fC [a,c] q
theorem wZ(h:dX (CX Y) t0 (out v)):CP Y F.dX [t0] v:=CPo 1 (nCQ (nRQ [.slot 0])) Tryz.func14 h
def nA(C:CC)(a:V)(q:kQ):Prop:=let h:Hp:=.replicate 2 nnQ
 ef 0 a h λa h=>bnd (ldA h 4 a) λc=>clQ C h F.lS [c] λc h=>nzQ c (q (.tup [B false,c]) h) (bfQ 0 a λc=>bfQ 0 c λc=>b1Q h c λc=>blQ c λc=>clQ C h F.uu [c,I 0] λc h=>e2Q c λc d=>bnd (ldA h 4 a) λa=>ciQ C h F.iE [a,c] 1 λa h=>e2Q a λa d=>bIQ .eql d (I 0) λe=>gqQ e true h a λa h=>gqQ e true h c λc h=>gd e true h (λq=>clQ C h F.jv [c] q) λc h=>gd e true h (λq=>clQ C h F.aR [a,c] q) λa h=>bpQ e a (B false) λa=>q (.tup [a,d]) h)
theorem GN(h:nA (CX Y) t0 (out v)):CP Y F.nA [t0] v:=CPo 2 (nBQ (nRQ [.slot 0]) (dP (nCQ (nRQ [.inl 1])))) Tryz.func16 h
def jK(C:CC)(a c:V):aN:=λl h q=>blQ a λd=>cIQ .lss (ge l 0) d (bxQ h 1 a (ge l 0) λa=>b1Q h a λa=>bxQ h 1 c (ge l 0) λc=>b1Q h c λc=>clQ C h F.ct [a,c] λa h=>bnd (unV .not a) λa=>cnd a (q .ret [B false] h) (bIQ .add (ge l 0) (I 1) λa=>q .normal [a] h)) (q (.exit 0) [] h)
def fA(C:CC)(a c:V)(q:kQ):Prop:=let h:Hp:=[]
 blQ a λd=>blQ c λe=>cIQ .neq d e (q (B false) h) (lp (jK C a c) [] h [I 0] h (exK [((.exit 0),λa h=>q (B true) h),(.ret,λa h=>q (ge a 0) h)]))
theorem wW(h:fA (CX Y) t0 t1 (out v)):CP Y F.fA [t0,t1] v:=CPo 0 (dP (nCQ (aD (nCQ (.n (.l [5] [0,1] [((.exit 0),[],[]),(.ret,[4],[])] []) .o .o))))) Tryz.func87 h
def im(C:CC)(a c:V)(q:kQ):Prop:=let h:Hp:=.replicate 2 nnQ
 ef 0 a h λa h=>ef 1 c h λc h=>bfQ 0 a λd=>b1Q h d λd=>bfQ 0 c λe=>b1Q h e λe=>clQ C h F.ct [d,e] λd h=>gbQ d true h (faV 1 a) λe h=>gbQ d true h (ld1 h e) λe h=>gbQ d true h (faV 1 c) λf h=>gbQ d true h (ld1 h f) λf h=>gd d true h (λq=>clQ C h F.fA [e,f] q) λe h=>bpQ d e (B false) λd=>gbQ d true h (faV 2 a) λa h=>gbQ d true h (ld1 h a) λa h=>gbQ d true h (faV 2 c) λc h=>gbQ d true h (ld1 h c) λc h=>gd d true h (λq=>clQ C h F.fA [a,c] q) λa h=>bpQ d a (B false) λa=>q a h
theorem ye(h:im (CX Y) t0 t1 (out v)):CP Y F.im [t0,t1] v:=CPo 2 (nCQ (nRQ [.slot 0,.slot 1])) Tryz.func53 h
def ip(C:CC)(a c:V)(q:kQ):Prop:=let h:Hp:=.replicate 2 nnQ
 ef 0 a h λa h=>ef 1 c h λc h=>bnd (ldA h 3 a) λa=>bnd (ldA h 3 c) λc=>clQ C h F.im [a,c] q
theorem yf(h:ip (CX Y) t0 t1 (out v)):CP Y F.ip [t0,t1] v:=CPo 2 (nCQ (nRQ [.slot 0,.slot 1])) Tryz.func17 h
def il(C:CC)(a:V):aN:=λl h q=>blQ a λc=>cIQ .lss (ge l 0) c (clQ C h F.bH [I 0,I 1] λc h=>bxQ h 2 a (ge l 0) λa=>stD h 2 a c λ_ h=>bIQ .add (ge l 0) (I 1) λa=>q .normal [a] h) (q (.exit 0) [] h)
def fF(C:CC)(a c:V)(q:kQ):Prop:=let h:Hp:=.replicate 3 nnQ
 ef 0 a h λa h=>ef 1 c h λc h=>bfQ 0 a λa=>b1Q h a λa=>blQ a λa=>mkS 2 32 [.str [],.str []] h a a λa h=>lp (il C a) [] h [I 0] h (exK [((.exit 0),λd h=>bnd (ldA h 2 c) λc=>bxQ h 2 a (I 0) λd=>stD h 2 d c λ_ h=>q a h)])
theorem uU(h:fF (CX Y) t0 t1 (out v)):CP Y F.fF [t0,t1] v:=CPo 3 (nBQ (nRQ [.slot 0,.slot 1]) (nBQ (nRQ [.slot 2]) (nCQ (aD (nCQ (.n (.l [6] [3,5] [((.exit 0),[],[3,5])] []) .o .o)))))) Tryz.func19 h
def jp(C:CC)(a:V)(q:kQ):Prop:=let h:Hp:=.replicate 1 nnQ
 ef 0 a h λa h=>bfQ 2 a λc=>b1Q h c λc=>blQ c λc=>cIQ .neq c (I 2) (q (I 5) h) (bfQ 2 a λa=>b1Q h a λa=>bxQ h 1 a (I 0) λa=>b1Q h a λa=>bxQ h 1 a (I 0) λa=>b1Q h a λa=>cIQ .eql a (I 0) (q (I 26) h) (q (I 0) h))
theorem yN(h:jp (CX Y) t0 (out v)):CP Y F.jp [t0] v:=CPo 1 (nCQ (nRQ [.slot 0])) Tryz.func8 h
def bY(C:CC)(a:V):aN:=λl h q=>blQ a λc=>cIQ .lss (ge l 0) c (bxQ h 2 a (ge l 0) λc=>bfQ 0 c λc=>b1Q h c λc=>bnd (oJ c) λc=>bIQ .gtr c (I 40) λc=>gqQ c false h a λa h=>gqQ c false h (ge l 0) λd h=>gbQ c false h (ixV h 2 a d) λa h=>gbQ c false h (faV 1 a) λa h=>gbQ c false h (ld1 h a) λa h=>gbQ c false h (oJ a) λa h=>gbQ c false h (biI .gtr a (I 40)) λa h=>bpQ c (B true) a λa=>cnd a (q .ret [B true] h) (bIQ .add (ge l 0) (I 1) λa=>q .normal [a] h)) (q (.exit 0) [] h)
def cF(C:CC)(a c d:V)(q:kQ):Prop:=let h:Hp:=.replicate 10 nnQ
 ef 0 a h λa h=>clQ C h F.fB [] λe h=>bnd (unV .not e) λe=>gbQ e false h (ldA h 3 a) λf h=>gd e false h (λq=>clQ C h F.fU [f] q) λf h=>gbQ e false h (unV .not f) λf h=>bpQ e (B true) f λe=>gqQ e false h c λf h=>gbQ e false h (aO f) λf h=>gbQ e false h (biI .gtr f (I 8)) λf h=>bpQ e (B true) f λe=>gqQ e false h d λf h=>gbQ e false h (aO f) λf h=>gbQ e false h (biI .gtr f (I 8)) λf h=>bpQ e (B true) f λe=>cnd e (clQ C h F.fB [] q) (lp (bY C c) [] h [I 0] h (exK [((.exit 0),λe h=>bnd (ldA h 3 a) λa=>clQ C h F.fT [a] λa h=>alV 1 [.d nPQ,.d nPQ,.d nPQ] h λe h=>stD h 3 e a λ_ h=>blQ d λa=>bIQ .eql a (I 0) λa=>jn (λa h=>bnd (ldA h 3 e) λa=>clQ C h F.cT [a] λa h=>bIQ .eql a (I 0) λf=>jn (λa h=>bnd (ldA h 3 e) λf=>clQ C h F.eB [f,c] λf h=>e2Q f λf g=>alV 6 [.d nPQ,.d nPQ,.d nPQ,.d nPQ] h λi h=>stD h 4 i f λ_ h=>cIQ .neq (ge a 0) (I 0) (bnd (ldA h 3 e) λc=>cY 1 [nPQ] [(0,d)] h λf h=>clQ C h F.cJ [c,f] λc h=>e2Q c λc f=>alV 7 [.d nPQ,.d nPQ,.d (.bool false),.d (.bool false),.d (.bool false)] h λj h=>stD h 5 j c λ_ h=>bnd (ldA h 3 e) λc=>cY 1 [nPQ] [(0,d)] h λk h=>clQ C h F.ii [c,k] λc h=>e2Q c λc k=>alV 8 [.d nPQ,.d nPQ,.d (.bool false),.d (.bool false),.d (.bool false)] h λl h=>stD h 5 l c λ_ h=>bnd (ldA h 3 e) λc=>clQ C h F.mD [c,d] λc h=>e3Q c λc m n=>bnd (ldA h 3 e) λe=>cY 1 [nPQ] [(0,d)] h λd h=>clQ C h F.cN [e,d] λd h=>e2Q d λd e=>alV 9 [.d nPQ,.d nPQ,.d (.bool false),.d (.bool false),.d (.bool false)] h λo h=>stD h 5 o d λ_ h=>bfQ 3 i λd=>b1Q h d λd=>blQ d λd=>bIQ .eql d (I 0) λd=>gqQ d true h g λg h=>gqQ d true h (ge a 0) λi h=>gbQ d true h (biI .eql g i) λg h=>bpQ d g (B false) λd=>gbQ d true h (ldA h 5 j) λg h=>gd d true h (λq=>clQ C h F.dX [g] q) λg h=>bpQ d g (B false) λd=>gqQ d true h f λf h=>gqQ d true h (ge a 0) λg h=>gbQ d true h (biI .eql f g) λf h=>bpQ d f (B false) λd=>gbQ d true h (ldA h 5 l) λf h=>gd d true h (λq=>clQ C h F.dX [f] q) λf h=>bpQ d f (B false) λd=>gqQ d true h k λf h=>gqQ d true h (ge a 0) λg h=>gbQ d true h (biI .eql f g) λf h=>bpQ d f (B false) λd=>gqQ d true h c λc h=>gbQ d true h (aO c) λc h=>gbQ d true h (biI .eql c (I 0)) λc h=>bpQ d c (B false) λc=>gqQ c true h m λd h=>gbQ c true h (unV .not d) λd h=>bpQ c d (B false) λc=>gqQ c true h n λd h=>gqQ c true h (ge a 0) λf h=>gbQ c true h (biI .eql d f) λd h=>bpQ c d (B false) λc=>gbQ c true h (ldA h 5 o) λd h=>gd c true h (λq=>clQ C h F.dX [d] q) λd h=>bpQ c d (B false) λc=>gqQ c true h e λd h=>gqQ c true h (ge a 0) λa h=>gbQ c true h (biI .eql d a) λa h=>bpQ c a (B false) λa=>q a h) (bfQ 0 e λa=>b1Q h a λa=>clQ C h F.lY [a,c] λa h=>nzQ a (bfQ 3 i λc=>b1Q h c λc=>blQ c λc=>bIQ .eql c (I 0) λc=>gqQ c true h g λd h=>gqQ c true h a λa h=>gbQ c true h (biI .eql d a) λa h=>bpQ c a (B false) λa=>q a h) (bnd (ldA h 4 i) λa=>clQ C h F.nA [a] λa h=>e2Q a λa d=>bIQ .eql g (I 0) λf=>gbQ f true h (faV 0 i) λg h=>gbQ f true h (ldA h 3 g) λg h=>gbQ f true h (ldA h 3 e) λj h=>gd f true h (λq=>clQ C h F.ip [g,j] q) λg h=>bpQ f g (B false) λf=>gbQ f true h (faV 3 i) λg h=>gbQ f true h (ld1 h g) λg h=>gbQ f true h (aO g) λg h=>gbQ f true h (biI .eql g (I 2)) λg h=>bpQ f g (B false) λf=>gbQ f true h (faV 3 i) λg h=>gbQ f true h (ld1 h g) λg h=>gbQ f true h (ixV h 1 g (I 0)) λg h=>gbQ f true h (ld1 h g) λg h=>gbQ f true h (ldA h 3 e) λj h=>gbQ f true h (faV 2 e) λe h=>gbQ f true h (ld1 h e) λe h=>gbQ f true h (ixV h 1 e (I 0)) λe h=>gbQ f true h (ld1 h e) λe h=>gbQ f true h (ixV h 1 e (I 0)) λe h=>gbQ f true h (ld1 h e) λe h=>gd f true h (λq=>clQ C h F.bH [I 1,e] q) λe h=>gd f true h (λq=>clQ C h F.fF [j,e] q) λe h=>gd f true h (λq=>clQ C h F.bI [g,e] q) λe h=>bpQ f e (B false) λe=>gbQ e true h (faV 3 i) λf h=>gbQ e true h (ld1 h f) λf h=>gbQ e true h (ixV h 1 f (I 1)) λf h=>gbQ e true h (ld1 h f) λf h=>gqQ e true h c λc h=>gd e true h (λq=>clQ C h F.bI [f,c] q) λc h=>bpQ e c (B false) λc=>gqQ c true h a λa h=>bpQ c a (B false) λa=>gqQ a true h d λc h=>gbQ a true h (biI .eql c (I 0)) λc h=>bpQ a c (B false) λa=>q a h))) λc=>cnd f (bnd (ldA h 3 e) λa=>clQ C h F.jp [a] λa h=>c [a] h) (c [a] h)) λc=>cnd a (tQ 2 0 [nPQ] [] h λa h=>bfQ 2 e λd=>sm h e d<|b1Q h d λd=>sp h a [e]<|apV false 3 1 24 a d h λa h=>bfQ 0 e λd=>sm h e d<|b1Q h d λd=>blQ d λd=>mkS 4 8 [.int .i64 0] h d d λd h=>cY 1 [nPQ] [(0,d)] h λd h=>apV false 5 1 24 a d h λa h=>bfQ 2 e λd=>stD h 1 d a λ_ h=>c [] h) (c [] h)),(.ret,λa h=>q (ge a 0) h)]))
def gY:Ann:=(nBQ (nRQ [.slot 0]) (aD (nBQ (aD (nCQ (.n (.l [7] [1,2,3] [((.exit 0),[],[1,2,3]),(.ret,[6],[])] []) .o .o))) (nBQ (nRQ [.o,.slot 1]) (nBQ (aD (.n (.j [] [1,2,8]) (nRQ [.slot 2,.slot 3,.slot 4,.o,.slot 5]) .o)) (aD (nBQ (aD (nJQ [9] [1,2,8])) (nBQ (nRQ [.o,.slot 6]) (nCQ (aD (nCQ (nBQ (nRQ [.o,.o,.slot 7]) (nBQ (nRQ [.o,.o,.slot 8]) (aD (nCQ (nRQ [.o,.o,.slot 9]))))))))))))))))
attribute [local irreducible] bnd gd cal cnd ext cY tQ stD alV alD ef jn lp exK mkS apV cai vg in
theorem qR(C:CC)(t0:V)(t1:V)(t2:V)(q:kkQ):fnD Y C Tryz.f3 10 gY [t0,t1,t2] q=cF C t0 t1 t2 q:=Ur
theorem qP:okB Tryz.prog Tryz.f3 gY=true:=aJ
theorem qQ(h:cF (CX Y) t0 t1 t2 (out v)):CP Y F.cF [t0,t1,t2] v:=
 CP.of (fn:=Tryz.f3) (m:=10) (a:=gY) rfl (λ_=>rfl) Tryz.func3 qP (by rw[qR];exact h)
end Go.Vm
