/- Lemmas. -/
import Derived.Test.YtemefafdcbjanaaGreatDoorQVmC
set_option linter.unusedVariables false
set_option linter.unusedSimpArgs false
set_option maxRecDepth 100000
set_option maxHeartbeats 4000000
namespace Go.Vm
open Go Go.Am Go.Proofs
variable{v t0 t1 t2 t3:V}{h h2:Hp}
theorem CPo{f:FuncId}{fn:Func}(m:Nat)(a:Ann){ds:LwQ}(h3:Y.X.P.funcs[f]?=some fn)(h5:fnD Y (CX Y) fn m a ds (out v))(h1:Y.X.allow f=true:=by rfl)(h2:∀u,Y.X.orc f u=none:=by exact fun _=>rfl)(h4:okB Y.X.P fn a=true:=by decide+kernel):CP Y f ds v:=CP.of h1 h2 h3 h4 h5
abbrev nBQ(a b:Ann):Ann:=.n .x a b
abbrev nCQ(a:Ann):Ann:=.n .x a .o
abbrev nRQ(l:List Act):Ann:=.n (.r l) .o .o
abbrev nJQ(a b:LnQ):Ann:=.n (.j a b) .o .o
abbrev aO(a:Ann):Ann:=.n .x .o a
abbrev d9(a:Ann):Ann:=aO (aO a)
abbrev wG(a:Ann):Ann:=d9 (aO a)
abbrev Qn(a:Ann):Ann:=wG (aO a)
abbrev abB(a:Ann):Ann:=Qn (aO a)
abbrev adO(a:Ann):Ann:=abB (aO a)
abbrev ags(a:Ann):Ann:=adO (aO a)
theorem NI{p:Prop}(h:p:=by repeat' (first|(refine aaS rfl fun _=>?_)|(refine ael rfl fun _ _=>?_)|(refine aaN rfl fun _ _=>?_)|(refine aaM rfl ?_ ?_)|(refine aaH rfl fun _=>?_)|(refine Ub rfl fun _ _=>?_)|(refine aap rfl fun _ _=>?_)|(refine aaX rfl fun _ _=>?_)|(refine Vr rfl fun _ _=>?_)|(refine aec rfl (fun _ _=>?_) fun _=>?_)|(refine adR rfl (fun _ _ _=>?_) fun _ _ _=>?_)|(refine aaK rfl (fun _ _=>?_) ?_)|(refine aax rfl fun _ _=>?_)|(refine aaW rfl fun _ _=>?_)|(refine aaO rfl fun _ _=>?_)|(refine T9 rfl fun _ _=>?_)|(refine aaY rfl fun _ _=>?_)|(refine TD rfl fun _=>?_)|exact rfl|(refine Uf rfl ?_))):p:=h
theorem aao{p:Prop}(h:p:=by repeat' (first|(refine aaS rfl fun _=>?_)|(refine ael rfl fun _ _=>?_)|(refine aaN rfl fun _ _=>?_)|(refine aaM rfl ?_ ?_)|(refine aaH rfl fun _=>?_)|(refine Ub rfl fun _ _=>?_)|(refine aap rfl fun _ _=>?_)|(refine aaX rfl fun _ _=>?_)|(refine Vr rfl fun _ _=>?_)|(refine aec rfl (fun _ _=>?_) fun _=>?_)|(refine adR rfl (fun _ _ _=>?_) fun _ _ _=>?_)|(refine aaK rfl (fun _ _=>?_) ?_)|(refine aax rfl fun _ _=>?_)|(refine aaW rfl fun _ _=>?_)|(refine aaO rfl fun _ _=>?_)|(refine aeK rfl fun _ _=>?_)|(refine T9 rfl fun _ _=>?_)|(refine aaY rfl fun _ _=>?_)|(refine TD rfl fun _=>?_)|exact rfl|(refine Uf rfl ?_))):p:=h
abbrev kQ:=kkQ
abbrev clQ(C:CC)(h:Hp)(f:FuncId)(a:LwQ)(k:kQ):Prop:=cal C.p h (.fn f [] []) a k
abbrev ciQ(C:CC)(h:Hp)(f:FuncId)(a:LwQ)(s:Nat)(k:kQ):Prop:=cai C.i h (.fn f [] []) a s k
abbrev bIQ(o:BinOp)(x y:V)(k:V->Prop):Prop:=bnd (biI o x y) k
abbrev bSQ(o:BinOp)(x y:V)(k:V->Prop):Prop:=bnd (biS o x y) k
abbrev b1Q(h:Hp)(x:V)(k:V->Prop):Prop:=bnd (ld1 h x) k
abbrev bxQ(h:Hp)(n:Nat)(x y:V)(k:V->Prop):Prop:=bnd (ixV h n x y) k
abbrev blQ(x:V)(k:V->Prop):Prop:=bnd (aW x) k
abbrev bfQ(n:Nat)(x:V)(k:V->Prop):Prop:=bnd (faV n x) k
abbrev bpQ(x y z:V)(k:V->Prop):Prop:=bnd (oM x y z) k
abbrev cIQ(o:BinOp)(x y:V)(A B:Prop):Prop:=bnd (biI o x y) fun c=>cnd c A B
abbrev nzQ(x:V)(A B:Prop):Prop:=bnd (biI .neq x (I 0)) fun c=>cnd c A B
abbrev gbQ(c:V)(w:Bool)(h:Hp)(o:Option V)(k:kQ):Prop:=gd c w h (fun q=>bnd o fun v=>q v h) k
abbrev gqQ(c:V)(w:Bool)(h:Hp)(x:V)(k:kQ):Prop:=gd c w h (fun q=>q x h) k
abbrev e2Q(x:V)(k:V->V->Prop):Prop:=ext x 0 fun a=>ext x 1 fun b=>k a b
abbrev e3Q(x:V)(k:V->V->V->Prop):Prop:=ext x 0 fun a=>ext x 1 fun b=>ext x 2 fun c=>k a b c
abbrev nSQ:V:=.d nPQ
abbrev a1Q(s:Nat)(x y:V)(h:Hp)(k:kQ):Prop:=fI 1 [.int .i64 0] [(0,y)] h fun v h=>apV false s 1 8 x v h k
def aH(C:CC)(a c:V)(q:kQ):Prop:=let h:Hp:=.replicate 2 nnQ
 alV 0 [.d (.str []),.d (.str [])] h fun d h=>clQ C h F.kM [a,c] fun a h=>e2Q a fun a c=>alV 1 [.d (.str []),.d (.str [])] h fun c h=>stD h 2 c a fun _ h=>bnd (ldA h 2 c) fun a=>stD h 2 d a fun _ h=>bnd (ldA h 2 d) fun a=>q a h
theorem wD(h:aH (CX Y) t0 t1 (out v)):CP Y F.aH [t0,t1] v:=CPo 2 (nBQ (nRQ [.slot 0]) (nCQ (nRQ [.o,.slot 1]))) Tryz.func10 h
def cM(C:CC)(q:kQ):Prop:=let h:Hp:=.replicate 3 nnQ
 alV 0 [.d nPQ,.d nPQ,.d nPQ,.d nPQ] h fun a h=>clQ C h F.aH [I 0,I 1] fun c h=>clQ C h F.aH [I 1,I 1] fun d h=>alV 1 [.d (.str []),.d (.str [])] h fun e h=>alV 2 [.d (.str []),.d (.str [])] h fun f h=>stD h 2 e c fun _ h=>stD h 2 f d fun _ h=>fI 3 [.int .i64 0] [(0,(I 2)),(1,(I 3)),(2,(I 5))] h fun c h=>fI 3 [.int .i64 0] [(0,(I 4)),(1,(I (-4))),(2,(I 1))] h fun d h=>fI 1 [nPQ] [(0,d)] h fun d h=>fI 3 [.int .i64 0] [(0,(I 1)),(1,(I 0)),(2,(I (-4)))] h fun g h=>fI 3 [.int .i64 0] [(0,(I 0)),(1,(I 1)),(2,(I 4))] h fun i h=>fI 2 [nPQ] [(0,g),(1,i)] h fun g h=>bnd (bld [(0,1),(1,1),(2,1)] [nPQ,nPQ,nPQ] [(0,c),(1,d),(2,g)]) fun c=>bnd (ldA h 2 f) fun d=>bnd (ldA h 2 e) fun g=>bnd (ldA h 2 e) fun i=>fI 3 [.str [],.str []] [(0,d),(1,g),(2,i)] h fun d h=>bnd (ldA h 2 f) fun f=>bnd (ldA h 2 e) fun e=>soC C.p h (.fn F.aH [] []) [I 1,I 4] fun g h=>fI 3 [.str [],.str []] [(0,f),(1,e),(2,g)] h fun e h=>fI 2 [nPQ] [(0,d),(1,e)] h fun d h=>bnd (bld [(0,3),(3,1)] [nPQ,nPQ,nPQ,nPQ] [(0,c),(1,d)]) fun c=>stD h 4 a c fun _ h=>bnd (ldA h 4 a) fun a=>q a h
theorem ta(h:cM (CX Y) (out v)):CP Y F.cM [] v:=CPo 3 (nBQ (nRQ [.slot 0]) (nCQ (nRQ [.o,.o,.slot 1,.slot 2]))) Tryz.func12 h
def dP(C:CC)(q:kQ):Prop:=let h:Hp:=[]
 fI 3 [.int .i64 0] [(0,(I (-1))),(1,(I 1)),(2,(I 0))] h fun a h=>clQ C h F.aH [I 1,I 1] fun c h=>bnd (bld [(0,1),(1,2)] [nPQ,.str [],.str []] [(0,a),(1,c)]) fun a=>fI 3 [.int .i64 0] [(0,(I 1)),(1,(I 1)),(2,(I (-1)))] h fun c h=>clQ C h F.aH [I 2,I 1] fun d h=>bnd (bld [(0,1),(1,2)] [nPQ,.str [],.str []] [(0,c),(1,d)]) fun c=>fI 3 [.int .i64 0] [(0,(I (-2))),(1,(I 0)),(2,(I 1))] h fun d h=>clQ C h F.aH [I 1,I 1] fun e h=>bnd (bld [(0,1),(1,2)] [nPQ,.str [],.str []] [(0,d),(1,e)]) fun d=>fI 3 [nPQ,.str [],.str []] [(0,a),(1,c),(2,d)] h fun a h=>clQ C h F.cM [] fun c h=>bxQ h 3 a (I 0) fun d=>bnd (ldA h 3 d) fun d=>clQ C h F.pX [c,d] fun c h=>e2Q c fun c d=>clQ C h F.cM [] fun e h=>clQ C h F.ij [e,a] fun e h=>e3Q e fun e f g=>clQ C h F.cM [] fun i h=>clQ C h F.m8 [i,a] fun a h=>e2Q a fun a i=>bIQ .eql d (I 0) fun d=>gqQ d true h c fun j h=>gbQ d true h (aW j) fun j h=>gbQ d true h (biI .eql j (I 3)) fun j h=>bpQ d j (B false) fun d=>gqQ d true h c fun j h=>gbQ d true h (ixV h 2 j (I 0)) fun j h=>gbQ d true h (ldA h 2 j) fun j h=>gd d true h (fun q=>clQ C h F.aH [I (-1),I 1] q) fun k h=>gbQ d true h (biA [.str [],.str []] .eql j k) fun j h=>bpQ d j (B false) fun d=>gqQ d true h c fun j h=>gbQ d true h (ixV h 2 j (I 1)) fun j h=>gbQ d true h (ldA h 2 j) fun j h=>gd d true h (fun q=>clQ C h F.aH [I 1,I 1] q) fun k h=>gbQ d true h (biA [.str [],.str []] .eql j k) fun j h=>bpQ d j (B false) fun d=>gqQ d true h c fun c h=>gbQ d true h (ixV h 2 c (I 2)) fun c h=>gbQ d true h (ldA h 2 c) fun c h=>gd d true h (fun q=>clQ C h F.aH [I (-1),I 4] q) fun j h=>gbQ d true h (biA [.str [],.str []] .eql c j) fun c h=>bpQ d c (B false) fun c=>gqQ c true h g fun d h=>gbQ c true h (biI .eql d (I 0)) fun d h=>bpQ c d (B false) fun c=>gqQ c true h e fun d h=>gbQ c true h (aW d) fun d h=>gbQ c true h (biI .eql d (I 3)) fun d h=>bpQ c d (B false) fun c=>gqQ c true h e fun d h=>gbQ c true h (ixV h 2 d (I 0)) fun d h=>gbQ c true h (ldA h 2 d) fun d h=>gd c true h (fun q=>clQ C h F.aH [I (-2),I 1] q) fun e h=>gbQ c true h (biA [.str [],.str []] .eql d e) fun d h=>bpQ c d (B false) fun c=>gqQ c true h f fun d h=>gbQ c true h (aW d) fun d h=>gbQ c true h (biI .eql d (I 1)) fun d h=>bpQ c d (B false) fun c=>gqQ c true h f fun d h=>gbQ c true h (ixV h 1 d (I 0)) fun d h=>gbQ c true h (ld1 h d) fun d h=>gbQ c true h (biI .eql d (I 1)) fun d h=>bpQ c d (B false) fun c=>gqQ c true h i fun d h=>gbQ c true h (biI .eql d (I 0)) fun d h=>bpQ c d (B false) fun c=>gqQ c true h a fun d h=>gbQ c true h (aW d) fun d h=>gbQ c true h (biI .eql d (I 1)) fun d h=>bpQ c d (B false) fun c=>gqQ c true h a fun a h=>gbQ c true h (ixV h 1 a (I 0)) fun a h=>gbQ c true h (ld1 h a) fun a h=>gbQ c true h (biI .eql a (I 2)) fun a h=>bpQ c a (B false) fun a=>q a h
def mT:Ann:=.o
attribute [local irreducible] bnd gd cal cnd ext fI xp stD alV alD fJ jn lp exK mkS apV cai yf in
theorem vh(C:CC)(q:kkQ):fnD Y C Tryz.f4 0 mT [] q=dP C q:=NI
theorem vf:okB Tryz.prog Tryz.f4 mT=true:=aF
theorem vg(h:dP (CX Y) (out v)):CP Y F.dP [] v:=
 CP.of (fn:=Tryz.f4) (m:=0) (a:=mT) rfl (fun _=>rfl) Tryz.func4 vf (by rw[vh];exact h)
def cY(C:CC)(a c d:V)(q:kQ):Prop:=let h:Hp:=[]
 clQ C h F.dP [] fun e h=>bnd (unV .not e) fun e=>gqQ e false h a fun f h=>gbQ e false h (aW f) fun f h=>gbQ e false h (biI .gtr f (I 8)) fun f h=>bpQ e (B true) f fun e=>gqQ e false h c fun f h=>gd e false h (fun q=>clQ C h F.fY [f] q) fun f h=>gbQ e false h (unV .not f) fun f h=>bpQ e (B true) f fun e=>gqQ e false h d fun f h=>gd e false h (fun q=>clQ C h F.fY [f] q) fun f h=>gbQ e false h (unV .not f) fun f h=>bpQ e (B true) f fun e=>cnd e (clQ C h F.dP [] q) (clQ C h F.lj [a,c] fun e h=>clQ C h F.gj [a,c] fun a h=>bIQ .eql e a fun a=>gqQ a true h c fun e h=>gqQ a true h d fun f h=>gd a true h (fun q=>clQ C h F.lh [e,f] q) fun e h=>gqQ a true h c fun f h=>gqQ a true h d fun d h=>gd a true h (fun q=>clQ C h F.f9 [f,d] q) fun d h=>gbQ a true h (biB .eql e d) fun d h=>bpQ a d (B false) fun a=>gqQ a true h c fun d h=>gqQ a true h c fun c h=>gd a true h (fun q=>clQ C h F.lh [d,c] q) fun c h=>bpQ a c (B false) fun a=>q a h)
def iy:Ann:=.o
theorem qG(C:CC)(t0:V)(t1:V)(t2:V)(q:kkQ):fnD Y C Tryz.f3 0 iy [t0,t1,t2] q=cY C t0 t1 t2 q:=by kernel_rfl
theorem qE:okB Tryz.prog Tryz.f3 iy=true:=aF
theorem qF(h:cY (CX Y) t0 t1 t2 (out v)):CP Y F.cY [t0,t1,t2] v:=
 CP.of (fn:=Tryz.f3) (m:=0) (a:=iy) rfl (fun _=>rfl) Tryz.func3 qE (by rw[qG];exact h)
def bv(C:CC)(b:Nat)(a c d:V):aP:=fun l h q=>bIQ .gtr (ge l 0) c fun c=>gqQ c true h d fun d h=>gqQ c true h a fun e h=>gqQ c true h (ge l 0) fun f h=>gbQ c true h (ixV h 5 e f) fun e h=>gbQ c true h (ldA h 5 e) fun e h=>gqQ c true h a fun f h=>gqQ c true h (ge l 0) fun g h=>gbQ c true h (biI .sub g (I 1)) fun g h=>gbQ c true h (ixV h 5 f g) fun f h=>gbQ c true h (ldA h 5 f) fun f h=>gd c true h (fun q=>cal C.p h d [e,f] q) fun d h=>gbQ c true h (biI .lss d (I 0)) fun d h=>bpQ c d (B false) fun c=>cnd c (bIQ .sub (ge l 0) (I 1) fun c=>bIQ .sub (ge l 0) (I 1) fun d=>bxQ h 5 a d fun d=>bnd (ldA h 5 d) fun d=>bxQ h 5 a (ge l 0) fun e=>bnd (ldA h 5 e) fun e=>bxQ h 5 a (ge l 0) fun f=>stD h 5 f d fun _ h=>bxQ h 5 a c fun a=>stD h 5 a e fun _ h=>bIQ .sub (ge l 0) (I 1) fun a=>q .normal [a] h) (q (.exit 2) [] h)
def bw(C:CC)(b:Nat)(a c d e:V):aP:=fun l h q=>cIQ .lss (ge l 0) d (lp (bv C b a c e) [] h [ge l 0] h (exK [((.exit 2),fun a h=>bIQ .add (ge l 0) (I 1) fun a=>q .normal [a] h)])) (q (.exit 0) [] h)
def aB(C:CC)(b:Nat)(h:Hp)(a c d e:V)(q:kQ):Prop:=let h:Hp:=h++List.replicate 0 nnQ
 bIQ .add c (I 1) fun f=>lp (bw C b a c d e) [] h [f] h (exK [((.exit 0),fun a h=>q (.tup []) h)])
def cL(b:Nat):Ann:=(.n .x .o (.n .x (.n (.l [8] [0,1,2,3] [((.exit 0),[],[])] []) (.n .x .o (.n .x (.n .x (.n .x .o (.n .x (.n (.l [9] [0,1,2,3,8] [((.exit 2),[],[0,1,2,3,8])] []) .o .o) .o)) .o) .o)) .o) .o))
theorem j6(C:CC)(h:Hp)(t0:V)(t1:V)(t2:V)(t3:V)(q:kkQ):fnI Y C Tryz.f89 0 cL [t0,t1,t2,t3] h q=aB C h.length h t0 t1 t2 t3 q:=by rfl
theorem jZ(b:Nat):okB Tryz.prog Tryz.f89 (cL b)=true:=by rfl
theorem j5(hh:aB (CX Y) h.length h t0 t1 t2 t3 (mW h.length v h2)):CI Y F.aB [t0,t1,t2,t3] h v h2:=
 CI.of (fn:=Tryz.f89) (m:=0) (a:=cL) rfl (fun _=>rfl) Tryz.func89 (jZ _) (by rw[j6];exact hh)
def gr(C:CC)(b:Nat)(a c d e:V):aP:=fun l h q=>cIQ .leq (ge l 1) c (ciQ C h F.aB [a,ge l 0,ge l 1,d] (b+0) fun a h=>bIQ .add (ge l 1) e fun a=>q .normal [ge l 1,a] h) (q (.exit 0) [ge l 0] h)
def mI(C:CC)(b:Nat)(a c d e:V):aP:=fun l h q=>cIQ .leq (ge l 1) c (bIQ .add (ge l 0) e fun c=>clQ C h F.gB [a,ge l 0,c,ge l 1,d] fun a h=>bIQ .mul (I 2) e fun a=>bIQ .add (ge l 1) a fun a=>q .normal [ge l 1,a] h) (q (.exit 4) [ge l 0] h)
def gn(C:CC)(b:Nat)(a c d:V):aP:=fun l h q=>cIQ .lss (ge l 0) c (bIQ .mul (I 2) (ge l 0) fun e=>lp (mI C b a c d (ge l 0)) [] h [I 0,e] h (exK [((.exit 4),fun e h=>bIQ .add (ge e 0) (ge l 0) fun f=>bIQ .lss f c fun g=>jn (fun a h=>bIQ .mul (ge l 0) (I 2) fun a=>q .normal [a] h) fun i=>cnd g (clQ C h F.gB [a,ge e 0,f,c,d] fun a h=>i [] h) (i [] h))])) (q (.exit 2) [] h)
def aS(C:CC)(b:Nat)(h:Hp)(a c d:V)(q:kQ):Prop:=let h:Hp:=h++List.replicate 2 nnQ
 lp (gr C b a c d (I 20)) [(b+0)] h [I 0,I 20] h (exK [((.exit 0),fun e h=>ciQ C h F.aB [a,ge e 0,c,d] (b+1) fun e h=>lp (gn C b a c d) [] h [I 20] h (exK [((.exit 2),fun a h=>q (.tup []) h)]))])
def dN(b:Nat):Ann:=(.n .x .o (.n .x .o (.n .x (.n .x (.n (.l [7,8] [0,1,2,6] [((.exit 0),[7],[0,1,2,6])] [(b+0)]) (.n .x .o (.n .x (.n .x (.n (.r [.inl (b+0)]) .o .o) .o) .o)) .o) .o) (.n .x (.n (.r [.inl (b+1)]) .o .o) (.n .x (.n (.l [6] [0,1,2] [((.exit 2),[],[])] []) (.n .x .o (.n .x (.n .x .o (.n .x (.n .x (.n (.l [7,8] [0,1,2,6] [((.exit 4),[7],[0,1,2,6])] []) .o .o) .o) (.n .x (.n .x .o (.n .x .o (.n (.j [] [0,1,2,6]) .o .o))) .o))) .o)) .o) .o)))))
theorem mP(C:CC)(h:Hp)(t0:V)(t1:V)(t2:V)(q:kkQ):fnI Y C Tryz.f63 2 dN [t0,t1,t2] h q=aS C h.length h t0 t1 t2 q:=by rfl
theorem mN(b:Nat):okB Tryz.prog Tryz.f63 (dN b)=true:=by rfl
theorem mO(hh:aS (CX Y) h.length h t0 t1 t2 (mW h.length v h2)):CI Y F.aS [t0,t1,t2] h v h2:=
 CI.of (fn:=Tryz.f63) (m:=2) (a:=dN) rfl (fun _=>rfl) Tryz.func63 (mN _) (by rw[mP];exact hh)
def ak(C:CC)(b:Nat)(h:Hp)(a c:V)(q:kQ):Prop:=let h:Hp:=h++List.replicate 1 nnQ
 blQ a fun d=>ciQ C h F.aS [a,d,c] (b+0) fun a h=>q (.tup []) h
def bJ(b:Nat):Ann:=(.n (.r [.inl (b+0)]) .o .o)
theorem gJ(C:CC)(h:Hp)(t0:V)(t1:V)(q:kkQ):fnI Y C Tryz.f42 1 bJ [t0,t1] h q=ak C h.length h t0 t1 q:=by rfl
theorem gH(b:Nat):okB Tryz.prog Tryz.f42 (bJ b)=true:=by rfl
theorem gI(hh:ak (CX Y) h.length h t0 t1 (mW h.length v h2)):CI Y F.ak [t0,t1] h v h2:=
 CI.of (fn:=Tryz.f42) (m:=1) (a:=bJ) rfl (fun _=>rfl) Tryz.func42 (gH _) (by rw[gJ];exact hh)
def nM(C:CC)(a c d:V):aP:=fun l h q=>cIQ .lss (ge l 1) d (bxQ h 1 c (ge l 1) fun c=>b1Q h c fun c=>bxQ h 3 a (ge l 1) fun a=>bnd (ldA h 3 a) fun a=>bnd (bld [(0,3),(3,1),(4,1)] [nPQ,.str [],.str [],nPQ,.int .i64 0] [(0,a),(1,c),(2,(ge l 1))]) fun a=>fI 1 [nPQ,.str [],.str [],nPQ,.int .i64 0] [(0,a)] h fun a h=>apV false 1 5 88 (ge l 0) a h fun a h=>bIQ .add (ge l 1) (I 1) fun c=>q .normal [a,c] h) (q (.exit 0) [ge l 0] h)
def lY(C:CC)(a c:V)(q:kQ):Prop:=let h:Hp:=.replicate 3 nnQ
 fJ 0 a h fun a h=>bnd (ldA h 4 a) fun d=>clQ C h F.m9 [d,c] fun d h=>e2Q d fun d e=>nzQ e (q (.tup [nSQ,e]) h) (blQ d fun e=>lp (nM C c d e) [] h [nSQ,I 0] h (exK [((.exit 0),fun c h=>ciQ C h F.ak [ge c 0,(.fn F.dw [] [a])] 2 fun a h=>q (.tup [ge c 0,I 0]) h)]))
theorem BA(h:lY (CX Y) t0 t1 (out v)):CP Y F.lY [t0,t1] v:=CPo 3 (nBQ (nRQ [.slot 0]) (wG (nBQ (aO (nCQ (.n (.l [8,22] [1,2,20,21] [((.exit 0),[8],[2])] []) (d9 (nCQ (nCQ (aO (nRQ [.o,.slot 1]))))) .o))) (nCQ (nRQ [.inl 2]))))) Tryz.func26 h
def dw(C:CC)(a c d:V)(q:kQ):Prop:=let h:Hp:=.replicate 2 nnQ
 fJ 0 a h fun a h=>fJ 1 c h fun c h=>bfQ 0 d fun d=>bfQ 0 d fun d=>b1Q h d fun d=>bfQ 3 c fun c=>b1Q h c fun c=>bfQ 3 a fun a=>b1Q h a fun a=>clQ C h F.cj [d,c,a] fun a h=>e2Q a fun a c=>q a h
theorem xC(h:dw (CX Y) t0 t1 t2 (out v)):CP Y F.dw [t0,t1,t2] v:=CPo 2 (nCQ (nRQ [.slot 0,.slot 1])) Tryz.func43 h
def k9(C:CC)(a c d:V):aP:=fun l h q=>cIQ .lss (ge l 1) d (jn (fun a h=>bIQ .add (ge l 1) (I 1) fun c=>q .normal [ge a 0,c] h) fun d=>bxQ h 5 c (ge l 1) fun c=>bnd (ldA h 5 c) fun c=>alV 1 [.d nPQ,.d (.str []),.d (.str []),.d nPQ,.d (.int .i64 0)] h fun e h=>stD h 5 e c fun _ h=>bfQ 3 e fun c=>b1Q h c fun c=>bxQ h 5 a (I 0) fun a=>bfQ 3 a fun a=>b1Q h a fun a=>clQ C h F.pL [c,a] fun a h=>jn (fun a h=>d [ge a 0] h) fun c=>cnd a (bfQ 4 e fun a=>b1Q h a fun a=>a1Q 2 (ge l 0) a h fun a h=>c [a] h) (c [ge l 0] h)) (q (.exit 0) [ge l 0] h)
def ij(C:CC)(a c:V)(q:kQ):Prop:=let h:Hp:=.replicate 3 nnQ
 fJ 0 a h fun a h=>bnd (ldA h 4 a) fun a=>clQ C h F.lY [a,c] fun a h=>e2Q a fun a c=>nzQ c (q (.tup [nSQ,nSQ,c]) h) (blQ a fun c=>cIQ .eql c (I 0) (q (.tup [nSQ,nSQ,I 13]) h) (blQ a fun c=>lp (k9 C a a c) [1] h [nSQ,I 0] h (exK [((.exit 0),fun c h=>bxQ h 5 a (I 0) fun a=>bfQ 3 a fun a=>b1Q h a fun a=>q (.tup [a,ge c 0,I 0]) h)])))
theorem yM(h:ij (CX Y) t0 t1 (out v)):CP Y F.ij [t0,t1] v:=CPo 3 (nBQ (nRQ [.slot 0]) (wG (nCQ (aO (nCQ (.n (.l [5,24] [7,22,23] [((.exit 0),[5],[7])] [1]) (d9 (nCQ (.n (.j [5] [7,22,23,24]) (nBQ (nRQ [.slot 1]) (aO (.n (.j [5] [7,22,23,24]) (nRQ [.o,.slot 2]) .o))) .o))) .o)))))) Tryz.func13 h
def p9(C:CC)(a c d e:V):aP:=fun l h q=>cIQ .lss (ge l 1) e (bxQ h 3 d (ge l 1) fun d=>bnd (ldA h 3 d) fun d=>alV 1 [.d nPQ,.d (.str []),.d (.str [])] h fun e h=>stD h 3 e d fun _ h=>bnd (ldA h 4 a) fun a=>bfQ 0 e fun d=>b1Q h d fun d=>clQ C h F.kP [a,d] fun a h=>e2Q a fun a d=>bIQ .eql d (I 0) fun f=>jn (fun a h=>bIQ .eql (ge a 1) (I 0) fun d=>jn (fun a h=>cIQ .neq (ge a 1) (I 0) (q .ret [nSQ,ge a 1] h) (fI 1 [nPQ] [(0,(ge a 0))] h fun a h=>apV false 2 1 24 (ge l 0) a h fun a h=>bIQ .add (ge l 1) (I 1) fun c=>q .normal [a,c] h)) fun f=>cnd d (bfQ 1 e fun d=>bnd (ldA h 2 d) fun d=>clQ C h F.ou [c,ge a 0,d] fun a h=>e2Q a fun a c=>f [a,c] h) (f [ge a 0,ge a 1] h)) fun e=>cnd f (clQ C h F.rz [c,a] fun a h=>e2Q a fun a c=>e [a,c] h) (e [a,d] h)) (q (.exit 0) [ge l 0] h)
def m9(C:CC)(a c:V)(q:kQ):Prop:=let h:Hp:=.replicate 3 nnQ
 fJ 0 a h fun a h=>bnd (ldA h 4 a) fun d=>clQ C h F.kR [d] fun d h=>nzQ d (q (.tup [nSQ,d]) h) (bfQ 0 a fun d=>bfQ 0 d fun d=>b1Q h d fun d=>clQ C h F.lj [d,c] fun e h=>nzQ e (q (.tup [nSQ,e]) h) (blQ c fun e=>lp (p9 C a d c e) [1] h [nSQ,I 0] h (exK [((.exit 0),fun a h=>q (.tup [ge a 0,I 0]) h),(.ret,fun a h=>q (.tup [ge a 0,ge a 1]) h)])))
theorem Ih(h:m9 (CX Y) t0 t1 (out v)):CP Y F.m9 [t0,t1] v:=CPo 3 (nBQ (nRQ [.slot 0]) (Qn (nCQ (aO (nCQ (.n (.l [9,30] [2,7,28,29] [((.exit 0),[9],[]),(.ret,[4,5],[])] [1]) (d9 (nCQ (nCQ (nBQ (nRQ [.slot 1]) (aO (nBQ (aO (nJQ [12,13] [2,7,9,11,28,29,30])) (nBQ (aO (nJQ [12,13] [2,7,9,28,29,30])) (aO (nRQ [.o,.slot 2]))))))))) .o)))))) Tryz.func25 h
def pX(C:CC)(a c:V)(q:kQ):Prop:=let h:Hp:=.replicate 2 nnQ
 fJ 0 a h fun a h=>fJ 1 c h fun c h=>bnd (ldA h 4 a) fun a=>bnd (ldA h 3 c) fun c=>fI 1 [nPQ,.str [],.str []] [(0,c)] h fun c h=>clQ C h F.m9 [a,c] fun a h=>e2Q a fun a c=>nzQ c (q (.tup [nSQ,c]) h) (bxQ h 1 a (I 0) fun a=>b1Q h a fun a=>q (.tup [a,I 0]) h)
theorem K5(h:pX (CX Y) t0 t1 (out v)):CP Y F.pX [t0,t1] v:=CPo 2 (nCQ (nRQ [.slot 0,.slot 1])) Tryz.func11 h
def pu(C:CC)(a c:V):aP:=fun l h q=>cIQ .lss (ge l 1) c (jn (fun a h=>bIQ .add (ge l 1) (I 1) fun c=>q .normal [ge a 0,c] h) fun c=>bxQ h 1 a (ge l 1) fun a=>b1Q h a fun a=>clQ C h F.aJ [a,(.fn F.jd [] [])] fun a h=>bnd (unV .not a) fun a=>jn (fun a h=>c [ge a 0] h) fun c=>cnd a (a1Q 1 (ge l 0) (ge l 1) h fun a h=>c [a] h) (c [ge l 0] h)) (q (.exit 0) [ge l 0] h)
def m8(C:CC)(a c:V)(q:kQ):Prop:=let h:Hp:=.replicate 2 nnQ
 fJ 0 a h fun a h=>bnd (ldA h 4 a) fun a=>clQ C h F.m9 [a,c] fun a h=>e2Q a fun a c=>nzQ c (q (.tup [nSQ,c]) h) (blQ a fun c=>lp (pu C a c) [] h [nSQ,I 0] h (exK [((.exit 0),fun a h=>q (.tup [ge a 0,I 0]) h)]))
theorem Fs(h:m8 (CX Y) t0 t1 (out v)):CP Y F.m8 [t0,t1] v:=CPo 2 (nBQ (nRQ [.slot 0]) (wG (nCQ (aO (nCQ (.n (.l [8,22] [20,21] [((.exit 0),[8],[])] []) (d9 (nCQ (.n (.j [8] [20,21,22]) (d9 (.n (.j [8] [20,21,22]) (nRQ [.o,.slot 1]) .o)) .o))) .o)))))) Tryz.func14 h
def jd(C:CC)(a:V)(q:kQ):Prop:=let h:Hp:=.replicate 1 nnQ
 fJ 0 a h fun a h=>bfQ 0 a fun a=>b1Q h a fun a=>bSQ .neq a (.d (.str [48])) fun a=>q a h
theorem Aj(h:jd (CX Y) t0 (out v)):CP Y F.jd [t0] v:=CPo 1 (nCQ (nRQ [.slot 0])) Tryz.func29 h
def oi(C:CC)(a c d:V):aP:=fun l h q=>cIQ .lss (ge l 0) d (bxQ h 3 c (ge l 0) fun c=>bnd (ldA h 3 c) fun c=>alV 0 [.d nPQ,.d (.str []),.d (.str [])] h fun d h=>stD h 3 d c fun _ h=>bfQ 0 d fun c=>b1Q h c fun c=>clQ C h F.kK [a,c] fun a h=>nzQ a (q .ret [a] h) (bfQ 1 d fun a=>bnd (ldA h 2 a) fun a=>alV 1 [.d (.str []),.d (.str [])] h fun c h=>stD h 2 c a fun _ h=>bnd (ldA h 2 c) fun a=>clQ C h F.eE [a] fun a h=>nzQ a (q .ret [I 2] h) (bnd (ldA h 2 c) fun a=>clQ C h F.iN [a] fun a h=>cIQ .leq a (I 0) (q .ret [I 3] h) (bfQ 0 c fun a=>b1Q h a fun a=>clQ C h F.eQ [a] fun a h=>bnd (ju a) fun a=>bIQ .gtr a (I 30) fun a=>gbQ a false h (faV 1 c) fun c h=>gbQ a false h (ld1 h c) fun c h=>gbQ a false h (ju c) fun c h=>gbQ a false h (biI .gtr c (I 30)) fun c h=>bpQ a (B true) c fun a=>cnd a (q .ret [I 4] h) (bIQ .add (ge l 0) (I 1) fun a=>q .normal [a] h))))) (q (.exit 0) [] h)
def lj(C:CC)(a c:V)(q:kQ):Prop:=let h:Hp:=.replicate 2 nnQ
 clQ C h F.eT [a] fun d h=>nzQ d (q d h) (blQ c fun d=>cIQ .gtr d (I 60) (q (I 4) h) (blQ c fun d=>lp (oi C a c d) [0,1] h [I 0] h (exK [((.exit 0),fun a h=>q (I 0) h),(.ret,fun a h=>q (ge a 0) h)])))
theorem En(h:lj (CX Y) t0 t1 (out v)):CP Y F.lj [t0,t1] v:=CPo 2 (wG (nCQ (aO (nCQ (.n (.l [20] [0,18,19] [((.exit 0),[],[]),(.ret,[4],[])] [0,1]) (d9 (nCQ (nCQ (nBQ (nRQ [.slot 0]) (aO (nCQ (nRQ [.slot 1]))))))) .o))))) Tryz.func6 h
def lh(C:CC)(a c:V)(q:kQ):Prop:=let h:Hp:=[]
 clQ C h F.ax [a,c,(.fn F.fN [] [])] q
theorem Em(h:lh (CX Y) t0 t1 (out v)):CP Y F.lh [t0,t1] v:=CPo 0 .o Tryz.func8 h
def fN(C:CC)(a c:V)(q:kQ):Prop:=let h:Hp:=.replicate 2 nnQ
 fJ 0 a h fun a h=>fJ 1 c h fun c h=>bfQ 1 a fun d=>bnd (ldA h 2 d) fun d=>bfQ 1 c fun e=>bnd (ldA h 2 e) fun e=>bnd (biA [.str [],.str []] .eql d e) fun d=>gbQ d true h (faV 0 a) fun a h=>gbQ d true h (ld1 h a) fun a h=>gbQ d true h (faV 0 c) fun c h=>gbQ d true h (ld1 h c) fun c h=>gd d true h (fun q=>clQ C h F.bz [a,c] q) fun a h=>bpQ d a (B false) fun a=>q a h
theorem yN(h:fN (CX Y) t0 t1 (out v)):CP Y F.fN [t0,t1] v:=CPo 2 (nCQ (nRQ [.slot 0,.slot 1])) Tryz.func21 h
def aL(C:CC)(a c d e:V):aP:=fun l h q=>cIQ .lss (ge l 0) e (bxQ h 3 d (ge l 0) fun d=>bnd (ldA h 3 d) fun d=>alV 0 [.d nPQ,.d (.str []),.d (.str [])] h fun e h=>stD h 3 e d fun _ h=>bxQ h 3 a (ge l 0) fun a=>bnd (ldA h 3 a) fun a=>alV 1 [.d nPQ,.d (.str []),.d (.str [])] h fun d h=>stD h 3 d a fun _ h=>bnd (ldA h 3 e) fun a=>bnd (ldA h 3 d) fun d=>cal C.p h c [a,d] fun a h=>bnd (unV .not a) fun a=>cnd a (q .ret [B false] h) (bIQ .add (ge l 0) (I 1) fun a=>q .normal [a] h)) (q (.exit 0) [] h)
def ax(C:CC)(a c d:V)(q:kQ):Prop:=let h:Hp:=.replicate 2 nnQ
 blQ a fun e=>blQ c fun f=>cIQ .neq e f (q (B false) h) (blQ a fun e=>lp (aL C c d a e) [0,1] h [I 0] h (exK [((.exit 0),fun a h=>q (B true) h),(.ret,fun a h=>q (ge a 0) h)]))
theorem fp(h:ax (CX Y) t0 t1 t2 (out v)):CP Y F.ax [t0,t1,t2] v:=CPo 2 (d9 (nCQ (aO (nCQ (.n (.l [17] [1,2,15,16] [((.exit 0),[],[]),(.ret,[6],[])] [0,1]) (d9 (nCQ (nCQ (nBQ (nRQ [.slot 0]) (nCQ (nRQ [.slot 1])))))) .o))))) Tryz.func20 h
def ji(C:CC)(a c:V):aP:=fun l h q=>blQ c fun d=>cIQ .lss (ge l 0) d (bxQ h 3 c (ge l 0) fun d=>bfQ 0 d fun d=>b1Q h d fun d=>clQ C h F.kK [a,d] fun a h=>nzQ a (q .ret [a] h) (bxQ h 3 c (ge l 0) fun a=>bfQ 1 a fun a=>bnd (ldA h 2 a) fun a=>alV 0 [.d (.str []),.d (.str [])] h fun c h=>stD h 2 c a fun _ h=>bnd (ldA h 2 c) fun a=>clQ C h F.eE [a] fun a h=>nzQ a (q .ret [I 2] h) (bnd (ldA h 2 c) fun a=>clQ C h F.iN [a] fun a h=>cIQ .leq a (I 0) (q .ret [I 3] h) (bfQ 0 c fun a=>b1Q h a fun a=>bnd (ju a) fun a=>bIQ .gtr a (I 30) fun a=>gbQ a false h (faV 1 c) fun c h=>gbQ a false h (ld1 h c) fun c h=>gbQ a false h (ju c) fun c h=>gbQ a false h (biI .gtr c (I 30)) fun c h=>bpQ a (B true) c fun a=>cnd a (q .ret [I 4] h) (bIQ .add (ge l 0) (I 1) fun a=>q .normal [a] h))))) (q (.exit 0) [] h)
def gj(C:CC)(a c:V)(q:kQ):Prop:=let h:Hp:=.replicate 1 nnQ
 clQ C h F.eT [a] fun d h=>nzQ d (q d h) (blQ c fun d=>cIQ .gtr d (I 60) (q (I 4) h) (lp (ji C a c) [0] h [I 0] h (exK [((.exit 0),fun a h=>q (I 0) h),(.ret,fun a h=>q (ge a 0) h)])))
theorem vj(h:gj (CX Y) t0 t1 (out v)):CP Y F.gj [t0,t1] v:=CPo 1 (wG (nCQ (aO (nCQ (.n (.l [6] [0,1] [((.exit 0),[],[]),(.ret,[4],[])] [0]) (aO (nCQ (nCQ (aO (nCQ (nRQ [.slot 0])))))) .o))))) Tryz.func7 h
def jh(C:CC)(a c:V):aP:=fun l h q=>blQ a fun d=>cIQ .lss (ge l 0) d (bxQ h 3 a (ge l 0) fun d=>bfQ 0 d fun d=>b1Q h d fun d=>bxQ h 3 c (ge l 0) fun e=>bfQ 0 e fun e=>b1Q h e fun e=>clQ C h F.gL [d,e] fun d h=>bnd (unV .not d) fun d=>gqQ d false h a fun a h=>gqQ d false h (ge l 0) fun e h=>gbQ d false h (ixV h 3 a e) fun a h=>gbQ d false h (faV 1 a) fun a h=>gbQ d false h (ldA h 2 a) fun a h=>gqQ d false h c fun c h=>gqQ d false h (ge l 0) fun e h=>gbQ d false h (ixV h 3 c e) fun c h=>gbQ d false h (faV 1 c) fun c h=>gbQ d false h (ldA h 2 c) fun c h=>gbQ d false h (biA [.str [],.str []] .neq a c) fun a h=>bpQ d (B true) a fun a=>cnd a (q .ret [B false] h) (bIQ .add (ge l 0) (I 1) fun a=>q .normal [a] h)) (q (.exit 0) [] h)
def f9(C:CC)(a c:V)(q:kQ):Prop:=let h:Hp:=[]
 blQ a fun d=>blQ c fun e=>cIQ .neq d e (q (B false) h) (lp (jh C a c) [] h [I 0] h (exK [((.exit 0),fun a h=>q (B true) h),(.ret,fun a h=>q (ge a 0) h)]))
theorem vi(h:f9 (CX Y) t0 t1 (out v)):CP Y F.f9 [t0,t1] v:=CPo 0 (d9 (nCQ (aO (nCQ (.n (.l [5] [0,1] [((.exit 0),[],[]),(.ret,[4],[])] []) .o .o))))) Tryz.func9 h
def ip(C:CC)(a:V):aP:=fun l h q=>blQ a fun c=>cIQ .lss (ge l 0) c (bxQ h 3 a (ge l 0) fun c=>bfQ 0 c fun c=>b1Q h c fun c=>blQ c fun c=>bIQ .gtr c (I 8) fun c=>gqQ c false h a fun d h=>gqQ c false h (ge l 0) fun e h=>gbQ c false h (ixV h 3 d e) fun d h=>gbQ c false h (faV 1 d) fun d h=>gbQ c false h (faV 0 d) fun d h=>gbQ c false h (ld1 h d) fun d h=>gbQ c false h (ju d) fun d h=>gbQ c false h (biI .gtr d (I 45)) fun d h=>bpQ c (B true) d fun c=>gqQ c false h a fun a h=>gqQ c false h (ge l 0) fun d h=>gbQ c false h (ixV h 3 a d) fun a h=>gbQ c false h (faV 1 a) fun a h=>gbQ c false h (faV 1 a) fun a h=>gbQ c false h (ld1 h a) fun a h=>gbQ c false h (ju a) fun a h=>gbQ c false h (biI .gtr a (I 45)) fun a h=>bpQ c (B true) a fun a=>cnd a (q .ret [B false] h) (bIQ .add (ge l 0) (I 1) fun a=>q .normal [a] h)) (q (.exit 0) [] h)
def fY(C:CC)(a:V)(q:kQ):Prop:=let h:Hp:=[]
 blQ a fun c=>bIQ .gtr c (I 4) fun c=>gqQ c true h a fun d h=>gbQ c true h (aW d) fun d h=>gbQ c true h (biI .lss d (I 60)) fun d h=>gqQ c true h d fun d h=>gqQ d false h a fun e h=>gbQ d false h (aW e) fun e h=>gbQ d false h (biI .gtr e (I 62)) fun e h=>gbQ c true h (oM d (B true) e) fun d h=>bpQ c d (B false) fun c=>cnd c (q (B false) h) (lp (ip C a) [] h [I 0] h (exK [((.exit 0),fun a h=>q (B true) h),(.ret,fun a h=>q (ge a 0) h)]))
theorem xf(h:fY (CX Y) t0 (out v)):CP Y F.fY [t0] v:=CPo 0 (d9 (nCQ (aO (nCQ (.n (.l [3] [0] [((.exit 0),[],[]),(.ret,[2],[])] []) .o .o))))) Tryz.func5 h
def b9(C:CC)(a c:V)(q:kQ):Prop:=let h:Hp:=[]
 gqQ a true h c fun d h=>gbQ a true h (biS .neq d (.d (.str [48]))) fun d h=>bpQ a d (B false) fun a=>cnd a (bSQ .add (.d (.str [45])) c fun a=>q a h) (q c h)
theorem xJ(h:b9 (CX Y) t0 t1 (out v)):CP Y F.b9 [t0,t1] v:=CPo 0 .o Tryz.func100 h
def fM(C:CC)(a c:V)(q:kkQ):Prop:=let h:Hp:=List.replicate 6 nnQ
 cal C.p h (.fn F.fA [] []) [a,c] fun d h=>ext d 0 fun e=>ext d 1 fun f=>ext d 2 fun d=>cnd d (bnd (biI .add e f) fun a=>cal C.p h (.fn F.jc [] []) [a] fun a h=>q a h) (cai C.i h (.fn F.cX [] []) [a] 0 fun a h=>cai C.i h (.fn F.cX [] []) [c] 1 fun c h=>bnd (aW a) fun d=>bnd (aW c) fun e=>bnd (biI .lss d e) fun d=>jn (fun a h=>fI 1 [.int .u64 0] [(0,(.d (.int .u64 0)))] h fun c h=>apV false 2 1 8 (ge a 0) c h fun c h=>bnd (aW c) fun d=>bnd (biI .sub d (I 1)) fun d=>bnd (aW (ge a 1)) fun e=>bnd (biI .sub d e) fun d=>apZ false 3 1 8 [.int .u64 0] (ge a 1) d h fun a h=>cai C.i h (.fn F.cN [] []) [c,a,(I 0)] 4 fun a h=>cai C.i h (.fn F.aD [] []) [c] 5 fun a h=>cal C.p h (.fn F.aT [] []) [a] fun a h=>q a h) fun e=>cnd d (e [c,a] h) (e [a,c] h))
def sL:Ann:=(d9 (nBQ (nRQ [.inl 0,.inl 1]) (nBQ (aO (nJQ [8,9] [])) (nBQ (nRQ [.o,.slot 2]) (nBQ (nRQ [.slot 3,.inl 4]) (nCQ (nRQ [.inl 5])))))))
attribute [local irreducible] bnd gd cal cnd ext fI xp stD alV alD fJ jn lp exK mkS apV apZ cai yf in
theorem Fq(C:CC)(t0:V)(t1:V)(q:kkQ):fnD Y C Tryz.f101 6 sL [t0,t1] q=fM C t0 t1 q:=aao
theorem Fo:okB Tryz.prog Tryz.f101 sL=true:=aF
theorem Fp(h:fM (CX Y) t0 t1 (out v)):CP Y F.fM [t0,t1] v:=
 CP.of (fn:=Tryz.f101) (m:=6) (a:=sL) rfl (fun _=>rfl) Tryz.func101 Fo (by rw[Fq];exact h)
def cC(C:CC)(a c:V)(q:kQ):Prop:=let h:Hp:=[]
 bnd (ju a) fun d=>bnd (ju c) fun e=>cIQ .neq d e (bnd (ju a) fun a=>bnd (ju c) fun c=>bIQ .sub a c fun a=>bnd (mxI true [I (-1),a]) fun a=>bnd (mxI false [I 1,a]) fun a=>q a h) (bSQ .lss a c fun d=>cnd d (q (I (-1)) h) (bSQ .gtr a c fun a=>cnd a (q (I 1) h) (q (I 0) h)))
theorem yJ(h:cC (CX Y) t0 t1 (out v)):CP Y F.cC [t0,t1] v:=CPo 0 .o Tryz.func139 h
def gF(C:CC)(a c:V)(q:kkQ):Prop:=let h:Hp:=List.replicate 7 nnQ
 cal C.p h (.fn F.cC [] []) [a,c] fun d h=>bnd (biI .lss d (I 0)) fun d=>cnd d (q (.tup [(.d (.str [])),(I 3)]) h) (cal C.p h (.fn F.fA [] []) [a,c] fun d h=>ext d 0 fun e=>ext d 1 fun f=>ext d 2 fun d=>cnd d (bnd (biI .sub e f) fun a=>cal C.p h (.fn F.jc [] []) [a] fun a h=>q (.tup [a,(I 0)]) h) (cai C.i h (.fn F.cX [] []) [a] 0 fun a h=>fI 1 [.int .u64 0] [(0,(.d (.int .u64 0)))] h fun d h=>apV false 1 1 8 a d h fun a h=>cai C.i h (.fn F.cX [] []) [c] 2 fun d h=>bnd (aW a) fun e=>bnd (biI .sub e (I 1)) fun e=>cai C.i h (.fn F.cX [] []) [c] 3 fun c h=>bnd (aW c) fun c=>bnd (biI .sub e c) fun c=>apZ false 4 1 8 [.int .u64 0] d c h fun c h=>cai C.i h (.fn F.dC [] []) [a,c,(.d (.int .u64 1)),(I 0)] 5 fun c h=>cai C.i h (.fn F.aD [] []) [a] 6 fun a h=>cal C.p h (.fn F.aT [] []) [a] fun a h=>q (.tup [a,(I 0)]) h))
def sJ:Ann:=(wG (nBQ (nRQ [.inl 0,.o,.slot 1]) (nBQ (nRQ [.inl 2,.inl 3,.slot 4,.inl 5]) (nCQ (nRQ [.inl 6])))))
attribute [local irreducible] bnd gd cal cnd ext fI xp stD alV alD fJ jn lp exK mkS apV apZ cai yf in
theorem Fh(C:CC)(t0:V)(t1:V)(q:kkQ):fnD Y C Tryz.f102 7 sJ [t0,t1] q=gF C t0 t1 q:=aao
theorem Fe:okB Tryz.prog Tryz.f102 sJ=true:=aF
theorem Ff(h:gF (CX Y) t0 t1 (out v)):CP Y F.gF [t0,t1] v:=
 CP.of (fn:=Tryz.f102) (m:=7) (a:=sJ) rfl (fun _=>rfl) Tryz.func102 Fe (by rw[Fh];exact h)
def jM(C:CC)(a c:V)(q:kQ):Prop:=let h:Hp:=.replicate 3 nnQ
 bnd (ju a) fun d=>bnd (ju c) fun e=>bIQ .add d e fun d=>cIQ .leq d (I 18) (clQ C h F.fA [a,c] fun a h=>e3Q a fun a c d=>bIQ .mul a c fun a=>clQ C h F.jc [a] q) (ciQ C h F.cX [a] 0 fun a h=>ciQ C h F.cX [c] 1 fun c h=>ciQ C h F.bF [a,c] 2 fun a h=>clQ C h F.aT [a] q)
theorem Fi(h:jM (CX Y) t0 t1 (out v)):CP Y F.jM [t0,t1] v:=CPo 3 (d9 (nCQ (nRQ [.inl 0,.inl 1,.inl 2]))) Tryz.func156 h
def cO(C:CC)(a c:V)(q:kQ):Prop:=let h:Hp:=[]
 clQ C h F.bL [a,I 18] fun d h=>e2Q d fun d e=>jn (fun d h=>clQ C h F.aU [a] fun a h=>e2Q a fun a d=>clQ C h F.aU [c] fun c h=>e2Q c fun c e=>bnd (biB .eql a c) fun f=>cnd f (clQ C h F.fM [d,e] fun c h=>clQ C h F.b9 [a,c] q) (clQ C h F.cC [d,e] fun f h=>bIQ .lss f (I 0) fun f=>jn (fun a h=>clQ C h F.gF [ge a 1,ge a 2] fun c h=>e2Q c fun c d=>clQ C h F.b9 [ge a 0,c] q) fun g=>cnd f (g [c,e,d] h) (g [a,d,e] h))) fun a=>cnd e (clQ C h F.bL [c,I 18] fun c h=>e2Q c fun c e=>cnd e (bIQ .add d c fun a=>clQ C h F.dF [a] q) (a [] h)) (a [] h)
theorem IP(h:cO (CX Y) t0 t1 (out v)):CP Y F.cO [t0,t1] v:=CPo 0 (aO (nBQ (d9 (nJQ [] [0,1])) (wG (nCQ (aO (nJQ [9,10,12] [])))))) Tryz.func117 h
def bj(C:CC)(a c:V)(q:kQ):Prop:=let h:Hp:=[]
 clQ C h F.bL [a,I 9] fun d h=>e2Q d fun d e=>jn (fun d h=>clQ C h F.aU [a] fun a h=>e2Q a fun a d=>clQ C h F.aU [c] fun c h=>e2Q c fun c e=>bnd (biB .neq a c) fun a=>clQ C h F.jM [d,e] fun c h=>clQ C h F.b9 [a,c] q) fun a=>cnd e (clQ C h F.bL [c,I 9] fun c h=>e2Q c fun c e=>cnd e (bIQ .mul d c fun a=>clQ C h F.dF [a] q) (a [] h)) (a [] h)
theorem IL(h:bj (CX Y) t0 t1 (out v)):CP Y F.bj [t0,t1] v:=CPo 0 (aO (nCQ (d9 (nJQ [] [0,1])))) Tryz.func120 h
def uv(C:CC)(a:V)(q:kQ):Prop:=let h:Hp:=[]
 bIQ .geq a (.d (.int .u32 65536)) fun c=>jn (fun a h=>bIQ .geq (ge a 0) (.d (.int .u32 256)) fun c=>jn (fun a h=>bnd (cvI .u8 (ge a 0)) fun c=>bnd (ixS (.d (.str [0,1,2,2,3,3,3,3,4,4,4,4,4,4,4,4,5,5,5,5,5,5,5,5,5,5,5,5,5,5,5,5,6,6,6,6,6,6,6,6,6,6,6,6,6,6,6,6,6,6,6,6,6,6,6,6,6,6,6,6,6,6,6,6,7,7,7,7,7,7,7,7,7,7,7,7,7,7,7,7,7,7,7,7,7,7,7,7,7,7,7,7,7,7,7,7,7,7,7,7,7,7,7,7,7,7,7,7,7,7,7,7,7,7,7,7,7,7,7,7,7,7,7,7,7,7,7,7,8,8,8,8,8,8,8,8,8,8,8,8,8,8,8,8,8,8,8,8,8,8,8,8,8,8,8,8,8,8,8,8,8,8,8,8,8,8,8,8,8,8,8,8,8,8,8,8,8,8,8,8,8,8,8,8,8,8,8,8,8,8,8,8,8,8,8,8,8,8,8,8,8,8,8,8,8,8,8,8,8,8,8,8,8,8,8,8,8,8,8,8,8,8,8,8,8,8,8,8,8,8,8,8,8,8,8,8,8,8,8,8,8,8,8,8,8,8,8,8,8,8,8,8,8,8,8,8])) c) fun c=>bnd (cvI .i64 c) fun c=>bIQ .add (ge a 1) c fun a=>q a h) fun d=>cnd c (bIQ .shr (ge a 0) (.d (.int .u64 8)) fun c=>bIQ .add (ge a 1) (I 8) fun a=>d [c,a] h) (d [ge a 0,ge a 1] h)) fun d=>cnd c (bIQ .shr a (.d (.int .u64 16)) fun a=>d [a,I 16] h) (d [a,I 0] h)
def jO(C:CC)(a:V)(q:kQ):Prop:=let h:Hp:=[]
 cnd (B false) (bnd (cvI .u32 a) fun a=>clQ C h F.uv [a] q) (clQ C h F.eJ [a] q)
theorem Bb(h:jO (CX Y) t0 (out v)):CP Y F.jO [t0] v:=CPo 0 .o Tryz.func200 h
def iQ(C:CC)(a:V):aP:=fun l h q=>bIQ .mul (ge l 0) (ge l 0) fun c=>cIQ .leq c a (bIQ .rem a (ge l 0) fun a=>cIQ .eql a (I 0) (q .ret [B false] h) (bIQ .add (ge l 0) (I 1) fun a=>q .normal [a] h)) (q (.exit 0) [] h)
def iJ(C:CC)(a:V)(q:kQ):Prop:=let h:Hp:=[]
 bIQ .lss a (I 2) fun c=>gqQ c false h a fun d h=>gbQ c false h (biI .gtr d (I 97)) fun d h=>bpQ c (B true) d fun c=>cnd c (q (B false) h) (lp (iQ C a) [] h [I 2] h (exK [((.exit 0),fun a h=>q (B true) h),(.ret,fun a h=>q (ge a 0) h)]))
theorem A3(h:iJ (CX Y) t0 (out v)):CP Y F.iJ [t0] v:=CPo 0 (d9 (nCQ (aO (nCQ (.n (.l [3] [0] [((.exit 0),[],[]),(.ret,[2],[])] []) .o .o))))) Tryz.func30 h
def o5(C:CC)(a c d:V):aP:=fun l h q=>cIQ .lss (ge l 0) d (bxQ h 1 c (ge l 0) fun c=>b1Q h c fun c=>clQ C h F.iJ [c] fun d h=>bnd (unV .not d) fun d=>cnd d (q .ret [I 25] h) (bIQ .gtr (ge l 0) (I 0) fun d=>gqQ d true h c fun c h=>gqQ d true h a fun a h=>gqQ d true h (ge l 0) fun e h=>gbQ d true h (biI .sub e (I 1)) fun e h=>gbQ d true h (ixV h 1 a e) fun a h=>gbQ d true h (ld1 h a) fun a h=>gbQ d true h (biI .leq c a) fun a h=>bpQ d a (B false) fun a=>cnd a (q .ret [I 6] h) (bIQ .add (ge l 0) (I 1) fun a=>q .normal [a] h))) (q (.exit 1) [] h)
def eT(C:CC)(a:V)(q:kQ):Prop:=let h:Hp:=[]
 blQ a fun c=>cIQ .eql c (I 0) (q (I 13) h) (blQ a fun c=>cIQ .gtr c (I 6) (q (I 4) h) (blQ a fun c=>lp (o5 C a a c) [] h [I 0] h (exK [((.exit 1),fun a h=>q (I 0) h),(.ret,fun a h=>q (ge a 0) h)])))
theorem EW(h:eT (CX Y) t0 (out v)):CP Y F.eT [t0] v:=CPo 0 (d9 (nCQ (aO (nCQ (.n (.l [15] [0,13,14] [((.exit 1),[],[]),(.ret,[2],[])] []) .o .o))))) Tryz.func15 h
def mR(C:CC)(a:V)(q:kQ):Prop:=let h:Hp:=.replicate 1 nnQ
 fJ 0 a h fun a h=>bfQ 0 a fun c=>b1Q h c fun c=>clQ C h F.eQ [c] fun c h=>bnd (ju c) fun c=>bIQ .leq c (I 30) fun c=>gbQ c true h (faV 1 a) fun a h=>gbQ c true h (ld1 h a) fun a h=>gbQ c true h (ju a) fun a h=>gbQ c true h (biI .leq a (I 30)) fun a h=>bpQ c a (B false) fun a=>q a h
theorem G9(h:mR (CX Y) t0 (out v)):CP Y F.mR [t0] v:=CPo 1 (nCQ (nRQ [.slot 0])) Tryz.func112 h
def pZ(C:CC)(a c:V):aP:=fun l h q=>cIQ .lss (ge l 0) c (bxQ h 2 a (ge l 0) fun a=>bnd (ldA h 2 a) fun a=>alV 0 [.d (.str []),.d (.str [])] h fun c h=>stD h 2 c a fun _ h=>bnd (ldA h 2 c) fun a=>clQ C h F.eE [a] fun a h=>nzQ a (q .ret [I 2] h) (bnd (ldA h 2 c) fun a=>clQ C h F.mR [a] fun a h=>bnd (unV .not a) fun a=>cnd a (q .ret [I 4] h) (bIQ .add (ge l 0) (I 1) fun a=>q .normal [a] h))) (q (.exit 0) [] h)
def kW(C:CC)(a c:V)(q:kQ):Prop:=let h:Hp:=.replicate 1 nnQ
 blQ c fun d=>blQ a fun a=>cIQ .neq d a (q (I 5) h) (blQ c fun a=>lp (pZ C c a) [0] h [I 0] h (exK [((.exit 0),fun a h=>q (I 0) h),(.ret,fun a h=>q (ge a 0) h)]))
theorem Ha(h:kW (CX Y) t0 t1 (out v)):CP Y F.kW [t0,t1] v:=CPo 1 (d9 (nCQ (aO (nCQ (.n (.l [14] [12,13] [((.exit 0),[],[]),(.ret,[4],[])] [0]) (d9 (nCQ (nCQ (nCQ (nRQ [.slot 0]))))) .o))))) Tryz.func76 h
def mS(C:CC)(a c:V)(q:kQ):Prop:=let h:Hp:=[]
 clQ C h F.eT [a] fun d h=>nzQ d (q d h) (clQ C h F.kW [a,c] q)
theorem He(h:mS (CX Y) t0 t1 (out v)):CP Y F.mS [t0,t1] v:=CPo 0 .o Tryz.func81 h
def dT(C:CC)(a c:V)(q:kQ):Prop:=let h:Hp:=.replicate 2 nnQ
 cIQ .eql c (I 10) (cIQ .lss a (.d (.int .u64 100)) (bnd (cvI .i64 a) fun a=>clQ C h F.ii [a] q) (alD 0 1 (List.replicate 24 (.int .u8 0)) h fun c h=>clQ C h F.dy [a] fun d h=>bnd (slP 24 1 h c none (some d)) fun e=>ciQ C h F.bU [e,a] 1 fun a h=>bnd (slP 24 1 h c none (some d)) fun a=>bnd (cvT h a) fun a=>q a h)) (clQ C h F.qi [nSQ,a,c,B false,B false] fun a h=>e2Q a fun a c=>q c h)
theorem ub(h:dT (CX Y) t0 t1 (out v)):CP Y F.dT [t0,t1] v:=CPo 2 (aO (nCQ (aO (nCQ (aO (nBQ (nRQ [.slot 0]) (aO (nCQ (nRQ [.inl 1]))))))))) Tryz.func166 h
def fW(C:CC)(a c:V)(q:kQ):Prop:=let h:Hp:=[]
 clQ C h F.dT [a,c] q
theorem uZ(h:fW (CX Y) t0 t1 (out v)):CP Y F.fW [t0,t1] v:=CPo 0 .o Tryz.func133 h
def jc(C:CC)(a:V)(q:kQ):Prop:=let h:Hp:=[]
 clQ C h F.fW [a,I 10] q
theorem Ie(h:jc (CX Y) t0 (out v)):CP Y F.jc [t0] v:=CPo 0 .o Tryz.func94 h
def iO(C:CC)(a:V)(q:kQ):Prop:=let h:Hp:=[]
 clQ C h F.fk [a,I 10,I 64] fun a h=>e2Q a fun a c=>bnd (biF .neq c (.d (.pl .nilIface))) fun c=>cnd c (q (.tup [(.d (.int .u64 0)),B false]) h) (q (.tup [a,B true]) h)
theorem Br(h:iO (CX Y) t0 (out v)):CP Y F.iO [t0] v:=CPo 0 .o Tryz.func132 h
def fA(C:CC)(a c:V)(q:kQ):Prop:=let h:Hp:=[]
 bnd (ju a) fun d=>bIQ .gtr d (I 18) fun d=>gqQ d false h c fun e h=>gbQ d false h (ju e) fun e h=>gbQ d false h (biI .gtr e (I 18)) fun e h=>bpQ d (B true) e fun d=>cnd d (q (.tup [(.d (.int .u64 0)),(.d (.int .u64 0)),B false]) h) (clQ C h F.iO [a] fun a h=>e2Q a fun a d=>clQ C h F.iO [c] fun c h=>e2Q c fun c d=>q (.tup [a,c,B true]) h)
theorem Ei(h:fA (CX Y) t0 t1 (out v)):CP Y F.fA [t0,t1] v:=CPo 0 .o Tryz.func93 h
def dV(C:CC)(a c:V)(q:kQ):Prop:=let h:Hp:=.replicate 2 nnQ
 bSQ .eql c (.d (.str [48])) fun d=>cnd d (q (.tup [(.d (.str [])),(.d (.str [])),I 17]) h) (clQ C h F.fA [a,c] fun d h=>e3Q d fun d e f=>cnd f (bIQ .quo d e fun a=>clQ C h F.jc [a] fun a h=>bIQ .rem d e fun c=>clQ C h F.jc [c] fun c h=>q (.tup [a,c,I 0]) h) (ciQ C h F.cX [a] 0 fun d h=>ciQ C h F.cX [c] 1 fun c h=>clQ C h F.cE [d,c] fun e h=>cIQ .lss e (I 0) (q (.tup [(.d (.str [48])),a,I 0]) h) (blQ c fun a=>cIQ .eql a (I 1) (bxQ h 1 c (I 0) fun a=>b1Q h a fun a=>clQ C h F.cW [d,a] fun a h=>e2Q a fun a c=>clQ C h F.aT [a] fun a h=>clQ C h F.jc [c] fun c h=>q (.tup [a,c,I 0]) h) (clQ C h F.dE [d,c] fun a h=>e2Q a fun a c=>clQ C h F.aT [a] fun a h=>clQ C h F.aT [c] fun c h=>q (.tup [a,c,I 0]) h))))
def pW:Ann:=(wG (nCQ (nRQ [.inl 0,.inl 1])))
attribute [local irreducible] bnd gd cal cnd ext fI xp stD alV alD fJ jn lp exK mkS apV cai yf in
theorem Ag(C:CC)(t0:V)(t1:V)(q:kkQ):fnD Y C Tryz.f67 2 pW [t0,t1] q=dV C t0 t1 q:=NI
theorem Ae:okB Tryz.prog Tryz.f67 pW=true:=aF
theorem Af(h:dV (CX Y) t0 t1 (out v)):CP Y F.dV [t0,t1] v:=
 CP.of (fn:=Tryz.f67) (m:=2) (a:=pW) rfl (fun _=>rfl) Tryz.func67 Ae (by rw[Ag];exact h)
def pq(C:CC):aP:=fun l h q=>bSQ .neq (ge l 1) (.d (.str [48])) fun a=>cnd a (clQ C h F.dV [ge l 0,ge l 1] fun a h=>e3Q a fun a c d=>nzQ d (q .ret [(.d (.str []))] h) (q .normal [ge l 1,c] h)) (q (.exit 0) [ge l 0] h)
def m7(C:CC)(a c:V)(q:kQ):Prop:=let h:Hp:=[]
 lp (pq C) [] h [a,c] h (exK [((.exit 0),fun a h=>q (ge a 0) h),(.ret,fun a h=>q (ge a 0) h)])
theorem Fl(h:m7 (CX Y) t0 t1 (out v)):CP Y F.m7 [t0,t1] v:=CPo 0 (aO (nCQ (nCQ (.n (.l [0,1] [] [((.exit 0),[0],[]),(.ret,[4],[])] []) .o .o)))) Tryz.func50 h
def strconv_Itoa(C:CC)(a:V)(q:kQ):Prop:=let h:Hp:=[]
 clQ C h F.kw [a] q
theorem Cy(h:strconv_Itoa (CX Y) t0 (out v)):CP Y F.strconv_Itoa [t0] v:=CPo 0 .o Tryz.func52 h
def kw(C:CC)(a:V)(q:kQ):Prop:=let h:Hp:=[]
 clQ C h F.dz [a,I 10] q
theorem zQ(h:kw (CX Y) t0 (out v)):CP Y F.kw [t0] v:=CPo 0 .o Tryz.func70 h
def dz(C:CC)(a c:V)(q:kQ):Prop:=let h:Hp:=.replicate 2 nnQ
 cIQ .eql c (I 10) (bIQ .leq (I 0) a fun c=>gqQ c true h a fun d h=>gbQ c true h (biI .lss d (I 100)) fun d h=>bpQ c d (B false) fun c=>cnd c (clQ C h F.ii [a] q) (alD 0 1 (List.replicate 24 (.int .u8 0)) h fun c h=>bnd (cvI .u64 a) fun d=>bIQ .lss a (I 0) fun e=>jn (fun d h=>clQ C h F.dy [ge d 0] fun e h=>bIQ .add (I 1) e fun f=>bnd (slP 24 1 h c (some (I 1)) (some f)) fun f=>ciQ C h F.bU [f,ge d 0] 1 fun d h=>cIQ .lss a (I 0) (bnd (ixP 24 1 c (I 0)) fun a=>stD h 1 a (.d (.int .u8 45)) fun _ h=>bIQ .add (I 1) e fun a=>bnd (slP 24 1 h c none (some a)) fun a=>bnd (cvT h a) fun a=>q a h) (bIQ .add (I 1) e fun a=>bnd (slP 24 1 h c (some (I 1)) (some a)) fun a=>bnd (cvT h a) fun a=>q a h)) fun a=>cnd e (bnd (unV .neg d) fun c=>a [c] h) (a [d] h))) (bnd (cvI .u64 a) fun d=>bIQ .lss a (I 0) fun a=>clQ C h F.qi [nSQ,d,c,a,B false] fun a h=>e2Q a fun a c=>q c h)
theorem uJ(h:dz (CX Y) t0 t1 (out v)):CP Y F.dz [t0,t1] v:=CPo 2 (aO (nCQ (aO (nCQ (aO (nBQ (nRQ [.slot 0]) (aO (nBQ (aO (nJQ [6] [0,5])) (aO (nCQ (nRQ [.inl 1]))))))))))) Tryz.func103 h
def ii(C:CC)(a:V)(q:kQ):Prop:=let h:Hp:=[]
 cIQ .lss a (I 10) (bIQ .add a (I 1) fun c=>bnd (slS (.d (.str [48,49,50,51,52,53,54,55,56,57,97,98,99,100,101,102,103,104,105,106,107,108,109,110,111,112,113,114,115,116,117,118,119,120,121,122])) (some a) (some c)) fun a=>q a h) (bIQ .mul a (I 2) fun c=>bIQ .mul a (I 2) fun a=>bIQ .add a (I 2) fun a=>bnd (slS (.d (.str [48,48,48,49,48,50,48,51,48,52,48,53,48,54,48,55,48,56,48,57,49,48,49,49,49,50,49,51,49,52,49,53,49,54,49,55,49,56,49,57,50,48,50,49,50,50,50,51,50,52,50,53,50,54,50,55,50,56,50,57,51,48,51,49,51,50,51,51,51,52,51,53,51,54,51,55,51,56,51,57,52,48,52,49,52,50,52,51,52,52,52,53,52,54,52,55,52,56,52,57,53,48,53,49,53,50,53,51,53,52,53,53,53,54,53,55,53,56,53,57,54,48,54,49,54,50,54,51,54,52,54,53,54,54,54,55,54,56,54,57,55,48,55,49,55,50,55,51,55,52,55,53,55,54,55,55,55,56,55,57,56,48,56,49,56,50,56,51,56,52,56,53,56,54,56,55,56,56,56,57,57,48,57,49,57,50,57,51,57,52,57,53,57,54,57,55,57,56,57,57])) (some c) (some a)) fun a=>q a h)
theorem yr(h:ii (CX Y) t0 (out v)):CP Y F.ii [t0] v:=CPo 0 .o Tryz.func140 h
def dy(C:CC)(a:V)(q:kQ):Prop:=let h:Hp:=[]
 clQ C h F.eJ [a] fun c h=>clQ C h F.fG [c] fun c h=>bnd (ixP 20 1 (gl nX) c) fun d=>b1Q h d fun d=>bIQ .geq a d fun a=>clQ C h F.fH [a] fun a h=>bIQ .add c a fun a=>q a h
theorem uG(h:dy (CX Y) t0 (out v)):CP Y F.dy [t0] v:=CPo 0 .o Tryz.func141 h
def d6(C:CC)(b:Nat)(a:V):aP:=fun l h q=>cIQ .geq (ge l 1) (I 8) (bIQ .rem (ge l 0) (.d (.int .u64 100000000)) fun c=>bnd (cvI .u32 c) fun c=>bIQ .quo (ge l 0) (.d (.int .u64 100000000)) fun d=>bIQ .quo c (.d (.int .u32 10000)) fun e=>bIQ .rem c (.d (.int .u32 10000)) fun c=>bIQ .quo c (.d (.int .u32 100)) fun f=>bIQ .mul f (.d (.int .u32 2)) fun f=>bIQ .rem c (.d (.int .u32 100)) fun c=>bIQ .mul c (.d (.int .u32 2)) fun c=>bIQ .quo e (.d (.int .u32 100)) fun g=>bIQ .mul g (.d (.int .u32 2)) fun g=>bIQ .rem e (.d (.int .u32 100)) fun e=>bIQ .mul e (.d (.int .u32 2)) fun e=>bIQ .sub (ge l 1) (I 1) fun i=>bIQ .sub (ge l 1) (I 2) fun j=>bIQ .add c (.d (.int .u32 1)) fun k=>bnd (ixS (.d (.str [48,48,48,49,48,50,48,51,48,52,48,53,48,54,48,55,48,56,48,57,49,48,49,49,49,50,49,51,49,52,49,53,49,54,49,55,49,56,49,57,50,48,50,49,50,50,50,51,50,52,50,53,50,54,50,55,50,56,50,57,51,48,51,49,51,50,51,51,51,52,51,53,51,54,51,55,51,56,51,57,52,48,52,49,52,50,52,51,52,52,52,53,52,54,52,55,52,56,52,57,53,48,53,49,53,50,53,51,53,52,53,53,53,54,53,55,53,56,53,57,54,48,54,49,54,50,54,51,54,52,54,53,54,54,54,55,54,56,54,57,55,48,55,49,55,50,55,51,55,52,55,53,55,54,55,55,55,56,55,57,56,48,56,49,56,50,56,51,56,52,56,53,56,54,56,55,56,56,56,57,57,48,57,49,57,50,57,51,57,52,57,53,57,54,57,55,57,56,57,57])) k) fun k=>bnd (ixS (.d (.str [48,48,48,49,48,50,48,51,48,52,48,53,48,54,48,55,48,56,48,57,49,48,49,49,49,50,49,51,49,52,49,53,49,54,49,55,49,56,49,57,50,48,50,49,50,50,50,51,50,52,50,53,50,54,50,55,50,56,50,57,51,48,51,49,51,50,51,51,51,52,51,53,51,54,51,55,51,56,51,57,52,48,52,49,52,50,52,51,52,52,52,53,52,54,52,55,52,56,52,57,53,48,53,49,53,50,53,51,53,52,53,53,53,54,53,55,53,56,53,57,54,48,54,49,54,50,54,51,54,52,54,53,54,54,54,55,54,56,54,57,55,48,55,49,55,50,55,51,55,52,55,53,55,54,55,55,55,56,55,57,56,48,56,49,56,50,56,51,56,52,56,53,56,54,56,55,56,56,56,57,57,48,57,49,57,50,57,51,57,52,57,53,57,54,57,55,57,56,57,57])) c) fun c=>bxQ h 1 a i fun i=>stD h 1 i k fun _ h=>bxQ h 1 a j fun i=>stD h 1 i c fun _ h=>bIQ .sub (ge l 1) (I 3) fun c=>bIQ .sub (ge l 1) (I 4) fun i=>bIQ .add f (.d (.int .u32 1)) fun j=>bnd (ixS (.d (.str [48,48,48,49,48,50,48,51,48,52,48,53,48,54,48,55,48,56,48,57,49,48,49,49,49,50,49,51,49,52,49,53,49,54,49,55,49,56,49,57,50,48,50,49,50,50,50,51,50,52,50,53,50,54,50,55,50,56,50,57,51,48,51,49,51,50,51,51,51,52,51,53,51,54,51,55,51,56,51,57,52,48,52,49,52,50,52,51,52,52,52,53,52,54,52,55,52,56,52,57,53,48,53,49,53,50,53,51,53,52,53,53,53,54,53,55,53,56,53,57,54,48,54,49,54,50,54,51,54,52,54,53,54,54,54,55,54,56,54,57,55,48,55,49,55,50,55,51,55,52,55,53,55,54,55,55,55,56,55,57,56,48,56,49,56,50,56,51,56,52,56,53,56,54,56,55,56,56,56,57,57,48,57,49,57,50,57,51,57,52,57,53,57,54,57,55,57,56,57,57])) j) fun j=>bnd (ixS (.d (.str [48,48,48,49,48,50,48,51,48,52,48,53,48,54,48,55,48,56,48,57,49,48,49,49,49,50,49,51,49,52,49,53,49,54,49,55,49,56,49,57,50,48,50,49,50,50,50,51,50,52,50,53,50,54,50,55,50,56,50,57,51,48,51,49,51,50,51,51,51,52,51,53,51,54,51,55,51,56,51,57,52,48,52,49,52,50,52,51,52,52,52,53,52,54,52,55,52,56,52,57,53,48,53,49,53,50,53,51,53,52,53,53,53,54,53,55,53,56,53,57,54,48,54,49,54,50,54,51,54,52,54,53,54,54,54,55,54,56,54,57,55,48,55,49,55,50,55,51,55,52,55,53,55,54,55,55,55,56,55,57,56,48,56,49,56,50,56,51,56,52,56,53,56,54,56,55,56,56,56,57,57,48,57,49,57,50,57,51,57,52,57,53,57,54,57,55,57,56,57,57])) f) fun f=>bxQ h 1 a c fun c=>stD h 1 c j fun _ h=>bxQ h 1 a i fun c=>stD h 1 c f fun _ h=>bIQ .sub (ge l 1) (I 5) fun c=>bIQ .sub (ge l 1) (I 6) fun f=>bIQ .add e (.d (.int .u32 1)) fun i=>bnd (ixS (.d (.str [48,48,48,49,48,50,48,51,48,52,48,53,48,54,48,55,48,56,48,57,49,48,49,49,49,50,49,51,49,52,49,53,49,54,49,55,49,56,49,57,50,48,50,49,50,50,50,51,50,52,50,53,50,54,50,55,50,56,50,57,51,48,51,49,51,50,51,51,51,52,51,53,51,54,51,55,51,56,51,57,52,48,52,49,52,50,52,51,52,52,52,53,52,54,52,55,52,56,52,57,53,48,53,49,53,50,53,51,53,52,53,53,53,54,53,55,53,56,53,57,54,48,54,49,54,50,54,51,54,52,54,53,54,54,54,55,54,56,54,57,55,48,55,49,55,50,55,51,55,52,55,53,55,54,55,55,55,56,55,57,56,48,56,49,56,50,56,51,56,52,56,53,56,54,56,55,56,56,56,57,57,48,57,49,57,50,57,51,57,52,57,53,57,54,57,55,57,56,57,57])) i) fun i=>bnd (ixS (.d (.str [48,48,48,49,48,50,48,51,48,52,48,53,48,54,48,55,48,56,48,57,49,48,49,49,49,50,49,51,49,52,49,53,49,54,49,55,49,56,49,57,50,48,50,49,50,50,50,51,50,52,50,53,50,54,50,55,50,56,50,57,51,48,51,49,51,50,51,51,51,52,51,53,51,54,51,55,51,56,51,57,52,48,52,49,52,50,52,51,52,52,52,53,52,54,52,55,52,56,52,57,53,48,53,49,53,50,53,51,53,52,53,53,53,54,53,55,53,56,53,57,54,48,54,49,54,50,54,51,54,52,54,53,54,54,54,55,54,56,54,57,55,48,55,49,55,50,55,51,55,52,55,53,55,54,55,55,55,56,55,57,56,48,56,49,56,50,56,51,56,52,56,53,56,54,56,55,56,56,56,57,57,48,57,49,57,50,57,51,57,52,57,53,57,54,57,55,57,56,57,57])) e) fun e=>bxQ h 1 a c fun c=>stD h 1 c i fun _ h=>bxQ h 1 a f fun c=>stD h 1 c e fun _ h=>bIQ .sub (ge l 1) (I 7) fun c=>bIQ .sub (ge l 1) (I 8) fun e=>bIQ .add g (.d (.int .u32 1)) fun f=>bnd (ixS (.d (.str [48,48,48,49,48,50,48,51,48,52,48,53,48,54,48,55,48,56,48,57,49,48,49,49,49,50,49,51,49,52,49,53,49,54,49,55,49,56,49,57,50,48,50,49,50,50,50,51,50,52,50,53,50,54,50,55,50,56,50,57,51,48,51,49,51,50,51,51,51,52,51,53,51,54,51,55,51,56,51,57,52,48,52,49,52,50,52,51,52,52,52,53,52,54,52,55,52,56,52,57,53,48,53,49,53,50,53,51,53,52,53,53,53,54,53,55,53,56,53,57,54,48,54,49,54,50,54,51,54,52,54,53,54,54,54,55,54,56,54,57,55,48,55,49,55,50,55,51,55,52,55,53,55,54,55,55,55,56,55,57,56,48,56,49,56,50,56,51,56,52,56,53,56,54,56,55,56,56,56,57,57,48,57,49,57,50,57,51,57,52,57,53,57,54,57,55,57,56,57,57])) f) fun f=>bnd (ixS (.d (.str [48,48,48,49,48,50,48,51,48,52,48,53,48,54,48,55,48,56,48,57,49,48,49,49,49,50,49,51,49,52,49,53,49,54,49,55,49,56,49,57,50,48,50,49,50,50,50,51,50,52,50,53,50,54,50,55,50,56,50,57,51,48,51,49,51,50,51,51,51,52,51,53,51,54,51,55,51,56,51,57,52,48,52,49,52,50,52,51,52,52,52,53,52,54,52,55,52,56,52,57,53,48,53,49,53,50,53,51,53,52,53,53,53,54,53,55,53,56,53,57,54,48,54,49,54,50,54,51,54,52,54,53,54,54,54,55,54,56,54,57,55,48,55,49,55,50,55,51,55,52,55,53,55,54,55,55,55,56,55,57,56,48,56,49,56,50,56,51,56,52,56,53,56,54,56,55,56,56,56,57,57,48,57,49,57,50,57,51,57,52,57,53,57,54,57,55,57,56,57,57])) g) fun g=>bxQ h 1 a c fun c=>stD h 1 c f fun _ h=>bxQ h 1 a e fun a=>stD h 1 a g fun _ h=>bIQ .sub (ge l 1) (I 8) fun a=>q .normal [d,a] h) (q (.exit 0) [ge l 0,ge l 1] h)
def bU(C:CC)(b:Nat)(h:Hp)(a c:V)(q:kQ):Prop:=let h:Hp:=h++List.replicate 0 nnQ
 blQ a fun d=>lp (d6 C b a) [] h [c,d] h (exK [((.exit 0),fun c h=>bnd (cvI .u32 (ge c 0)) fun d=>bIQ .geq (ge c 1) (I 4) fun e=>jn (fun c h=>bIQ .geq (ge c 1) (I 2) fun d=>jn (fun c h=>bIQ .gtr (ge c 1) (I 0) fun d=>jn (fun a h=>q (.tup []) h) fun e=>cnd d (bIQ .add (.d (.int .u32 48)) (ge c 0) fun c=>bnd (cvI .u8 c) fun c=>bxQ h 1 a (I 0) fun a=>stD h 1 a c fun _ h=>e [] h) (e [] h)) fun e=>cnd d (bIQ .rem (ge c 0) (.d (.int .u32 100)) fun d=>bIQ .mul d (.d (.int .u32 2)) fun d=>bIQ .quo (ge c 0) (.d (.int .u32 100)) fun f=>bIQ .sub (ge c 1) (I 1) fun g=>bIQ .sub (ge c 1) (I 2) fun i=>bIQ .add d (.d (.int .u32 1)) fun j=>bnd (ixS (.d (.str [48,48,48,49,48,50,48,51,48,52,48,53,48,54,48,55,48,56,48,57,49,48,49,49,49,50,49,51,49,52,49,53,49,54,49,55,49,56,49,57,50,48,50,49,50,50,50,51,50,52,50,53,50,54,50,55,50,56,50,57,51,48,51,49,51,50,51,51,51,52,51,53,51,54,51,55,51,56,51,57,52,48,52,49,52,50,52,51,52,52,52,53,52,54,52,55,52,56,52,57,53,48,53,49,53,50,53,51,53,52,53,53,53,54,53,55,53,56,53,57,54,48,54,49,54,50,54,51,54,52,54,53,54,54,54,55,54,56,54,57,55,48,55,49,55,50,55,51,55,52,55,53,55,54,55,55,55,56,55,57,56,48,56,49,56,50,56,51,56,52,56,53,56,54,56,55,56,56,56,57,57,48,57,49,57,50,57,51,57,52,57,53,57,54,57,55,57,56,57,57])) j) fun j=>bnd (ixS (.d (.str [48,48,48,49,48,50,48,51,48,52,48,53,48,54,48,55,48,56,48,57,49,48,49,49,49,50,49,51,49,52,49,53,49,54,49,55,49,56,49,57,50,48,50,49,50,50,50,51,50,52,50,53,50,54,50,55,50,56,50,57,51,48,51,49,51,50,51,51,51,52,51,53,51,54,51,55,51,56,51,57,52,48,52,49,52,50,52,51,52,52,52,53,52,54,52,55,52,56,52,57,53,48,53,49,53,50,53,51,53,52,53,53,53,54,53,55,53,56,53,57,54,48,54,49,54,50,54,51,54,52,54,53,54,54,54,55,54,56,54,57,55,48,55,49,55,50,55,51,55,52,55,53,55,54,55,55,55,56,55,57,56,48,56,49,56,50,56,51,56,52,56,53,56,54,56,55,56,56,56,57,57,48,57,49,57,50,57,51,57,52,57,53,57,54,57,55,57,56,57,57])) d) fun d=>bxQ h 1 a g fun g=>stD h 1 g j fun _ h=>bxQ h 1 a i fun a=>stD h 1 a d fun _ h=>bIQ .sub (ge c 1) (I 2) fun a=>e [f,a] h) (e [ge c 0,ge c 1] h)) fun f=>cnd e (bIQ .rem d (.d (.int .u32 10000)) fun e=>bIQ .quo d (.d (.int .u32 10000)) fun d=>bIQ .quo e (.d (.int .u32 100)) fun g=>bIQ .mul g (.d (.int .u32 2)) fun g=>bIQ .rem e (.d (.int .u32 100)) fun e=>bIQ .mul e (.d (.int .u32 2)) fun e=>bIQ .sub (ge c 1) (I 1) fun i=>bIQ .sub (ge c 1) (I 2) fun j=>bIQ .add e (.d (.int .u32 1)) fun k=>bnd (ixS (.d (.str [48,48,48,49,48,50,48,51,48,52,48,53,48,54,48,55,48,56,48,57,49,48,49,49,49,50,49,51,49,52,49,53,49,54,49,55,49,56,49,57,50,48,50,49,50,50,50,51,50,52,50,53,50,54,50,55,50,56,50,57,51,48,51,49,51,50,51,51,51,52,51,53,51,54,51,55,51,56,51,57,52,48,52,49,52,50,52,51,52,52,52,53,52,54,52,55,52,56,52,57,53,48,53,49,53,50,53,51,53,52,53,53,53,54,53,55,53,56,53,57,54,48,54,49,54,50,54,51,54,52,54,53,54,54,54,55,54,56,54,57,55,48,55,49,55,50,55,51,55,52,55,53,55,54,55,55,55,56,55,57,56,48,56,49,56,50,56,51,56,52,56,53,56,54,56,55,56,56,56,57,57,48,57,49,57,50,57,51,57,52,57,53,57,54,57,55,57,56,57,57])) k) fun k=>bnd (ixS (.d (.str [48,48,48,49,48,50,48,51,48,52,48,53,48,54,48,55,48,56,48,57,49,48,49,49,49,50,49,51,49,52,49,53,49,54,49,55,49,56,49,57,50,48,50,49,50,50,50,51,50,52,50,53,50,54,50,55,50,56,50,57,51,48,51,49,51,50,51,51,51,52,51,53,51,54,51,55,51,56,51,57,52,48,52,49,52,50,52,51,52,52,52,53,52,54,52,55,52,56,52,57,53,48,53,49,53,50,53,51,53,52,53,53,53,54,53,55,53,56,53,57,54,48,54,49,54,50,54,51,54,52,54,53,54,54,54,55,54,56,54,57,55,48,55,49,55,50,55,51,55,52,55,53,55,54,55,55,55,56,55,57,56,48,56,49,56,50,56,51,56,52,56,53,56,54,56,55,56,56,56,57,57,48,57,49,57,50,57,51,57,52,57,53,57,54,57,55,57,56,57,57])) e) fun e=>bxQ h 1 a i fun i=>stD h 1 i k fun _ h=>bxQ h 1 a j fun i=>stD h 1 i e fun _ h=>bIQ .sub (ge c 1) (I 3) fun e=>bIQ .sub (ge c 1) (I 4) fun i=>bIQ .add g (.d (.int .u32 1)) fun j=>bnd (ixS (.d (.str [48,48,48,49,48,50,48,51,48,52,48,53,48,54,48,55,48,56,48,57,49,48,49,49,49,50,49,51,49,52,49,53,49,54,49,55,49,56,49,57,50,48,50,49,50,50,50,51,50,52,50,53,50,54,50,55,50,56,50,57,51,48,51,49,51,50,51,51,51,52,51,53,51,54,51,55,51,56,51,57,52,48,52,49,52,50,52,51,52,52,52,53,52,54,52,55,52,56,52,57,53,48,53,49,53,50,53,51,53,52,53,53,53,54,53,55,53,56,53,57,54,48,54,49,54,50,54,51,54,52,54,53,54,54,54,55,54,56,54,57,55,48,55,49,55,50,55,51,55,52,55,53,55,54,55,55,55,56,55,57,56,48,56,49,56,50,56,51,56,52,56,53,56,54,56,55,56,56,56,57,57,48,57,49,57,50,57,51,57,52,57,53,57,54,57,55,57,56,57,57])) j) fun j=>bnd (ixS (.d (.str [48,48,48,49,48,50,48,51,48,52,48,53,48,54,48,55,48,56,48,57,49,48,49,49,49,50,49,51,49,52,49,53,49,54,49,55,49,56,49,57,50,48,50,49,50,50,50,51,50,52,50,53,50,54,50,55,50,56,50,57,51,48,51,49,51,50,51,51,51,52,51,53,51,54,51,55,51,56,51,57,52,48,52,49,52,50,52,51,52,52,52,53,52,54,52,55,52,56,52,57,53,48,53,49,53,50,53,51,53,52,53,53,53,54,53,55,53,56,53,57,54,48,54,49,54,50,54,51,54,52,54,53,54,54,54,55,54,56,54,57,55,48,55,49,55,50,55,51,55,52,55,53,55,54,55,55,55,56,55,57,56,48,56,49,56,50,56,51,56,52,56,53,56,54,56,55,56,56,56,57,57,48,57,49,57,50,57,51,57,52,57,53,57,54,57,55,57,56,57,57])) g) fun g=>bxQ h 1 a e fun e=>stD h 1 e j fun _ h=>bxQ h 1 a i fun a=>stD h 1 a g fun _ h=>bIQ .sub (ge c 1) (I 4) fun a=>f [d,a] h) (f [d,ge c 1] h))])
def jT(b:Nat):Ann:=(.n .x .o (.n .x (.n .x (.n (.l [1,4] [0] [((.exit 0),[1,4],[0])] []) .o .o) .o) (.n .x .o (.n .x (.n .x .o (.n (.j [12,4] [0]) .o .o)) (.n .x (.n .x .o (.n (.j [12,4] [0]) .o .o)) (.n .x .o (.n (.j [] []) .o .o)))))))
theorem sF(C:CC)(h:Hp)(t0:V)(t1:V)(q:kkQ):fnI Y C Tryz.f142 0 jT [t0,t1] h q=bU C h.length h t0 t1 q:=by rfl
theorem sC(b:Nat):okB Tryz.prog Tryz.f142 (jT b)=true:=by rfl
theorem sE(hh:bU (CX Y) h.length h t0 t1 (mW h.length v h2)):CI Y F.bU [t0,t1] h v h2:=
 CI.of (fn:=Tryz.f142) (m:=0) (a:=jT) rfl (fun _=>rfl) Tryz.func142 (sC _) (by rw[sF];exact hh)
def fG(C:CC)(a:V)(q:kQ):Prop:=let h:Hp:=[]
 bIQ .mul a (I 78913) fun a=>bIQ .shr a (.d (.int .u64 18)) fun a=>q a h
theorem uH(h:fG (CX Y) t0 (out v)):CP Y F.fG [t0] v:=CPo 0 .o Tryz.func168 h
def fH(C:CC)(a:V)(q:kQ):Prop:=let h:Hp:=[]
 cnd a (q (I 1) h) (q (I 0) h)
theorem uI(h:fH (CX Y) t0 (out v)):CP Y F.fH [t0] v:=CPo 0 .o Tryz.func170 h
def eJ(C:CC)(a:V)(q:kQ):Prop:=let h:Hp:=[]
 bIQ .geq a (.d (.int .u64 4294967296)) fun c=>jn (fun a h=>bIQ .geq (ge a 0) (.d (.int .u64 65536)) fun c=>jn (fun a h=>bIQ .geq (ge a 0) (.d (.int .u64 256)) fun c=>jn (fun a h=>bnd (cvI .u8 (ge a 0)) fun c=>bnd (ixS (.d (.str [0,1,2,2,3,3,3,3,4,4,4,4,4,4,4,4,5,5,5,5,5,5,5,5,5,5,5,5,5,5,5,5,6,6,6,6,6,6,6,6,6,6,6,6,6,6,6,6,6,6,6,6,6,6,6,6,6,6,6,6,6,6,6,6,7,7,7,7,7,7,7,7,7,7,7,7,7,7,7,7,7,7,7,7,7,7,7,7,7,7,7,7,7,7,7,7,7,7,7,7,7,7,7,7,7,7,7,7,7,7,7,7,7,7,7,7,7,7,7,7,7,7,7,7,7,7,7,7,8,8,8,8,8,8,8,8,8,8,8,8,8,8,8,8,8,8,8,8,8,8,8,8,8,8,8,8,8,8,8,8,8,8,8,8,8,8,8,8,8,8,8,8,8,8,8,8,8,8,8,8,8,8,8,8,8,8,8,8,8,8,8,8,8,8,8,8,8,8,8,8,8,8,8,8,8,8,8,8,8,8,8,8,8,8,8,8,8,8,8,8,8,8,8,8,8,8,8,8,8,8,8,8,8,8,8,8,8,8,8,8,8,8,8,8,8,8,8,8,8,8,8,8,8,8,8,8])) c) fun c=>bnd (cvI .i64 c) fun c=>bIQ .add (ge a 1) c fun a=>q a h) fun d=>cnd c (bIQ .shr (ge a 0) (.d (.int .u64 8)) fun c=>bIQ .add (ge a 1) (I 8) fun a=>d [c,a] h) (d [ge a 0,ge a 1] h)) fun d=>cnd c (bIQ .shr (ge a 0) (.d (.int .u64 16)) fun c=>bIQ .add (ge a 1) (I 16) fun a=>d [c,a] h) (d [ge a 0,ge a 1] h)) fun d=>cnd c (bIQ .shr a (.d (.int .u64 32)) fun a=>d [a,I 32] h) (d [a,I 0] h)
theorem yi(h:eJ (CX Y) t0 (out v)):CP Y F.eJ [t0] v:=CPo 0 (aO (nBQ (aO (nJQ [0,2] [])) (nBQ (aO (nJQ [0,2] [])) (nCQ (aO (nJQ [0,2] [])))))) Tryz.func169 h
def lU(C:CC)(a c:V)(q:kQ):Prop:=let h:Hp:=[]
 cnd (B false) (bnd (cvI .u32 a) fun a=>bnd (cvI .u32 c) fun c=>clQ C h F.Ba [a,c] fun a h=>e2Q a fun a c=>bnd (cvI .u64 a) fun a=>bnd (cvI .u64 c) fun c=>q (.tup [a,c]) h) (clQ C h F.dl [a,c] fun a h=>e2Q a fun a c=>q (.tup [a,c]) h)
theorem A8(h:lU (CX Y) t0 t1 (out v)):CP Y F.lU [t0,t1] v:=CPo 0 .o Tryz.func154 h
def dl(C:CC)(a c:V)(q:kkQ):Prop:=let h:Hp:=List.replicate 0 nnQ
 bnd (biI .and a (.d (.int .u64 4294967295))) fun d=>bnd (biI .shr a (.d (.int .u64 32))) fun e=>bnd (biI .and c (.d (.int .u64 4294967295))) fun f=>bnd (biI .shr c (.d (.int .u64 32))) fun g=>bnd (biI .mul d f) fun i=>bnd (biI .mul e f) fun f=>bnd (biI .shr i (.d (.int .u64 32))) fun i=>bnd (biI .add f i) fun f=>bnd (biI .and f (.d (.int .u64 4294967295))) fun i=>bnd (biI .shr f (.d (.int .u64 32))) fun f=>bnd (biI .mul d g) fun d=>bnd (biI .add i d) fun d=>bnd (biI .mul e g) fun e=>bnd (biI .add e f) fun e=>bnd (biI .shr d (.d (.int .u64 32))) fun d=>bnd (biI .add e d) fun d=>bnd (biI .mul a c) fun a=>q (.tup [d,a]) h
theorem rX(h:dl (CX Y) t0 t1 (out v)):CP Y F.dl [t0,t1] v:=CPo 0 .o Tryz.func185 h
def strconv_Atoi(C:CC)(a:V)(q:kQ):Prop:=let h:Hp:=[]
 clQ C h F.gE [a] fun c h=>e2Q c fun c d=>bnd (biF .neq d (.d (.pl .nilIface))) fun e=>cnd e (clQ C h F.AZ [(.d (.str [65,116,111,105])),a,I 0,I 0,d] fun a h=>q (.tup [c,a]) h) (q (.tup [c,(.d (.pl .nilIface))]) h)
theorem u5(h:strconv_Atoi (CX Y) t0 (out v)):CP Y F.strconv_Atoi [t0] v:=CPo 0 .o Tryz.func66 h
def mF(C:CC)(a c:V):aP:=fun l h q=>cIQ .lss (ge l 1) c (bxQ h 1 a (ge l 1) fun a=>b1Q h a fun a=>bIQ .sub a (.d (.int .u8 48)) fun a=>cIQ .gtr a (.d (.int .u8 9)) (False /- makeInterface -/) (bIQ .mul (ge l 0) (I 10) fun c=>bnd (cvI .i64 a) fun a=>bIQ .add c a fun a=>bIQ .add (ge l 1) (I 1) fun c=>q .normal [a,c] h)) (q (.exit 0) [ge l 0] h)
def gE(C:CC)(a:V)(q:kQ):Prop:=let h:Hp:=[]
 bnd (ju a) fun c=>gd (B false) true h (fun q=>q c h) fun d h=>gd (B false) true h (fun q=>bIQ .lss (I 0) d fun v=>q v h) fun d h=>gd (B false) true h (fun q=>q d h) fun d h=>gqQ d true h c fun e h=>gbQ d true h (biI .lss e (I 10)) fun e h=>gd (B false) true h (fun q=>bpQ d e (B false) fun v=>q v h) fun d h=>bpQ (B false) d (B false) fun d=>gqQ d false h (B true) fun e h=>gqQ e true h c fun f h=>gbQ e true h (biI .lss (I 0) f) fun f h=>gqQ e true h f fun f h=>gqQ f true h c fun c h=>gbQ f true h (biI .lss c (I 19)) fun c h=>gbQ e true h (oM f c (B false)) fun c h=>gbQ d false h (oM e c (B false)) fun c h=>bpQ d (B true) c fun c=>cnd c (bnd (ixS a (I 0)) fun c=>bIQ .eql c (.d (.int .u8 45)) fun c=>gqQ c false h a fun d h=>gbQ c false h (ixS d (I 0)) fun d h=>gbQ c false h (biI .eql d (.d (.int .u8 43))) fun d h=>bpQ c (B true) d fun c=>jn (fun c h=>cvB (ge c 0) h fun c h=>blQ c fun d=>lp (mF C c d) [] h [I 0,I 0] h (exK [((.exit 0),fun c h=>bnd (ixS a (I 0)) fun a=>bIQ .eql a (.d (.int .u8 45)) fun a=>jn (fun a h=>q (.tup [ge a 0,(.d (.pl .nilIface))]) h) fun d=>cnd a (bnd (unV .neg (ge c 0)) fun a=>d [a] h) (d [ge c 0] h)),(.ret,fun a h=>q (.tup [ge a 0,ge a 1]) h)])) fun d=>cnd c (bnd (slS a (some (I 1)) none) fun a=>bnd (ju a) fun c=>cIQ .lss c (I 1) (False /- makeInterface -/) (d [a] h)) (d [a] h)) (clQ C h F.xv [a,I 10,I 0] fun a h=>e2Q a fun a c=>q (.tup [a,c]) h)
theorem tz(h:gE (CX Y) t0 (out v)):CP Y F.gE [t0] v:=CPo 0 (d9 (nCQ (aO (nCQ (aO (nBQ (aO (nJQ [0] [5])) (aO (nBQ (aO (nCQ (.n (.l [6,49] [5,47,48] [((.exit 0),[6],[5]),(.ret,[2,3],[])] []) .o .o))) (nCQ (aO (nJQ [6] []))))))))))) Tryz.func91 h
def eY(C:CC)(a c:V):aP:=fun l h q=>cIQ .lss (ge l 0) c (bxQ h 1 a (ge l 0) fun a=>b1Q h a fun a=>bIQ .lss a (.d (.int .u8 48)) fun c=>gqQ c false h a fun a h=>gbQ c false h (biI .gtr a (.d (.int .u8 57))) fun a h=>bpQ c (B true) a fun a=>cnd a (q .ret [B false] h) (bIQ .add (ge l 0) (I 1) fun a=>q .normal [a] h)) (q (.exit 0) [] h)
def hO(C:CC)(a:V)(q:kQ):Prop:=let h:Hp:=[]
 cvB a h fun c h=>blQ c fun d=>lp (eY C c d) [] h [I 0] h (exK [((.exit 0),fun c h=>bnd (ju a) fun c=>bIQ .eql c (I 1) fun c=>gqQ c false h a fun d h=>gbQ c false h (ju d) fun d h=>gbQ c false h (biI .gtr d (I 1)) fun d h=>gqQ c false h d fun d h=>gqQ d true h a fun a h=>gbQ d true h (ixS a (I 0)) fun a h=>gbQ d true h (biI .neq a (.d (.int .u8 48))) fun a h=>gbQ c false h (oM d a (B false)) fun a h=>bpQ c (B true) a fun a=>q a h),(.ret,fun a h=>q (ge a 0) h)])
theorem wQ(h:hO (CX Y) t0 (out v)):CP Y F.hO [t0] v:=CPo 0 (aO (nCQ (aO (nCQ (.n (.l [8] [0,6,7] [((.exit 0),[],[0]),(.ret,[2],[])] []) .o .o))))) Tryz.func65 h
def jX(C:CC)(a:V)(q:kQ):Prop:=let h:Hp:=[]
 clQ C h F.hO [a] fun c h=>bnd (unV .not c) fun c=>gqQ c false h a fun a h=>gbQ c false h (ju a) fun a h=>gbQ c false h (biI .gtr a (I 400)) fun a h=>bpQ c (B true) a fun a=>cnd a (q (I 2) h) (q (I 0) h)
theorem Bw(h:jX (CX Y) t0 (out v)):CP Y F.jX [t0] v:=CPo 0 .o Tryz.func47 h
def bV(C:CC)(b:Nat):aP:=fun l h q=>blQ (ge l 0) fun a=>bIQ .gtr a (I 0) fun a=>gqQ a true h (ge l 0) fun c h=>gqQ a true h (ge l 0) fun d h=>gbQ a true h (aW d) fun d h=>gbQ a true h (biI .sub d (I 1)) fun d h=>gbQ a true h (ixV h 1 c d) fun c h=>gbQ a true h (ld1 h c) fun c h=>gbQ a true h (biI .eql c (.d (.int .u64 0))) fun c h=>bpQ a c (B false) fun a=>cnd a (blQ (ge l 0) fun a=>bIQ .sub a (I 1) fun a=>bnd (slV h 1 (ge l 0) none (some a)) fun a=>q .normal [a] h) (q (.exit 0) [ge l 0] h)
def aD(C:CC)(b:Nat)(h:Hp)(a:V)(q:kQ):Prop:=let h:Hp:=h++List.replicate 0 nnQ
 lp (bV C b) [] h [a] h (exK [((.exit 0),fun a h=>q (ge a 0) h)])
def mh(b:Nat):Ann:=(.n .x .o (.n .x (.n .x (.n (.l [0] [] [((.exit 0),[0],[])] []) .o .o) .o) .o))
theorem uL(C:CC)(h:Hp)(t0:V)(q:kkQ):fnI Y C Tryz.f134 0 mh [t0] h q=aD C h.length h t0 q:=by rfl
theorem uK(b:Nat):okB Tryz.prog Tryz.f134 (mh b)=true:=by rfl
theorem pD(hh:aD (CX Y) h.length h t0 (mW h.length v h2)):CI Y F.aD [t0] h v h2:=
 CI.of (fn:=Tryz.f134) (m:=0) (a:=mh) rfl (fun _=>rfl) Tryz.func134 (uK _) (by rw[uL];exact hh)
def pn(C:CC)(b:Nat)(a c:V):aP:=fun l h q=>cIQ .lss (ge l 1) c (bxQ h 1 a (ge l 1) fun a=>b1Q h a fun a=>bIQ .mul (.d (.int .u64 10)) (ge l 0) fun c=>bIQ .sub a (.d (.int .u8 48)) fun a=>bnd (cvI .u64 a) fun a=>bIQ .add c a fun a=>bIQ .add (ge l 1) (I 1) fun c=>q .normal [a,c] h) (q (.exit 2) [ge l 0] h)
def po(C:CC)(b:Nat)(a:V):aP:=fun l h q=>cIQ .gtr (ge l 1) (I 0) (bIQ .sub (ge l 1) (I 9) fun c=>bnd (mxI true [I 0,c]) fun c=>bnd (slS a (some c) (some (ge l 1))) fun a=>cvB a h fun a h=>blQ a fun c=>lp (pn C b a c) [] h [(.d (.int .u64 0)),I 0] h (exK [((.exit 2),fun a h=>fI 1 [.int .u64 0] [(0,(ge a 0))] h fun a h=>apV false (b+1) 1 8 (ge l 0) a h fun a h=>bIQ .sub (ge l 1) (I 9) fun c=>q .normal [a,c] h)])) (q (.exit 0) [ge l 0] h)
def cX(C:CC)(b:Nat)(h:Hp)(a:V)(q:kQ):Prop:=let h:Hp:=h++List.replicate 3 nnQ
 bnd (ju a) fun c=>bIQ .quo c (I 9) fun c=>bIQ .add c (I 1) fun c=>mkS (b+0) 8 [.int .u64 0] h (I 0) c fun c h=>bnd (ju a) fun d=>lp (po C b a) [] h [c,d] h (exK [((.exit 0),fun a h=>ciQ C h F.aD [ge a 0] (b+2) q)])
def sH(b:Nat):Ann:=(.n .x .o (.n .x (.n (.r [.slot (b+0)]) .o .o) (.n .x (.n .x .o (.n .x (.n (.l [3,4] [0] [((.exit 0),[3],[])] []) (.n .x .o (.n .x (.n .x (.n .x .o (.n .x (.n .x .o (.n .x (.n (.l [5,27] [0,3,4,25,26] [((.exit 2),[5],[0,3,4])] []) .o .o) .o)) (.n (.r [.o,.slot (b+1)]) .o .o))) .o) .o)) .o) .o)) (.n .x (.n (.r [.inl (b+2)]) .o .o) .o))))
theorem Fb(C:CC)(h:Hp)(t0:V)(q:kkQ):fnI Y C Tryz.f95 3 sH [t0] h q=cX C h.length h t0 q:=by rfl
theorem E9(b:Nat):okB Tryz.prog Tryz.f95 (sH b)=true:=by rfl
theorem Fa(hh:cX (CX Y) h.length h t0 (mW h.length v h2)):CI Y F.cX [t0] h v h2:=
 CI.of (fn:=Tryz.f95) (m:=3) (a:=sH) rfl (fun _=>rfl) Tryz.func95 (E9 _) (by rw[Fb];exact hh)
def dG(C:CC)(b:Nat)(a:V):aP:=fun l h q=>cIQ .lss (ge l 0) (ge l 1) (bxQ h 1 a (ge l 1) fun c=>b1Q h c fun c=>bxQ h 1 a (ge l 0) fun d=>b1Q h d fun d=>bxQ h 1 a (ge l 0) fun e=>stD h 1 e c fun _ h=>bxQ h 1 a (ge l 1) fun a=>stD h 1 a d fun _ h=>bIQ .add (ge l 0) (I 1) fun a=>bIQ .sub (ge l 1) (I 1) fun c=>q .normal [a,c] h) (q (.exit 0) [] h)
def bX(C:CC)(b:Nat)(h:Hp)(a:V)(q:kQ):Prop:=let h:Hp:=h++List.replicate 0 nnQ
 blQ a fun c=>bIQ .sub c (I 1) fun c=>lp (dG C b a) [] h [I 0,c] h (exK [((.exit 0),fun a h=>q (.tup []) h)])
def iX(b:Nat):Ann:=(.n .x .o (.n .x (.n (.l [2,3] [0] [((.exit 0),[],[])] []) .o .o) .o))
theorem re(C:CC)(h:Hp)(t0:V)(q:kkQ):fnI Y C Tryz.f135 0 iX [t0] h q=bX C h.length h t0 q:=by kernel_rfl
theorem rb(b:Nat):okB Tryz.prog Tryz.f135 (iX b)=true:=of_decide_eq_true ag
theorem rc(hh:bX (CX Y) h.length h t0 (mW h.length v h2)):CI Y F.bX [t0] h v h2:=
 CI.of (fn:=Tryz.f135) (m:=0) (a:=iX) rfl (fun _=>rfl) Tryz.func135 (rb _) (by rw[re];exact hh)
def df(C:CC)(a c:V):aP:=fun l h q=>bIQ .lss (ge l 2) (I 9) fun d=>gqQ d true h c fun c h=>gbQ d true h (biI .add c (I 1)) fun c h=>gqQ d true h a fun a h=>gbQ d true h (aW a) fun a h=>gbQ d true h (biI .lss c a) fun a h=>gqQ d true h a fun a h=>gqQ a false h (ge l 1) fun c h=>gbQ a false h (biI .gtr c (.d (.int .u64 0))) fun c h=>gbQ d true h (oM a (B true) c) fun a h=>bpQ d a (B false) fun a=>cnd a (bIQ .rem (ge l 1) (.d (.int .u64 10)) fun a=>bIQ .add (.d (.int .u64 48)) a fun a=>bnd (cvI .u8 a) fun a=>fI 1 [.int .u8 0] [(0,a)] h fun a h=>apV false 1 1 1 (ge l 0) a h fun a h=>bIQ .quo (ge l 1) (.d (.int .u64 10)) fun c=>bIQ .add (ge l 2) (I 1) fun d=>q .normal [a,c,d] h) (q (.exit 2) [ge l 0] h)
def iD(C:CC)(a c d:V):aP:=fun l h q=>cIQ .lss (ge l 1) d (bxQ h 1 c (ge l 1) fun c=>b1Q h c fun c=>lp (df C a (ge l 1)) [] h [ge l 0,c,I 0] h (exK [((.exit 2),fun a h=>bIQ .add (ge l 1) (I 1) fun c=>q .normal [ge a 0,c] h)])) (q (.exit 0) [ge l 0] h)
def aT(C:CC)(a:V)(q:kQ):Prop:=let h:Hp:=.replicate 3 nnQ
 blQ a fun c=>cIQ .eql c (I 0) (q (.d (.str [48])) h) (blQ a fun c=>bIQ .mul (I 9) c fun c=>mkS 0 1 [.int .u8 0] h (I 0) c fun c h=>blQ a fun d=>lp (iD C a a d) [] h [c,I 0] h (exK [((.exit 0),fun a h=>ciQ C h F.bX [ge a 0] 2 fun c h=>bnd (cvT h (ge a 0)) fun a=>q a h)]))
theorem uM(h:aT (CX Y) t0 (out v)):CP Y F.aT [t0] v:=CPo 3 (d9 (nBQ (nRQ [.slot 0]) (nBQ (aO (nCQ (.n (.l [3,16] [0,14,15] [((.exit 0),[3],[])] []) (d9 (nCQ (nCQ (d9 (nCQ (.n (.l [3,5,6] [0,4,14,15,16] [((.exit 2),[3],[0,14,15,16])] []) (aO (nCQ (nCQ (nCQ (nRQ [.o,.slot 1]))))) .o)))))) .o))) (nCQ (nRQ [.inl 2]))))) Tryz.func98 h
def cZ(C:CC)(a c:V):aP:=fun l h q=>cIQ .geq (ge l 0) (I 0) (bxQ h 1 a (ge l 0) fun d=>b1Q h d fun d=>bxQ h 1 c (ge l 0) fun e=>b1Q h e fun e=>cIQ .lss d e (q .ret [I (-1)] h) (bxQ h 1 a (ge l 0) fun a=>b1Q h a fun a=>bxQ h 1 c (ge l 0) fun c=>b1Q h c fun c=>cIQ .gtr a c (q .ret [I 1] h) (bIQ .sub (ge l 0) (I 1) fun a=>q .normal [a] h))) (q (.exit 0) [] h)
def cE(C:CC)(a c:V)(q:kQ):Prop:=let h:Hp:=[]
 blQ a fun d=>blQ c fun e=>cIQ .neq d e (blQ a fun a=>blQ c fun c=>bIQ .sub a c fun a=>bnd (mxI true [I (-1),a]) fun a=>bnd (mxI false [I 1,a]) fun a=>q a h) (blQ a fun d=>bIQ .sub d (I 1) fun d=>lp (cZ C a c) [] h [d] h (exK [((.exit 0),fun a h=>q (I 0) h),(.ret,fun a h=>q (ge a 0) h)]))
theorem sG(h:cE (CX Y) t0 t1 (out v)):CP Y F.cE [t0,t1] v:=CPo 0 (d9 (nCQ (aO (nCQ (.n (.l [5] [0,1] [((.exit 0),[],[]),(.ret,[4],[])] []) .o .o))))) Tryz.func96 h
def gX(C:CC)(b:Nat)(a c d e f:V):aP:=fun l h q=>cIQ .lss (ge l 1) f (bxQ h 1 e (ge l 1) fun e=>b1Q h e fun e=>bIQ .add c (ge l 1) fun f=>bxQ h 1 a f fun f=>b1Q h f fun f=>bIQ .mul d e fun d=>bIQ .add f d fun d=>bIQ .add (ge l 0) d fun d=>bIQ .add c (ge l 1) fun c=>bIQ .rem d (.d (.int .u64 1000000000)) fun e=>bxQ h 1 a c fun a=>stD h 1 a e fun _ h=>bIQ .quo d (.d (.int .u64 1000000000)) fun a=>bIQ .add (ge l 1) (I 1) fun c=>q .normal [a,c] h) (q (.exit 2) [ge l 0] h)
def gY(C:CC)(b:Nat)(a c d e:V):aP:=fun l h q=>cIQ .lss (ge l 0) e (bxQ h 1 d (ge l 0) fun d=>b1Q h d fun d=>blQ a fun e=>lp (gX C b c (ge l 0) d a e) [] h [(.d (.int .u64 0)),I 0] h (exK [((.exit 2),fun d h=>blQ a fun a=>bIQ .add (ge l 0) a fun a=>bxQ h 1 c a fun a=>stD h 1 a (ge d 0) fun _ h=>bIQ .add (ge l 0) (I 1) fun a=>q .normal [a] h)])) (q (.exit 0) [] h)
def bF(C:CC)(b:Nat)(h:Hp)(a c:V)(q:kQ):Prop:=let h:Hp:=h++List.replicate 2 nnQ
 blQ a fun d=>blQ c fun e=>bIQ .add d e fun d=>mkS (b+0) 8 [.int .u64 0] h d d fun d h=>blQ a fun e=>lp (gY C b c d a e) [] h [I 0] h (exK [((.exit 0),fun a h=>ciQ C h F.aD [d] (b+1) q)])
def k8(b:Nat):Ann:=(.n .x .o (.n .x (.n (.r [.slot (b+0)]) .o .o) (.n .x (.n .x .o (.n .x (.n (.l [19] [1,5,17,18] [((.exit 0),[],[5])] []) (.n .x .o (.n .x .o (.n .x (.n .x (.n .x .o (.n .x .o (.n .x (.n .x .o (.n .x (.n (.l [8,26] [1,5,6,7,17,18,19,24,25] [((.exit 2),[8],[1,5,6,17,18,19])] []) .o .o) .o)) .o))) .o) .o))) .o) .o)) (.n .x (.n (.r [.inl (b+1)]) .o .o) .o))))
theorem um(C:CC)(h:Hp)(t0:V)(t1:V)(q:kkQ):fnI Y C Tryz.f167 2 k8 [t0,t1] h q=bF C h.length h t0 t1 q:=by rfl
theorem uk(b:Nat):okB Tryz.prog Tryz.f167 (k8 b)=true:=by rfl
theorem ul(hh:bF (CX Y) h.length h t0 t1 (mW h.length v h2)):CI Y F.bF [t0,t1] h v h2:=
 CI.of (fn:=Tryz.f167) (m:=2) (a:=k8) rfl (fun _=>rfl) Tryz.func167 (uk _) (by rw[um];exact hh)
def cu(C:CC)(b:Nat)(h:Hp)(a c:V)(q:kQ):Prop:=let h:Hp:=h++List.replicate 2 nnQ
 fI 1 [.int .u64 0] [(0,c)] h fun c h=>ciQ C h F.aD [c] (b+0) fun c h=>ciQ C h F.bF [a,c] (b+1) q
def kA(b:Nat):Ann:=(.n .x .o (.n .x (.n (.r [.o,.inl (b+0),.inl (b+1)]) .o .o) .o))
theorem tE(C:CC)(h:Hp)(t0:V)(t1:V)(q:kkQ):fnI Y C Tryz.f136 2 kA [t0,t1] h q=cu C h.length h t0 t1 q:=by rfl
theorem tC(b:Nat):okB Tryz.prog Tryz.f136 (kA b)=true:=by rfl
theorem tD(hh:cu (CX Y) h.length h t0 t1 (mW h.length v h2)):CI Y F.cu [t0,t1] h v h2:=
 CI.of (fn:=Tryz.f136) (m:=2) (a:=kA) rfl (fun _=>rfl) Tryz.func136 (tC _) (by rw[tE];exact hh)
def gZ(C:CC)(a c d:V):aP:=fun l h q=>cIQ .geq (ge l 1) (I 0) (bIQ .mul (ge l 0) (.d (.int .u64 1000000000)) fun e=>bxQ h 1 a (ge l 1) fun a=>b1Q h a fun a=>bIQ .add e a fun a=>bIQ .quo a c fun e=>bxQ h 1 d (ge l 1) fun d=>stD h 1 d e fun _ h=>bIQ .rem a c fun a=>bIQ .sub (ge l 1) (I 1) fun c=>q .normal [a,c] h) (q (.exit 0) [ge l 0] h)
def cW(C:CC)(a c:V)(q:kQ):Prop:=let h:Hp:=.replicate 2 nnQ
 blQ a fun d=>mkS 0 8 [.int .u64 0] h d d fun d h=>blQ a fun e=>bIQ .sub e (I 1) fun e=>lp (gZ C a c d) [] h [(.d (.int .u64 0)),e] h (exK [((.exit 0),fun a h=>ciQ C h F.aD [d] 1 fun c h=>q (.tup [c,ge a 0]) h)])
theorem uo(h:cW (CX Y) t0 t1 (out v)):CP Y F.cW [t0,t1] v:=CPo 2 (aO (nBQ (nRQ [.slot 0]) (aO (nBQ (aO (nCQ (.n (.l [7,8] [0,1,6] [((.exit 0),[7],[6])] []) .o .o))) (nCQ (nRQ [.inl 1])))))) Tryz.func97 h
def fw(C:CC)(b:Nat)(a c d e:V):aP:=fun l h q=>blQ c fun f=>cIQ .leq (ge l 2) f (blQ c fun f=>bIQ .lss (ge l 2) f fun f=>jn (fun c h=>bIQ .add e (ge l 2) fun d=>bxQ h 1 a d fun d=>b1Q h d fun d=>bnd (cvI .i64 d) fun d=>bIQ .rem (ge c 0) (.d (.int .u64 1000000000)) fun f=>bnd (cvI .i64 f) fun f=>bIQ .sub d f fun d=>bIQ .sub d (ge l 1) fun d=>bIQ .quo (ge c 0) (.d (.int .u64 1000000000)) fun c=>bIQ .lss d (I 0) fun f=>jn (fun d h=>bIQ .add e (ge l 2) fun e=>bnd (cvI .u64 (ge d 0)) fun f=>bxQ h 1 a e fun a=>stD h 1 a f fun _ h=>bIQ .add (ge l 2) (I 1) fun a=>q .normal [c,ge d 1,a] h) fun a=>cnd f (bIQ .add d (I 1000000000) fun c=>a [c,I 1] h) (a [d,I 0] h)) fun a=>cnd f (bxQ h 1 c (ge l 2) fun c=>b1Q h c fun c=>bIQ .mul d c fun c=>bIQ .add (ge l 0) c fun c=>a [c] h) (a [ge l 0] h)) (q (.exit 0) [ge l 1] h)
def dC(C:CC)(b:Nat)(h:Hp)(a c d e:V)(q:kQ):Prop:=let h:Hp:=h++List.replicate 0 nnQ
 lp (fw C b a c d e) [] h [(.d (.int .u64 0)),I 0,I 0] h (exK [((.exit 0),fun a h=>bIQ .gtr (ge a 0) (I 0) fun a=>q a h)])
def mi(b:Nat):Ann:=(.n .x .o (.n .x .o (.n .x .o (.n .x (.n .x .o (.n .x (.n (.l [10,9,11] [0,1,2,3] [((.exit 0),[9],[])] []) (.n .x .o (.n .x (.n .x (.n .x (.n .x .o (.n (.j [10] [0,1,2,3,9,11]) .o .o)) (.n .x .o (.n .x .o (.n .x .o (.n .x (.n .x .o (.n (.j [12,9] [0,1,2,3,10,11]) .o .o)) .o))))) .o) .o)) .o) .o)) .o))))
theorem uP(C:CC)(h:Hp)(t0:V)(t1:V)(t2:V)(t3:V)(q:kkQ):fnI Y C Tryz.f137 0 mi [t0,t1,t2,t3] h q=dC C h.length h t0 t1 t2 t3 q:=by rfl
theorem uN(b:Nat):okB Tryz.prog Tryz.f137 (mi b)=true:=by rfl
theorem uO(hh:dC (CX Y) h.length h t0 t1 t2 t3 (mW h.length v h2)):CI Y F.dC [t0,t1,t2,t3] h v h2:=
 CI.of (fn:=Tryz.f137) (m:=0) (a:=mi) rfl (fun _=>rfl) Tryz.func137 (uN _) (by rw[uP];exact hh)
def iE(C:CC)(b:Nat)(a c d:V):aP:=fun l h q=>blQ c fun e=>cIQ .leq (ge l 1) e (bIQ .add d (ge l 1) fun e=>bxQ h 1 a e fun e=>b1Q h e fun e=>bIQ .add (ge l 0) e fun e=>blQ c fun f=>bIQ .lss (ge l 1) f fun f=>jn (fun c h=>bIQ .add d (ge l 1) fun d=>bIQ .rem (ge c 0) (.d (.int .u64 1000000000)) fun e=>bxQ h 1 a d fun a=>stD h 1 a e fun _ h=>bIQ .quo (ge c 0) (.d (.int .u64 1000000000)) fun a=>bIQ .add (ge l 1) (I 1) fun c=>q .normal [a,c] h) fun a=>cnd f (bxQ h 1 c (ge l 1) fun c=>b1Q h c fun c=>bIQ .add e c fun c=>a [c] h) (a [e] h)) (q (.exit 0) [] h)
def cN(C:CC)(b:Nat)(h:Hp)(a c d:V)(q:kQ):Prop:=let h:Hp:=h++List.replicate 0 nnQ
 lp (iE C b a c d) [] h [(.d (.int .u64 0)),I 0] h (exK [((.exit 0),fun a h=>q (.tup []) h)])
def mn(b:Nat):Ann:=(.n .x .o (.n .x .o (.n .x (.n (.l [6,7] [0,1,2] [((.exit 0),[],[])] []) (.n .x .o (.n .x (.n .x (.n .x .o (.n .x (.n .x .o (.n (.j [6] [0,1,2,7]) .o .o)) .o)) .o) .o)) .o) .o)))
theorem uS(C:CC)(h:Hp)(t0:V)(t1:V)(t2:V)(q:kkQ):fnI Y C Tryz.f138 0 mn [t0,t1,t2] h q=cN C h.length h t0 t1 t2 q:=by rfl
theorem uQ(b:Nat):okB Tryz.prog Tryz.f138 (mn b)=true:=by rfl
theorem uR(hh:cN (CX Y) h.length h t0 t1 t2 (mW h.length v h2)):CI Y F.cN [t0,t1,t2] h v h2:=
 CI.of (fn:=Tryz.f138) (m:=0) (a:=mn) rfl (fun _=>rfl) Tryz.func138 (uQ _) (by rw[uS];exact hh)
def jW(C:CC)(a:V):aP:=fun l h q=>blQ (ge l 0) fun c=>blQ a fun a=>cIQ .leq c a (fI 1 [.int .u64 0] [(0,(.d (.int .u64 0)))] h fun a h=>apV false 3 1 8 (ge l 0) a h fun a h=>q .normal [a] h) (q (.exit 0) [ge l 0] h)
def bA(C:CC)(a c d e:V):aP:=fun l h q=>bIQ .geq (ge l 0) (.d (.int .u64 1000000000)) fun f=>gqQ f false h (ge l 1) fun g h=>gbQ f false h (biI .lss g (.d (.int .u64 1000000000))) fun g h=>gqQ f false h g fun g h=>gqQ g true h (ge l 0) fun i h=>gqQ g true h c fun j h=>gqQ g true h d fun k h=>gbQ g true h (biI .sub k (I 2)) fun k h=>gbQ g true h (ixV h 1 j k) fun j h=>gbQ g true h (ld1 h j) fun j h=>gbQ g true h (biI .mul i j) fun i h=>gqQ g true h (ge l 1) fun j h=>gbQ g true h (biI .mul j (.d (.int .u64 1000000000))) fun j h=>gqQ g true h a fun a h=>gqQ g true h e fun e h=>gqQ g true h d fun k h=>gbQ g true h (biI .add e k) fun e h=>gbQ g true h (biI .sub e (I 2)) fun e h=>gbQ g true h (ixV h 1 a e) fun a h=>gbQ g true h (ld1 h a) fun a h=>gbQ g true h (biI .add j a) fun a h=>gbQ g true h (biI .gtr i a) fun a h=>gbQ f false h (oM g a (B false)) fun a h=>bpQ f (B true) a fun a=>cnd a (bIQ .sub (ge l 0) (.d (.int .u64 1)) fun a=>bIQ .sub d (I 1) fun d=>bxQ h 1 c d fun c=>b1Q h c fun c=>bIQ .add (ge l 1) c fun c=>q .normal [a,c] h) (q (.exit 4) [ge l 0] h)
def du(C:CC)(a c d e:V):aP:=fun l h q=>cIQ .geq (ge l 0) (I 0) (bIQ .add (ge l 0) d fun f=>bxQ h 1 a f fun f=>b1Q h f fun f=>bIQ .mul f (.d (.int .u64 1000000000)) fun f=>bIQ .add (ge l 0) d fun g=>bIQ .sub g (I 1) fun g=>bxQ h 1 a g fun g=>b1Q h g fun g=>bIQ .add f g fun f=>bIQ .sub d (I 1) fun g=>bxQ h 1 c g fun g=>b1Q h g fun g=>bIQ .quo f g fun g=>bIQ .sub d (I 1) fun i=>bxQ h 1 c i fun i=>b1Q h i fun i=>bIQ .rem f i fun f=>lp (bA C a c d (ge l 0)) [] h [g,f] h (exK [((.exit 4),fun d h=>ciQ C h F.dC [a,c,ge d 0,ge l 0] 5 fun f h=>jn (fun a h=>bxQ h 1 e (ge l 0) fun c=>stD h 1 c (ge a 0) fun _ h=>bIQ .sub (ge l 0) (I 1) fun a=>q .normal [a] h) fun e=>cnd f (bIQ .sub (ge d 0) (.d (.int .u64 1)) fun d=>ciQ C h F.cN [a,c,ge l 0] 6 fun a h=>e [d] h) (e [ge d 0] h))])) (q (.exit 2) [] h)
def dE(C:CC)(a c:V)(q:kQ):Prop:=let h:Hp:=.replicate 9 nnQ
 blQ c fun d=>bIQ .sub d (I 1) fun d=>bxQ h 1 c d fun d=>b1Q h d fun d=>bIQ .add d (.d (.int .u64 1)) fun d=>bIQ .quo (.d (.int .u64 1000000000)) d fun d=>ciQ C h F.cu [a,d] 0 fun e h=>fI 1 [.int .u64 0] [(0,(.d (.int .u64 0)))] h fun f h=>apV false 1 1 8 e f h fun e h=>ciQ C h F.cu [c,d] 2 fun c h=>blQ c fun f=>lp (jW C a) [] h [e] h (exK [((.exit 0),fun a h=>blQ (ge a 0) fun e=>bIQ .sub e f fun e=>mkS 4 8 [.int .u64 0] h e e fun e h=>blQ (ge a 0) fun g=>bIQ .sub g f fun g=>bIQ .sub g (I 1) fun g=>lp (du C (ge a 0) c f e) [5,6] h [g] h (exK [((.exit 2),fun c h=>ciQ C h F.aD [ge a 0] 7 fun a h=>clQ C h F.cW [a,d] fun a h=>e2Q a fun a c=>ciQ C h F.aD [e] 8 fun c h=>q (.tup [c,a]) h)]))])
def kC:Ann:=(d9 (nBQ (nRQ [.inl 0,.o,.slot 1,.inl 2]) (aO (nBQ (nCQ (.n (.l [7] [0,6,8,9] [((.exit 0),[7],[6,8,9])] []) (aO (nCQ (nRQ [.o,.slot 3]))) .o)) (nBQ (nRQ [.slot 4]) (nBQ (aO (nCQ (.n (.l [11] [6,7,8,9,10] [((.exit 2),[],[6,7,10])] [5,6]) (aO (nCQ (nCQ (d9 (nBQ (nCQ (.n (.l [13,14] [6,7,8,9,10,11] [((.exit 4),[13],[6,7,8,9,10,11])] []) .o .o)) (nCQ (nBQ (nRQ [.inl 5]) (.n (.j [13] [6,7,8,9,10,11]) (aO (nRQ [.inl 6])) .o)))))))) .o))) (nBQ (nRQ [.inl 7]) (nCQ (nRQ [.inl 8])))))))))
attribute [local irreducible] bnd gd cal cnd ext fI xp stD alV alD fJ jn lp exK mkS apV cai yf in
theorem tI(C:CC)(t0:V)(t1:V)(q:kkQ):fnD Y C Tryz.f99 9 kC [t0,t1] q=dE C t0 t1 q:=NI
theorem tF:okB Tryz.prog Tryz.f99 kC=true:=aF
theorem tG(h:dE (CX Y) t0 t1 (out v)):CP Y F.dE [t0,t1] v:=
 CP.of (fn:=Tryz.f99) (m:=9) (a:=kC) rfl (fun _=>rfl) Tryz.func99 tF (by rw[tI];exact h)
def dM(C:CC)(a c d:V):aP:=fun l h q=>cIQ .lss (ge l 0) d (bxQ h 1 a (ge l 0) fun a=>b1Q h a fun a=>cal C.p h c [a] fun a h=>cnd a (q .ret [ge l 0] h) (bIQ .add (ge l 0) (I 1) fun a=>q .normal [a] h)) (q (.exit 0) [] h)
def bh(C:CC)(a c:V)(q:kQ):Prop:=let h:Hp:=[]
 blQ a fun d=>lp (dM C a c d) [] h [I 0] h (exK [((.exit 0),fun a h=>q (I (-1)) h),(.ret,fun a h=>q (ge a 0) h)])
theorem pJ(h:bh (CX Y) t0 t1 (out v)):CP Y F.bh [t0,t1] v:=CPo 0 (aO (nCQ (aO (nCQ (.n (.l [8] [0,1,7] [((.exit 0),[],[]),(.ret,[4],[])] []) .o .o))))) Tryz.func194 h
def bi(C:CC)(a c:V)(q:kQ):Prop:=let h:Hp:=[]
 clQ C h F.bh [a,c] fun a h=>bIQ .geq a (I 0) fun a=>q a h
theorem oP(h:bi (CX Y) t0 t1 (out v)):CP Y F.bi [t0,t1] v:=CPo 0 .o Tryz.func173 h
def mQ(C:CC)(a c d:V):aP:=fun l h q=>cIQ .lss (ge l 0) d (bxQ h 1 a (ge l 0) fun a=>b1Q h a fun a=>cal C.p h c [a] fun a h=>cnd a (q .ret [ge l 0] h) (bIQ .add (ge l 0) (I 1) fun a=>q .normal [a] h)) (q (.exit 0) [] h)
def cS(C:CC)(a c:V)(q:kQ):Prop:=let h:Hp:=[]
 blQ a fun d=>lp (mQ C a c d) [] h [I 0] h (exK [((.exit 0),fun a h=>q (I (-1)) h),(.ret,fun a h=>q (ge a 0) h)])
theorem nA(h:cS (CX Y) t0 t1 (out v)):CP Y F.cS [t0,t1] v:=CPo 0 (aO (nCQ (aO (nCQ (.n (.l [8] [0,1,7] [((.exit 0),[],[]),(.ret,[4],[])] []) .o .o))))) Tryz.func196 h
def aZ(C:CC)(a c:V)(q:kQ):Prop:=let h:Hp:=[]
 clQ C h F.cS [a,c] fun a h=>bIQ .geq a (I 0) fun a=>q a h
theorem mb(h:aZ (CX Y) t0 t1 (out v)):CP Y F.aZ [t0,t1] v:=CPo 0 .o Tryz.func176 h
def aU(C:CC)(a:V)(q:kQ):Prop:=let h:Hp:=[]
 bnd (ju a) fun c=>bIQ .gtr c (I 0) fun c=>gqQ c true h a fun d h=>gbQ c true h (ixS d (I 0)) fun d h=>gbQ c true h (biI .eql d (.d (.int .u8 45))) fun d h=>bpQ c d (B false) fun c=>cnd c (bnd (slS a (some (I 1)) none) fun a=>q (.tup [B true,a]) h) (q (.tup [B false,a]) h)
theorem EH(h:aU (CX Y) t0 (out v)):CP Y F.aU [t0] v:=CPo 0 .o Tryz.func35 h
def mL(C:CC)(a:V)(q:kQ):Prop:=let h:Hp:=[]
 clQ C h F.aU [a] fun a h=>e2Q a fun a c=>gqQ a true h c fun d h=>gbQ a true h (biS .eql d (.d (.str [48]))) fun d h=>bpQ a d (B false) fun a=>gqQ a false h c fun c h=>gd a false h (fun q=>clQ C h F.jX [c] q) fun c h=>gbQ a false h (biI .neq c (I 0)) fun c h=>bpQ a (B true) c fun a=>cnd a (q (I 2) h) (q (I 0) h)
theorem EK(h:mL (CX Y) t0 (out v)):CP Y F.mL [t0] v:=CPo 0 .o Tryz.func32 h
def c8(C:CC)(a:V)(q:kQ):Prop:=let h:Hp:=[]
 bSQ .eql a (.d (.str [48])) fun c=>cnd c (q (I 0) h) (bnd (ixS a (I 0)) fun a=>cIQ .eql a (.d (.int .u8 45)) (q (I (-1)) h) (q (I 1) h))
theorem GX(h:c8 (CX Y) t0 (out v)):CP Y F.c8 [t0] v:=CPo 0 .o Tryz.func33 h
def dF(C:CC)(a:V)(q:kQ):Prop:=let h:Hp:=[]
 clQ C h F.strconv_Itoa [a] q
theorem Ce(h:dF (CX Y) t0 (out v)):CP Y F.dF [t0] v:=CPo 0 .o Tryz.func37 h
def bL(C:CC)(a c:V)(q:kQ):Prop:=let h:Hp:=[]
 bnd (ju a) fun d=>cIQ .gtr d c (q (.tup [I 0,B false]) h) (clQ C h F.strconv_Atoi [a] fun a h=>e2Q a fun a c=>bnd (biF .eql c (.d (.pl .nilIface))) fun c=>q (.tup [a,c]) h)
theorem qW(h:bL (CX Y) t0 t1 (out v)):CP Y F.bL [t0,t1] v:=CPo 0 .o Tryz.func48 h
def eQ(C:CC)(a:V)(q:kQ):Prop:=let h:Hp:=[]
 clQ C h F.aU [a] fun a h=>e2Q a fun a c=>q c h
theorem Az(h:eQ (CX Y) t0 (out v)):CP Y F.eQ [t0] v:=CPo 0 .o Tryz.func19 h
def qy(C:CC):aP:=fun l h q=>cIQ .neq (ge l 1) (I 0) (bIQ .rem (ge l 0) (ge l 1) fun a=>q .normal [ge l 1,a] h) (q (.exit 0) [ge l 0] h)
def qO(C:CC)(a c:V)(q:kQ):Prop:=let h:Hp:=[]
 lp (qy C) [] h [a,c] h (exK [((.exit 0),fun a h=>q (ge a 0) h)])
theorem II(h:qO (CX Y) t0 t1 (out v)):CP Y F.qO [t0,t1] v:=CPo 0 (aO (nCQ (nCQ (.n (.l [0,1] [] [((.exit 0),[0],[])] []) .o .o)))) Tryz.func49 h
def oE(C:CC)(a c:V)(q:kQ):Prop:=let h:Hp:=[]
 clQ C h F.eQ [a] fun a h=>clQ C h F.eQ [c] fun c h=>clQ C h F.bL [a,I 18] fun d h=>e2Q d fun d e=>jn (fun d h=>clQ C h F.m7 [a,c] q) fun a=>cnd e (clQ C h F.bL [c,I 18] fun c h=>e2Q c fun c e=>cnd e (clQ C h F.qO [d,c] fun a h=>clQ C h F.dF [a] q) (a [] h)) (a [] h)
theorem IN(h:oE (CX Y) t0 t1 (out v)):CP Y F.oE [t0,t1] v:=CPo 0 (d9 (nCQ (d9 (nJQ [] [5,6])))) Tryz.func34 h
def eE(C:CC)(a:V)(q:kQ):Prop:=let h:Hp:=.replicate 1 nnQ
 fJ 0 a h fun a h=>bfQ 0 a fun c=>b1Q h c fun c=>clQ C h F.mL [c] fun c h=>bIQ .neq c (I 0) fun c=>jn (fun c h=>cnd (ge c 0) (q (I 2) h) (bfQ 1 a fun c=>b1Q h c fun c=>clQ C h F.c8 [c] fun c h=>bIQ .leq c (I 0) fun c=>jn (fun a h=>cnd (ge a 0) (q (I 2) h) (q (I 0) h)) fun d=>cnd c (d [c] h) (bfQ 0 a fun c=>b1Q h c fun c=>bfQ 1 a fun a=>b1Q h a fun a=>clQ C h F.oE [c,a] fun a h=>bSQ .neq a (.d (.str [49])) fun a=>d [a] h))) fun d=>cnd c (d [c] h) (bfQ 1 a fun a=>b1Q h a fun a=>clQ C h F.mL [a] fun a h=>bIQ .neq a (I 0) fun a=>d [a] h)
theorem zV(h:eE (CX Y) t0 (out v)):CP Y F.eE [t0] v:=CPo 1 (nBQ (nRQ [.slot 0]) (nCQ (nCQ (nBQ (aO (nJQ [3] [1])) (aO (nCQ (aO (nJQ [12] [])))))))) Tryz.func17 h
def lN(C:CC)(a:V)(q:kQ):Prop:=let h:Hp:=[]
 clQ C h F.aU [a] fun a h=>e2Q a fun a c=>bnd (unV .not a) fun a=>clQ C h F.b9 [a,c] q
theorem IK(h:lN (CX Y) t0 (out v)):CP Y F.lN [t0] v:=CPo 0 .o Tryz.func68 h
def kI(C:CC)(a:V)(q:kQ):Prop:=let h:Hp:=[]
 clQ C h F.eS [a,I 10,I 64] fun a h=>e2Q a fun a c=>bnd (biF .neq c (.d (.pl .nilIface))) fun c=>cnd c (q (.tup [I 0,B false]) h) (q (.tup [a,B true]) h)
theorem EI(h:kI (CX Y) t0 (out v)):CP Y F.kI [t0] v:=CPo 0 .o Tryz.func115 h
def iF(C:CC)(a c:V)(q:kQ):Prop:=let h:Hp:=[]
 clQ C h F.c8 [a] fun d h=>clQ C h F.c8 [c] fun e h=>cIQ .neq d e (cIQ .lss d e (q (I (-1)) h) (q (I 1) h)) (clQ C h F.aU [a] fun a h=>e2Q a fun a d=>clQ C h F.aU [c] fun c h=>e2Q c fun c e=>jn (fun a h=>clQ C h F.cC [ge a 0,ge a 1] q) fun c=>cnd a (c [e,d] h) (c [d,e] h))
theorem AW(h:iF (CX Y) t0 t1 (out v)):CP Y F.iF [t0,t1] v:=CPo 0 (Qn (nCQ (aO (nJQ [8,10] [])))) Tryz.func178 h
def bc(C:CC)(a c:V)(q:kQ):Prop:=let h:Hp:=[]
 bSQ .eql c (.d (.str [48])) fun d=>cnd d (q (.tup [(.d (.str [])),(.d (.str [])),I 17]) h) (clQ C h F.bL [a,I 18] fun d h=>e2Q d fun d e=>jn (fun d h=>clQ C h F.aU [a] fun a h=>e2Q a fun a d=>clQ C h F.aU [c] fun c h=>e2Q c fun c e=>clQ C h F.dV [d,e] fun d h=>e3Q d fun d f g=>nzQ g (q (.tup [(.d (.str [])),(.d (.str [])),g]) h) (bnd (biB .neq a c) fun g=>gqQ g true h f fun i h=>gbQ g true h (biS .neq i (.d (.str [48]))) fun i h=>bpQ g i (B false) fun g=>jn (fun d h=>bnd (biB .neq a c) fun a=>clQ C h F.b9 [a,ge d 0] fun a h=>clQ C h F.b9 [c,ge d 1] fun c h=>q (.tup [a,c,I 0]) h) fun a=>cnd g (clQ C h F.fM [d,(.d (.str [49]))] fun c h=>clQ C h F.gF [e,f] fun d h=>e2Q d fun d e=>a [c,d] h) (a [d,f] h))) fun a=>cnd e (clQ C h F.bL [c,I 18] fun c h=>e2Q c fun c e=>cnd e (bIQ .quo d c fun a=>bIQ .rem d c fun d=>bIQ .neq d (I 0) fun e=>gqQ e true h d fun f h=>gbQ e true h (biI .lss f (I 0)) fun f h=>gqQ e true h c fun g h=>gbQ e true h (biI .lss g (I 0)) fun g h=>gbQ e true h (biB .neq f g) fun f h=>bpQ e f (B false) fun e=>jn (fun a h=>clQ C h F.dF [ge a 0] fun c h=>clQ C h F.dF [ge a 1] fun a h=>q (.tup [c,a,I 0]) h) fun f=>cnd e (bIQ .sub a (I 1) fun a=>bIQ .add d c fun c=>f [a,c] h) (f [a,d] h)) (a [] h)) (a [] h))
def qX:Ann:=(d9 (nBQ (d9 (.n (.j [] [0,1]) (d9 (nCQ (aO (nCQ (aO (nJQ [11,12] [])))))) .o)) (Qn (nCQ (aO (nJQ [17,18] [13,15]))))))
theorem Cg(C:CC)(t0:V)(t1:V)(q:kkQ):fnD Y C Tryz.f69 0 qX [t0,t1] q=bc C t0 t1 q:=by kernel_rfl
theorem Cf:okB Tryz.prog Tryz.f69 qX=true:=aF
theorem uU(h:bc (CX Y) t0 t1 (out v)):CP Y F.bc [t0,t1] v:=
 CP.of (fn:=Tryz.f69) (m:=0) (a:=qX) rfl (fun _=>rfl) Tryz.func69 Cf (by rw[Cg];exact h)
def pE(C:CC)(a c:V)(q:kQ):Prop:=let h:Hp:=[]
 clQ C h F.eQ [a] fun a h=>clQ C h F.eQ [c] fun c h=>clQ C h F.oO [a,c] q
theorem IM(h:pE (CX Y) t0 t1 (out v)):CP Y F.pE [t0,t1] v:=CPo 0 .o Tryz.func121 h
def kJ(C:CC)(a c:V)(q:kQ):Prop:=let h:Hp:=[]
 cIQ .lss c (I 0) (q (.tup [(.d (.str [])),I 3]) h) (clQ C h F.aU [a] fun a h=>e2Q a fun a d=>bnd (ju d) fun e=>bIQ .quo (I 4000) e fun e=>cIQ .gtr c e (q (.tup [(.d (.str [])),I 4]) h) (clQ C h F.iP [d,c] fun d h=>e2Q d fun d e=>nzQ e (q (.tup [(.d (.str [])),e]) h) (gqQ a true h c fun c h=>gbQ a true h (biI .rem c (I 2)) fun c h=>gbQ a true h (biI .eql c (I 1)) fun c h=>bpQ a c (B false) fun a=>clQ C h F.b9 [a,d] fun a h=>q (.tup [a,I 0]) h)))
theorem EJ(h:kJ (CX Y) t0 t1 (out v)):CP Y F.kJ [t0,t1] v:=CPo 0 .o Tryz.func188 h
def oO(C:CC)(a c:V)(q:kQ):Prop:=let h:Hp:=[]
 bSQ .eql a (.d (.str [48])) fun d=>gqQ d false h c fun e h=>gbQ d false h (biS .eql e (.d (.str [48]))) fun e h=>bpQ d (B true) e fun d=>cnd d (q (.d (.str [48])) h) (clQ C h F.m7 [a,c] fun d h=>clQ C h F.dV [a,d] fun a h=>e3Q a fun a d e=>nzQ e (q (.d (.str [])) h) (clQ C h F.jM [a,c] q))
theorem Fj(h:oO (CX Y) t0 t1 (out v)):CP Y F.oO [t0,t1] v:=CPo 0 .o Tryz.func157 h
def By(C:CC)(a c:V):aP:=fun l h q=>cIQ .lss (ge l 1) c (bxQ h 1 a (ge l 1) fun c=>b1Q h c fun c=>bIQ .mul c (.d (.int .u64 1000000000)) fun c=>bIQ .add (ge l 0) c fun c=>bIQ .and c (.d (.int .u64 4294967295)) fun d=>bxQ h 1 a (ge l 1) fun a=>stD h 1 a d fun _ h=>bIQ .shr c (.d (.int .u64 32)) fun a=>bIQ .add (ge l 1) (I 1) fun c=>q .normal [a,c] h) (q (.exit 2) [ge l 0] h)
def Bz(C:CC)(a:V):aP:=fun l h q=>cIQ .geq (ge l 1) (I 0) (jn (fun a h=>bIQ .sub (ge l 1) (I 1) fun c=>q .normal [ge a 0,c] h) fun c=>bxQ h 1 a (ge l 1) fun a=>b1Q h a fun a=>blQ (ge l 0) fun d=>lp (By C (ge l 0) d) [] h [a,I 0] h (exK [((.exit 2),fun a h=>bIQ .gtr (ge a 0) (.d (.int .u64 0)) fun d=>jn (fun a h=>c [ge a 0] h) fun c=>cnd d (fI 1 [.int .u64 0] [(0,(ge a 0))] h fun a h=>apV false 1 1 8 (ge l 0) a h fun a h=>c [a] h) (c [ge l 0] h))])) (q (.exit 0) [ge l 0] h)
def nL(C:CC)(a:V)(q:kQ):Prop:=let h:Hp:=.replicate 2 nnQ
 clQ C h F.iO [a] fun c h=>e2Q c fun c d=>cnd d (clQ C h F.eJ [c] q) (ciQ C h F.cX [a] 0 fun a h=>blQ a fun c=>bIQ .sub c (I 1) fun c=>lp (Bz C a) [] h [nSQ,c] h (exK [((.exit 0),fun a h=>blQ (ge a 0) fun c=>bIQ .sub c (I 1) fun c=>bIQ .mul (I 32) c fun c=>blQ (ge a 0) fun d=>bIQ .sub d (I 1) fun d=>bxQ h 1 (ge a 0) d fun a=>b1Q h a fun a=>clQ C h F.eJ [a] fun a h=>bIQ .add c a fun a=>q a h)]))
theorem Ej(h:nL (CX Y) t0 (out v)):CP Y F.nL [t0] v:=CPo 2 (wG (nBQ (nRQ [.inl 0]) (nCQ (aO (nCQ (.n (.l [5,7] [6] [((.exit 0),[5],[])] []) (aO (nCQ (.n (.j [5] [6,7]) (aO (nBQ (aO (nCQ (.n (.l [8,33] [5,6,7,32] [((.exit 2),[8],[5,6,7])] []) .o .o))) (aO (.n (.j [5] [6,7]) (nRQ [.o,.slot 1]) .o)))) .o))) .o)))))) Tryz.func203 h
def kD(C:CC):aP:=fun l h q=>cIQ .gtr (ge l 2) (I 0) (jn (fun a h=>bIQ .shr (ge l 2) (.d (.int .u64 1)) fun c=>q .normal [ge a 0,ge a 1,c] h) fun a=>bIQ .and (ge l 2) (I 1) fun c=>bIQ .eql c (I 1) fun c=>jn (fun c h=>bIQ .gtr (ge l 2) (I 1) fun d=>jn (fun d h=>a [ge c 0,ge d 0] h) fun a=>cnd d (ciQ C h F.bF [ge l 1,ge l 1] 2 fun c h=>a [c] h) (a [ge l 1] h)) fun a=>cnd c (ciQ C h F.bF [ge l 0,ge l 1] 1 fun c h=>a [c] h) (a [ge l 0] h)) (q (.exit 1) [ge l 0] h)
def iP(C:CC)(a c:V)(q:kQ):Prop:=let h:Hp:=.replicate 3 nnQ
 cIQ .lss c (I 0) (q (.tup [(.d (.str [])),I 3]) h) (bIQ .eql c (I 0) fun d=>gqQ d false h a fun e h=>gbQ d false h (biS .eql e (.d (.str [49]))) fun e h=>bpQ d (B true) e fun d=>cnd d (q (.tup [(.d (.str [49])),I 0]) h) (bSQ .eql a (.d (.str [48])) fun d=>cnd d (q (.tup [(.d (.str [48])),I 0]) h) (clQ C h F.nL [a] fun d h=>bIQ .sub d (I 1) fun d=>bIQ .quo (I 66439) d fun d=>cIQ .gtr c d (q (.tup [(.d (.str [])),I 4]) h) (fI 1 [.int .u64 0] [(0,(.d (.int .u64 1)))] h fun d h=>ciQ C h F.cX [a] 0 fun a h=>lp (kD C) [] h [d,a,c] h (exK [((.exit 1),fun a h=>clQ C h F.aT [ge a 0] fun a h=>bnd (ju a) fun c=>cIQ .gtr c (I 20000) (q (.tup [(.d (.str [])),I 4]) h) (q (.tup [a,I 0]) h))])))))
def qq:Ann:=(wG (nBQ (nRQ [.o,.inl 0]) (nCQ (nCQ (.n (.l [7,8,1] [] [((.exit 1),[7],[])] []) (aO (nCQ (.n (.j [7,8] [1]) (nBQ (aO (.n (.j [7] [1,8]) (nRQ [.inl 1]) .o)) (aO (.n (.j [8] [1,7]) (nRQ [.inl 2]) .o))) .o))) .o)))))
attribute [local irreducible] bnd gd cal cnd ext fI xp stD alV alD fJ jn lp exK mkS apV cai yf in
theorem Bu(C:CC)(t0:V)(t1:V)(q:kkQ):fnD Y C Tryz.f201 3 qq [t0,t1] q=iP C t0 t1 q:=NI
theorem Bs:okB Tryz.prog Tryz.f201 qq=true:=aF
theorem Bt(h:iP (CX Y) t0 t1 (out v)):CP Y F.iP [t0,t1] v:=
 CP.of (fn:=Tryz.f201) (m:=3) (a:=qq) rfl (fun _=>rfl) Tryz.func201 Bs (by rw[Bu];exact h)
def fL(C:CC)(a:V)(q:kQ):Prop:=let h:Hp:=[]
 bnd (ju a) fun c=>cIQ .gtr c (I 9) (q (.tup [I 0,B false]) h) (clQ C h F.strconv_Atoi [a] fun a h=>e2Q a fun a c=>bnd (biF .eql c (.d (.pl .nilIface))) fun c=>q (.tup [a,c]) h)
theorem yw(h:fL (CX Y) t0 (out v)):CP Y F.fL [t0] v:=CPo 0 .o Tryz.func155 h
def eD(C:CC)(a:V)(q:kQ):Prop:=let h:Hp:=.replicate 1 nnQ
 fJ 0 a h fun a h=>bfQ 0 a fun c=>b1Q h c fun c=>clQ C h F.fL [c] fun c h=>e2Q c fun c d=>bfQ 1 a fun a=>b1Q h a fun a=>clQ C h F.fL [a] fun a h=>e2Q a fun a e=>gqQ d true h e fun e h=>bpQ d e (B false) fun d=>q (.tup [c,a,d]) h
theorem Bn(h:eD (CX Y) t0 (out v)):CP Y F.eD [t0] v:=CPo 1 (nCQ (nRQ [.slot 0])) Tryz.func118 h
def m5(C:CC):aP:=fun l h q=>cIQ .neq (ge l 1) (I 0) (bIQ .rem (ge l 0) (ge l 1) fun a=>q .normal [ge l 1,a] h) (q (.exit 0) [ge l 0] h)
def iM(C:CC)(a c:V)(q:kQ):Prop:=let h:Hp:=.replicate 1 nnQ
 alV 0 [.d (.str []),.d (.str [])] h fun d h=>lp (m5 C) [] h [a,c] h (exK [((.exit 0),fun e h=>bIQ .lss (ge e 0) (I 0) fun f=>jn (fun e h=>bIQ .quo a (ge e 0) fun a=>clQ C h F.strconv_Itoa [a] fun a h=>bIQ .quo c (ge e 0) fun c=>clQ C h F.strconv_Itoa [c] fun c h=>bnd (bld [(0,1),(1,1)] [.str [],.str []] [(0,a),(1,c)]) fun a=>stD h 2 d a fun _ h=>bnd (ldA h 2 d) fun a=>q a h) fun a=>cnd f (bnd (unV .neg (ge e 0)) fun c=>a [c] h) (a [ge e 0] h))])
theorem E5(h:iM (CX Y) t0 t1 (out v)):CP Y F.iM [t0,t1] v:=CPo 1 (nBQ (nRQ [.slot 0]) (aO (nBQ (nCQ (.n (.l [5,6] [0,1,4] [((.exit 0),[5],[0,1,4])] []) .o .o)) (nCQ (aO (nJQ [5] [0,1,4])))))) Tryz.func119 h
def bZ(C:CC)(a c:V)(q:kQ):Prop:=let h:Hp:=.replicate 1 nnQ
 alV 0 [.d (.str []),.d (.str [])] h fun d h=>clQ C h F.c8 [c] fun e h=>bIQ .lss e (I 0) fun e=>jn (fun a h=>clQ C h F.oE [ge a 0,ge a 1] fun c h=>bSQ .neq c (.d (.str [49])) fun e=>jn (fun a h=>bnd (bld [(0,1),(1,1)] [.str [],.str []] [(0,(ge a 0)),(1,(ge a 1))]) fun a=>stD h 2 d a fun _ h=>bnd (ldA h 2 d) fun a=>q a h) fun d=>cnd e (clQ C h F.bc [ge a 0,c] fun e h=>e3Q e fun e f g=>clQ C h F.bc [ge a 1,c] fun a h=>e3Q a fun a c f=>d [e,a] h) (d [ge a 0,ge a 1] h)) fun d=>cnd e (clQ C h F.lN [a] fun a h=>clQ C h F.lN [c] fun c h=>d [a,c] h) (d [a,c] h)
theorem yv(h:bZ (CX Y) t0 t1 (out v)):CP Y F.bZ [t0,t1] v:=CPo 1 (nBQ (nRQ [.slot 0]) (nBQ (aO (nJQ [0,1] [4])) (nCQ (d9 (nJQ [0,1] [4]))))) Tryz.func51 h
def eM(C:CC)(a c:V)(q:kQ):Prop:=let h:Hp:=.replicate 3 nnQ
 fJ 0 a h fun a h=>fJ 1 c h fun c h=>alV 2 [.d (.str []),.d (.str [])] h fun d h=>bfQ 1 a fun e=>b1Q h e fun e=>bSQ .eql e (.d (.str [49])) fun e=>gbQ e true h (faV 1 c) fun f h=>gbQ e true h (ld1 h f) fun f h=>gbQ e true h (biS .eql f (.d (.str [49]))) fun f h=>bpQ e f (B false) fun e=>cnd e (bfQ 0 a fun a=>b1Q h a fun a=>bfQ 0 c fun c=>b1Q h c fun c=>clQ C h F.cO [a,c] fun a h=>bnd (bld [(0,1),(1,1)] [.str [],.str []] [(0,a),(1,(.d (.str [49])))]) fun a=>stD h 2 d a fun _ h=>bnd (ldA h 2 d) fun a=>q a h) (bnd (ldA h 2 a) fun e=>clQ C h F.eD [e] fun e h=>e3Q e fun e f g=>jn (fun e h=>bfQ 0 a fun e=>b1Q h e fun e=>bfQ 1 c fun f=>b1Q h f fun f=>clQ C h F.bj [e,f] fun e h=>bfQ 0 c fun f=>b1Q h f fun f=>bfQ 1 a fun g=>b1Q h g fun g=>clQ C h F.bj [f,g] fun f h=>clQ C h F.cO [e,f] fun e h=>bfQ 1 a fun a=>b1Q h a fun a=>bfQ 1 c fun c=>b1Q h c fun c=>clQ C h F.bj [a,c] fun a h=>clQ C h F.bZ [e,a] fun a h=>stD h 2 d a fun _ h=>bnd (ldA h 2 d) fun a=>q a h) fun a=>cnd g (bnd (ldA h 2 c) fun c=>clQ C h F.eD [c] fun c h=>e3Q c fun c g i=>cnd i (bIQ .mul e g fun a=>bIQ .mul c f fun c=>bIQ .add a c fun a=>bIQ .mul f g fun c=>clQ C h F.iM [a,c] fun a h=>stD h 2 d a fun _ h=>bnd (ldA h 2 d) fun a=>q a h) (a [] h)) (a [] h))
def rH:Ann:=(nBQ (nRQ [.slot 0,.slot 1,.slot 2]) (aO (nCQ (d9 (nJQ [] [2,3,4])))))
theorem D3(C:CC)(t0:V)(t1:V)(q:kkQ):fnD Y C Tryz.f79 3 rH [t0,t1] q=eM C t0 t1 q:=by kernel_rfl
theorem DY:okB Tryz.prog Tryz.f79 rH=true:=aF
theorem DZ(h:eM (CX Y) t0 t1 (out v)):CP Y F.eM [t0,t1] v:=
 CP.of (fn:=Tryz.f79) (m:=3) (a:=rH) rfl (fun _=>rfl) Tryz.func79 DY (by rw[D3];exact h)
def jL(C:CC)(a c:V)(q:kQ):Prop:=let h:Hp:=.replicate 3 nnQ
 fJ 0 a h fun a h=>fJ 1 c h fun c h=>alV 2 [.d (.str []),.d (.str [])] h fun d h=>bnd (ldA h 2 a) fun e=>clQ C h F.eD [e] fun e h=>e3Q e fun e f g=>jn (fun e h=>bfQ 0 a fun e=>b1Q h e fun e=>bfQ 0 c fun f=>b1Q h f fun f=>clQ C h F.bj [e,f] fun e h=>bfQ 1 a fun a=>b1Q h a fun a=>bfQ 1 c fun c=>b1Q h c fun c=>clQ C h F.bj [a,c] fun a h=>clQ C h F.bZ [e,a] fun a h=>stD h 2 d a fun _ h=>bnd (ldA h 2 d) fun a=>q a h) fun a=>cnd g (bnd (ldA h 2 c) fun c=>clQ C h F.eD [c] fun c h=>e3Q c fun c g i=>cnd i (bIQ .mul e c fun a=>bIQ .mul f g fun c=>clQ C h F.iM [a,c] fun a h=>stD h 2 d a fun _ h=>bnd (ldA h 2 d) fun a=>q a h) (a [] h)) (a [] h)
theorem DX(h:jL (CX Y) t0 t1 (out v)):CP Y F.jL [t0,t1] v:=CPo 3 (nBQ (nRQ [.slot 0,.slot 1,.slot 2]) (nCQ (d9 (nJQ [] [2,3,4])))) Tryz.func85 h
def iN(C:CC)(a:V)(q:kQ):Prop:=let h:Hp:=.replicate 1 nnQ
 fJ 0 a h fun a h=>bfQ 0 a fun a=>b1Q h a fun a=>clQ C h F.c8 [a] q
theorem Bo(h:iN (CX Y) t0 (out v)):CP Y F.iN [t0] v:=CPo 1 (nCQ (nRQ [.slot 0])) Tryz.func18 h
def nI(C:CC)(a c:V)(q:kQ):Prop:=let h:Hp:=.replicate 1 nnQ
 alV 0 [.d (.str []),.d (.str [])] h fun d h=>clQ C h F.c8 [c] fun e h=>cIQ .eql e (I 0) (bnd (bld [(0,1),(1,1)] [.str [],.str []] []) fun a=>stD h 2 d a fun _ h=>bnd (ldA h 2 d) fun a=>q (.tup [a,I 17]) h) (clQ C h F.bZ [a,c] fun a h=>stD h 2 d a fun _ h=>bnd (ldA h 2 d) fun a=>q (.tup [a,I 0]) h)
theorem DV(h:nI (CX Y) t0 t1 (out v)):CP Y F.nI [t0,t1] v:=CPo 1 (nCQ (nRQ [.slot 0])) Tryz.func36 h
def kM(C:CC)(a c:V)(q:kQ):Prop:=let h:Hp:=.replicate 1 nnQ
 alV 0 [.d (.str []),.d (.str [])] h fun d h=>clQ C h F.dF [a] fun a h=>clQ C h F.dF [c] fun c h=>clQ C h F.nI [a,c] fun a h=>e2Q a fun a c=>stD h 2 d a fun _ h=>bnd (ldA h 2 d) fun a=>q (.tup [a,c]) h
theorem E6(h:kM (CX Y) t0 t1 (out v)):CP Y F.kM [t0,t1] v:=CPo 1 (nCQ (nRQ [.slot 0])) Tryz.func24 h
def oc(C:CC)(a c d:V):aP:=fun l h q=>cIQ .lss (ge l 0) d (bxQ h 2 c (ge l 0) fun c=>bnd (ldA h 2 c) fun c=>alV 2 [.d (.str []),.d (.str [])] h fun d h=>stD h 2 d c fun _ h=>bfQ 2 a fun c=>b1Q h c fun c=>bfQ 1 d fun d=>b1Q h d fun d=>clQ C h F.pE [c,d] fun c h=>bfQ 2 a fun a=>stD h 1 a c fun _ h=>bIQ .add (ge l 0) (I 1) fun a=>q .normal [a] h) (q (.exit 0) [] h)
def lC(C:CC)(a c d e:V):aP:=fun l h q=>cIQ .lss (ge l 0) e (jn (fun a h=>bIQ .add (ge l 0) (I 1) fun a=>q .normal [a] h) fun e=>bxQ h 2 d (ge l 0) fun d=>bnd (ldA h 2 d) fun d=>alV 3 [.d (.str []),.d (.str [])] h fun f h=>stD h 2 f d fun _ h=>bfQ 0 f fun d=>b1Q h d fun d=>bSQ .neq d (.d (.str [48])) fun d=>jn (fun a h=>e [] h) fun e=>cnd d (bfQ 2 c fun d=>b1Q h d fun d=>bfQ 1 f fun g=>b1Q h g fun g=>clQ C h F.bc [d,g] fun d h=>e3Q d fun d g i=>bfQ 0 c fun g=>sm h c g<|b1Q h g fun g=>bxQ h 1 a (ge l 0) fun a=>b1Q h a fun a=>fI 1 [.int .i64 0] [(0,a)] h fun a h=>sp h g [c,f]<|apV false 4 1 8 g a h fun a h=>bfQ 1 c fun g=>sm h c g<|b1Q h g fun g=>bfQ 0 f fun i=>sm h f i<|b1Q h i fun f=>clQ C h F.bj [f,d] fun d h=>fI 1 [.str []] [(0,d)] h fun d h=>apV false 5 1 16 g d h fun d h=>bfQ 0 c fun f=>stD h 1 f a fun _ h=>bfQ 1 c fun a=>stD h 1 a d fun _ h=>e [] h) (e [] h)) (q (.exit 2) [] h)
def jA(C:CC)(a c:V)(q:kQ):Prop:=let h:Hp:=.replicate 6 nnQ
 alV 0 [.d nPQ,.d nPQ,.d (.str [])] h fun d h=>bnd (bld [(0,1),(1,1),(2,1)] [nPQ,nPQ,.str []] [(2,(.d (.str [49])))]) fun e=>alV 1 [.d nPQ,.d nPQ,.d (.str [])] h fun f h=>stD h 3 f e fun _ h=>blQ c fun e=>lp (oc C f c e) [2] h [I 0] h (exK [((.exit 0),fun e h=>blQ c fun e=>lp (lC C a f c e) [3] h [I 0] h (exK [((.exit 2),fun a h=>bnd (ldA h 3 f) fun a=>stD h 3 d a fun _ h=>bnd (ldA h 3 d) fun a=>q a h)]))])
def rr:Ann:=(nBQ (nRQ [.slot 0]) (nBQ (nRQ [.slot 1]) (nBQ (aO (nCQ (.n (.l [16] [0,1,4,5,14,15] [((.exit 0),[],[0,1,4,5])] [2]) (d9 (nCQ (nCQ (nCQ (nRQ [.slot 2]))))) .o))) (nCQ (aO (nCQ (.n (.l [29] [0,4,5,27,28] [((.exit 2),[],[4,5])] [3]) (d9 (nCQ (.n (.j [] [0,4,5,27,28,29]) (nBQ (nRQ [.slot 3]) (aO (.n (.j [] [0,4,5,27,28,29]) (aO (nRQ [.o,.slot 4,.o,.o,.slot 5])) .o))) .o))) .o)))))))
theorem CH(C:CC)(t0:V)(t1:V)(q:kkQ):fnD Y C Tryz.f82 6 rr [t0,t1] q=jA C t0 t1 q:=by kernel_rfl
theorem CF:okB Tryz.prog Tryz.f82 rr=true:=aF
theorem CG(h:jA (CX Y) t0 t1 (out v)):CP Y F.jA [t0,t1] v:=
 CP.of (fn:=Tryz.f82) (m:=6) (a:=rr) rfl (fun _=>rfl) Tryz.func82 CF (by rw[CH];exact h)
def fq(C:CC)(a:V)(q:kQ):Prop:=let h:Hp:=.replicate 1 nnQ
 fJ 0 a h fun a h=>q (.fn F.cT [] [a]) h
theorem zq(h:fq (CX Y) t0 (out v)):CP Y F.fq [t0] v:=CPo 1 (nCQ (nRQ [.slot 0])) Tryz.func159 h
def kV(C:CC)(a c d:V):EE:=fun l h q=>
 b1Q h a fun a=>
 clQ C h F.rt [ge l 0,a] fun a h=>
 bIQ .neq (ge l 0) (I 2) fun e=>
 jn (fun e h=>
 clQ C h F.bj [a,ge l 1] fun a h=>
 clQ C h F.bj [ge e 0,ge l 1] fun e h=>
 clQ C h F.c8 [ge l 1] fun f h=>
 bIQ .lss f (I 0) fun f=>
 jn (fun a h=>
 b1Q h c fun e=>
 clQ C h F.cO [e,ge a 0] fun e h=>
 b1Q h d fun f=>
 clQ C h F.cO [f,ge a 1] fun a h=>
 stD h 1 c e fun _ h=>
 stD h 1 d a fun _ h=>
 q .normal h) fun c=>
 cnd f (
 c [e,a] h) (
 c [a,e] h)) fun c=>
 cnd e (
 clQ C h F.cO [a,(.d (.str [49]))] fun a h=>
 c [a] h) (
 c [a] h)
def ic(C:CC)(a c:V)(q:kQ):Prop:=let h:Hp:=.replicate 4 nnQ
 fJ 0 a h fun a h=>fJ 1 c h fun c h=>alV 2 [.d (.str [])] h fun d h=>alV 3 [.d (.str [])] h fun e h=>stD h 1 d (.d (.str [48])) fun _ h=>stD h 1 e (.d (.str [48])) fun _ h=>bnd (ldA h 3 a) fun a=>clQ C h F.fq [a] fun a h=>rgO (sqV Y.seq a) 2 (kV C c d e) [] h (fun ex h=>exK [(.normal,fun _ h=>b1Q h d fun a=>b1Q h e fun c=>sp h d [e]<|stD h 1 d a fun _ h=>stD h 1 e c fun _ h=>b1Q h d fun a=>b1Q h e fun c=>q (.tup [a,c]) h)] ex [] h)
theorem xT(h:ic (CX Y) t0 t1 (out v)):CP Y F.ic [t0,t1] v:=CPo 4 (nBQ (nRQ [.slot 0,.slot 1,.slot 2,.slot 3]) (aO (nCQ (aO (nCQ (.n (.l [] [3,4,5] [(.normal,[],[4,5])] []) .o (nCQ (d9 (nBQ (aO (nJQ [9] [4,5,7,8])) (aO (nCQ (aO (nJQ [8,9] [4,5]))))))))))))) Tryz.func123 h
def dO(C:CC)(a c d e:V):EE:=fun l h q=>
 clQ C h F.kI [ge l 1] fun f h=>
 ext f 0 fun g=>
 ext f 1 fun f=>
 bnd (unV .not f) fun f=>
 gqQ f false h g fun i h=>
 gbQ f false h (ld1 h a) fun j h=>
 gbQ f false h (biI .gtr i j) fun i h=>
 bpQ f (B true) i fun f=>
 gqQ f false h g fun i h=>
 gbQ f false h (ld1 h a) fun a h=>
 gbQ f false h (unV .neg a) fun a h=>
 gbQ f false h (biI .lss i a) fun a h=>
 bpQ f (B true) a fun a=>
 cnd a (
 stD h 1 c (I 0) fun _ h=>
 stD h 1 d (I 0) fun _ h=>
 stD h 1 e (B false) fun _ h=>
 q .ret h) (
 clQ C h F.qU [ge l 0] fun a h=>
 ext a 0 fun f=>
 ext a 1 fun a=>
 bnd (unV .not a) fun a=>
 cnd a (
 stD h 1 c (I 0) fun _ h=>
 stD h 1 d (I 0) fun _ h=>
 stD h 1 e (B false) fun _ h=>
 q .ret h) (
 bIQ .add f (I 1) fun a=>
 bIQ .eql (ge l 0) (I 2) fun e=>
 jn (fun a h=>
 b1Q h c fun e=>
 bIQ .mul g f fun i=>
 bIQ .mul g (ge a 0) fun j=>
 bnd (mxI false [i,j]) fun i=>
 bIQ .add e i fun e=>
 b1Q h d fun i=>
 bIQ .mul g f fun f=>
 bIQ .mul g (ge a 0) fun a=>
 bnd (mxI true [f,a]) fun a=>
 bIQ .add i a fun a=>
 sp h c [d]<|stD h 1 c e fun _ h=>
 stD h 1 d a fun _ h=>
 q .normal h) fun c=>
 cnd e (
 c [f] h) (
 c [a] h)))
def fK(C:CC)(a c:V)(q:kQ):Prop:=let h:Hp:=.replicate 5 nnQ
 fJ 0 a h fun a h=>fJ 1 c h fun c h=>alV 2 [.d (.int .i64 0)] h fun d h=>alV 3 [.d (.int .i64 0)] h fun e h=>alV 4 [.d (.bool false)] h fun f h=>bnd (ldA h 3 a) fun a=>clQ C h F.fq [a] fun a h=>rgO (sqV Y.seq a) 2 (dO C c d e f) [] h (fun ex h=>exK [(.ret,fun _ h=>b1Q h d fun a=>b1Q h e fun c=>b1Q h f fun d=>q (.tup [a,c,d]) h),(.normal,fun _ h=>b1Q h d fun a=>b1Q h e fun c=>sp h d [e]<|stD h 1 d a fun _ h=>stD h 1 e c fun _ h=>stD h 1 f (B true) fun _ h=>b1Q h d fun a=>b1Q h e fun c=>b1Q h f fun d=>q (.tup [a,c,d]) h)] ex [] h)
def oW:Ann:=(nBQ (nRQ [.slot 0,.slot 1,.slot 2,.slot 3,.slot 4]) (nCQ (aO (nCQ (.n (.l [] [3,4,5,6] [(.ret,[],[4,5,6]),(.normal,[],[4,5,6])] []) .o (nCQ (abB (nCQ (aO (nJQ [13] [4,5,9,11]))))))))))
theorem xS(C:CC)(t0:V)(t1:V)(q:kkQ):fnD Y C Tryz.f158 5 oW [t0,t1] q=fK C t0 t1 q:=by kernel_rfl
theorem xQ:okB Tryz.prog Tryz.f158 oW=true:=aF
theorem xR(h:fK (CX Y) t0 t1 (out v)):CP Y F.fK [t0,t1] v:=
 CP.of (fn:=Tryz.f158) (m:=5) (a:=oW) rfl (fun _=>rfl) Tryz.func158 xQ (by rw[xS];exact h)
def fX(C:CC)(a:V)(q:kQ):Prop:=let h:Hp:=.replicate 1 nnQ
 fJ 0 a h fun a h=>bnd (ldA h 3 a) fun a=>clQ C h F.fK [a,I 10000000] fun a h=>e3Q a fun a c d=>bnd (unV .not d) fun d=>cnd d (q (I 0) h) (cIQ .geq a (I 0) (q (I 1) h) (cIQ .leq c (I 0) (q (I (-1)) h) (q (I 0) h)))
theorem xd(h:fX (CX Y) t0 (out v)):CP Y F.fX [t0] v:=CPo 1 (nCQ (nRQ [.slot 0])) Tryz.func122 h
def ot(C:CC)(a:V):aP:=fun l h q=>bnd (ldA h 3 a) fun a=>clQ C h F.ic [a,ge l 0] fun a h=>e2Q a fun a c=>clQ C h F.c8 [a] fun a h=>cIQ .geq a (I 0) (q .ret [I 1] h) (clQ C h F.c8 [c] fun a h=>cIQ .leq a (I 0) (q .ret [I (-1)] h) (bIQ .mul (ge l 0) (I 2) fun a=>q .normal [a] h))
def eH(C:CC)(a:V)(q:kQ):Prop:=let h:Hp:=.replicate 1 nnQ
 fJ 0 a h fun a h=>bfQ 0 a fun c=>b1Q h c fun c=>blQ c fun c=>cIQ .eql c (I 0) (q (I 0) h) (bnd (ldA h 3 a) fun c=>clQ C h F.fX [c] fun c h=>nzQ c (q c h) (lp (ot C a) [] h [I 64] h (exK [(.ret,fun a h=>q (ge a 0) h)])))
theorem xP(h:eH (CX Y) t0 (out v)):CP Y F.eH [t0] v:=CPo 1 (nBQ (nRQ [.slot 0]) (nCQ (Qn (nCQ (.n (.l [4] [1] [(.ret,[2],[])] []) .o .o))))) Tryz.func83 h
def qD(C:CC):aP:=fun l h q=>cIQ .lss (ge l 3) (I 26) (jn (fun a h=>bIQ .add (ge l 3) (I 1) fun c=>q .normal [ge a 0,ge a 1,ge a 2,c] h) fun a=>clQ C h F.dl [ge l 0,ge l 0] fun c h=>e2Q c fun c d=>bIQ .shl c (.d (.int .u64 2)) fun c=>bIQ .shr d (.d (.int .u64 62)) fun d=>bIQ .or c d fun c=>clQ C h F.dl [ge l 1,ge l 1] fun d h=>e2Q d fun d e=>bIQ .shl d (.d (.int .u64 2)) fun d=>bIQ .shr e (.d (.int .u64 62)) fun e=>bIQ .or d e fun d=>bIQ .add d (.d (.int .u64 1)) fun d=>bIQ .mul (ge l 2) (I 2) fun e=>bIQ .geq c (.d (.int .u64 9223372036854775808)) fun f=>jn (fun c h=>a [ge c 1,ge c 2,ge c 0] h) fun a=>cnd f (bIQ .add e (I 1) fun e=>bIQ .shr c (.d (.int .u64 1)) fun c=>bIQ .shr d (.d (.int .u64 1)) fun d=>bIQ .add d (.d (.int .u64 1)) fun d=>a [e,c,d] h) (cIQ .geq d (.d (.int .u64 9223372036854775808)) (q .ret [I 0,B false] h) (a [e,c,d] h))) (q (.exit 0) [ge l 2] h)
def qU(C:CC)(a:V)(q:kQ):Prop:=let h:Hp:=[]
 bnd (cvI .u64 a) fun c=>clQ C h F.jO [c] fun c h=>bIQ .sub c (I 1) fun c=>bnd (cvI .u64 a) fun a=>bIQ .sub (I 62) c fun d=>bIQ .shl a d fun a=>lp (qD C) [] h [a,a,c,I 0] h (exK [((.exit 0),fun a h=>q (.tup [ge a 0,B true]) h),(.ret,fun a h=>q (.tup [ge a 0,ge a 1]) h)])
theorem Jo(h:qU (CX Y) t0 (out v)):CP Y F.qU [t0] v:=CPo 0 (abB (nCQ (aO (nCQ (.n (.l [5,6,7,21] [] [((.exit 0),[7],[]),(.ret,[2,3],[])] []) (d9 (nCQ (.n (.j [5,6,7] [21]) (adO (nJQ [7,5,6] [21])) .o))) .o))))) Tryz.func186 h
def AF(C:CC)(a c:V):aP:=fun l h q=>clQ C h F.size_digits [a,c,ge l 0] fun a h=>e2Q a fun a c=>cnd c (q .ret [a] h) (bIQ .mul (ge l 0) (I 2) fun a=>q .normal [a] h)
def rt(C:CC)(a c:V)(q:kQ):Prop:=let h:Hp:=[]
 cIQ .eql a (I 2) (clQ C h F.kJ [(.d (.str [50])),c] fun a h=>e2Q a fun a c=>q a h) (bIQ .add c (I 64) fun d=>lp (AF C a c) [] h [d] h (exK [(.ret,fun a h=>q (ge a 0) h)]))
theorem Mc(h:rt (CX Y) t0 t1 (out v)):CP Y F.rt [t0,t1] v:=CPo 0 (wG (nCQ (.n (.l [7] [0,1] [(.ret,[4],[])] []) .o .o))) Tryz.func160 h
def oX(C:CC)(a c d:V):aP:=fun l h q=>cIQ .lss (ge l 3) d (jn (fun a h=>bIQ .add (ge l 3) (I 1) fun c=>q .normal [ge a 0,ge a 1,ge a 2,c] h) fun d=>clQ C h F.bj [ge l 0,ge l 0] fun e h=>clQ C h F.bc [e,a] fun e h=>e3Q e fun e f g=>clQ C h F.bj [ge l 1,ge l 1] fun f h=>clQ C h F.bc [f,a] fun a h=>e3Q a fun a f g=>clQ C h F.cO [a,(.d (.str [49]))] fun a h=>clQ C h F.cO [ge l 2,ge l 2] fun f h=>jn (fun a h=>d [ge a 1,ge a 2,ge a 0] h) fun d=>clQ C h F.iF [e,c] fun g h=>bIQ .geq g (I 0) fun g=>jn (fun a h=>d [ge a 0,ge a 1,ge a 2] h) fun d=>cnd g (clQ C h F.cO [f,(.d (.str [49]))] fun c h=>clQ C h F.bc [e,(.d (.str [50]))] fun e h=>e3Q e fun e f g=>clQ C h F.bc [a,(.d (.str [50]))] fun a h=>e3Q a fun a f g=>clQ C h F.cO [a,(.d (.str [49]))] fun a h=>d [c,e,a] h) (clQ C h F.iF [a,c] fun c h=>cIQ .geq c (I 0) (q .ret [(.d (.str [])),B false] h) (d [f,e,a] h))) (q (.exit 0) [ge l 2] h)
def size_digits(C:CC)(a c d:V)(q:kQ):Prop:=let h:Hp:=[]
 bnd (cvI .u64 a) fun e=>clQ C h F.jO [e] fun e h=>bIQ .sub e (I 1) fun e=>clQ C h F.kJ [(.d (.str [50])),d] fun f h=>e2Q f fun f g=>clQ C h F.cO [f,f] fun g h=>bIQ .sub d e fun d=>clQ C h F.kJ [(.d (.str [50])),d] fun d h=>e2Q d fun d i=>clQ C h F.dF [a] fun a h=>clQ C h F.bj [a,d] fun a h=>clQ C h F.dF [e] fun d h=>lp (oX C f g c) [] h [a,a,d,I 0] h (exK [((.exit 0),fun a h=>q (.tup [ge a 0,B true]) h),(.ret,fun a h=>q (.tup [ge a 0,ge a 1]) h)])
theorem ES(h:size_digits (CX Y) t0 t1 t2 (out v)):CP Y F.size_digits [t0,t1,t2] v:=CPo 0 (ags (aO (nCQ (aO (nCQ (.n (.l [14,15,16,50] [9,11,49] [((.exit 0),[16],[]),(.ret,[6,7],[])] []) (d9 (nCQ (.n (.j [14,15,16] [9,11,49,50]) (Qn (.n (.j [16,14,15] [9,11,49,50]) (aO (nJQ [16,14,15] [9,11,49,50])) .o)) .o))) .o)))))) Tryz.func189 h
def bH(C:CC)(a c d:V):aP:=fun l h q=>cIQ .lss (ge l 0) d (bxQ h 2 a (ge l 0) fun a=>bnd (ldA h 2 a) fun a=>cal C.p h c [a] fun a h=>cnd a (q .ret [ge l 0] h) (bIQ .add (ge l 0) (I 1) fun a=>q .normal [a] h)) (q (.exit 0) [] h)
def bf(C:CC)(a c:V)(q:kQ):Prop:=let h:Hp:=[]
 blQ a fun d=>lp (bH C a c d) [] h [I 0] h (exK [((.exit 0),fun a h=>q (I (-1)) h),(.ret,fun a h=>q (ge a 0) h)])
theorem kh(h:bf (CX Y) t0 t1 (out v)):CP Y F.bf [t0,t1] v:=CPo 0 (aO (nCQ (aO (nCQ (.n (.l [8] [0,1,7] [((.exit 0),[],[]),(.ret,[4],[])] []) .o .o))))) Tryz.func124 h
def aM(C:CC)(a c:V)(q:kQ):Prop:=let h:Hp:=[]
 clQ C h F.bf [a,c] fun a h=>bIQ .geq a (I 0) fun a=>q a h
theorem jz(h:aM (CX Y) t0 t1 (out v)):CP Y F.aM [t0,t1] v:=CPo 0 .o Tryz.func86 h
def bY(C:CC)(a c d:V):aP:=fun l h q=>cIQ .lss (ge l 0) d (bxQ h 2 a (ge l 0) fun a=>bnd (ldA h 2 a) fun a=>cal C.p h c [a] fun a h=>cnd a (q .ret [ge l 0] h) (bIQ .add (ge l 0) (I 1) fun a=>q .normal [a] h)) (q (.exit 0) [] h)
def bE(C:CC)(a c:V)(q:kQ):Prop:=let h:Hp:=[]
 blQ a fun d=>lp (bY C a c d) [] h [I 0] h (exK [((.exit 0),fun a h=>q (I (-1)) h),(.ret,fun a h=>q (ge a 0) h)])
theorem ma(h:bE (CX Y) t0 t1 (out v)):CP Y F.bE [t0,t1] v:=CPo 0 (aO (nCQ (aO (nCQ (.n (.l [8] [0,1,7] [((.exit 0),[],[]),(.ret,[4],[])] []) .o .o))))) Tryz.func46 h
def aJ(C:CC)(a c:V)(q:kQ):Prop:=let h:Hp:=[]
 clQ C h F.bE [a,c] fun a h=>bIQ .geq a (I 0) fun a=>q a h
theorem kG(h:aJ (CX Y) t0 t1 (out v)):CP Y F.aJ [t0,t1] v:=CPo 0 .o Tryz.func28 h
def bM(C:CC)(a c d:V):aP:=fun l h q=>cIQ .lss (ge l 0) d (bxQ h 2 a (ge l 0) fun a=>bnd (ldA h 2 a) fun a=>bxQ h 2 c (ge l 0) fun c=>bnd (ldA h 2 c) fun c=>bnd (biA [.str [],.str []] .neq a c) fun a=>cnd a (q .ret [B false] h) (bIQ .add (ge l 0) (I 1) fun a=>q .normal [a] h)) (q (.exit 0) [] h)
def aY(C:CC)(a c:V)(q:kQ):Prop:=let h:Hp:=[]
 blQ a fun d=>blQ c fun e=>cIQ .neq d e (q (B false) h) (blQ a fun d=>lp (bM C a c d) [] h [I 0] h (exK [((.exit 0),fun a h=>q (B true) h),(.ret,fun a h=>q (ge a 0) h)]))
theorem nQ(h:aY (CX Y) t0 t1 (out v)):CP Y F.aY [t0,t1] v:=CPo 0 (d9 (nCQ (aO (nCQ (.n (.l [13] [0,1,12] [((.exit 0),[],[]),(.ret,[4],[])] []) .o .o))))) Tryz.func45 h
def jB(C:CC)(a:V)(q:kQ):Prop:=let h:Hp:=.replicate 1 nnQ
 alV 0 [.d (.str []),.d (.str [])] h fun c h=>clQ C h F.dF [a] fun a h=>bnd (bld [(0,1),(1,1)] [.str [],.str []] [(0,a),(1,(.d (.str [49])))]) fun a=>stD h 2 c a fun _ h=>bnd (ldA h 2 c) fun a=>q a h
theorem ER(h:jB (CX Y) t0 (out v)):CP Y F.jB [t0] v:=CPo 1 (nCQ (nRQ [.slot 0])) Tryz.func61 h
def qC(C:CC)(b:Nat)(a c:V):aP:=fun l h q=>cIQ .lss (ge l 0) c (clQ C h F.jB [I 0] fun c h=>bxQ h 2 a (ge l 0) fun a=>stD h 2 a c fun _ h=>bIQ .add (ge l 0) (I 1) fun a=>q .normal [a] h) (q (.exit 0) [] h)
def pK(C:CC)(b:Nat)(h:Hp)(a:V)(q:kQ):Prop:=let h:Hp:=h++List.replicate 1 nnQ
 mkS (b+0) 32 [.str [],.str []] h a a fun a h=>blQ a fun c=>lp (qC C b a c) [] h [I 0] h (exK [((.exit 0),fun c h=>q a h)])
def vd(b:Nat):Ann:=(.n .x .o (.n .x (.n (.r [.slot (b+0)]) .o .o) (.n .x (.n .x .o (.n .x (.n (.l [9] [3,8] [((.exit 0),[],[3])] []) .o .o) .o)) .o)))
theorem Jn(C:CC)(h:Hp)(t0:V)(q:kkQ):fnI Y C Tryz.f84 1 vd [t0] h q=pK C h.length h t0 q:=by rfl
theorem Jl(b:Nat):okB Tryz.prog Tryz.f84 (vd b)=true:=by rfl
theorem Jm(hh:pK (CX Y) h.length h t0 (mW h.length v h2)):CI Y F.pK [t0] h v h2:=
 CI.of (fn:=Tryz.f84) (m:=1) (a:=vd) rfl (fun _=>rfl) Tryz.func84 (Jl _) (by rw[Jn];exact hh)
def qb(C:CC)(a c d e f:V):aP:=fun l h q=>cIQ .lss (ge l 0) f (bxQ h 2 e (ge l 0) fun e=>bnd (ldA h 2 e) fun e=>alV 1 [.d (.str []),.d (.str [])] h fun f h=>stD h 2 f e fun _ h=>bxQ h 2 c (ge l 0) fun e=>bnd (ldA h 2 e) fun e=>bnd (ldA h 2 f) fun f=>bxQ h 2 a d fun a=>bnd (ldA h 2 a) fun a=>clQ C h F.jL [f,a] fun a h=>clQ C h F.eM [e,a] fun a h=>bxQ h 2 c (ge l 0) fun c=>stD h 2 c a fun _ h=>bIQ .add (ge l 0) (I 1) fun a=>q .normal [a] h) (q (.exit 2) [] h)
def rP(C:CC)(a c d e:V):aP:=fun l h q=>cIQ .lss (ge l 0) e (bxQ h 1 d (ge l 0) fun d=>b1Q h d fun d=>blQ d fun e=>lp (qb C a c (ge l 0) d e) [1] h [I 0] h (exK [((.exit 2),fun a h=>bIQ .add (ge l 0) (I 1) fun a=>q .normal [a] h)])) (q (.exit 0) [] h)
def nV(C:CC)(a c d:V)(q:kQ):Prop:=let h:Hp:=.replicate 2 nnQ
 ciQ C h F.pK [a] 0 fun a h=>blQ c fun e=>lp (rP C d a c e) [1] h [I 0] h (exK [((.exit 0),fun c h=>q a h)])
def xe:Ann:=(aO (nBQ (nRQ [.inl 0]) (nCQ (aO (nCQ (.n (.l [16] [2,7,14,15] [((.exit 0),[],[7])] [1]) (d9 (nCQ (nCQ (d9 (nCQ (.n (.l [23] [2,7,8,14,15,16,21,22] [((.exit 2),[],[2,7,14,15,16])] [1]) (d9 (nCQ (nCQ (nCQ (nRQ [.slot 1]))))) .o)))))) .o))))))
theorem Mb(C:CC)(t0:V)(t1:V)(t2:V)(q:kkQ):fnD Y C Tryz.f60 2 xe [t0,t1,t2] q=nV C t0 t1 t2 q:=by kernel_rfl
theorem L9:okB Tryz.prog Tryz.f60 xe=true:=aF
theorem Ma(h:nV (CX Y) t0 t1 t2 (out v)):CP Y F.nV [t0,t1,t2] v:=
 CP.of (fn:=Tryz.f60) (m:=2) (a:=xe) rfl (fun _=>rfl) Tryz.func60 L9 (by rw[Mb];exact h)
def nD(C:CC)(a c d:V):aP:=fun l h q=>cIQ .lss (ge l 0) d (bxQ h 1 c (ge l 0) fun c=>b1Q h c fun c=>clQ C h F.kW [a,c] fun a h=>nzQ a (q .ret [a] h) (bIQ .add (ge l 0) (I 1) fun a=>q .normal [a] h)) (q (.exit 0) [] h)
def iI(C:CC)(a c:V)(q:kQ):Prop:=let h:Hp:=[]
 clQ C h F.eT [a] fun d h=>nzQ d (q d h) (blQ c fun d=>lp (nD C a c d) [] h [I 0] h (exK [((.exit 0),fun a h=>q (I 0) h),(.ret,fun a h=>q (ge a 0) h)]))
theorem A0(h:iI (CX Y) t0 t1 (out v)):CP Y F.iI [t0,t1] v:=CPo 0 (d9 (nCQ (aO (nCQ (.n (.l [16] [0,14,15] [((.exit 0),[],[]),(.ret,[4],[])] []) .o .o))))) Tryz.func54 h
def oJ(C:CC)(a:V)(q:kQ):Prop:=let h:Hp:=[]
 clQ C h F.aJ [a,(.fn F.iY [] [])] fun c h=>cnd c (q (.tup [nSQ,I 4]) h) (q (.tup [a,I 0]) h)
theorem EQ(h:oJ (CX Y) t0 (out v)):CP Y F.oJ [t0] v:=CPo 0 .o Tryz.func88 h
def iY(C:CC)(a:V)(q:kQ):Prop:=let h:Hp:=.replicate 1 nnQ
 fJ 0 a h fun a h=>bnd (ldA h 2 a) fun a=>clQ C h F.mR [a] fun a h=>bnd (unV .not a) fun a=>q a h
theorem zr(h:iY (CX Y) t0 (out v)):CP Y F.iY [t0] v:=CPo 1 (nCQ (nRQ [.slot 0])) Tryz.func125 h
def nC(C:CC)(a c d:V)(q:kQ):Prop:=let h:Hp:=[]
 clQ C h F.iI [a,c] fun e h=>nzQ e (q (.tup [nSQ,e]) h) (blQ d fun e=>blQ c fun f=>cIQ .neq e f (q (.tup [nSQ,I 5]) h) (clQ C h F.aM [d,(.fn F.ie [] [])] fun e h=>cnd e (q (.tup [nSQ,I 2]) h) (blQ a fun a=>clQ C h F.nV [a,c,d] fun a h=>clQ C h F.oJ [a] fun a h=>e2Q a fun a c=>q (.tup [a,c]) h)))
theorem CL(h:nC (CX Y) t0 t1 t2 (out v)):CP Y F.nC [t0,t1,t2] v:=CPo 0 .o Tryz.func62 h
def ie(C:CC)(a:V)(q:kQ):Prop:=let h:Hp:=.replicate 1 nnQ
 fJ 0 a h fun a h=>bnd (ldA h 2 a) fun a=>clQ C h F.eE [a] fun a h=>bIQ .neq a (I 0) fun a=>q a h
theorem xU(h:ie (CX Y) t0 (out v)):CP Y F.ie [t0] v:=CPo 1 (nCQ (nRQ [.slot 0])) Tryz.func87 h
def ou(C:CC)(a c d:V)(q:kQ):Prop:=let h:Hp:=.replicate 1 nnQ
 fJ 0 d h fun d h=>fI 1 [nPQ] [(0,c)] h fun c h=>bnd (ldA h 2 d) fun d=>fI 1 [.str [],.str []] [(0,d)] h fun d h=>clQ C h F.nC [a,c,d] fun a h=>e2Q a fun a c=>q (.tup [a,c]) h
theorem Hb(h:ou (CX Y) t0 t1 t2 (out v)):CP Y F.ou [t0,t1,t2] v:=CPo 1 (nCQ (nRQ [.slot 0])) Tryz.func41 h
def pL(C:CC)(a c:V)(q:kQ):Prop:=let h:Hp:=[]
 clQ C h F.aY [a,c] q
theorem Hd(h:pL (CX Y) t0 t1 (out v)):CP Y F.pL [t0,t1] v:=CPo 0 .o Tryz.func27 h
def fe(C:CC)(a c d:V):aP:=fun l h q=>cIQ .lss (ge l 0) d (bxQ h 1 a (ge l 0) fun a=>b1Q h a fun a=>bxQ h 1 c (ge l 0) fun c=>b1Q h c fun c=>cIQ .neq a c (q .ret [B false] h) (bIQ .add (ge l 0) (I 1) fun a=>q .normal [a] h)) (q (.exit 0) [] h)
def bz(C:CC)(a c:V)(q:kQ):Prop:=let h:Hp:=[]
 blQ a fun d=>blQ c fun e=>cIQ .neq d e (q (B false) h) (blQ a fun d=>lp (fe C a c d) [] h [I 0] h (exK [((.exit 0),fun a h=>q (B true) h),(.ret,fun a h=>q (ge a 0) h)]))
theorem rj(h:bz (CX Y) t0 t1 (out v)):CP Y F.bz [t0,t1] v:=CPo 0 (d9 (nCQ (aO (nCQ (.n (.l [13] [0,1,12] [((.exit 0),[],[]),(.ret,[4],[])] []) .o .o))))) Tryz.func22 h
def kK(C:CC)(a c:V)(q:kQ):Prop:=let h:Hp:=[]
 fI 1 [nPQ] [(0,c)] h fun c h=>clQ C h F.ku [a,c] q
theorem EY(h:kK (CX Y) t0 t1 (out v)):CP Y F.kK [t0,t1] v:=CPo 0 .o Tryz.func16 h
def mC(C:CC)(a c:V):aP:=fun l h q=>cIQ .lss (ge l 0) c (bxQ h 1 a (ge l 0) fun a=>b1Q h a fun a=>bIQ .gtr a (I 1000) fun c=>gqQ c false h a fun a h=>gbQ c false h (biI .lss a (I (-1000))) fun a h=>bpQ c (B true) a fun a=>cnd a (q .ret [I 4] h) (bIQ .add (ge l 0) (I 1) fun a=>q .normal [a] h)) (q (.exit 2) [] h)
def jI(C:CC)(a c d:V):aP:=fun l h q=>cIQ .lss (ge l 0) d (bxQ h 1 c (ge l 0) fun c=>b1Q h c fun c=>blQ c fun d=>blQ a fun a=>cIQ .neq d a (q .ret [I 5] h) (blQ c fun a=>lp (mC C c a) [] h [I 0] h (exK [((.exit 2),fun a h=>bIQ .add (ge l 0) (I 1) fun a=>q .normal [a] h),(.ret,fun a h=>q .ret [ge a 0] h)]))) (q (.exit 0) [] h)
def ku(C:CC)(a c:V)(q:kQ):Prop:=let h:Hp:=[]
 clQ C h F.eT [a] fun d h=>nzQ d (q d h) (blQ c fun d=>lp (jI C a c d) [] h [I 0] h (exK [((.exit 0),fun a h=>q (I 0) h),(.ret,fun a h=>q (ge a 0) h)]))
theorem zH(h:ku (CX Y) t0 t1 (out v)):CP Y F.ku [t0,t1] v:=CPo 0 (d9 (nCQ (aO (nCQ (.n (.l [17] [0,15,16] [((.exit 0),[],[]),(.ret,[4],[])] []) (d9 (nCQ (nCQ (wG (nCQ (.n (.l [28] [0,15,16,17,26,27] [((.exit 2),[],[0,15,16,17]),(.ret,[4],[])] []) .o .o)))))) .o))))) Tryz.func31 h
def jC(C:CC)(a c:V):aP:=fun l h q=>blQ a fun d=>cIQ .lss (ge l 0) d (bxQ h 1 a (ge l 0) fun a=>b1Q h a fun a=>bxQ h 1 c (ge l 0) fun c=>b1Q h c fun c=>cIQ .neq a c (q .ret [B false] h) (bIQ .add (ge l 0) (I 1) fun a=>q .normal [a] h)) (q (.exit 0) [] h)
def gL(C:CC)(a c:V)(q:kQ):Prop:=let h:Hp:=[]
 blQ a fun d=>blQ c fun e=>cIQ .neq d e (q (B false) h) (lp (jC C a c) [] h [I 0] h (exK [((.exit 0),fun a h=>q (B true) h),(.ret,fun a h=>q (ge a 0) h)]))
theorem wE(h:gL (CX Y) t0 t1 (out v)):CP Y F.gL [t0,t1] v:=CPo 0 (d9 (nCQ (aO (nCQ (.n (.l [5] [0,1] [((.exit 0),[],[]),(.ret,[4],[])] []) .o .o))))) Tryz.func23 h
def ib(C:CC)(b:Nat)(h:Hp)(a c:V)(q:kQ):Prop:=let h:Hp:=h++List.replicate 2 nnQ
 fJ (b+0) a h fun a h=>bnd (ldA h 4 a) fun d=>clQ C h F.kR [d] fun d h=>nzQ d (q (.tup [nSQ,d]) h) (bfQ 0 a fun d=>bfQ 0 d fun d=>b1Q h d fun d=>clQ C h F.kK [d,c] fun e h=>nzQ e (q (.tup [nSQ,e]) h) (bfQ 0 a fun e=>bnd (ldA h 3 e) fun e=>clQ C h F.fV [e,c] fun c h=>e2Q c fun c e=>nzQ e (q (.tup [nSQ,e]) h) (bfQ 3 a fun a=>b1Q h a fun a=>clQ C h F.iV [c] fun c h=>ciQ C h F.iW [d,a,c] (b+1) fun a h=>q (.tup [a,I 0]) h)))
def oS(b:Nat):Ann:=(.n .x (.n (.r [.slot (b+0)]) .o .o) (.n .x .o (.n .x .o (.n .x .o (.n .x .o (.n .x .o (.n .x (.n (.r [.o,.inl (b+1)]) .o .o) .o)))))))
theorem xM(C:CC)(h:Hp)(t0:V)(t1:V)(q:kkQ):fnI Y C Tryz.f55 2 oS [t0,t1] h q=ib C h.length h t0 t1 q:=by rfl
theorem xK(b:Nat):okB Tryz.prog Tryz.f55 (oS b)=true:=by rfl
theorem xL(hh:ib (CX Y) h.length h t0 t1 (mW h.length v h2)):CI Y F.ib [t0,t1] h v h2:=
 CI.of (fn:=Tryz.f55) (m:=2) (a:=oS) rfl (fun _=>rfl) Tryz.func55 (xK _) (by rw[xM];exact hh)
def nZ(C:CC)(a c d:V):aP:=fun l h q=>cIQ .lss (ge l 0) d (bxQ h 2 c (ge l 0) fun c=>bnd (ldA h 2 c) fun c=>alV 2 [.d (.str []),.d (.str [])] h fun d h=>stD h 2 d c fun _ h=>bxQ h 2 a (ge l 0) fun c=>bnd (ldA h 2 c) fun c=>bnd (ldA h 2 d) fun d=>clQ C h F.nH [c,d] fun c h=>bxQ h 2 a (ge l 0) fun a=>stD h 2 a c fun _ h=>bIQ .add (ge l 0) (I 1) fun a=>q .normal [a] h) (q (.exit 0) [] h)
def kP(C:CC)(a c:V)(q:kQ):Prop:=let h:Hp:=.replicate 3 nnQ
 fJ 0 a h fun a h=>bnd (ldA h 4 a) fun d=>ciQ C h F.ib [d,c] 1 fun d h=>e2Q d fun d e=>nzQ e (q (.tup [nSQ,e]) h) (clQ C h F.iV [c] fun c h=>blQ c fun e=>lp (nZ C d c e) [2] h [I 0] h (exK [((.exit 0),fun c h=>bfQ 0 a fun a=>bfQ 0 a fun a=>b1Q h a fun a=>clQ C h F.lR [a,d] fun a h=>e2Q a fun a c=>q (.tup [a,c]) h)]))
theorem Cm(h:kP (CX Y) t0 t1 (out v)):CP Y F.kP [t0,t1] v:=CPo 3 (nBQ (nRQ [.slot 0]) (nBQ (nRQ [.inl 1]) (aO (nCQ (aO (nCQ (.n (.l [22] [2,6,20,21] [((.exit 0),[],[2,6])] [2]) (d9 (nCQ (nCQ (nCQ (nRQ [.slot 2]))))) .o))))))) Tryz.func39 h
def kR(C:CC)(a:V)(q:kQ):Prop:=let h:Hp:=.replicate 1 nnQ
 fJ 0 a h fun a h=>bfQ 0 a fun c=>bnd (ldA h 3 c) fun c=>clQ C h F.fj [c] fun c h=>nzQ c (q c h) (bfQ 3 a fun c=>b1Q h c fun c=>blQ c fun c=>bfQ 0 a fun d=>bfQ 2 d fun d=>b1Q h d fun d=>blQ d fun d=>cIQ .neq c d (q (I 5) h) (bfQ 0 a fun c=>bfQ 0 c fun c=>b1Q h c fun c=>bfQ 3 a fun a=>b1Q h a fun a=>clQ C h F.iI [c,a] q))
theorem Cn(h:kR (CX Y) t0 (out v)):CP Y F.kR [t0] v:=CPo 1 (nCQ (nRQ [.slot 0])) Tryz.func38 h
def lR(C:CC)(a c:V)(q:kQ):Prop:=let h:Hp:=[]
 clQ C h F.mS [a,c] fun a h=>nzQ a (q (.tup [nSQ,I 4]) h) (q (.tup [c,I 0]) h)
theorem AX(h:lR (CX Y) t0 t1 (out v)):CP Y F.lR [t0,t1] v:=CPo 0 .o Tryz.func58 h
def mq(C:CC)(a c:V):aP:=fun l h q=>cIQ .lss (ge l 1) c (bxQ h 1 a (ge l 1) fun a=>b1Q h a fun a=>clQ C h F.kM [a,I 1] fun a h=>e2Q a fun a c=>alV 0 [.d (.str []),.d (.str [])] h fun c h=>stD h 2 c a fun _ h=>bnd (ldA h 2 c) fun a=>fI 1 [.str [],.str []] [(0,a)] h fun a h=>apV false 1 2 32 (ge l 0) a h fun a h=>bIQ .add (ge l 1) (I 1) fun c=>q .normal [a,c] h) (q (.exit 0) [ge l 0] h)
def iV(C:CC)(a:V)(q:kQ):Prop:=let h:Hp:=.replicate 2 nnQ
 blQ a fun c=>lp (mq C a c) [0] h [nSQ,I 0] h (exK [((.exit 0),fun a h=>q (ge a 0) h)])
theorem za(h:iV (CX Y) t0 (out v)):CP Y F.iV [t0] v:=CPo 2 (d9 (nCQ (aO (nCQ (.n (.l [3,10] [8,9] [((.exit 0),[3],[])] [0]) (d9 (nCQ (nCQ (aO (nBQ (nRQ [.o,.slot 0]) (nRQ [.o,.slot 1])))))) .o))))) Tryz.func56 h
def bD(C:CC)(b:Nat)(a:V):aP:=fun l h q=>blQ a fun c=>cIQ .lss (ge l 0) c (bnd (slV h 2 a (some (ge l 0)) none) fun c=>bnd (slV h 2 a none (some (ge l 0))) fun a=>cpD h 2 c a fun a h=>bIQ .add (ge l 0) a fun a=>q .normal [a] h) (q (.exit 0) [] h)
def aX(C:CC)(b:Nat)(h:Hp)(a c:V)(q:kQ):Prop:=let h:Hp:=h++List.replicate 1 nnQ
 bIQ .lss c (I 0) fun d=>jn (fun d h=>blQ a fun d=>bnd (cvI .u64 d) fun d=>bnd (cvI .u64 c) fun c=>clQ C h F.lU [d,c] fun c h=>e2Q c fun c d=>bIQ .gtr c (.d (.int .u64 0)) fun c=>gqQ c false h d fun e h=>gbQ c false h (biI .gtr e (.d (.int .u64 9223372036854775807))) fun e h=>bpQ c (B true) e fun c=>jn (fun c h=>bnd (cvI .i64 d) fun c=>mkS (b+0) 32 [.str [],.str []] h c c fun c h=>cpD h 2 c a fun a h=>lp (bD C b c) [] h [a] h (exK [((.exit 0),fun a h=>q c h)])) fun a=>cnd c (False /- makeInterface -/) (a [] h)) fun a=>cnd d (False /- makeInterface -/) (a [] h)
def dW(b:Nat):Ann:=(.n .x .o (.n .x (.n .x .o (.n (.j [] [0,1]) .o .o)) (.n .x .o (.n .x (.n .x .o (.n (.j [] [0,6]) .o .o)) (.n .x (.n (.r [.slot (b+0)]) .o .o) (.n .x .o (.n .x (.n .x (.n (.l [8] [7] [((.exit 0),[],[7])] []) .o .o) .o) .o)))))))
theorem nu(C:CC)(h:Hp)(t0:V)(t1:V)(q:kkQ):fnI Y C Tryz.f116 1 dW [t0,t1] h q=aX C h.length h t0 t1 q:=by rfl
theorem nm(b:Nat):okB Tryz.prog Tryz.f116 (dW b)=true:=by rfl
theorem nr(hh:aX (CX Y) h.length h t0 t1 (mW h.length v h2)):CI Y F.aX [t0,t1] h v h2:=
 CI.of (fn:=Tryz.f116) (m:=1) (a:=dW) rfl (fun _=>rfl) Tryz.func116 (nm _) (by rw[nu];exact hh)
def mz(C:CC)(b:Nat)(a c d e f:V):aP:=fun l h q=>cIQ .lss (ge l 0) f (bxQ h 2 c (ge l 0) fun f=>bnd (ldA h 2 f) fun f=>bxQ h 2 e (ge l 0) fun e=>bnd (ldA h 2 e) fun e=>bxQ h 2 a d fun a=>bnd (ldA h 2 a) fun a=>clQ C h F.jL [e,a] fun a h=>clQ C h F.eM [f,a] fun a h=>bxQ h 2 c (ge l 0) fun c=>stD h 2 c a fun _ h=>bIQ .add (ge l 0) (I 1) fun a=>q .normal [a] h) (q (.exit 2) [] h)
def mA(C:CC)(b:Nat)(a c d e:V):aP:=fun l h q=>cIQ .lss (ge l 0) e (bxQ h 1 d (ge l 0) fun d=>b1Q h d fun d=>blQ c fun e=>lp (mz C b a c (ge l 0) d e) [] h [I 0] h (exK [((.exit 2),fun a h=>bIQ .add (ge l 0) (I 1) fun a=>q .normal [a] h)])) (q (.exit 0) [] h)
def iW(C:CC)(b:Nat)(h:Hp)(a c d:V)(q:kQ):Prop:=let h:Hp:=h++List.replicate 1 nnQ
 bnd (bld [(0,1),(1,1)] [.str [],.str []] [(0,(.d (.str [48]))),(1,(.d (.str [49])))]) fun e=>fI 1 [.str [],.str []] [(0,e)] h fun e h=>blQ a fun a=>ciQ C h F.aX [e,a] (b+0) fun a h=>blQ c fun e=>lp (mA C b d a c e) [] h [I 0] h (exK [((.exit 0),fun c h=>q a h)])
def pF(b:Nat):Ann:=(.n .x .o (.n .x (.n (.r [.o,.inl (b+0)]) .o .o) (.n .x (.n .x .o (.n .x (.n (.l [18] [2,7,16,17] [((.exit 0),[],[7])] []) (.n .x .o (.n .x .o (.n .x (.n .x (.n .x .o (.n .x .o (.n .x (.n (.l [25] [2,7,8,9,16,17,18,24] [((.exit 2),[],[2,7,16,17,18])] []) .o .o) .o))) .o) .o))) .o) .o)) .o)))
theorem zd(C:CC)(h:Hp)(t0:V)(t1:V)(t2:V)(q:kkQ):fnI Y C Tryz.f78 1 pF [t0,t1,t2] h q=iW C h.length h t0 t1 t2 q:=by rfl
theorem zb(b:Nat):okB Tryz.prog Tryz.f78 (pF b)=true:=by rfl
theorem zc(hh:iW (CX Y) h.length h t0 t1 t2 (mW h.length v h2)):CI Y F.iW [t0,t1,t2] h v h2:=
 CI.of (fn:=Tryz.f78) (m:=1) (a:=pF) rfl (fun _=>rfl) Tryz.func78 (zb _) (by rw[zd];exact hh)
def ky(C:CC)(a:V)(q:kQ):Prop:=let h:Hp:=[]
 clQ C h F.oH [a] fun c h=>nzQ c (q (.tup [B false,c]) h) (clQ C h F.kx [a] fun a h=>q (.tup [a,I 0]) h)
theorem zS(h:ky (CX Y) t0 (out v)):CP Y F.ky [t0] v:=CPo 0 .o Tryz.func105 h
def mG(C:CC)(a c d:V):aP:=fun l h q=>cIQ .lss (ge l 1) d (bxQ h 1 c (ge l 1) fun c=>b1Q h c fun c=>alV 0 [.d nPQ] h fun d h=>stD h 1 d c fun _ h=>b1Q h d fun c=>clQ C h F.lX [c] fun c h=>alV 1 [.d (.int .i64 0)] h fun e h=>stD h 1 e c fun _ h=>b1Q h e fun c=>bIQ .leq c (ge l 0) fun c=>gbQ c false h (ld1 h d) fun f h=>gbQ c false h (ld1 h e) fun g h=>gbQ c false h (ixV h 1 f g) fun f h=>gbQ c false h (ld1 h f) fun f h=>gbQ c false h (biI .lss f (I 0)) fun f h=>bpQ c (B true) f fun c=>cnd c (q .ret [B false] h) (bnd (slV h 1 a none (some (ge l 1))) fun a=>clQ C h F.aZ [a,(.fn F.ew [] [e,d])] fun a h=>cnd a (q .ret [B false] h) (b1Q h e fun a=>bIQ .add (ge l 1) (I 1) fun c=>q .normal [a,c] h))) (q (.exit 0) [] h)
def kx(C:CC)(a:V)(q:kQ):Prop:=let h:Hp:=.replicate 2 nnQ
 blQ a fun c=>lp (mG C a a c) [0,1] h [I (-1),I 0] h (exK [((.exit 0),fun a h=>q (B true) h),(.ret,fun a h=>q (ge a 0) h)])
theorem zR(h:kx (CX Y) t0 (out v)):CP Y F.kx [t0] v:=CPo 2 (d9 (nCQ (aO (nCQ (.n (.l [3,9] [0,7,8] [((.exit 0),[],[]),(.ret,[2],[])] [0,1]) (d9 (nCQ (nCQ (nBQ (nRQ [.slot 0]) (nCQ (nRQ [.o,.slot 1])))))) .o))))) Tryz.func146 h
def ew(C:CC)(a c d:V)(q:kQ):Prop:=let h:Hp:=[]
 b1Q h c fun e=>bxQ h 1 a e fun e=>b1Q h e fun e=>bIQ .lss e (I 0) fun e=>gqQ e false h a fun a h=>gbQ e false h (ld1 h c) fun f h=>gbQ e false h (ixV h 1 a f) fun a h=>gbQ e false h (ld1 h a) fun a h=>gbQ e false h (ld1 h d) fun d h=>gbQ e false h (ld1 h c) fun c h=>gbQ e false h (ixV h 1 d c) fun c h=>gbQ e false h (ld1 h c) fun c h=>gbQ e false h (biI .geq a c) fun a h=>bpQ e (B true) a fun a=>q a h
theorem wO(h:ew (CX Y) t0 t1 t2 (out v)):CP Y F.ew [t0,t1,t2] v:=CPo 0 .o Tryz.func177 h
def lX(C:CC)(a:V)(q:kQ):Prop:=let h:Hp:=[]
 clQ C h F.bh [a,(.fn F.iU [] [])] q
theorem Bm(h:lX (CX Y) t0 (out v)):CP Y F.lX [t0] v:=CPo 0 .o Tryz.func175 h
def iU(C:CC)(a:V)(q:kQ):Prop:=let h:Hp:=[]
 bIQ .neq a (I 0) fun a=>q a h
theorem xw(h:iU (CX Y) t0 (out v)):CP Y F.iU [t0] v:=CPo 0 .o Tryz.func195 h
def oU(C:CC)(a c d:V):aP:=fun l h q=>cIQ .lss (ge l 0) d (bxQ h 1 c (ge l 0) fun c=>b1Q h c fun c=>blQ c fun d=>cIQ .gtr d (I 12) (q .ret [I 4] h) (blQ c fun d=>bxQ h 1 a (I 0) fun a=>b1Q h a fun a=>blQ a fun a=>cIQ .neq d a (q .ret [I 5] h) (clQ C h F.bi [c,(.fn F.oG [] [])] fun a h=>cnd a (q .ret [I 4] h) (bIQ .add (ge l 0) (I 1) fun a=>q .normal [a] h)))) (q (.exit 0) [] h)
def oH(C:CC)(a:V)(q:kQ):Prop:=let h:Hp:=[]
 blQ a fun c=>cIQ .gtr c (I 12) (q (I 4) h) (blQ a fun c=>lp (oU C a a c) [] h [I 0] h (exK [((.exit 0),fun a h=>q (I 0) h),(.ret,fun a h=>q (ge a 0) h)]))
theorem EO(h:oH (CX Y) t0 (out v)):CP Y F.oH [t0] v:=CPo 0 (d9 (nCQ (aO (nCQ (.n (.l [10] [0,8,9] [((.exit 0),[],[]),(.ret,[2],[])] []) .o .o))))) Tryz.func145 h
def oG(C:CC)(a:V)(q:kQ):Prop:=let h:Hp:=[]
 bIQ .gtr a (I 1000000000) fun c=>gqQ c false h a fun a h=>gbQ c false h (biI .lss a (I (-1000000000))) fun a h=>bpQ c (B true) a fun a=>q a h
theorem EN(h:oG (CX Y) t0 (out v)):CP Y F.oG [t0] v:=CPo 0 .o Tryz.func174 h
def od(C:CC)(a c d:V):aP:=fun l h q=>cIQ .lss (ge l 0) d (bxQ h 1 c (ge l 0) fun c=>b1Q h c fun c=>clQ C h F.oL [c] fun d h=>nzQ d (q .ret [d] h) (blQ c fun c=>cIQ .neq c a (q .ret [I 5] h) (bIQ .add (ge l 0) (I 1) fun a=>q .normal [a] h))) (q (.exit 0) [] h)
def nF(C:CC)(a c:V)(q:kQ):Prop:=let h:Hp:=[]
 blQ a fun d=>lp (od C c a d) [] h [I 0] h (exK [((.exit 0),fun a h=>q (I 0) h),(.ret,fun a h=>q (ge a 0) h)])
theorem CW(h:nF (CX Y) t0 t1 (out v)):CP Y F.nF [t0,t1] v:=CPo 0 (aO (nCQ (aO (nCQ (.n (.l [10] [1,8,9] [((.exit 0),[],[]),(.ret,[4],[])] []) .o .o))))) Tryz.func144 h
def qP(C:CC)(a c:V)(q:kQ):Prop:=let h:Hp:=[]
 clQ C h F.lN [c] fun c h=>clQ C h F.cO [a,c] q
theorem IJ(h:qP (CX Y) t0 t1 (out v)):CP Y F.qP [t0,t1] v:=CPo 0 .o Tryz.func197 h
def mD(C:CC)(b:Nat)(a c:V):aP:=fun l h q=>cIQ .lss (ge l 1) c (bxQ h 1 a (ge l 1) fun a=>b1Q h a fun a=>clQ C h F.dF [a] fun a h=>fI 1 [.str []] [(0,a)] h fun a h=>apV false (b+1) 1 16 (ge l 0) a h fun a h=>bIQ .add (ge l 1) (I 1) fun c=>q .normal [a,c] h) (q (.exit 0) [ge l 0] h)
def fu(C:CC)(b:Nat)(h:Hp)(a:V)(q:kQ):Prop:=let h:Hp:=h++List.replicate 2 nnQ
 blQ a fun c=>mkS (b+0) 16 [.str []] h (I 0) c fun c h=>blQ a fun d=>lp (mD C b a d) [] h [c,I 0] h (exK [((.exit 0),fun a h=>q (ge a 0) h)])
def pQ(b:Nat):Ann:=(.n .x .o (.n .x (.n (.r [.slot (b+0)]) .o .o) (.n .x (.n .x .o (.n .x (.n (.l [3,11] [9,10] [((.exit 0),[3],[])] []) (.n .x .o (.n .x .o (.n .x (.n .x (.n .x .o (.n (.r [.o,.o,.slot (b+1)]) .o .o)) .o) .o))) .o) .o)) .o)))
theorem zM(C:CC)(h:Hp)(t0:V)(q:kkQ):fnI Y C Tryz.f147 2 pQ [t0] h q=fu C h.length h t0 q:=by rfl
theorem zK(b:Nat):okB Tryz.prog Tryz.f147 (pQ b)=true:=by rfl
theorem zL(hh:fu (CX Y) h.length h t0 (mW h.length v h2)):CI Y F.fu [t0] h v h2:=
 CI.of (fn:=Tryz.f147) (m:=2) (a:=pQ) rfl (fun _=>rfl) Tryz.func147 (zK _) (by rw[zM];exact hh)
def jP(C:CC)(b:Nat)(h:Hp)(a:V)(q:kQ):Prop:=let h:Hp:=h++List.replicate 2 nnQ
 mkS (b+0) 8 [.int .i64 0] h a a fun a h=>ciQ C h F.fu [a] (b+1) q
def qp(b:Nat):Ann:=(.n .x .o (.n .x (.n (.r [.slot (b+0),.inl (b+1)]) .o .o) .o))
theorem Bg(C:CC)(h:Hp)(t0:V)(q:kkQ):fnI Y C Tryz.f148 2 qp [t0] h q=jP C h.length h t0 q:=by rfl
theorem Be(b:Nat):okB Tryz.prog Tryz.f148 (qp b)=true:=by rfl
theorem Bf(hh:jP (CX Y) h.length h t0 (mW h.length v h2)):CI Y F.jP [t0] h v h2:=
 CI.of (fn:=Tryz.f148) (m:=2) (a:=qp) rfl (fun _=>rfl) Tryz.func148 (Be _) (by rw[Bg];exact hh)
def jK(C:CC)(b:Nat)(a c d e:V):aP:=fun l h q=>cIQ .lss (ge l 0) e (bxQ h 1 d (ge l 0) fun d=>b1Q h d fun d=>bxQ h 1 a (ge l 0) fun e=>b1Q h e fun e=>clQ C h F.bj [c,d] fun c h=>clQ C h F.qP [e,c] fun c h=>bxQ h 1 a (ge l 0) fun a=>stD h 1 a c fun _ h=>bIQ .add (ge l 0) (I 1) fun a=>q .normal [a] h) (q (.exit 0) [] h)
def eu(C:CC)(b:Nat)(h:Hp)(a c d:V)(q:kQ):Prop:=let h:Hp:=h++List.replicate 0 nnQ
 bSQ .eql c (.d (.str [48])) fun e=>cnd e (q (.tup []) h) (blQ d fun e=>lp (jK C b a c d e) [] h [I 0] h (exK [((.exit 0),fun a h=>q (.tup []) h)]))
def nS(b:Nat):Ann:=(.n .x .o (.n .x .o (.n .x (.n (.l [12] [0,1,10,11] [((.exit 0),[],[])] []) .o .o) .o)))
theorem wM(C:CC)(h:Hp)(t0:V)(t1:V)(t2:V)(q:kkQ):fnI Y C Tryz.f179 0 nS [t0,t1,t2] h q=eu C h.length h t0 t1 t2 q:=by rfl
theorem wK(b:Nat):okB Tryz.prog Tryz.f179 (nS b)=true:=by rfl
theorem wL(hh:eu (CX Y) h.length h t0 t1 t2 (mW h.length v h2)):CI Y F.eu [t0,t1,t2] h v h2:=
 CI.of (fn:=Tryz.f179) (m:=0) (a:=nS) rfl (fun _=>rfl) Tryz.func179 (wK _) (by rw[wM];exact hh)
def iB(C:CC)(b:Nat)(a c d:V):aP:=fun l h q=>cIQ .lss (ge l 0) d (bxQ h 1 c (ge l 0) fun c=>b1Q h c fun c=>clQ C h F.lN [c] fun c h=>bxQ h 1 a (ge l 0) fun a=>stD h 1 a c fun _ h=>bIQ .add (ge l 0) (I 1) fun a=>q .normal [a] h) (q (.exit 0) [] h)
def ek(C:CC)(b:Nat)(h:Hp)(a:V)(q:kQ):Prop:=let h:Hp:=h++List.replicate 0 nnQ
 blQ a fun c=>lp (iB C b a a c) [] h [I 0] h (exK [((.exit 0),fun a h=>q (.tup []) h)])
def mf(b:Nat):Ann:=(.n .x .o (.n .x (.n (.l [6] [0,4,5] [((.exit 0),[],[])] []) .o .o) .o))
theorem uE(C:CC)(h:Hp)(t0:V)(q:kkQ):fnI Y C Tryz.f180 0 mf [t0] h q=ek C h.length h t0 q:=by rfl
theorem uC(b:Nat):okB Tryz.prog Tryz.f180 (mf b)=true:=by rfl
theorem uD(hh:ek (CX Y) h.length h t0 (mW h.length v h2)):CI Y F.ek [t0] h v h2:=
 CI.of (fn:=Tryz.f180) (m:=0) (a:=mf) rfl (fun _=>rfl) Tryz.func180 (uC _) (by rw[uE];exact hh)
def fR(C:CC)(b:Nat)(a c:V):aP:=fun l h q=>blQ a fun d=>cIQ .lss (ge l 1) d (jn (fun a h=>bIQ .add (ge l 1) (I 1) fun c=>q .normal [ge a 0,c] h) fun d=>bxQ h 1 a (ge l 1) fun e=>b1Q h e fun e=>bxQ h 1 e c fun e=>b1Q h e fun e=>bSQ .neq e (.d (.str [48])) fun e=>gqQ e true h (ge l 0) fun f h=>gbQ e true h (biI .lss f (I 0)) fun f h=>gqQ e true h f fun f h=>gqQ f false h a fun g h=>gqQ f false h (ge l 1) fun i h=>gbQ f false h (ixV h 1 g i) fun g h=>gbQ f false h (ld1 h g) fun g h=>gqQ f false h c fun i h=>gbQ f false h (ixV h 1 g i) fun g h=>gbQ f false h (ld1 h g) fun g h=>gd f false h (fun q=>clQ C h F.eQ [g] q) fun g h=>gqQ f false h a fun a h=>gqQ f false h (ge l 0) fun i h=>gbQ f false h (ixV h 1 a i) fun a h=>gbQ f false h (ld1 h a) fun a h=>gqQ f false h c fun c h=>gbQ f false h (ixV h 1 a c) fun a h=>gbQ f false h (ld1 h a) fun a h=>gd f false h (fun q=>clQ C h F.eQ [a] q) fun a h=>gd f false h (fun q=>clQ C h F.iF [g,a] q) fun a h=>gbQ f false h (biI .lss a (I 0)) fun a h=>gbQ e true h (oM f (B true) a) fun a h=>bpQ e a (B false) fun a=>jn (fun a h=>d [ge a 0] h) fun c=>cnd a (c [ge l 1] h) (c [ge l 0] h)) (q (.exit 4) [ge l 0] h)
def jj(C:CC)(b:Nat)(a c d:V):aP:=fun l h q=>blQ a fun e=>cIQ .lss (ge l 1) e (bxQ h 1 a (ge l 1) fun e=>b1Q h e fun e=>bxQ h 1 e d fun e=>b1Q h e fun e=>bxQ h 1 a c fun f=>b1Q h f fun f=>bxQ h 1 f d fun d=>b1Q h d fun d=>clQ C h F.bc [e,d] fun d h=>e3Q d fun d e f=>bxQ h 1 a (ge l 1) fun f=>b1Q h f fun f=>bxQ h 1 a c fun a=>b1Q h a fun a=>ciQ C h F.eu [f,d,a] (b+0) fun a h=>gqQ (ge l 0) false h e fun a h=>gbQ (ge l 0) false h (biS .neq a (.d (.str [48]))) fun a h=>bpQ (ge l 0) (B true) a fun a=>bIQ .add (ge l 1) (I 1) fun c=>q .normal [a,c] h) (q (.exit 6) [ge l 0] h)
def fP(C:CC)(b:Nat)(a c d e:V):aP:=fun l h q=>cIQ .lss (ge l 0) e (bxQ h 1 a (ge l 0) fun e=>b1Q h e fun e=>bxQ h 1 e d fun e=>b1Q h e fun e=>bxQ h 1 a c fun f=>b1Q h f fun f=>bxQ h 1 f d fun d=>b1Q h d fun d=>clQ C h F.bc [e,d] fun d h=>e3Q d fun d e f=>bxQ h 1 a (ge l 0) fun e=>b1Q h e fun e=>bxQ h 1 a c fun a=>b1Q h a fun a=>ciQ C h F.eu [e,d,a] (b+2) fun a h=>bIQ .add (ge l 0) (I 1) fun a=>q .normal [a] h) (q (.exit 8) [] h)
def me(C:CC)(b:Nat)(a c:V):aP:=fun l h q=>lp (fR C b a c) [] h [I (-1),ge l 0] h (exK [((.exit 4),fun d h=>cIQ .lss (ge d 0) (I 0) (q (.exit 2) [ge l 0] h) (bxQ h 1 a (ge d 0) fun e=>b1Q h e fun e=>bxQ h 1 a (ge l 0) fun f=>b1Q h f fun f=>bxQ h 1 a (ge l 0) fun g=>stD h 1 g e fun _ h=>bxQ h 1 a (ge d 0) fun d=>stD h 1 d f fun _ h=>bIQ .add (ge l 0) (I 1) fun d=>lp (jj C b a (ge l 0) c) [(b+0)] h [B false,d] h (exK [((.exit 6),fun d h=>cnd (ge d 0) (q .normal [ge l 0] h) (bxQ h 1 a (ge l 0) fun d=>b1Q h d fun d=>bxQ h 1 d c fun d=>b1Q h d fun d=>clQ C h F.c8 [d] fun d h=>bIQ .lss d (I 0) fun d=>jn (fun d h=>lp (fP C b a (ge l 0) c (ge l 0)) [(b+2)] h [I 0] h (exK [((.exit 8),fun a h=>bIQ .add (ge l 0) (I 1) fun a=>q (.exit 2) [a] h)])) fun c=>cnd d (bxQ h 1 a (ge l 0) fun a=>b1Q h a fun a=>ciQ C h F.ek [a] (b+1) fun a h=>c [] h) (c [] h)))])))])
def fS(C:CC)(b:Nat)(a c:V):aP:=fun l h q=>bIQ .lss (ge l 1) c fun c=>gqQ c true h (ge l 0) fun d h=>gqQ c true h a fun e h=>gbQ c true h (aW e) fun e h=>gbQ c true h (biI .lss d e) fun d h=>bpQ c d (B false) fun c=>cnd c (lp (me C b a (ge l 1)) [(b+0),(b+1),(b+2)] h [ge l 0] h (exK [((.exit 2),fun a h=>bIQ .add (ge l 1) (I 1) fun c=>q .normal [ge a 0,c] h)])) (q (.exit 0) [ge l 0] h)
def cF(C:CC)(b:Nat)(h:Hp)(a c:V)(q:kQ):Prop:=let h:Hp:=h++List.replicate 3 nnQ
 lp (fS C b a c) [(b+0),(b+1),(b+2)] h [I 0,I 0] h (exK [((.exit 0),fun c h=>bnd (slV h 1 a none (some (ge c 0))) fun a=>q a h)])
def mZ(b:Nat):Ann:=(.n .x .o (.n .x .o (.n .x (.n .x .o (.n .x (.n (.l [5,6] [0,1] [((.exit 0),[5],[0])] [(b+0),(b+1),(b+2)]) (.n .x .o (.n .x (.n .x (.n .x (.n (.l [5] [0,1,6] [((.exit 2),[5],[0,1,6])] [(b+0),(b+1),(b+2)]) (.n .x (.n .x .o (.n .x (.n .x .o (.n .x (.n (.l [7,8] [0,1,5,6] [((.exit 4),[7],[0,1,5,6])] []) (.n .x .o (.n .x (.n (.j [7] [0,1,5,6,8]) (.n .x .o (.n (.j [7] [0,1,5,6,8]) .o .o)) .o) .o)) .o) .o)) (.n .x .o (.n .x .o (.n .x .o (.n .x (.n .x .o (.n .x (.n (.l [9,10] [0,1,5,6] [((.exit 6),[9],[0,1,5,6])] [(b+0)]) (.n .x .o (.n .x (.n .x (.n .x .o (.n .x (.n (.r [.inl (b+0)]) .o .o) .o)) .o) .o)) .o) .o)) (.n .x .o (.n .x (.n .x .o (.n (.j [] [0,1,5,6]) (.n (.r [.inl (b+1)]) .o .o) .o)) (.n .x (.n .x .o (.n .x (.n (.l [143] [0,1,5,6,142] [((.exit 8),[],[0,1,5,6])] [(b+2)]) (.n .x .o (.n .x .o (.n .x (.n .x (.n .x .o (.n .x .o (.n (.r [.inl (b+2)]) .o .o))) .o) .o))) .o) .o)) .o))))))))) .o) .o) .o) .o) .o)) .o) .o)) .o)))
theorem vv(C:CC)(h:Hp)(t0:V)(t1:V)(q:kkQ):fnI Y C Tryz.f149 3 mZ [t0,t1] h q=cF C h.length h t0 t1 q:=by rfl
theorem vu(b:Nat):okB Tryz.prog Tryz.f149 (mZ b)=true:=by rfl
theorem qg(hh:cF (CX Y) h.length h t0 t1 (mW h.length v h2)):CI Y F.cF [t0,t1] h v h2:=
 CI.of (fn:=Tryz.f149) (m:=3) (a:=mZ) rfl (fun _=>rfl) Tryz.func149 (vu _) (by rw[vv];exact hh)
def xq(C:CC)(b:Nat)(a c:V):aP:=fun l h q=>cIQ .lss (ge l 1) c (bxQ h 1 a (ge l 1) fun a=>b1Q h a fun a=>anyS fun s4=>ciQ C h F.fu [a] s4 fun a h=>anyS fun s6=>Bc s6 1 [nPQ] [(0,a)] h fun a h=>anyS fun s8=>apW false s8 1 24 (ge l 0) a h fun a h=>bIQ .add (ge l 1) (I 1) fun c=>q .normal [a,c] h) (q (.exit 0) [ge l 0] h)
def lI(C:CC)(b:Nat)(h:Hp)(a:V)(q:kQ):Prop:=let h:Hp:=h++List.replicate 14 nnQ
 blQ a fun c=>lp (xq C b a c) [] h [nSQ,I 0] h (exK [((.exit 0),fun a h=>q (ge a 0) h)])
def jJ(C:CC)(a c:V):aP:=fun l h q=>cIQ .lss (ge l 1) c (bxQ h 1 a (ge l 1) fun a=>b1Q h a fun a=>anyS fun s4=>ciQ C h F.fu [a] s4 fun a h=>anyS fun s6=>Bc s6 1 [nPQ] [(0,a)] h fun a h=>anyS fun s8=>apW false s8 1 24 (ge l 0) a h fun a h=>bIQ .add (ge l 1) (I 1) fun c=>q .normal [a,c] h) (q (.exit 0) [ge l 0] h)
def rZ(C:CC)(a:V)(q:kQ):Prop:=let h:Hp:=.replicate 14 nnQ
 blQ a fun c=>lp (jJ C a c) [] h [nSQ,I 0] h (exK [((.exit 0),fun a h=>q (ge a 0) h)])
theorem wJ(h:rZ (CX Y) t0 (out v)):CP Y F.lI [t0] v:=CPo 14 (d9 (nCQ (aO (nCQ (.n (.l [3,8] [6,7] [((.exit 0),[3],[])] []) (d9 (nCQ (nCQ (aO (nRQ [.anyI,.anyV,.anyV]))))) .o))))) Tryz.func106 h
def eW(C:CC)(b:Nat)(a c d:V):aP:=fun l h q=>cIQ .lss (ge l 1) d (jn (fun a h=>bIQ .add (ge l 1) (I 1) fun c=>q .normal [ge a 0,c] h) fun d=>bxQ h 1 c (ge l 1) fun c=>b1Q h c fun c=>clQ C h F.gS [c] fun e h=>bIQ .geq e a fun e=>jn (fun a h=>d [ge a 0] h) fun d=>cnd e (bnd (slV h 1 c (some a) none) fun a=>anyS fun s12=>Bc s12 1 [nPQ] [(0,a)] h fun a h=>anyS fun s14=>apW false s14 1 24 (ge l 0) a h fun a h=>d [a] h) (d [ge l 0] h)) (q (.exit 0) [ge l 0] h)
def cD(C:CC)(b:Nat)(h:Hp)(a c d:V)(q:kQ):Prop:=let h:Hp:=h++List.replicate 2 nnQ
 blQ a fun e=>lp (eW C b c a e) [] h [nSQ,I 0] h (exK [((.exit 0),fun a h=>ciQ C h F.cF [ge a 0,d] (b+0) q)])
def kZ(b:Nat):Ann:=(.n .x .o (.n .x .o (.n .x (.n .x .o (.n .x (.n (.l [7,12] [1,2,10,11] [((.exit 0),[7],[2])] []) (.n .x .o (.n .x .o (.n .x (.n (.j [7] [1,2,10,11,12]) (.n .x .o (.n .x .o (.n (.j [7] [1,2,10,11,12]) (.n (.r [.anyV,.anyV]) .o .o) .o))) .o) .o))) .o) .o)) (.n .x (.n (.r [.inl (b+0)]) .o .o) .o))))
theorem t6(C:CC)(h:Hp)(t0:V)(t1:V)(t2:V)(q:kkQ):fnI Y C Tryz.f150 2 kZ [t0,t1,t2] h q=cD C h.length h t0 t1 t2 q:=by rfl
theorem tZ(b:Nat):okB Tryz.prog Tryz.f150 (kZ b)=true:=by rfl
theorem o8(hh:cD (CX Y) h.length h t0 t1 t2 (mW h.length v h2)):CI Y F.cD [t0,t1,t2] h v h2:=
 CI.of (fn:=Tryz.f150) (m:=2) (a:=kZ) rfl (fun _=>rfl) Tryz.func150 (tZ _) (by rw[t6];exact hh)
def gP(C:CC)(a c d:V):aP:=fun l h q=>cIQ .lss (ge l 1) d (bxQ h 1 c (ge l 1) fun c=>b1Q h c fun c=>bxQ h 1 c a fun a=>b1Q h a fun a=>fI 1 [.str []] [(0,a)] h fun a h=>anyS fun s7=>apV false s7 1 16 (ge l 0) a h fun a h=>bIQ .add (ge l 1) (I 1) fun c=>q .normal [a,c] h) (q (.exit 2) [ge l 0] h)
def gQ(C:CC)(a c d:V):aP:=fun l h q=>cIQ .lss (ge l 1) d (blQ a fun d=>lp (gP C (ge l 1) a d) [] h [nSQ,I 0] h (exK [((.exit 2),fun a h=>ciQ C h F.jP [c] 0 fun c h=>bxQ h 1 c (ge l 1) fun d=>stD h 1 d (.d (.str [49])) fun _ h=>anyS fun s7=>apV false s7 1 16 (ge a 0) c h fun a h=>anyS fun s9=>Bc s9 1 [nPQ] [(0,a)] h fun a h=>anyS fun s11=>apW false s11 1 24 (ge l 0) a h fun a h=>bIQ .add (ge l 1) (I 1) fun c=>q .normal [a,c] h)])) (q (.exit 0) [ge l 0] h)
def cV(C:CC)(a c:V)(q:kQ):Prop:=let h:Hp:=.replicate 19 nnQ
 lp (gQ C a c c) [0] h [nSQ,I 0] h (exK [((.exit 0),fun d h=>blQ a fun e=>bIQ .add e c fun e=>ciQ C h F.cF [ge d 0,e] 1 fun d h=>blQ a fun a=>ciQ C h F.cD [d,a,c] 2 q)])
theorem tY(h:cV (CX Y) t0 t1 (out v)):CP Y F.cV [t0,t1] v:=CPo 19 (d9 (nBQ (aO (nCQ (.n (.l [5,12] [0,1,11] [((.exit 0),[5],[0,1])] [0]) (d9 (nCQ (nCQ (d9 (nBQ (aO (nCQ (.n (.l [7,17] [0,1,5,6,11,12,15,16] [((.exit 2),[7],[0,1,5,6,11,12])] []) (d9 (nCQ (nCQ (aO (nRQ [.o,.anyS]))))) .o))) (nBQ (nRQ [.inl 0]) (aO (nRQ [.anyS,.anyV,.anyV])))))))) .o))) (nCQ (nRQ [.inl 1,.inl 2])))) Tryz.func107 h
def gS(C:CC)(a:V)(q:kQ):Prop:=let h:Hp:=[]
 clQ C h F.cG [a,(.fn F.dR [] [])] q
theorem wN(h:gS (CX Y) t0 (out v)):CP Y F.gS [t0] v:=CPo 0 .o Tryz.func181 h
def dR(C:CC)(a:V)(q:kQ):Prop:=let h:Hp:=[]
 bSQ .neq a (.d (.str [48])) fun a=>q a h
theorem t7(h:dR (CX Y) t0 (out v)):CP Y F.dR [t0] v:=CPo 0 .o Tryz.func199 h
def lZ(C:CC)(a c d:V):aP:=fun l h q=>cIQ .lss (ge l 0) d (bxQ h 1 a (ge l 0) fun a=>b1Q h a fun a=>cal C.p h c [a] fun a h=>cnd a (q .ret [ge l 0] h) (bIQ .add (ge l 0) (I 1) fun a=>q .normal [a] h)) (q (.exit 0) [] h)
def cG(C:CC)(a c:V)(q:kQ):Prop:=let h:Hp:=[]
 blQ a fun d=>lp (lZ C a c d) [] h [I 0] h (exK [((.exit 0),fun a h=>q (I (-1)) h),(.ret,fun a h=>q (ge a 0) h)])
theorem mJ(h:cG (CX Y) t0 t1 (out v)):CP Y F.cG [t0,t1] v:=CPo 0 (aO (nCQ (aO (nCQ (.n (.l [8] [0,1,7] [((.exit 0),[],[]),(.ret,[4],[])] []) .o .o))))) Tryz.func198 h
def jk(C:CC)(a c:V):aP:=fun l h q=>cIQ .lss (ge l 1) c (bxQ h 1 a (ge l 1) fun a=>b1Q h a fun a=>clQ C h F.kI [a] fun a h=>e2Q a fun a c=>bnd (unV .not c) fun c=>gqQ c false h a fun d h=>gbQ c false h (biI .gtr d (I 1000000000)) fun d h=>bpQ c (B true) d fun c=>gqQ c false h a fun d h=>gbQ c false h (biI .lss d (I (-1000000000))) fun d h=>bpQ c (B true) d fun c=>cnd c (q .ret [nSQ,I 4] h) (a1Q 1 (ge l 0) a h fun a h=>bIQ .add (ge l 1) (I 1) fun c=>q .normal [a,c] h)) (q (.exit 0) [ge l 0] h)
def gk(C:CC)(a:V)(q:kQ):Prop:=let h:Hp:=.replicate 2 nnQ
 blQ a fun c=>mkS 0 8 [.int .i64 0] h (I 0) c fun c h=>blQ a fun d=>lp (jk C a d) [] h [c,I 0] h (exK [((.exit 0),fun a h=>q (.tup [ge a 0,I 0]) h),(.ret,fun a h=>q (.tup [ge a 0,ge a 1]) h)])
theorem vw(h:gk (CX Y) t0 (out v)):CP Y F.gk [t0] v:=CPo 2 (aO (nBQ (nRQ [.slot 0]) (nCQ (aO (nCQ (.n (.l [4,14] [12,13] [((.exit 0),[4],[]),(.ret,[2,3],[])] []) (d9 (nCQ (nCQ (wG (nRQ [.o,.slot 1]))))) .o)))))) Tryz.func151 h
def iA(C:CC)(a c d e:V):aP:=fun l h q=>cIQ .lss (ge l 0) e (bxQ h 1 d (ge l 0) fun d=>b1Q h d fun d=>clQ C h F.gk [d] fun d h=>e2Q d fun d e=>nzQ e (bnd (bld [(0,1),(1,1)] [.int .i64 0,nPQ] []) fun c=>stD h 2 a c fun _ h=>q .ret [e] h) (bfQ 1 c fun a=>b1Q h a fun a=>fI 1 [nPQ] [(0,d)] h fun d h=>apV false 2 1 24 a d h fun a h=>bfQ 1 c fun c=>stD h 1 c a fun _ h=>bIQ .add (ge l 0) (I 1) fun a=>q .normal [a] h)) (q (.exit 0) [] h)
def ef(C:CC)(a c:V)(q:kQ):Prop:=let h:Hp:=.replicate 3 nnQ
 alV 0 [.d (.int .i64 0),.d nPQ] h fun d h=>bnd (bld [(0,1),(1,1)] [.int .i64 0,nPQ] [(0,c)]) fun c=>alV 1 [.d (.int .i64 0),.d nPQ] h fun e h=>stD h 2 e c fun _ h=>blQ a fun c=>lp (iA C d e a c) [] h [I 0] h (exK [((.exit 0),fun a h=>bnd (ldA h 2 e) fun a=>stD h 2 d a fun _ h=>bnd (ldA h 2 d) fun a=>q (.tup [a,I 0]) h),(.ret,fun a h=>bnd (ldA h 2 d) fun c=>q (.tup [c,ge a 0]) h)])
theorem uB(h:ef (CX Y) t0 t1 (out v)):CP Y F.ef [t0,t1] v:=CPo 3 (nBQ (nRQ [.slot 0]) (nBQ (nRQ [.slot 1]) (nCQ (aO (nCQ (.n (.l [15] [4,6,13,14] [((.exit 0),[],[4,6]),(.ret,[5],[4])] []) (d9 (nCQ (nCQ (wG (nRQ [.o,.slot 2]))))) .o)))))) Tryz.func108 h
def iS(C:CC)(a:V)(q:kQ):Prop:=let h:Hp:=.replicate 2 nnQ
 fJ 0 a h fun a h=>alV 1 [.d (.int .i64 0),.d nPQ] h fun c h=>bnd (ldA h 2 a) fun d=>clQ C h F.iK [d] fun d h=>nzQ d (bnd (bld [(0,1),(1,1)] [.int .i64 0,nPQ] []) fun a=>stD h 2 c a fun _ h=>bnd (ldA h 2 c) fun a=>q (.tup [a,d]) h) (bfQ 1 a fun d=>b1Q h d fun d=>clQ C h F.lI [d] fun d h=>bfQ 0 a fun e=>b1Q h e fun e=>clQ C h F.cV [d,e] fun d h=>bfQ 0 a fun e=>b1Q h e fun e=>clQ C h F.cV [d,e] fun d h=>bfQ 0 a fun a=>b1Q h a fun a=>clQ C h F.ef [d,a] fun a h=>e2Q a fun a d=>stD h 2 c a fun _ h=>bnd (ldA h 2 c) fun a=>q (.tup [a,d]) h)
theorem xr(h:iS (CX Y) t0 (out v)):CP Y F.iS [t0] v:=CPo 2 (nCQ (nRQ [.slot 0,.slot 1])) Tryz.func72 h
def fF(C:CC)(a:V)(q:kQ):Prop:=let h:Hp:=.replicate 2 nnQ
 fJ 0 a h fun a h=>alV 1 [.d (.int .i64 0),.d nPQ] h fun c h=>bnd (ldA h 2 a) fun d=>clQ C h F.iK [d] fun d h=>nzQ d (bnd (bld [(0,1),(1,1)] [.int .i64 0,nPQ] []) fun a=>stD h 2 c a fun _ h=>bnd (ldA h 2 c) fun a=>q (.tup [a,d]) h) (bfQ 1 a fun d=>b1Q h d fun d=>clQ C h F.lI [d] fun d h=>bfQ 0 a fun e=>b1Q h e fun e=>clQ C h F.cV [d,e] fun d h=>bfQ 0 a fun a=>b1Q h a fun a=>clQ C h F.ef [d,a] fun a h=>e2Q a fun a d=>stD h 2 c a fun _ h=>bnd (ldA h 2 c) fun a=>q (.tup [a,d]) h)
theorem uF(h:fF (CX Y) t0 (out v)):CP Y F.fF [t0] v:=CPo 2 (nCQ (nRQ [.slot 0,.slot 1])) Tryz.func74 h
def lW(C:CC)(a c:V)(q:kQ):Prop:=let h:Hp:=[]
 bIQ .lss a (I 0) fun d=>gqQ d false h a fun e h=>gbQ d false h (biI .gtr e (I 12)) fun e h=>bpQ d (B true) e fun d=>cnd d (q (I 3) h) (blQ c fun d=>cIQ .gtr d (I 12) (q (I 4) h) (clQ C h F.nF [c,a] q))
theorem Bh(h:lW (CX Y) t0 t1 (out v)):CP Y F.lW [t0,t1] v:=CPo 0 .o Tryz.func104 h
def iK(C:CC)(a:V)(q:kQ):Prop:=let h:Hp:=.replicate 1 nnQ
 fJ 0 a h fun a h=>bfQ 0 a fun c=>b1Q h c fun c=>bfQ 1 a fun d=>b1Q h d fun d=>clQ C h F.lW [c,d] fun c h=>nzQ c (q c h) (bfQ 1 a fun a=>b1Q h a fun a=>clQ C h F.ky [a] fun a h=>e2Q a fun a c=>bIQ .neq c (I 0) fun c=>gqQ c false h a fun a h=>gbQ c false h (unV .not a) fun a h=>bpQ c (B true) a fun a=>cnd a (q (I 7) h) (q (I 0) h))
theorem Bj(h:iK (CX Y) t0 (out v)):CP Y F.iK [t0] v:=CPo 1 (nCQ (nRQ [.slot 0])) Tryz.func71 h
def jQ(C:CC)(a c:V)(q:kQ):Prop:=let h:Hp:=.replicate 2 nnQ
 fJ 0 a h fun a h=>fJ 1 c h fun c h=>bfQ 0 a fun d=>b1Q h d fun d=>bfQ 0 c fun e=>b1Q h e fun e=>bIQ .eql d e fun d=>gbQ d true h (faV 1 a) fun a h=>gbQ d true h (ld1 h a) fun a h=>gbQ d true h (faV 1 c) fun c h=>gbQ d true h (ld1 h c) fun c h=>gd d true h (fun q=>clQ C h F.aw [a,c,(.fn F.pM [] [])] q) fun a h=>bpQ d a (B false) fun a=>q a h
theorem Bi(h:jQ (CX Y) t0 t1 (out v)):CP Y F.jQ [t0,t1] v:=CPo 2 (nCQ (nRQ [.slot 0,.slot 1])) Tryz.func73 h
def aQ(C:CC)(a c d e:V):aP:=fun l h q=>cIQ .lss (ge l 0) e (bxQ h 1 d (ge l 0) fun d=>b1Q h d fun d=>bxQ h 1 a (ge l 0) fun a=>b1Q h a fun a=>cal C.p h c [d,a] fun a h=>bnd (unV .not a) fun a=>cnd a (q .ret [B false] h) (bIQ .add (ge l 0) (I 1) fun a=>q .normal [a] h)) (q (.exit 0) [] h)
def aw(C:CC)(a c d:V)(q:kQ):Prop:=let h:Hp:=[]
 blQ a fun e=>blQ c fun f=>cIQ .neq e f (q (B false) h) (blQ a fun e=>lp (aQ C c d a e) [] h [I 0] h (exK [((.exit 0),fun a h=>q (B true) h),(.ret,fun a h=>q (ge a 0) h)]))
theorem gC(h:aw (CX Y) t0 t1 t2 (out v)):CP Y F.aw [t0,t1,t2] v:=CPo 0 (d9 (nCQ (aO (nCQ (.n (.l [17] [1,2,15,16] [((.exit 0),[],[]),(.ret,[6],[])] []) .o .o))))) Tryz.func109 h
def qc(C:CC)(a:V)(q:kQ):Prop:=let h:Hp:=[]
 bIQ .geq a (I (-1000000000)) fun c=>gqQ c true h a fun a h=>gbQ c true h (biI .leq a (I 1000000000)) fun a h=>bpQ c a (B false) fun a=>q a h
theorem Mh(h:qc (CX Y) t0 (out v)):CP Y F.qc [t0] v:=CPo 0 .o Tryz.func183 h
def nE(C:CC)(a:V)(q:kQ):Prop:=let h:Hp:=[]
 clQ C h F.qc [a] fun a h=>bnd (unV .not a) fun a=>q a h
theorem CV(h:nE (CX Y) t0 (out v)):CP Y F.nE [t0] v:=CPo 0 .o Tryz.func182 h
def oL(C:CC)(a:V)(q:kQ):Prop:=let h:Hp:=[]
 blQ a fun c=>bIQ .gtr c (I 64) fun c=>gqQ c false h a fun a h=>gd c false h (fun q=>clQ C h F.bi [a,(.fn F.nE [] [])] q) fun a h=>bpQ c (B true) a fun a=>cnd a (q (I 4) h) (q (I 0) h)
theorem JB(h:oL (CX Y) t0 (out v)):CP Y F.oL [t0] v:=CPo 0 .o Tryz.func152 h
def pM(C:CC)(a c:V)(q:kQ):Prop:=let h:Hp:=[]
 clQ C h F.bz [a,c] q
theorem JA(h:pM (CX Y) t0 t1 (out v)):CP Y F.pM [t0,t1] v:=CPo 0 .o Tryz.func110 h
def qV(C:CC)(a c:V)(q:kQ):Prop:=let h:Hp:=[]
 clQ C h F.mS [a,c] fun d h=>nzQ d (q (.tup [I 0,d]) h) (clQ C h F.jA [a,c] fun a h=>clQ C h F.eH [a] fun a h=>q (.tup [a,I 0]) h)
theorem Jp(h:qV (CX Y) t0 t1 (out v)):CP Y F.qV [t0,t1] v:=CPo 0 .o Tryz.func59 h
def rz(C:CC)(a c:V)(q:kQ):Prop:=let h:Hp:=[]
 clQ C h F.qV [a,c] fun d h=>e2Q d fun d e=>nzQ e (q (.tup [nSQ,e]) h) (blQ a fun a=>fI 1 [nPQ] [(0,c)] h fun c h=>bnd (unV .neg d) fun e=>bnd (mxI true [d,e]) fun e=>bnd (mxI true [d,I 0]) fun d=>bIQ .mul (I 2) d fun d=>bIQ .sub d (I 1) fun d=>bIQ .mul e d fun d=>clQ C h F.jB [d] fun d h=>fI 1 [.str [],.str []] [(0,d)] h fun d h=>clQ C h F.nV [a,c,d] fun a h=>q (.tup [a,I 0]) h)
theorem Md(h:rz (CX Y) t0 t1 (out v)):CP Y F.rz [t0,t1] v:=CPo 0 .o Tryz.func40 h
def nB(C:CC)(a c d:V)(q:kQ):Prop:=let h:Hp:=[]
 blQ a fun e=>fI 2 [nPQ] [(0,c),(1,d)] h fun c h=>clQ C h F.jB [I 1] fun d h=>clQ C h F.jB [I (-1)] fun f h=>fI 2 [.str [],.str []] [(0,d),(1,f)] h fun d h=>clQ C h F.nV [e,c,d] fun c h=>clQ C h F.jA [a,c] fun a h=>clQ C h F.eH [a] q
theorem CJ(h:nB (CX Y) t0 t1 t2 (out v)):CP Y F.nB [t0,t1,t2] v:=CPo 0 .o Tryz.func64 h
def cj(C:CC)(a c d:V)(q:kQ):Prop:=let h:Hp:=[]
 fI 2 [nPQ] [(0,c),(1,d)] h fun e h=>clQ C h F.iI [a,e] fun e h=>nzQ e (q (.tup [I 0,e]) h) (clQ C h F.nB [a,c,d] fun a h=>q (.tup [a,I 0]) h)
theorem CK(h:cj (CX Y) t0 t1 t2 (out v)):CP Y F.cj [t0,t1,t2] v:=CPo 0 .o Tryz.func44 h
def fU(C:CC)(a c:V)(q:kQ):Prop:=let h:Hp:=[]
 clQ C h F.aw [a,c,(.fn F.d8 [] [])] q
theorem w9(h:fU (CX Y) t0 t1 (out v)):CP Y F.fU [t0,t1] v:=CPo 0 .o Tryz.func75 h
def d8(C:CC)(a c:V)(q:kQ):Prop:=let h:Hp:=[]
 clQ C h F.bz [a,c] q
theorem uz(h:d8 (CX Y) t0 t1 (out v)):CP Y F.d8 [t0,t1] v:=CPo 0 .o Tryz.func111 h
def fj(C:CC)(a:V)(q:kQ):Prop:=let h:Hp:=.replicate 4 nnQ
 fJ 0 a h fun a h=>bfQ 0 a fun c=>b1Q h c fun c=>clQ C h F.eT [c] fun c h=>nzQ c (q c h) (bfQ 0 a fun c=>b1Q h c fun c=>blQ c fun c=>bfQ 1 a fun d=>b1Q h d fun d=>bnd (bld [(0,1),(1,1)] [.int .i64 0,nPQ] [(0,c),(1,d)]) fun c=>alV 1 [.d (.int .i64 0),.d nPQ] h fun d h=>stD h 2 d c fun _ h=>bnd (ldA h 2 d) fun c=>clQ C h F.iK [c] fun c h=>nzQ c (q c h) (bnd (ldA h 2 d) fun c=>clQ C h F.iS [c] fun c h=>e2Q c fun c e=>alV 2 [.d (.int .i64 0),.d nPQ] h fun f h=>stD h 2 f c fun _ h=>bIQ .neq e (I 0) fun c=>gbQ c false h (ldA h 2 f) fun e h=>gbQ c false h (ldA h 2 d) fun f h=>gd c false h (fun q=>clQ C h F.jQ [e,f] q) fun e h=>gbQ c false h (unV .not e) fun e h=>bpQ c (B true) e fun c=>cnd c (q (I 7) h) (bnd (ldA h 2 d) fun c=>clQ C h F.fF [c] fun c h=>e2Q c fun c d=>alV 3 [.d (.int .i64 0),.d nPQ] h fun e h=>stD h 2 e c fun _ h=>bIQ .neq d (I 0) fun c=>gbQ c false h (faV 1 e) fun d h=>gbQ c false h (ld1 h d) fun d h=>gbQ c false h (faV 2 a) fun a h=>gbQ c false h (ld1 h a) fun a h=>gd c false h (fun q=>clQ C h F.fU [d,a] q) fun a h=>gbQ c false h (unV .not a) fun a h=>bpQ c (B true) a fun a=>cnd a (q (I 14) h) (q (I 0) h))))
theorem wC(h:fj (CX Y) t0 (out v)):CP Y F.fj [t0] v:=CPo 4 (nBQ (nRQ [.slot 0]) (aO (nBQ (nRQ [.slot 1]) (aO (nBQ (nRQ [.o,.slot 2]) (aO (nCQ (nRQ [.o,.slot 3])))))))) Tryz.func53 h
def jw(C:CC)(a c d:V):aP:=fun l h q=>cIQ .lss (ge l 0) d (bxQ h 1 c (ge l 0) fun c=>b1Q h c fun c=>clQ C h F.oL [c] fun d h=>nzQ d (q .ret [d] h) (blQ c fun c=>bfQ 0 a fun a=>b1Q h a fun a=>blQ a fun a=>cIQ .neq c a (q .ret [I 5] h) (bIQ .add (ge l 0) (I 1) fun a=>q .normal [a] h))) (q (.exit 0) [] h)
def gK(C:CC)(a c:V)(q:kQ):Prop:=let h:Hp:=.replicate 1 nnQ
 fJ 0 a h fun a h=>bnd (ldA h 3 a) fun d=>clQ C h F.fj [d] fun d h=>nzQ d (q d h) (blQ c fun d=>lp (jw C a c d) [] h [I 0] h (exK [((.exit 0),fun a h=>q (I 0) h),(.ret,fun a h=>q (ge a 0) h)]))
theorem wB(h:gK (CX Y) t0 t1 (out v)):CP Y F.gK [t0,t1] v:=CPo 1 (nBQ (nRQ [.slot 0]) (aO (nCQ (aO (nCQ (.n (.l [16] [2,14,15] [((.exit 0),[],[]),(.ret,[4],[])] []) .o .o)))))) Tryz.func113 h
def je(C:CC)(a c d:V):aP:=fun l h q=>cIQ .lss (ge l 1) d (bxQ h 1 c (ge l 1) fun c=>b1Q h c fun c=>clQ C h F.dF [c] fun c h=>bxQ h 1 a (ge l 1) fun a=>b1Q h a fun a=>clQ C h F.dF [a] fun a h=>clQ C h F.bj [c,a] fun a h=>clQ C h F.cO [ge l 0,a] fun a h=>bIQ .add (ge l 1) (I 1) fun c=>q .normal [a,c] h) (q (.exit 2) [ge l 0] h)
def jf(C:CC)(a c d:V):aP:=fun l h q=>cIQ .lss (ge l 1) d (bxQ h 1 c (ge l 1) fun c=>b1Q h c fun c=>blQ a fun d=>lp (je C c a d) [] h [(.d (.str [48])),I 0] h (exK [((.exit 2),fun a h=>fI 1 [.str []] [(0,(ge a 0))] h fun a h=>apV false 1 1 16 (ge l 0) a h fun a h=>bIQ .add (ge l 1) (I 1) fun c=>q .normal [a,c] h)])) (q (.exit 0) [ge l 0] h)
def fT(C:CC)(a c:V)(q:kQ):Prop:=let h:Hp:=.replicate 2 nnQ
 fJ 0 a h fun a h=>bfQ 2 a fun a=>b1Q h a fun a=>blQ a fun d=>lp (jf C c a d) [] h [nSQ,I 0] h (exK [((.exit 0),fun a h=>q (ge a 0) h)])
theorem uX(h:fT (CX Y) t0 t1 (out v)):CP Y F.fT [t0,t1] v:=CPo 2 (nBQ (nRQ [.slot 0]) (aO (nCQ (aO (nCQ (.n (.l [5,14] [1,12,13] [((.exit 0),[5],[])] []) (d9 (nCQ (nCQ (d9 (nBQ (aO (nCQ (.n (.l [8,20] [1,5,7,12,13,14,18,19] [((.exit 2),[8],[1,5,12,13,14])] []) .o .o))) (nRQ [.o,.slot 1])))))) .o)))))) Tryz.func114 h
def jg(C:CC)(a c:V):aP:=fun l h q=>cIQ .lss (ge l 1) c (bxQ h 1 a (ge l 1) fun a=>b1Q h a fun a=>clQ C h F.kI [a] fun a h=>e2Q a fun a c=>bnd (unV .not c) fun c=>gqQ c false h a fun d h=>gbQ c false h (biI .gtr d (I 1000000000)) fun d h=>bpQ c (B true) d fun c=>gqQ c false h a fun d h=>gbQ c false h (biI .lss d (I (-1000000000))) fun d h=>bpQ c (B true) d fun c=>cnd c (q .ret [nSQ,I 4] h) (a1Q 1 (ge l 0) a h fun a h=>bIQ .add (ge l 1) (I 1) fun c=>q .normal [a,c] h)) (q (.exit 0) [ge l 0] h)
def fV(C:CC)(a c:V)(q:kQ):Prop:=let h:Hp:=.replicate 2 nnQ
 fJ 0 a h fun a h=>bnd (ldA h 3 a) fun d=>fI 1 [nPQ] [(0,c)] h fun e h=>clQ C h F.gK [d,e] fun d h=>nzQ d (q (.tup [nSQ,d]) h) (bnd (ldA h 3 a) fun a=>clQ C h F.fT [a,c] fun a h=>blQ a fun c=>lp (jg C a c) [] h [nSQ,I 0] h (exK [((.exit 0),fun a h=>q (.tup [ge a 0,I 0]) h),(.ret,fun a h=>q (.tup [ge a 0,ge a 1]) h)]))
theorem uY(h:fV (CX Y) t0 t1 (out v)):CP Y F.fV [t0,t1] v:=CPo 2 (nBQ (nRQ [.slot 0]) (d9 (nCQ (aO (nCQ (.n (.l [7,23] [21,22] [((.exit 0),[7],[]),(.ret,[4,5],[])] []) (d9 (nCQ (nCQ (wG (nRQ [.o,.slot 1]))))) .o)))))) Tryz.func77 h
def nJ(C:CC)(a:V)(q:kQ):Prop:=let h:Hp:=.replicate 2 nnQ
 fJ 0 a h fun a h=>alV 1 [.d (.str []),.d (.str [])] h fun c h=>bfQ 0 a fun d=>b1Q h d fun d=>clQ C h F.lN [d] fun d h=>bfQ 1 a fun a=>b1Q h a fun a=>bnd (bld [(0,1),(1,1)] [.str [],.str []] [(0,d),(1,a)]) fun a=>stD h 2 c a fun _ h=>bnd (ldA h 2 c) fun a=>q a h
theorem DW(h:nJ (CX Y) t0 (out v)):CP Y F.nJ [t0] v:=CPo 2 (nCQ (nRQ [.slot 0,.slot 1])) Tryz.func80 h
def nH(C:CC)(a c:V)(q:kQ):Prop:=let h:Hp:=.replicate 3 nnQ
 fJ 0 a h fun a h=>fJ 1 c h fun c h=>alV 2 [.d (.str []),.d (.str [])] h fun d h=>bnd (ldA h 2 a) fun a=>bnd (ldA h 2 c) fun c=>clQ C h F.nJ [c] fun c h=>clQ C h F.eM [a,c] fun a h=>stD h 2 d a fun _ h=>bnd (ldA h 2 d) fun a=>q a h
theorem DU(h:nH (CX Y) t0 t1 (out v)):CP Y F.nH [t0,t1] v:=CPo 3 (nCQ (nRQ [.slot 0,.slot 1,.slot 2])) Tryz.func57 h
end Go.Vm
