/- Lemmas. -/
import Derived.Test.YtgcaaigeilmbaaaGreatDoorQVmC
set_option linter.unusedVariables false
set_option linter.unusedSimpArgs false
set_option maxRecDepth 100000
set_option maxHeartbeats 4000000
namespace Go.Vm
open Go Go.Am Go.Proofs
variable{v t0 t1 t2 t3:V}{h h2:Hp}
theorem CPo{f:FuncId}{fn:Func}(m:Nat)(a:Ann){ds:LwQ}(h3:Y.X.P.funcs[f]?=some fn)(h5:fnD Y (CX Y) fn m a ds (out v))(h1:Y.X.allow f=true:=by rfl)(h2:∀u,Y.X.orc f u=none:=by exact fun _=>rfl)(h4:okB Y.X.P fn a=true:=by decide+kernel):CP Y f ds v:=CP.of h1 h2 h3 h4 h5
abbrev nBQ(a b:Ann):Ann:=.n .x a b
abbrev nCQ(a:Ann):Ann:=.n .x a .o
abbrev nRQ(l:List Act):Ann:=.n (.r l) .o .o
abbrev nJQ(a b:LnQ):Ann:=.n (.j a b) .o .o
abbrev mu(a:Ann):Ann:=.n .x .o a
abbrev zq(a:Ann):Ann:=mu (mu a)
abbrev zp(a:Ann):Ann:=zq (mu a)
abbrev zo(a:Ann):Ann:=zp (mu a)
abbrev zn(a:Ann):Ann:=zo (mu a)
abbrev zm(a:Ann):Ann:=zn (mu a)
abbrev Av(a:Ann):Ann:=zm (mu a)
theorem adv{p:Prop}(h:p:=by repeat' (first|(refine aea rfl fun _=>?_)|(refine afq rfl fun _ _=>?_)|(refine ad3 rfl fun _ _=>?_)|(refine ad0 rfl ?_ ?_)|(refine adU rfl fun _=>?_)|(refine aaX rfl fun _ _=>?_)|(refine adw rfl fun _ _=>?_)|(refine aec rfl fun _ _=>?_)|(refine abC rfl fun _ _=>?_)|(refine afn rfl (fun _ _=>?_) fun _=>?_)|(refine afh rfl (fun _ _ _=>?_) fun _ _ _=>?_)|(refine adV rfl (fun _ _=>?_) ?_)|(refine adN rfl fun _ _=>?_)|(refine aeb rfl fun _ _=>?_)|(refine ad4 rfl fun _ _=>?_)|(refine afH rfl fun _ _=>?_)|(refine aaW rfl fun _ _=>?_)|(refine aed rfl fun _ _=>?_)|(refine aaA rfl fun _=>?_)|exact rfl|(refine aaY rfl ?_))):p:=h
theorem SC{p:Prop}(h:p:=by repeat' (first|(refine aea rfl fun _=>?_)|(refine afq rfl fun _ _=>?_)|(refine ad3 rfl fun _ _=>?_)|(refine ad0 rfl ?_ ?_)|(refine adU rfl fun _=>?_)|(refine aaX rfl fun _ _=>?_)|(refine adw rfl fun _ _=>?_)|(refine aec rfl fun _ _=>?_)|(refine abC rfl fun _ _=>?_)|(refine afn rfl (fun _ _=>?_) fun _=>?_)|(refine afh rfl (fun _ _ _=>?_) fun _ _ _=>?_)|(refine adV rfl (fun _ _=>?_) ?_)|(refine adN rfl fun _ _=>?_)|(refine aeb rfl fun _ _=>?_)|(refine ad4 rfl fun _ _=>?_)|(refine aaW rfl fun _ _=>?_)|(refine aed rfl fun _ _=>?_)|(refine aaA rfl fun _=>?_)|exact rfl|(refine aaY rfl ?_))):p:=h
abbrev kQ:=kkQ
abbrev clQ(C:CC)(h:Hp)(f:FuncId)(a:LwQ)(k:kQ):Prop:=cal C.p h (.fn f [] []) a k
abbrev ciQ(C:CC)(h:Hp)(f:FuncId)(a:LwQ)(s:Nat)(k:kQ):Prop:=cai C.i h (.fn f [] []) a s k
abbrev bIQ(o:BinOp)(x y:V)(k:V->Prop):Prop:=bnd (biI o x y) k
abbrev bSQ(o:BinOp)(x y:V)(k:V->Prop):Prop:=bnd (biS o x y) k
abbrev b1Q(h:Hp)(x:V)(k:V->Prop):Prop:=bnd (ld1 h x) k
abbrev bxQ(h:Hp)(n:Nat)(x y:V)(k:V->Prop):Prop:=bnd (ixV h n x y) k
abbrev blQ(x:V)(k:V->Prop):Prop:=bnd (fL x) k
abbrev bfQ(n:Nat)(x:V)(k:V->Prop):Prop:=bnd (faV n x) k
abbrev bpQ(x y z:V)(k:V->Prop):Prop:=bnd (Hk x y z) k
abbrev cIQ(o:BinOp)(x y:V)(A B:Prop):Prop:=bnd (biI o x y) fun c=>cnd c A B
abbrev nzQ(x:V)(A B:Prop):Prop:=bnd (biI .neq x (I 0)) fun c=>cnd c A B
abbrev gbQ(c:V)(w:Bool)(h:Hp)(o:Option V)(k:kQ):Prop:=gd c w h (fun q=>bnd o fun v=>q v h) k
abbrev gqQ(c:V)(w:Bool)(h:Hp)(x:V)(k:kQ):Prop:=gd c w h (fun q=>q x h) k
abbrev e2Q(x:V)(k:V->V->Prop):Prop:=ext x 0 fun a=>ext x 1 fun b=>k a b
abbrev e3Q(x:V)(k:V->V->V->Prop):Prop:=ext x 0 fun a=>ext x 1 fun b=>ext x 2 fun c=>k a b c
abbrev nSQ:V:=.d nPQ
abbrev a1Q(s:Nat)(x y:V)(h:Hp)(k:kQ):Prop:=mB 1 [.int .i64 0] [(0,y)] h fun v h=>apV false s 1 8 x v h k
def BA(C:CC)(a c:V)(q:kQ):Prop:=let h:Hp:=[]
 gqQ a true h c fun d h=>gbQ a true h (biS .neq d (.d (.str [48]))) fun d h=>bpQ a d (B false) fun a=>cnd a (bSQ .add (.d (.str [45])) c fun a=>q a h) (q c h)
theorem LL(h:BA (CX Y) t0 t1 (out v)):CP Y F.BA [t0,t1] v:=CPo 0 .o Tryz.func130 h
def C9(C:CC)(a c:V)(q:kkQ):Prop:=let h:Hp:=List.replicate 6 nnQ
 cal C.p h (.fn F.CF [] []) [a,c] fun d h=>ext d 0 fun e=>ext d 1 fun f=>ext d 2 fun d=>cnd d (bnd (biI .add e f) fun a=>cal C.p h (.fn F.D3 [] []) [a] fun a h=>q a h) (cai C.i h (.fn F.BF [] []) [a] 0 fun a h=>cai C.i h (.fn F.BF [] []) [c] 1 fun c h=>bnd (fL a) fun d=>bnd (fL c) fun e=>bnd (biI .lss d e) fun d=>jn (fun a h=>mB 1 [.int .u64 0] [(0,(.d (.int .u64 0)))] h fun c h=>apV false 2 1 8 (ge a 0) c h fun c h=>bnd (fL c) fun d=>bnd (biI .sub d (I 1)) fun d=>bnd (fL (ge a 1)) fun e=>bnd (biI .sub d e) fun d=>apZ false 3 1 8 [.int .u64 0] (ge a 1) d h fun a h=>cai C.i h (.fn F.BC [] []) [c,a,(I 0)] 4 fun a h=>cai C.i h (.fn F.AK [] []) [c] 5 fun a h=>cal C.p h (.fn F.AR [] []) [a] fun a h=>q a h) fun e=>cnd d (e [c,a] h) (e [a,c] h))
def IX:Ann:=(zq (nBQ (nRQ [.inl 0,.inl 1]) (nBQ (mu (nJQ [8,9] [])) (nBQ (nRQ [.o,.slot 2]) (nBQ (nRQ [.slot 3,.inl 4]) (nCQ (nRQ [.inl 5])))))))
attribute [local irreducible] bnd gd cal cnd ext mB mA stD alV alD oR jn lp exK mkS apV apZ cai oA in
theorem Qd(C:CC)(t0:V)(t1:V)(q:kkQ):fnD Y C Tryz.f131 6 IX [t0,t1] q=C9 C t0 t1 q:=adv
theorem Qb:okB Tryz.prog Tryz.f131 IX=true:=dQ
theorem Qc(h:C9 (CX Y) t0 t1 (out v)):CP Y F.C9 [t0,t1] v:=
 CP.of (fn:=Tryz.f131) (m:=6) (a:=IX) rfl (fun _=>rfl) Tryz.func131 Qb (by rw[Qd];exact h)
def Bs(C:CC)(a c:V)(q:kQ):Prop:=let h:Hp:=[]
 bnd (sy a) fun d=>bnd (sy c) fun e=>cIQ .neq d e (bnd (sy a) fun a=>bnd (sy c) fun c=>bIQ .sub a c fun a=>bnd (mxI true [I (-1),a]) fun a=>bnd (mxI false [I 1,a]) fun a=>q a h) (bSQ .lss a c fun d=>cnd d (q (I (-1)) h) (bSQ .gtr a c fun a=>cnd a (q (I 1) h) (q (I 0) h)))
theorem Mu(h:Bs (CX Y) t0 t1 (out v)):CP Y F.Bs [t0,t1] v:=CPo 0 .o Tryz.func155 h
def DO(C:CC)(a c:V)(q:kkQ):Prop:=let h:Hp:=List.replicate 7 nnQ
 cal C.p h (.fn F.Bs [] []) [a,c] fun d h=>bnd (biI .lss d (I 0)) fun d=>cnd d (q (.tup [(.d (.str [])),(I 3)]) h) (cal C.p h (.fn F.CF [] []) [a,c] fun d h=>ext d 0 fun e=>ext d 1 fun f=>ext d 2 fun d=>cnd d (bnd (biI .sub e f) fun a=>cal C.p h (.fn F.D3 [] []) [a] fun a h=>q (.tup [a,(I 0)]) h) (cai C.i h (.fn F.BF [] []) [a] 0 fun a h=>mB 1 [.int .u64 0] [(0,(.d (.int .u64 0)))] h fun d h=>apV false 1 1 8 a d h fun a h=>cai C.i h (.fn F.BF [] []) [c] 2 fun d h=>bnd (fL a) fun e=>bnd (biI .sub e (I 1)) fun e=>cai C.i h (.fn F.BF [] []) [c] 3 fun c h=>bnd (fL c) fun c=>bnd (biI .sub e c) fun c=>apZ false 4 1 8 [.int .u64 0] d c h fun c h=>cai C.i h (.fn F.BQ [] []) [a,c,(.d (.int .u64 1)),(I 0)] 5 fun c h=>cai C.i h (.fn F.AK [] []) [a] 6 fun a h=>cal C.p h (.fn F.AR [] []) [a] fun a h=>q (.tup [a,(I 0)]) h))
def IW:Ann:=(zp (nBQ (nRQ [.inl 0,.o,.slot 1]) (nBQ (nRQ [.inl 2,.inl 3,.slot 4,.inl 5]) (nCQ (nRQ [.inl 6])))))
attribute [local irreducible] bnd gd cal cnd ext mB mA stD alV alD oR jn lp exK mkS apV apZ cai oA in
theorem P7(C:CC)(t0:V)(t1:V)(q:kkQ):fnD Y C Tryz.f132 7 IW [t0,t1] q=DO C t0 t1 q:=adv
theorem P5:okB Tryz.prog Tryz.f132 IW=true:=dQ
theorem P6(h:DO (CX Y) t0 t1 (out v)):CP Y F.DO [t0,t1] v:=
 CP.of (fn:=Tryz.f132) (m:=7) (a:=IW) rfl (fun _=>rfl) Tryz.func132 P5 (by rw[P7];exact h)
def Ep(C:CC)(a c:V)(q:kQ):Prop:=let h:Hp:=.replicate 3 nnQ
 bnd (sy a) fun d=>bnd (sy c) fun e=>bIQ .add d e fun d=>cIQ .leq d (I 18) (clQ C h F.CF [a,c] fun a h=>e3Q a fun a c d=>bIQ .mul a c fun a=>clQ C h F.D3 [a] q) (ciQ C h F.BF [a] 0 fun a h=>ciQ C h F.BF [c] 1 fun c h=>ciQ C h F.Ba [a,c] 2 fun a h=>clQ C h F.AR [a] q)
theorem P8(h:Ep (CX Y) t0 t1 (out v)):CP Y F.Ep [t0,t1] v:=CPo 3 (zq (nCQ (nRQ [.inl 0,.inl 1,.inl 2]))) Tryz.func151 h
def BL(C:CC)(a c:V)(q:kQ):Prop:=let h:Hp:=[]
 clQ C h F.Be [a,I 18] fun d h=>e2Q d fun d e=>jn (fun d h=>clQ C h F.AU [a] fun a h=>e2Q a fun a d=>clQ C h F.AU [c] fun c h=>e2Q c fun c e=>bnd (biB .eql a c) fun f=>cnd f (clQ C h F.C9 [d,e] fun c h=>clQ C h F.BA [a,c] q) (clQ C h F.Bs [d,e] fun f h=>bIQ .lss f (I 0) fun f=>jn (fun a h=>clQ C h F.DO [ge a 1,ge a 2] fun c h=>e2Q c fun c d=>clQ C h F.BA [ge a 0,c] q) fun g=>cnd f (g [c,e,d] h) (g [a,d,e] h))) fun a=>cnd e (clQ C h F.Be [c,I 18] fun c h=>e2Q c fun c e=>cnd e (bIQ .add d c fun a=>clQ C h F.Cv [a] q) (a [] h)) (a [] h)
theorem Sj(h:BL (CX Y) t0 t1 (out v)):CP Y F.BL [t0,t1] v:=CPo 0 (mu (nBQ (zq (nJQ [] [0,1])) (zp (nCQ (mu (nJQ [9,10,12] [])))))) Tryz.func146 h
def A7(C:CC)(a c:V)(q:kQ):Prop:=let h:Hp:=[]
 clQ C h F.Be [a,I 9] fun d h=>e2Q d fun d e=>jn (fun d h=>clQ C h F.AU [a] fun a h=>e2Q a fun a d=>clQ C h F.AU [c] fun c h=>e2Q c fun c e=>bnd (biB .neq a c) fun a=>clQ C h F.Ep [d,e] fun c h=>clQ C h F.BA [a,c] q) fun a=>cnd e (clQ C h F.Be [c,I 9] fun c h=>e2Q c fun c e=>cnd e (bIQ .mul d c fun a=>clQ C h F.Cv [a] q) (a [] h)) (a [] h)
theorem Se(h:A7 (CX Y) t0 t1 (out v)):CP Y F.A7 [t0,t1] v:=CPo 0 (mu (nCQ (zq (nJQ [] [0,1])))) Tryz.func125 h
def JL(C:CC)(a:V)(q:kQ):Prop:=let h:Hp:=[]
 bIQ .geq a (.d (.int .u32 65536)) fun c=>jn (fun a h=>bIQ .geq (ge a 0) (.d (.int .u32 256)) fun c=>jn (fun a h=>bnd (cvI .u8 (ge a 0)) fun c=>bnd (ixS (.d (.str [0,1,2,2,3,3,3,3,4,4,4,4,4,4,4,4,5,5,5,5,5,5,5,5,5,5,5,5,5,5,5,5,6,6,6,6,6,6,6,6,6,6,6,6,6,6,6,6,6,6,6,6,6,6,6,6,6,6,6,6,6,6,6,6,7,7,7,7,7,7,7,7,7,7,7,7,7,7,7,7,7,7,7,7,7,7,7,7,7,7,7,7,7,7,7,7,7,7,7,7,7,7,7,7,7,7,7,7,7,7,7,7,7,7,7,7,7,7,7,7,7,7,7,7,7,7,7,7,8,8,8,8,8,8,8,8,8,8,8,8,8,8,8,8,8,8,8,8,8,8,8,8,8,8,8,8,8,8,8,8,8,8,8,8,8,8,8,8,8,8,8,8,8,8,8,8,8,8,8,8,8,8,8,8,8,8,8,8,8,8,8,8,8,8,8,8,8,8,8,8,8,8,8,8,8,8,8,8,8,8,8,8,8,8,8,8,8,8,8,8,8,8,8,8,8,8,8,8,8,8,8,8,8,8,8,8,8,8,8,8,8,8,8,8,8,8,8,8,8,8,8,8,8,8,8,8])) c) fun c=>bnd (cvI .i64 c) fun c=>bIQ .add (ge a 1) c fun a=>q a h) fun d=>cnd c (bIQ .shr (ge a 0) (.d (.int .u64 8)) fun c=>bIQ .add (ge a 1) (I 8) fun a=>d [c,a] h) (d [ge a 0,ge a 1] h)) fun d=>cnd c (bIQ .shr a (.d (.int .u64 16)) fun a=>d [a,I 16] h) (d [a,I 0] h)
def Eu(C:CC)(a:V)(q:kQ):Prop:=let h:Hp:=[]
 cnd (B false) (bnd (cvI .u32 a) fun a=>clQ C h F.JL [a] q) (clQ C h F.Cp [a] q)
theorem NO(h:Eu (CX Y) t0 (out v)):CP Y F.Eu [t0] v:=CPo 0 .o Tryz.func180 h
def DV(C:CC)(a:V):AP:=fun l h q=>bIQ .mul (ge l 0) (ge l 0) fun c=>cIQ .leq c a (bIQ .rem a (ge l 0) fun a=>cIQ .eql a (I 0) (q .ret [B false] h) (bIQ .add (ge l 0) (I 1) fun a=>q .normal [a] h)) (q (.exit 0) [] h)
def DJ(C:CC)(a:V)(q:kQ):Prop:=let h:Hp:=[]
 bIQ .lss a (I 2) fun c=>gqQ c false h a fun d h=>gbQ c false h (biI .gtr d (I 97)) fun d h=>bpQ c (B true) d fun c=>cnd c (q (B false) h) (lp (DV C a) [] h [I 2] h (exK [((.exit 0),fun a h=>q (B true) h),(.ret,fun a h=>q (ge a 0) h)]))
theorem NN(h:DJ (CX Y) t0 (out v)):CP Y F.DJ [t0] v:=CPo 0 (zq (nCQ (mu (nCQ (.n (.l [3] [0] [((.exit 0),[],[]),(.ret,[2],[])] []) .o .o))))) Tryz.func73 h
def GC(C:CC)(a c d:V):AP:=fun l h q=>cIQ .lss (ge l 0) d (bxQ h 1 c (ge l 0) fun c=>b1Q h c fun c=>clQ C h F.DJ [c] fun d h=>bnd (unV .not d) fun d=>cnd d (q .ret [I 25] h) (bIQ .gtr (ge l 0) (I 0) fun d=>gqQ d true h c fun c h=>gqQ d true h a fun a h=>gqQ d true h (ge l 0) fun e h=>gbQ d true h (biI .sub e (I 1)) fun e h=>gbQ d true h (ixV h 1 a e) fun a h=>gbQ d true h (ld1 h a) fun a h=>gbQ d true h (biI .leq c a) fun a h=>bpQ d a (B false) fun a=>cnd a (q .ret [I 6] h) (bIQ .add (ge l 0) (I 1) fun a=>q .normal [a] h))) (q (.exit 1) [] h)
def CM(C:CC)(a:V)(q:kQ):Prop:=let h:Hp:=[]
 blQ a fun c=>cIQ .eql c (I 0) (q (I 13) h) (blQ a fun c=>cIQ .gtr c (I 6) (q (I 4) h) (blQ a fun c=>lp (GC C a a c) [] h [I 0] h (exK [((.exit 1),fun a h=>q (I 0) h),(.ret,fun a h=>q (ge a 0) h)])))
theorem PS(h:CM (CX Y) t0 (out v)):CP Y F.CM [t0] v:=CPo 0 (zq (nCQ (mu (nCQ (.n (.l [15] [0,13,14] [((.exit 1),[],[]),(.ret,[2],[])] []) .o .o))))) Tryz.func49 h
def Ft(C:CC)(a:V)(q:kQ):Prop:=let h:Hp:=.replicate 1 nnQ
 oR 0 a h fun a h=>bfQ 0 a fun c=>b1Q h c fun c=>clQ C h F.Db [c] fun c h=>bnd (sy c) fun c=>bIQ .leq c (I 30) fun c=>gbQ c true h (faV 1 a) fun a h=>gbQ c true h (ld1 h a) fun a h=>gbQ c true h (sy a) fun a h=>gbQ c true h (biI .leq a (I 30)) fun a h=>bpQ c a (B false) fun a=>q a h
theorem Q7(h:Ft (CX Y) t0 (out v)):CP Y F.Ft [t0] v:=CPo 1 (nCQ (nRQ [.slot 0])) Tryz.func90 h
def He(C:CC)(a c:V):AP:=fun l h q=>cIQ .lss (ge l 0) c (bxQ h 2 a (ge l 0) fun a=>bnd (ldA h 2 a) fun a=>alV 0 [.d (.str []),.d (.str [])] h fun c h=>stD h 2 c a fun _ h=>bnd (ldA h 2 c) fun a=>clQ C h F.Cm [a] fun a h=>nzQ a (q .ret [I 2] h) (bnd (ldA h 2 c) fun a=>clQ C h F.Ft [a] fun a h=>bnd (unV .not a) fun a=>cnd a (q .ret [I 4] h) (bIQ .add (ge l 0) (I 1) fun a=>q .normal [a] h))) (q (.exit 0) [] h)
def EU(C:CC)(a c:V)(q:kQ):Prop:=let h:Hp:=.replicate 1 nnQ
 blQ c fun d=>blQ a fun a=>cIQ .neq d a (q (I 5) h) (blQ c fun a=>lp (He C c a) [0] h [I 0] h (exK [((.exit 0),fun a h=>q (I 0) h),(.ret,fun a h=>q (ge a 0) h)]))
theorem Q8(h:EU (CX Y) t0 t1 (out v)):CP Y F.EU [t0,t1] v:=CPo 1 (zq (nCQ (mu (nCQ (.n (.l [14] [12,13] [((.exit 0),[],[]),(.ret,[4],[])] [0]) (zq (nCQ (nCQ (nCQ (nRQ [.slot 0]))))) .o))))) Tryz.func68 h
def F9(C:CC)(a c:V)(q:kQ):Prop:=let h:Hp:=[]
 clQ C h F.CM [a] fun d h=>nzQ d (q d h) (clQ C h F.EU [a,c] q)
theorem Ra(h:F9 (CX Y) t0 t1 (out v)):CP Y F.F9 [t0,t1] v:=CPo 0 .o Tryz.func118 h
def B4(C:CC)(a c:V)(q:kQ):Prop:=let h:Hp:=.replicate 2 nnQ
 cIQ .eql c (I 10) (cIQ .lss a (.d (.int .u64 100)) (bnd (cvI .i64 a) fun a=>clQ C h F.Dq [a] q) (alD 0 1 (List.replicate 24 (.int .u8 0)) h fun c h=>clQ C h F.BO [a] fun d h=>bnd (slP 24 1 h c none (some d)) fun e=>ciQ C h F.Bj [e,a] 1 fun a h=>bnd (slP 24 1 h c none (some d)) fun a=>bnd (cvT h a) fun a=>q a h)) (clQ C h F.Hl [nSQ,a,c,B false,B false] fun a h=>e2Q a fun a c=>q c h)
theorem JB(h:B4 (CX Y) t0 t1 (out v)):CP Y F.B4 [t0,t1] v:=CPo 2 (mu (nCQ (mu (nCQ (mu (nBQ (nRQ [.slot 0]) (mu (nCQ (nRQ [.inl 1]))))))))) Tryz.func164 h
def CZ(C:CC)(a c:V)(q:kQ):Prop:=let h:Hp:=[]
 clQ C h F.B4 [a,c] q
theorem J6(h:CZ (CX Y) t0 t1 (out v)):CP Y F.CZ [t0,t1] v:=CPo 0 .o Tryz.func140 h
def D3(C:CC)(a:V)(q:kQ):Prop:=let h:Hp:=[]
 clQ C h F.CZ [a,I 10] q
theorem RO(h:D3 (CX Y) t0 (out v)):CP Y F.D3 [t0] v:=CPo 0 .o Tryz.func112 h
def DR(C:CC)(a:V)(q:kQ):Prop:=let h:Hp:=[]
 clQ C h F.Cw [a,I 10,I 64] fun a h=>e2Q a fun a c=>bnd (biF .neq c (.d (.pl .nilIface))) fun c=>cnd c (q (.tup [(.d (.int .u64 0)),B false]) h) (q (.tup [a,B true]) h)
theorem NT(h:DR (CX Y) t0 (out v)):CP Y F.DR [t0] v:=CPo 0 .o Tryz.func139 h
def CF(C:CC)(a c:V)(q:kQ):Prop:=let h:Hp:=[]
 bnd (sy a) fun d=>bIQ .gtr d (I 18) fun d=>gqQ d false h c fun e h=>gbQ d false h (sy e) fun e h=>gbQ d false h (biI .gtr e (I 18)) fun e h=>bpQ d (B true) e fun d=>cnd d (q (.tup [(.d (.int .u64 0)),(.d (.int .u64 0)),B false]) h) (clQ C h F.DR [a] fun a h=>e2Q a fun a d=>clQ C h F.DR [c] fun c h=>e2Q c fun c d=>q (.tup [a,c,B true]) h)
theorem Pq(h:CF (CX Y) t0 t1 (out v)):CP Y F.CF [t0,t1] v:=CPo 0 .o Tryz.func111 h
def Cn(C:CC)(a c:V)(q:kQ):Prop:=let h:Hp:=.replicate 2 nnQ
 bSQ .eql c (.d (.str [48])) fun d=>cnd d (q (.tup [(.d (.str [])),(.d (.str [])),I 17]) h) (clQ C h F.CF [a,c] fun d h=>e3Q d fun d e f=>cnd f (bIQ .quo d e fun a=>clQ C h F.D3 [a] fun a h=>bIQ .rem d e fun c=>clQ C h F.D3 [c] fun c h=>q (.tup [a,c,I 0]) h) (ciQ C h F.BF [a] 0 fun d h=>ciQ C h F.BF [c] 1 fun c h=>clQ C h F.Bu [d,c] fun e h=>cIQ .lss e (I 0) (q (.tup [(.d (.str [48])),a,I 0]) h) (blQ c fun a=>cIQ .eql a (I 1) (bxQ h 1 c (I 0) fun a=>b1Q h a fun a=>clQ C h F.BE [d,a] fun a h=>e2Q a fun a c=>clQ C h F.AR [a] fun a h=>clQ C h F.D3 [c] fun c h=>q (.tup [a,c,I 0]) h) (clQ C h F.BU [d,c] fun a h=>e2Q a fun a c=>clQ C h F.AR [a] fun a h=>clQ C h F.AR [c] fun c h=>q (.tup [a,c,I 0]) h))))
def G4:Ann:=(zp (nCQ (nRQ [.inl 0,.inl 1])))
attribute [local irreducible] bnd gd cal cnd ext mB mA stD alV alD oR jn lp exK mkS apV cai oA in
theorem Nf(C:CC)(t0:V)(t1:V)(q:kkQ):fnD Y C Tryz.f95 2 G4 [t0,t1] q=Cn C t0 t1 q:=SC
theorem Nb:okB Tryz.prog Tryz.f95 G4=true:=dQ
theorem Nc(h:Cn (CX Y) t0 t1 (out v)):CP Y F.Cn [t0,t1] v:=
 CP.of (fn:=Tryz.f95) (m:=2) (a:=G4) rfl (fun _=>rfl) Tryz.func95 Nb (by rw[Nf];exact h)
def GM(C:CC):AP:=fun l h q=>bSQ .neq (ge l 1) (.d (.str [48])) fun a=>cnd a (clQ C h F.Cn [ge l 0,ge l 1] fun a h=>e3Q a fun a c d=>nzQ d (q .ret [(.d (.str []))] h) (q .normal [ge l 1,c] h)) (q (.exit 0) [ge l 0] h)
def FA(C:CC)(a c:V)(q:kQ):Prop:=let h:Hp:=[]
 lp (GM C) [] h [a,c] h (exK [((.exit 0),fun a h=>q (ge a 0) h),(.ret,fun a h=>q (ge a 0) h)])
theorem Qa(h:FA (CX Y) t0 t1 (out v)):CP Y F.FA [t0,t1] v:=CPo 0 (mu (nCQ (nCQ (.n (.l [0,1] [] [((.exit 0),[0],[]),(.ret,[4],[])] []) .o .o)))) Tryz.func77 h
def strconv_Itoa(C:CC)(a:V)(q:kQ):Prop:=let h:Hp:=[]
 clQ C h F.EK [a] q
theorem OJ(h:strconv_Itoa (CX Y) t0 (out v)):CP Y F.strconv_Itoa [t0] v:=CPo 0 .o Tryz.func92 h
def EK(C:CC)(a:V)(q:kQ):Prop:=let h:Hp:=[]
 clQ C h F.BP [a,I 10] q
theorem M3(h:EK (CX Y) t0 (out v)):CP Y F.EK [t0] v:=CPo 0 .o Tryz.func108 h
def BP(C:CC)(a c:V)(q:kQ):Prop:=let h:Hp:=.replicate 2 nnQ
 cIQ .eql c (I 10) (bIQ .leq (I 0) a fun c=>gqQ c true h a fun d h=>gbQ c true h (biI .lss d (I 100)) fun d h=>bpQ c d (B false) fun c=>cnd c (clQ C h F.Dq [a] q) (alD 0 1 (List.replicate 24 (.int .u8 0)) h fun c h=>bnd (cvI .u64 a) fun d=>bIQ .lss a (I 0) fun e=>jn (fun d h=>clQ C h F.BO [ge d 0] fun e h=>bIQ .add (I 1) e fun f=>bnd (slP 24 1 h c (some (I 1)) (some f)) fun f=>ciQ C h F.Bj [f,ge d 0] 1 fun d h=>cIQ .lss a (I 0) (bnd (ixP 24 1 c (I 0)) fun a=>stD h 1 a (.d (.int .u8 45)) fun _ h=>bIQ .add (I 1) e fun a=>bnd (slP 24 1 h c none (some a)) fun a=>bnd (cvT h a) fun a=>q a h) (bIQ .add (I 1) e fun a=>bnd (slP 24 1 h c (some (I 1)) (some a)) fun a=>bnd (cvT h a) fun a=>q a h)) fun a=>cnd e (bnd (unV .neg d) fun c=>a [c] h) (a [d] h))) (bnd (cvI .u64 a) fun d=>bIQ .lss a (I 0) fun a=>clQ C h F.Hl [nSQ,d,c,a,B false] fun a h=>e2Q a fun a c=>q c h)
theorem JQ(h:BP (CX Y) t0 t1 (out v)):CP Y F.BP [t0,t1] v:=CPo 2 (mu (nCQ (mu (nCQ (mu (nBQ (nRQ [.slot 0]) (mu (nBQ (mu (nJQ [6] [0,5])) (mu (nCQ (nRQ [.inl 1]))))))))))) Tryz.func133 h
def Dq(C:CC)(a:V)(q:kQ):Prop:=let h:Hp:=[]
 cIQ .lss a (I 10) (bIQ .add a (I 1) fun c=>bnd (slS (.d (.str [48,49,50,51,52,53,54,55,56,57,97,98,99,100,101,102,103,104,105,106,107,108,109,110,111,112,113,114,115,116,117,118,119,120,121,122])) (some a) (some c)) fun a=>q a h) (bIQ .mul a (I 2) fun c=>bIQ .mul a (I 2) fun a=>bIQ .add a (I 2) fun a=>bnd (slS (.d (.str [48,48,48,49,48,50,48,51,48,52,48,53,48,54,48,55,48,56,48,57,49,48,49,49,49,50,49,51,49,52,49,53,49,54,49,55,49,56,49,57,50,48,50,49,50,50,50,51,50,52,50,53,50,54,50,55,50,56,50,57,51,48,51,49,51,50,51,51,51,52,51,53,51,54,51,55,51,56,51,57,52,48,52,49,52,50,52,51,52,52,52,53,52,54,52,55,52,56,52,57,53,48,53,49,53,50,53,51,53,52,53,53,53,54,53,55,53,56,53,57,54,48,54,49,54,50,54,51,54,52,54,53,54,54,54,55,54,56,54,57,55,48,55,49,55,50,55,51,55,52,55,53,55,54,55,55,55,56,55,57,56,48,56,49,56,50,56,51,56,52,56,53,56,54,56,55,56,56,56,57,57,48,57,49,57,50,57,51,57,52,57,53,57,54,57,55,57,56,57,57])) (some c) (some a)) fun a=>q a h)
theorem Mm(h:Dq (CX Y) t0 (out v)):CP Y F.Dq [t0] v:=CPo 0 .o Tryz.func156 h
def BO(C:CC)(a:V)(q:kQ):Prop:=let h:Hp:=[]
 clQ C h F.Cp [a] fun c h=>clQ C h F.CH [c] fun c h=>bnd (ixP 20 1 (gl FZ) c) fun d=>b1Q h d fun d=>bIQ .geq a d fun a=>clQ C h F.CJ [a] fun a h=>bIQ .add c a fun a=>q a h
theorem JN(h:BO (CX Y) t0 (out v)):CP Y F.BO [t0] v:=CPo 0 .o Tryz.func157 h
def Cc(C:CC)(b:Nat)(a:V):AP:=fun l h q=>cIQ .geq (ge l 1) (I 8) (bIQ .rem (ge l 0) (.d (.int .u64 100000000)) fun c=>bnd (cvI .u32 c) fun c=>bIQ .quo (ge l 0) (.d (.int .u64 100000000)) fun d=>bIQ .quo c (.d (.int .u32 10000)) fun e=>bIQ .rem c (.d (.int .u32 10000)) fun c=>bIQ .quo c (.d (.int .u32 100)) fun f=>bIQ .mul f (.d (.int .u32 2)) fun f=>bIQ .rem c (.d (.int .u32 100)) fun c=>bIQ .mul c (.d (.int .u32 2)) fun c=>bIQ .quo e (.d (.int .u32 100)) fun g=>bIQ .mul g (.d (.int .u32 2)) fun g=>bIQ .rem e (.d (.int .u32 100)) fun e=>bIQ .mul e (.d (.int .u32 2)) fun e=>bIQ .sub (ge l 1) (I 1) fun i=>bIQ .sub (ge l 1) (I 2) fun j=>bIQ .add c (.d (.int .u32 1)) fun k=>bnd (ixS (.d (.str [48,48,48,49,48,50,48,51,48,52,48,53,48,54,48,55,48,56,48,57,49,48,49,49,49,50,49,51,49,52,49,53,49,54,49,55,49,56,49,57,50,48,50,49,50,50,50,51,50,52,50,53,50,54,50,55,50,56,50,57,51,48,51,49,51,50,51,51,51,52,51,53,51,54,51,55,51,56,51,57,52,48,52,49,52,50,52,51,52,52,52,53,52,54,52,55,52,56,52,57,53,48,53,49,53,50,53,51,53,52,53,53,53,54,53,55,53,56,53,57,54,48,54,49,54,50,54,51,54,52,54,53,54,54,54,55,54,56,54,57,55,48,55,49,55,50,55,51,55,52,55,53,55,54,55,55,55,56,55,57,56,48,56,49,56,50,56,51,56,52,56,53,56,54,56,55,56,56,56,57,57,48,57,49,57,50,57,51,57,52,57,53,57,54,57,55,57,56,57,57])) k) fun k=>bnd (ixS (.d (.str [48,48,48,49,48,50,48,51,48,52,48,53,48,54,48,55,48,56,48,57,49,48,49,49,49,50,49,51,49,52,49,53,49,54,49,55,49,56,49,57,50,48,50,49,50,50,50,51,50,52,50,53,50,54,50,55,50,56,50,57,51,48,51,49,51,50,51,51,51,52,51,53,51,54,51,55,51,56,51,57,52,48,52,49,52,50,52,51,52,52,52,53,52,54,52,55,52,56,52,57,53,48,53,49,53,50,53,51,53,52,53,53,53,54,53,55,53,56,53,57,54,48,54,49,54,50,54,51,54,52,54,53,54,54,54,55,54,56,54,57,55,48,55,49,55,50,55,51,55,52,55,53,55,54,55,55,55,56,55,57,56,48,56,49,56,50,56,51,56,52,56,53,56,54,56,55,56,56,56,57,57,48,57,49,57,50,57,51,57,52,57,53,57,54,57,55,57,56,57,57])) c) fun c=>bxQ h 1 a i fun i=>stD h 1 i k fun _ h=>bxQ h 1 a j fun i=>stD h 1 i c fun _ h=>bIQ .sub (ge l 1) (I 3) fun c=>bIQ .sub (ge l 1) (I 4) fun i=>bIQ .add f (.d (.int .u32 1)) fun j=>bnd (ixS (.d (.str [48,48,48,49,48,50,48,51,48,52,48,53,48,54,48,55,48,56,48,57,49,48,49,49,49,50,49,51,49,52,49,53,49,54,49,55,49,56,49,57,50,48,50,49,50,50,50,51,50,52,50,53,50,54,50,55,50,56,50,57,51,48,51,49,51,50,51,51,51,52,51,53,51,54,51,55,51,56,51,57,52,48,52,49,52,50,52,51,52,52,52,53,52,54,52,55,52,56,52,57,53,48,53,49,53,50,53,51,53,52,53,53,53,54,53,55,53,56,53,57,54,48,54,49,54,50,54,51,54,52,54,53,54,54,54,55,54,56,54,57,55,48,55,49,55,50,55,51,55,52,55,53,55,54,55,55,55,56,55,57,56,48,56,49,56,50,56,51,56,52,56,53,56,54,56,55,56,56,56,57,57,48,57,49,57,50,57,51,57,52,57,53,57,54,57,55,57,56,57,57])) j) fun j=>bnd (ixS (.d (.str [48,48,48,49,48,50,48,51,48,52,48,53,48,54,48,55,48,56,48,57,49,48,49,49,49,50,49,51,49,52,49,53,49,54,49,55,49,56,49,57,50,48,50,49,50,50,50,51,50,52,50,53,50,54,50,55,50,56,50,57,51,48,51,49,51,50,51,51,51,52,51,53,51,54,51,55,51,56,51,57,52,48,52,49,52,50,52,51,52,52,52,53,52,54,52,55,52,56,52,57,53,48,53,49,53,50,53,51,53,52,53,53,53,54,53,55,53,56,53,57,54,48,54,49,54,50,54,51,54,52,54,53,54,54,54,55,54,56,54,57,55,48,55,49,55,50,55,51,55,52,55,53,55,54,55,55,55,56,55,57,56,48,56,49,56,50,56,51,56,52,56,53,56,54,56,55,56,56,56,57,57,48,57,49,57,50,57,51,57,52,57,53,57,54,57,55,57,56,57,57])) f) fun f=>bxQ h 1 a c fun c=>stD h 1 c j fun _ h=>bxQ h 1 a i fun c=>stD h 1 c f fun _ h=>bIQ .sub (ge l 1) (I 5) fun c=>bIQ .sub (ge l 1) (I 6) fun f=>bIQ .add e (.d (.int .u32 1)) fun i=>bnd (ixS (.d (.str [48,48,48,49,48,50,48,51,48,52,48,53,48,54,48,55,48,56,48,57,49,48,49,49,49,50,49,51,49,52,49,53,49,54,49,55,49,56,49,57,50,48,50,49,50,50,50,51,50,52,50,53,50,54,50,55,50,56,50,57,51,48,51,49,51,50,51,51,51,52,51,53,51,54,51,55,51,56,51,57,52,48,52,49,52,50,52,51,52,52,52,53,52,54,52,55,52,56,52,57,53,48,53,49,53,50,53,51,53,52,53,53,53,54,53,55,53,56,53,57,54,48,54,49,54,50,54,51,54,52,54,53,54,54,54,55,54,56,54,57,55,48,55,49,55,50,55,51,55,52,55,53,55,54,55,55,55,56,55,57,56,48,56,49,56,50,56,51,56,52,56,53,56,54,56,55,56,56,56,57,57,48,57,49,57,50,57,51,57,52,57,53,57,54,57,55,57,56,57,57])) i) fun i=>bnd (ixS (.d (.str [48,48,48,49,48,50,48,51,48,52,48,53,48,54,48,55,48,56,48,57,49,48,49,49,49,50,49,51,49,52,49,53,49,54,49,55,49,56,49,57,50,48,50,49,50,50,50,51,50,52,50,53,50,54,50,55,50,56,50,57,51,48,51,49,51,50,51,51,51,52,51,53,51,54,51,55,51,56,51,57,52,48,52,49,52,50,52,51,52,52,52,53,52,54,52,55,52,56,52,57,53,48,53,49,53,50,53,51,53,52,53,53,53,54,53,55,53,56,53,57,54,48,54,49,54,50,54,51,54,52,54,53,54,54,54,55,54,56,54,57,55,48,55,49,55,50,55,51,55,52,55,53,55,54,55,55,55,56,55,57,56,48,56,49,56,50,56,51,56,52,56,53,56,54,56,55,56,56,56,57,57,48,57,49,57,50,57,51,57,52,57,53,57,54,57,55,57,56,57,57])) e) fun e=>bxQ h 1 a c fun c=>stD h 1 c i fun _ h=>bxQ h 1 a f fun c=>stD h 1 c e fun _ h=>bIQ .sub (ge l 1) (I 7) fun c=>bIQ .sub (ge l 1) (I 8) fun e=>bIQ .add g (.d (.int .u32 1)) fun f=>bnd (ixS (.d (.str [48,48,48,49,48,50,48,51,48,52,48,53,48,54,48,55,48,56,48,57,49,48,49,49,49,50,49,51,49,52,49,53,49,54,49,55,49,56,49,57,50,48,50,49,50,50,50,51,50,52,50,53,50,54,50,55,50,56,50,57,51,48,51,49,51,50,51,51,51,52,51,53,51,54,51,55,51,56,51,57,52,48,52,49,52,50,52,51,52,52,52,53,52,54,52,55,52,56,52,57,53,48,53,49,53,50,53,51,53,52,53,53,53,54,53,55,53,56,53,57,54,48,54,49,54,50,54,51,54,52,54,53,54,54,54,55,54,56,54,57,55,48,55,49,55,50,55,51,55,52,55,53,55,54,55,55,55,56,55,57,56,48,56,49,56,50,56,51,56,52,56,53,56,54,56,55,56,56,56,57,57,48,57,49,57,50,57,51,57,52,57,53,57,54,57,55,57,56,57,57])) f) fun f=>bnd (ixS (.d (.str [48,48,48,49,48,50,48,51,48,52,48,53,48,54,48,55,48,56,48,57,49,48,49,49,49,50,49,51,49,52,49,53,49,54,49,55,49,56,49,57,50,48,50,49,50,50,50,51,50,52,50,53,50,54,50,55,50,56,50,57,51,48,51,49,51,50,51,51,51,52,51,53,51,54,51,55,51,56,51,57,52,48,52,49,52,50,52,51,52,52,52,53,52,54,52,55,52,56,52,57,53,48,53,49,53,50,53,51,53,52,53,53,53,54,53,55,53,56,53,57,54,48,54,49,54,50,54,51,54,52,54,53,54,54,54,55,54,56,54,57,55,48,55,49,55,50,55,51,55,52,55,53,55,54,55,55,55,56,55,57,56,48,56,49,56,50,56,51,56,52,56,53,56,54,56,55,56,56,56,57,57,48,57,49,57,50,57,51,57,52,57,53,57,54,57,55,57,56,57,57])) g) fun g=>bxQ h 1 a c fun c=>stD h 1 c f fun _ h=>bxQ h 1 a e fun a=>stD h 1 a g fun _ h=>bIQ .sub (ge l 1) (I 8) fun a=>q .normal [d,a] h) (q (.exit 0) [ge l 0,ge l 1] h)
def Bj(C:CC)(b:Nat)(h:Hp)(a c:V)(q:kQ):Prop:=let h:Hp:=h++List.replicate 0 nnQ
 blQ a fun d=>lp (Cc C b a) [] h [c,d] h (exK [((.exit 0),fun c h=>bnd (cvI .u32 (ge c 0)) fun d=>bIQ .geq (ge c 1) (I 4) fun e=>jn (fun c h=>bIQ .geq (ge c 1) (I 2) fun d=>jn (fun c h=>bIQ .gtr (ge c 1) (I 0) fun d=>jn (fun a h=>q (.tup []) h) fun e=>cnd d (bIQ .add (.d (.int .u32 48)) (ge c 0) fun c=>bnd (cvI .u8 c) fun c=>bxQ h 1 a (I 0) fun a=>stD h 1 a c fun _ h=>e [] h) (e [] h)) fun e=>cnd d (bIQ .rem (ge c 0) (.d (.int .u32 100)) fun d=>bIQ .mul d (.d (.int .u32 2)) fun d=>bIQ .quo (ge c 0) (.d (.int .u32 100)) fun f=>bIQ .sub (ge c 1) (I 1) fun g=>bIQ .sub (ge c 1) (I 2) fun i=>bIQ .add d (.d (.int .u32 1)) fun j=>bnd (ixS (.d (.str [48,48,48,49,48,50,48,51,48,52,48,53,48,54,48,55,48,56,48,57,49,48,49,49,49,50,49,51,49,52,49,53,49,54,49,55,49,56,49,57,50,48,50,49,50,50,50,51,50,52,50,53,50,54,50,55,50,56,50,57,51,48,51,49,51,50,51,51,51,52,51,53,51,54,51,55,51,56,51,57,52,48,52,49,52,50,52,51,52,52,52,53,52,54,52,55,52,56,52,57,53,48,53,49,53,50,53,51,53,52,53,53,53,54,53,55,53,56,53,57,54,48,54,49,54,50,54,51,54,52,54,53,54,54,54,55,54,56,54,57,55,48,55,49,55,50,55,51,55,52,55,53,55,54,55,55,55,56,55,57,56,48,56,49,56,50,56,51,56,52,56,53,56,54,56,55,56,56,56,57,57,48,57,49,57,50,57,51,57,52,57,53,57,54,57,55,57,56,57,57])) j) fun j=>bnd (ixS (.d (.str [48,48,48,49,48,50,48,51,48,52,48,53,48,54,48,55,48,56,48,57,49,48,49,49,49,50,49,51,49,52,49,53,49,54,49,55,49,56,49,57,50,48,50,49,50,50,50,51,50,52,50,53,50,54,50,55,50,56,50,57,51,48,51,49,51,50,51,51,51,52,51,53,51,54,51,55,51,56,51,57,52,48,52,49,52,50,52,51,52,52,52,53,52,54,52,55,52,56,52,57,53,48,53,49,53,50,53,51,53,52,53,53,53,54,53,55,53,56,53,57,54,48,54,49,54,50,54,51,54,52,54,53,54,54,54,55,54,56,54,57,55,48,55,49,55,50,55,51,55,52,55,53,55,54,55,55,55,56,55,57,56,48,56,49,56,50,56,51,56,52,56,53,56,54,56,55,56,56,56,57,57,48,57,49,57,50,57,51,57,52,57,53,57,54,57,55,57,56,57,57])) d) fun d=>bxQ h 1 a g fun g=>stD h 1 g j fun _ h=>bxQ h 1 a i fun a=>stD h 1 a d fun _ h=>bIQ .sub (ge c 1) (I 2) fun a=>e [f,a] h) (e [ge c 0,ge c 1] h)) fun f=>cnd e (bIQ .rem d (.d (.int .u32 10000)) fun e=>bIQ .quo d (.d (.int .u32 10000)) fun d=>bIQ .quo e (.d (.int .u32 100)) fun g=>bIQ .mul g (.d (.int .u32 2)) fun g=>bIQ .rem e (.d (.int .u32 100)) fun e=>bIQ .mul e (.d (.int .u32 2)) fun e=>bIQ .sub (ge c 1) (I 1) fun i=>bIQ .sub (ge c 1) (I 2) fun j=>bIQ .add e (.d (.int .u32 1)) fun k=>bnd (ixS (.d (.str [48,48,48,49,48,50,48,51,48,52,48,53,48,54,48,55,48,56,48,57,49,48,49,49,49,50,49,51,49,52,49,53,49,54,49,55,49,56,49,57,50,48,50,49,50,50,50,51,50,52,50,53,50,54,50,55,50,56,50,57,51,48,51,49,51,50,51,51,51,52,51,53,51,54,51,55,51,56,51,57,52,48,52,49,52,50,52,51,52,52,52,53,52,54,52,55,52,56,52,57,53,48,53,49,53,50,53,51,53,52,53,53,53,54,53,55,53,56,53,57,54,48,54,49,54,50,54,51,54,52,54,53,54,54,54,55,54,56,54,57,55,48,55,49,55,50,55,51,55,52,55,53,55,54,55,55,55,56,55,57,56,48,56,49,56,50,56,51,56,52,56,53,56,54,56,55,56,56,56,57,57,48,57,49,57,50,57,51,57,52,57,53,57,54,57,55,57,56,57,57])) k) fun k=>bnd (ixS (.d (.str [48,48,48,49,48,50,48,51,48,52,48,53,48,54,48,55,48,56,48,57,49,48,49,49,49,50,49,51,49,52,49,53,49,54,49,55,49,56,49,57,50,48,50,49,50,50,50,51,50,52,50,53,50,54,50,55,50,56,50,57,51,48,51,49,51,50,51,51,51,52,51,53,51,54,51,55,51,56,51,57,52,48,52,49,52,50,52,51,52,52,52,53,52,54,52,55,52,56,52,57,53,48,53,49,53,50,53,51,53,52,53,53,53,54,53,55,53,56,53,57,54,48,54,49,54,50,54,51,54,52,54,53,54,54,54,55,54,56,54,57,55,48,55,49,55,50,55,51,55,52,55,53,55,54,55,55,55,56,55,57,56,48,56,49,56,50,56,51,56,52,56,53,56,54,56,55,56,56,56,57,57,48,57,49,57,50,57,51,57,52,57,53,57,54,57,55,57,56,57,57])) e) fun e=>bxQ h 1 a i fun i=>stD h 1 i k fun _ h=>bxQ h 1 a j fun i=>stD h 1 i e fun _ h=>bIQ .sub (ge c 1) (I 3) fun e=>bIQ .sub (ge c 1) (I 4) fun i=>bIQ .add g (.d (.int .u32 1)) fun j=>bnd (ixS (.d (.str [48,48,48,49,48,50,48,51,48,52,48,53,48,54,48,55,48,56,48,57,49,48,49,49,49,50,49,51,49,52,49,53,49,54,49,55,49,56,49,57,50,48,50,49,50,50,50,51,50,52,50,53,50,54,50,55,50,56,50,57,51,48,51,49,51,50,51,51,51,52,51,53,51,54,51,55,51,56,51,57,52,48,52,49,52,50,52,51,52,52,52,53,52,54,52,55,52,56,52,57,53,48,53,49,53,50,53,51,53,52,53,53,53,54,53,55,53,56,53,57,54,48,54,49,54,50,54,51,54,52,54,53,54,54,54,55,54,56,54,57,55,48,55,49,55,50,55,51,55,52,55,53,55,54,55,55,55,56,55,57,56,48,56,49,56,50,56,51,56,52,56,53,56,54,56,55,56,56,56,57,57,48,57,49,57,50,57,51,57,52,57,53,57,54,57,55,57,56,57,57])) j) fun j=>bnd (ixS (.d (.str [48,48,48,49,48,50,48,51,48,52,48,53,48,54,48,55,48,56,48,57,49,48,49,49,49,50,49,51,49,52,49,53,49,54,49,55,49,56,49,57,50,48,50,49,50,50,50,51,50,52,50,53,50,54,50,55,50,56,50,57,51,48,51,49,51,50,51,51,51,52,51,53,51,54,51,55,51,56,51,57,52,48,52,49,52,50,52,51,52,52,52,53,52,54,52,55,52,56,52,57,53,48,53,49,53,50,53,51,53,52,53,53,53,54,53,55,53,56,53,57,54,48,54,49,54,50,54,51,54,52,54,53,54,54,54,55,54,56,54,57,55,48,55,49,55,50,55,51,55,52,55,53,55,54,55,55,55,56,55,57,56,48,56,49,56,50,56,51,56,52,56,53,56,54,56,55,56,56,56,57,57,48,57,49,57,50,57,51,57,52,57,53,57,54,57,55,57,56,57,57])) g) fun g=>bxQ h 1 a e fun e=>stD h 1 e j fun _ h=>bxQ h 1 a i fun a=>stD h 1 a g fun _ h=>bIQ .sub (ge c 1) (I 4) fun a=>f [d,a] h) (f [d,ge c 1] h))])
def Ew(b:Nat):Ann:=(.n .x .o (.n .x (.n .x (.n (.l [1,4] [0] [((.exit 0),[1,4],[0])] []) .o .o) .o) (.n .x .o (.n .x (.n .x .o (.n (.j [12,4] [0]) .o .o)) (.n .x (.n .x .o (.n (.j [12,4] [0]) .o .o)) (.n .x .o (.n (.j [] []) .o .o)))))))
theorem IT(C:CC)(h:Hp)(t0:V)(t1:V)(q:kkQ):fnI Y C Tryz.f158 0 Ew [t0,t1] h q=Bj C h.length h t0 t1 q:=by rfl
theorem IR(b:Nat):okB Tryz.prog Tryz.f158 (Ew b)=true:=by rfl
theorem IS(hh:Bj (CX Y) h.length h t0 t1 (pY h.length v h2)):CI Y F.Bj [t0,t1] h v h2:=
 CI.of (fn:=Tryz.f158) (m:=0) (a:=Ew) rfl (fun _=>rfl) Tryz.func158 (IR _) (by rw[IT];exact hh)
def CH(C:CC)(a:V)(q:kQ):Prop:=let h:Hp:=[]
 bIQ .mul a (I 78913) fun a=>bIQ .shr a (.d (.int .u64 18)) fun a=>q a h
theorem JO(h:CH (CX Y) t0 (out v)):CP Y F.CH [t0] v:=CPo 0 .o Tryz.func172 h
def CJ(C:CC)(a:V)(q:kQ):Prop:=let h:Hp:=[]
 cnd a (q (I 1) h) (q (I 0) h)
theorem JP(h:CJ (CX Y) t0 (out v)):CP Y F.CJ [t0] v:=CPo 0 .o Tryz.func174 h
def Cp(C:CC)(a:V)(q:kQ):Prop:=let h:Hp:=[]
 bIQ .geq a (.d (.int .u64 4294967296)) fun c=>jn (fun a h=>bIQ .geq (ge a 0) (.d (.int .u64 65536)) fun c=>jn (fun a h=>bIQ .geq (ge a 0) (.d (.int .u64 256)) fun c=>jn (fun a h=>bnd (cvI .u8 (ge a 0)) fun c=>bnd (ixS (.d (.str [0,1,2,2,3,3,3,3,4,4,4,4,4,4,4,4,5,5,5,5,5,5,5,5,5,5,5,5,5,5,5,5,6,6,6,6,6,6,6,6,6,6,6,6,6,6,6,6,6,6,6,6,6,6,6,6,6,6,6,6,6,6,6,6,7,7,7,7,7,7,7,7,7,7,7,7,7,7,7,7,7,7,7,7,7,7,7,7,7,7,7,7,7,7,7,7,7,7,7,7,7,7,7,7,7,7,7,7,7,7,7,7,7,7,7,7,7,7,7,7,7,7,7,7,7,7,7,7,8,8,8,8,8,8,8,8,8,8,8,8,8,8,8,8,8,8,8,8,8,8,8,8,8,8,8,8,8,8,8,8,8,8,8,8,8,8,8,8,8,8,8,8,8,8,8,8,8,8,8,8,8,8,8,8,8,8,8,8,8,8,8,8,8,8,8,8,8,8,8,8,8,8,8,8,8,8,8,8,8,8,8,8,8,8,8,8,8,8,8,8,8,8,8,8,8,8,8,8,8,8,8,8,8,8,8,8,8,8,8,8,8,8,8,8,8,8,8,8,8,8,8,8,8,8,8,8])) c) fun c=>bnd (cvI .i64 c) fun c=>bIQ .add (ge a 1) c fun a=>q a h) fun d=>cnd c (bIQ .shr (ge a 0) (.d (.int .u64 8)) fun c=>bIQ .add (ge a 1) (I 8) fun a=>d [c,a] h) (d [ge a 0,ge a 1] h)) fun d=>cnd c (bIQ .shr (ge a 0) (.d (.int .u64 16)) fun c=>bIQ .add (ge a 1) (I 16) fun a=>d [c,a] h) (d [ge a 0,ge a 1] h)) fun d=>cnd c (bIQ .shr a (.d (.int .u64 32)) fun a=>d [a,I 32] h) (d [a,I 0] h)
theorem Mh(h:Cp (CX Y) t0 (out v)):CP Y F.Cp [t0] v:=CPo 0 (mu (nBQ (mu (nJQ [0,2] [])) (nBQ (mu (nJQ [0,2] [])) (nCQ (mu (nJQ [0,2] [])))))) Tryz.func173 h
def CN(C:CC)(a c:V)(q:kkQ):Prop:=let h:Hp:=List.replicate 0 nnQ
 bnd (biI .and a (.d (.int .u64 4294967295))) fun d=>bnd (biI .shr a (.d (.int .u64 32))) fun e=>bnd (biI .and c (.d (.int .u64 4294967295))) fun f=>bnd (biI .shr c (.d (.int .u64 32))) fun g=>bnd (biI .mul d f) fun i=>bnd (biI .mul e f) fun f=>bnd (biI .shr i (.d (.int .u64 32))) fun i=>bnd (biI .add f i) fun f=>bnd (biI .and f (.d (.int .u64 4294967295))) fun i=>bnd (biI .shr f (.d (.int .u64 32))) fun f=>bnd (biI .mul d g) fun d=>bnd (biI .add i d) fun d=>bnd (biI .mul e g) fun e=>bnd (biI .add e f) fun e=>bnd (biI .shr d (.d (.int .u64 32))) fun d=>bnd (biI .add e d) fun d=>bnd (biI .mul a c) fun a=>q (.tup [d,a]) h
theorem Mg(h:CN (CX Y) t0 t1 (out v)):CP Y F.CN [t0,t1] v:=CPo 0 .o Tryz.func181 h
def strconv_Atoi(C:CC)(a:V)(q:kQ):Prop:=let h:Hp:=[]
 clQ C h F.C7 [a] fun c h=>e2Q c fun c d=>bnd (biF .neq d (.d (.pl .nilIface))) fun e=>cnd e (clQ C h F.NK [(.d (.str [65,116,111,105])),a,I 0,I 0,d] fun a h=>q (.tup [c,a]) h) (q (.tup [c,(.d (.pl .nilIface))]) h)
theorem J7(h:strconv_Atoi (CX Y) t0 (out v)):CP Y F.strconv_Atoi [t0] v:=CPo 0 .o Tryz.func94 h
def Fl(C:CC)(a c:V):AP:=fun l h q=>cIQ .lss (ge l 1) c (bxQ h 1 a (ge l 1) fun a=>b1Q h a fun a=>bIQ .sub a (.d (.int .u8 48)) fun a=>cIQ .gtr a (.d (.int .u8 9)) (False /- makeInterface -/) (bIQ .mul (ge l 0) (I 10) fun c=>bnd (cvI .i64 a) fun a=>bIQ .add c a fun a=>bIQ .add (ge l 1) (I 1) fun c=>q .normal [a,c] h)) (q (.exit 0) [ge l 0] h)
def C7(C:CC)(a:V)(q:kQ):Prop:=let h:Hp:=[]
 bnd (sy a) fun c=>gd (B false) true h (fun q=>q c h) fun d h=>gd (B false) true h (fun q=>bIQ .lss (I 0) d fun v=>q v h) fun d h=>gd (B false) true h (fun q=>q d h) fun d h=>gqQ d true h c fun e h=>gbQ d true h (biI .lss e (I 10)) fun e h=>gd (B false) true h (fun q=>bpQ d e (B false) fun v=>q v h) fun d h=>bpQ (B false) d (B false) fun d=>gqQ d false h (B true) fun e h=>gqQ e true h c fun f h=>gbQ e true h (biI .lss (I 0) f) fun f h=>gqQ e true h f fun f h=>gqQ f true h c fun c h=>gbQ f true h (biI .lss c (I 19)) fun c h=>gbQ e true h (Hk f c (B false)) fun c h=>gbQ d false h (Hk e c (B false)) fun c h=>bpQ d (B true) c fun c=>cnd c (bnd (ixS a (I 0)) fun c=>bIQ .eql c (.d (.int .u8 45)) fun c=>gqQ c false h a fun d h=>gbQ c false h (ixS d (I 0)) fun d h=>gbQ c false h (biI .eql d (.d (.int .u8 43))) fun d h=>bpQ c (B true) d fun c=>jn (fun c h=>cvB (ge c 0) h fun c h=>blQ c fun d=>lp (Fl C c d) [] h [I 0,I 0] h (exK [((.exit 0),fun c h=>bnd (ixS a (I 0)) fun a=>bIQ .eql a (.d (.int .u8 45)) fun a=>jn (fun a h=>q (.tup [ge a 0,(.d (.pl .nilIface))]) h) fun d=>cnd a (bnd (unV .neg (ge c 0)) fun a=>d [a] h) (d [ge c 0] h)),(.ret,fun a h=>q (.tup [ge a 0,ge a 1]) h)])) fun d=>cnd c (bnd (slS a (some (I 1)) none) fun a=>bnd (sy a) fun c=>cIQ .lss c (I 1) (False /- makeInterface -/) (d [a] h)) (d [a] h)) (clQ C h F.Lw [a,I 10,I 0] fun a h=>e2Q a fun a c=>q (.tup [a,c]) h)
theorem Jf(h:C7 (CX Y) t0 (out v)):CP Y F.C7 [t0] v:=CPo 0 (zq (nCQ (mu (nCQ (mu (nBQ (mu (nJQ [0] [5])) (mu (nBQ (mu (nCQ (.n (.l [6,49] [5,47,48] [((.exit 0),[6],[5]),(.ret,[2,3],[])] []) .o .o))) (nCQ (mu (nJQ [6] []))))))))))) Tryz.func109 h
def Cs(C:CC)(a c:V):AP:=fun l h q=>cIQ .lss (ge l 0) c (bxQ h 1 a (ge l 0) fun a=>b1Q h a fun a=>bIQ .lss a (.d (.int .u8 48)) fun c=>gqQ c false h a fun a h=>gbQ c false h (biI .gtr a (.d (.int .u8 57))) fun a h=>bpQ c (B true) a fun a=>cnd a (q .ret [B false] h) (bIQ .add (ge l 0) (I 1) fun a=>q .normal [a] h)) (q (.exit 0) [] h)
def Dl(C:CC)(a:V)(q:kQ):Prop:=let h:Hp:=[]
 cvB a h fun c h=>blQ c fun d=>lp (Cs C c d) [] h [I 0] h (exK [((.exit 0),fun c h=>bnd (sy a) fun c=>bIQ .eql c (I 1) fun c=>gqQ c false h a fun d h=>gbQ c false h (sy d) fun d h=>gbQ c false h (biI .gtr d (I 1)) fun d h=>gqQ c false h d fun d h=>gqQ d true h a fun a h=>gbQ d true h (ixS a (I 0)) fun a h=>gbQ d true h (biI .neq a (.d (.int .u8 48))) fun a h=>gbQ c false h (Hk d a (B false)) fun a h=>bpQ c (B true) a fun a=>q a h),(.ret,fun a h=>q (ge a 0) h)])
theorem Ld(h:Dl (CX Y) t0 (out v)):CP Y F.Dl [t0] v:=CPo 0 (mu (nCQ (mu (nCQ (.n (.l [8] [0,6,7] [((.exit 0),[],[0]),(.ret,[2],[])] []) .o .o))))) Tryz.func93 h
def Ey(C:CC)(a:V)(q:kQ):Prop:=let h:Hp:=[]
 clQ C h F.Dl [a] fun c h=>bnd (unV .not c) fun c=>gqQ c false h a fun a h=>gbQ c false h (sy a) fun a h=>gbQ c false h (biI .gtr a (I 400)) fun a h=>bpQ c (B true) a fun a=>cnd a (q (I 2) h) (q (I 0) h)
theorem NY(h:Ey (CX Y) t0 (out v)):CP Y F.Ey [t0] v:=CPo 0 .o Tryz.func74 h
def Bl(C:CC)(b:Nat):AP:=fun l h q=>blQ (ge l 0) fun a=>bIQ .gtr a (I 0) fun a=>gqQ a true h (ge l 0) fun c h=>gqQ a true h (ge l 0) fun d h=>gbQ a true h (fL d) fun d h=>gbQ a true h (biI .sub d (I 1)) fun d h=>gbQ a true h (ixV h 1 c d) fun c h=>gbQ a true h (ld1 h c) fun c h=>gbQ a true h (biI .eql c (.d (.int .u64 0))) fun c h=>bpQ a c (B false) fun a=>cnd a (blQ (ge l 0) fun a=>bIQ .sub a (I 1) fun a=>bnd (slV h 1 (ge l 0) none (some a)) fun a=>q .normal [a] h) (q (.exit 0) [ge l 0] h)
def AK(C:CC)(b:Nat)(h:Hp)(a:V)(q:kQ):Prop:=let h:Hp:=h++List.replicate 0 nnQ
 lp (Bl C b) [] h [a] h (exK [((.exit 0),fun a h=>q (ge a 0) h)])
def Fe(b:Nat):Ann:=(.n .x .o (.n .x (.n .x (.n (.l [0] [] [((.exit 0),[0],[])] []) .o .o) .o) .o))
theorem JS(C:CC)(h:Hp)(t0:V)(q:kkQ):fnI Y C Tryz.f141 0 Fe [t0] h q=AK C h.length h t0 q:=by rfl
theorem JR(b:Nat):okB Tryz.prog Tryz.f141 (Fe b)=true:=by rfl
theorem GU(hh:AK (CX Y) h.length h t0 (pY h.length v h2)):CI Y F.AK [t0] h v h2:=
 CI.of (fn:=Tryz.f141) (m:=0) (a:=Fe) rfl (fun _=>rfl) Tryz.func141 (JR _) (by rw[JS];exact hh)
def GK(C:CC)(b:Nat)(a c:V):AP:=fun l h q=>cIQ .lss (ge l 1) c (bxQ h 1 a (ge l 1) fun a=>b1Q h a fun a=>bIQ .mul (.d (.int .u64 10)) (ge l 0) fun c=>bIQ .sub a (.d (.int .u8 48)) fun a=>bnd (cvI .u64 a) fun a=>bIQ .add c a fun a=>bIQ .add (ge l 1) (I 1) fun c=>q .normal [a,c] h) (q (.exit 2) [ge l 0] h)
def GL(C:CC)(b:Nat)(a:V):AP:=fun l h q=>cIQ .gtr (ge l 1) (I 0) (bIQ .sub (ge l 1) (I 9) fun c=>bnd (mxI true [I 0,c]) fun c=>bnd (slS a (some c) (some (ge l 1))) fun a=>cvB a h fun a h=>blQ a fun c=>lp (GK C b a c) [] h [(.d (.int .u64 0)),I 0] h (exK [((.exit 2),fun a h=>mB 1 [.int .u64 0] [(0,(ge a 0))] h fun a h=>apV false (b+1) 1 8 (ge l 0) a h fun a h=>bIQ .sub (ge l 1) (I 9) fun c=>q .normal [a,c] h)])) (q (.exit 0) [ge l 0] h)
def BF(C:CC)(b:Nat)(h:Hp)(a:V)(q:kQ):Prop:=let h:Hp:=h++List.replicate 3 nnQ
 bnd (sy a) fun c=>bIQ .quo c (I 9) fun c=>bIQ .add c (I 1) fun c=>mkS (b+0) 8 [.int .u64 0] h (I 0) c fun c h=>bnd (sy a) fun d=>lp (GL C b a) [] h [c,d] h (exK [((.exit 0),fun a h=>ciQ C h F.AK [ge a 0] (b+2) q)])
def IV(b:Nat):Ann:=(.n .x .o (.n .x (.n (.r [.slot (b+0)]) .o .o) (.n .x (.n .x .o (.n .x (.n (.l [3,4] [0] [((.exit 0),[3],[])] []) (.n .x .o (.n .x (.n .x (.n .x .o (.n .x (.n .x .o (.n .x (.n (.l [5,27] [0,3,4,25,26] [((.exit 2),[5],[0,3,4])] []) .o .o) .o)) (.n (.r [.o,.slot (b+1)]) .o .o))) .o) .o)) .o) .o)) (.n .x (.n (.r [.inl (b+2)]) .o .o) .o))))
theorem P4(C:CC)(h:Hp)(t0:V)(q:kkQ):fnI Y C Tryz.f113 3 IV [t0] h q=BF C h.length h t0 q:=by rfl
theorem P2(b:Nat):okB Tryz.prog Tryz.f113 (IV b)=true:=by rfl
theorem P3(hh:BF (CX Y) h.length h t0 (pY h.length v h2)):CI Y F.BF [t0] h v h2:=
 CI.of (fn:=Tryz.f113) (m:=3) (a:=IV) rfl (fun _=>rfl) Tryz.func113 (P2 _) (by rw[P4];exact hh)
def BV(C:CC)(b:Nat)(a:V):AP:=fun l h q=>cIQ .lss (ge l 0) (ge l 1) (bxQ h 1 a (ge l 1) fun c=>b1Q h c fun c=>bxQ h 1 a (ge l 0) fun d=>b1Q h d fun d=>bxQ h 1 a (ge l 0) fun e=>stD h 1 e c fun _ h=>bxQ h 1 a (ge l 1) fun a=>stD h 1 a d fun _ h=>bIQ .add (ge l 0) (I 1) fun a=>bIQ .sub (ge l 1) (I 1) fun c=>q .normal [a,c] h) (q (.exit 0) [] h)
def Bm(C:CC)(b:Nat)(h:Hp)(a:V)(q:kQ):Prop:=let h:Hp:=h++List.replicate 0 nnQ
 blQ a fun c=>bIQ .sub c (I 1) fun c=>lp (BV C b a) [] h [I 0,c] h (exK [((.exit 0),fun a h=>q (.tup []) h)])
def DX(b:Nat):Ann:=(.n .x .o (.n .x (.n (.l [2,3] [0] [((.exit 0),[],[])] []) .o .o) .o))
theorem Ia(C:CC)(h:Hp)(t0:V)(q:kkQ):fnI Y C Tryz.f142 0 DX [t0] h q=Bm C h.length h t0 q:=by kernel_rfl
theorem H8(b:Nat):okB Tryz.prog Tryz.f142 (DX b)=true:=of_decide_eq_true AG
theorem H9(hh:Bm (CX Y) h.length h t0 (pY h.length v h2)):CI Y F.Bm [t0] h v h2:=
 CI.of (fn:=Tryz.f142) (m:=0) (a:=DX) rfl (fun _=>rfl) Tryz.func142 (H8 _) (by rw[Ia];exact hh)
def BJ(C:CC)(a c:V):AP:=fun l h q=>bIQ .lss (ge l 2) (I 9) fun d=>gqQ d true h c fun c h=>gbQ d true h (biI .add c (I 1)) fun c h=>gqQ d true h a fun a h=>gbQ d true h (fL a) fun a h=>gbQ d true h (biI .lss c a) fun a h=>gqQ d true h a fun a h=>gqQ a false h (ge l 1) fun c h=>gbQ a false h (biI .gtr c (.d (.int .u64 0))) fun c h=>gbQ d true h (Hk a (B true) c) fun a h=>bpQ d a (B false) fun a=>cnd a (bIQ .rem (ge l 1) (.d (.int .u64 10)) fun a=>bIQ .add (.d (.int .u64 48)) a fun a=>bnd (cvI .u8 a) fun a=>mB 1 [.int .u8 0] [(0,a)] h fun a h=>apV false 1 1 1 (ge l 0) a h fun a h=>bIQ .quo (ge l 1) (.d (.int .u64 10)) fun c=>bIQ .add (ge l 2) (I 1) fun d=>q .normal [a,c,d] h) (q (.exit 2) [ge l 0] h)
def Dz(C:CC)(a c d:V):AP:=fun l h q=>cIQ .lss (ge l 1) d (bxQ h 1 c (ge l 1) fun c=>b1Q h c fun c=>lp (BJ C a (ge l 1)) [] h [ge l 0,c,I 0] h (exK [((.exit 2),fun a h=>bIQ .add (ge l 1) (I 1) fun c=>q .normal [ge a 0,c] h)])) (q (.exit 0) [ge l 0] h)
def AR(C:CC)(a:V)(q:kQ):Prop:=let h:Hp:=.replicate 3 nnQ
 blQ a fun c=>cIQ .eql c (I 0) (q (.d (.str [48])) h) (blQ a fun c=>bIQ .mul (I 9) c fun c=>mkS 0 1 [.int .u8 0] h (I 0) c fun c h=>blQ a fun d=>lp (Dz C a a d) [] h [c,I 0] h (exK [((.exit 0),fun a h=>ciQ C h F.Bm [ge a 0] 2 fun c h=>bnd (cvT h (ge a 0)) fun a=>q a h)]))
theorem JU(h:AR (CX Y) t0 (out v)):CP Y F.AR [t0] v:=CPo 3 (zq (nBQ (nRQ [.slot 0]) (nBQ (mu (nCQ (.n (.l [3,16] [0,14,15] [((.exit 0),[3],[])] []) (zq (nCQ (nCQ (zq (nCQ (.n (.l [3,5,6] [0,4,14,15,16] [((.exit 2),[3],[0,14,15,16])] []) (mu (nCQ (nCQ (nCQ (nRQ [.o,.slot 1]))))) .o)))))) .o))) (nCQ (nRQ [.inl 2]))))) Tryz.func116 h
def BG(C:CC)(a c:V):AP:=fun l h q=>cIQ .geq (ge l 0) (I 0) (bxQ h 1 a (ge l 0) fun d=>b1Q h d fun d=>bxQ h 1 c (ge l 0) fun e=>b1Q h e fun e=>cIQ .lss d e (q .ret [I (-1)] h) (bxQ h 1 a (ge l 0) fun a=>b1Q h a fun a=>bxQ h 1 c (ge l 0) fun c=>b1Q h c fun c=>cIQ .gtr a c (q .ret [I 1] h) (bIQ .sub (ge l 0) (I 1) fun a=>q .normal [a] h))) (q (.exit 0) [] h)
def Bu(C:CC)(a c:V)(q:kQ):Prop:=let h:Hp:=[]
 blQ a fun d=>blQ c fun e=>cIQ .neq d e (blQ a fun a=>blQ c fun c=>bIQ .sub a c fun a=>bnd (mxI true [I (-1),a]) fun a=>bnd (mxI false [I 1,a]) fun a=>q a h) (blQ a fun d=>bIQ .sub d (I 1) fun d=>lp (BG C a c) [] h [d] h (exK [((.exit 0),fun a h=>q (I 0) h),(.ret,fun a h=>q (ge a 0) h)]))
theorem IU(h:Bu (CX Y) t0 t1 (out v)):CP Y F.Bu [t0,t1] v:=CPo 0 (zq (nCQ (mu (nCQ (.n (.l [5] [0,1] [((.exit 0),[],[]),(.ret,[4],[])] []) .o .o))))) Tryz.func114 h
def Di(C:CC)(b:Nat)(a c d e f:V):AP:=fun l h q=>cIQ .lss (ge l 1) f (bxQ h 1 e (ge l 1) fun e=>b1Q h e fun e=>bIQ .add c (ge l 1) fun f=>bxQ h 1 a f fun f=>b1Q h f fun f=>bIQ .mul d e fun d=>bIQ .add f d fun d=>bIQ .add (ge l 0) d fun d=>bIQ .add c (ge l 1) fun c=>bIQ .rem d (.d (.int .u64 1000000000)) fun e=>bxQ h 1 a c fun a=>stD h 1 a e fun _ h=>bIQ .quo d (.d (.int .u64 1000000000)) fun a=>bIQ .add (ge l 1) (I 1) fun c=>q .normal [a,c] h) (q (.exit 2) [ge l 0] h)
def Dj(C:CC)(b:Nat)(a c d e:V):AP:=fun l h q=>cIQ .lss (ge l 0) e (bxQ h 1 d (ge l 0) fun d=>b1Q h d fun d=>blQ a fun e=>lp (Di C b c (ge l 0) d a e) [] h [(.d (.int .u64 0)),I 0] h (exK [((.exit 2),fun d h=>blQ a fun a=>bIQ .add (ge l 0) a fun a=>bxQ h 1 c a fun a=>stD h 1 a (ge d 0) fun _ h=>bIQ .add (ge l 0) (I 1) fun a=>q .normal [a] h)])) (q (.exit 0) [] h)
def Ba(C:CC)(b:Nat)(h:Hp)(a c:V)(q:kQ):Prop:=let h:Hp:=h++List.replicate 2 nnQ
 blQ a fun d=>blQ c fun e=>bIQ .add d e fun d=>mkS (b+0) 8 [.int .u64 0] h d d fun d h=>blQ a fun e=>lp (Dj C b c d a e) [] h [I 0] h (exK [((.exit 0),fun a h=>ciQ C h F.AK [d] (b+1) q)])
def EX(b:Nat):Ann:=(.n .x .o (.n .x (.n (.r [.slot (b+0)]) .o .o) (.n .x (.n .x .o (.n .x (.n (.l [19] [1,5,17,18] [((.exit 0),[],[5])] []) (.n .x .o (.n .x .o (.n .x (.n .x (.n .x .o (.n .x .o (.n .x (.n .x .o (.n .x (.n (.l [8,26] [1,5,6,7,17,18,19,24,25] [((.exit 2),[8],[1,5,6,17,18,19])] []) .o .o) .o)) .o))) .o) .o))) .o) .o)) (.n .x (.n (.r [.inl (b+1)]) .o .o) .o))))
theorem JF(C:CC)(h:Hp)(t0:V)(t1:V)(q:kkQ):fnI Y C Tryz.f165 2 EX [t0,t1] h q=Ba C h.length h t0 t1 q:=by rfl
theorem JD(b:Nat):okB Tryz.prog Tryz.f165 (EX b)=true:=by rfl
theorem JE(hh:Ba (CX Y) h.length h t0 t1 (pY h.length v h2)):CI Y F.Ba [t0,t1] h v h2:=
 CI.of (fn:=Tryz.f165) (m:=2) (a:=EX) rfl (fun _=>rfl) Tryz.func165 (JD _) (by rw[JF];exact hh)
def Br(C:CC)(b:Nat)(h:Hp)(a c:V)(q:kQ):Prop:=let h:Hp:=h++List.replicate 2 nnQ
 mB 1 [.int .u64 0] [(0,c)] h fun c h=>ciQ C h F.AK [c] (b+0) fun c h=>ciQ C h F.Ba [a,c] (b+1) q
def EL(b:Nat):Ann:=(.n .x .o (.n .x (.n (.r [.o,.inl (b+0),.inl (b+1)]) .o .o) .o))
theorem Jk(C:CC)(h:Hp)(t0:V)(t1:V)(q:kkQ):fnI Y C Tryz.f143 2 EL [t0,t1] h q=Br C h.length h t0 t1 q:=by rfl
theorem Ji(b:Nat):okB Tryz.prog Tryz.f143 (EL b)=true:=by rfl
theorem Jj(hh:Br (CX Y) h.length h t0 t1 (pY h.length v h2)):CI Y F.Br [t0,t1] h v h2:=
 CI.of (fn:=Tryz.f143) (m:=2) (a:=EL) rfl (fun _=>rfl) Tryz.func143 (Ji _) (by rw[Jk];exact hh)
def Dk(C:CC)(a c d:V):AP:=fun l h q=>cIQ .geq (ge l 1) (I 0) (bIQ .mul (ge l 0) (.d (.int .u64 1000000000)) fun e=>bxQ h 1 a (ge l 1) fun a=>b1Q h a fun a=>bIQ .add e a fun a=>bIQ .quo a c fun e=>bxQ h 1 d (ge l 1) fun d=>stD h 1 d e fun _ h=>bIQ .rem a c fun a=>bIQ .sub (ge l 1) (I 1) fun c=>q .normal [a,c] h) (q (.exit 0) [ge l 0] h)
def BE(C:CC)(a c:V)(q:kQ):Prop:=let h:Hp:=.replicate 2 nnQ
 blQ a fun d=>mkS 0 8 [.int .u64 0] h d d fun d h=>blQ a fun e=>bIQ .sub e (I 1) fun e=>lp (Dk C a c d) [] h [(.d (.int .u64 0)),e] h (exK [((.exit 0),fun a h=>ciQ C h F.AK [d] 1 fun c h=>q (.tup [c,ge a 0]) h)])
theorem JG(h:BE (CX Y) t0 t1 (out v)):CP Y F.BE [t0,t1] v:=CPo 2 (mu (nBQ (nRQ [.slot 0]) (mu (nBQ (mu (nCQ (.n (.l [7,8] [0,1,6] [((.exit 0),[7],[6])] []) .o .o))) (nCQ (nRQ [.inl 1])))))) Tryz.func115 h
def CE(C:CC)(b:Nat)(a c d e:V):AP:=fun l h q=>blQ c fun f=>cIQ .leq (ge l 2) f (blQ c fun f=>bIQ .lss (ge l 2) f fun f=>jn (fun c h=>bIQ .add e (ge l 2) fun d=>bxQ h 1 a d fun d=>b1Q h d fun d=>bnd (cvI .i64 d) fun d=>bIQ .rem (ge c 0) (.d (.int .u64 1000000000)) fun f=>bnd (cvI .i64 f) fun f=>bIQ .sub d f fun d=>bIQ .sub d (ge l 1) fun d=>bIQ .quo (ge c 0) (.d (.int .u64 1000000000)) fun c=>bIQ .lss d (I 0) fun f=>jn (fun d h=>bIQ .add e (ge l 2) fun e=>bnd (cvI .u64 (ge d 0)) fun f=>bxQ h 1 a e fun a=>stD h 1 a f fun _ h=>bIQ .add (ge l 2) (I 1) fun a=>q .normal [c,ge d 1,a] h) fun a=>cnd f (bIQ .add d (I 1000000000) fun c=>a [c,I 1] h) (a [d,I 0] h)) fun a=>cnd f (bxQ h 1 c (ge l 2) fun c=>b1Q h c fun c=>bIQ .mul d c fun c=>bIQ .add (ge l 0) c fun c=>a [c] h) (a [ge l 0] h)) (q (.exit 0) [ge l 1] h)
def BQ(C:CC)(b:Nat)(h:Hp)(a c d e:V)(q:kQ):Prop:=let h:Hp:=h++List.replicate 0 nnQ
 lp (CE C b a c d e) [] h [(.d (.int .u64 0)),I 0,I 0] h (exK [((.exit 0),fun a h=>bIQ .gtr (ge a 0) (I 0) fun a=>q a h)])
def Ff(b:Nat):Ann:=(.n .x .o (.n .x .o (.n .x .o (.n .x (.n .x .o (.n .x (.n (.l [10,9,11] [0,1,2,3] [((.exit 0),[9],[])] []) (.n .x .o (.n .x (.n .x (.n .x (.n .x .o (.n (.j [10] [0,1,2,3,9,11]) .o .o)) (.n .x .o (.n .x .o (.n .x .o (.n .x (.n .x .o (.n (.j [12,9] [0,1,2,3,10,11]) .o .o)) .o))))) .o) .o)) .o) .o)) .o))))
theorem JX(C:CC)(h:Hp)(t0:V)(t1:V)(t2:V)(t3:V)(q:kkQ):fnI Y C Tryz.f144 0 Ff [t0,t1,t2,t3] h q=BQ C h.length h t0 t1 t2 t3 q:=by rfl
theorem JV(b:Nat):okB Tryz.prog Tryz.f144 (Ff b)=true:=by rfl
theorem JW(hh:BQ (CX Y) h.length h t0 t1 t2 t3 (pY h.length v h2)):CI Y F.BQ [t0,t1,t2,t3] h v h2:=
 CI.of (fn:=Tryz.f144) (m:=0) (a:=Ff) rfl (fun _=>rfl) Tryz.func144 (JV _) (by rw[JX];exact hh)
def DC(C:CC)(b:Nat)(a c d:V):AP:=fun l h q=>blQ c fun e=>cIQ .leq (ge l 1) e (bIQ .add d (ge l 1) fun e=>bxQ h 1 a e fun e=>b1Q h e fun e=>bIQ .add (ge l 0) e fun e=>blQ c fun f=>bIQ .lss (ge l 1) f fun f=>jn (fun c h=>bIQ .add d (ge l 1) fun d=>bIQ .rem (ge c 0) (.d (.int .u64 1000000000)) fun e=>bxQ h 1 a d fun a=>stD h 1 a e fun _ h=>bIQ .quo (ge c 0) (.d (.int .u64 1000000000)) fun a=>bIQ .add (ge l 1) (I 1) fun c=>q .normal [a,c] h) fun a=>cnd f (bxQ h 1 c (ge l 1) fun c=>b1Q h c fun c=>bIQ .add e c fun c=>a [c] h) (a [e] h)) (q (.exit 0) [] h)
def BC(C:CC)(b:Nat)(h:Hp)(a c d:V)(q:kQ):Prop:=let h:Hp:=h++List.replicate 0 nnQ
 lp (DC C b a c d) [] h [(.d (.int .u64 0)),I 0] h (exK [((.exit 0),fun a h=>q (.tup []) h)])
def Fh(b:Nat):Ann:=(.n .x .o (.n .x .o (.n .x (.n (.l [6,7] [0,1,2] [((.exit 0),[],[])] []) (.n .x .o (.n .x (.n .x (.n .x .o (.n .x (.n .x .o (.n (.j [6] [0,1,2,7]) .o .o)) .o)) .o) .o)) .o) .o)))
theorem J0(C:CC)(h:Hp)(t0:V)(t1:V)(t2:V)(q:kkQ):fnI Y C Tryz.f145 0 Fh [t0,t1,t2] h q=BC C h.length h t0 t1 t2 q:=by rfl
theorem JY(b:Nat):okB Tryz.prog Tryz.f145 (Fh b)=true:=by rfl
theorem JZ(hh:BC (CX Y) h.length h t0 t1 t2 (pY h.length v h2)):CI Y F.BC [t0,t1,t2] h v h2:=
 CI.of (fn:=Tryz.f145) (m:=0) (a:=Fh) rfl (fun _=>rfl) Tryz.func145 (JY _) (by rw[J0];exact hh)
def Ex(C:CC)(a:V):AP:=fun l h q=>blQ (ge l 0) fun c=>blQ a fun a=>cIQ .leq c a (mB 1 [.int .u64 0] [(0,(.d (.int .u64 0)))] h fun a h=>apV false 3 1 8 (ge l 0) a h fun a h=>q .normal [a] h) (q (.exit 0) [ge l 0] h)
def A1(C:CC)(a c d e:V):AP:=fun l h q=>bIQ .geq (ge l 0) (.d (.int .u64 1000000000)) fun f=>gqQ f false h (ge l 1) fun g h=>gbQ f false h (biI .lss g (.d (.int .u64 1000000000))) fun g h=>gqQ f false h g fun g h=>gqQ g true h (ge l 0) fun i h=>gqQ g true h c fun j h=>gqQ g true h d fun k h=>gbQ g true h (biI .sub k (I 2)) fun k h=>gbQ g true h (ixV h 1 j k) fun j h=>gbQ g true h (ld1 h j) fun j h=>gbQ g true h (biI .mul i j) fun i h=>gqQ g true h (ge l 1) fun j h=>gbQ g true h (biI .mul j (.d (.int .u64 1000000000))) fun j h=>gqQ g true h a fun a h=>gqQ g true h e fun e h=>gqQ g true h d fun k h=>gbQ g true h (biI .add e k) fun e h=>gbQ g true h (biI .sub e (I 2)) fun e h=>gbQ g true h (ixV h 1 a e) fun a h=>gbQ g true h (ld1 h a) fun a h=>gbQ g true h (biI .add j a) fun a h=>gbQ g true h (biI .gtr i a) fun a h=>gbQ f false h (Hk g a (B false)) fun a h=>bpQ f (B true) a fun a=>cnd a (bIQ .sub (ge l 0) (.d (.int .u64 1)) fun a=>bIQ .sub d (I 1) fun d=>bxQ h 1 c d fun c=>b1Q h c fun c=>bIQ .add (ge l 1) c fun c=>q .normal [a,c] h) (q (.exit 4) [ge l 0] h)
def BM(C:CC)(a c d e:V):AP:=fun l h q=>cIQ .geq (ge l 0) (I 0) (bIQ .add (ge l 0) d fun f=>bxQ h 1 a f fun f=>b1Q h f fun f=>bIQ .mul f (.d (.int .u64 1000000000)) fun f=>bIQ .add (ge l 0) d fun g=>bIQ .sub g (I 1) fun g=>bxQ h 1 a g fun g=>b1Q h g fun g=>bIQ .add f g fun f=>bIQ .sub d (I 1) fun g=>bxQ h 1 c g fun g=>b1Q h g fun g=>bIQ .quo f g fun g=>bIQ .sub d (I 1) fun i=>bxQ h 1 c i fun i=>b1Q h i fun i=>bIQ .rem f i fun f=>lp (A1 C a c d (ge l 0)) [] h [g,f] h (exK [((.exit 4),fun d h=>ciQ C h F.BQ [a,c,ge d 0,ge l 0] 5 fun f h=>jn (fun a h=>bxQ h 1 e (ge l 0) fun c=>stD h 1 c (ge a 0) fun _ h=>bIQ .sub (ge l 0) (I 1) fun a=>q .normal [a] h) fun e=>cnd f (bIQ .sub (ge d 0) (.d (.int .u64 1)) fun d=>ciQ C h F.BC [a,c,ge l 0] 6 fun a h=>e [d] h) (e [ge d 0] h))])) (q (.exit 2) [] h)
def BU(C:CC)(a c:V)(q:kQ):Prop:=let h:Hp:=.replicate 9 nnQ
 blQ c fun d=>bIQ .sub d (I 1) fun d=>bxQ h 1 c d fun d=>b1Q h d fun d=>bIQ .add d (.d (.int .u64 1)) fun d=>bIQ .quo (.d (.int .u64 1000000000)) d fun d=>ciQ C h F.Br [a,d] 0 fun e h=>mB 1 [.int .u64 0] [(0,(.d (.int .u64 0)))] h fun f h=>apV false 1 1 8 e f h fun e h=>ciQ C h F.Br [c,d] 2 fun c h=>blQ c fun f=>lp (Ex C a) [] h [e] h (exK [((.exit 0),fun a h=>blQ (ge a 0) fun e=>bIQ .sub e f fun e=>mkS 4 8 [.int .u64 0] h e e fun e h=>blQ (ge a 0) fun g=>bIQ .sub g f fun g=>bIQ .sub g (I 1) fun g=>lp (BM C (ge a 0) c f e) [5,6] h [g] h (exK [((.exit 2),fun c h=>ciQ C h F.AK [ge a 0] 7 fun a h=>clQ C h F.BE [a,d] fun a h=>e2Q a fun a c=>ciQ C h F.AK [e] 8 fun c h=>q (.tup [c,a]) h)]))])
def EM:Ann:=(zq (nBQ (nRQ [.inl 0,.o,.slot 1,.inl 2]) (mu (nBQ (nCQ (.n (.l [7] [0,6,8,9] [((.exit 0),[7],[6,8,9])] []) (mu (nCQ (nRQ [.o,.slot 3]))) .o)) (nBQ (nRQ [.slot 4]) (nBQ (mu (nCQ (.n (.l [11] [6,7,8,9,10] [((.exit 2),[],[6,7,10])] [5,6]) (mu (nCQ (nCQ (zq (nBQ (nCQ (.n (.l [13,14] [6,7,8,9,10,11] [((.exit 4),[13],[6,7,8,9,10,11])] []) .o .o)) (nCQ (nBQ (nRQ [.inl 5]) (.n (.j [13] [6,7,8,9,10,11]) (mu (nRQ [.inl 6])) .o)))))))) .o))) (nBQ (nRQ [.inl 7]) (nCQ (nRQ [.inl 8])))))))))
attribute [local irreducible] bnd gd cal cnd ext mB mA stD alV alD oR jn lp exK mkS apV cai oA in
theorem Jn(C:CC)(t0:V)(t1:V)(q:kkQ):fnD Y C Tryz.f117 9 EM [t0,t1] q=BU C t0 t1 q:=SC
theorem Jl:okB Tryz.prog Tryz.f117 EM=true:=dQ
theorem Jm(h:BU (CX Y) t0 t1 (out v)):CP Y F.BU [t0,t1] v:=
 CP.of (fn:=Tryz.f117) (m:=9) (a:=EM) rfl (fun _=>rfl) Tryz.func117 Jl (by rw[Jn];exact h)
def BX(C:CC)(a c d:V):AP:=fun l h q=>cIQ .lss (ge l 0) d (bxQ h 1 a (ge l 0) fun a=>b1Q h a fun a=>cal C.p h c [a] fun a h=>cnd a (q .ret [ge l 0] h) (bIQ .add (ge l 0) (I 1) fun a=>q .normal [a] h)) (q (.exit 0) [] h)
def Bh(C:CC)(a c:V)(q:kQ):Prop:=let h:Hp:=[]
 blQ a fun d=>lp (BX C a c d) [] h [I 0] h (exK [((.exit 0),fun a h=>q (I (-1)) h),(.ret,fun a h=>q (ge a 0) h)])
theorem G0(h:Bh (CX Y) t0 t1 (out v)):CP Y F.Bh [t0,t1] v:=CPo 0 (mu (nCQ (mu (nCQ (.n (.l [8] [0,1,7] [((.exit 0),[],[]),(.ret,[4],[])] []) .o .o))))) Tryz.func89 h
def AY(C:CC)(a c:V)(q:kQ):Prop:=let h:Hp:=[]
 clQ C h F.Bh [a,c] fun a h=>bIQ .geq a (I 0) fun a=>q a h
theorem Gv(h:AY (CX Y) t0 t1 (out v)):CP Y F.AY [t0,t1] v:=CPo 0 .o Tryz.func66 h
def AU(C:CC)(a:V)(q:kQ):Prop:=let h:Hp:=[]
 bnd (sy a) fun c=>bIQ .gtr c (I 0) fun c=>gqQ c true h a fun d h=>gbQ c true h (ixS d (I 0)) fun d h=>gbQ c true h (biI .eql d (.d (.int .u8 45))) fun d h=>bpQ c d (B false) fun c=>cnd c (bnd (slS a (some (I 1)) none) fun a=>q (.tup [B true,a]) h) (q (.tup [B false,a]) h)
theorem PL(h:AU (CX Y) t0 (out v)):CP Y F.AU [t0] v:=CPo 0 .o Tryz.func72 h
def Fq(C:CC)(a:V)(q:kQ):Prop:=let h:Hp:=[]
 clQ C h F.AU [a] fun a h=>e2Q a fun a c=>gqQ a true h c fun d h=>gbQ a true h (biS .eql d (.d (.str [48]))) fun d h=>bpQ a d (B false) fun a=>gqQ a false h c fun c h=>gd a false h (fun q=>clQ C h F.Ey [c] q) fun c h=>gbQ a false h (biI .neq c (I 0)) fun c h=>bpQ a (B true) c fun a=>cnd a (q (I 2) h) (q (I 0) h)
theorem PO(h:Fq (CX Y) t0 (out v)):CP Y F.Fq [t0] v:=CPo 0 .o Tryz.func51 h
def BR(C:CC)(a:V)(q:kQ):Prop:=let h:Hp:=[]
 bSQ .eql a (.d (.str [48])) fun c=>cnd c (q (I 0) h) (bnd (ixS a (I 0)) fun a=>cIQ .eql a (.d (.int .u8 45)) (q (I (-1)) h) (q (I 1) h))
theorem QZ(h:BR (CX Y) t0 (out v)):CP Y F.BR [t0] v:=CPo 0 .o Tryz.func52 h
def Cv(C:CC)(a:V)(q:kQ):Prop:=let h:Hp:=[]
 clQ C h F.strconv_Itoa [a] q
theorem Ow(h:Cv (CX Y) t0 (out v)):CP Y F.Cv [t0] v:=CPo 0 .o Tryz.func71 h
def Be(C:CC)(a c:V)(q:kQ):Prop:=let h:Hp:=[]
 bnd (sy a) fun d=>cIQ .gtr d c (q (.tup [I 0,B false]) h) (clQ C h F.strconv_Atoi [a] fun a h=>e2Q a fun a c=>bnd (biF .eql c (.d (.pl .nilIface))) fun c=>q (.tup [a,c]) h)
theorem H5(h:Be (CX Y) t0 t1 (out v)):CP Y F.Be [t0,t1] v:=CPo 0 .o Tryz.func75 h
def Db(C:CC)(a:V)(q:kQ):Prop:=let h:Hp:=[]
 clQ C h F.AU [a] fun a h=>e2Q a fun a c=>q c h
theorem Nu(h:Db (CX Y) t0 (out v)):CP Y F.Db [t0] v:=CPo 0 .o Tryz.func47 h
def HD(C:CC):AP:=fun l h q=>cIQ .neq (ge l 1) (I 0) (bIQ .rem (ge l 0) (ge l 1) fun a=>q .normal [ge l 1,a] h) (q (.exit 0) [ge l 0] h)
def HR(C:CC)(a c:V)(q:kQ):Prop:=let h:Hp:=[]
 lp (HD C) [] h [a,c] h (exK [((.exit 0),fun a h=>q (ge a 0) h)])
theorem Sb(h:HR (CX Y) t0 t1 (out v)):CP Y F.HR [t0,t1] v:=CPo 0 (mu (nCQ (nCQ (.n (.l [0,1] [] [((.exit 0),[0],[])] []) .o .o)))) Tryz.func76 h
def Gn(C:CC)(a c:V)(q:kQ):Prop:=let h:Hp:=[]
 clQ C h F.Db [a] fun a h=>clQ C h F.Db [c] fun c h=>clQ C h F.Be [a,I 18] fun d h=>e2Q d fun d e=>jn (fun d h=>clQ C h F.FA [a,c] q) fun a=>cnd e (clQ C h F.Be [c,I 18] fun c h=>e2Q c fun c e=>cnd e (clQ C h F.HR [d,c] fun a h=>clQ C h F.Cv [a] q) (a [] h)) (a [] h)
theorem Si(h:Gn (CX Y) t0 t1 (out v)):CP Y F.Gn [t0,t1] v:=CPo 0 (zq (nCQ (zq (nJQ [] [5,6])))) Tryz.func53 h
def Cm(C:CC)(a:V)(q:kQ):Prop:=let h:Hp:=.replicate 1 nnQ
 oR 0 a h fun a h=>bfQ 0 a fun c=>b1Q h c fun c=>clQ C h F.Fq [c] fun c h=>bIQ .neq c (I 0) fun c=>jn (fun c h=>cnd (ge c 0) (q (I 2) h) (bfQ 1 a fun c=>b1Q h c fun c=>clQ C h F.BR [c] fun c h=>bIQ .leq c (I 0) fun c=>jn (fun a h=>cnd (ge a 0) (q (I 2) h) (q (I 0) h)) fun d=>cnd c (d [c] h) (bfQ 0 a fun c=>b1Q h c fun c=>bfQ 1 a fun a=>b1Q h a fun a=>clQ C h F.Gn [c,a] fun a h=>bSQ .neq a (.d (.str [49])) fun a=>d [a] h))) fun d=>cnd c (d [c] h) (bfQ 1 a fun a=>b1Q h a fun a=>clQ C h F.Fq [a] fun a h=>bIQ .neq a (I 0) fun a=>d [a] h)
theorem M4(h:Cm (CX Y) t0 (out v)):CP Y F.Cm [t0] v:=CPo 1 (nBQ (nRQ [.slot 0]) (nCQ (nCQ (nBQ (mu (nJQ [3] [1])) (mu (nCQ (mu (nJQ [12] [])))))))) Tryz.func26 h
def GW(C:CC)(a:V)(q:kQ):Prop:=let h:Hp:=[]
 clQ C h F.AU [a] fun a h=>e2Q a fun a c=>bnd (unV .not a) fun a=>clQ C h F.BA [a,c] q
theorem Sd(h:GW (CX Y) t0 (out v)):CP Y F.GW [t0] v:=CPo 0 .o Tryz.func106 h
def Gm(C:CC)(a:V)(q:kQ):Prop:=let h:Hp:=[]
 clQ C h F.bV [a,I 10,I 64] fun a h=>e2Q a fun a c=>bnd (biF .neq c (.d (.pl .nilIface))) fun c=>cnd c (q (.tup [I 0,B false]) h) (q (.tup [a,B true]) h)
theorem PM(h:Gm (CX Y) t0 (out v)):CP Y F.Gm [t0] v:=CPo 0 .o Tryz.func167 h
def Er(C:CC)(a c:V)(q:kQ):Prop:=let h:Hp:=[]
 clQ C h F.BR [a] fun d h=>clQ C h F.BR [c] fun e h=>cIQ .neq d e (cIQ .lss d e (q (I (-1)) h) (q (I 1) h)) (clQ C h F.AU [a] fun a h=>e2Q a fun a d=>clQ C h F.AU [c] fun c h=>e2Q c fun c e=>jn (fun a h=>clQ C h F.Bs [ge a 0,ge a 1] q) fun c=>cnd a (c [e,d] h) (c [d,e] h))
theorem NI(h:Er (CX Y) t0 t1 (out v)):CP Y F.Er [t0,t1] v:=CPo 0 (zo (nCQ (mu (nJQ [8,10] [])))) Tryz.func183 h
def Bt(C:CC)(a c:V)(q:kQ):Prop:=let h:Hp:=[]
 bSQ .eql c (.d (.str [48])) fun d=>cnd d (q (.tup [(.d (.str [])),(.d (.str [])),I 17]) h) (clQ C h F.Be [a,I 18] fun d h=>e2Q d fun d e=>jn (fun d h=>clQ C h F.AU [a] fun a h=>e2Q a fun a d=>clQ C h F.AU [c] fun c h=>e2Q c fun c e=>clQ C h F.Cn [d,e] fun d h=>e3Q d fun d f g=>nzQ g (q (.tup [(.d (.str [])),(.d (.str [])),g]) h) (bnd (biB .neq a c) fun g=>gqQ g true h f fun i h=>gbQ g true h (biS .neq i (.d (.str [48]))) fun i h=>bpQ g i (B false) fun g=>jn (fun d h=>bnd (biB .neq a c) fun a=>clQ C h F.BA [a,ge d 0] fun a h=>clQ C h F.BA [c,ge d 1] fun c h=>q (.tup [a,c,I 0]) h) fun a=>cnd g (clQ C h F.C9 [d,(.d (.str [49]))] fun c h=>clQ C h F.DO [e,f] fun d h=>e2Q d fun d e=>a [c,d] h) (a [d,f] h))) fun a=>cnd e (clQ C h F.Be [c,I 18] fun c h=>e2Q c fun c e=>cnd e (bIQ .quo d c fun a=>bIQ .rem d c fun d=>bIQ .neq d (I 0) fun e=>gqQ e true h d fun f h=>gbQ e true h (biI .lss f (I 0)) fun f h=>gqQ e true h c fun g h=>gbQ e true h (biI .lss g (I 0)) fun g h=>gbQ e true h (biB .neq f g) fun f h=>bpQ e f (B false) fun e=>jn (fun a h=>clQ C h F.Cv [ge a 0] fun c h=>clQ C h F.Cv [ge a 1] fun a h=>q (.tup [c,a,I 0]) h) fun f=>cnd e (bIQ .sub a (I 1) fun a=>bIQ .add d c fun c=>f [a,c] h) (f [a,d] h)) (a [] h)) (a [] h))
def H6:Ann:=(zq (nBQ (zq (.n (.j [] [0,1]) (zq (nCQ (mu (nCQ (mu (nJQ [11,12] [])))))) .o)) (zo (nCQ (mu (nJQ [17,18] [13,15]))))))
theorem Oz(C:CC)(t0:V)(t1:V)(q:kkQ):fnD Y C Tryz.f107 0 H6 [t0,t1] q=Bt C t0 t1 q:=by kernel_rfl
theorem Ox:okB Tryz.prog Tryz.f107 H6=true:=dQ
theorem Oy(h:Bt (CX Y) t0 t1 (out v)):CP Y F.Bt [t0,t1] v:=
 CP.of (fn:=Tryz.f107) (m:=0) (a:=H6) rfl (fun _=>rfl) Tryz.func107 Ox (by rw[Oz];exact h)
def GX(C:CC)(a c:V)(q:kQ):Prop:=let h:Hp:=[]
 clQ C h F.Db [a] fun a h=>clQ C h F.Db [c] fun c h=>clQ C h F.Gu [a,c] q
theorem Sf(h:GX (CX Y) t0 t1 (out v)):CP Y F.GX [t0,t1] v:=CPo 0 .o Tryz.func124 h
def EP(C:CC)(a c:V)(q:kQ):Prop:=let h:Hp:=[]
 cIQ .lss c (I 0) (q (.tup [(.d (.str [])),I 3]) h) (clQ C h F.AU [a] fun a h=>e2Q a fun a d=>bnd (sy d) fun e=>bIQ .quo (I 4000) e fun e=>cIQ .gtr c e (q (.tup [(.d (.str [])),I 4]) h) (clQ C h F.DT [d,c] fun d h=>e2Q d fun d e=>nzQ e (q (.tup [(.d (.str [])),e]) h) (gqQ a true h c fun c h=>gbQ a true h (biI .rem c (I 2)) fun c h=>gbQ a true h (biI .eql c (I 1)) fun c h=>bpQ a c (B false) fun a=>clQ C h F.BA [a,d] fun a h=>q (.tup [a,I 0]) h)))
theorem PN(h:EP (CX Y) t0 t1 (out v)):CP Y F.EP [t0,t1] v:=CPo 0 .o Tryz.func170 h
def Gu(C:CC)(a c:V)(q:kQ):Prop:=let h:Hp:=[]
 bSQ .eql a (.d (.str [48])) fun d=>gqQ d false h c fun e h=>gbQ d false h (biS .eql e (.d (.str [48]))) fun e h=>bpQ d (B true) e fun d=>cnd d (q (.d (.str [48])) h) (clQ C h F.FA [a,c] fun d h=>clQ C h F.Cn [a,d] fun a h=>e3Q a fun a d e=>nzQ e (q (.d (.str [])) h) (clQ C h F.Ep [a,c] q))
theorem P9(h:Gu (CX Y) t0 t1 (out v)):CP Y F.Gu [t0,t1] v:=CPo 0 .o Tryz.func150 h
def NZ(C:CC)(a c:V):AP:=fun l h q=>cIQ .lss (ge l 1) c (bxQ h 1 a (ge l 1) fun c=>b1Q h c fun c=>bIQ .mul c (.d (.int .u64 1000000000)) fun c=>bIQ .add (ge l 0) c fun c=>bIQ .and c (.d (.int .u64 4294967295)) fun d=>bxQ h 1 a (ge l 1) fun a=>stD h 1 a d fun _ h=>bIQ .shr c (.d (.int .u64 32)) fun a=>bIQ .add (ge l 1) (I 1) fun c=>q .normal [a,c] h) (q (.exit 2) [ge l 0] h)
def N0(C:CC)(a:V):AP:=fun l h q=>cIQ .geq (ge l 1) (I 0) (jn (fun a h=>bIQ .sub (ge l 1) (I 1) fun c=>q .normal [ge a 0,c] h) fun c=>bxQ h 1 a (ge l 1) fun a=>b1Q h a fun a=>blQ (ge l 0) fun d=>lp (NZ C (ge l 0) d) [] h [a,I 0] h (exK [((.exit 2),fun a h=>bIQ .gtr (ge a 0) (.d (.int .u64 0)) fun d=>jn (fun a h=>c [ge a 0] h) fun c=>cnd d (mB 1 [.int .u64 0] [(0,(ge a 0))] h fun a h=>apV false 1 1 8 (ge l 0) a h fun a h=>c [a] h) (c [ge l 0] h))])) (q (.exit 0) [ge l 0] h)
def FN(C:CC)(a:V)(q:kQ):Prop:=let h:Hp:=.replicate 2 nnQ
 clQ C h F.DR [a] fun c h=>e2Q c fun c d=>cnd d (clQ C h F.Cp [c] q) (ciQ C h F.BF [a] 0 fun a h=>blQ a fun c=>bIQ .sub c (I 1) fun c=>lp (N0 C a) [] h [nSQ,c] h (exK [((.exit 0),fun a h=>blQ (ge a 0) fun c=>bIQ .sub c (I 1) fun c=>bIQ .mul (I 32) c fun c=>blQ (ge a 0) fun d=>bIQ .sub d (I 1) fun d=>bxQ h 1 (ge a 0) d fun a=>b1Q h a fun a=>clQ C h F.Cp [a] fun a h=>bIQ .add c a fun a=>q a h)]))
theorem Pr(h:FN (CX Y) t0 (out v)):CP Y F.FN [t0] v:=CPo 2 (zp (nBQ (nRQ [.inl 0]) (nCQ (mu (nCQ (.n (.l [5,7] [6] [((.exit 0),[5],[])] []) (mu (nCQ (.n (.j [5] [6,7]) (mu (nBQ (mu (nCQ (.n (.l [8,33] [5,6,7,32] [((.exit 2),[8],[5,6,7])] []) .o .o))) (mu (.n (.j [5] [6,7]) (nRQ [.o,.slot 1]) .o)))) .o))) .o)))))) Tryz.func187 h
def EN(C:CC):AP:=fun l h q=>cIQ .gtr (ge l 2) (I 0) (jn (fun a h=>bIQ .shr (ge l 2) (.d (.int .u64 1)) fun c=>q .normal [ge a 0,ge a 1,c] h) fun a=>bIQ .and (ge l 2) (I 1) fun c=>bIQ .eql c (I 1) fun c=>jn (fun c h=>bIQ .gtr (ge l 2) (I 1) fun d=>jn (fun d h=>a [ge c 0,ge d 0] h) fun a=>cnd d (ciQ C h F.Ba [ge l 1,ge l 1] 2 fun c h=>a [c] h) (a [ge l 1] h)) fun a=>cnd c (ciQ C h F.Ba [ge l 0,ge l 1] 1 fun c h=>a [c] h) (a [ge l 0] h)) (q (.exit 1) [ge l 0] h)
def DT(C:CC)(a c:V)(q:kQ):Prop:=let h:Hp:=.replicate 3 nnQ
 cIQ .lss c (I 0) (q (.tup [(.d (.str [])),I 3]) h) (bIQ .eql c (I 0) fun d=>gqQ d false h a fun e h=>gbQ d false h (biS .eql e (.d (.str [49]))) fun e h=>bpQ d (B true) e fun d=>cnd d (q (.tup [(.d (.str [49])),I 0]) h) (bSQ .eql a (.d (.str [48])) fun d=>cnd d (q (.tup [(.d (.str [48])),I 0]) h) (clQ C h F.FN [a] fun d h=>bIQ .sub d (I 1) fun d=>bIQ .quo (I 66439) d fun d=>cIQ .gtr c d (q (.tup [(.d (.str [])),I 4]) h) (mB 1 [.int .u64 0] [(0,(.d (.int .u64 1)))] h fun d h=>ciQ C h F.BF [a] 0 fun a h=>lp (EN C) [] h [d,a,c] h (exK [((.exit 1),fun a h=>clQ C h F.AR [ge a 0] fun a h=>bnd (sy a) fun c=>cIQ .gtr c (I 20000) (q (.tup [(.d (.str [])),I 4]) h) (q (.tup [a,I 0]) h))])))))
def Hw:Ann:=(zp (nBQ (nRQ [.o,.inl 0]) (nCQ (nCQ (.n (.l [7,8,1] [] [((.exit 1),[7],[])] []) (mu (nCQ (.n (.j [7,8] [1]) (nBQ (mu (.n (.j [7] [1,8]) (nRQ [.inl 1]) .o)) (mu (.n (.j [8] [1,7]) (nRQ [.inl 2]) .o))) .o))) .o)))))
attribute [local irreducible] bnd gd cal cnd ext mB mA stD alV alD oR jn lp exK mkS apV cai oA in
theorem NX(C:CC)(t0:V)(t1:V)(q:kkQ):fnD Y C Tryz.f182 3 Hw [t0,t1] q=DT C t0 t1 q:=SC
theorem NU:okB Tryz.prog Tryz.f182 Hw=true:=dQ
theorem NW(h:DT (CX Y) t0 t1 (out v)):CP Y F.DT [t0,t1] v:=
 CP.of (fn:=Tryz.f182) (m:=3) (a:=Hw) rfl (fun _=>rfl) Tryz.func182 NU (by rw[NX];exact h)
def CO(C:CC)(a:V)(q:kQ):Prop:=let h:Hp:=[]
 bnd (sy a) fun c=>cIQ .gtr c (I 9) (q (.tup [I 0,B false]) h) (clQ C h F.strconv_Atoi [a] fun a h=>e2Q a fun a c=>bnd (biF .eql c (.d (.pl .nilIface))) fun c=>q (.tup [a,c]) h)
theorem Mo(h:CO (CX Y) t0 (out v)):CP Y F.CO [t0] v:=CPo 0 .o Tryz.func166 h
def Cl(C:CC)(a:V)(q:kQ):Prop:=let h:Hp:=.replicate 1 nnQ
 oR 0 a h fun a h=>bfQ 0 a fun c=>b1Q h c fun c=>clQ C h F.CO [c] fun c h=>e2Q c fun c d=>bfQ 1 a fun a=>b1Q h a fun a=>clQ C h F.CO [a] fun a h=>e2Q a fun a e=>gqQ d true h e fun e h=>bpQ d e (B false) fun d=>q (.tup [c,a,d]) h
theorem NQ(h:Cl (CX Y) t0 (out v)):CP Y F.Cl [t0] v:=CPo 1 (nCQ (nRQ [.slot 0])) Tryz.func147 h
def Fy(C:CC):AP:=fun l h q=>cIQ .neq (ge l 1) (I 0) (bIQ .rem (ge l 0) (ge l 1) fun a=>q .normal [ge l 1,a] h) (q (.exit 0) [ge l 0] h)
def DK(C:CC)(a c:V)(q:kQ):Prop:=let h:Hp:=.replicate 1 nnQ
 alV 0 [.d (.str []),.d (.str [])] h fun d h=>lp (Fy C) [] h [a,c] h (exK [((.exit 0),fun e h=>bIQ .lss (ge e 0) (I 0) fun f=>jn (fun e h=>bIQ .quo a (ge e 0) fun a=>clQ C h F.strconv_Itoa [a] fun a h=>bIQ .quo c (ge e 0) fun c=>clQ C h F.strconv_Itoa [c] fun c h=>bnd (bld [(0,1),(1,1)] [.str [],.str []] [(0,a),(1,c)]) fun a=>stD h 2 d a fun _ h=>bnd (ldA h 2 d) fun a=>q a h) fun a=>cnd f (bnd (unV .neg (ge e 0)) fun c=>a [c] h) (a [ge e 0] h))])
theorem PV(h:DK (CX Y) t0 t1 (out v)):CP Y F.DK [t0,t1] v:=CPo 1 (nBQ (nRQ [.slot 0]) (mu (nBQ (nCQ (.n (.l [5,6] [0,1,4] [((.exit 0),[5],[0,1,4])] []) .o .o)) (nCQ (mu (nJQ [5] [0,1,4])))))) Tryz.func148 h
def Bo(C:CC)(a c:V)(q:kQ):Prop:=let h:Hp:=.replicate 1 nnQ
 alV 0 [.d (.str []),.d (.str [])] h fun d h=>clQ C h F.BR [c] fun e h=>bIQ .lss e (I 0) fun e=>jn (fun a h=>clQ C h F.Gn [ge a 0,ge a 1] fun c h=>bSQ .neq c (.d (.str [49])) fun e=>jn (fun a h=>bnd (bld [(0,1),(1,1)] [.str [],.str []] [(0,(ge a 0)),(1,(ge a 1))]) fun a=>stD h 2 d a fun _ h=>bnd (ldA h 2 d) fun a=>q a h) fun d=>cnd e (clQ C h F.Bt [ge a 0,c] fun e h=>e3Q e fun e f g=>clQ C h F.Bt [ge a 1,c] fun a h=>e3Q a fun a c f=>d [e,a] h) (d [ge a 0,ge a 1] h)) fun d=>cnd e (clQ C h F.GW [a] fun a h=>clQ C h F.GW [c] fun c h=>d [a,c] h) (d [a,c] h)
theorem Mn(h:Bo (CX Y) t0 t1 (out v)):CP Y F.Bo [t0,t1] v:=CPo 1 (nBQ (nRQ [.slot 0]) (nBQ (mu (nJQ [0,1] [4])) (nCQ (zq (nJQ [0,1] [4]))))) Tryz.func91 h
def C5(C:CC)(a c:V)(q:kQ):Prop:=let h:Hp:=.replicate 3 nnQ
 oR 0 a h fun a h=>oR 1 c h fun c h=>alV 2 [.d (.str []),.d (.str [])] h fun d h=>bfQ 1 a fun e=>b1Q h e fun e=>bSQ .eql e (.d (.str [49])) fun e=>gbQ e true h (faV 1 c) fun f h=>gbQ e true h (ld1 h f) fun f h=>gbQ e true h (biS .eql f (.d (.str [49]))) fun f h=>bpQ e f (B false) fun e=>cnd e (bfQ 0 a fun a=>b1Q h a fun a=>bfQ 0 c fun c=>b1Q h c fun c=>clQ C h F.BL [a,c] fun a h=>bnd (bld [(0,1),(1,1)] [.str [],.str []] [(0,a),(1,(.d (.str [49])))]) fun a=>stD h 2 d a fun _ h=>bnd (ldA h 2 d) fun a=>q a h) (bnd (ldA h 2 a) fun e=>clQ C h F.Cl [e] fun e h=>e3Q e fun e f g=>jn (fun e h=>bfQ 0 a fun e=>b1Q h e fun e=>bfQ 1 c fun f=>b1Q h f fun f=>clQ C h F.A7 [e,f] fun e h=>bfQ 0 c fun f=>b1Q h f fun f=>bfQ 1 a fun g=>b1Q h g fun g=>clQ C h F.A7 [f,g] fun f h=>clQ C h F.BL [e,f] fun e h=>bfQ 1 a fun a=>b1Q h a fun a=>bfQ 1 c fun c=>b1Q h c fun c=>clQ C h F.A7 [a,c] fun a h=>clQ C h F.Bo [e,a] fun a h=>stD h 2 d a fun _ h=>bnd (ldA h 2 d) fun a=>q a h) fun a=>cnd g (bnd (ldA h 2 c) fun c=>clQ C h F.Cl [c] fun c h=>e3Q c fun c g i=>cnd i (bIQ .mul e g fun a=>bIQ .mul c f fun c=>bIQ .add a c fun a=>bIQ .mul f g fun c=>clQ C h F.DK [a,c] fun a h=>stD h 2 d a fun _ h=>bnd (ldA h 2 d) fun a=>q a h) (a [] h)) (a [] h))
def Iu:Ann:=(nBQ (nRQ [.slot 0,.slot 1,.slot 2]) (mu (nCQ (zq (nJQ [] [2,3,4])))))
theorem Pg(C:CC)(t0:V)(t1:V)(q:kkQ):fnD Y C Tryz.f119 3 Iu [t0,t1] q=C5 C t0 t1 q:=by kernel_rfl
theorem Pe:okB Tryz.prog Tryz.f119 Iu=true:=dQ
theorem Pf(h:C5 (CX Y) t0 t1 (out v)):CP Y F.C5 [t0,t1] v:=
 CP.of (fn:=Tryz.f119) (m:=3) (a:=Iu) rfl (fun _=>rfl) Tryz.func119 Pe (by rw[Pg];exact h)
def EW(C:CC)(a c:V)(q:kQ):Prop:=let h:Hp:=.replicate 3 nnQ
 oR 0 a h fun a h=>oR 1 c h fun c h=>alV 2 [.d (.str []),.d (.str [])] h fun d h=>bnd (ldA h 2 a) fun e=>clQ C h F.Cl [e] fun e h=>e3Q e fun e f g=>jn (fun e h=>bfQ 0 a fun e=>b1Q h e fun e=>bfQ 0 c fun f=>b1Q h f fun f=>clQ C h F.A7 [e,f] fun e h=>bfQ 1 a fun a=>b1Q h a fun a=>bfQ 1 c fun c=>b1Q h c fun c=>clQ C h F.A7 [a,c] fun a h=>clQ C h F.Bo [e,a] fun a h=>stD h 2 d a fun _ h=>bnd (ldA h 2 d) fun a=>q a h) fun a=>cnd g (bnd (ldA h 2 c) fun c=>clQ C h F.Cl [c] fun c h=>e3Q c fun c g i=>cnd i (bIQ .mul e c fun a=>bIQ .mul f g fun c=>clQ C h F.DK [a,c] fun a h=>stD h 2 d a fun _ h=>bnd (ldA h 2 d) fun a=>q a h) (a [] h)) (a [] h)
theorem Pd(h:EW (CX Y) t0 t1 (out v)):CP Y F.EW [t0,t1] v:=CPo 3 (nBQ (nRQ [.slot 0,.slot 1,.slot 2]) (nCQ (zq (nJQ [] [2,3,4])))) Tryz.func120 h
def DL(C:CC)(a:V)(q:kQ):Prop:=let h:Hp:=.replicate 1 nnQ
 oR 0 a h fun a h=>bfQ 0 a fun a=>b1Q h a fun a=>clQ C h F.BR [a] q
theorem NR(h:DL (CX Y) t0 (out v)):CP Y F.DL [t0] v:=CPo 1 (nCQ (nRQ [.slot 0])) Tryz.func27 h
def FL(C:CC)(a c:V)(q:kQ):Prop:=let h:Hp:=.replicate 1 nnQ
 alV 0 [.d (.str []),.d (.str [])] h fun d h=>clQ C h F.BR [c] fun e h=>cIQ .eql e (I 0) (bnd (bld [(0,1),(1,1)] [.str [],.str []] []) fun a=>stD h 2 d a fun _ h=>bnd (ldA h 2 d) fun a=>q (.tup [a,I 17]) h) (clQ C h F.Bo [a,c] fun a h=>stD h 2 d a fun _ h=>bnd (ldA h 2 d) fun a=>q (.tup [a,I 0]) h)
theorem Pb(h:FL (CX Y) t0 t1 (out v)):CP Y F.FL [t0,t1] v:=CPo 1 (nCQ (nRQ [.slot 0])) Tryz.func70 h
def En(C:CC)(a c:V)(q:kQ):Prop:=let h:Hp:=.replicate 1 nnQ
 alV 0 [.d (.str []),.d (.str [])] h fun d h=>clQ C h F.Cv [a] fun a h=>clQ C h F.Cv [c] fun c h=>clQ C h F.FL [a,c] fun a h=>e2Q a fun a c=>stD h 2 d a fun _ h=>bnd (ldA h 2 d) fun a=>q (.tup [a,c]) h
theorem PW(h:En (CX Y) t0 t1 (out v)):CP Y F.En [t0,t1] v:=CPo 1 (nCQ (nRQ [.slot 0])) Tryz.func46 h
def F6(C:CC)(a c d:V):AP:=fun l h q=>cIQ .lss (ge l 0) d (bxQ h 2 c (ge l 0) fun c=>bnd (ldA h 2 c) fun c=>alV 2 [.d (.str []),.d (.str [])] h fun d h=>stD h 2 d c fun _ h=>bfQ 2 a fun c=>b1Q h c fun c=>bfQ 1 d fun d=>b1Q h d fun d=>clQ C h F.GX [c,d] fun c h=>bfQ 2 a fun a=>stD h 1 a c fun _ h=>bIQ .add (ge l 0) (I 1) fun a=>q .normal [a] h) (q (.exit 0) [] h)
def E3(C:CC)(a c d e:V):AP:=fun l h q=>cIQ .lss (ge l 0) e (jn (fun a h=>bIQ .add (ge l 0) (I 1) fun a=>q .normal [a] h) fun e=>bxQ h 2 d (ge l 0) fun d=>bnd (ldA h 2 d) fun d=>alV 3 [.d (.str []),.d (.str [])] h fun f h=>stD h 2 f d fun _ h=>bfQ 0 f fun d=>b1Q h d fun d=>bSQ .neq d (.d (.str [48])) fun d=>jn (fun a h=>e [] h) fun e=>cnd d (bfQ 2 c fun d=>b1Q h d fun d=>bfQ 1 f fun g=>b1Q h g fun g=>clQ C h F.Bt [d,g] fun d h=>e3Q d fun d g i=>bfQ 0 c fun g=>sm h c g<|b1Q h g fun g=>bxQ h 1 a (ge l 0) fun a=>b1Q h a fun a=>mB 1 [.int .i64 0] [(0,a)] h fun a h=>sp h g [c,f]<|apV false 4 1 8 g a h fun a h=>bfQ 1 c fun g=>sm h c g<|b1Q h g fun g=>bfQ 0 f fun i=>sm h f i<|b1Q h i fun f=>clQ C h F.A7 [f,d] fun d h=>mB 1 [.str []] [(0,d)] h fun d h=>apV false 5 1 16 g d h fun d h=>bfQ 0 c fun f=>stD h 1 f a fun _ h=>bfQ 1 c fun a=>stD h 1 a d fun _ h=>e [] h) (e [] h)) (q (.exit 2) [] h)
def Ea(C:CC)(a c:V)(q:kQ):Prop:=let h:Hp:=.replicate 6 nnQ
 alV 0 [.d nPQ,.d nPQ,.d (.str [])] h fun d h=>bnd (bld [(0,1),(1,1),(2,1)] [nPQ,nPQ,.str []] [(2,(.d (.str [49])))]) fun e=>alV 1 [.d nPQ,.d nPQ,.d (.str [])] h fun f h=>stD h 3 f e fun _ h=>blQ c fun e=>lp (F6 C f c e) [2] h [I 0] h (exK [((.exit 0),fun e h=>blQ c fun e=>lp (E3 C a f c e) [3] h [I 0] h (exK [((.exit 2),fun a h=>bnd (ldA h 3 f) fun a=>stD h 3 d a fun _ h=>bnd (ldA h 3 d) fun a=>q a h)]))])
def Ih:Ann:=(nBQ (nRQ [.slot 0]) (nBQ (nRQ [.slot 1]) (nBQ (mu (nCQ (.n (.l [16] [0,1,4,5,14,15] [((.exit 0),[],[0,1,4,5])] [2]) (zq (nCQ (nCQ (nCQ (nRQ [.slot 2]))))) .o))) (nCQ (mu (nCQ (.n (.l [29] [0,4,5,27,28] [((.exit 2),[],[4,5])] [3]) (zq (nCQ (.n (.j [] [0,4,5,27,28,29]) (nBQ (nRQ [.slot 3]) (mu (.n (.j [] [0,4,5,27,28,29]) (mu (nRQ [.o,.slot 4,.o,.o,.slot 5])) .o))) .o))) .o)))))))
theorem OO(C:CC)(t0:V)(t1:V)(q:kkQ):fnD Y C Tryz.f102 6 Ih [t0,t1] q=Ea C t0 t1 q:=by kernel_rfl
theorem OM:okB Tryz.prog Tryz.f102 Ih=true:=dQ
theorem ON(h:Ea (CX Y) t0 t1 (out v)):CP Y F.Ea [t0,t1] v:=
 CP.of (fn:=Tryz.f102) (m:=6) (a:=Ih) rfl (fun _=>rfl) Tryz.func102 OM (by rw[OO];exact h)
def Cy(C:CC)(a:V)(q:kQ):Prop:=let h:Hp:=.replicate 1 nnQ
 oR 0 a h fun a h=>q (.fn F.bN [] [a]) h
theorem MQ(h:Cy (CX Y) t0 (out v)):CP Y F.Cy [t0] v:=CPo 1 (nCQ (nRQ [.slot 0])) Tryz.func153 h
def ET(C:CC)(a c d:V):nN:=fun l h q=>
 b1Q h a fun a=>
 clQ C h F.Ii [ge l 0,a] fun a h=>
 bIQ .neq (ge l 0) (I 2) fun e=>
 jn (fun e h=>
 clQ C h F.A7 [a,ge l 1] fun a h=>
 clQ C h F.A7 [ge e 0,ge l 1] fun e h=>
 clQ C h F.BR [ge l 1] fun f h=>
 bIQ .lss f (I 0) fun f=>
 jn (fun a h=>
 b1Q h c fun e=>
 clQ C h F.BL [e,ge a 0] fun e h=>
 b1Q h d fun f=>
 clQ C h F.BL [f,ge a 1] fun a h=>
 stD h 1 c e fun _ h=>
 stD h 1 d a fun _ h=>
 q .normal h) fun c=>
 cnd f (
 c [e,a] h) (
 c [a,e] h)) fun c=>
 cnd e (
 clQ C h F.BL [a,(.d (.str [49]))] fun a h=>
 c [a] h) (
 c [a] h)
def Do(C:CC)(a c:V)(q:kQ):Prop:=let h:Hp:=.replicate 4 nnQ
 oR 0 a h fun a h=>oR 1 c h fun c h=>alV 2 [.d (.str [])] h fun d h=>alV 3 [.d (.str [])] h fun e h=>stD h 1 d (.d (.str [48])) fun _ h=>stD h 1 e (.d (.str [48])) fun _ h=>bnd (ldA h 3 a) fun a=>clQ C h F.Cy [a] fun a h=>rgO (sqV Y.seq a) 2 (ET C c d e) [] h (fun ex h=>exK [(.normal,fun _ h=>b1Q h d fun a=>b1Q h e fun c=>sp h d [e]<|stD h 1 d a fun _ h=>stD h 1 e c fun _ h=>b1Q h d fun a=>b1Q h e fun c=>q (.tup [a,c]) h)] ex [] h)
theorem LX(h:Do (CX Y) t0 t1 (out v)):CP Y F.Do [t0,t1] v:=CPo 4 (nBQ (nRQ [.slot 0,.slot 1,.slot 2,.slot 3]) (mu (nCQ (mu (nCQ (.n (.l [] [3,4,5] [(.normal,[],[4,5])] []) .o (nCQ (zq (nBQ (mu (nJQ [9] [4,5,7,8])) (mu (nCQ (mu (nJQ [8,9] [4,5]))))))))))))) Tryz.func127 h
def BY(C:CC)(a c d e:V):nN:=fun l h q=>
 clQ C h F.Gm [ge l 1] fun f h=>
 ext f 0 fun g=>
 ext f 1 fun f=>
 bnd (unV .not f) fun f=>
 gqQ f false h g fun i h=>
 gbQ f false h (ld1 h a) fun j h=>
 gbQ f false h (biI .gtr i j) fun i h=>
 bpQ f (B true) i fun f=>
 gqQ f false h g fun i h=>
 gbQ f false h (ld1 h a) fun a h=>
 gbQ f false h (unV .neg a) fun a h=>
 gbQ f false h (biI .lss i a) fun a h=>
 bpQ f (B true) a fun a=>
 cnd a (
 stD h 1 c (I 0) fun _ h=>
 stD h 1 d (I 0) fun _ h=>
 stD h 1 e (B false) fun _ h=>
 q .ret h) (
 clQ C h F.HW [ge l 0] fun a h=>
 ext a 0 fun f=>
 ext a 1 fun a=>
 bnd (unV .not a) fun a=>
 cnd a (
 stD h 1 c (I 0) fun _ h=>
 stD h 1 d (I 0) fun _ h=>
 stD h 1 e (B false) fun _ h=>
 q .ret h) (
 bIQ .add f (I 1) fun a=>
 bIQ .eql (ge l 0) (I 2) fun e=>
 jn (fun a h=>
 b1Q h c fun e=>
 bIQ .mul g f fun i=>
 bIQ .mul g (ge a 0) fun j=>
 bnd (mxI false [i,j]) fun i=>
 bIQ .add e i fun e=>
 b1Q h d fun i=>
 bIQ .mul g f fun f=>
 bIQ .mul g (ge a 0) fun a=>
 bnd (mxI true [f,a]) fun a=>
 bIQ .add i a fun a=>
 sp h c [d]<|stD h 1 c e fun _ h=>
 stD h 1 d a fun _ h=>
 q .normal h) fun c=>
 cnd e (
 c [f] h) (
 c [a] h)))
def CK(C:CC)(a c:V)(q:kQ):Prop:=let h:Hp:=.replicate 5 nnQ
 oR 0 a h fun a h=>oR 1 c h fun c h=>alV 2 [.d (.int .i64 0)] h fun d h=>alV 3 [.d (.int .i64 0)] h fun e h=>alV 4 [.d (.bool false)] h fun f h=>bnd (ldA h 3 a) fun a=>clQ C h F.Cy [a] fun a h=>rgO (sqV Y.seq a) 2 (BY C c d e f) [] h (fun ex h=>exK [(.ret,fun _ h=>b1Q h d fun a=>b1Q h e fun c=>b1Q h f fun d=>q (.tup [a,c,d]) h),(.normal,fun _ h=>b1Q h d fun a=>b1Q h e fun c=>sp h d [e]<|stD h 1 d a fun _ h=>stD h 1 e c fun _ h=>stD h 1 f (B true) fun _ h=>b1Q h d fun a=>b1Q h e fun c=>b1Q h f fun d=>q (.tup [a,c,d]) h)] ex [] h)
def Gz:Ann:=(nBQ (nRQ [.slot 0,.slot 1,.slot 2,.slot 3,.slot 4]) (nCQ (mu (nCQ (.n (.l [] [3,4,5,6] [(.ret,[],[4,5,6]),(.normal,[],[4,5,6])] []) .o (nCQ (zn (nCQ (mu (nJQ [13] [4,5,9,11]))))))))))
theorem LW(C:CC)(t0:V)(t1:V)(q:kkQ):fnD Y C Tryz.f152 5 Gz [t0,t1] q=CK C t0 t1 q:=by kernel_rfl
theorem LU:okB Tryz.prog Tryz.f152 Gz=true:=dQ
theorem LV(h:CK (CX Y) t0 t1 (out v)):CP Y F.CK [t0,t1] v:=
 CP.of (fn:=Tryz.f152) (m:=5) (a:=Gz) rfl (fun _=>rfl) Tryz.func152 LU (by rw[LW];exact h)
def C3(C:CC)(a:V)(q:kQ):Prop:=let h:Hp:=.replicate 1 nnQ
 oR 0 a h fun a h=>bnd (ldA h 3 a) fun a=>clQ C h F.CK [a,I 10000000] fun a h=>e3Q a fun a c d=>bnd (unV .not d) fun d=>cnd d (q (I 0) h) (cIQ .geq a (I 0) (q (I 1) h) (cIQ .leq c (I 0) (q (I (-1)) h) (q (I 0) h)))
theorem Lo(h:C3 (CX Y) t0 (out v)):CP Y F.C3 [t0] v:=CPo 1 (nCQ (nRQ [.slot 0])) Tryz.func126 h
def F7(C:CC)(a:V):AP:=fun l h q=>bnd (ldA h 3 a) fun a=>clQ C h F.Do [a,ge l 0] fun a h=>e2Q a fun a c=>clQ C h F.BR [a] fun a h=>cIQ .geq a (I 0) (q .ret [I 1] h) (clQ C h F.BR [c] fun a h=>cIQ .leq a (I 0) (q .ret [I (-1)] h) (bIQ .mul (ge l 0) (I 2) fun a=>q .normal [a] h))
def Co(C:CC)(a:V)(q:kQ):Prop:=let h:Hp:=.replicate 1 nnQ
 oR 0 a h fun a h=>bfQ 0 a fun c=>b1Q h c fun c=>blQ c fun c=>cIQ .eql c (I 0) (q (I 0) h) (bnd (ldA h 3 a) fun c=>clQ C h F.C3 [c] fun c h=>nzQ c (q c h) (lp (F7 C a) [] h [I 64] h (exK [(.ret,fun a h=>q (ge a 0) h)])))
theorem LS(h:Co (CX Y) t0 (out v)):CP Y F.Co [t0] v:=CPo 1 (nBQ (nRQ [.slot 0]) (nCQ (zo (nCQ (.n (.l [4] [1] [(.ret,[2],[])] []) .o .o))))) Tryz.func103 h
def HI(C:CC):AP:=fun l h q=>cIQ .lss (ge l 3) (I 26) (jn (fun a h=>bIQ .add (ge l 3) (I 1) fun c=>q .normal [ge a 0,ge a 1,ge a 2,c] h) fun a=>clQ C h F.CN [ge l 0,ge l 0] fun c h=>e2Q c fun c d=>bIQ .shl c (.d (.int .u64 2)) fun c=>bIQ .shr d (.d (.int .u64 62)) fun d=>bIQ .or c d fun c=>clQ C h F.CN [ge l 1,ge l 1] fun d h=>e2Q d fun d e=>bIQ .shl d (.d (.int .u64 2)) fun d=>bIQ .shr e (.d (.int .u64 62)) fun e=>bIQ .or d e fun d=>bIQ .add d (.d (.int .u64 1)) fun d=>bIQ .mul (ge l 2) (I 2) fun e=>bIQ .geq c (.d (.int .u64 9223372036854775808)) fun f=>jn (fun c h=>a [ge c 1,ge c 2,ge c 0] h) fun a=>cnd f (bIQ .add e (I 1) fun e=>bIQ .shr c (.d (.int .u64 1)) fun c=>bIQ .shr d (.d (.int .u64 1)) fun d=>bIQ .add d (.d (.int .u64 1)) fun d=>a [e,c,d] h) (cIQ .geq d (.d (.int .u64 9223372036854775808)) (q .ret [I 0,B false] h) (a [e,c,d] h))) (q (.exit 0) [ge l 2] h)
def HW(C:CC)(a:V)(q:kQ):Prop:=let h:Hp:=[]
 bnd (cvI .u64 a) fun c=>clQ C h F.Eu [c] fun c h=>bIQ .sub c (I 1) fun c=>bnd (cvI .u64 a) fun a=>bIQ .sub (I 62) c fun d=>bIQ .shl a d fun a=>lp (HI C) [] h [a,a,c,I 0] h (exK [((.exit 0),fun a h=>q (.tup [ge a 0,B true]) h),(.ret,fun a h=>q (.tup [ge a 0,ge a 1]) h)])
theorem SK(h:HW (CX Y) t0 (out v)):CP Y F.HW [t0] v:=CPo 0 (zn (nCQ (mu (nCQ (.n (.l [5,6,7,21] [] [((.exit 0),[7],[]),(.ret,[2,3],[])] []) (zq (nCQ (.n (.j [5,6,7] [21]) (zm (nJQ [7,5,6] [21])) .o))) .o))))) Tryz.func168 h
def Ny(C:CC)(a c:V):AP:=fun l h q=>clQ C h F.size_digits [a,c,ge l 0] fun a h=>e2Q a fun a c=>cnd c (q .ret [a] h) (bIQ .mul (ge l 0) (I 2) fun a=>q .normal [a] h)
def Ii(C:CC)(a c:V)(q:kQ):Prop:=let h:Hp:=[]
 cIQ .eql a (I 2) (clQ C h F.EP [(.d (.str [50])),c] fun a h=>e2Q a fun a c=>q a h) (bIQ .add c (I 64) fun d=>lp (Ny C a c) [] h [d] h (exK [(.ret,fun a h=>q (ge a 0) h)]))
theorem Uq(h:Ii (CX Y) t0 t1 (out v)):CP Y F.Ii [t0,t1] v:=CPo 0 (zp (nCQ (.n (.l [7] [0,1] [(.ret,[4],[])] []) .o .o))) Tryz.func154 h
def GA(C:CC)(a c d:V):AP:=fun l h q=>cIQ .lss (ge l 3) d (jn (fun a h=>bIQ .add (ge l 3) (I 1) fun c=>q .normal [ge a 0,ge a 1,ge a 2,c] h) fun d=>clQ C h F.A7 [ge l 0,ge l 0] fun e h=>clQ C h F.Bt [e,a] fun e h=>e3Q e fun e f g=>clQ C h F.A7 [ge l 1,ge l 1] fun f h=>clQ C h F.Bt [f,a] fun a h=>e3Q a fun a f g=>clQ C h F.BL [a,(.d (.str [49]))] fun a h=>clQ C h F.BL [ge l 2,ge l 2] fun f h=>jn (fun a h=>d [ge a 1,ge a 2,ge a 0] h) fun d=>clQ C h F.Er [e,c] fun g h=>bIQ .geq g (I 0) fun g=>jn (fun a h=>d [ge a 0,ge a 1,ge a 2] h) fun d=>cnd g (clQ C h F.BL [f,(.d (.str [49]))] fun c h=>clQ C h F.Bt [e,(.d (.str [50]))] fun e h=>e3Q e fun e f g=>clQ C h F.Bt [a,(.d (.str [50]))] fun a h=>e3Q a fun a f g=>clQ C h F.BL [a,(.d (.str [49]))] fun a h=>d [c,e,a] h) (clQ C h F.Er [a,c] fun c h=>cIQ .geq c (I 0) (q .ret [(.d (.str [])),B false] h) (d [f,e,a] h))) (q (.exit 0) [ge l 2] h)
def size_digits(C:CC)(a c d:V)(q:kQ):Prop:=let h:Hp:=[]
 bnd (cvI .u64 a) fun e=>clQ C h F.Eu [e] fun e h=>bIQ .sub e (I 1) fun e=>clQ C h F.EP [(.d (.str [50])),d] fun f h=>e2Q f fun f g=>clQ C h F.BL [f,f] fun g h=>bIQ .sub d e fun d=>clQ C h F.EP [(.d (.str [50])),d] fun d h=>e2Q d fun d i=>clQ C h F.Cv [a] fun a h=>clQ C h F.A7 [a,d] fun a h=>clQ C h F.Cv [e] fun d h=>lp (GA C f g c) [] h [a,a,d,I 0] h (exK [((.exit 0),fun a h=>q (.tup [ge a 0,B true]) h),(.ret,fun a h=>q (.tup [ge a 0,ge a 1]) h)])
theorem PR(h:size_digits (CX Y) t0 t1 t2 (out v)):CP Y F.size_digits [t0,t1,t2] v:=CPo 0 (Av (mu (nCQ (mu (nCQ (.n (.l [14,15,16,50] [9,11,49] [((.exit 0),[16],[]),(.ret,[6,7],[])] []) (zq (nCQ (.n (.j [14,15,16] [9,11,49,50]) (zo (.n (.j [16,14,15] [9,11,49,50]) (mu (nJQ [16,14,15] [9,11,49,50])) .o)) .o))) .o)))))) Tryz.func171 h
def Bc(C:CC)(a c d:V):AP:=fun l h q=>cIQ .lss (ge l 0) d (bxQ h 2 a (ge l 0) fun a=>bnd (ldA h 2 a) fun a=>cal C.p h c [a] fun a h=>cnd a (q .ret [ge l 0] h) (bIQ .add (ge l 0) (I 1) fun a=>q .normal [a] h)) (q (.exit 0) [] h)
def AX(C:CC)(a c:V)(q:kQ):Prop:=let h:Hp:=[]
 blQ a fun d=>lp (Bc C a c d) [] h [I 0] h (exK [((.exit 0),fun a h=>q (I (-1)) h),(.ret,fun a h=>q (ge a 0) h)])
theorem EG(h:AX (CX Y) t0 t1 (out v)):CP Y F.AX [t0,t1] v:=CPo 0 (mu (nCQ (mu (nCQ (.n (.l [8] [0,1,7] [((.exit 0),[],[]),(.ret,[4],[])] []) .o .o))))) Tryz.func121 h
def AL(C:CC)(a c:V)(q:kQ):Prop:=let h:Hp:=[]
 clQ C h F.AX [a,c] fun a h=>bIQ .geq a (I 0) fun a=>q a h
theorem D9(h:AL (CX Y) t0 t1 (out v)):CP Y F.AL [t0,t1] v:=CPo 0 .o Tryz.func98 h
def Bn(C:CC)(a c d:V):AP:=fun l h q=>cIQ .lss (ge l 0) d (bxQ h 2 a (ge l 0) fun a=>bnd (ldA h 2 a) fun a=>cal C.p h c [a] fun a h=>cnd a (q .ret [ge l 0] h) (bIQ .add (ge l 0) (I 1) fun a=>q .normal [a] h)) (q (.exit 0) [] h)
def A8(C:CC)(a c:V)(q:kQ):Prop:=let h:Hp:=[]
 blQ a fun d=>lp (Bn C a c d) [] h [I 0] h (exK [((.exit 0),fun a h=>q (I (-1)) h),(.ret,fun a h=>q (ge a 0) h)])
theorem Fb(h:A8 (CX Y) t0 t1 (out v)):CP Y F.A8 [t0,t1] v:=CPo 0 (mu (nCQ (mu (nCQ (.n (.l [8] [0,1,7] [((.exit 0),[],[]),(.ret,[4],[])] []) .o .o))))) Tryz.func149 h
def AQ(C:CC)(a c:V)(q:kQ):Prop:=let h:Hp:=[]
 clQ C h F.A8 [a,c] fun a h=>bIQ .geq a (I 0) fun a=>q a h
theorem EO(h:AQ (CX Y) t0 t1 (out v)):CP Y F.AQ [t0,t1] v:=CPo 0 .o Tryz.func122 h
def CL(C:CC)(a:V)(q:kQ):Prop:=let h:Hp:=.replicate 1 nnQ
 alV 0 [.d (.str []),.d (.str [])] h fun c h=>clQ C h F.Cv [a] fun a h=>bnd (bld [(0,1),(1,1)] [.str [],.str []] [(0,a),(1,(.d (.str [49])))]) fun a=>stD h 2 c a fun _ h=>bnd (ldA h 2 c) fun a=>q a h
theorem PQ(h:CL (CX Y) t0 (out v)):CP Y F.CL [t0] v:=CPo 1 (nCQ (nRQ [.slot 0])) Tryz.func84 h
def HG(C:CC)(b:Nat)(a c:V):AP:=fun l h q=>cIQ .lss (ge l 0) c (clQ C h F.CL [I 0] fun c h=>bxQ h 2 a (ge l 0) fun a=>stD h 2 a c fun _ h=>bIQ .add (ge l 0) (I 1) fun a=>q .normal [a] h) (q (.exit 0) [] h)
def FC(C:CC)(b:Nat)(h:Hp)(a:V)(q:kQ):Prop:=let h:Hp:=h++List.replicate 1 nnQ
 mkS (b+0) 32 [.str [],.str []] h a a fun a h=>blQ a fun c=>lp (HG C b a c) [] h [I 0] h (exK [((.exit 0),fun c h=>q a h)])
def J9(b:Nat):Ann:=(.n .x .o (.n .x (.n (.r [.slot (b+0)]) .o .o) (.n .x (.n .x .o (.n .x (.n (.l [9] [3,8] [((.exit 0),[],[3])] []) .o .o) .o)) .o)))
theorem SJ(C:CC)(h:Hp)(t0:V)(q:kkQ):fnI Y C Tryz.f83 1 J9 [t0] h q=FC C h.length h t0 q:=by rfl
theorem SH(b:Nat):okB Tryz.prog Tryz.f83 (J9 b)=true:=by rfl
theorem SI(hh:FC (CX Y) h.length h t0 (pY h.length v h2)):CI Y F.FC [t0] h v h2:=
 CI.of (fn:=Tryz.f83) (m:=1) (a:=J9) rfl (fun _=>rfl) Tryz.func83 (SH _) (by rw[SJ];exact hh)
def Hg(C:CC)(a c d e f:V):AP:=fun l h q=>cIQ .lss (ge l 0) f (bxQ h 2 e (ge l 0) fun e=>bnd (ldA h 2 e) fun e=>alV 1 [.d (.str []),.d (.str [])] h fun f h=>stD h 2 f e fun _ h=>bxQ h 2 c (ge l 0) fun e=>bnd (ldA h 2 e) fun e=>bnd (ldA h 2 f) fun f=>bxQ h 2 a d fun a=>bnd (ldA h 2 a) fun a=>clQ C h F.EW [f,a] fun a h=>clQ C h F.C5 [e,a] fun a h=>bxQ h 2 c (ge l 0) fun c=>stD h 2 c a fun _ h=>bIQ .add (ge l 0) (I 1) fun a=>q .normal [a] h) (q (.exit 2) [] h)
def IF(C:CC)(a c d e:V):AP:=fun l h q=>cIQ .lss (ge l 0) e (bxQ h 1 d (ge l 0) fun d=>b1Q h d fun d=>blQ d fun e=>lp (Hg C a c (ge l 0) d e) [1] h [I 0] h (exK [((.exit 2),fun a h=>bIQ .add (ge l 0) (I 1) fun a=>q .normal [a] h)])) (q (.exit 0) [] h)
def FW(C:CC)(a c d:V)(q:kQ):Prop:=let h:Hp:=.replicate 2 nnQ
 ciQ C h F.FC [a] 0 fun a h=>blQ c fun e=>lp (IF C d a c e) [1] h [I 0] h (exK [((.exit 0),fun c h=>q a h)])
def Lp:Ann:=(mu (nBQ (nRQ [.inl 0]) (nCQ (mu (nCQ (.n (.l [16] [2,7,14,15] [((.exit 0),[],[7])] [1]) (zq (nCQ (nCQ (zq (nCQ (.n (.l [23] [2,7,8,14,15,16,21,22] [((.exit 2),[],[2,7,14,15,16])] [1]) (zq (nCQ (nCQ (nCQ (nRQ [.slot 1]))))) .o)))))) .o))))))
theorem Up(C:CC)(t0:V)(t1:V)(t2:V)(q:kkQ):fnD Y C Tryz.f97 2 Lp [t0,t1,t2] q=FW C t0 t1 t2 q:=by kernel_rfl
theorem Un:okB Tryz.prog Tryz.f97 Lp=true:=dQ
theorem Uo(h:FW (CX Y) t0 t1 t2 (out v)):CP Y F.FW [t0,t1,t2] v:=
 CP.of (fn:=Tryz.f97) (m:=2) (a:=Lp) rfl (fun _=>rfl) Tryz.func97 Un (by rw[Up];exact h)
def FG(C:CC)(a c d:V):AP:=fun l h q=>cIQ .lss (ge l 0) d (bxQ h 1 c (ge l 0) fun c=>b1Q h c fun c=>clQ C h F.EU [a,c] fun a h=>nzQ a (q .ret [a] h) (bIQ .add (ge l 0) (I 1) fun a=>q .normal [a] h)) (q (.exit 0) [] h)
def DI(C:CC)(a c:V)(q:kQ):Prop:=let h:Hp:=[]
 clQ C h F.CM [a] fun d h=>nzQ d (q d h) (blQ c fun d=>lp (FG C a c d) [] h [I 0] h (exK [((.exit 0),fun a h=>q (I 0) h),(.ret,fun a h=>q (ge a 0) h)]))
theorem NL(h:DI (CX Y) t0 t1 (out v)):CP Y F.DI [t0,t1] v:=CPo 0 (zq (nCQ (mu (nCQ (.n (.l [16] [0,14,15] [((.exit 0),[],[]),(.ret,[4],[])] []) .o .o))))) Tryz.func42 h
def Gp(C:CC)(a:V)(q:kQ):Prop:=let h:Hp:=[]
 clQ C h F.AQ [a,(.fn F.D2 [] [])] fun c h=>cnd c (q (.tup [nSQ,I 4]) h) (q (.tup [a,I 0]) h)
theorem PP(h:Gp (CX Y) t0 (out v)):CP Y F.Gp [t0] v:=CPo 0 .o Tryz.func100 h
def D2(C:CC)(a:V)(q:kQ):Prop:=let h:Hp:=.replicate 1 nnQ
 oR 0 a h fun a h=>bnd (ldA h 2 a) fun a=>clQ C h F.Ft [a] fun a h=>bnd (unV .not a) fun a=>q a h
theorem MR(h:D2 (CX Y) t0 (out v)):CP Y F.D2 [t0] v:=CPo 1 (nCQ (nRQ [.slot 0])) Tryz.func123 h
def EV(C:CC)(a c d:V)(q:kQ):Prop:=let h:Hp:=[]
 clQ C h F.DI [a,c] fun e h=>nzQ e (q (.tup [nSQ,e]) h) (blQ d fun e=>blQ c fun f=>cIQ .neq e f (q (.tup [nSQ,I 5]) h) (clQ C h F.AL [d,(.fn F.Dp [] [])] fun e h=>cnd e (q (.tup [nSQ,I 2]) h) (blQ a fun a=>clQ C h F.FW [a,c,d] fun a h=>clQ C h F.Gp [a] fun a h=>e2Q a fun a c=>q (.tup [a,c]) h)))
theorem OR(h:EV (CX Y) t0 t1 t2 (out v)):CP Y F.EV [t0,t1,t2] v:=CPo 0 .o Tryz.func80 h
def Dp(C:CC)(a:V)(q:kQ):Prop:=let h:Hp:=.replicate 1 nnQ
 oR 0 a h fun a h=>bnd (ldA h 2 a) fun a=>clQ C h F.Cm [a] fun a h=>bIQ .neq a (I 0) fun a=>q a h
theorem LY(h:Dp (CX Y) t0 (out v)):CP Y F.Dp [t0] v:=CPo 1 (nCQ (nRQ [.slot 0])) Tryz.func99 h
def F8(C:CC)(a c d:V)(q:kQ):Prop:=let h:Hp:=.replicate 1 nnQ
 oR 0 d h fun d h=>mB 1 [nPQ] [(0,c)] h fun c h=>bnd (ldA h 2 d) fun d=>mB 1 [.str [],.str []] [(0,d)] h fun d h=>clQ C h F.EV [a,c,d] fun a h=>e2Q a fun a c=>q (.tup [a,c]) h
theorem Q9(h:F8 (CX Y) t0 t1 t2 (out v)):CP Y F.F8 [t0,t1,t2] v:=CPo 1 (nCQ (nRQ [.slot 0])) Tryz.func55 h
def FE(C:CC)(b:Nat)(h:Hp)(a:V)(q:kQ):Prop:=let h:Hp:=h++List.replicate 1 nnQ
 clQ C h F.CM [a] fun c h=>nzQ c (q (.tup [nSQ,c]) h) (blQ a fun a=>ciQ C h F.FC [a] (b+0) fun a h=>q (.tup [a,I 0]) h)
def Ka(b:Nat):Ann:=(.n .x .o (.n .x .o (.n .x (.n (.r [.inl (b+0)]) .o .o) .o)))
theorem SO(C:CC)(h:Hp)(t0:V)(q:kkQ):fnI Y C Tryz.f58 1 Ka [t0] h q=FE C h.length h t0 q:=by rfl
theorem SL(b:Nat):okB Tryz.prog Tryz.f58 (Ka b)=true:=by rfl
theorem SN(hh:FE (CX Y) h.length h t0 (pY h.length v h2)):CI Y F.FE [t0] h v h2:=
 CI.of (fn:=Tryz.f58) (m:=1) (a:=Ka) rfl (fun _=>rfl) Tryz.func58 (SL _) (by rw[SO];exact hh)
def Jv(C:CC)(a c d:V):AP:=fun l h q=>cIQ .lss (ge l 0) d (bxQ h 1 c (ge l 0) fun c=>b1Q h c fun c=>clQ C h F.CL [c] fun c h=>bxQ h 2 a (ge l 0) fun a=>stD h 2 a c fun _ h=>bIQ .add (ge l 0) (I 1) fun a=>q .normal [a] h) (q (.exit 0) [] h)
def KI(C:CC)(a c:V)(q:kQ):Prop:=let h:Hp:=.replicate 1 nnQ
 clQ C h F.Em [a,c] fun d h=>nzQ d (q (.tup [nSQ,d]) h) (blQ a fun a=>ciQ C h F.FC [a] 0 fun a h=>blQ c fun d=>lp (Jv C a c d) [] h [I 0] h (exK [((.exit 0),fun c h=>q (.tup [a,I 0]) h)]))
theorem WO(h:KI (CX Y) t0 t1 (out v)):CP Y F.KI [t0,t1] v:=CPo 1 (zq (nBQ (nRQ [.inl 0]) (nCQ (mu (nCQ (.n (.l [21] [7,19,20] [((.exit 0),[],[7])] []) .o .o)))))) Tryz.func78 h
def GB(C:CC)(a c d:V)(q:kQ):Prop:=let h:Hp:=[]
 mB 2 [nPQ] [(0,c),(1,d)] h fun c h=>clQ C h F.CL [I 1] fun d h=>clQ C h F.CL [I 1] fun e h=>mB 2 [.str [],.str []] [(0,d),(1,e)] h fun d h=>clQ C h F.EV [a,c,d] fun a h=>e2Q a fun a c=>q (.tup [a,c]) h
theorem Ur(h:GB (CX Y) t0 t1 t2 (out v)):CP Y F.GB [t0,t1,t2] v:=CPo 0 .o Tryz.func59 h
def Em(C:CC)(a c:V)(q:kQ):Prop:=let h:Hp:=[]
 mB 1 [nPQ] [(0,c)] h fun c h=>clQ C h F.Ck [a,c] q
theorem PT(h:Em (CX Y) t0 t1 (out v)):CP Y F.Em [t0,t1] v:=CPo 0 .o Tryz.func65 h
def Fj(C:CC)(a c:V):AP:=fun l h q=>cIQ .lss (ge l 0) c (bxQ h 1 a (ge l 0) fun a=>b1Q h a fun a=>bIQ .gtr a (I 1000) fun c=>gqQ c false h a fun a h=>gbQ c false h (biI .lss a (I (-1000))) fun a h=>bpQ c (B true) a fun a=>cnd a (q .ret [I 4] h) (bIQ .add (ge l 0) (I 1) fun a=>q .normal [a] h)) (q (.exit 2) [] h)
def El(C:CC)(a c d:V):AP:=fun l h q=>cIQ .lss (ge l 0) d (bxQ h 1 c (ge l 0) fun c=>b1Q h c fun c=>blQ c fun d=>blQ a fun a=>cIQ .neq d a (q .ret [I 5] h) (blQ c fun a=>lp (Fj C c a) [] h [I 0] h (exK [((.exit 2),fun a h=>bIQ .add (ge l 0) (I 1) fun a=>q .normal [a] h),(.ret,fun a h=>q .ret [ge a 0] h)]))) (q (.exit 0) [] h)
def Ck(C:CC)(a c:V)(q:kQ):Prop:=let h:Hp:=[]
 clQ C h F.CM [a] fun d h=>nzQ d (q d h) (blQ c fun d=>lp (El C a c d) [] h [I 0] h (exK [((.exit 0),fun a h=>q (I 0) h),(.ret,fun a h=>q (ge a 0) h)]))
theorem M0(h:Ck (CX Y) t0 t1 (out v)):CP Y F.Ck [t0,t1] v:=CPo 0 (zq (nCQ (mu (nCQ (.n (.l [17] [0,15,16] [((.exit 0),[],[]),(.ret,[4],[])] []) (zq (nCQ (nCQ (zp (nCQ (.n (.l [28] [0,15,16,17,26,27] [((.exit 2),[],[0,15,16,17]),(.ret,[4],[])] []) .o .o)))))) .o))))) Tryz.func25 h
def HX(C:CC)(a c:V)(q:kQ):Prop:=let h:Hp:=[]
 clQ C h F.F9 [a,c] fun d h=>nzQ d (q (.tup [I 0,d]) h) (clQ C h F.Ea [a,c] fun a h=>clQ C h F.Co [a] fun a h=>q (.tup [a,I 0]) h)
theorem SP(h:HX (CX Y) t0 t1 (out v)):CP Y F.HX [t0,t1] v:=CPo 0 .o Tryz.func96 h
def Ij(C:CC)(a c:V)(q:kQ):Prop:=let h:Hp:=[]
 clQ C h F.HX [a,c] fun d h=>e2Q d fun d e=>nzQ e (q (.tup [nSQ,e]) h) (blQ a fun a=>mB 1 [nPQ] [(0,c)] h fun c h=>bnd (unV .neg d) fun e=>bnd (mxI true [d,e]) fun e=>bnd (mxI true [d,I 0]) fun d=>bIQ .mul (I 2) d fun d=>bIQ .sub d (I 1) fun d=>bIQ .mul e d fun d=>clQ C h F.CL [d] fun d h=>mB 1 [.str [],.str []] [(0,d)] h fun d h=>clQ C h F.FW [a,c,d] fun a h=>q (.tup [a,I 0]) h)
theorem Us(h:Ij (CX Y) t0 t1 (out v)):CP Y F.Ij [t0,t1] v:=CPo 0 .o Tryz.func79 h
def FD(C:CC)(a c d:V)(q:kQ):Prop:=let h:Hp:=[]
 blQ a fun e=>mB 2 [nPQ] [(0,c),(1,d)] h fun c h=>clQ C h F.CL [I 1] fun d h=>clQ C h F.CL [I (-1)] fun f h=>mB 2 [.str [],.str []] [(0,d),(1,f)] h fun d h=>clQ C h F.FW [e,c,d] fun c h=>clQ C h F.Ea [a,c] fun a h=>clQ C h F.Co [a] q
theorem OP(h:FD (CX Y) t0 t1 t2 (out v)):CP Y F.FD [t0,t1,t2] v:=CPo 0 .o Tryz.func85 h
def FF(C:CC)(a c d:V)(q:kQ):Prop:=let h:Hp:=[]
 mB 2 [nPQ] [(0,c),(1,d)] h fun e h=>clQ C h F.DI [a,e] fun e h=>nzQ e (q (.tup [I 0,e]) h) (clQ C h F.FD [a,c,d] fun a h=>q (.tup [a,I 0]) h)
theorem OQ(h:FF (CX Y) t0 t1 t2 (out v)):CP Y F.FF [t0,t1,t2] v:=CPo 0 .o Tryz.func63 h
def Cz(C:CC)(a c:V)(q:kQ):Prop:=let h:Hp:=.replicate 2 nnQ
 alV 0 [.d (.str []),.d (.str [])] h fun d h=>clQ C h F.En [a,c] fun a h=>e2Q a fun a c=>alV 1 [.d (.str []),.d (.str [])] h fun c h=>stD h 2 c a fun _ h=>bnd (ldA h 2 c) fun a=>stD h 2 d a fun _ h=>bnd (ldA h 2 d) fun a=>q a h
theorem Lb(h:Cz (CX Y) t0 t1 (out v)):CP Y F.Cz [t0,t1] v:=CPo 2 (nBQ (nRQ [.slot 0]) (nCQ (nRQ [.o,.slot 1]))) Tryz.func48 h
def Ch(C:CC)(a:V)(q:kQ):Prop:=let h:Hp:=.replicate 2 nnQ
 oR 0 a h fun a h=>alV 1 [.d (.str []),.d (.str [])] h fun c h=>bfQ 0 a fun d=>b1Q h d fun d=>bIQ .rem d (.d (.int .i8 41)) fun d=>bnd (cvI .i64 d) fun d=>mB 6 [.int .i64 0] [(0,(I 1)),(1,(I 2)),(2,(I 3)),(3,(I 4)),(4,(I 6)),(5,(I 12))] h fun e h=>bfQ 1 a fun a=>b1Q h a fun a=>bIQ .rem a (.d (.int .u8 6)) fun a=>bxQ h 1 e a fun a=>b1Q h a fun a=>clQ C h F.Cz [d,a] fun a h=>stD h 2 c a fun _ h=>bnd (ldA h 2 c) fun a=>q a h
theorem Ja(h:Ch (CX Y) t0 (out v)):CP Y F.Ch [t0] v:=CPo 2 (nCQ (nRQ [.slot 0,.slot 1])) Tryz.func23 h
def Hj(C:CC)(a:V)(q:kQ):Prop:=let h:Hp:=[]
 bIQ .geq a (I (-1000000000)) fun c=>gqQ c true h a fun a h=>gbQ c true h (biI .leq a (I 1000000000)) fun a h=>bpQ c a (B false) fun a=>q a h
theorem Ux(h:Hj (CX Y) t0 (out v)):CP Y F.Hj [t0] v:=CPo 0 .o Tryz.func129 h
def FI(C:CC)(a:V)(q:kQ):Prop:=let h:Hp:=[]
 clQ C h F.Hj [a] fun a h=>bnd (unV .not a) fun a=>q a h
theorem OW(h:FI (CX Y) t0 (out v)):CP Y F.FI [t0] v:=CPo 0 .o Tryz.func128 h
def FJ(C:CC)(a:V)(q:kQ):Prop:=let h:Hp:=[]
 blQ a fun c=>bIQ .gtr c (I 64) fun c=>gqQ c false h a fun a h=>gd c false h (fun q=>clQ C h F.AY [a,(.fn F.FI [] [])] q) fun a h=>bpQ c (B true) a fun a=>cnd a (q (I 4) h) (q (I 0) h)
theorem SZ(h:FJ (CX Y) t0 (out v)):CP Y F.FJ [t0] v:=CPo 0 .o Tryz.func104 h
def Ga(C:CC)(a:V)(q:kQ):Prop:=let h:Hp:=[]
 clQ C h F.FJ [a] fun c h=>nzQ c (q (.tup [nSQ,c]) h) (q (.tup [a,I 0]) h)
theorem Rf(h:Ga (CX Y) t0 (out v)):CP Y F.Ga [t0] v:=CPo 0 .o Tryz.func88 h
def Es(C:CC)(a:V)(q:kQ):Prop:=let h:Hp:=[]
 bIQ .neq a (I 0) fun a=>q a h
theorem NM(h:Es (CX Y) t0 (out v)):CP Y F.Es [t0] v:=CPo 0 .o Tryz.func67 h
def G1(C:CC)(a:V)(q:kQ):Prop:=let h:Hp:=[]
 clQ C h F.AY [a,(.fn F.Es [] [])] fun a h=>bnd (unV .not a) fun a=>q a h
theorem Rh(h:G1 (CX Y) t0 (out v)):CP Y F.G1 [t0] v:=CPo 0 .o Tryz.func41 h
def Jc(C:CC)(a c:V)(q:kQ):Prop:=let h:Hp:=[]
 clQ C h F.FJ [a] fun d h=>nzQ d (q d h) (clQ C h F.FJ [c] fun d h=>nzQ d (q d h) (blQ a fun a=>blQ c fun c=>cIQ .neq a c (q (I 5) h) (q (I 0) h)))
theorem Uy(h:Jc (CX Y) t0 t1 (out v)):CP Y F.Jc [t0,t1] v:=CPo 0 .o Tryz.func86 h
def HY(C:CC)(a c:V)(q:kQ):Prop:=let h:Hp:=.replicate 2 nnQ
 oR 0 a h fun a h=>oR 1 c h fun c h=>q (.fn F.FH [] [a,c]) h
theorem SY(h:HY (CX Y) t0 t1 (out v)):CP Y F.HY [t0,t1] v:=CPo 2 (nCQ (nRQ [.slot 0,.slot 1])) Tryz.func87 h
def Lq(C:CC)(a:V):nN:=fun l h q=>
 b1Q h a fun c=>
 bIQ .add (ge l 0) (ge l 1) fun d=>
 mB 1 [.int .i64 0] [(0,d)] h fun d h=>
 apV false 2 1 8 c d h fun c h=>
 stD h 1 a c fun _ h=>
 q .normal h
def KP(C:CC)(a c:V)(q:kQ):Prop:=let h:Hp:=.replicate 3 nnQ
 clQ C h F.Jc [a,c] fun d h=>nzQ d (q (.tup [nSQ,d]) h) (blQ a fun d=>mkS 0 8 [.int .i64 0] h (I 0) d fun d h=>alV 1 [.d nPQ] h fun e h=>stD h 1 e d fun _ h=>clQ C h F.HY [a,c] fun a h=>rgO (sqV Y.seq a) 2 (Lq C e) [] h (fun ex h=>exK [(.normal,fun _ h=>b1Q h e fun a=>clQ C h F.Ga [a] fun a h=>e2Q a fun a c=>q (.tup [a,c]) h)] ex [] h))
theorem WT(h:KP (CX Y) t0 t1 (out v)):CP Y F.KP [t0,t1] v:=CPo 3 (zq (nBQ (nRQ [.slot 0,.slot 1]) (nCQ (mu (nCQ (.n (.l [] [7] [(.normal,[],[7])] []) .o (nCQ (nRQ [.o,.slot 2])))))))) Tryz.func64 h
def DN(C:CC)(a c:V)(q:kQ):Prop:=let h:Hp:=[]
 cIQ .eql a (I 0) (q (I 13) h) (cIQ .gtr a c (q (I 4) h) (q (I 0) h))
theorem PZ(h:DN (CX Y) t0 t1 (out v)):CP Y F.DN [t0,t1] v:=CPo 0 .o Tryz.func50 h
def GJ(C:CC)(a c d:V):AP:=fun l h q=>cIQ .lss (ge l 0) d (bxQ h 1 c (ge l 0) fun c=>b1Q h c fun c=>blQ c fun d=>clQ C h F.DN [d,I 12] fun d h=>nzQ d (q .ret [d] h) (bfQ 0 a fun a=>b1Q h a fun a=>clQ C h F.Ck [a,c] fun a h=>nzQ a (q .ret [a] h) (bIQ .add (ge l 0) (I 1) fun a=>q .normal [a] h))) (q (.exit 0) [] h)
def C8(C:CC)(a c d e:V):AP:=fun l h q=>cIQ .lss (ge l 0) e (bxQ h 2 d (ge l 0) fun d=>bnd (ldA h 2 d) fun d=>alV 1 [.d (.int .i64 0),.d (.int .i64 0)] h fun e h=>stD h 2 e d fun _ h=>bfQ 0 e fun d=>b1Q h d fun d=>bIQ .lss d (I 0) fun d=>gbQ d false h (faV 0 e) fun f h=>gbQ d false h (ld1 h f) fun f h=>gbQ d false h (faV 1 a) fun g h=>gbQ d false h (ld1 h g) fun g h=>gqQ d false h c fun i h=>gbQ d false h (ixV h 1 g i) fun g h=>gbQ d false h (ld1 h g) fun g h=>gbQ d false h (fL g) fun g h=>gbQ d false h (biI .geq f g) fun f h=>bpQ d (B true) f fun d=>gbQ d false h (faV 1 e) fun f h=>gbQ d false h (ld1 h f) fun f h=>gbQ d false h (biI .lss f (I 0)) fun f h=>bpQ d (B true) f fun d=>gbQ d false h (faV 1 e) fun e h=>gbQ d false h (ld1 h e) fun e h=>gbQ d false h (faV 1 a) fun a h=>gbQ d false h (ld1 h a) fun a h=>gqQ d false h c fun c h=>gbQ d false h (biI .add c (I 1)) fun c h=>gbQ d false h (ixV h 1 a c) fun a h=>gbQ d false h (ld1 h a) fun a h=>gbQ d false h (fL a) fun a h=>gbQ d false h (biI .geq e a) fun a h=>bpQ d (B true) a fun a=>cnd a (q .ret [I 3] h) (bIQ .add (ge l 0) (I 1) fun a=>q .normal [a] h)) (q (.exit 4) [] h)
def GI(C:CC)(a c d:V):AP:=fun l h q=>cIQ .lss (ge l 0) d (bxQ h 1 c (ge l 0) fun c=>b1Q h c fun c=>blQ c fun d=>clQ C h F.DN [d,I 12] fun d h=>nzQ d (q .ret [d] h) (blQ c fun d=>lp (C8 C a (ge l 0) c d) [1] h [I 0] h (exK [((.exit 4),fun a h=>bIQ .add (ge l 0) (I 1) fun a=>q .normal [a] h),(.ret,fun a h=>q .ret [ge a 0] h)]))) (q (.exit 2) [] h)
def ES(C:CC)(a:V)(q:kQ):Prop:=let h:Hp:=.replicate 2 nnQ
 oR 0 a h fun a h=>bfQ 0 a fun c=>b1Q h c fun c=>clQ C h F.CM [c] fun c h=>nzQ c (q c h) (bfQ 1 a fun c=>b1Q h c fun c=>blQ c fun c=>clQ C h F.DN [c,I 64] fun c h=>nzQ c (q c h) (bfQ 1 a fun c=>b1Q h c fun c=>blQ c fun d=>lp (GJ C a c d) [] h [I 0] h (exK [((.exit 0),fun c h=>bfQ 2 a fun c=>b1Q h c fun c=>blQ c fun c=>bfQ 1 a fun d=>b1Q h d fun d=>blQ d fun d=>bIQ .sub d (I 1) fun d=>cIQ .neq c d (q (I 5) h) (bfQ 2 a fun c=>b1Q h c fun c=>blQ c fun d=>lp (GI C a c d) [1] h [I 0] h (exK [((.exit 2),fun a h=>q (I 0) h),(.ret,fun a h=>q (ge a 0) h)]))),(.ret,fun a h=>q (ge a 0) h)])))
theorem P1(h:ES (CX Y) t0 (out v)):CP Y F.ES [t0] v:=CPo 2 (nBQ (nRQ [.slot 0]) (zq (nBQ (mu (nCQ (.n (.l [30] [1,28,29] [((.exit 0),[],[1]),(.ret,[2],[])] []) .o .o))) (mu (nCQ (mu (nCQ (.n (.l [59] [1,57,58] [((.exit 2),[],[]),(.ret,[2],[])] [1]) (zq (nCQ (nCQ (zp (nCQ (.n (.l [72] [1,9,57,58,59,70,71] [((.exit 4),[],[1,57,58,59]),(.ret,[2],[])] [1]) (zq (nCQ (nCQ (nCQ (nRQ [.slot 1]))))) .o)))))) .o)))))))) Tryz.func24 h
def GF(C:CC)(a c d e:V):AP:=fun l h q=>cIQ .lss (ge l 0) e (bxQ h 1 d (ge l 0) fun d=>b1Q h d fun d=>bIQ .rem c (I 2) fun c=>bIQ .eql c (I 1) fun c=>jn (fun c h=>bxQ h 1 a (ge l 0) fun d=>b1Q h d fun d=>bIQ .add d (ge c 0) fun c=>bxQ h 1 a (ge l 0) fun a=>stD h 1 a c fun _ h=>bIQ .add (ge l 0) (I 1) fun a=>q .normal [a] h) fun a=>cnd c (bnd (unV .neg d) fun c=>a [c] h) (a [d] h)) (q (.exit 2) [] h)
def HP(C:CC)(a c d:V):AP:=fun l h q=>cIQ .lss (ge l 0) d (bxQ h 1 c (ge l 0) fun c=>b1Q h c fun c=>blQ c fun d=>lp (GF C a (ge l 0) c d) [] h [I 0] h (exK [((.exit 2),fun a h=>bIQ .add (ge l 0) (I 1) fun a=>q .normal [a] h)])) (q (.exit 0) [] h)
def H3(C:CC)(a:V)(q:kQ):Prop:=let h:Hp:=.replicate 1 nnQ
 bxQ h 1 a (I 0) fun c=>b1Q h c fun c=>blQ c fun c=>mkS 0 8 [.int .i64 0] h c c fun c h=>blQ a fun d=>lp (HP C c a d) [] h [I 0] h (exK [((.exit 0),fun a h=>q c h)])
theorem TC(h:H3 (CX Y) t0 (out v)):CP Y F.H3 [t0] v:=CPo 1 (mu (nBQ (nRQ [.slot 0]) (nCQ (mu (nCQ (.n (.l [15] [3,13,14] [((.exit 0),[],[3])] []) (zq (nCQ (nCQ (zq (nCQ (.n (.l [22] [3,4,13,14,15,20,21] [((.exit 2),[],[3,13,14,15])] []) (zq (nCQ (nCQ (mu (nCQ (mu (nJQ [7] [3,4,6,13,14,15,20,21,22]))))))) .o)))))) .o)))))) Tryz.func101 h
def G3(C:CC)(a c d:V)(q:kQ):Prop:=let h:Hp:=.replicate 2 nnQ
 oR 0 a h fun a h=>bfQ 2 a fun e=>b1Q h e fun e=>bxQ h 1 e c fun e=>b1Q h e fun e=>bxQ h 2 e d fun d=>bnd (ldA h 2 d) fun d=>alV 1 [.d (.int .i64 0),.d (.int .i64 0)] h fun e h=>stD h 2 e d fun _ h=>bfQ 1 a fun d=>b1Q h d fun d=>bxQ h 1 d c fun d=>b1Q h d fun d=>bfQ 0 e fun f=>b1Q h f fun f=>bxQ h 1 d f fun d=>b1Q h d fun d=>bfQ 1 a fun a=>b1Q h a fun a=>bIQ .add c (I 1) fun c=>bxQ h 1 a c fun a=>b1Q h a fun a=>bfQ 1 e fun c=>b1Q h c fun c=>bxQ h 1 a c fun a=>b1Q h a fun a=>mB 2 [nPQ] [(0,d),(1,a)] h fun a h=>clQ C h F.H3 [a] q
theorem RJ(h:G3 (CX Y) t0 t1 t2 (out v)):CP Y F.G3 [t0,t1,t2] v:=CPo 2 (nBQ (nRQ [.slot 0]) (nCQ (nRQ [.slot 1]))) Tryz.func82 h
def GG(C:CC)(a c d:V):AP:=fun l h q=>cIQ .lss (ge l 0) d (bxQ h 1 c (ge l 0) fun c=>b1Q h c fun c=>bxQ h 1 a (ge l 0) fun d=>b1Q h d fun d=>bIQ .add d c fun c=>bxQ h 1 a (ge l 0) fun a=>stD h 1 a c fun _ h=>bIQ .add (ge l 0) (I 1) fun a=>q .normal [a] h) (q (.exit 2) [] h)
def GH(C:CC)(a c:V):AP:=fun l h q=>cIQ .lss (ge l 1) c (bxQ h 1 (ge l 0) (ge l 1) fun c=>b1Q h c fun c=>ciQ C h F.BB [c] 3 fun c h=>bnd (ldA h 3 a) fun a=>clQ C h F.G3 [a,ge l 1,I 0] fun a h=>blQ a fun d=>lp (GG C c a d) [] h [I 0] h (exK [((.exit 2),fun a h=>mB 1 [nPQ] [(0,c)] h fun a h=>apV false 4 1 24 (ge l 0) a h fun a h=>bIQ .add (ge l 1) (I 1) fun c=>q .normal [a,c] h)])) (q (.exit 0) [ge l 0] h)
def Gt(C:CC)(a:V)(q:kQ):Prop:=let h:Hp:=.replicate 5 nnQ
 oR 0 a h fun a h=>bfQ 0 a fun c=>b1Q h c fun c=>blQ c fun c=>mkS 1 8 [.int .i64 0] h c c fun c h=>mA 2 1 [nPQ] [(0,c)] h fun c h=>bfQ 2 a fun d=>b1Q h d fun d=>blQ d fun d=>lp (GH C a d) [3] h [c,I 0] h (exK [((.exit 0),fun a h=>q (ge a 0) h)])
theorem PY(h:Gt (CX Y) t0 (out v)):CP Y F.Gt [t0] v:=CPo 5 (nBQ (nRQ [.slot 0]) (nBQ (nRQ [.slot 1,.slot 2]) (nCQ (mu (nCQ (.n (.l [3,16] [1,15] [((.exit 0),[3],[])] [3]) (zq (nCQ (nCQ (mu (nBQ (nRQ [.inl 3]) (nBQ (mu (nCQ (.n (.l [28] [1,3,5,15,16,26,27] [((.exit 2),[],[1,3,5,15,16])] []) .o .o))) (nRQ [.o,.slot 4]))))))) .o)))))) Tryz.func56 h
def H4(C:CC)(a c:V)(q:kQ):Prop:=let h:Hp:=[]
 clQ C h F.Ck [a,c] q
theorem TD(h:H4 (CX Y) t0 t1 (out v)):CP Y F.H4 [t0,t1] v:=CPo 0 .o Tryz.func57 h
def Eo(C:CC)(a:V)(q:kQ):Prop:=let h:Hp:=.replicate 1 nnQ
 oR 0 a h fun a h=>bnd (ldA h 3 a) fun c=>clQ C h F.ES [c] fun c h=>nzQ c (q (.tup [nSQ,c]) h) (bnd (ldA h 3 a) fun c=>clQ C h F.Gt [c] fun c h=>bfQ 0 a fun a=>b1Q h a fun a=>clQ C h F.H4 [a,c] fun a h=>nzQ a (q (.tup [nSQ,a]) h) (q (.tup [c,I 0]) h))
theorem P0(h:Eo (CX Y) t0 (out v)):CP Y F.Eo [t0] v:=CPo 1 (nCQ (nRQ [.slot 0])) Tryz.func29 h
def BB(C:CC)(b:Nat)(h:Hp)(a:V)(q:kQ):Prop:=let h:Hp:=h++List.replicate 2 nnQ
 oA h .eql a nSQ fun c=>cnd c (q nSQ h) (mA (b+0) 0 [.int .i64 0] [] h fun c h=>apV false (b+1) 1 8 c a h q)
def DZ(b:Nat):Ann:=(.n .x .o (.n .x .o (.n .x (.n (.r [.slot (b+0),.slot (b+1)]) .o .o) .o)))
theorem If(C:CC)(h:Hp)(t0:V)(q:kkQ):fnI Y C Tryz.f81 2 DZ [t0] h q=BB C h.length h t0 q:=by rfl
theorem Ib(b:Nat):okB Tryz.prog Tryz.f81 (DZ b)=true:=by rfl
theorem Ie(hh:BB (CX Y) h.length h t0 (pY h.length v h2)):CI Y F.BB [t0] h v h2:=
 CI.of (fn:=Tryz.f81) (m:=2) (a:=DZ) rfl (fun _=>rfl) Tryz.func81 (Ib _) (by rw[If];exact hh)
def Bi(C:CC)(a c d:V):AP:=fun l h q=>cIQ .lss (ge l 0) d (bxQ h 1 c (ge l 0) fun c=>b1Q h c fun c=>blQ c fun d=>cIQ .eql d (I 0) (q .ret [I 13] h) (blQ c fun d=>cIQ .gtr d (I 20) (q .ret [I 4] h) (bfQ 0 a fun a=>bfQ 0 a fun a=>b1Q h a fun a=>clQ C h F.Ck [a,c] fun a h=>nzQ a (q .ret [a] h) (bIQ .add (ge l 0) (I 1) fun a=>q .normal [a] h)))) (q (.exit 0) [] h)
def Bf(C:CC)(a:V)(q:kQ):Prop:=let h:Hp:=.replicate 1 nnQ
 oR 0 a h fun a h=>bfQ 0 a fun c=>bnd (ldA h 3 c) fun c=>clQ C h F.ES [c] fun c h=>nzQ c (q c h) (bfQ 3 a fun c=>b1Q h c fun c=>blQ c fun c=>bfQ 0 a fun d=>bfQ 1 d fun d=>b1Q h d fun d=>blQ d fun d=>cIQ .neq c d (q (I 5) h) (bfQ 3 a fun c=>b1Q h c fun c=>blQ c fun d=>lp (Bi C a c d) [] h [I 0] h (exK [((.exit 0),fun c h=>bfQ 4 a fun c=>bnd (ldA h 2 c) fun c=>clQ C h F.Cm [c] fun c h=>nzQ c (q (I 2) h) (bfQ 4 a fun a=>bnd (ldA h 2 a) fun a=>clQ C h F.DL [a] fun a h=>cIQ .lss a (I 0) (q (I 3) h) (q (I 0) h))),(.ret,fun a h=>q (ge a 0) h)])))
theorem IB(h:Bf (CX Y) t0 (out v)):CP Y F.Bf [t0] v:=CPo 1 (nBQ (nRQ [.slot 0]) (zq (nCQ (mu (nCQ (.n (.l [24] [1,22,23] [((.exit 0),[],[1]),(.ret,[2],[])] []) .o .o)))))) Tryz.func8 h
def B6(C:CC)(a c:V)(q:kQ):Prop:=let h:Hp:=.replicate 1 nnQ
 oR 0 a h fun a h=>bfQ 0 a fun d=>bfQ 0 d fun d=>b1Q h d fun d=>clQ C h F.Em [d,c] fun d h=>nzQ d (q (.tup [nSQ,I 4]) h) (bfQ 0 a fun d=>bfQ 0 d fun d=>b1Q h d fun d=>clQ C h F.KI [d,c] fun c h=>e2Q c fun c d=>nzQ d (q (.tup [nSQ,d]) h) (bfQ 0 a fun a=>bfQ 0 a fun a=>b1Q h a fun a=>clQ C h F.Ij [a,c] fun a h=>e2Q a fun a c=>q (.tup [a,c]) h))
theorem JH(h:B6 (CX Y) t0 t1 (out v)):CP Y F.B6 [t0,t1] v:=CPo 1 (nCQ (nRQ [.slot 0])) Tryz.func54 h
def Da(C:CC)(a c d:V)(q:kQ):Prop:=let h:Hp:=.replicate 1 nnQ
 oR 0 a h fun a h=>bnd (ldA h 6 a) fun e=>bfQ 3 a fun f=>b1Q h f fun f=>bxQ h 1 f c fun c=>b1Q h c fun c=>bxQ h 1 c d fun c=>b1Q h c fun c=>clQ C h F.B6 [e,c] fun c h=>e2Q c fun c d=>nzQ d (q (.tup [nSQ,d]) h) (bfQ 0 a fun d=>bfQ 0 d fun d=>b1Q h d fun d=>bfQ 4 a fun a=>bnd (ldA h 2 a) fun a=>clQ C h F.F8 [d,c,a] fun a h=>e2Q a fun a c=>q (.tup [a,c]) h)
theorem Nn(h:Da (CX Y) t0 t1 t2 (out v)):CP Y F.Da [t0,t1,t2] v:=CPo 1 (nCQ (nRQ [.slot 0])) Tryz.func28 h
def CR(C:CC)(a c d e:V)(q:kQ):Prop:=let h:Hp:=.replicate 1 nnQ
 oR 0 a h fun a h=>bxQ h 1 c d fun c=>b1Q h c fun c=>bfQ 3 a fun f=>b1Q h f fun f=>bxQ h 1 f d fun d=>b1Q h d fun d=>bxQ h 1 d e fun d=>b1Q h d fun d=>clQ C h F.KP [c,d] fun c h=>e2Q c fun c d=>bIQ .neq d (I 0) fun d=>gbQ d false h (faV 0 a) fun a h=>gbQ d false h (faV 0 a) fun a h=>gbQ d false h (ld1 h a) fun a h=>gqQ d false h c fun e h=>gd d false h (fun q=>clQ C h F.Em [a,e] q) fun a h=>gbQ d false h (biI .neq a (I 0)) fun a h=>bpQ d (B true) a fun a=>cnd a (q (.tup [nSQ,I 4]) h) (q (.tup [c,I 0]) h)
theorem MD(h:CR (CX Y) t0 t1 t2 t3 (out v)):CP Y F.CR [t0,t1,t2,t3] v:=CPo 1 (nCQ (nRQ [.slot 0])) Tryz.func39 h
def EC(C:CC)(a c d e f g:V):AP:=fun l h q=>cIQ .lss (ge l 0) g (bxQ h 1 c (ge l 0) fun c=>b1Q h c fun c=>bxQ h 1 e (ge l 0) fun e=>b1Q h e fun e=>bIQ .add c e fun c=>bxQ h 1 a (ge l 0) fun a=>b1Q h a fun a=>bIQ .sub c a fun a=>bxQ h 1 d (ge l 0) fun c=>b1Q h c fun c=>bIQ .sub a c fun a=>bxQ h 1 f (ge l 0) fun c=>stD h 1 c a fun _ h=>bIQ .add (ge l 0) (I 1) fun a=>q .normal [a] h) (q (.exit 2) [] h)
def ED(C:CC)(a c d e f g:V):AP:=fun l h q=>cIQ .lss (ge l 1) g (bxQ h 2 f (ge l 1) fun f=>bnd (ldA h 2 f) fun f=>alV 2 [.d (.int .i64 0),.d (.int .i64 0)] h fun g h=>stD h 2 g f fun _ h=>bfQ 0 c fun f=>bfQ 1 f fun f=>b1Q h f fun f=>bxQ h 1 f a fun f=>b1Q h f fun f=>bfQ 0 g fun i=>b1Q h i fun i=>bxQ h 1 f i fun f=>b1Q h f fun f=>bfQ 0 c fun i=>bfQ 1 i fun i=>b1Q h i fun i=>bIQ .add a (I 1) fun a=>bxQ h 1 i a fun a=>b1Q h a fun a=>bfQ 1 g fun g=>b1Q h g fun g=>bxQ h 1 a g fun a=>b1Q h a fun a=>blQ f fun g=>mkS 3 8 [.int .i64 0] h g g fun g h=>blQ g fun i=>lp (EC C d e f a g i) [] h [I 0] h (exK [((.exit 2),fun a h=>bfQ 0 c fun a=>bfQ 0 a fun a=>b1Q h a fun a=>clQ C h F.Em [a,g] fun a h=>nzQ a (q .ret [nSQ,I 4] h) (mB 1 [nPQ] [(0,g)] h fun a h=>apV false 4 1 24 (ge l 0) a h fun a h=>bIQ .add (ge l 1) (I 1) fun c=>q .normal [a,c] h))])) (q (.exit 0) [ge l 0] h)
def BN(C:CC)(a c d e:V)(q:kQ):Prop:=let h:Hp:=.replicate 5 nnQ
 oR 0 a h fun a h=>oR 1 e h fun e h=>bnd (ldA h 6 a) fun f=>bfQ 0 e fun g=>b1Q h g fun g=>clQ C h F.CR [f,c,d,g] fun f h=>e2Q f fun f g=>nzQ g (q (.tup [nSQ,g]) h) (bnd (ldA h 6 a) fun g=>bIQ .add d (I 1) fun i=>bfQ 1 e fun e=>b1Q h e fun e=>clQ C h F.CR [g,c,i,e] fun c h=>e2Q c fun c e=>nzQ e (q (.tup [nSQ,e]) h) (bfQ 0 a fun e=>bfQ 2 e fun e=>b1Q h e fun e=>bxQ h 1 e d fun e=>b1Q h e fun e=>blQ e fun g=>lp (ED C d a f c e g) [2,3] h [nSQ,I 0] h (exK [((.exit 0),fun a h=>q (.tup [ge a 0,I 0]) h),(.ret,fun a h=>q (.tup [ge a 0,ge a 1]) h)])))
def Gj:Ann:=(nBQ (nRQ [.slot 0,.slot 1]) (zn (nCQ (mu (nCQ (.n (.l [13,52] [2,4,10,12,50,51] [((.exit 0),[13],[]),(.ret,[8,9],[])] [2,3]) (zq (nCQ (nCQ (nBQ (nRQ [.slot 2]) (mu (nBQ (nRQ [.slot 3]) (nBQ (mu (nCQ (.n (.l [82] [2,4,10,12,13,16,17,18,50,51,52,81] [((.exit 2),[],[2,4,10,12,13,18,50,51,52])] []) .o .o))) (mu (nRQ [.o,.slot 4]))))))))) .o))))))
theorem LI(C:CC)(t0:V)(t1:V)(t2:V)(t3:V)(q:kkQ):fnD Y C Tryz.f40 5 Gj [t0,t1,t2,t3] q=BN C t0 t1 t2 t3 q:=by kernel_rfl
theorem LG:okB Tryz.prog Tryz.f40 Gj=true:=dQ
theorem LH(h:BN (CX Y) t0 t1 t2 t3 (out v)):CP Y F.BN [t0,t1,t2,t3] v:=
 CP.of (fn:=Tryz.f40) (m:=5) (a:=Gj) rfl (fun _=>rfl) Tryz.func40 LG (by rw[LI];exact h)
def EY(C:CC)(a c d:V):AP:=fun l h q=>cIQ .lss (ge l 2) d (jn (fun a h=>bIQ .add (ge l 2) (I 1) fun c=>q .normal [ge a 0,ge a 1,c] h) fun d=>bxQ h 1 c (ge l 2) fun c=>b1Q h c fun c=>bIQ .eql (ge l 0) (I 0) fun e=>jn (fun c h=>bIQ .eql (ge c 1) (I 0) fun e=>jn (fun a h=>d [ge a 1,ge a 0] h) fun d=>cnd e (bfQ 0 a fun a=>bfQ 0 a fun a=>b1Q h a fun a=>clQ C h F.GB [a,ge l 1,ge c 0] fun a h=>e2Q a fun a c=>d [a,c] h) (d [ge l 1,ge c 1] h)) fun d=>cnd e (bnd (ldA h 6 a) fun a=>clQ C h F.B6 [a,c] fun a h=>e2Q a fun a c=>d [a,c] h) (d [nSQ,ge l 0] h)) (q (.exit 0) [ge l 0,ge l 1] h)
def CQ(C:CC)(a c d e:V)(q:kQ):Prop:=let h:Hp:=.replicate 3 nnQ
 oR 0 a h fun a h=>oR 1 e h fun e h=>bnd (ldA h 6 a) fun f=>bnd (ldA h 2 e) fun e=>clQ C h F.BN [f,c,d,e] fun c h=>e2Q c fun c d=>nzQ d (q (.tup [nSQ,d]) h) (bfQ 0 a fun d=>bfQ 0 d fun d=>b1Q h d fun d=>ciQ C h F.FE [d] 2 fun d h=>e2Q d fun d e=>blQ c fun f=>lp (EY C a c f) [] h [e,d,I 0] h (exK [((.exit 0),fun a h=>q (.tup [ge a 1,ge a 0]) h)]))
theorem MC(h:CQ (CX Y) t0 t1 t2 t3 (out v)):CP Y F.CQ [t0,t1,t2,t3] v:=CPo 3 (nBQ (nRQ [.slot 0,.slot 1]) (zq (nBQ (nRQ [.inl 2]) (nCQ (mu (nCQ (.n (.l [11,12,36] [4,34,35] [((.exit 0),[11,12],[])] []) (zq (nCQ (.n (.j [11,12] [4,34,35,36]) (zq (nBQ (mu (nJQ [15,11] [4,12,34,35,36])) (mu (nJQ [12,11] [4,34,35,36])))) .o))) .o))))))) Tryz.func30 h
def HB(C:CC)(b:Nat)(h:Hp)(a c d e f:V)(q:kQ):Prop:=let h:Hp:=h++List.replicate 0 nnQ
 b1Q h d fun g=>bIQ .eql g (I 0) fun g=>jn (fun c h=>b1Q h d fun c=>bIQ .eql c (I 0) fun c=>jn (fun a h=>q (.tup []) h) fun g=>cnd c (bfQ 0 e fun c=>bfQ 0 c fun c=>b1Q h c fun c=>b1Q h f fun e=>clQ C h F.GB [c,e,a] fun a h=>e2Q a fun a c=>stD h 1 f a fun _ h=>stD h 1 d c fun _ h=>g [] h) (g [] h)) fun a=>cnd g (stD h 1 d c fun _ h=>a [] h) (a [] h)
def Le(C:CC)(a c d e f g:V):AP:=fun l h q=>cIQ .lss (ge l 0) g (bxQ h 1 f (ge l 0) fun f=>b1Q h f fun f=>bIQ .gtr (ge l 0) (I 0) fun g=>jn (fun a h=>bnd (ldA h 6 d) fun a=>clQ C h F.Da [a,ge l 0,f] fun a h=>e2Q a fun a c=>cai C.i h e [a,c] 5 fun a h=>bIQ .add (ge l 0) (I 1) fun a=>q .normal [a] h) fun i=>cnd g (bnd (ldA h 6 d) fun d=>bIQ .sub (ge l 0) (I 1) fun g=>bIQ .sub (ge l 0) (I 1) fun j=>bxQ h 1 c j fun c=>b1Q h c fun c=>bnd (bld [(0,1),(1,1)] [.int .i64 0,.int .i64 0] [(0,c),(1,f)]) fun c=>clQ C h F.CQ [d,a,g,c] fun a h=>e2Q a fun a c=>cai C.i h e [a,c] 4 fun a h=>i [] h) (i [] h)) (q (.exit 0) [] h)
def G7(C:CC)(a c d:V)(q:kQ):Prop:=let h:Hp:=.replicate 6 nnQ
 oR 0 a h fun a h=>bfQ 0 a fun e=>bfQ 0 e fun e=>b1Q h e fun e=>ciQ C h F.FE [e] 1 fun e h=>e2Q e fun e f=>alV 2 [.d nPQ] h fun g h=>alV 3 [.d (.int .i64 0)] h fun i h=>stD h 1 g e fun _ h=>stD h 1 i f fun _ h=>blQ d fun e=>lp (Le C c d a (.fn F.HB [] [i,a,g]) d e) [4,5] h [I 0] h (exK [((.exit 0),fun a h=>b1Q h i fun a=>nzQ a (b1Q h i fun a=>q (.tup [nSQ,a]) h) (b1Q h g fun a=>q (.tup [a,I 0]) h))])
def Ct(C:CC)(a c d:V):AP:=fun l h q=>cIQ .lss (ge l 0) d (bxQ h 1 c (ge l 0) fun c=>b1Q h c fun c=>bIQ .lss c (I 0) fun d=>gqQ d false h c fun c h=>gbQ d false h (faV 3 a) fun a h=>gbQ d false h (ld1 h a) fun a h=>gqQ d false h (ge l 0) fun e h=>gbQ d false h (ixV h 1 a e) fun a h=>gbQ d false h (ld1 h a) fun a h=>gbQ d false h (fL a) fun a h=>gbQ d false h (biI .geq c a) fun a h=>bpQ d (B true) a fun a=>cnd a (q .ret [nSQ,I 3] h) (bIQ .add (ge l 0) (I 1) fun a=>q .normal [a] h)) (q (.exit 0) [] h)
def Bz(C:CC)(a c:V)(q:kQ):Prop:=let h:Hp:=.replicate 1 nnQ
 oR 0 a h fun a h=>bnd (ldA h 6 a) fun d=>clQ C h F.Bf [d] fun d h=>nzQ d (q (.tup [nSQ,d]) h) (blQ c fun d=>bfQ 3 a fun e=>b1Q h e fun e=>blQ e fun e=>cIQ .neq d e (q (.tup [nSQ,I 5]) h) (blQ c fun d=>lp (Ct C a c d) [] h [I 0] h (exK [((.exit 0),fun c h=>bfQ 0 a fun a=>bnd (ldA h 3 a) fun a=>clQ C h F.Eo [a] fun a h=>e2Q a fun a c=>q (.tup [a,c]) h),(.ret,fun a h=>q (.tup [ge a 0,ge a 1]) h)])))
theorem HC(h:Bz (CX Y) t0 t1 (out v)):CP Y F.Bz [t0,t1] v:=CPo 1 (nBQ (nRQ [.slot 0]) (zq (nCQ (mu (nCQ (.n (.l [22] [2,20,21] [((.exit 0),[],[2]),(.ret,[4,5],[])] []) .o .o)))))) Tryz.func31 h
def D4(C:CC)(a c d:V)(q:kQ):Prop:=let h:Hp:=.replicate 1 nnQ
 oR 0 a h fun a h=>bnd (ldA h 6 a) fun e=>clQ C h F.Bf [e] fun e h=>nzQ e (q (.tup [nSQ,e]) h) (bIQ .lss c (I 0) fun e=>gqQ e false h c fun f h=>gbQ e false h (faV 3 a) fun g h=>gbQ e false h (ld1 h g) fun g h=>gbQ e false h (fL g) fun g h=>gbQ e false h (biI .geq f g) fun f h=>bpQ e (B true) f fun e=>gqQ e false h d fun f h=>gbQ e false h (biI .lss f (I 0)) fun f h=>bpQ e (B true) f fun e=>gqQ e false h d fun f h=>gbQ e false h (faV 3 a) fun g h=>gbQ e false h (ld1 h g) fun g h=>gqQ e false h c fun i h=>gbQ e false h (ixV h 1 g i) fun g h=>gbQ e false h (ld1 h g) fun g h=>gbQ e false h (fL g) fun g h=>gbQ e false h (biI .geq f g) fun f h=>bpQ e (B true) f fun e=>cnd e (q (.tup [nSQ,I 3]) h) (bnd (ldA h 6 a) fun a=>clQ C h F.Da [a,c,d] fun a h=>e2Q a fun a c=>q (.tup [a,c]) h))
def Hb:Ann:=(nCQ (nRQ [.slot 0]))
theorem Nr(C:CC)(t0:V)(t1:V)(t2:V)(q:kkQ):fnD Y C Tryz.f9 1 Hb [t0,t1,t2] q=D4 C t0 t1 t2 q:=by kernel_rfl
theorem Np:okB Tryz.prog Tryz.f9 Hb=true:=dQ
theorem Nq(h:D4 (CX Y) t0 t1 t2 (out v)):CP Y F.D4 [t0,t1,t2] v:=
 CP.of (fn:=Tryz.f9) (m:=1) (a:=Hb) rfl (fun _=>rfl) Tryz.func9 Np (by rw[Nr];exact h)
def Dr(C:CC)(a c d:V)(q:kQ):Prop:=let h:Hp:=.replicate 2 nnQ
 oR 0 a h fun a h=>oR 1 d h fun d h=>bnd (ldA h 6 a) fun e=>clQ C h F.Bf [e] fun e h=>nzQ e (q (.tup [nSQ,e]) h) (bIQ .lss c (I 0) fun e=>gqQ e false h c fun f h=>gbQ e false h (faV 3 a) fun g h=>gbQ e false h (ld1 h g) fun g h=>gbQ e false h (fL g) fun g h=>gbQ e false h (biI .sub g (I 1)) fun g h=>gbQ e false h (biI .geq f g) fun f h=>bpQ e (B true) f fun e=>gbQ e false h (faV 0 d) fun f h=>gbQ e false h (ld1 h f) fun f h=>gbQ e false h (biI .lss f (I 0)) fun f h=>bpQ e (B true) f fun e=>gbQ e false h (faV 0 d) fun f h=>gbQ e false h (ld1 h f) fun f h=>gbQ e false h (faV 3 a) fun g h=>gbQ e false h (ld1 h g) fun g h=>gqQ e false h c fun i h=>gbQ e false h (ixV h 1 g i) fun g h=>gbQ e false h (ld1 h g) fun g h=>gbQ e false h (fL g) fun g h=>gbQ e false h (biI .geq f g) fun f h=>bpQ e (B true) f fun e=>gbQ e false h (faV 1 d) fun f h=>gbQ e false h (ld1 h f) fun f h=>gbQ e false h (biI .lss f (I 0)) fun f h=>bpQ e (B true) f fun e=>gbQ e false h (faV 1 d) fun f h=>gbQ e false h (ld1 h f) fun f h=>gbQ e false h (faV 3 a) fun g h=>gbQ e false h (ld1 h g) fun g h=>gqQ e false h c fun i h=>gbQ e false h (biI .add i (I 1)) fun i h=>gbQ e false h (ixV h 1 g i) fun g h=>gbQ e false h (ld1 h g) fun g h=>gbQ e false h (fL g) fun g h=>gbQ e false h (biI .geq f g) fun f h=>bpQ e (B true) f fun e=>cnd e (q (.tup [nSQ,I 3]) h) (bfQ 0 a fun e=>bnd (ldA h 3 e) fun e=>clQ C h F.Eo [e] fun e h=>e2Q e fun e f=>nzQ f (q (.tup [nSQ,f]) h) (bnd (ldA h 6 a) fun a=>bnd (ldA h 2 d) fun d=>clQ C h F.CQ [a,e,c,d] fun a h=>e2Q a fun a c=>nzQ c (q (.tup [nSQ,c]) h) (q (.tup [a,I 0]) h))))
def GO:Ann:=(nCQ (nRQ [.slot 0,.slot 1]))
theorem MG(C:CC)(t0:V)(t1:V)(t2:V)(q:kkQ):fnD Y C Tryz.f10 2 GO [t0,t1,t2] q=Dr C t0 t1 t2 q:=by kernel_rfl
theorem ME:okB Tryz.prog Tryz.f10 GO=true:=dQ
theorem MF(h:Dr (CX Y) t0 t1 t2 (out v)):CP Y F.Dr [t0,t1,t2] v:=
 CP.of (fn:=Tryz.f10) (m:=2) (a:=GO) rfl (fun _=>rfl) Tryz.func10 ME (by rw[MG];exact h)
def DW(C:CC)(a c:V)(q:kQ):Prop:=let h:Hp:=.replicate 1 nnQ
 oR 0 a h fun a h=>bnd (ldA h 6 a) fun d=>clQ C h F.Bz [d,c] fun d h=>e2Q d fun d e=>nzQ e (q (.tup [nSQ,e]) h) (bnd (ldA h 6 a) fun a=>clQ C h F.G7 [a,d,c] fun a h=>e2Q a fun a c=>q (.tup [a,c]) h)
theorem LJ(h:DW (CX Y) t0 t1 (out v)):CP Y F.DW [t0,t1] v:=CPo 1 (nCQ (nRQ [.slot 0])) Tryz.func11 h
def EE(C:CC)(a c d e:V):AP:=fun l h q=>cIQ .lss (ge l 1) e (bxQ h 1 d (ge l 1) fun d=>b1Q h d fun d=>bnd (ldA h 6 a) fun a=>clQ C h F.CR [a,c,ge l 1,d] fun a h=>e2Q a fun a c=>nzQ c (q .ret [nSQ,c] h) (mB 1 [nPQ] [(0,a)] h fun a h=>apV false 1 1 24 (ge l 0) a h fun a h=>bIQ .add (ge l 1) (I 1) fun c=>q .normal [a,c] h)) (q (.exit 0) [ge l 0] h)
def Ca(C:CC)(a c:V)(q:kQ):Prop:=let h:Hp:=.replicate 2 nnQ
 oR 0 a h fun a h=>bnd (ldA h 6 a) fun d=>clQ C h F.Bz [d,c] fun d h=>e2Q d fun d e=>nzQ e (q (.tup [nSQ,e]) h) (blQ c fun e=>lp (EE C a d c e) [] h [nSQ,I 0] h (exK [((.exit 0),fun a h=>q (.tup [ge a 0,I 0]) h),(.ret,fun a h=>q (.tup [ge a 0,ge a 1]) h)]))
theorem Iz(h:Ca (CX Y) t0 t1 (out v)):CP Y F.Ca [t0,t1] v:=CPo 2 (nBQ (nRQ [.slot 0]) (zp (nCQ (mu (nCQ (.n (.l [8,24] [2,6,22,23] [((.exit 0),[8],[]),(.ret,[4,5],[])] []) (zq (nCQ (nCQ (zp (nRQ [.o,.slot 1]))))) .o)))))) Tryz.func14 h
def Dy(C:CC)(a c d:V):AP:=fun l h q=>cIQ .lss (ge l 1) d (jn (fun a h=>bIQ .add (ge l 1) (I 1) fun c=>q .normal [ge a 0,c] h) fun d=>bxQ h 1 c (ge l 1) fun c=>b1Q h c fun c=>clQ C h F.G1 [c] fun e h=>bnd (unV .not e) fun e=>jn (fun a h=>d [ge a 0] h) fun d=>cnd e (bIQ .sub a (I 1) fun a=>bnd (bld [(0,1),(1,1),(2,1)] [.int .i64 0,.int .i64 0,nPQ] [(0,a),(1,(ge l 1)),(2,c)]) fun a=>mB 1 [.int .i64 0,.int .i64 0,nPQ] [(0,a)] h fun a h=>apV false 1 3 40 (ge l 0) a h fun a h=>d [a] h) (d [ge l 0] h)) (q (.exit 2) [ge l 0] h)
def EF(C:CC)(a c d:V):AP:=fun l h q=>blQ a fun e=>cIQ .lss (ge l 1) e (bnd (ldA h 6 c) fun c=>bIQ .sub (ge l 1) (I 1) fun e=>bIQ .sub (ge l 1) (I 1) fun f=>bxQ h 1 a f fun f=>b1Q h f fun f=>bxQ h 1 a (ge l 1) fun a=>b1Q h a fun a=>bnd (bld [(0,1),(1,1)] [.int .i64 0,.int .i64 0] [(0,f),(1,a)]) fun a=>clQ C h F.BN [c,d,e,a] fun a h=>e2Q a fun a c=>nzQ c (q .ret [nSQ,c] h) (blQ a fun c=>lp (Dy C (ge l 1) a c) [] h [ge l 0,I 0] h (exK [((.exit 2),fun a h=>bIQ .add (ge l 1) (I 1) fun c=>q .normal [ge a 0,c] h)]))) (q (.exit 0) [ge l 0] h)
def Cb(C:CC)(a c:V)(q:kQ):Prop:=let h:Hp:=.replicate 2 nnQ
 oR 0 a h fun a h=>bnd (ldA h 6 a) fun d=>clQ C h F.Bz [d,c] fun d h=>e2Q d fun d e=>nzQ e (q (.tup [nSQ,e]) h) (lp (EF C c a d) [] h [nSQ,I 1] h (exK [((.exit 0),fun a h=>q (.tup [ge a 0,I 0]) h),(.ret,fun a h=>q (.tup [ge a 0,ge a 1]) h)]))
theorem IA(h:Cb (CX Y) t0 t1 (out v)):CP Y F.Cb [t0,t1] v:=CPo 2 (nBQ (nRQ [.slot 0]) (zp (nCQ (mu (nCQ (.n (.l [8,9] [1,2,6] [((.exit 0),[8],[]),(.ret,[4,5],[])] []) (mu (nCQ (nCQ (zp (nCQ (.n (.l [8,52] [1,2,6,9,50,51] [((.exit 2),[8],[1,2,6,9])] []) (zq (nCQ (.n (.j [8] [1,2,6,9,50,51,52]) (zq (.n (.j [8] [1,2,6,9,50,51,52]) (nRQ [.o,.slot 1]) .o)) .o))) .o)))))) .o)))))) Tryz.func15 h
def AM(C:CC)(b:Nat)(h:Hp)(a:V)(q:kQ):Prop:=let h:Hp:=h++List.replicate 2 nnQ
 oA h .eql a nSQ fun c=>cnd c (q nSQ h) (mA (b+0) 0 [.str [],.str []] [] h fun c h=>apV false (b+1) 2 32 c a h q)
def Ce(b:Nat):Ann:=(.n .x .o (.n .x .o (.n .x (.n (.r [.slot (b+0),.slot (b+1)]) .o .o) .o)))
theorem FR(C:CC)(h:Hp)(t0:V)(q:kkQ):fnI Y C Tryz.f37 2 Ce [t0] h q=AM C h.length h t0 q:=by rfl
theorem FP(b:Nat):okB Tryz.prog Tryz.f37 (Ce b)=true:=by rfl
theorem FQ(hh:AM (CX Y) h.length h t0 (pY h.length v h2)):CI Y F.AM [t0] h v h2:=
 CI.of (fn:=Tryz.f37) (m:=2) (a:=Ce) rfl (fun _=>rfl) Tryz.func37 (FP _) (by rw[FR];exact hh)
def AW(C:CC)(b:Nat)(h:Hp)(a:V)(q:kQ):Prop:=let h:Hp:=h++List.replicate 2 nnQ
 oA h .eql a nSQ fun c=>cnd c (q nSQ h) (mA (b+0) 0 [nPQ] [] h fun c h=>apV false (b+1) 1 24 c a h q)
def Cj(b:Nat):Ann:=(.n .x .o (.n .x .o (.n .x (.n (.r [.slot (b+0),.slot (b+1)]) .o .o) .o)))
theorem FV(C:CC)(h:Hp)(t0:V)(q:kkQ):fnI Y C Tryz.f61 2 Cj [t0] h q=AW C h.length h t0 q:=by rfl
theorem FT(b:Nat):okB Tryz.prog Tryz.f61 (Cj b)=true:=by rfl
theorem FU(hh:AW (CX Y) h.length h t0 (pY h.length v h2)):CI Y F.AW [t0] h v h2:=
 CI.of (fn:=Tryz.f61) (m:=2) (a:=Cj) rfl (fun _=>rfl) Tryz.func61 (FT _) (by rw[FV];exact hh)
def AZ(C:CC)(b:Nat)(h:Hp)(a:V)(q:kQ):Prop:=let h:Hp:=h++List.replicate 2 nnQ
 oA h .eql a nSQ fun c=>cnd c (q nSQ h) (mA (b+0) 0 [nPQ] [] h fun c h=>apV false (b+1) 1 24 c a h q)
def Cx(b:Nat):Ann:=(.n .x .o (.n .x .o (.n .x (.n (.r [.slot (b+0),.slot (b+1)]) .o .o) .o)))
theorem Gy(C:CC)(h:Hp)(t0:V)(q:kkQ):fnI Y C Tryz.f62 2 Cx [t0] h q=AZ C h.length h t0 q:=by rfl
theorem Gw(b:Nat):okB Tryz.prog Tryz.f62 (Cx b)=true:=by rfl
theorem Gx(hh:AZ (CX Y) h.length h t0 (pY h.length v h2)):CI Y F.AZ [t0] h v h2:=
 CI.of (fn:=Tryz.f62) (m:=2) (a:=Cx) rfl (fun _=>rfl) Tryz.func62 (Gw _) (by rw[Gy];exact hh)
def Dx(C:CC)(b:Nat)(a c d e:V):AP:=fun l h q=>bIQ .add d (I 1) fun f=>bfQ 3 a fun g=>b1Q h g fun g=>blQ g fun g=>bIQ .lss f g fun f=>gqQ f true h (ge l 1) fun g h=>gbQ f true h (faV 3 a) fun i h=>gbQ f true h (ld1 h i) fun i h=>gqQ f true h d fun j h=>gbQ f true h (biI .add j (I 1)) fun j h=>gbQ f true h (ixV h 1 i j) fun i h=>gbQ f true h (ld1 h i) fun i h=>gbQ f true h (fL i) fun i h=>gbQ f true h (biI .lss g i) fun g h=>bpQ f g (B false) fun f=>cnd f (bnd (ldA h 6 a) fun a=>bnd (bld [(0,1),(1,1)] [.int .i64 0,.int .i64 0] [(0,e),(1,(ge l 1))]) fun e=>clQ C h F.CQ [a,c,d,e] fun a h=>e2Q a fun a c=>nzQ c (q .ret [(.d (.pl (.pointer none))),c] h) (mB 1 [nPQ] [(0,a)] h fun a h=>apV false (b+3) 1 24 (ge l 0) a h fun a h=>bIQ .add (ge l 1) (I 1) fun c=>q .normal [a,c] h)) (q (.exit 4) [ge l 0] h)
def EA(C:CC)(b:Nat)(a c d e:V):AP:=fun l h q=>cIQ .lss (ge l 2) e (bnd (ldA h 6 a) fun e=>clQ C h F.Da [e,d,ge l 2] fun e h=>e2Q e fun e f=>nzQ f (q .ret [(.d (.pl (.pointer none))),f] h) (mB 1 [nPQ] [(0,e)] h fun e h=>apV false (b+2) 1 24 (ge l 0) e h fun e h=>lp (Dx C b a c d (ge l 2)) [] h [nSQ,I 0] h (exK [((.exit 4),fun a h=>mB 1 [nPQ] [(0,(ge a 0))] h fun a h=>apV false (b+4) 1 24 (ge l 1) a h fun a h=>bIQ .add (ge l 2) (I 1) fun c=>q .normal [e,a,c] h),(.ret,fun a h=>q .ret [ge a 0,ge a 1] h)]))) (q (.exit 2) [ge l 0,ge l 1] h)
def EB(C:CC)(b:Nat)(a c d e f:V):AP:=fun l h q=>cIQ .lss (ge l 0) f (bxQ h 1 e (ge l 0) fun e=>b1Q h e fun e=>blQ e fun e=>lp (EA C b a c (ge l 0) e) [(b+3)] h [nSQ,nSQ,I 0] h (exK [((.exit 2),fun a h=>bfQ 0 d fun c=>bfQ 1 c fun c=>sm h d c<|b1Q h c fun c=>mB 1 [nPQ] [(0,(ge a 0))] h fun e h=>sp h c [d]<|apV false (b+5) 1 24 c e h fun c h=>bfQ 0 d fun e=>bfQ 2 e fun e=>sm h d e<|b1Q h e fun e=>mB 1 [nPQ] [(0,(ge a 1))] h fun a h=>apV false (b+6) 1 24 e a h fun a h=>bfQ 0 d fun e=>bfQ 1 e fun e=>stD h 1 e c fun _ h=>bfQ 0 d fun c=>bfQ 2 c fun c=>stD h 1 c a fun _ h=>bIQ .add (ge l 0) (I 1) fun a=>q .normal [a] h),(.ret,fun a h=>q .ret [ge a 0,ge a 1] h)])) (q (.exit 0) [] h)
def B9(C:CC)(b:Nat)(h:Hp)(a:V)(q:kQ):Prop:=let h:Hp:=h++List.replicate 7 nnQ
 oR (b+0) a h fun a h=>bfQ 0 a fun c=>bnd (ldA h 3 c) fun c=>clQ C h F.Eo [c] fun c h=>e2Q c fun c d=>nzQ d (q (.tup [(.d (.pl (.pointer none))),d]) h) (bfQ 0 a fun d=>bfQ 0 d fun d=>b1Q h d fun d=>bnd (bld [(0,1),(1,1),(2,1)] [nPQ,nPQ,nPQ] [(0,d)]) fun d=>oR (b+1) d h fun d h=>bfQ 3 a fun e=>b1Q h e fun e=>blQ e fun f=>lp (EB C b a c d e f) [(b+2),(b+3),(b+4)] h [I 0] h (exK [((.exit 0),fun a h=>q (.tup [d,I 0]) h),(.ret,fun a h=>q (.tup [ge a 0,ge a 1]) h)]))
def Gi(b:Nat):Ann:=(.n .x (.n (.r [.slot (b+0)]) .o .o) (.n .x .o (.n .x .o (.n .x (.n (.r [.slot (b+1)]) .o .o) (.n .x (.n .x .o (.n .x (.n (.l [35] [1,4,6,33,34] [((.exit 0),[],[6]),(.ret,[2,3],[])] [(b+2),(b+3),(b+4)]) (.n .x .o (.n .x .o (.n .x (.n .x (.n .x .o (.n .x .o (.n .x .o (.n .x (.n .x .o (.n .x (.n (.l [9,10,42] [1,4,6,7,33,34,35,41] [((.exit 2),[9,10],[1,4,6,33,34,35]),(.ret,[2,3],[])] [(b+3)]) (.n .x .o (.n .x .o (.n .x (.n .x (.n .x .o (.n .x .o (.n .x .o (.n .x (.n (.r [.o,.slot (b+2)]) .o .o) (.n .x .o (.n .x (.n .x .o (.n .x (.n (.l [14,15] [1,4,6,7,9,10,11,33,34,35,41,42] [((.exit 4),[14],[1,4,6,7,9,10,33,34,35,41,42]),(.ret,[2,3],[])] []) (.n .x .o (.n .x (.n .x (.n .x .o (.n .x .o (.n (.r [.o,.slot (b+3)]) .o .o))) .o) .o)) .o) .o)) (.n (.r [.o,.slot (b+4)]) .o .o))))))) .o) .o))) .o) .o)) (.n (.r [.o,.slot (b+5),.o,.slot (b+6)]) .o .o))))) .o) .o))) .o) .o)) .o)))))
theorem LF(C:CC)(h:Hp)(t0:V)(q:kkQ):fnI Y C Tryz.f33 7 Gi [t0] h q=B9 C h.length h t0 q:=by kernel_rfl
theorem LD(b:Nat):okB Tryz.prog Tryz.f33 (Gi b)=true:=of_decide_eq_true AG
theorem LE(hh:B9 (CX Y) h.length h t0 (pY h.length v h2)):CI Y F.B9 [t0] h v h2:=
 CI.of (fn:=Tryz.f33) (m:=7) (a:=Gi) rfl (fun _=>rfl) Tryz.func33 (LD _) (by rw[LF];exact hh)
def Bg(C:CC)(a c d:V)(q:kQ):Prop:=let h:Hp:=[]
 bfQ 0 a fun a=>bfQ 0 a fun a=>b1Q h a fun a=>clQ C h F.FF [a,c,d] fun a h=>e2Q a fun a c=>bIQ .lss a (I 0) fun a=>q a h
theorem Jp(h:Bg (CX Y) t0 t1 t2 (out v)):CP Y F.Bg [t0,t1,t2] v:=CPo 0 .o Tryz.func36 h
def Dm(C:CC)(a c d:V):AP:=fun l h q=>cIQ .lss (ge l 2) d (jn (fun a h=>bIQ .add (ge l 2) (I 1) fun c=>q .normal [ge a 0,ge a 1,c] h) fun d=>bxQ h 1 c (ge l 2) fun c=>b1Q h c fun c=>bIQ .eql (ge l 1) (I 0) fun e=>jn (fun a h=>d [ge a 0,ge a 1] h) fun d=>cnd e (bfQ 0 a fun a=>bfQ 0 a fun a=>b1Q h a fun a=>clQ C h F.GB [a,ge l 0,c] fun a h=>e2Q a fun a c=>d [a,c] h) (d [ge l 0,ge l 1] h)) (q (.exit 0) [ge l 0,ge l 1] h)
def By(C:CC)(a c:V)(q:kQ):Prop:=let h:Hp:=.replicate 1 nnQ
 bfQ 0 a fun d=>bfQ 0 d fun d=>b1Q h d fun d=>ciQ C h F.FE [d] 0 fun d h=>e2Q d fun d e=>blQ c fun f=>lp (Dm C a c f) [] h [d,e,I 0] h (exK [((.exit 0),fun a h=>q (.tup [ge a 0,ge a 1]) h)])
theorem JI(h:By (CX Y) t0 t1 (out v)):CP Y F.By [t0,t1] v:=CPo 1 (mu (nBQ (nRQ [.inl 0]) (nCQ (mu (nCQ (.n (.l [6,7,20] [0,18,19] [((.exit 0),[6,7],[])] []) (zq (nCQ (.n (.j [6,7] [0,18,19,20]) (zq (nJQ [6,7] [0,18,19,20])) .o))) .o)))))) Tryz.func35 h
def G8(C:CC)(a c d e f g:V):AP:=fun l h q=>cIQ .lss (ge l 1) g (jn (fun a h=>bIQ .add (ge l 1) (I 1) fun c=>q .normal [ge a 0,c] h) fun g=>bxQ h 1 f (ge l 1) fun f=>b1Q h f fun f=>bfQ 0 a fun i=>bfQ 2 i fun i=>b1Q h i fun i=>bIQ .sub c (I 1) fun c=>bxQ h 1 i c fun c=>b1Q h c fun c=>bxQ h 1 c (ge l 1) fun c=>b1Q h c fun c=>bxQ h 1 c d fun c=>b1Q h c fun c=>mB 3 [nPQ] [(0,f),(1,c),(2,e)] h fun c h=>clQ C h F.By [a,c] fun c h=>e2Q c fun c d=>nzQ d (q .ret [nSQ,d] h) (oA h .eql (ge l 0) nSQ fun d=>gqQ d false h a fun a h=>gqQ d false h c fun e h=>gqQ d false h (ge l 0) fun f h=>gd d false h (fun q=>clQ C h F.Bg [a,e,f] q) fun a h=>bpQ d (B true) a fun a=>jn (fun a h=>g [ge a 0] h) fun d=>cnd a (d [c] h) (d [ge l 0] h))) (q (.exit 4) [ge l 0] h)
def G9(C:CC)(a c d e f:V):AP:=fun l h q=>cIQ .lss (ge l 1) f (bxQ h 1 e (ge l 1) fun e=>b1Q h e fun e=>bIQ .sub d (I 1) fun f=>bxQ h 1 c f fun c=>b1Q h c fun c=>blQ c fun f=>lp (G8 C a d (ge l 1) e c f) [] h [nSQ,I 0] h (exK [((.exit 4),fun a h=>mB 1 [nPQ] [(0,(ge a 0))] h fun a h=>apV false 1 1 24 (ge l 0) a h fun a h=>bIQ .add (ge l 1) (I 1) fun c=>q .normal [a,c] h),(.ret,fun a h=>q .ret [ge a 0,ge a 1] h)])) (q (.exit 2) [ge l 0] h)
def Ha(C:CC)(a:V):AP:=fun l h q=>bfQ 0 a fun c=>bfQ 1 c fun c=>b1Q h c fun c=>blQ c fun c=>cIQ .lss (ge l 1) c (bfQ 0 a fun c=>bfQ 1 c fun c=>b1Q h c fun c=>bxQ h 1 c (ge l 1) fun c=>b1Q h c fun c=>blQ c fun d=>lp (G9 C a (ge l 0) (ge l 1) c d) [] h [nSQ,I 0] h (exK [((.exit 2),fun a h=>mB 1 [nPQ] [(0,(ge a 0))] h fun a h=>apV false 2 1 24 (ge l 0) a h fun a h=>bIQ .add (ge l 1) (I 1) fun c=>q .normal [a,c] h),(.ret,fun a h=>q .ret [ge a 0,ge a 1] h)])) (q (.exit 0) [ge l 0] h)
def Fp(C:CC)(a:V)(q:kQ):Prop:=let h:Hp:=.replicate 3 nnQ
 bfQ 0 a fun c=>bfQ 1 c fun c=>b1Q h c fun c=>bxQ h 1 c (I 0) fun c=>b1Q h c fun c=>mA 0 1 [nPQ] [(0,c)] h fun c h=>lp (Ha C a) [1] h [c,I 1] h (exK [((.exit 0),fun a h=>q (.tup [ge a 0,I 0]) h),(.ret,fun a h=>q (.tup [ge a 0,ge a 1]) h)])
def CV(C:CC)(a c d e f g:V):AP:=fun l h q=>cIQ .lss (ge l 1) g (jn (fun a h=>bIQ .add (ge l 1) (I 1) fun c=>q .normal [ge a 0,c] h) fun g=>bxQ h 1 f (ge l 1) fun f=>b1Q h f fun f=>bfQ 0 a fun i=>bfQ 2 i fun i=>b1Q h i fun i=>bxQ h 1 i c fun c=>b1Q h c fun c=>bxQ h 1 c d fun c=>b1Q h c fun c=>bxQ h 1 c (ge l 1) fun c=>b1Q h c fun c=>mB 3 [nPQ] [(0,e),(1,c),(2,f)] h fun c h=>clQ C h F.By [a,c] fun c h=>e2Q c fun c d=>nzQ d (q .ret [nSQ,d] h) (oA h .eql (ge l 0) nSQ fun d=>gqQ d false h a fun a h=>gqQ d false h c fun e h=>gqQ d false h (ge l 0) fun f h=>gd d false h (fun q=>clQ C h F.Bg [a,e,f] q) fun a h=>bpQ d (B true) a fun a=>jn (fun a h=>g [ge a 0] h) fun d=>cnd a (d [c] h) (d [ge l 0] h))) (q (.exit 4) [ge l 0] h)
def CW(C:CC)(a c d e f:V):AP:=fun l h q=>cIQ .lss (ge l 0) f (bxQ h 1 e (ge l 0) fun e=>b1Q h e fun e=>bIQ .add d (I 1) fun f=>bxQ h 1 c f fun f=>b1Q h f fun f=>blQ f fun g=>lp (CV C a d (ge l 0) e f g) [] h [nSQ,I 0] h (exK [((.exit 4),fun a h=>bxQ h 1 c d fun c=>b1Q h c fun c=>bxQ h 1 c (ge l 0) fun c=>stD h 1 c (ge a 0) fun _ h=>bIQ .add (ge l 0) (I 1) fun a=>q .normal [a] h),(.ret,fun a h=>q .ret [ge a 0,ge a 1] h)])) (q (.exit 2) [] h)
def CY(C:CC)(a c:V):AP:=fun l h q=>cIQ .geq (ge l 0) (I 0) (bfQ 0 a fun d=>bfQ 1 d fun d=>b1Q h d fun d=>bxQ h 1 d (ge l 0) fun d=>b1Q h d fun d=>ciQ C h F.AZ [d] 1 fun d h=>bxQ h 1 c (ge l 0) fun e=>stD h 1 e d fun _ h=>bfQ 0 a fun d=>bfQ 1 d fun d=>b1Q h d fun d=>bxQ h 1 d (ge l 0) fun d=>b1Q h d fun d=>blQ d fun e=>lp (CW C a c (ge l 0) d e) [] h [I 0] h (exK [((.exit 2),fun a h=>ghG [.cls 0] h fun h=>bIQ .sub (ge l 0) (I 1) fun a=>q .normal [a] h),(.ret,fun a h=>q .ret [ge a 0,ge a 1] h)])) (q (.exit 0) [] h)
def Bw(C:CC)(a:V)(q:kQ):Prop:=let h:Hp:=.replicate 2 nnQ
 bfQ 0 a fun c=>bfQ 1 c fun c=>b1Q h c fun c=>ciQ C h F.AW [c] 0 fun c h=>ghG [.opn 0] h fun h=>bfQ 0 a fun d=>bfQ 1 d fun d=>b1Q h d fun d=>blQ d fun d=>bIQ .sub d (I 2) fun d=>lp (CY C a c) [] h [d] h (exK [((.exit 0),fun a h=>q (.tup [c,I 0]) h),(.ret,fun a h=>q (.tup [ge a 0,ge a 1]) h)])
def Ez:Ann:=(mu (.n (.g [.opn 0]) (nRQ [.inl 0]) (nCQ (mu (nCQ (.n (.l [5] [0,4] [((.exit 0),[],[4]),(.ret,[2,3],[])] []) (mu (.n (.g [.cls 0]) (nCQ (nBQ (nRQ [.inl 1]) (mu (nCQ (.n (.l [47] [0,4,5,45,46] [((.exit 2),[],[0,4,5]),(.ret,[2,3],[])] []) (zq (nCQ (nCQ (zq (nCQ (mu (nCQ (.n (.l [8,58] [0,4,5,6,7,45,46,47,56,57] [((.exit 4),[8],[0,4,5,6,45,46,47]),(.ret,[2,3],[])] []) (zq (nCQ (.n (.j [8] [0,4,5,6,7,45,46,47,56,57,58]) (zo (nJQ [8] [0,4,5,6,7,45,46,47,56,57,58])) .o))) .o)))))))) .o))))) .o)) .o))))))
theorem I6(C:CC)(t0:V)(q:kkQ):fnD Y C Tryz.f34 2 Ez [t0] q=Bw C t0 q:=by kernel_rfl
theorem I4:okB Tryz.prog Tryz.f34 Ez=true:=dQ
theorem I5(h:Bw (CX Y) t0 (out v)):CP Y F.Bw [t0] v:=
 CP.of (fn:=Tryz.f34) (m:=2) (a:=Ez) rfl (fun _=>rfl) Tryz.func34 I4 (by rw[I6];exact h)
def D5(C:CC)(a c d e:V):AP:=fun l h q=>cIQ .lss (ge l 2) e (bxQ h 1 d (ge l 2) fun d=>b1Q h d fun d=>bIQ .gtr c (I 0) fun e=>jn (fun a h=>mB 1 [nPQ] [(0,(ge a 0))] h fun c h=>apV false 2 1 24 (ge l 1) c h fun c h=>bIQ .add (ge l 2) (I 1) fun d=>q .normal [ge a 1,c,d] h) fun f=>cnd e (bfQ 0 a fun e=>bfQ 2 e fun e=>b1Q h e fun e=>bIQ .sub c (I 1) fun g=>bxQ h 1 e g fun e=>b1Q h e fun e=>bIQ .sub c (I 1) fun c=>bxQ h 1 (ge l 0) c fun c=>b1Q h c fun c=>bxQ h 1 e c fun c=>b1Q h c fun c=>bxQ h 1 c (ge l 2) fun c=>b1Q h c fun c=>mB 2 [nPQ] [(0,c),(1,d)] h fun c h=>clQ C h F.By [a,c] fun a h=>e2Q a fun a c=>nzQ c (q .ret [c,nSQ,nSQ] h) (f [a,ge l 0] h)) (f [d,ge l 0] h)) (q (.exit 2) [ge l 0,ge l 1] h)
def EZ(C:CC)(a c d:V):AP:=fun l h q=>cIQ .lss (ge l 1) d (jn (fun a h=>bIQ .add (ge l 1) (I 1) fun c=>q .normal [ge a 0,c] h) fun d=>bxQ h 1 c (ge l 1) fun e=>b1Q h e fun e=>bxQ h 1 c (ge l 0) fun c=>b1Q h c fun c=>clQ C h F.Bg [a,e,c] fun a h=>jn (fun a h=>d [ge a 0] h) fun c=>cnd a (c [ge l 1] h) (c [ge l 0] h)) (q (.exit 4) [ge l 0] h)
def E0(C:CC)(a c d:V):AP:=fun l h q=>cIQ .lss (ge l 1) d (bxQ h 1 c (ge l 1) fun c=>b1Q h c fun c=>blQ c fun d=>lp (D5 C a (ge l 1) c d) [] h [ge l 0,nSQ,I 0] h (exK [((.exit 2),fun c h=>blQ (ge c 1) fun d=>lp (EZ C a (ge c 1) d) [] h [I 0,I 0] h (exK [((.exit 4),fun a h=>mB 1 [.int .i64 0] [(0,(ge a 0))] h fun a h=>apV false 3 1 8 (ge c 0) a h fun a h=>bIQ .add (ge l 1) (I 1) fun c=>q .normal [a,c] h)])),(.ret,fun a h=>q .ret [ge a 0,ge a 1,ge a 2] h)])) (q (.exit 0) [ge l 0] h)
def B7(C:CC)(a:V)(q:kQ):Prop:=let h:Hp:=.replicate 5 nnQ
 oR 0 a h fun a h=>bnd (ldA h 6 a) fun c=>clQ C h F.Bf [c] fun c h=>nzQ c (q (.tup [nSQ,nSQ,c]) h) (bnd (ldA h 6 a) fun a=>ciQ C h F.B9 [a] 1 fun a h=>e2Q a fun a c=>nzQ c (q (.tup [nSQ,nSQ,c]) h) (clQ C h F.Bw [a] fun c h=>e2Q c fun c d=>nzQ d (q (.tup [nSQ,nSQ,d]) h) (blQ c fun d=>lp (E0 C a c d) [2] h [nSQ,I 0] h (exK [((.exit 0),fun a h=>bxQ h 1 c (I 0) fun c=>b1Q h c fun c=>bxQ h 1 (ge a 0) (I 0) fun d=>b1Q h d fun d=>bxQ h 1 c d fun c=>b1Q h c fun c=>ciQ C h F.AM [c] 4 fun c h=>q (.tup [ge a 0,c,I 0]) h),(.ret,fun a h=>q (.tup [ge a 1,ge a 2,ge a 0]) h)]))))
theorem IL(h:B7 (CX Y) t0 (out v)):CP Y F.B7 [t0] v:=CPo 5 (nBQ (nRQ [.slot 0]) (mu (nBQ (nRQ [.inl 1]) (zp (nBQ (mu (nCQ (.n (.l [2,37] [6,7,36] [((.exit 0),[2],[7]),(.ret,[4,2,3],[])] [2]) (zq (nCQ (nCQ (zq (nBQ (mu (nCQ (.n (.l [2,9,45] [6,7,8,36,37,43,44] [((.exit 2),[2,9],[6,7,36,37]),(.ret,[4,2,3],[])] []) (zq (nCQ (nCQ (mu (nBQ (mu (nJQ [11,2] [6,7,8,9,36,37,43,44,45])) (nRQ [.o,.slot 2])))))) .o))) (mu (nBQ (mu (nCQ (.n (.l [12,87] [2,6,7,9,36,37,86] [((.exit 4),[12],[2,6,7,36,37])] []) (zq (nCQ (.n (.j [12] [2,6,7,9,36,37,86,87]) (zq (nJQ [12] [2,6,7,9,36,37,86,87])) .o))) .o))) (nRQ [.o,.slot 3])))))))) .o))) (nCQ (nRQ [.inl 4]))))))) Tryz.func12 h
def Ci(C:CC)(a:V)(q:kQ):Prop:=let h:Hp:=.replicate 2 nnQ
 oR 0 a h fun a h=>bnd (ldA h 6 a) fun c=>clQ C h F.Bf [c] fun c h=>nzQ c (q (.tup [nSQ,c]) h) (bnd (ldA h 6 a) fun a=>ciQ C h F.B9 [a] 1 fun a h=>e2Q a fun a c=>nzQ c (q (.tup [nSQ,c]) h) (clQ C h F.Fp [a] fun a h=>e2Q a fun a c=>q (.tup [a,c]) h))
theorem Jq(h:Ci (CX Y) t0 (out v)):CP Y F.Ci [t0] v:=CPo 2 (nBQ (nRQ [.slot 0]) (mu (nCQ (nRQ [.inl 1])))) Tryz.func13 h
def FB(C:CC)(a c d:V):AP:=fun l h q=>cIQ .lss (ge l 0) d (bxQ h 1 a (ge l 0) fun a=>b1Q h a fun a=>cal C.p h c [a] fun a h=>cnd a (q .ret [ge l 0] h) (bIQ .add (ge l 0) (I 1) fun a=>q .normal [a] h)) (q (.exit 0) [] h)
def DY(C:CC)(a c:V)(q:kQ):Prop:=let h:Hp:=[]
 blQ a fun d=>lp (FB C a c d) [] h [I 0] h (exK [((.exit 0),fun a h=>q (I (-1)) h),(.ret,fun a h=>q (ge a 0) h)])
def B8(C:CC)(a c:V)(q:kQ):Prop:=let h:Hp:=[]
 clQ C h F.DY [a,c] fun a h=>bIQ .geq a (I 0) fun a=>q a h
def Hs(C:CC)(a c d:V)(q:kQ):Prop:=let h:Hp:=[]
 b1Q h c fun c=>b1Q h d fun d=>clQ C h F.Bg [c,a,d] q
def Hr(C:CC)(a c d:V)(q:kQ):Prop:=let h:Hp:=[]
 b1Q h c fun c=>b1Q h d fun d=>clQ C h F.Bg [c,a,d] q
def KD(C:CC)(a c d:V):AP:=fun l h q=>cIQ .lss (ge l 0) d (bxQ h 1 c (ge l 0) fun c=>b1Q h c fun c=>blQ c fun c=>bfQ 3 a fun a=>b1Q h a fun a=>bxQ h 1 a (ge l 0) fun a=>b1Q h a fun a=>blQ a fun a=>cIQ .neq c a (q .ret [I 5] h) (bIQ .add (ge l 0) (I 1) fun a=>q .normal [a] h)) (q (.exit 1) [] h)
def KC(C:CC)(a c d:V):AP:=fun l h q=>cIQ .lss (ge l 0) d (bxQ h 1 c (ge l 0) fun c=>b1Q h c fun c=>bfQ 0 a fun a=>bfQ 0 a fun a=>b1Q h a fun a=>clQ C h F.DI [a,c] fun a h=>nzQ a (q .ret [a] h) (bIQ .add (ge l 0) (I 1) fun a=>q .normal [a] h)) (q (.exit 3) [] h)
def Kz(C:CC)(a c d e f:V):AP:=fun l h q=>cIQ .lss (ge l 1) f (bxQ h 1 e (ge l 1) fun e=>b1Q h e fun e=>b1Q h a fun f=>b1Q h a fun g=>bfQ 0 g fun g=>bfQ 2 g fun g=>b1Q h g fun g=>bIQ .sub c (I 1) fun i=>bxQ h 1 g i fun g=>b1Q h g fun g=>bxQ h 1 g (ge l 1) fun g=>b1Q h g fun g=>bxQ h 1 g d fun g=>b1Q h g fun g=>b1Q h a fun a=>bfQ 0 a fun a=>bfQ 1 a fun a=>b1Q h a fun a=>bxQ h 1 a c fun a=>b1Q h a fun a=>bxQ h 1 a d fun a=>b1Q h a fun a=>mB 3 [nPQ] [(0,e),(1,g),(2,a)] h fun a h=>clQ C h F.By [f,a] fun a h=>e2Q a fun a c=>nzQ c (q .ret [c] h) (mB 1 [nPQ] [(0,a)] h fun a h=>apV false 5 1 24 (ge l 0) a h fun a h=>bIQ .add (ge l 1) (I 1) fun c=>q .normal [a,c] h)) (q (.exit 9) [ge l 0] h)
def KA(C:CC)(a c d e f:V):AP:=fun l h q=>cIQ .lss (ge l 0) f (bxQ h 1 e (ge l 0) fun e=>b1Q h e fun e=>alV 3 [.d nPQ] h fun f h=>stD h 1 f e fun _ h=>b1Q h c fun e=>bfQ 0 e fun e=>bfQ 1 e fun e=>b1Q h e fun e=>bxQ h 1 e (I 0) fun e=>b1Q h e fun e=>b1Q h c fun g=>bfQ 0 g fun g=>bfQ 1 g fun g=>b1Q h g fun g=>bxQ h 1 g (I 0) fun g=>b1Q h g fun g=>blQ g fun g=>bIQ .sub g (I 1) fun g=>bnd (mxI false [ge l 0,g]) fun g=>bxQ h 1 e g fun e=>b1Q h e fun e=>mA 4 1 [nPQ] [(0,e)] h fun e h=>bIQ .gtr d (I 0) fun g=>jn (fun a h=>clQ C h F.B8 [ge a 0,(.fn F.Hs [] [c,f])] fun a h=>cnd a (q .ret [I 23] h) (bIQ .add (ge l 0) (I 1) fun a=>q .normal [a] h)) fun f=>cnd g (bIQ .sub d (I 1) fun e=>bxQ h 1 a e fun a=>b1Q h a fun a=>blQ a fun e=>lp (Kz C c d (ge l 0) a e) [] h [nSQ,I 0] h (exK [((.exit 9),fun a h=>f [ge a 0] h),(.ret,fun a h=>q .ret [ge a 0] h)])) (f [e] h)) (q (.exit 7) [] h)
def KB(C:CC)(a c d e:V):AP:=fun l h q=>cIQ .lss (ge l 0) e (bxQ h 1 d (ge l 0) fun d=>b1Q h d fun d=>blQ d fun e=>lp (KA C a c (ge l 0) d e) [3,4,5] h [I 0] h (exK [((.exit 7),fun a h=>bIQ .add (ge l 0) (I 1) fun a=>q .normal [a] h),(.ret,fun a h=>q .ret [ge a 0] h)])) (q (.exit 5) [] h)
def Dn(C:CC)(a c d:V)(q:kQ):Prop:=let h:Hp:=.replicate 7 nnQ
 oR 0 a h fun a h=>bnd (ldA h 6 a) fun e=>clQ C h F.Bz [e,c] fun e h=>e2Q e fun e f=>nzQ f (q f h) (blQ d fun f=>bfQ 3 a fun g=>b1Q h g fun g=>blQ g fun g=>cIQ .neq f g (q (I 5) h) (blQ d fun f=>lp (KD C a d f) [] h [I 0] h (exK [((.exit 1),fun f h=>blQ d fun f=>lp (KC C a d f) [] h [I 0] h (exK [((.exit 3),fun f h=>bnd (ldA h 6 a) fun f=>ciQ C h F.B9 [f] 1 fun f h=>e2Q f fun f g=>alV 2 [.d (.pl (.pointer none))] h fun i h=>stD h 1 i f fun _ h=>nzQ g (q g h) (blQ d fun f=>lp (KB C d i d f) [3,4,5] h [I 0] h (exK [((.exit 5),fun f h=>bnd (ldA h 6 a) fun a=>clQ C h F.G7 [a,e,c] fun a h=>e2Q a fun a c=>alV 6 [.d nPQ] h fun e h=>stD h 1 e a fun _ h=>nzQ c (q c h) (blQ d fun a=>bIQ .sub a (I 1) fun a=>bxQ h 1 d a fun a=>b1Q h a fun a=>clQ C h F.B8 [a,(.fn F.Hr [] [i,e])] fun a h=>cnd a (q (I 23) h) (q (I 0) h))),(.ret,fun a h=>q (ge a 0) h)]))),(.ret,fun a h=>q (ge a 0) h)])),(.ret,fun a h=>q (ge a 0) h)])))
theorem Lf(h:Dn (CX Y) t0 t1 t2 (out v)):CP Y F.Dn [t0,t1,t2] v:=CPo 7 (nBQ (nRQ [.slot 0]) (zq (nBQ (mu (nCQ (.n (.l [44] [1,2,3,7,42,43] [((.exit 1),[],[1,2,3,7]),(.ret,[6],[])] []) .o .o))) (nBQ (mu (nCQ (.n (.l [61] [1,2,3,7,59,60] [((.exit 3),[],[1,2,3,7]),(.ret,[6],[])] []) .o .o))) (nBQ (nRQ [.inl 1,.slot 2]) (mu (nBQ (mu (nCQ (.n (.l [84] [1,2,3,7,14,82,83] [((.exit 5),[],[1,2,3,7,14]),(.ret,[6],[])] [3,4,5]) (zq (nCQ (nCQ (zq (nCQ (.n (.l [91] [1,2,3,7,14,15,82,83,84,89,90] [((.exit 7),[],[1,2,3,7,14,82,83,84]),(.ret,[6],[])] [3,4,5]) (zq (nCQ (nCQ (nBQ (nRQ [.slot 3]) (nBQ (nRQ [.slot 4]) (nCQ (mu (.n (.j [19] [1,2,3,7,14,15,18,82,83,84,89,90,91]) (zq (nCQ (.n (.l [19,123] [1,2,3,7,14,15,17,18,82,83,84,89,90,91,121,122] [((.exit 9),[19],[1,2,3,7,14,15,18,82,83,84,89,90,91]),(.ret,[6],[])] []) (zq (nCQ (nCQ (zp (nRQ [.o,.slot 5]))))) .o))) .o)))))))) .o)))))) .o))) (nCQ (nRQ [.o,.slot 6]))))))))) Tryz.func16 h
def CG(C:CC)(a c:V)(q:kQ):Prop:=let h:Hp:=.replicate 12 nnQ
 oR 0 a h fun a h=>oR 1 c h fun c h=>alV 2 [.d nPQ,.d nPQ,.d nPQ,.d nPQ,.d (.str []),.d (.str [])] h fun d h=>mA 3 0 [nPQ] [] h fun e h=>bfQ 3 a fun f=>b1Q h f fun f=>apV false 4 1 24 e f h fun e h=>bfQ 1 c fun f=>b1Q h f fun f=>bnd (cvI .i64 f) fun f=>blQ e fun g=>bIQ .rem f g fun f=>bfQ 0 c fun g=>b1Q h g fun g=>bIQ .rem g (.d (.int .u8 7)) fun g=>jn (fun c h=>bfQ 3 a fun e=>stD h 1 e (ge c 0) fun _ h=>bnd (ldA h 6 a) fun a=>stD h 6 d a fun _ h=>bnd (ldA h 6 d) fun a=>q a h) fun d=>bIQ .eql g (.d (.int .u8 0)) fun i=>jn (fun a h=>d [ge a 0] h) fun d=>cnd i (bnd (slV h 1 e (some (I 1)) none) fun a=>d [a] h) (bIQ .eql g (.d (.int .u8 1)) fun i=>jn (fun a h=>d [e] h) fun d=>cnd i (bxQ h 1 e f fun a=>stD h 1 a nSQ fun _ h=>d [] h) (bIQ .eql g (.d (.int .u8 2)) fun i=>jn (fun a h=>d [] h) fun d=>cnd i (mkS 5 24 [nPQ] h (I 21) (I 21) fun a h=>bxQ h 1 e f fun c=>stD h 1 c a fun _ h=>d [] h) (bIQ .eql g (.d (.int .u8 3)) fun i=>jn (fun a h=>d [] h) fun d=>cnd i (mA 6 0 [nPQ] [] h fun a h=>bxQ h 1 e f fun g=>b1Q h g fun g=>sp h a [c]<|apV false 7 1 24 a g h fun a h=>bfQ 2 c fun g=>sm h c g<|b1Q h g fun c=>mB 1 [nPQ] [(0,c)] h fun c h=>apV false 8 1 24 a c h fun a h=>bxQ h 1 e f fun c=>stD h 1 c a fun _ h=>d [] h) (bIQ .eql g (.d (.int .u8 4)) fun e=>jn (fun a h=>d [] h) fun d=>cnd e (bfQ 3 c fun c=>bnd (ldA h 2 c) fun c=>bfQ 4 a fun a=>stD h 2 a c fun _ h=>d [] h) (bIQ .eql g (.d (.int .u8 5)) fun c=>jn (fun a h=>d [] h) fun d=>cnd c (mA 9 0 [.int .i64 0] [] h fun c h=>bfQ 0 a fun e=>bfQ 0 e fun e=>b1Q h e fun e=>apV false 10 1 8 c e h fun c h=>a1Q 11 c (I 4) h fun c h=>bfQ 0 a fun a=>bfQ 0 a fun a=>stD h 1 a c fun _ h=>d [] h) (d [] h))))))
theorem JM(h:CG (CX Y) t0 t1 (out v)):CP Y F.CG [t0,t1] v:=CPo 12 (nBQ (nRQ [.slot 0,.slot 1,.slot 2]) (nBQ (nRQ [.slot 3,.slot 4]) (mu (nCQ (mu (.n (.j [5] [2,4]) (mu (.n (.j [5] [2,4]) .o (mu (.n (.j [] [2,4,5]) .o (mu (.n (.j [] [2,4,5]) (nRQ [.slot 5]) (mu (.n (.j [] [2,4,5]) (nRQ [.slot 6,.slot 7,.o,.slot 8]) (mu (.n (.j [] [2,4,5]) .o (mu (.n (.j [] [2,4,5]) (nRQ [.slot 9,.slot 10,.o,.slot 11]) .o)))))))))))) .o)))))) Tryz.func5 h
def Cg(C:CC)(a:V):AP:=fun l h q=>bfQ 3 a fun c=>b1Q h c fun c=>blQ c fun c=>cIQ .lss (ge l 0) c (bfQ 3 a fun c=>b1Q h c fun c=>bxQ h 1 c (ge l 0) fun c=>b1Q h c fun c=>blQ c fun c=>cIQ .eql c (I 0) (q .ret [I 13] h) (bfQ 3 a fun c=>b1Q h c fun c=>bxQ h 1 c (ge l 0) fun c=>b1Q h c fun c=>blQ c fun c=>cIQ .gtr c (I 20) (q .ret [I 4] h) (bfQ 0 a fun c=>bfQ 0 c fun c=>b1Q h c fun c=>bfQ 3 a fun a=>b1Q h a fun a=>bxQ h 1 a (ge l 0) fun a=>b1Q h a fun a=>clQ C h F.Ck [c,a] fun a h=>nzQ a (q .ret [a] h) (bIQ .add (ge l 0) (I 1) fun a=>q .normal [a] h)))) (q (.exit 0) [] h)
def C4(C:CC)(a:V)(q:kQ):Prop:=let h:Hp:=.replicate 1 nnQ
 oR 0 a h fun a h=>bfQ 0 a fun c=>bnd (ldA h 3 c) fun c=>clQ C h F.ES [c] fun c h=>nzQ c (q c h) (bfQ 3 a fun c=>b1Q h c fun c=>blQ c fun c=>bfQ 0 a fun d=>bfQ 1 d fun d=>b1Q h d fun d=>blQ d fun d=>cIQ .neq c d (q (I 5) h) (lp (Cg C a) [] h [I 0] h (exK [((.exit 0),fun c h=>bfQ 4 a fun c=>bnd (ldA h 2 c) fun c=>clQ C h F.Cm [c] fun c h=>nzQ c (q (I 2) h) (bfQ 4 a fun a=>bnd (ldA h 2 a) fun a=>clQ C h F.DL [a] fun a h=>cIQ .lss a (I 0) (q (I 3) h) (q (I 0) h))),(.ret,fun a h=>q (ge a 0) h)])))
theorem Kh(h:C4 (CX Y) t0 (out v)):CP Y F.C4 [t0] v:=CPo 1 (nBQ (nRQ [.slot 0]) (zq (nCQ (mu (nCQ (.n (.l [4] [1] [((.exit 0),[],[1]),(.ret,[2],[])] []) .o .o)))))) Tryz.func7 h
def FM(C:CC)(a:V)(q:kQ):Prop:=let h:Hp:=.replicate 2 nnQ
 oR 0 a h fun a h=>alV 1 [.d (.str []),.d (.str [])] h fun c h=>bfQ 0 a fun d=>b1Q h d fun d=>clQ C h F.Db [d] fun d h=>bfQ 1 a fun a=>b1Q h a fun a=>bnd (bld [(0,1),(1,1)] [.str [],.str []] [(0,d),(1,a)]) fun a=>stD h 2 c a fun _ h=>bnd (ldA h 2 c) fun a=>q a h
theorem Ph(h:FM (CX Y) t0 (out v)):CP Y F.FM [t0] v:=CPo 2 (nCQ (nRQ [.slot 0,.slot 1])) Tryz.func22 h
def Eh(C:CC)(a c:V):AP:=fun l h q=>blQ a fun d=>cIQ .lss (ge l 0) d (bxQ h 1 a (ge l 0) fun a=>b1Q h a fun a=>bxQ h 1 c (ge l 0) fun c=>b1Q h c fun c=>cIQ .neq a c (q .ret [B false] h) (bIQ .add (ge l 0) (I 1) fun a=>q .normal [a] h)) (q (.exit 0) [] h)
def Dg(C:CC)(a c:V)(q:kQ):Prop:=let h:Hp:=[]
 blQ a fun d=>blQ c fun e=>cIQ .neq d e (q (B false) h) (lp (Eh C a c) [] h [I 0] h (exK [((.exit 0),fun a h=>q (B true) h),(.ret,fun a h=>q (ge a 0) h)]))
theorem Lc(h:Dg (CX Y) t0 t1 (out v)):CP Y F.Dg [t0,t1] v:=CPo 0 (zq (nCQ (mu (nCQ (.n (.l [5] [0,1] [((.exit 0),[],[]),(.ret,[4],[])] []) .o .o))))) Tryz.func20 h
def Eg(C:CC)(a c:V):AP:=fun l h q=>blQ a fun d=>cIQ .lss (ge l 0) d (bxQ h 2 a (ge l 0) fun a=>bnd (ldA h 2 a) fun a=>bxQ h 2 c (ge l 0) fun c=>bnd (ldA h 2 c) fun c=>bnd (biA [.str [],.str []] .neq a c) fun a=>cnd a (q .ret [B false] h) (bIQ .add (ge l 0) (I 1) fun a=>q .normal [a] h)) (q (.exit 0) [] h)
def Df(C:CC)(a c:V)(q:kQ):Prop:=let h:Hp:=[]
 blQ a fun d=>blQ c fun e=>cIQ .neq d e (q (B false) h) (lp (Eg C a c) [] h [I 0] h (exK [((.exit 0),fun a h=>q (B true) h),(.ret,fun a h=>q (ge a 0) h)]))
theorem La(h:Df (CX Y) t0 t1 (out v)):CP Y F.Df [t0,t1] v:=CPo 0 (zq (nCQ (mu (nCQ (.n (.l [5] [0,1] [((.exit 0),[],[]),(.ret,[4],[])] []) .o .o))))) Tryz.func18 h
def BH(C:CC)(a:V)(q:kQ):Prop:=let h:Hp:=.replicate 2 nnQ
 alV 0 [.d (.str []),.d (.str [])] h fun c h=>clQ C h F.En [a,I 1] fun a h=>e2Q a fun a d=>alV 1 [.d (.str []),.d (.str [])] h fun d h=>stD h 2 d a fun _ h=>bnd (ldA h 2 d) fun a=>stD h 2 c a fun _ h=>bnd (ldA h 2 c) fun a=>q a h
theorem Kd(h:BH (CX Y) t0 (out v)):CP Y F.BH [t0] v:=CPo 2 (nBQ (nRQ [.slot 0]) (nCQ (nRQ [.o,.slot 1]))) Tryz.func19 h
def Cr(C:CC)(q:kQ):Prop:=let h:Hp:=.replicate 1 nnQ
 alV 0 [.d nPQ,.d nPQ,.d nPQ,.d nPQ,.d (.str []),.d (.str [])] h fun a h=>mB 3 [.int .i64 0] [(0,(I 0)),(1,(I 0)),(2,(I 0))] h fun c h=>mB 3 [.int .i64 0] [(0,(I (-1))),(1,(I 1)),(2,(I 0))] h fun d h=>mB 2 [nPQ] [(0,c),(1,d)] h fun c h=>bnd (bld [(0,1),(1,1)] [.int .i64 0,.int .i64 0] [(0,(I 1)),(1,(I 0))]) fun d=>mB 1 [.int .i64 0,.int .i64 0] [(0,d)] h fun d h=>bnd (bld [(0,1),(1,1)] [.int .i64 0,.int .i64 0] [(0,(I 1)),(1,(I 0))]) fun e=>mB 1 [.int .i64 0,.int .i64 0] [(0,e)] h fun e h=>mB 2 [nPQ] [(0,d),(1,e)] h fun d h=>mB 3 [.int .i64 0] [(0,(I 0)),(1,(I 0)),(2,(I 0))] h fun e h=>mB 3 [.int .i64 0] [(0,(I (-4))),(1,(I 4)),(2,(I (-1)))] h fun f h=>mB 3 [.int .i64 0] [(0,(I 2)),(1,(I 3)),(2,(I 5))] h fun g h=>mB 3 [nPQ] [(0,c),(1,c),(2,c)] h fun c h=>bnd (bld [(0,1),(1,1),(2,1)] [nPQ,nPQ,nPQ] [(0,g),(1,c),(2,d)]) fun c=>mB 1 [nPQ] [(0,e)] h fun d h=>mB 2 [nPQ] [(0,e),(1,f)] h fun e h=>mB 1 [nPQ] [(0,f)] h fun f h=>mB 3 [nPQ] [(0,d),(1,e),(2,f)] h fun d h=>clQ C h F.BH [I 0] fun e h=>bnd (bld [(0,3),(3,1),(4,2)] [nPQ,nPQ,nPQ,nPQ,.str [],.str []] [(0,c),(1,d),(2,e)]) fun c=>stD h 6 a c fun _ h=>bnd (ldA h 6 a) fun a=>q a h
theorem Jw(h:Cr (CX Y) (out v)):CP Y F.Cr [] v:=CPo 1 (nCQ (nRQ [.slot 0])) Tryz.func17 h
def Eb(C:CC)(a c:V):AP:=fun l h q=>bIQ .rem c (I 5) fun d=>bfQ 68 a fun e=>bnd (ixP 5 1 e d) fun d=>b1Q h d fun d=>bnd (cvI .i64 d) fun d=>bIQ .rem d (I 3) fun d=>bIQ .add (I 1) d fun d=>cIQ .lss (ge l 1) d (bIQ .rem c (I 5) fun c=>bfQ 73 a fun a=>bnd (ixP 5 9 a c) fun a=>bnd (ixP 3 3 a (ge l 1)) fun a=>bnd (ldA h 3 a) fun a=>alD 3 1 ([.int .i8 0,.int .i8 0,.int .i8 0]) h fun c h=>stD h 3 c a fun _ h=>bnd (ixP 3 1 c (I 0)) fun a=>b1Q h a fun a=>bnd (cvI .i64 a) fun a=>bIQ .rem a (I 9) fun a=>bnd (ixP 3 1 c (I 1)) fun d=>b1Q h d fun d=>bnd (cvI .i64 d) fun d=>bIQ .rem d (I 9) fun d=>bnd (ixP 3 1 c (I 2)) fun c=>b1Q h c fun c=>bnd (cvI .i64 c) fun c=>bIQ .rem c (I 9) fun c=>mB 3 [.int .i64 0] [(0,a),(1,d),(2,c)] h fun a h=>mB 1 [nPQ] [(0,a)] h fun a h=>apV false 4 1 24 (ge l 0) a h fun a h=>bIQ .add (ge l 1) (I 1) fun c=>q .normal [a,c] h) (q (.exit 2) [ge l 0] h)
def Ec(C:CC)(a c:V):AP:=fun l h q=>bfQ 0 c fun d=>bfQ 1 d fun d=>b1Q h d fun d=>blQ d fun d=>cIQ .lss (ge l 0) d (lp (Eb C a (ge l 0)) [3] h [nSQ,I 0] h (exK [((.exit 2),fun a h=>bfQ 3 c fun d=>b1Q h d fun d=>mB 1 [nPQ] [(0,(ge a 0))] h fun a h=>apV false 5 1 24 d a h fun a h=>bfQ 3 c fun c=>stD h 1 c a fun _ h=>bIQ .add (ge l 0) (I 1) fun a=>q .normal [a] h)])) (q (.exit 0) [] h)
def Dc(C:CC)(a:V)(q:kQ):Prop:=let h:Hp:=.replicate 6 nnQ
 oR 0 a h fun a h=>alV 1 [.d nPQ,.d nPQ,.d nPQ,.d nPQ,.d (.str []),.d (.str [])] h fun c h=>bfQ 0 a fun d=>bnd (ldA h 68 d) fun d=>clQ C h F.De [d] fun d h=>bfQ 118 a fun e=>bnd (ldA h 2 e) fun e=>clQ C h F.Ch [e] fun e h=>clQ C h F.FM [e] fun e h=>bnd (bld [(0,3),(3,1),(4,2)] [nPQ,nPQ,nPQ,nPQ,.str [],.str []] [(0,d),(2,e)]) fun d=>alV 2 [.d nPQ,.d nPQ,.d nPQ,.d nPQ,.d (.str []),.d (.str [])] h fun e h=>stD h 6 e d fun _ h=>lp (Ec C a e) [3,4] h [I 0] h (exK [((.exit 0),fun a h=>bnd (ldA h 6 e) fun a=>stD h 6 c a fun _ h=>bnd (ldA h 6 c) fun a=>q a h)])
theorem K8(h:Dc (CX Y) t0 (out v)):CP Y F.Dc [t0] v:=CPo 6 (nBQ (nRQ [.slot 0,.slot 1]) (nBQ (nRQ [.o,.o,.o,.slot 2]) (nCQ (mu (nCQ (.n (.l [4] [1,2,3] [((.exit 0),[],[2,3])] [3,4]) (mu (nCQ (nCQ (mu (nBQ (mu (nCQ (.n (.l [5,6] [1,2,3,4] [((.exit 2),[5],[1,2,3,4])] [3]) (mu (nCQ (nCQ (nBQ (nRQ [.slot 3]) (nRQ [.o,.o,.slot 4]))))) .o))) (nRQ [.o,.slot 5])))))) .o)))))) Tryz.func6 h
def BZ(C:CC)(q:kQ):Prop:=let h:Hp:=.replicate 1 nnQ
 clQ C h F.Cr [] fun a h=>alV 0 [.d nPQ,.d nPQ,.d nPQ,.d nPQ,.d (.str []),.d (.str [])] h fun c h=>stD h 6 c a fun _ h=>bnd (ldA h 6 c) fun a=>clQ C h F.B7 [a] fun a h=>e3Q a fun a d e=>bnd (ldA h 6 c) fun f=>clQ C h F.Ca [f,a] fun f h=>e2Q f fun f g=>bnd (ldA h 6 c) fun c=>clQ C h F.Cb [c,a] fun c h=>e2Q c fun c i=>bIQ .eql e (I 0) fun e=>gqQ e true h a fun j h=>gbQ e true h (fL j) fun j h=>gbQ e true h (biI .eql j (I 3)) fun j h=>bpQ e j (B false) fun e=>gqQ e true h a fun a h=>gbQ e true h (ixV h 1 a (I 1)) fun a h=>gbQ e true h (ld1 h a) fun a h=>gbQ e true h (biI .eql a (I 0)) fun a h=>bpQ e a (B false) fun a=>gqQ a true h d fun d h=>gd a true h (fun q=>clQ C h F.BH [I (-4)] q) fun e h=>gd a true h (fun q=>clQ C h F.BH [I 4] q) fun j h=>gd a true h (fun q=>clQ C h F.BH [I (-1)] q) fun k h=>gd a true h (fun q=>mB 3 [.str [],.str []] [(0,e),(1,j),(2,k)] h q) fun e h=>gd a true h (fun q=>clQ C h F.Df [d,e] q) fun d h=>bpQ a d (B false) fun a=>gqQ a true h g fun d h=>gbQ a true h (biI .eql d (I 0)) fun d h=>bpQ a d (B false) fun a=>gqQ a true h f fun d h=>gbQ a true h (fL d) fun d h=>gbQ a true h (biI .eql d (I 3)) fun d h=>bpQ a d (B false) fun a=>gqQ a true h f fun d h=>gbQ a true h (ixV h 1 d (I 2)) fun d h=>gbQ a true h (ld1 h d) fun d h=>gd a true h (fun q=>mB 3 [.int .i64 0] [(0,(I (-6))),(1,(I 6)),(2,(I (-1)))] h q) fun e h=>gd a true h (fun q=>clQ C h F.Dg [d,e] q) fun d h=>bpQ a d (B false) fun a=>gqQ a true h i fun d h=>gbQ a true h (biI .eql d (I 0)) fun d h=>bpQ a d (B false) fun a=>gqQ a true h c fun d h=>gbQ a true h (fL d) fun d h=>gbQ a true h (biI .eql d (I 1)) fun d h=>bpQ a d (B false) fun a=>gqQ a true h c fun c h=>gbQ a true h (ixV h 3 c (I 0)) fun c h=>gbQ a true h (faV 0 c) fun c h=>gbQ a true h (ld1 h c) fun c h=>gbQ a true h (biI .eql c (I 1)) fun c h=>bpQ a c (B false) fun a=>q a h
def Fu:Ann:=(mu (nCQ (nRQ [.o,.slot 0])))
attribute [local irreducible] bnd gd cal cnd ext mB mA stD alV alD oR jn lp exK mkS apV cai oA in
theorem Kg(C:CC)(q:kkQ):fnD Y C Tryz.f4 1 Fu [] q=BZ C q:=SC
theorem Ke:okB Tryz.prog Tryz.f4 Fu=true:=dQ
theorem Kf(h:BZ (CX Y) (out v)):CP Y F.BZ [] v:=
 CP.of (fn:=Tryz.f4) (m:=1) (a:=Fu) rfl (fun _=>rfl) Tryz.func4 Ke (by rw[Kg];exact h)
def Ee(C:CC)(a c d:V):AP:=fun l h q=>cIQ .lss (ge l 1) d (bfQ 6 a fun a=>bnd (ixP 5 9 a c) fun a=>bnd (ixP 3 3 a (ge l 1)) fun a=>bnd (ldA h 3 a) fun a=>alD 4 1 ([.int .i8 0,.int .i8 0,.int .i8 0]) h fun c h=>stD h 3 c a fun _ h=>bnd (ixP 3 1 c (I 0)) fun a=>b1Q h a fun a=>bnd (cvI .i64 a) fun a=>bIQ .rem a (I 9) fun a=>bnd (ixP 3 1 c (I 1)) fun d=>b1Q h d fun d=>bnd (cvI .i64 d) fun d=>bIQ .rem d (I 9) fun d=>bnd (ixP 3 1 c (I 2)) fun c=>b1Q h c fun c=>bnd (cvI .i64 c) fun c=>bIQ .rem c (I 9) fun c=>mB 3 [.int .i64 0] [(0,a),(1,d),(2,c)] h fun a h=>mB 1 [nPQ] [(0,a)] h fun a h=>apV false 5 1 24 (ge l 0) a h fun a h=>bIQ .add (ge l 1) (I 1) fun c=>q .normal [a,c] h) (q (.exit 2) [ge l 0] h)
def Ed(C:CC)(a c d e f:V):AP:=fun l h q=>cIQ .lss (ge l 1) f (bIQ .sub d (I 1) fun f=>bfQ 51 a fun a=>bnd (ixP 4 4 a f) fun a=>bnd (ixP 2 2 a (ge l 1)) fun a=>bnd (ldA h 2 a) fun a=>alD 7 1 ([.int .u8 0,.int .u8 0]) h fun f h=>stD h 2 f a fun _ h=>bnd (ixP 2 1 f (I 0)) fun a=>b1Q h a fun a=>bnd (cvI .i64 a) fun a=>bfQ 1 c fun c=>b1Q h c fun c=>bIQ .sub d (I 1) fun d=>bxQ h 1 c d fun c=>b1Q h c fun c=>blQ c fun c=>bIQ .rem a c fun a=>bnd (ixP 2 1 f (I 1)) fun c=>b1Q h c fun c=>bnd (cvI .i64 c) fun c=>blQ e fun d=>bIQ .rem c d fun c=>bnd (bld [(0,1),(1,1)] [.int .i64 0,.int .i64 0] [(0,a),(1,c)]) fun a=>mB 1 [.int .i64 0,.int .i64 0] [(0,a)] h fun a h=>apV false 8 2 16 (ge l 0) a h fun a h=>bIQ .add (ge l 1) (I 1) fun c=>q .normal [a,c] h) (q (.exit 4) [ge l 0] h)
def Ef(C:CC)(a c d:V):AP:=fun l h q=>cIQ .lss (ge l 0) d (jn (fun a h=>bIQ .add (ge l 0) (I 1) fun a=>q .normal [a] h) fun d=>bfQ 1 a fun e=>bnd (ixP 5 1 e (ge l 0)) fun e=>b1Q h e fun e=>bIQ .rem e (.d (.int .u8 3)) fun e=>bnd (cvI .i64 e) fun e=>bIQ .add (I 1) e fun e=>lp (Ee C a (ge l 0) e) [4] h [nSQ,I 0] h (exK [((.exit 2),fun e h=>bfQ 1 c fun f=>b1Q h f fun f=>mB 1 [nPQ] [(0,(ge e 0))] h fun g h=>apV false 6 1 24 f g h fun f h=>bfQ 1 c fun g=>stD h 1 g f fun _ h=>cIQ .eql (ge l 0) (I 0) (d [] h) (bfQ 67 a fun f=>b1Q h f fun f=>bIQ .sub (ge l 0) (I 1) fun g=>bIQ .shr f g fun f=>bIQ .and f (.d (.int .u8 1)) fun f=>bnd (cvI .i64 f) fun f=>bIQ .add (I 1) f fun f=>lp (Ed C a c (ge l 0) (ge e 0) f) [7] h [nSQ,I 0] h (exK [((.exit 4),fun a h=>bfQ 2 c fun e=>b1Q h e fun e=>mB 1 [nPQ] [(0,(ge a 0))] h fun a h=>apV false 9 1 24 e a h fun a h=>bfQ 2 c fun c=>stD h 1 c a fun _ h=>d [] h)])))])) (q (.exit 0) [] h)
def De(C:CC)(a:V)(q:kQ):Prop:=let h:Hp:=.replicate 10 nnQ
 oR 0 a h fun a h=>alV 1 [.d nPQ,.d nPQ,.d nPQ] h fun c h=>mA 2 3 [.int .i64 0] [(0,(I 2)),(1,(I 3)),(2,(I 5))] h fun d h=>bnd (bld [(0,1),(1,1),(2,1)] [nPQ,nPQ,nPQ] [(0,d)]) fun d=>alV 3 [.d nPQ,.d nPQ,.d nPQ] h fun e h=>stD h 3 e d fun _ h=>bfQ 0 a fun d=>b1Q h d fun d=>bIQ .rem d (.d (.int .u8 5)) fun d=>bnd (cvI .i64 d) fun d=>bIQ .add (I 1) d fun d=>lp (Ef C a e d) [4,5,7,8] h [I 0] h (exK [((.exit 0),fun a h=>bnd (ldA h 3 e) fun a=>stD h 3 c a fun _ h=>bnd (ldA h 3 c) fun a=>q a h)])
theorem K9(h:De (CX Y) t0 (out v)):CP Y F.De [t0] v:=CPo 10 (nBQ (nRQ [.slot 0,.slot 1]) (nBQ (nRQ [.slot 2,.slot 3]) (nCQ (mu (nCQ (.n (.l [18] [1,2,3,17] [((.exit 0),[],[2,3])] [4,5,7,8]) (zq (nCQ (.n (.j [] [1,2,3,17,18]) (zq (nBQ (mu (nCQ (.n (.l [5,28] [1,2,3,4,17,18,27] [((.exit 2),[5],[1,2,3,4,17,18])] [4]) (zq (nCQ (nCQ (mu (nBQ (nRQ [.slot 4]) (nRQ [.o,.o,.slot 5])))))) .o))) (nBQ (nRQ [.o,.slot 6]) (zq (nBQ (mu (nCQ (.n (.l [8,70] [1,2,3,4,5,17,18,69] [((.exit 4),[8],[1,2,3,17,18])] [7]) (zq (nCQ (nCQ (mu (nBQ (nRQ [.slot 7]) (nRQ [.o,.slot 8])))))) .o))) (nRQ [.o,.slot 9])))))) .o))) .o)))))) Tryz.func21 h
def AS(C:CC)(a c:V)(q:kQ):Prop:=let h:Hp:=.replicate 3 nnQ
 oR 0 a h fun a h=>oR 1 c h fun c h=>clQ C h F.BZ [] fun d h=>bnd (unV .not d) fun d=>gbQ d false h (faV 2 c) fun e h=>gbQ d false h (ld1 h e) fun e h=>gbQ d false h (fL e) fun e h=>gbQ d false h (biI .gtr e (I 8)) fun e h=>bpQ d (B true) e fun d=>gbQ d false h (faV 3 c) fun e h=>gbQ d false h (faV 0 e) fun e h=>gbQ d false h (ld1 h e) fun e h=>gbQ d false h (sy e) fun e h=>gbQ d false h (biI .gtr e (I 13)) fun e h=>bpQ d (B true) e fun d=>gbQ d false h (faV 3 c) fun e h=>gbQ d false h (faV 1 e) fun e h=>gbQ d false h (ld1 h e) fun e h=>gbQ d false h (sy e) fun e h=>gbQ d false h (biI .gtr e (I 13)) fun e h=>bpQ d (B true) e fun d=>cnd d (clQ C h F.BZ [] q) (bnd (ldA h 120 a) fun a=>clQ C h F.Dc [a] fun a h=>bnd (ldA h 5 c) fun c=>clQ C h F.CG [a,c] fun a h=>alV 2 [.d nPQ,.d nPQ,.d nPQ,.d nPQ,.d (.str []),.d (.str [])] h fun c h=>stD h 6 c a fun _ h=>bnd (ldA h 6 c) fun a=>clQ C h F.C4 [a] fun a h=>bnd (ldA h 6 c) fun d=>clQ C h F.Bf [d] fun d h=>cIQ .neq d a (q (B false) h) (cIQ .eql a (I 0) (q (B true) h) (bnd (ldA h 6 c) fun d=>clQ C h F.D4 [d,I 0,I 0] fun d h=>e2Q d fun d e=>bnd (ldA h 6 c) fun f=>bnd (bld [(0,1),(1,1)] [.int .i64 0,.int .i64 0] []) fun g=>clQ C h F.Dr [f,I 0,g] fun f h=>e2Q f fun f g=>bnd (ldA h 6 c) fun i=>clQ C h F.DW [i,nSQ] fun i h=>e2Q i fun i j=>bnd (ldA h 6 c) fun k=>clQ C h F.B7 [k] fun k h=>e3Q k fun k l m=>bnd (ldA h 6 c) fun n=>clQ C h F.Ci [n] fun n h=>e2Q n fun n o=>bnd (ldA h 6 c) fun p=>clQ C h F.Ca [p,nSQ] fun p h=>e2Q p fun p r=>bnd (ldA h 6 c) fun s=>clQ C h F.Cb [s,nSQ] fun s h=>e2Q s fun s t=>blQ d fun d=>blQ f fun f=>bIQ .add d f fun d=>blQ i fun f=>bIQ .add d f fun d=>blQ k fun f=>bIQ .add d f fun d=>blQ l fun f=>bIQ .add d f fun d=>blQ n fun f=>bIQ .add d f fun d=>blQ p fun f=>bIQ .add d f fun d=>blQ s fun f=>bIQ .add d f fun d=>bIQ .eql d (I 0) fun d=>gqQ d true h e fun e h=>gqQ d true h a fun f h=>gbQ d true h (biI .eql e f) fun e h=>bpQ d e (B false) fun d=>gqQ d true h g fun e h=>gqQ d true h a fun f h=>gbQ d true h (biI .eql e f) fun e h=>bpQ d e (B false) fun d=>gqQ d true h j fun e h=>gqQ d true h a fun f h=>gbQ d true h (biI .eql e f) fun e h=>bpQ d e (B false) fun d=>gqQ d true h m fun e h=>gqQ d true h a fun f h=>gbQ d true h (biI .eql e f) fun e h=>bpQ d e (B false) fun d=>gqQ d true h o fun e h=>gqQ d true h a fun f h=>gbQ d true h (biI .eql e f) fun e h=>bpQ d e (B false) fun d=>gqQ d true h r fun e h=>gqQ d true h a fun f h=>gbQ d true h (biI .eql e f) fun e h=>bpQ d e (B false) fun d=>gqQ d true h t fun e h=>gqQ d true h a fun f h=>gbQ d true h (biI .eql e f) fun e h=>bpQ d e (B false) fun d=>gbQ d true h (ldA h 6 c) fun c h=>gd d true h (fun q=>clQ C h F.Dn [c,nSQ,nSQ] q) fun c h=>gqQ d true h a fun a h=>gbQ d true h (biI .eql c a) fun a h=>bpQ d a (B false) fun a=>q a h)))
def CS:Ann:=(nBQ (nRQ [.slot 0,.slot 1]) (mu (nCQ (nRQ [.o,.o,.slot 2]))))
attribute [local irreducible] bnd gd cal cnd ext mB mA stD alV alD oR jn lp exK mkS apV cai oA in
theorem GT(C:CC)(t0:V)(t1:V)(q:kkQ):fnD Y C Tryz.f3 3 CS [t0,t1] q=AS C t0 t1 q:=SC
theorem GQ:okB Tryz.prog Tryz.f3 CS=true:=dQ
theorem GR(h:AS (CX Y) t0 t1 (out v)):CP Y F.AS [t0,t1] v:=
 CP.of (fn:=Tryz.f3) (m:=3) (a:=CS) rfl (fun _=>rfl) Tryz.func3 GQ (by rw[GT];exact h)
end Go.Vm
