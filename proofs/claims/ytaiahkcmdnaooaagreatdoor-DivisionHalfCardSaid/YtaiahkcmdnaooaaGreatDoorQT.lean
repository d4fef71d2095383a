/- Functions of the program as predicate transformers. Printed by gen.py. -/
import Derived.Test.YtaiahkcmdnaooaaGreatDoorQVmC
import Derived.KernelRfl
set_option linter.unusedVariables false
set_option linter.unusedSimpArgs false
set_option maxRecDepth 100000
set_option maxHeartbeats 4000000
namespace Go.Vm
open Go Go.Am Go.Proofs
theorem CPo {f:FuncId} {fn:Func} (m:Nat) (a:Ann) {ds:List V} {v:V} (h3:Y.X.P.funcs[f]?=some fn) (h5:fnD Y (CX Y) fn m a ds (out v)) (h1:Y.X.allow f=true:=by rfl) (h2:∀ u,Y.X.orc f u=none:=by exact fun _=>rfl) (h4:okB Y.X.P fn a=true:=by decide +kernel):CP Y f ds v:=CP.of h1 h2 h3 h4 h5
abbrev kQ:=V->Hp->Prop
abbrev clQ(C:CC)(h:Hp)(f:FuncId)(a:List V)(k:kQ):Prop:=cal C.p h (.fn f [] []) a k
abbrev ciQ(C:CC)(h:Hp)(f:FuncId)(a:List V)(s:Nat)(k:kQ):Prop:=cai C.i h (.fn f [] []) a s k
abbrev bIQ(o:BinOp)(x y:V)(k:V->Prop):Prop:=bnd (biI o x y) k
abbrev bSQ(o:BinOp)(x y:V)(k:V->Prop):Prop:=bnd (biS o x y) k
abbrev b1Q(h:Hp)(x:V)(k:V->Prop):Prop:=bnd (ld1 h x) k
abbrev bxQ(h:Hp)(n:Nat)(x y:V)(k:V->Prop):Prop:=bnd (ixV h n x y) k
abbrev blQ(x:V)(k:V->Prop):Prop:=bnd (bC x) k
abbrev bfQ(n:Nat)(x:V)(k:V->Prop):Prop:=bnd (faV n x) k
abbrev bpQ(x y z:V)(k:V->Prop):Prop:=bnd (iH x y z) k
abbrev cIQ(o:BinOp)(x y:V)(A B:Prop):Prop:=bnd (biI o x y) fun c=>cnd c A B
abbrev nzQ(x:V)(A B:Prop):Prop:=bnd (biI .neq x (I 0)) fun c=>cnd c A B
abbrev gbQ(c:V)(w:Bool)(h:Hp)(o:Option V)(k:kQ):Prop:=gd c w h (fun q=>bnd o fun v=>q v h) k
abbrev gqQ(c:V)(w:Bool)(h:Hp)(x:V)(k:kQ):Prop:=gd c w h (fun q=>q x h) k
abbrev e2Q(x:V)(k:V->V->Prop):Prop:=ext x 0 fun a=>ext x 1 fun b=>k a b
abbrev e3Q(x:V)(k:V->V->V->Prop):Prop:=ext x 0 fun a=>ext x 1 fun b=>ext x 2 fun c=>k a b c
abbrev nSQ:V:=.d (.pl (.slice none 0 0))
abbrev a1Q(s:Nat)(x y:V)(h:Hp)(k:kQ):Prop:=dw 1 [.int .i64 0] [(0,y)] h fun v h=>apV false s 1 8 x v h k
def mA (C:CC) (t0 t1:V) (q:kQ):Prop:=let h:Hp:=.replicate 0 (0,.none)
 clQ C h F.dp [t0] fun v1 h=>nzQ v1 (q v1 h) (clQ C h F.kY [t1] fun v3 h=>nzQ v3 (q v3 h) (blQ t1 fun v5=>blQ t0 fun v6=>cIQ .neq v5 v6 (q (I 5) h) (q (I 0) h)))
theorem GG {t0 t1 v:V} (h:mA (CX Y) t0 t1 (out v)):CP Y F.mA [t0,t1] v:=CPo 0 .o Tryz.func44 h
def jW (C:CC) (t0 t1 t2:V) (q:kQ):Prop:=let h:Hp:=.replicate 0 (0,.none)
 clQ C h F.mA [t0,t1] fun v1 h=>nzQ v1 (q v1 h) (clQ C h F.iM [t0,t2] fun v3 h=>q v3 h)
theorem yZ {t0 t1 t2 v:V} (h:jW (CX Y) t0 t1 t2 (out v)):CP Y F.jW [t0,t1,t2] v:=CPo 0 .o Tryz.func89 h
def rC (C:CC) (p0 p8 p9:V):bj:=fun l h q=>cIQ .lss (ge l 1) p9 (bxQ h 1 p8 (ge l 1) fun v2=>b1Q h v2 fun v3=>bxQ h 1 p0 (ge l 1) fun v4=>b1Q h v4 fun v5=>bIQ .mul v3 v5 fun v6=>bIQ .add (ge l 0) v6 fun v7=>bIQ .add (ge l 1) (I 1) fun v8=>q .normal [v7,v8] h) (q (.exit 0) [(ge l 0)] h)
def uj (C:CC) (t0 t1:V) (q:kQ):Prop:=let h:Hp:=.replicate 0 (0,.none)
 blQ t1 fun v1=>lp (rC C t0 t1 v1) [] h [(I 0),(I 0)] h (exK [((.exit 0),fun l2 h=>q (ge l2 0) h)])
theorem Mv {t0 t1 v:V} (h:uj (CX Y) t0 t1 (out v)):CP Y F.uj [t0,t1] v:=CPo 0 (.n .x .o (.n .x .o (.n .x (.n .x .o (.n .x (.n (.l [5,10] [0,8,9] [((.exit 0),[5],[])] []) .o .o) .o)) .o))) Tryz.func90 h
def nh (C:CC) (t0 t1 t2:V) (q:kQ):Prop:=let h:Hp:=.replicate 0 (0,.none)
 clQ C h F.jW [t0,t1,t2] fun v1 h=>nzQ v1 (q (.tup [(I 0),v1]) h) (clQ C h F.uj [t1,t2] fun v3 h=>bIQ .gtr v3 (I 1000000000) fun v4=>gqQ v4 false h v3 fun v5 h=>gbQ v4 false h (biI .lss v5 (I (-1000000000))) fun v6 h=>bpQ v4 (B true) v6 fun v7=>cnd v7 (q (.tup [(I 0),(I 4)]) h) (q (.tup [v3,(I 0)]) h))
theorem GF {t0 t1 t2 v:V} (h:nh (CX Y) t0 t1 t2 (out v)):CP Y F.nh [t0,t1,t2] v:=CPo 0 .o Tryz.func45 h
end Go.Vm
namespace Go.Vm
open Go Go.Am Go.Proofs
def mL (C:CC) (t0:V) (q:kQ):Prop:=let h:Hp:=.replicate 0 (0,.none)
 bIQ .geq t0 (I (-1000000000)) fun v1=>gqQ v1 true h t0 fun v2 h=>gbQ v1 true h (biI .leq v2 (I 1000000000)) fun v3 h=>bpQ v1 v3 (B false) fun v4=>q v4 h
theorem Jv {t0 v:V} (h:mL (CX Y) t0 (out v)):CP Y F.mL [t0] v:=CPo 0 .o Tryz.func119 h
def kX (C:CC) (t0:V) (q:kQ):Prop:=let h:Hp:=.replicate 0 (0,.none)
 clQ C h F.mL [t0] fun v1 h=>bnd (unV .not v1) fun v2=>q v2 h
theorem A7 {t0 v:V} (h:kX (CX Y) t0 (out v)):CP Y F.kX [t0] v:=CPo 0 .o Tryz.func126 h
def kY (C:CC) (t0:V) (q:kQ):Prop:=let h:Hp:=.replicate 0 (0,.none)
 blQ t0 fun v1=>bIQ .gtr v1 (I 64) fun v2=>gqQ v2 false h t0 fun v3 h=>gd v2 false h (fun q=>clQ C h F.aU [v3,(.fn F.kX [] [])] q) fun v4 h=>bpQ v2 (B true) v4 fun v5=>cnd v5 (q (I 4) h) (q (I 0) h)
theorem Hg {t0 v:V} (h:kY (CX Y) t0 (out v)):CP Y F.kY [t0] v:=CPo 0 .o Tryz.func88 h
def nA (C:CC) (t0:V) (q:kQ):Prop:=let h:Hp:=.replicate 0 (0,.none)
 clQ C h F.kY [t0] fun v1 h=>nzQ v1 (q (.tup [nSQ,v1]) h) (q (.tup [t0,(I 0)]) h)
theorem Fa {t0 v:V} (h:nA (CX Y) t0 (out v)):CP Y F.nA [t0] v:=CPo 0 .o Tryz.func121 h
def oR (C:CC) (p1 p26 p27:V):bj:=fun l h q=>cIQ .lss (ge l 1) p27 (bxQ h 1 p26 (ge l 1) fun v2=>b1Q h v2 fun v3=>bIQ .mul p1 v3 fun v4=>a1Q 2 (ge l 0) v4 h fun v6 h=>bIQ .add (ge l 1) (I 1) fun v7=>q .normal [v6,v7] h) (q (.exit 0) [(ge l 0)] h)
def o9 (C:CC) (t0 t1:V) (q:kQ):Prop:=let h:Hp:=.replicate 3 (0,.none)
 clQ C h F.kY [t0] fun v1 h=>nzQ v1 (q (.tup [nSQ,v1]) h) (clQ C h F.mL [t1] fun v3 h=>bnd (unV .not v3) fun v4=>cnd v4 (clQ C h F.A3 [t0] fun v5 h=>cnd v5 (blQ t0 fun v6=>mkS 0 8 [.int .i64 0] h v6 v6 fun v7 h=>q (.tup [v7,(I 0)]) h) (q (.tup [nSQ,(I 4)]) h)) (blQ t0 fun v8=>mkS 1 8 [.int .i64 0] h (I 0) v8 fun v9 h=>blQ t0 fun v10=>lp (oR C t1 t0 v10) [] h [v9,(I 0)] h (exK [((.exit 0),fun l11 h=>clQ C h F.nA [(ge l11 0)] fun v12 h=>e2Q v12 fun v13 v14=>q (.tup [v13,v14]) h)])))
theorem Hf {t0 t1 v:V} (h:o9 (CX Y) t0 t1 (out v)):CP Y F.o9 [t0,t1] v:=CPo 3 (.n .x .o (.n .x .o (.n .x (.n .x .o (.n .x (.n .x (.n .x .o (.n .x (.n .x (.n (.r [.slot 0]) .o .o) .o) .o)) .o) .o)) (.n .x (.n (.r [.slot 1]) .o .o) (.n .x (.n .x .o (.n .x (.n (.l [7,28] [1,26,27] [((.exit 0),[7],[])] []) (.n .x .o (.n .x .o (.n .x (.n .x (.n .x .o (.n (.r [.o,.slot 2]) .o .o)) .o) .o))) .o) .o)) .o))))) Tryz.func79 h
def uu (C:CC) (t0:V) (q:kQ):Prop:=let h:Hp:=.replicate 0 (0,.none)
 clQ C h F.o9 [t0,(I (-1))] fun v1 h=>e2Q v1 fun v2 v3=>q (.tup [v2,v3]) h
theorem MO {t0 v:V} (h:uu (CX Y) t0 (out v)):CP Y F.uu [t0] v:=CPo 0 .o Tryz.func36 h
def u7 (C:CC) (t0:V) (q:kQ):Prop:=let h:Hp:=.replicate 0 (0,.none)
 bIQ .neq t0 (I 0) fun v1=>q v1 h
def A3 (C:CC) (t0:V) (q:kQ):Prop:=let h:Hp:=.replicate 0 (0,.none)
 clQ C h F.aU [t0,(.fn F.u7 [] [])] fun v1 h=>bnd (unV .not v1) fun v2=>q v2 h
def pF (C:CC) (b:Nat) (h:Hp) (t0:V) (q:kQ):Prop:=let h:Hp:=h++List.replicate 1 (0,.none)
 bIQ .lss t0 (I 0) fun v1=>gqQ v1 false h t0 fun v2 h=>gbQ v1 false h (biI .gtr v2 (I 64)) fun v3 h=>bpQ v1 (B true) v3 fun v4=>cnd v4 (q (.tup [nSQ,(I 3)]) h) (mkS (b+0) 8 [.int .i64 0] h t0 t0 fun v5 h=>q (.tup [v5,(I 0)]) h)
def vq (b:Nat):Ann:=(.n .x .o (.n .x .o (.n .x (.n (.r [.slot (b+0)]) .o .o) .o)))
theorem Jz (C:CC) (h:Hp) (t0:V) (q:V->Hp->Prop):fnI Y C Go.Proofs.Tryz.f83 1 vq [t0] h q=pF C h.length h t0 q:=by
 rfl
theorem Jw (b:Nat):okB Go.Proofs.Tryz.prog Go.Proofs.Tryz.f83 (vq b)=true:=by rfl
theorem Jy {t0 v:V} {h h2:Hp} (hh:pF (CX Y) h.length h t0 (sV h.length v h2)):CI Y F.pF [t0] h v h2:=
 CI.of (fn:=Go.Proofs.Tryz.f83) (m:=1) (a:=vq) rfl (fun _=>rfl) Go.Proofs.Tryz.func83 (Jw _) (by rw [Jz];exact hh)
def qM (C:CC) (t0 t1:V) (q:kQ):Prop:=let h:Hp:=.replicate 1 (0,.none)
 ciQ C h F.pF [t0] 0 fun v1 h=>e2Q v1 fun v2 v3=>nzQ v3 (q (.tup [nSQ,v3]) h) (bIQ .lss t1 (I 0) fun v5=>gqQ v5 false h t1 fun v6 h=>gqQ v5 false h t0 fun v7 h=>gbQ v5 false h (biI .geq v6 v7) fun v8 h=>bpQ v5 (B true) v8 fun v9=>cnd v9 (q (.tup [nSQ,(I 3)]) h) (bxQ h 1 v2 t1 fun v10=>stD h 1 v10 (I 1) fun _ h=>q (.tup [v2,(I 0)]) h))
theorem JA {t0 t1 v:V} (h:qM (CX Y) t0 t1 (out v)):CP Y F.qM [t0,t1] v:=CPo 1 (.n .x .o (.n .x (.n (.r [.inl 0]) .o .o) .o)) Tryz.func41 h
end Go.Vm
namespace Go.Vm
open Go Go.Am Go.Proofs
def bV (C:CC) (t0 t1:V) (q:kQ):Prop:=let h:Hp:=.replicate 0 (0,.none)
 gqQ t0 true h t1 fun v1 h=>gbQ t0 true h (biS .neq v1 (.d (.str [48]))) fun v2 h=>bpQ t0 v2 (B false) fun v3=>cnd v3 (bSQ .add (.d (.str [45])) t1 fun v4=>q v4 h) (q t1 h)
theorem vX {t0 t1 v:V} (h:bV (CX Y) t0 t1 (out v)):CP Y F.bV [t0,t1] v:=CPo 0 .o Tryz.func129 h
def hO (C:CC) (t0 t1:V) (q:V->Hp->Prop):Prop:=let h:Hp:=List.replicate 6 (0,.none)
 cal C.p h (.fn F.eU [] []) [t0,t1] fun v1 h=>ext v1 0 fun v2=>ext v1 1 fun v3=>ext v1 2 fun v4=>cnd v4 (bnd (biI .add v2 v3) fun v5=>cal C.p h (.fn F.im [] []) [v5] fun v6 h=>q v6 h) (cai C.i h (.fn F.cj [] []) [t0] 0 fun v7 h=>cai C.i h (.fn F.cj [] []) [t1] 1 fun v8 h=>bnd (bC v7) fun v9=>bnd (bC v8) fun v10=>bnd (biI .lss v9 v10) fun v11=>jn (fun l12 h=>dw 1 [.int .u64 0] [(0,(.d (.int .u64 0)))] h fun v14 h=>apV false 2 1 8 (ge l12 0) v14 h fun v15 h=>bnd (bC v15) fun v16=>bnd (biI .sub v16 (I 1)) fun v17=>bnd (bC (ge l12 1)) fun v18=>bnd (biI .sub v17 v18) fun v19=>apZ false 3 1 8 [.int .u64 0] (ge l12 1) v19 h fun v20 h=>cai C.i h (.fn F.b9 [] []) [v15,v20,(I 0)] 4 fun v21 h=>cai C.i h (.fn F.aA [] []) [v15] 5 fun v22 h=>cal C.p h (.fn F.aL [] []) [v22] fun v23 h=>q v23 h) fun q13=>cnd v11 (q13 [v8,v7] h) (q13 [v7,v8] h))
theorem Dc {t0 t1 v:V} (h:hO (CX Y) t0 t1 (out v)):CP Y F.hO [t0,t1] v:=CPo 6 (.n .x .o (.n .x .o (.n .x (.n (.r [.inl 0,.inl 1]) .o .o) (.n .x (.n .x .o (.n (.j [8,9] []) .o .o)) (.n .x (.n (.r [.o,.slot 2]) .o .o) (.n .x (.n (.r [.slot 3,.inl 4]) .o .o) (.n .x (.n (.r [.inl 5]) .o .o) .o))))))) Tryz.func130 h
def bR (C:CC) (t0 t1:V) (q:kQ):Prop:=let h:Hp:=.replicate 0 (0,.none)
 bnd (lI t0) fun v1=>bnd (lI t1) fun v2=>cIQ .neq v1 v2 (bnd (lI t0) fun v4=>bnd (lI t1) fun v5=>bIQ .sub v4 v5 fun v6=>bnd (mxI true [(I (-1)),v6]) fun v7=>bnd (mxI false [(I 1),v7]) fun v8=>q v8 h) (bSQ .lss t0 t1 fun v9=>cnd v9 (q (I (-1)) h) (bSQ .gtr t0 t1 fun v10=>cnd v10 (q (I 1) h) (q (I 0) h)))
theorem xe {t0 t1 v:V} (h:bR (CX Y) t0 t1 (out v)):CP Y F.bR [t0,t1] v:=CPo 0 .o Tryz.func131 h
def iO (C:CC) (t0 t1:V) (q:V->Hp->Prop):Prop:=let h:Hp:=List.replicate 7 (0,.none)
 cal C.p h (.fn F.bR [] []) [t0,t1] fun v1 h=>bnd (biI .lss v1 (I 0)) fun v2=>cnd v2 (q (.tup [(.d (.str [])),(I 3)]) h) (cal C.p h (.fn F.eU [] []) [t0,t1] fun v3 h=>ext v3 0 fun v4=>ext v3 1 fun v5=>ext v3 2 fun v6=>cnd v6 (bnd (biI .sub v4 v5) fun v7=>cal C.p h (.fn F.im [] []) [v7] fun v8 h=>q (.tup [v8,(I 0)]) h) (cai C.i h (.fn F.cj [] []) [t0] 0 fun v9 h=>dw 1 [.int .u64 0] [(0,(.d (.int .u64 0)))] h fun v10 h=>apV false 1 1 8 v9 v10 h fun v11 h=>cai C.i h (.fn F.cj [] []) [t1] 2 fun v12 h=>bnd (bC v11) fun v13=>bnd (biI .sub v13 (I 1)) fun v14=>cai C.i h (.fn F.cj [] []) [t1] 3 fun v15 h=>bnd (bC v15) fun v16=>bnd (biI .sub v14 v16) fun v17=>apZ false 4 1 8 [.int .u64 0] v12 v17 h fun v18 h=>cai C.i h (.fn F.cU [] []) [v11,v18,(.d (.int .u64 1)),(I 0)] 5 fun v19 h=>cai C.i h (.fn F.aA [] []) [v11] 6 fun v20 h=>cal C.p h (.fn F.aL [] []) [v20] fun v21 h=>q (.tup [v21,(I 0)]) h))
theorem C6 {t0 t1 v:V} (h:iO (CX Y) t0 t1 (out v)):CP Y F.iO [t0,t1] v:=CPo 7 (.n .x .o (.n .x .o (.n .x .o (.n .x (.n (.r [.inl 0,.o,.slot 1]) .o .o) (.n .x (.n (.r [.inl 2,.inl 3,.slot 4,.inl 5]) .o .o) (.n .x (.n (.r [.inl 6]) .o .o) .o)))))) Tryz.func132 h
def iP (C:CC) (t0 t1:V) (q:kQ):Prop:=let h:Hp:=.replicate 3 (0,.none)
 bnd (lI t0) fun v1=>bnd (lI t1) fun v2=>bIQ .add v1 v2 fun v3=>cIQ .leq v3 (I 18) (clQ C h F.eU [t0,t1] fun v5 h=>e3Q v5 fun v6 v7 v8=>bIQ .mul v6 v7 fun v9=>clQ C h F.im [v9] fun v10 h=>q v10 h) (ciQ C h F.cj [t0] 0 fun v11 h=>ciQ C h F.cj [t1] 1 fun v12 h=>ciQ C h F.bc [v11,v12] 2 fun v13 h=>clQ C h F.aL [v13] fun v14 h=>q v14 h)
theorem C7 {t0 t1 v:V} (h:iP (CX Y) t0 t1 (out v)):CP Y F.iP [t0,t1] v:=CPo 3 (.n .x .o (.n .x .o (.n .x (.n (.r [.inl 0,.inl 1,.inl 2]) .o .o) .o))) Tryz.func133 h
def cr (C:CC) (t0 t1:V) (q:kQ):Prop:=let h:Hp:=.replicate 0 (0,.none)
 clQ C h F.bm [t0,(I 18)] fun v1 h=>e2Q v1 fun v2 v3=>jn (fun l4 h=>clQ C h F.aO [t0] fun v6 h=>e2Q v6 fun v7 v8=>clQ C h F.aO [t1] fun v9 h=>e2Q v9 fun v10 v11=>bnd (biB .eql v7 v10) fun v12=>cnd v12 (clQ C h F.hO [v8,v11] fun v13 h=>clQ C h F.bV [v7,v13] fun v14 h=>q v14 h) (clQ C h F.bR [v8,v11] fun v15 h=>bIQ .lss v15 (I 0) fun v16=>jn (fun l17 h=>clQ C h F.iO [(ge l17 1),(ge l17 2)] fun v19 h=>e2Q v19 fun v20 v21=>clQ C h F.bV [(ge l17 0),v20] fun v22 h=>q v22 h) fun q18=>cnd v16 (q18 [v10,v11,v8] h) (q18 [v7,v8,v11] h))) fun q5=>cnd v3 (clQ C h F.bm [t1,(I 18)] fun v23 h=>e2Q v23 fun v24 v25=>cnd v25 (bIQ .add v2 v24 fun v26=>clQ C h F.dG [v26] fun v27 h=>q v27 h) (q5 [] h)) (q5 [] h)
theorem GB {t0 t1 v:V} (h:cr (CX Y) t0 t1 (out v)):CP Y F.cr [t0,t1] v:=CPo 0 (.n .x .o (.n .x (.n .x .o (.n .x .o (.n (.j [] [0,1]) .o .o))) (.n .x .o (.n .x .o (.n .x .o (.n .x (.n .x .o (.n (.j [9,10,12] []) .o .o)) .o)))))) Tryz.func93 h
def aH (C:CC) (t0 t1:V) (q:kQ):Prop:=let h:Hp:=.replicate 0 (0,.none)
 clQ C h F.bm [t0,(I 9)] fun v1 h=>e2Q v1 fun v2 v3=>jn (fun l4 h=>clQ C h F.aO [t0] fun v6 h=>e2Q v6 fun v7 v8=>clQ C h F.aO [t1] fun v9 h=>e2Q v9 fun v10 v11=>bnd (biB .neq v7 v10) fun v12=>clQ C h F.iP [v8,v11] fun v13 h=>clQ C h F.bV [v12,v13] fun v14 h=>q v14 h) fun q5=>cnd v3 (clQ C h F.bm [t1,(I 9)] fun v15 h=>e2Q v15 fun v16 v17=>cnd v17 (bIQ .mul v2 v16 fun v18=>clQ C h F.dG [v18] fun v19 h=>q v19 h) (q5 [] h)) (q5 [] h)
theorem Gw {t0 t1 v:V} (h:aH (CX Y) t0 t1 (out v)):CP Y F.aH [t0,t1] v:=CPo 0 (.n .x .o (.n .x (.n .x .o (.n .x .o (.n (.j [] [0,1]) .o .o))) .o)) Tryz.func94 h
end Go.Vm
namespace Go.Vm
open Go Go.Am Go.Proofs
def sL (C:CC) (t0:V) (q:kQ):Prop:=let h:Hp:=.replicate 0 (0,.none)
 bIQ .geq t0 (.d (.int .u32 65536)) fun v1=>jn (fun l2 h=>bIQ .geq (ge l2 0) (.d (.int .u32 256)) fun v4=>jn (fun l5 h=>bnd (cvI .u8 (ge l5 0)) fun v7=>bnd (ixS (.d (.str [0,1,2,2,3,3,3,3,4,4,4,4,4,4,4,4,5,5,5,5,5,5,5,5,5,5,5,5,5,5,5,5,6,6,6,6,6,6,6,6,6,6,6,6,6,6,6,6,6,6,6,6,6,6,6,6,6,6,6,6,6,6,6,6,7,7,7,7,7,7,7,7,7,7,7,7,7,7,7,7,7,7,7,7,7,7,7,7,7,7,7,7,7,7,7,7,7,7,7,7,7,7,7,7,7,7,7,7,7,7,7,7,7,7,7,7,7,7,7,7,7,7,7,7,7,7,7,7,8,8,8,8,8,8,8,8,8,8,8,8,8,8,8,8,8,8,8,8,8,8,8,8,8,8,8,8,8,8,8,8,8,8,8,8,8,8,8,8,8,8,8,8,8,8,8,8,8,8,8,8,8,8,8,8,8,8,8,8,8,8,8,8,8,8,8,8,8,8,8,8,8,8,8,8,8,8,8,8,8,8,8,8,8,8,8,8,8,8,8,8,8,8,8,8,8,8,8,8,8,8,8,8,8,8,8,8,8,8,8,8,8,8,8,8,8,8,8,8,8,8,8,8,8,8,8,8])) v7) fun v8=>bnd (cvI .i64 v8) fun v9=>bIQ .add (ge l5 1) v9 fun v10=>q v10 h) fun q6=>cnd v4 (bIQ .shr (ge l2 0) (.d (.int .u64 8)) fun v11=>bIQ .add (ge l2 1) (I 8) fun v12=>q6 [v11,v12] h) (q6 [(ge l2 0),(ge l2 1)] h)) fun q3=>cnd v1 (bIQ .shr t0 (.d (.int .u64 16)) fun v13=>q3 [v13,(I 16)] h) (q3 [t0,(I 0)] h)
def iS (C:CC) (t0:V) (q:kQ):Prop:=let h:Hp:=.replicate 0 (0,.none)
 cnd (B false) (bnd (cvI .u32 t0) fun v1=>clQ C h F.sL [v1] fun v2 h=>q v2 h) (clQ C h F.d8 [t0] fun v3 h=>q v3 h)
theorem zn {t0 v:V} (h:iS (CX Y) t0 (out v)):CP Y F.iS [t0] v:=CPo 0 .o Tryz.func191 h
end Go.Vm
namespace Go.Vm
open Go Go.Am Go.Proofs
def ic (C:CC) (p0:V):bj:=fun l h q=>bIQ .mul (ge l 0) (ge l 0) fun v1=>cIQ .leq v1 p0 (bIQ .rem p0 (ge l 0) fun v3=>cIQ .eql v3 (I 0) (q .ret [(B false)] h) (bIQ .add (ge l 0) (I 1) fun v5=>q .normal [v5] h)) (q (.exit 0) [] h)
def gV (C:CC) (t0:V) (q:kQ):Prop:=let h:Hp:=.replicate 0 (0,.none)
 bIQ .lss t0 (I 2) fun v1=>gqQ v1 false h t0 fun v2 h=>gbQ v1 false h (biI .gtr v2 (I 97)) fun v3 h=>bpQ v1 (B true) v3 fun v4=>cnd v4 (q (B false) h) (lp (ic C t0) [] h [(I 2)] h (exK [((.exit 0),fun l5 h=>q (B true) h), (.ret,fun l5 h=>q (ge l5 0) h)]))
theorem zk {t0 v:V} (h:gV (CX Y) t0 (out v)):CP Y F.gV [t0] v:=CPo 0 (.n .x .o (.n .x .o (.n .x (.n .x .o (.n .x (.n (.l [3] [0] [((.exit 0),[],[]),(.ret,[2],[])] []) .o .o) .o)) .o))) Tryz.func100 h
def mN (C:CC) (p0 p13 p14:V):bj:=fun l h q=>cIQ .lss (ge l 0) p14 (bxQ h 1 p13 (ge l 0) fun v2=>b1Q h v2 fun v3=>clQ C h F.gV [v3] fun v4 h=>bnd (unV .not v4) fun v5=>cnd v5 (q .ret [(I 25)] h) (bIQ .gtr (ge l 0) (I 0) fun v6=>gqQ v6 true h v3 fun v7 h=>gqQ v6 true h p0 fun v8 h=>gqQ v6 true h (ge l 0) fun v9 h=>gbQ v6 true h (biI .sub v9 (I 1)) fun v10 h=>gbQ v6 true h (ixV h 1 v8 v10) fun v11 h=>gbQ v6 true h (ld1 h v11) fun v12 h=>gbQ v6 true h (biI .leq v7 v12) fun v13 h=>bpQ v6 v13 (B false) fun v14=>cnd v14 (q .ret [(I 6)] h) (bIQ .add (ge l 0) (I 1) fun v15=>q .normal [v15] h))) (q (.exit 1) [] h)
def dp (C:CC) (t0:V) (q:kQ):Prop:=let h:Hp:=.replicate 0 (0,.none)
 blQ t0 fun v1=>cIQ .eql v1 (I 0) (q (I 13) h) (blQ t0 fun v3=>cIQ .gtr v3 (I 6) (q (I 4) h) (blQ t0 fun v5=>lp (mN C t0 t0 v5) [] h [(I 0)] h (exK [((.exit 1),fun l6 h=>q (I 0) h), (.ret,fun l6 h=>q (ge l6 0) h)])))
theorem CN {t0 v:V} (h:dp (CX Y) t0 (out v)):CP Y F.dp [t0] v:=CPo 0 (.n .x .o (.n .x .o (.n .x (.n .x .o (.n .x (.n (.l [15] [0,13,14] [((.exit 1),[],[]),(.ret,[2],[])] []) .o .o) .o)) .o))) Tryz.func53 h
def kx (C:CC) (t0:V) (q:kQ):Prop:=let h:Hp:=.replicate 1 (0,.none)
 jS 0 t0 h fun v1 h=>bfQ 0 v1 fun v2=>b1Q h v2 fun v3=>clQ C h F.ib [v3] fun v4 h=>bnd (lI v4) fun v5=>bIQ .leq v5 (I 30) fun v6=>gbQ v6 true h (faV 1 v1) fun v7 h=>gbQ v6 true h (ld1 h v7) fun v8 h=>gbQ v6 true h (lI v8) fun v9 h=>gbQ v6 true h (biI .leq v9 (I 30)) fun v10 h=>bpQ v6 v10 (B false) fun v11=>q v11 h
theorem ES {t0 v:V} (h:kx (CX Y) t0 (out v)):CP Y F.kx [t0] v:=CPo 1 (.n .x (.n (.r [.slot 0]) .o .o) .o) Tryz.func138 h
def nM (C:CC) (p12 p13:V):bj:=fun l h q=>cIQ .lss (ge l 0) p13 (bxQ h 2 p12 (ge l 0) fun v2=>bnd (ldA h 2 v2) fun v3=>alV 0 [.d (.str []),.d (.str [])] h fun v4 h=>stD h 2 v4 v3 fun _ h=>bnd (ldA h 2 v4) fun v6=>clQ C h F.fO [v6] fun v7 h=>nzQ v7 (q .ret [(I 2)] h) (bnd (ldA h 2 v4) fun v9=>clQ C h F.kx [v9] fun v10 h=>bnd (unV .not v10) fun v11=>cnd v11 (q .ret [(I 4)] h) (bIQ .add (ge l 0) (I 1) fun v12=>q .normal [v12] h))) (q (.exit 0) [] h)
def jB (C:CC) (t0 t1:V) (q:kQ):Prop:=let h:Hp:=.replicate 1 (0,.none)
 blQ t1 fun v1=>blQ t0 fun v2=>cIQ .neq v1 v2 (q (I 5) h) (blQ t1 fun v4=>lp (nM C t1 v4) [0] h [(I 0)] h (exK [((.exit 0),fun l5 h=>q (I 0) h), (.ret,fun l5 h=>q (ge l5 0) h)]))
theorem EX {t0 t1 v:V} (h:jB (CX Y) t0 t1 (out v)):CP Y F.jB [t0,t1] v:=CPo 1 (.n .x .o (.n .x .o (.n .x (.n .x .o (.n .x (.n (.l [14] [12,13] [((.exit 0),[],[]),(.ret,[4],[])] [0]) (.n .x .o (.n .x .o (.n .x (.n .x (.n .x (.n (.r [.slot 0]) .o .o) .o) .o) .o))) .o) .o)) .o))) Tryz.func102 h
def me (C:CC) (t0 t1:V) (q:kQ):Prop:=let h:Hp:=.replicate 0 (0,.none)
 clQ C h F.dp [t0] fun v1 h=>nzQ v1 (q v1 h) (clQ C h F.jB [t0,t1] fun v3 h=>q v3 h)
theorem E3 {t0 t1 v:V} (h:me (CX Y) t0 t1 (out v)):CP Y F.me [t0,t1] v:=CPo 0 .o Tryz.func75 h
end Go.Vm
namespace Go.Vm
open Go Go.Am Go.Proofs
def dz (C:CC) (t0 t1:V) (q:kQ):Prop:=let h:Hp:=.replicate 2 (0,.none)
 cIQ .eql t1 (I 10) (cIQ .lss t0 (.d (.int .u64 100)) (bnd (cvI .i64 t0) fun v3=>clQ C h F.gv [v3] fun v4 h=>q v4 h) (alD 0 1 (List.replicate 24 (.int .u8 0)) h fun v5 h=>clQ C h F.cS [t0] fun v6 h=>bnd (slP 24 1 h v5 none (some v6)) fun v7=>ciQ C h F.bE [v7,t0] 1 fun v8 h=>bnd (slP 24 1 h v5 none (some v6)) fun v9=>bnd (cvT h v9) fun v10=>q v10 h)) (clQ C h F.nY [nSQ,t0,t1,(B false),(B false)] fun v11 h=>e2Q v11 fun v12 v13=>q v13 h)
theorem rV {t0 t1 v:V} (h:dz (CX Y) t0 t1 (out v)):CP Y F.dz [t0,t1] v:=CPo 2 (.n .x .o (.n .x (.n .x .o (.n .x (.n .x .o (.n .x (.n (.r [.slot 0]) .o .o) (.n .x .o (.n .x (.n (.r [.inl 1]) .o .o) .o)))) .o)) .o)) Tryz.func207 h
def fq (C:CC) (t0 t1:V) (q:kQ):Prop:=let h:Hp:=.replicate 0 (0,.none)
 clQ C h F.dz [t0,t1] fun v1 h=>q v1 h
theorem tD {t0 t1 v:V} (h:fq (CX Y) t0 t1 (out v)):CP Y F.fq [t0,t1] v:=CPo 0 .o Tryz.func189 h
def im (C:CC) (t0:V) (q:kQ):Prop:=let h:Hp:=.replicate 0 (0,.none)
 clQ C h F.fq [t0,(I 10)] fun v1 h=>q v1 h
theorem FV {t0 v:V} (h:im (CX Y) t0 (out v)):CP Y F.im [t0] v:=CPo 0 .o Tryz.func161 h
def gZ (C:CC) (t0:V) (q:kQ):Prop:=let h:Hp:=.replicate 0 (0,.none)
 clQ C h F.eJ [t0,(I 10),(I 64)] fun v1 h=>e2Q v1 fun v2 v3=>bnd (biF .neq v3 (.d (.pl .nilIface))) fun v4=>cnd v4 (q (.tup [(.d (.int .u64 0)),(B false)]) h) (q (.tup [v2,(B true)]) h)
theorem zB {t0 v:V} (h:gZ (CX Y) t0 (out v)):CP Y F.gZ [t0] v:=CPo 0 .o Tryz.func188 h
def eU (C:CC) (t0 t1:V) (q:kQ):Prop:=let h:Hp:=.replicate 0 (0,.none)
 bnd (lI t0) fun v1=>bIQ .gtr v1 (I 18) fun v2=>gqQ v2 false h t1 fun v3 h=>gbQ v2 false h (lI v3) fun v4 h=>gbQ v2 false h (biI .gtr v4 (I 18)) fun v5 h=>bpQ v2 (B true) v5 fun v6=>cnd v6 (q (.tup [(.d (.int .u64 0)),(.d (.int .u64 0)),(B false)]) h) (clQ C h F.gZ [t0] fun v7 h=>e2Q v7 fun v8 v9=>clQ C h F.gZ [t1] fun v10 h=>e2Q v10 fun v11 v12=>q (.tup [v8,v11,(B true)]) h)
theorem B4 {t0 t1 v:V} (h:eU (CX Y) t0 t1 (out v)):CP Y F.eU [t0,t1] v:=CPo 0 .o Tryz.func160 h
def eV (C:CC) (t0 t1:V) (q:kQ):Prop:=let h:Hp:=.replicate 2 (0,.none)
 bSQ .eql t1 (.d (.str [48])) fun v1=>cnd v1 (q (.tup [(.d (.str [])),(.d (.str [])),(I 17)]) h) (clQ C h F.eU [t0,t1] fun v2 h=>e3Q v2 fun v3 v4 v5=>cnd v5 (bIQ .quo v3 v4 fun v6=>clQ C h F.im [v6] fun v7 h=>bIQ .rem v3 v4 fun v8=>clQ C h F.im [v8] fun v9 h=>q (.tup [v7,v9,(I 0)]) h) (ciQ C h F.cj [t0] 0 fun v10 h=>ciQ C h F.cj [t1] 1 fun v11 h=>clQ C h F.bS [v10,v11] fun v12 h=>cIQ .lss v12 (I 0) (q (.tup [(.d (.str [48])),t0,(I 0)]) h) (blQ v11 fun v14=>cIQ .eql v14 (I 1) (bxQ h 1 v11 (I 0) fun v16=>b1Q h v16 fun v17=>clQ C h F.ci [v10,v17] fun v18 h=>e2Q v18 fun v19 v20=>clQ C h F.aL [v19] fun v21 h=>clQ C h F.im [v20] fun v22 h=>q (.tup [v21,v22,(I 0)]) h) (clQ C h F.dS [v10,v11] fun v23 h=>e2Q v23 fun v24 v25=>clQ C h F.aL [v24] fun v26 h=>clQ C h F.aL [v25] fun v27 h=>q (.tup [v26,v27,(I 0)]) h))))
theorem yi {t0 t1 v:V} (h:eV (CX Y) t0 t1 (out v)):CP Y F.eV [t0,t1] v:=CPo 2 (.n .x .o (.n .x .o (.n .x .o (.n .x (.n (.r [.inl 0,.inl 1]) .o .o) .o)))) Tryz.func148 h
def mY (C:CC):bj:=fun l h q=>bSQ .neq (ge l 1) (.d (.str [48])) fun v1=>cnd v1 (clQ C h F.eV [(ge l 0),(ge l 1)] fun v2 h=>e3Q v2 fun v3 v4 v5=>nzQ v5 (q .ret [(.d (.str []))] h) (q .normal [(ge l 1),v4] h)) (q (.exit 0) [(ge l 0)] h)
def kS (C:CC) (t0 t1:V) (q:kQ):Prop:=let h:Hp:=.replicate 0 (0,.none)
 lp (mY C) [] h [t0,t1] h (exK [((.exit 0),fun l1 h=>q (ge l1 0) h), (.ret,fun l1 h=>q (ge l1 0) h)])
theorem Db {t0 t1 v:V} (h:kS (CX Y) t0 t1 (out v)):CP Y F.kS [t0,t1] v:=CPo 0 (.n .x .o (.n .x (.n .x (.n (.l [0,1] [] [((.exit 0),[0],[]),(.ret,[4],[])] []) .o .o) .o) .o)) Tryz.func183 h
end Go.Vm
namespace Go.Vm
open Go Go.Am Go.Proofs
def strconv_Itoa (C:CC) (t0:V) (q:kQ):Prop:=let h:Hp:=.replicate 0 (0,.none)
 clQ C h F.ji [t0] fun v1 h=>q v1 h
theorem AM {t0 v:V} (h:strconv_Itoa (CX Y) t0 (out v)):CP Y F.strconv_Itoa [t0] v:=CPo 0 .o Tryz.func124 h
def ji (C:CC) (t0:V) (q:kQ):Prop:=let h:Hp:=.replicate 0 (0,.none)
 clQ C h F.cT [t0,(I 10)] fun v1 h=>q v1 h
theorem xV {t0 v:V} (h:ji (CX Y) t0 (out v)):CP Y F.ji [t0] v:=CPo 0 .o Tryz.func157 h
def cT (C:CC) (t0 t1:V) (q:kQ):Prop:=let h:Hp:=.replicate 2 (0,.none)
 cIQ .eql t1 (I 10) (bIQ .leq (I 0) t0 fun v2=>gqQ v2 true h t0 fun v3 h=>gbQ v2 true h (biI .lss v3 (I 100)) fun v4 h=>bpQ v2 v4 (B false) fun v5=>cnd v5 (clQ C h F.gv [t0] fun v6 h=>q v6 h) (alD 0 1 (List.replicate 24 (.int .u8 0)) h fun v7 h=>bnd (cvI .u64 t0) fun v8=>bIQ .lss t0 (I 0) fun v9=>jn (fun l10 h=>clQ C h F.cS [(ge l10 0)] fun v12 h=>bIQ .add (I 1) v12 fun v13=>bnd (slP 24 1 h v7 (some (I 1)) (some v13)) fun v14=>ciQ C h F.bE [v14,(ge l10 0)] 1 fun v15 h=>cIQ .lss t0 (I 0) (bnd (ixP 24 1 v7 (I 0)) fun v17=>stD h 1 v17 (.d (.int .u8 45)) fun _ h=>bIQ .add (I 1) v12 fun v19=>bnd (slP 24 1 h v7 none (some v19)) fun v20=>bnd (cvT h v20) fun v21=>q v21 h) (bIQ .add (I 1) v12 fun v22=>bnd (slP 24 1 h v7 (some (I 1)) (some v22)) fun v23=>bnd (cvT h v23) fun v24=>q v24 h)) fun q11=>cnd v9 (bnd (unV .neg v8) fun v25=>q11 [v25] h) (q11 [v8] h))) (bnd (cvI .u64 t0) fun v26=>bIQ .lss t0 (I 0) fun v27=>clQ C h F.nY [nSQ,v26,t1,v27,(B false)] fun v28 h=>e2Q v28 fun v29 v30=>q v30 h)
theorem sZ {t0 t1 v:V} (h:cT (CX Y) t0 t1 (out v)):CP Y F.cT [t0,t1] v:=CPo 2 (.n .x .o (.n .x (.n .x .o (.n .x (.n .x .o (.n .x (.n (.r [.slot 0]) .o .o) (.n .x .o (.n .x (.n .x .o (.n (.j [6] [0,5]) .o .o)) (.n .x .o (.n .x (.n (.r [.inl 1]) .o .o) .o)))))) .o)) .o)) Tryz.func185 h
def gv (C:CC) (t0:V) (q:kQ):Prop:=let h:Hp:=.replicate 0 (0,.none)
 cIQ .lss t0 (I 10) (bIQ .add t0 (I 1) fun v2=>bnd (slS (.d (.str [48,49,50,51,52,53,54,55,56,57,97,98,99,100,101,102,103,104,105,106,107,108,109,110,111,112,113,114,115,116,117,118,119,120,121,122])) (some t0) (some v2)) fun v3=>q v3 h) (bIQ .mul t0 (I 2) fun v4=>bIQ .mul t0 (I 2) fun v5=>bIQ .add v5 (I 2) fun v6=>bnd (slS (.d (.str [48,48,48,49,48,50,48,51,48,52,48,53,48,54,48,55,48,56,48,57,49,48,49,49,49,50,49,51,49,52,49,53,49,54,49,55,49,56,49,57,50,48,50,49,50,50,50,51,50,52,50,53,50,54,50,55,50,56,50,57,51,48,51,49,51,50,51,51,51,52,51,53,51,54,51,55,51,56,51,57,52,48,52,49,52,50,52,51,52,52,52,53,52,54,52,55,52,56,52,57,53,48,53,49,53,50,53,51,53,52,53,53,53,54,53,55,53,56,53,57,54,48,54,49,54,50,54,51,54,52,54,53,54,54,54,55,54,56,54,57,55,48,55,49,55,50,55,51,55,52,55,53,55,54,55,55,55,56,55,57,56,48,56,49,56,50,56,51,56,52,56,53,56,54,56,55,56,56,56,57,57,48,57,49,57,50,57,51,57,52,57,53,57,54,57,55,57,56,57,57])) (some v4) (some v6)) fun v7=>q v7 h)
theorem wQ {t0 v:V} (h:gv (CX Y) t0 (out v)):CP Y F.gv [t0] v:=CPo 0 .o Tryz.func198 h
def cS (C:CC) (t0:V) (q:kQ):Prop:=let h:Hp:=.replicate 0 (0,.none)
 clQ C h F.d8 [t0] fun v1 h=>clQ C h F.eZ [v1] fun v2 h=>bnd (ixP 20 1 (gl k8) v2) fun v3=>b1Q h v3 fun v4=>bIQ .geq t0 v4 fun v5=>clQ C h F.fc [v5] fun v6 h=>bIQ .add v2 v6 fun v7=>q v7 h
theorem sW {t0 v:V} (h:cS (CX Y) t0 (out v)):CP Y F.cS [t0] v:=CPo 0 .o Tryz.func199 h
def dL (C:CC) (b:Nat) (p0:V):bj:=fun l h q=>cIQ .geq (ge l 1) (I 8) (bIQ .rem (ge l 0) (.d (.int .u64 100000000)) fun v2=>bnd (cvI .u32 v2) fun v3=>bIQ .quo (ge l 0) (.d (.int .u64 100000000)) fun v4=>bIQ .quo v3 (.d (.int .u32 10000)) fun v5=>bIQ .rem v3 (.d (.int .u32 10000)) fun v6=>bIQ .quo v6 (.d (.int .u32 100)) fun v7=>bIQ .mul v7 (.d (.int .u32 2)) fun v8=>bIQ .rem v6 (.d (.int .u32 100)) fun v9=>bIQ .mul v9 (.d (.int .u32 2)) fun v10=>bIQ .quo v5 (.d (.int .u32 100)) fun v11=>bIQ .mul v11 (.d (.int .u32 2)) fun v12=>bIQ .rem v5 (.d (.int .u32 100)) fun v13=>bIQ .mul v13 (.d (.int .u32 2)) fun v14=>bIQ .sub (ge l 1) (I 1) fun v15=>bIQ .sub (ge l 1) (I 2) fun v16=>bIQ .add v10 (.d (.int .u32 1)) fun v17=>bnd (ixS (.d (.str [48,48,48,49,48,50,48,51,48,52,48,53,48,54,48,55,48,56,48,57,49,48,49,49,49,50,49,51,49,52,49,53,49,54,49,55,49,56,49,57,50,48,50,49,50,50,50,51,50,52,50,53,50,54,50,55,50,56,50,57,51,48,51,49,51,50,51,51,51,52,51,53,51,54,51,55,51,56,51,57,52,48,52,49,52,50,52,51,52,52,52,53,52,54,52,55,52,56,52,57,53,48,53,49,53,50,53,51,53,52,53,53,53,54,53,55,53,56,53,57,54,48,54,49,54,50,54,51,54,52,54,53,54,54,54,55,54,56,54,57,55,48,55,49,55,50,55,51,55,52,55,53,55,54,55,55,55,56,55,57,56,48,56,49,56,50,56,51,56,52,56,53,56,54,56,55,56,56,56,57,57,48,57,49,57,50,57,51,57,52,57,53,57,54,57,55,57,56,57,57])) v17) fun v18=>bnd (ixS (.d (.str [48,48,48,49,48,50,48,51,48,52,48,53,48,54,48,55,48,56,48,57,49,48,49,49,49,50,49,51,49,52,49,53,49,54,49,55,49,56,49,57,50,48,50,49,50,50,50,51,50,52,50,53,50,54,50,55,50,56,50,57,51,48,51,49,51,50,51,51,51,52,51,53,51,54,51,55,51,56,51,57,52,48,52,49,52,50,52,51,52,52,52,53,52,54,52,55,52,56,52,57,53,48,53,49,53,50,53,51,53,52,53,53,53,54,53,55,53,56,53,57,54,48,54,49,54,50,54,51,54,52,54,53,54,54,54,55,54,56,54,57,55,48,55,49,55,50,55,51,55,52,55,53,55,54,55,55,55,56,55,57,56,48,56,49,56,50,56,51,56,52,56,53,56,54,56,55,56,56,56,57,57,48,57,49,57,50,57,51,57,52,57,53,57,54,57,55,57,56,57,57])) v10) fun v19=>bxQ h 1 p0 v15 fun v20=>stD h 1 v20 v18 fun _ h=>bxQ h 1 p0 v16 fun v22=>stD h 1 v22 v19 fun _ h=>bIQ .sub (ge l 1) (I 3) fun v24=>bIQ .sub (ge l 1) (I 4) fun v25=>bIQ .add v8 (.d (.int .u32 1)) fun v26=>bnd (ixS (.d (.str [48,48,48,49,48,50,48,51,48,52,48,53,48,54,48,55,48,56,48,57,49,48,49,49,49,50,49,51,49,52,49,53,49,54,49,55,49,56,49,57,50,48,50,49,50,50,50,51,50,52,50,53,50,54,50,55,50,56,50,57,51,48,51,49,51,50,51,51,51,52,51,53,51,54,51,55,51,56,51,57,52,48,52,49,52,50,52,51,52,52,52,53,52,54,52,55,52,56,52,57,53,48,53,49,53,50,53,51,53,52,53,53,53,54,53,55,53,56,53,57,54,48,54,49,54,50,54,51,54,52,54,53,54,54,54,55,54,56,54,57,55,48,55,49,55,50,55,51,55,52,55,53,55,54,55,55,55,56,55,57,56,48,56,49,56,50,56,51,56,52,56,53,56,54,56,55,56,56,56,57,57,48,57,49,57,50,57,51,57,52,57,53,57,54,57,55,57,56,57,57])) v26) fun v27=>bnd (ixS (.d (.str [48,48,48,49,48,50,48,51,48,52,48,53,48,54,48,55,48,56,48,57,49,48,49,49,49,50,49,51,49,52,49,53,49,54,49,55,49,56,49,57,50,48,50,49,50,50,50,51,50,52,50,53,50,54,50,55,50,56,50,57,51,48,51,49,51,50,51,51,51,52,51,53,51,54,51,55,51,56,51,57,52,48,52,49,52,50,52,51,52,52,52,53,52,54,52,55,52,56,52,57,53,48,53,49,53,50,53,51,53,52,53,53,53,54,53,55,53,56,53,57,54,48,54,49,54,50,54,51,54,52,54,53,54,54,54,55,54,56,54,57,55,48,55,49,55,50,55,51,55,52,55,53,55,54,55,55,55,56,55,57,56,48,56,49,56,50,56,51,56,52,56,53,56,54,56,55,56,56,56,57,57,48,57,49,57,50,57,51,57,52,57,53,57,54,57,55,57,56,57,57])) v8) fun v28=>bxQ h 1 p0 v24 fun v29=>stD h 1 v29 v27 fun _ h=>bxQ h 1 p0 v25 fun v31=>stD h 1 v31 v28 fun _ h=>bIQ .sub (ge l 1) (I 5) fun v33=>bIQ .sub (ge l 1) (I 6) fun v34=>bIQ .add v14 (.d (.int .u32 1)) fun v35=>bnd (ixS (.d (.str [48,48,48,49,48,50,48,51,48,52,48,53,48,54,48,55,48,56,48,57,49,48,49,49,49,50,49,51,49,52,49,53,49,54,49,55,49,56,49,57,50,48,50,49,50,50,50,51,50,52,50,53,50,54,50,55,50,56,50,57,51,48,51,49,51,50,51,51,51,52,51,53,51,54,51,55,51,56,51,57,52,48,52,49,52,50,52,51,52,52,52,53,52,54,52,55,52,56,52,57,53,48,53,49,53,50,53,51,53,52,53,53,53,54,53,55,53,56,53,57,54,48,54,49,54,50,54,51,54,52,54,53,54,54,54,55,54,56,54,57,55,48,55,49,55,50,55,51,55,52,55,53,55,54,55,55,55,56,55,57,56,48,56,49,56,50,56,51,56,52,56,53,56,54,56,55,56,56,56,57,57,48,57,49,57,50,57,51,57,52,57,53,57,54,57,55,57,56,57,57])) v35) fun v36=>bnd (ixS (.d (.str [48,48,48,49,48,50,48,51,48,52,48,53,48,54,48,55,48,56,48,57,49,48,49,49,49,50,49,51,49,52,49,53,49,54,49,55,49,56,49,57,50,48,50,49,50,50,50,51,50,52,50,53,50,54,50,55,50,56,50,57,51,48,51,49,51,50,51,51,51,52,51,53,51,54,51,55,51,56,51,57,52,48,52,49,52,50,52,51,52,52,52,53,52,54,52,55,52,56,52,57,53,48,53,49,53,50,53,51,53,52,53,53,53,54,53,55,53,56,53,57,54,48,54,49,54,50,54,51,54,52,54,53,54,54,54,55,54,56,54,57,55,48,55,49,55,50,55,51,55,52,55,53,55,54,55,55,55,56,55,57,56,48,56,49,56,50,56,51,56,52,56,53,56,54,56,55,56,56,56,57,57,48,57,49,57,50,57,51,57,52,57,53,57,54,57,55,57,56,57,57])) v14) fun v37=>bxQ h 1 p0 v33 fun v38=>stD h 1 v38 v36 fun _ h=>bxQ h 1 p0 v34 fun v40=>stD h 1 v40 v37 fun _ h=>bIQ .sub (ge l 1) (I 7) fun v42=>bIQ .sub (ge l 1) (I 8) fun v43=>bIQ .add v12 (.d (.int .u32 1)) fun v44=>bnd (ixS (.d (.str [48,48,48,49,48,50,48,51,48,52,48,53,48,54,48,55,48,56,48,57,49,48,49,49,49,50,49,51,49,52,49,53,49,54,49,55,49,56,49,57,50,48,50,49,50,50,50,51,50,52,50,53,50,54,50,55,50,56,50,57,51,48,51,49,51,50,51,51,51,52,51,53,51,54,51,55,51,56,51,57,52,48,52,49,52,50,52,51,52,52,52,53,52,54,52,55,52,56,52,57,53,48,53,49,53,50,53,51,53,52,53,53,53,54,53,55,53,56,53,57,54,48,54,49,54,50,54,51,54,52,54,53,54,54,54,55,54,56,54,57,55,48,55,49,55,50,55,51,55,52,55,53,55,54,55,55,55,56,55,57,56,48,56,49,56,50,56,51,56,52,56,53,56,54,56,55,56,56,56,57,57,48,57,49,57,50,57,51,57,52,57,53,57,54,57,55,57,56,57,57])) v44) fun v45=>bnd (ixS (.d (.str [48,48,48,49,48,50,48,51,48,52,48,53,48,54,48,55,48,56,48,57,49,48,49,49,49,50,49,51,49,52,49,53,49,54,49,55,49,56,49,57,50,48,50,49,50,50,50,51,50,52,50,53,50,54,50,55,50,56,50,57,51,48,51,49,51,50,51,51,51,52,51,53,51,54,51,55,51,56,51,57,52,48,52,49,52,50,52,51,52,52,52,53,52,54,52,55,52,56,52,57,53,48,53,49,53,50,53,51,53,52,53,53,53,54,53,55,53,56,53,57,54,48,54,49,54,50,54,51,54,52,54,53,54,54,54,55,54,56,54,57,55,48,55,49,55,50,55,51,55,52,55,53,55,54,55,55,55,56,55,57,56,48,56,49,56,50,56,51,56,52,56,53,56,54,56,55,56,56,56,57,57,48,57,49,57,50,57,51,57,52,57,53,57,54,57,55,57,56,57,57])) v12) fun v46=>bxQ h 1 p0 v42 fun v47=>stD h 1 v47 v45 fun _ h=>bxQ h 1 p0 v43 fun v49=>stD h 1 v49 v46 fun _ h=>bIQ .sub (ge l 1) (I 8) fun v51=>q .normal [v4,v51] h) (q (.exit 0) [(ge l 0),(ge l 1)] h)
def bE (C:CC) (b:Nat) (h:Hp) (t0 t1:V) (q:kQ):Prop:=let h:Hp:=h++List.replicate 0 (0,.none)
 blQ t0 fun v1=>lp (dL C b t0) [] h [t1,v1] h (exK [((.exit 0),fun l2 h=>bnd (cvI .u32 (ge l2 0)) fun v3=>bIQ .geq (ge l2 1) (I 4) fun v4=>jn (fun l5 h=>bIQ .geq (ge l5 1) (I 2) fun v7=>jn (fun l8 h=>bIQ .gtr (ge l8 1) (I 0) fun v10=>jn (fun l11 h=>q (.tup []) h) fun q12=>cnd v10 (bIQ .add (.d (.int .u32 48)) (ge l8 0) fun v13=>bnd (cvI .u8 v13) fun v14=>bxQ h 1 t0 (I 0) fun v15=>stD h 1 v15 v14 fun _ h=>q12 [] h) (q12 [] h)) fun q9=>cnd v7 (bIQ .rem (ge l5 0) (.d (.int .u32 100)) fun v17=>bIQ .mul v17 (.d (.int .u32 2)) fun v18=>bIQ .quo (ge l5 0) (.d (.int .u32 100)) fun v19=>bIQ .sub (ge l5 1) (I 1) fun v20=>bIQ .sub (ge l5 1) (I 2) fun v21=>bIQ .add v18 (.d (.int .u32 1)) fun v22=>bnd (ixS (.d (.str [48,48,48,49,48,50,48,51,48,52,48,53,48,54,48,55,48,56,48,57,49,48,49,49,49,50,49,51,49,52,49,53,49,54,49,55,49,56,49,57,50,48,50,49,50,50,50,51,50,52,50,53,50,54,50,55,50,56,50,57,51,48,51,49,51,50,51,51,51,52,51,53,51,54,51,55,51,56,51,57,52,48,52,49,52,50,52,51,52,52,52,53,52,54,52,55,52,56,52,57,53,48,53,49,53,50,53,51,53,52,53,53,53,54,53,55,53,56,53,57,54,48,54,49,54,50,54,51,54,52,54,53,54,54,54,55,54,56,54,57,55,48,55,49,55,50,55,51,55,52,55,53,55,54,55,55,55,56,55,57,56,48,56,49,56,50,56,51,56,52,56,53,56,54,56,55,56,56,56,57,57,48,57,49,57,50,57,51,57,52,57,53,57,54,57,55,57,56,57,57])) v22) fun v23=>bnd (ixS (.d (.str [48,48,48,49,48,50,48,51,48,52,48,53,48,54,48,55,48,56,48,57,49,48,49,49,49,50,49,51,49,52,49,53,49,54,49,55,49,56,49,57,50,48,50,49,50,50,50,51,50,52,50,53,50,54,50,55,50,56,50,57,51,48,51,49,51,50,51,51,51,52,51,53,51,54,51,55,51,56,51,57,52,48,52,49,52,50,52,51,52,52,52,53,52,54,52,55,52,56,52,57,53,48,53,49,53,50,53,51,53,52,53,53,53,54,53,55,53,56,53,57,54,48,54,49,54,50,54,51,54,52,54,53,54,54,54,55,54,56,54,57,55,48,55,49,55,50,55,51,55,52,55,53,55,54,55,55,55,56,55,57,56,48,56,49,56,50,56,51,56,52,56,53,56,54,56,55,56,56,56,57,57,48,57,49,57,50,57,51,57,52,57,53,57,54,57,55,57,56,57,57])) v18) fun v24=>bxQ h 1 t0 v20 fun v25=>stD h 1 v25 v23 fun _ h=>bxQ h 1 t0 v21 fun v27=>stD h 1 v27 v24 fun _ h=>bIQ .sub (ge l5 1) (I 2) fun v29=>q9 [v19,v29] h) (q9 [(ge l5 0),(ge l5 1)] h)) fun q6=>cnd v4 (bIQ .rem v3 (.d (.int .u32 10000)) fun v30=>bIQ .quo v3 (.d (.int .u32 10000)) fun v31=>bIQ .quo v30 (.d (.int .u32 100)) fun v32=>bIQ .mul v32 (.d (.int .u32 2)) fun v33=>bIQ .rem v30 (.d (.int .u32 100)) fun v34=>bIQ .mul v34 (.d (.int .u32 2)) fun v35=>bIQ .sub (ge l2 1) (I 1) fun v36=>bIQ .sub (ge l2 1) (I 2) fun v37=>bIQ .add v35 (.d (.int .u32 1)) fun v38=>bnd (ixS (.d (.str [48,48,48,49,48,50,48,51,48,52,48,53,48,54,48,55,48,56,48,57,49,48,49,49,49,50,49,51,49,52,49,53,49,54,49,55,49,56,49,57,50,48,50,49,50,50,50,51,50,52,50,53,50,54,50,55,50,56,50,57,51,48,51,49,51,50,51,51,51,52,51,53,51,54,51,55,51,56,51,57,52,48,52,49,52,50,52,51,52,52,52,53,52,54,52,55,52,56,52,57,53,48,53,49,53,50,53,51,53,52,53,53,53,54,53,55,53,56,53,57,54,48,54,49,54,50,54,51,54,52,54,53,54,54,54,55,54,56,54,57,55,48,55,49,55,50,55,51,55,52,55,53,55,54,55,55,55,56,55,57,56,48,56,49,56,50,56,51,56,52,56,53,56,54,56,55,56,56,56,57,57,48,57,49,57,50,57,51,57,52,57,53,57,54,57,55,57,56,57,57])) v38) fun v39=>bnd (ixS (.d (.str [48,48,48,49,48,50,48,51,48,52,48,53,48,54,48,55,48,56,48,57,49,48,49,49,49,50,49,51,49,52,49,53,49,54,49,55,49,56,49,57,50,48,50,49,50,50,50,51,50,52,50,53,50,54,50,55,50,56,50,57,51,48,51,49,51,50,51,51,51,52,51,53,51,54,51,55,51,56,51,57,52,48,52,49,52,50,52,51,52,52,52,53,52,54,52,55,52,56,52,57,53,48,53,49,53,50,53,51,53,52,53,53,53,54,53,55,53,56,53,57,54,48,54,49,54,50,54,51,54,52,54,53,54,54,54,55,54,56,54,57,55,48,55,49,55,50,55,51,55,52,55,53,55,54,55,55,55,56,55,57,56,48,56,49,56,50,56,51,56,52,56,53,56,54,56,55,56,56,56,57,57,48,57,49,57,50,57,51,57,52,57,53,57,54,57,55,57,56,57,57])) v35) fun v40=>bxQ h 1 t0 v36 fun v41=>stD h 1 v41 v39 fun _ h=>bxQ h 1 t0 v37 fun v43=>stD h 1 v43 v40 fun _ h=>bIQ .sub (ge l2 1) (I 3) fun v45=>bIQ .sub (ge l2 1) (I 4) fun v46=>bIQ .add v33 (.d (.int .u32 1)) fun v47=>bnd (ixS (.d (.str [48,48,48,49,48,50,48,51,48,52,48,53,48,54,48,55,48,56,48,57,49,48,49,49,49,50,49,51,49,52,49,53,49,54,49,55,49,56,49,57,50,48,50,49,50,50,50,51,50,52,50,53,50,54,50,55,50,56,50,57,51,48,51,49,51,50,51,51,51,52,51,53,51,54,51,55,51,56,51,57,52,48,52,49,52,50,52,51,52,52,52,53,52,54,52,55,52,56,52,57,53,48,53,49,53,50,53,51,53,52,53,53,53,54,53,55,53,56,53,57,54,48,54,49,54,50,54,51,54,52,54,53,54,54,54,55,54,56,54,57,55,48,55,49,55,50,55,51,55,52,55,53,55,54,55,55,55,56,55,57,56,48,56,49,56,50,56,51,56,52,56,53,56,54,56,55,56,56,56,57,57,48,57,49,57,50,57,51,57,52,57,53,57,54,57,55,57,56,57,57])) v47) fun v48=>bnd (ixS (.d (.str [48,48,48,49,48,50,48,51,48,52,48,53,48,54,48,55,48,56,48,57,49,48,49,49,49,50,49,51,49,52,49,53,49,54,49,55,49,56,49,57,50,48,50,49,50,50,50,51,50,52,50,53,50,54,50,55,50,56,50,57,51,48,51,49,51,50,51,51,51,52,51,53,51,54,51,55,51,56,51,57,52,48,52,49,52,50,52,51,52,52,52,53,52,54,52,55,52,56,52,57,53,48,53,49,53,50,53,51,53,52,53,53,53,54,53,55,53,56,53,57,54,48,54,49,54,50,54,51,54,52,54,53,54,54,54,55,54,56,54,57,55,48,55,49,55,50,55,51,55,52,55,53,55,54,55,55,55,56,55,57,56,48,56,49,56,50,56,51,56,52,56,53,56,54,56,55,56,56,56,57,57,48,57,49,57,50,57,51,57,52,57,53,57,54,57,55,57,56,57,57])) v33) fun v49=>bxQ h 1 t0 v45 fun v50=>stD h 1 v50 v48 fun _ h=>bxQ h 1 t0 v46 fun v52=>stD h 1 v52 v49 fun _ h=>bIQ .sub (ge l2 1) (I 4) fun v54=>q6 [v31,v54] h) (q6 [v3,(ge l2 1)] h))])
def iT (b:Nat):Ann:=(.n .x .o (.n .x (.n .x (.n (.l [1,4] [0] [((.exit 0),[1,4],[0])] []) .o .o) .o) (.n .x .o (.n .x (.n .x .o (.n (.j [12,4] [0]) .o .o)) (.n .x (.n .x .o (.n (.j [12,4] [0]) .o .o)) (.n .x .o (.n (.j [] []) .o .o)))))))
theorem qu (C:CC) (h:Hp) (t0:V) (t1:V) (q:V->Hp->Prop):fnI Y C Go.Proofs.Tryz.f200 0 iT [t0,t1] h q=bE C h.length h t0 t1 q:=by
 rfl
theorem qq (b:Nat):okB Go.Proofs.Tryz.prog Go.Proofs.Tryz.f200 (iT b)=true:=by rfl
theorem qt {t0 t1 v:V} {h h2:Hp} (hh:bE (CX Y) h.length h t0 t1 (sV h.length v h2)):CI Y F.bE [t0,t1] h v h2:=
 CI.of (fn:=Go.Proofs.Tryz.f200) (m:=0) (a:=iT) rfl (fun _=>rfl) Go.Proofs.Tryz.func200 (qq _) (by rw [qu];exact hh)
def eZ (C:CC) (t0:V) (q:kQ):Prop:=let h:Hp:=.replicate 0 (0,.none)
 bIQ .mul t0 (I 78913) fun v1=>bIQ .shr v1 (.d (.int .u64 18)) fun v2=>q v2 h
theorem sX {t0 v:V} (h:eZ (CX Y) t0 (out v)):CP Y F.eZ [t0] v:=CPo 0 .o Tryz.func212 h
def fc (C:CC) (t0:V) (q:kQ):Prop:=let h:Hp:=.replicate 0 (0,.none)
 cnd t0 (q (I 1) h) (q (I 0) h)
theorem sY {t0 v:V} (h:fc (CX Y) t0 (out v)):CP Y F.fc [t0] v:=CPo 0 .o Tryz.func213 h
def d8 (C:CC) (t0:V) (q:kQ):Prop:=let h:Hp:=.replicate 0 (0,.none)
 bIQ .geq t0 (.d (.int .u64 4294967296)) fun v1=>jn (fun l2 h=>bIQ .geq (ge l2 0) (.d (.int .u64 65536)) fun v4=>jn (fun l5 h=>bIQ .geq (ge l5 0) (.d (.int .u64 256)) fun v7=>jn (fun l8 h=>bnd (cvI .u8 (ge l8 0)) fun v10=>bnd (ixS (.d (.str [0,1,2,2,3,3,3,3,4,4,4,4,4,4,4,4,5,5,5,5,5,5,5,5,5,5,5,5,5,5,5,5,6,6,6,6,6,6,6,6,6,6,6,6,6,6,6,6,6,6,6,6,6,6,6,6,6,6,6,6,6,6,6,6,7,7,7,7,7,7,7,7,7,7,7,7,7,7,7,7,7,7,7,7,7,7,7,7,7,7,7,7,7,7,7,7,7,7,7,7,7,7,7,7,7,7,7,7,7,7,7,7,7,7,7,7,7,7,7,7,7,7,7,7,7,7,7,7,8,8,8,8,8,8,8,8,8,8,8,8,8,8,8,8,8,8,8,8,8,8,8,8,8,8,8,8,8,8,8,8,8,8,8,8,8,8,8,8,8,8,8,8,8,8,8,8,8,8,8,8,8,8,8,8,8,8,8,8,8,8,8,8,8,8,8,8,8,8,8,8,8,8,8,8,8,8,8,8,8,8,8,8,8,8,8,8,8,8,8,8,8,8,8,8,8,8,8,8,8,8,8,8,8,8,8,8,8,8,8,8,8,8,8,8,8,8,8,8,8,8,8,8,8,8,8,8])) v10) fun v11=>bnd (cvI .i64 v11) fun v12=>bIQ .add (ge l8 1) v12 fun v13=>q v13 h) fun q9=>cnd v7 (bIQ .shr (ge l5 0) (.d (.int .u64 8)) fun v14=>bIQ .add (ge l5 1) (I 8) fun v15=>q9 [v14,v15] h) (q9 [(ge l5 0),(ge l5 1)] h)) fun q6=>cnd v4 (bIQ .shr (ge l2 0) (.d (.int .u64 16)) fun v16=>bIQ .add (ge l2 1) (I 16) fun v17=>q6 [v16,v17] h) (q6 [(ge l2 0),(ge l2 1)] h)) fun q3=>cnd v1 (bIQ .shr t0 (.d (.int .u64 32)) fun v18=>q3 [v18,(I 32)] h) (q3 [t0,(I 0)] h)
theorem wG {t0 v:V} (h:d8 (CX Y) t0 (out v)):CP Y F.d8 [t0] v:=CPo 0 (.n .x .o (.n .x (.n .x .o (.n (.j [0,2] []) .o .o)) (.n .x (.n .x .o (.n (.j [0,2] []) .o .o)) (.n .x (.n .x .o (.n (.j [0,2] []) .o .o)) .o)))) Tryz.func209 h
def fe (C:CC) (t0 t1:V) (q:V->Hp->Prop):Prop:=let h:Hp:=List.replicate 0 (0,.none)
 bnd (biI .and t0 (.d (.int .u64 4294967295))) fun v1=>bnd (biI .shr t0 (.d (.int .u64 32))) fun v2=>bnd (biI .and t1 (.d (.int .u64 4294967295))) fun v3=>bnd (biI .shr t1 (.d (.int .u64 32))) fun v4=>bnd (biI .mul v1 v3) fun v5=>bnd (biI .mul v2 v3) fun v6=>bnd (biI .shr v5 (.d (.int .u64 32))) fun v7=>bnd (biI .add v6 v7) fun v8=>bnd (biI .and v8 (.d (.int .u64 4294967295))) fun v9=>bnd (biI .shr v8 (.d (.int .u64 32))) fun v10=>bnd (biI .mul v1 v4) fun v11=>bnd (biI .add v9 v11) fun v12=>bnd (biI .mul v2 v4) fun v13=>bnd (biI .add v13 v10) fun v14=>bnd (biI .shr v12 (.d (.int .u64 32))) fun v15=>bnd (biI .add v14 v15) fun v16=>bnd (biI .mul t0 t1) fun v17=>q (.tup [v16,v17]) h
theorem wF {t0 t1 v:V} (h:fe (CX Y) t0 t1 (out v)):CP Y F.fe [t0,t1] v:=CPo 0 .o Tryz.func192 h
def strconv_Atoi (C:CC) (t0:V) (q:kQ):Prop:=let h:Hp:=.replicate 0 (0,.none)
 clQ C h F.fN [t0] fun v1 h=>e2Q v1 fun v2 v3=>bnd (biF .neq v3 (.d (.pl .nilIface))) fun v4=>cnd v4 (clQ C h F.za [(.d (.str [65,116,111,105])),t0,(I 0),(I 0),v3] fun v5 h=>q (.tup [v2,v5]) h) (q (.tup [v2,(.d (.pl .nilIface))]) h)
theorem tE {t0 v:V} (h:strconv_Atoi (CX Y) t0 (out v)):CP Y F.strconv_Atoi [t0] v:=CPo 0 .o Tryz.func159 h
def kt (C:CC) (p47 p48:V):bj:=fun l h q=>cIQ .lss (ge l 1) p48 (bxQ h 1 p47 (ge l 1) fun v2=>b1Q h v2 fun v3=>bIQ .sub v3 (.d (.int .u8 48)) fun v4=>cIQ .gtr v4 (.d (.int .u8 9)) (False /- makeInterface -/) (bIQ .mul (ge l 0) (I 10) fun v6=>bnd (cvI .i64 v4) fun v7=>bIQ .add v6 v7 fun v8=>bIQ .add (ge l 1) (I 1) fun v9=>q .normal [v8,v9] h)) (q (.exit 0) [(ge l 0)] h)
def fN (C:CC) (t0:V) (q:kQ):Prop:=let h:Hp:=.replicate 0 (0,.none)
 bnd (lI t0) fun v1=>gd (B false) true h (fun q=>q v1 h) fun v2 h=>gd (B false) true h (fun q=>bIQ .lss (I 0) v2 fun v=>q v h) fun v3 h=>gd (B false) true h (fun q=>q v3 h) fun v4 h=>gqQ v4 true h v1 fun v5 h=>gbQ v4 true h (biI .lss v5 (I 10)) fun v6 h=>gd (B false) true h (fun q=>bpQ v4 v6 (B false) fun v=>q v h) fun v7 h=>bpQ (B false) v7 (B false) fun v8=>gqQ v8 false h (B true) fun v9 h=>gqQ v9 true h v1 fun v10 h=>gbQ v9 true h (biI .lss (I 0) v10) fun v11 h=>gqQ v9 true h v11 fun v12 h=>gqQ v12 true h v1 fun v13 h=>gbQ v12 true h (biI .lss v13 (I 19)) fun v14 h=>gbQ v9 true h (iH v12 v14 (B false)) fun v15 h=>gbQ v8 false h (iH v9 v15 (B false)) fun v16 h=>bpQ v8 (B true) v16 fun v17=>cnd v17 (bnd (ixS t0 (I 0)) fun v18=>bIQ .eql v18 (.d (.int .u8 45)) fun v19=>gqQ v19 false h t0 fun v20 h=>gbQ v19 false h (ixS v20 (I 0)) fun v21 h=>gbQ v19 false h (biI .eql v21 (.d (.int .u8 43))) fun v22 h=>bpQ v19 (B true) v22 fun v23=>jn (fun l24 h=>cvB (ge l24 0) h fun v26 h=>blQ v26 fun v27=>lp (kt C v26 v27) [] h [(I 0),(I 0)] h (exK [((.exit 0),fun l28 h=>bnd (ixS t0 (I 0)) fun v29=>bIQ .eql v29 (.d (.int .u8 45)) fun v30=>jn (fun l31 h=>q (.tup [(ge l31 0),(.d (.pl .nilIface))]) h) fun q32=>cnd v30 (bnd (unV .neg (ge l28 0)) fun v33=>q32 [v33] h) (q32 [(ge l28 0)] h)), (.ret,fun l28 h=>q (.tup [(ge l28 0),(ge l28 1)]) h)])) fun q25=>cnd v23 (bnd (slS t0 (some (I 1)) none) fun v34=>bnd (lI v34) fun v35=>cIQ .lss v35 (I 1) (False /- makeInterface -/) (q25 [v34] h)) (q25 [t0] h)) (clQ C h F.vK [t0,(I 10),(I 0)] fun v37 h=>e2Q v37 fun v38 v39=>q (.tup [v38,v39]) h)
theorem qS {t0 v:V} (h:fN (CX Y) t0 (out v)):CP Y F.fN [t0] v:=CPo 0 (.n .x .o (.n .x .o (.n .x (.n .x .o (.n .x (.n .x .o (.n .x (.n .x .o (.n (.j [0] [5]) .o .o)) (.n .x .o (.n .x (.n .x .o (.n .x (.n (.l [6,49] [5,47,48] [((.exit 0),[6],[5]),(.ret,[2,3],[])] []) .o .o) .o)) (.n .x (.n .x .o (.n (.j [6] []) .o .o)) .o))))) .o)) .o))) Tryz.func186 h
end Go.Vm
namespace Go.Vm
open Go Go.Am Go.Proofs
end Go.Vm
namespace Go.Vm
open Go Go.Am Go.Proofs
def ek (C:CC) (p6 p7:V):bj:=fun l h q=>cIQ .lss (ge l 0) p7 (bxQ h 1 p6 (ge l 0) fun v2=>b1Q h v2 fun v3=>bIQ .lss v3 (.d (.int .u8 48)) fun v4=>gqQ v4 false h v3 fun v5 h=>gbQ v4 false h (biI .gtr v5 (.d (.int .u8 57))) fun v6 h=>bpQ v4 (B true) v6 fun v7=>cnd v7 (q .ret [(B false)] h) (bIQ .add (ge l 0) (I 1) fun v8=>q .normal [v8] h)) (q (.exit 0) [] h)
def gj (C:CC) (t0:V) (q:kQ):Prop:=let h:Hp:=.replicate 0 (0,.none)
 cvB t0 h fun v1 h=>blQ v1 fun v2=>lp (ek C v1 v2) [] h [(I 0)] h (exK [((.exit 0),fun l3 h=>bnd (lI t0) fun v4=>bIQ .eql v4 (I 1) fun v5=>gqQ v5 false h t0 fun v6 h=>gbQ v5 false h (lI v6) fun v7 h=>gbQ v5 false h (biI .gtr v7 (I 1)) fun v8 h=>gqQ v5 false h v8 fun v9 h=>gqQ v9 true h t0 fun v10 h=>gbQ v9 true h (ixS v10 (I 0)) fun v11 h=>gbQ v9 true h (biI .neq v11 (.d (.int .u8 48))) fun v12 h=>gbQ v5 false h (iH v9 v12 (B false)) fun v13 h=>bpQ v5 (B true) v13 fun v14=>q v14 h), (.ret,fun l3 h=>q (ge l3 0) h)])
theorem uW {t0 v:V} (h:gj (CX Y) t0 (out v)):CP Y F.gj [t0] v:=CPo 0 (.n .x .o (.n .x (.n .x .o (.n .x (.n (.l [8] [0,6,7] [((.exit 0),[],[0]),(.ret,[2],[])] []) .o .o) .o)) .o)) Tryz.func197 h
def iX (C:CC) (t0:V) (q:kQ):Prop:=let h:Hp:=.replicate 0 (0,.none)
 clQ C h F.gj [t0] fun v1 h=>bnd (unV .not v1) fun v2=>gqQ v2 false h t0 fun v3 h=>gbQ v2 false h (lI v3) fun v4 h=>gbQ v2 false h (biI .gtr v4 (I 400)) fun v5 h=>bpQ v2 (B true) v5 fun v6=>cnd v6 (q (I 2) h) (q (I 0) h)
theorem zF {t0 v:V} (h:iX (CX Y) t0 (out v)):CP Y F.iX [t0] v:=CPo 0 .o Tryz.func181 h
def bF (C:CC) (b:Nat):bj:=fun l h q=>blQ (ge l 0) fun v1=>bIQ .gtr v1 (I 0) fun v2=>gqQ v2 true h (ge l 0) fun v3 h=>gqQ v2 true h (ge l 0) fun v4 h=>gbQ v2 true h (bC v4) fun v5 h=>gbQ v2 true h (biI .sub v5 (I 1)) fun v6 h=>gbQ v2 true h (ixV h 1 v3 v6) fun v7 h=>gbQ v2 true h (ld1 h v7) fun v8 h=>gbQ v2 true h (biI .eql v8 (.d (.int .u64 0))) fun v9 h=>bpQ v2 v9 (B false) fun v10=>cnd v10 (blQ (ge l 0) fun v11=>bIQ .sub v11 (I 1) fun v12=>bnd (slV h 1 (ge l 0) none (some v12)) fun v13=>q .normal [v13] h) (q (.exit 0) [(ge l 0)] h)
def aA (C:CC) (b:Nat) (h:Hp) (t0:V) (q:kQ):Prop:=let h:Hp:=h++List.replicate 0 (0,.none)
 lp (bF C b) [] h [t0] h (exK [((.exit 0),fun l1 h=>q (ge l1 0) h)])
def kb (b:Nat):Ann:=(.n .x .o (.n .x (.n .x (.n (.l [0] [] [((.exit 0),[0],[])] []) .o .o) .o) .o))
theorem s9 (C:CC) (h:Hp) (t0:V) (q:V->Hp->Prop):fnI Y C Go.Proofs.Tryz.f164 0 kb [t0] h q=aA C h.length h t0 q:=by
 rfl
theorem s7 (b:Nat):okB Go.Proofs.Tryz.prog Go.Proofs.Tryz.f164 (kb b)=true:=by rfl
theorem m9 {t0 v:V} {h h2:Hp} (hh:aA (CX Y) h.length h t0 (sV h.length v h2)):CI Y F.aA [t0] h v h2:=
 CI.of (fn:=Go.Proofs.Tryz.f164) (m:=0) (a:=kb) rfl (fun _=>rfl) Go.Proofs.Tryz.func164 (s7 _) (by rw [s9];exact hh)
def mW (C:CC) (b:Nat) (p25 p26:V):bj:=fun l h q=>cIQ .lss (ge l 1) p26 (bxQ h 1 p25 (ge l 1) fun v2=>b1Q h v2 fun v3=>bIQ .mul (.d (.int .u64 10)) (ge l 0) fun v4=>bIQ .sub v3 (.d (.int .u8 48)) fun v5=>bnd (cvI .u64 v5) fun v6=>bIQ .add v4 v6 fun v7=>bIQ .add (ge l 1) (I 1) fun v8=>q .normal [v7,v8] h) (q (.exit 2) [(ge l 0)] h)
def mX (C:CC) (b:Nat) (p0:V):bj:=fun l h q=>cIQ .gtr (ge l 1) (I 0) (bIQ .sub (ge l 1) (I 9) fun v2=>bnd (mxI true [(I 0),v2]) fun v3=>bnd (slS p0 (some v3) (some (ge l 1))) fun v4=>cvB v4 h fun v5 h=>blQ v5 fun v6=>lp (mW C b v5 v6) [] h [(.d (.int .u64 0)),(I 0)] h (exK [((.exit 2),fun l7 h=>dw 1 [.int .u64 0] [(0,(ge l7 0))] h fun v8 h=>apV false (b+1) 1 8 (ge l 0) v8 h fun v9 h=>bIQ .sub (ge l 1) (I 9) fun v10=>q .normal [v9,v10] h)])) (q (.exit 0) [(ge l 0)] h)
def cj (C:CC) (b:Nat) (h:Hp) (t0:V) (q:kQ):Prop:=let h:Hp:=h++List.replicate 3 (0,.none)
 bnd (lI t0) fun v1=>bIQ .quo v1 (I 9) fun v2=>bIQ .add v2 (I 1) fun v3=>mkS (b+0) 8 [.int .u64 0] h (I 0) v3 fun v4 h=>bnd (lI t0) fun v5=>lp (mX C b t0) [] h [v4,v5] h (exK [((.exit 0),fun l6 h=>ciQ C h F.aA [(ge l6 0)] (b+2) fun v7 h=>q v7 h)])
def qw (b:Nat):Ann:=(.n .x .o (.n .x (.n (.r [.slot (b+0)]) .o .o) (.n .x (.n .x .o (.n .x (.n (.l [3,4] [0] [((.exit 0),[3],[])] []) (.n .x .o (.n .x (.n .x (.n .x .o (.n .x (.n .x .o (.n .x (.n (.l [5,27] [0,3,4,25,26] [((.exit 2),[5],[0,3,4])] []) .o .o) .o)) (.n (.r [.o,.slot (b+1)]) .o .o))) .o) .o)) .o) .o)) (.n .x (.n (.r [.inl (b+2)]) .o .o) .o))))
theorem C5 (C:CC) (h:Hp) (t0:V) (q:V->Hp->Prop):fnI Y C Go.Proofs.Tryz.f162 3 qw [t0] h q=cj C h.length h t0 q:=by
 rfl
theorem C3 (b:Nat):okB Go.Proofs.Tryz.prog Go.Proofs.Tryz.f162 (qw b)=true:=by rfl
theorem C4 {t0 v:V} {h h2:Hp} (hh:cj (CX Y) h.length h t0 (sV h.length v h2)):CI Y F.cj [t0] h v h2:=
 CI.of (fn:=Go.Proofs.Tryz.f162) (m:=3) (a:=qw) rfl (fun _=>rfl) Go.Proofs.Tryz.func162 (C3 _) (by rw [C5];exact hh)
def cY (C:CC) (b:Nat) (p0:V):bj:=fun l h q=>cIQ .lss (ge l 0) (ge l 1) (bxQ h 1 p0 (ge l 1) fun v2=>b1Q h v2 fun v3=>bxQ h 1 p0 (ge l 0) fun v4=>b1Q h v4 fun v5=>bxQ h 1 p0 (ge l 0) fun v6=>stD h 1 v6 v3 fun _ h=>bxQ h 1 p0 (ge l 1) fun v8=>stD h 1 v8 v5 fun _ h=>bIQ .add (ge l 0) (I 1) fun v10=>bIQ .sub (ge l 1) (I 1) fun v11=>q .normal [v10,v11] h) (q (.exit 0) [] h)
def bG (C:CC) (b:Nat) (h:Hp) (t0:V) (q:kQ):Prop:=let h:Hp:=h++List.replicate 0 (0,.none)
 blQ t0 fun v1=>bIQ .sub v1 (I 1) fun v2=>lp (cY C b t0) [] h [(I 0),v2] h (exK [((.exit 0),fun l3 h=>q (.tup []) h)])
def ie (b:Nat):Ann:=(.n .x .o (.n .x (.n (.l [2,3] [0] [((.exit 0),[],[])] []) .o .o) .o))
theorem pA (C:CC) (h:Hp) (t0:V) (q:V->Hp->Prop):fnI Y C Go.Proofs.Tryz.f190 0 ie [t0] h q=bG C h.length h t0 q:=by
 rfl
theorem px (b:Nat):okB Go.Proofs.Tryz.prog Go.Proofs.Tryz.f190 (ie b)=true:=by rfl
theorem pz {t0 v:V} {h h2:Hp} (hh:bG (CX Y) h.length h t0 (sV h.length v h2)):CI Y F.bG [t0] h v h2:=
 CI.of (fn:=Go.Proofs.Tryz.f190) (m:=0) (a:=ie) rfl (fun _=>rfl) Go.Proofs.Tryz.func190 (px _) (by rw [pA];exact hh)
def cE (C:CC) (p0 p4:V):bj:=fun l h q=>bIQ .lss (ge l 2) (I 9) fun v1=>gqQ v1 true h p4 fun v2 h=>gbQ v1 true h (biI .add v2 (I 1)) fun v3 h=>gqQ v1 true h p0 fun v4 h=>gbQ v1 true h (bC v4) fun v5 h=>gbQ v1 true h (biI .lss v3 v5) fun v6 h=>gqQ v1 true h v6 fun v7 h=>gqQ v7 false h (ge l 1) fun v8 h=>gbQ v7 false h (biI .gtr v8 (.d (.int .u64 0))) fun v9 h=>gbQ v1 true h (iH v7 (B true) v9) fun v10 h=>bpQ v1 v10 (B false) fun v11=>cnd v11 (bIQ .rem (ge l 1) (.d (.int .u64 10)) fun v12=>bIQ .add (.d (.int .u64 48)) v12 fun v13=>bnd (cvI .u8 v13) fun v14=>dw 1 [.int .u8 0] [(0,v14)] h fun v15 h=>apV false 1 1 1 (ge l 0) v15 h fun v16 h=>bIQ .quo (ge l 1) (.d (.int .u64 10)) fun v17=>bIQ .add (ge l 2) (I 1) fun v18=>q .normal [v16,v17,v18] h) (q (.exit 2) [(ge l 0)] h)
def gP (C:CC) (p0 p14 p15:V):bj:=fun l h q=>cIQ .lss (ge l 1) p15 (bxQ h 1 p14 (ge l 1) fun v2=>b1Q h v2 fun v3=>lp (cE C p0 (ge l 1)) [] h [(ge l 0),v3,(I 0)] h (exK [((.exit 2),fun l4 h=>bIQ .add (ge l 1) (I 1) fun v5=>q .normal [(ge l4 0),v5] h)])) (q (.exit 0) [(ge l 0)] h)
def aL (C:CC) (t0:V) (q:kQ):Prop:=let h:Hp:=.replicate 3 (0,.none)
 blQ t0 fun v1=>cIQ .eql v1 (I 0) (q (.d (.str [48])) h) (blQ t0 fun v3=>bIQ .mul (I 9) v3 fun v4=>mkS 0 1 [.int .u8 0] h (I 0) v4 fun v5 h=>blQ t0 fun v6=>lp (gP C t0 t0 v6) [] h [v5,(I 0)] h (exK [((.exit 0),fun l7 h=>ciQ C h F.bG [(ge l7 0)] 2 fun v8 h=>bnd (cvT h (ge l7 0)) fun v9=>q v9 h)]))
theorem tc {t0 v:V} (h:aL (CX Y) t0 (out v)):CP Y F.aL [t0] v:=CPo 3 (.n .x .o (.n .x .o (.n .x (.n (.r [.slot 0]) .o .o) (.n .x (.n .x .o (.n .x (.n (.l [3,16] [0,14,15] [((.exit 0),[3],[])] []) (.n .x .o (.n .x .o (.n .x (.n .x (.n .x .o (.n .x .o (.n .x (.n (.l [3,5,6] [0,4,14,15,16] [((.exit 2),[3],[0,14,15,16])] []) (.n .x .o (.n .x (.n .x (.n .x (.n (.r [.o,.slot 1]) .o .o) .o) .o) .o)) .o) .o))) .o) .o))) .o) .o)) (.n .x (.n (.r [.inl 2]) .o .o) .o))))) Tryz.func165 h
def cu (C:CC) (p0 p1:V):bj:=fun l h q=>cIQ .geq (ge l 0) (I 0) (bxQ h 1 p0 (ge l 0) fun v2=>b1Q h v2 fun v3=>bxQ h 1 p1 (ge l 0) fun v4=>b1Q h v4 fun v5=>cIQ .lss v3 v5 (q .ret [(I (-1))] h) (bxQ h 1 p0 (ge l 0) fun v7=>b1Q h v7 fun v8=>bxQ h 1 p1 (ge l 0) fun v9=>b1Q h v9 fun v10=>cIQ .gtr v8 v10 (q .ret [(I 1)] h) (bIQ .sub (ge l 0) (I 1) fun v12=>q .normal [v12] h))) (q (.exit 0) [] h)
def bS (C:CC) (t0 t1:V) (q:kQ):Prop:=let h:Hp:=.replicate 0 (0,.none)
 blQ t0 fun v1=>blQ t1 fun v2=>cIQ .neq v1 v2 (blQ t0 fun v4=>blQ t1 fun v5=>bIQ .sub v4 v5 fun v6=>bnd (mxI true [(I (-1)),v6]) fun v7=>bnd (mxI false [(I 1),v7]) fun v8=>q v8 h) (blQ t0 fun v9=>bIQ .sub v9 (I 1) fun v10=>lp (cu C t0 t1) [] h [v10] h (exK [((.exit 0),fun l11 h=>q (I 0) h), (.ret,fun l11 h=>q (ge l11 0) h)]))
theorem qv {t0 t1 v:V} (h:bS (CX Y) t0 t1 (out v)):CP Y F.bS [t0,t1] v:=CPo 0 (.n .x .o (.n .x .o (.n .x (.n .x .o (.n .x (.n (.l [5] [0,1] [((.exit 0),[],[]),(.ret,[4],[])] []) .o .o) .o)) .o))) Tryz.func178 h
def fX (C:CC) (b:Nat) (p5 p6 p7 p24 p25:V):bj:=fun l h q=>cIQ .lss (ge l 1) p25 (bxQ h 1 p24 (ge l 1) fun v2=>b1Q h v2 fun v3=>bIQ .add p6 (ge l 1) fun v4=>bxQ h 1 p5 v4 fun v5=>b1Q h v5 fun v6=>bIQ .mul p7 v3 fun v7=>bIQ .add v6 v7 fun v8=>bIQ .add (ge l 0) v8 fun v9=>bIQ .add p6 (ge l 1) fun v10=>bIQ .rem v9 (.d (.int .u64 1000000000)) fun v11=>bxQ h 1 p5 v10 fun v12=>stD h 1 v12 v11 fun _ h=>bIQ .quo v9 (.d (.int .u64 1000000000)) fun v14=>bIQ .add (ge l 1) (I 1) fun v15=>q .normal [v14,v15] h) (q (.exit 2) [(ge l 0)] h)
def fY (C:CC) (b:Nat) (p1 p5 p17 p18:V):bj:=fun l h q=>cIQ .lss (ge l 0) p18 (bxQ h 1 p17 (ge l 0) fun v2=>b1Q h v2 fun v3=>blQ p1 fun v4=>lp (fX C b p5 (ge l 0) v3 p1 v4) [] h [(.d (.int .u64 0)),(I 0)] h (exK [((.exit 2),fun l5 h=>blQ p1 fun v6=>bIQ .add (ge l 0) v6 fun v7=>bxQ h 1 p5 v7 fun v8=>stD h 1 v8 (ge l5 0) fun _ h=>bIQ .add (ge l 0) (I 1) fun v10=>q .normal [v10] h)])) (q (.exit 0) [] h)
def bc (C:CC) (b:Nat) (h:Hp) (t0 t1:V) (q:kQ):Prop:=let h:Hp:=h++List.replicate 2 (0,.none)
 blQ t0 fun v1=>blQ t1 fun v2=>bIQ .add v1 v2 fun v3=>mkS (b+0) 8 [.int .u64 0] h v3 v3 fun v4 h=>blQ t0 fun v5=>lp (fY C b t1 v4 t0 v5) [] h [(I 0)] h (exK [((.exit 0),fun l6 h=>ciQ C h F.aA [v4] (b+1) fun v7 h=>q v7 h)])
def jI (b:Nat):Ann:=(.n .x .o (.n .x (.n (.r [.slot (b+0)]) .o .o) (.n .x (.n .x .o (.n .x (.n (.l [19] [1,5,17,18] [((.exit 0),[],[5])] []) (.n .x .o (.n .x .o (.n .x (.n .x (.n .x .o (.n .x .o (.n .x (.n .x .o (.n .x (.n (.l [8,26] [1,5,6,7,17,18,19,24,25] [((.exit 2),[8],[1,5,6,17,18,19])] []) .o .o) .o)) .o))) .o) .o))) .o) .o)) (.n .x (.n (.r [.inl (b+1)]) .o .o) .o))))
theorem sw (C:CC) (h:Hp) (t0:V) (t1:V) (q:V->Hp->Prop):fnI Y C Go.Proofs.Tryz.f167 2 jI [t0,t1] h q=bc C h.length h t0 t1 q:=by
 rfl
theorem sj (b:Nat):okB Go.Proofs.Tryz.prog Go.Proofs.Tryz.f167 (jI b)=true:=by rfl
theorem sk {t0 t1 v:V} {h h2:Hp} (hh:bc (CX Y) h.length h t0 t1 (sV h.length v h2)):CI Y F.bc [t0,t1] h v h2:=
 CI.of (fn:=Go.Proofs.Tryz.f167) (m:=2) (a:=jI) rfl (fun _=>rfl) Go.Proofs.Tryz.func167 (sj _) (by rw [sw];exact hh)
def bM (C:CC) (b:Nat) (h:Hp) (t0 t1:V) (q:kQ):Prop:=let h:Hp:=h++List.replicate 2 (0,.none)
 dw 1 [.int .u64 0] [(0,t1)] h fun v1 h=>ciQ C h F.aA [v1] (b+0) fun v2 h=>ciQ C h F.bc [t0,v2] (b+1) fun v3 h=>q v3 h
def jp (b:Nat):Ann:=(.n .x .o (.n .x (.n (.r [.o,.inl (b+0),.inl (b+1)]) .o .o) .o))
theorem qZ (C:CC) (h:Hp) (t0:V) (t1:V) (q:V->Hp->Prop):fnI Y C Go.Proofs.Tryz.f196 2 jp [t0,t1] h q=bM C h.length h t0 t1 q:=by
 rfl
theorem qX (b:Nat):okB Go.Proofs.Tryz.prog Go.Proofs.Tryz.f196 (jp b)=true:=by rfl
theorem qY {t0 t1 v:V} {h h2:Hp} (hh:bM (CX Y) h.length h t0 t1 (sV h.length v h2)):CI Y F.bM [t0,t1] h v h2:=
 CI.of (fn:=Go.Proofs.Tryz.f196) (m:=2) (a:=jp) rfl (fun _=>rfl) Go.Proofs.Tryz.func196 (qX _) (by rw [qZ];exact hh)
def gh (C:CC) (p0 p1 p6:V):bj:=fun l h q=>cIQ .geq (ge l 1) (I 0) (bIQ .mul (ge l 0) (.d (.int .u64 1000000000)) fun v2=>bxQ h 1 p0 (ge l 1) fun v3=>b1Q h v3 fun v4=>bIQ .add v2 v4 fun v5=>bIQ .quo v5 p1 fun v6=>bxQ h 1 p6 (ge l 1) fun v7=>stD h 1 v7 v6 fun _ h=>bIQ .rem v5 p1 fun v9=>bIQ .sub (ge l 1) (I 1) fun v10=>q .normal [v9,v10] h) (q (.exit 0) [(ge l 0)] h)
def ci (C:CC) (t0 t1:V) (q:kQ):Prop:=let h:Hp:=.replicate 2 (0,.none)
 blQ t0 fun v1=>mkS 0 8 [.int .u64 0] h v1 v1 fun v2 h=>blQ t0 fun v3=>bIQ .sub v3 (I 1) fun v4=>lp (gh C t0 t1 v2) [] h [(.d (.int .u64 0)),v4] h (exK [((.exit 0),fun l5 h=>ciQ C h F.aA [v2] 1 fun v6 h=>q (.tup [v6,(ge l5 0)]) h)])
theorem sC {t0 t1 v:V} (h:ci (CX Y) t0 t1 (out v)):CP Y F.ci [t0,t1] v:=CPo 2 (.n .x .o (.n .x (.n (.r [.slot 0]) .o .o) (.n .x .o (.n .x (.n .x .o (.n .x (.n (.l [7,8] [0,1,6] [((.exit 0),[7],[6])] []) .o .o) .o)) (.n .x (.n (.r [.inl 1]) .o .o) .o))))) Tryz.func179 h
def eT (C:CC) (b:Nat) (p0 p1 p2 p3:V):bj:=fun l h q=>blQ p1 fun v1=>cIQ .leq (ge l 2) v1 (blQ p1 fun v3=>bIQ .lss (ge l 2) v3 fun v4=>jn (fun l5 h=>bIQ .add p3 (ge l 2) fun v7=>bxQ h 1 p0 v7 fun v8=>b1Q h v8 fun v9=>bnd (cvI .i64 v9) fun v10=>bIQ .rem (ge l5 0) (.d (.int .u64 1000000000)) fun v11=>bnd (cvI .i64 v11) fun v12=>bIQ .sub v10 v12 fun v13=>bIQ .sub v13 (ge l 1) fun v14=>bIQ .quo (ge l5 0) (.d (.int .u64 1000000000)) fun v15=>bIQ .lss v14 (I 0) fun v16=>jn (fun l17 h=>bIQ .add p3 (ge l 2) fun v19=>bnd (cvI .u64 (ge l17 0)) fun v20=>bxQ h 1 p0 v19 fun v21=>stD h 1 v21 v20 fun _ h=>bIQ .add (ge l 2) (I 1) fun v23=>q .normal [v15,(ge l17 1),v23] h) fun q18=>cnd v16 (bIQ .add v14 (I 1000000000) fun v24=>q18 [v24,(I 1)] h) (q18 [v14,(I 0)] h)) fun q6=>cnd v4 (bxQ h 1 p1 (ge l 2) fun v25=>b1Q h v25 fun v26=>bIQ .mul p2 v26 fun v27=>bIQ .add (ge l 0) v27 fun v28=>q6 [v28] h) (q6 [(ge l 0)] h)) (q (.exit 0) [(ge l 1)] h)
def cU (C:CC) (b:Nat) (h:Hp) (t0 t1 t2 t3:V) (q:kQ):Prop:=let h:Hp:=h++List.replicate 0 (0,.none)
 lp (eT C b t0 t1 t2 t3) [] h [(.d (.int .u64 0)),(I 0),(I 0)] h (exK [((.exit 0),fun l1 h=>bIQ .gtr (ge l1 0) (I 0) fun v2=>q v2 h)])
def kf (b:Nat):Ann:=(.n .x .o (.n .x .o (.n .x .o (.n .x (.n .x .o (.n .x (.n (.l [10,9,11] [0,1,2,3] [((.exit 0),[9],[])] []) (.n .x .o (.n .x (.n .x (.n .x (.n .x .o (.n (.j [10] [0,1,2,3,9,11]) .o .o)) (.n .x .o (.n .x .o (.n .x .o (.n .x (.n .x .o (.n (.j [12,9] [0,1,2,3,10,11]) .o .o)) .o))))) .o) .o)) .o) .o)) .o))))
theorem tg (C:CC) (h:Hp) (t0:V) (t1:V) (t2:V) (t3:V) (q:V->Hp->Prop):fnI Y C Go.Proofs.Tryz.f166 0 kf [t0,t1,t2,t3] h q=cU C h.length h t0 t1 t2 t3 q:=by
 rfl
theorem te (b:Nat):okB Go.Proofs.Tryz.prog Go.Proofs.Tryz.f166 (kf b)=true:=by rfl
theorem tf {t0 t1 t2 t3 v:V} {h h2:Hp} (hh:cU (CX Y) h.length h t0 t1 t2 t3 (sV h.length v h2)):CI Y F.cU [t0,t1,t2,t3] h v h2:=
 CI.of (fn:=Go.Proofs.Tryz.f166) (m:=0) (a:=kf) rfl (fun _=>rfl) Go.Proofs.Tryz.func166 (te _) (by rw [tg];exact hh)
def gQ (C:CC) (b:Nat) (p0 p1 p2:V):bj:=fun l h q=>blQ p1 fun v1=>cIQ .leq (ge l 1) v1 (bIQ .add p2 (ge l 1) fun v3=>bxQ h 1 p0 v3 fun v4=>b1Q h v4 fun v5=>bIQ .add (ge l 0) v5 fun v6=>blQ p1 fun v7=>bIQ .lss (ge l 1) v7 fun v8=>jn (fun l9 h=>bIQ .add p2 (ge l 1) fun v11=>bIQ .rem (ge l9 0) (.d (.int .u64 1000000000)) fun v12=>bxQ h 1 p0 v11 fun v13=>stD h 1 v13 v12 fun _ h=>bIQ .quo (ge l9 0) (.d (.int .u64 1000000000)) fun v15=>bIQ .add (ge l 1) (I 1) fun v16=>q .normal [v15,v16] h) fun q10=>cnd v8 (bxQ h 1 p1 (ge l 1) fun v17=>b1Q h v17 fun v18=>bIQ .add v6 v18 fun v19=>q10 [v19] h) (q10 [v6] h)) (q (.exit 0) [] h)
def b9 (C:CC) (b:Nat) (h:Hp) (t0 t1 t2:V) (q:kQ):Prop:=let h:Hp:=h++List.replicate 0 (0,.none)
 lp (gQ C b t0 t1 t2) [] h [(.d (.int .u64 0)),(I 0)] h (exK [((.exit 0),fun l1 h=>q (.tup []) h)])
def kg (b:Nat):Ann:=(.n .x .o (.n .x .o (.n .x (.n (.l [6,7] [0,1,2] [((.exit 0),[],[])] []) (.n .x .o (.n .x (.n .x (.n .x .o (.n .x (.n .x .o (.n (.j [6] [0,1,2,7]) .o .o)) .o)) .o) .o)) .o) .o)))
theorem tu (C:CC) (h:Hp) (t0:V) (t1:V) (t2:V) (q:V->Hp->Prop):fnI Y C Go.Proofs.Tryz.f163 0 kg [t0,t1,t2] h q=b9 C h.length h t0 t1 t2 q:=by
 rfl
theorem tj (b:Nat):okB Go.Proofs.Tryz.prog Go.Proofs.Tryz.f163 (kg b)=true:=by rfl
theorem tn {t0 t1 t2 v:V} {h h2:Hp} (hh:b9 (CX Y) h.length h t0 t1 t2 (sV h.length v h2)):CI Y F.b9 [t0,t1,t2] h v h2:=
 CI.of (fn:=Go.Proofs.Tryz.f163) (m:=0) (a:=kg) rfl (fun _=>rfl) Go.Proofs.Tryz.func163 (tj _) (by rw [tu];exact hh)
def iW (C:CC) (p0:V):bj:=fun l h q=>blQ (ge l 0) fun v1=>blQ p0 fun v2=>cIQ .leq v1 v2 (dw 1 [.int .u64 0] [(0,(.d (.int .u64 0)))] h fun v4 h=>apV false 3 1 8 (ge l 0) v4 h fun v5 h=>q .normal [v5] h) (q (.exit 0) [(ge l 0)] h)
def aX (C:CC) (p7 p8 p9 p11:V):bj:=fun l h q=>bIQ .geq (ge l 0) (.d (.int .u64 1000000000)) fun v1=>gqQ v1 false h (ge l 1) fun v2 h=>gbQ v1 false h (biI .lss v2 (.d (.int .u64 1000000000))) fun v3 h=>gqQ v1 false h v3 fun v4 h=>gqQ v4 true h (ge l 0) fun v5 h=>gqQ v4 true h p8 fun v6 h=>gqQ v4 true h p9 fun v7 h=>gbQ v4 true h (biI .sub v7 (I 2)) fun v8 h=>gbQ v4 true h (ixV h 1 v6 v8) fun v9 h=>gbQ v4 true h (ld1 h v9) fun v10 h=>gbQ v4 true h (biI .mul v5 v10) fun v11 h=>gqQ v4 true h (ge l 1) fun v12 h=>gbQ v4 true h (biI .mul v12 (.d (.int .u64 1000000000))) fun v13 h=>gqQ v4 true h p7 fun v14 h=>gqQ v4 true h p11 fun v15 h=>gqQ v4 true h p9 fun v16 h=>gbQ v4 true h (biI .add v15 v16) fun v17 h=>gbQ v4 true h (biI .sub v17 (I 2)) fun v18 h=>gbQ v4 true h (ixV h 1 v14 v18) fun v19 h=>gbQ v4 true h (ld1 h v19) fun v20 h=>gbQ v4 true h (biI .add v13 v20) fun v21 h=>gbQ v4 true h (biI .gtr v11 v21) fun v22 h=>gbQ v1 false h (iH v4 v22 (B false)) fun v23 h=>bpQ v1 (B true) v23 fun v24=>cnd v24 (bIQ .sub (ge l 0) (.d (.int .u64 1)) fun v25=>bIQ .sub p9 (I 1) fun v26=>bxQ h 1 p8 v26 fun v27=>b1Q h v27 fun v28=>bIQ .add (ge l 1) v28 fun v29=>q .normal [v25,v29] h) (q (.exit 4) [(ge l 0)] h)
def cQ (C:CC) (p7 p8 p9 p10:V):bj:=fun l h q=>cIQ .geq (ge l 0) (I 0) (bIQ .add (ge l 0) p9 fun v2=>bxQ h 1 p7 v2 fun v3=>b1Q h v3 fun v4=>bIQ .mul v4 (.d (.int .u64 1000000000)) fun v5=>bIQ .add (ge l 0) p9 fun v6=>bIQ .sub v6 (I 1) fun v7=>bxQ h 1 p7 v7 fun v8=>b1Q h v8 fun v9=>bIQ .add v5 v9 fun v10=>bIQ .sub p9 (I 1) fun v11=>bxQ h 1 p8 v11 fun v12=>b1Q h v12 fun v13=>bIQ .quo v10 v13 fun v14=>bIQ .sub p9 (I 1) fun v15=>bxQ h 1 p8 v15 fun v16=>b1Q h v16 fun v17=>bIQ .rem v10 v17 fun v18=>lp (aX C p7 p8 p9 (ge l 0)) [] h [v14,v18] h (exK [((.exit 4),fun l19 h=>ciQ C h F.cU [p7,p8,(ge l19 0),(ge l 0)] 5 fun v20 h=>jn (fun l21 h=>bxQ h 1 p10 (ge l 0) fun v23=>stD h 1 v23 (ge l21 0) fun _ h=>bIQ .sub (ge l 0) (I 1) fun v25=>q .normal [v25] h) fun q22=>cnd v20 (bIQ .sub (ge l19 0) (.d (.int .u64 1)) fun v26=>ciQ C h F.b9 [p7,p8,(ge l 0)] 6 fun v27 h=>q22 [v26] h) (q22 [(ge l19 0)] h))])) (q (.exit 2) [] h)
def dS (C:CC) (t0 t1:V) (q:kQ):Prop:=let h:Hp:=.replicate 9 (0,.none)
 blQ t1 fun v1=>bIQ .sub v1 (I 1) fun v2=>bxQ h 1 t1 v2 fun v3=>b1Q h v3 fun v4=>bIQ .add v4 (.d (.int .u64 1)) fun v5=>bIQ .quo (.d (.int .u64 1000000000)) v5 fun v6=>ciQ C h F.bM [t0,v6] 0 fun v7 h=>dw 1 [.int .u64 0] [(0,(.d (.int .u64 0)))] h fun v8 h=>apV false 1 1 8 v7 v8 h fun v9 h=>ciQ C h F.bM [t1,v6] 2 fun v10 h=>blQ v10 fun v11=>lp (iW C t0) [] h [v9] h (exK [((.exit 0),fun l12 h=>blQ (ge l12 0) fun v13=>bIQ .sub v13 v11 fun v14=>mkS 4 8 [.int .u64 0] h v14 v14 fun v15 h=>blQ (ge l12 0) fun v16=>bIQ .sub v16 v11 fun v17=>bIQ .sub v17 (I 1) fun v18=>lp (cQ C (ge l12 0) v10 v11 v15) [5,6] h [v18] h (exK [((.exit 2),fun l19 h=>ciQ C h F.aA [(ge l12 0)] 7 fun v20 h=>clQ C h F.ci [v20,v6] fun v21 h=>e2Q v21 fun v22 v23=>ciQ C h F.aA [v15] 8 fun v24 h=>q (.tup [v24,v22]) h)]))])
theorem rb {t0 t1 v:V} (h:dS (CX Y) t0 t1 (out v)):CP Y F.dS [t0,t1] v:=CPo 9 (.n .x .o (.n .x .o (.n .x (.n (.r [.inl 0,.o,.slot 1,.inl 2]) .o .o) (.n .x .o (.n .x (.n .x (.n (.l [7] [0,6,8,9] [((.exit 0),[7],[6,8,9])] []) (.n .x .o (.n .x (.n (.r [.o,.slot 3]) .o .o) .o)) .o) .o) (.n .x (.n (.r [.slot 4]) .o .o) (.n .x (.n .x .o (.n .x (.n (.l [11] [6,7,8,9,10] [((.exit 2),[],[6,7,10])] [5,6]) (.n .x .o (.n .x (.n .x (.n .x .o (.n .x .o (.n .x (.n .x (.n (.l [13,14] [6,7,8,9,10,11] [((.exit 4),[13],[6,7,8,9,10,11])] []) .o .o) .o) (.n .x (.n .x (.n (.r [.inl 5]) .o .o) (.n (.j [13] [6,7,8,9,10,11]) (.n .x .o (.n (.r [.inl 6]) .o .o)) .o)) .o)))) .o) .o)) .o) .o)) (.n .x (.n (.r [.inl 7]) .o .o) (.n .x (.n (.r [.inl 8]) .o .o) .o))))))))) Tryz.func180 h
end Go.Vm
namespace Go.Vm
open Go Go.Am Go.Proofs
end Go.Vm
namespace Go.Vm
open Go Go.Am Go.Proofs
end Go.Vm
namespace Go.Vm
open Go Go.Am Go.Proofs
end Go.Vm
namespace Go.Vm
open Go Go.Am Go.Proofs
def dk (C:CC) (p0 p1 p7:V):bj:=fun l h q=>cIQ .lss (ge l 0) p7 (bxQ h 1 p0 (ge l 0) fun v2=>b1Q h v2 fun v3=>cal C.p h p1 [v3] fun v4 h=>cnd v4 (q .ret [(ge l 0)] h) (bIQ .add (ge l 0) (I 1) fun v5=>q .normal [v5] h)) (q (.exit 0) [] h)
def bu (C:CC) (t0 t1:V) (q:kQ):Prop:=let h:Hp:=.replicate 0 (0,.none)
 blQ t0 fun v1=>lp (dk C t0 t1 v1) [] h [(I 0)] h (exK [((.exit 0),fun l2 h=>q (I (-1)) h), (.ret,fun l2 h=>q (ge l2 0) h)])
theorem nr {t0 t1 v:V} (h:bu (CX Y) t0 t1 (out v)):CP Y F.bu [t0,t1] v:=CPo 0 (.n .x .o (.n .x (.n .x .o (.n .x (.n (.l [8] [0,1,7] [((.exit 0),[],[]),(.ret,[4],[])] []) .o .o) .o)) .o)) Tryz.func158 h
def aU (C:CC) (t0 t1:V) (q:kQ):Prop:=let h:Hp:=.replicate 0 (0,.none)
 clQ C h F.bu [t0,t1] fun v1 h=>bIQ .geq v1 (I 0) fun v2=>q v2 h
theorem mI {t0 t1 v:V} (h:aU (CX Y) t0 t1 (out v)):CP Y F.aU [t0,t1] v:=CPo 0 .o Tryz.func125 h
end Go.Vm
namespace Go.Vm
open Go Go.Am Go.Proofs
def aO (C:CC) (t0:V) (q:kQ):Prop:=let h:Hp:=.replicate 0 (0,.none)
 bnd (lI t0) fun v1=>bIQ .gtr v1 (I 0) fun v2=>gqQ v2 true h t0 fun v3 h=>gbQ v2 true h (ixS v3 (I 0)) fun v4 h=>gbQ v2 true h (biI .eql v4 (.d (.int .u8 45))) fun v5 h=>bpQ v2 v5 (B false) fun v6=>cnd v6 (bnd (slS t0 (some (I 1)) none) fun v7=>q (.tup [(B true),v7]) h) (q (.tup [(B false),t0]) h)
theorem Cs {t0 v:V} (h:aO (CX Y) t0 (out v)):CP Y F.aO [t0] v:=CPo 0 .o Tryz.func128 h
def kv (C:CC) (t0:V) (q:kQ):Prop:=let h:Hp:=.replicate 0 (0,.none)
 clQ C h F.aO [t0] fun v1 h=>e2Q v1 fun v2 v3=>gqQ v2 true h v3 fun v4 h=>gbQ v2 true h (biS .eql v4 (.d (.str [48]))) fun v5 h=>bpQ v2 v5 (B false) fun v6=>gqQ v6 false h v3 fun v7 h=>gd v6 false h (fun q=>clQ C h F.iX [v7] q) fun v8 h=>gbQ v6 false h (biI .neq v8 (I 0)) fun v9 h=>bpQ v6 (B true) v9 fun v10=>cnd v10 (q (I 2) h) (q (I 0) h)
theorem Cz {t0 v:V} (h:kv (CX Y) t0 (out v)):CP Y F.kv [t0] v:=CPo 0 .o Tryz.func150 h
def bq (C:CC) (t0:V) (q:kQ):Prop:=let h:Hp:=.replicate 0 (0,.none)
 bSQ .eql t0 (.d (.str [48])) fun v1=>cnd v1 (q (I 0) h) (bnd (ixS t0 (I 0)) fun v2=>cIQ .eql v2 (.d (.int .u8 45)) (q (I (-1)) h) (q (I 1) h))
theorem EC {t0 v:V} (h:bq (CX Y) t0 (out v)):CP Y F.bq [t0] v:=CPo 0 .o Tryz.func110 h
def dG (C:CC) (t0:V) (q:kQ):Prop:=let h:Hp:=.replicate 0 (0,.none)
 clQ C h F.strconv_Itoa [t0] fun v1 h=>q v1 h
theorem Av {t0 v:V} (h:dG (CX Y) t0 (out v)):CP Y F.dG [t0] v:=CPo 0 .o Tryz.func87 h
def bm (C:CC) (t0 t1:V) (q:kQ):Prop:=let h:Hp:=.replicate 0 (0,.none)
 bnd (lI t0) fun v1=>cIQ .gtr v1 t1 (q (.tup [(I 0),(B false)]) h) (clQ C h F.strconv_Atoi [t0] fun v3 h=>e2Q v3 fun v4 v5=>bnd (biF .eql v5 (.d (.pl .nilIface))) fun v6=>q (.tup [v4,v6]) h)
theorem pi {t0 t1 v:V} (h:bm (CX Y) t0 t1 (out v)):CP Y F.bm [t0,t1] v:=CPo 0 .o Tryz.func127 h
def ib (C:CC) (t0:V) (q:kQ):Prop:=let h:Hp:=.replicate 0 (0,.none)
 clQ C h F.aO [t0] fun v1 h=>e2Q v1 fun v2 v3=>q v3 h
theorem yy {t0 v:V} (h:ib (CX Y) t0 (out v)):CP Y F.ib [t0] v:=CPo 0 .o Tryz.func156 h
def oE (C:CC):bj:=fun l h q=>cIQ .neq (ge l 1) (I 0) (bIQ .rem (ge l 0) (ge l 1) fun v2=>q .normal [(ge l 1),v2] h) (q (.exit 0) [(ge l 0)] h)
def oX (C:CC) (t0 t1:V) (q:kQ):Prop:=let h:Hp:=.replicate 0 (0,.none)
 lp (oE C) [] h [t0,t1] h (exK [((.exit 0),fun l1 h=>q (ge l1 0) h)])
theorem Gr {t0 t1 v:V} (h:oX (CX Y) t0 t1 (out v)):CP Y F.oX [t0,t1] v:=CPo 0 (.n .x .o (.n .x (.n .x (.n (.l [0,1] [] [((.exit 0),[0],[])] []) .o .o) .o) .o)) Tryz.func182 h
def mr (C:CC) (t0 t1:V) (q:kQ):Prop:=let h:Hp:=.replicate 0 (0,.none)
 clQ C h F.ib [t0] fun v1 h=>clQ C h F.ib [t1] fun v2 h=>clQ C h F.bm [v1,(I 18)] fun v3 h=>e2Q v3 fun v4 v5=>jn (fun l6 h=>clQ C h F.kS [v1,v2] fun v8 h=>q v8 h) fun q7=>cnd v5 (clQ C h F.bm [v2,(I 18)] fun v9 h=>e2Q v9 fun v10 v11=>cnd v11 (clQ C h F.oX [v4,v10] fun v12 h=>clQ C h F.dG [v12] fun v13 h=>q v13 h) (q7 [] h)) (q7 [] h)
theorem GA {t0 t1 v:V} (h:mr (CX Y) t0 t1 (out v)):CP Y F.mr [t0,t1] v:=CPo 0 (.n .x .o (.n .x .o (.n .x (.n .x .o (.n .x .o (.n (.j [] [5,6]) .o .o))) .o))) Tryz.func151 h
def fO (C:CC) (t0:V) (q:kQ):Prop:=let h:Hp:=.replicate 1 (0,.none)
 jS 0 t0 h fun v1 h=>bfQ 0 v1 fun v2=>b1Q h v2 fun v3=>clQ C h F.kv [v3] fun v4 h=>bIQ .neq v4 (I 0) fun v5=>jn (fun l6 h=>cnd (ge l6 0) (q (I 2) h) (bfQ 1 v1 fun v8=>b1Q h v8 fun v9=>clQ C h F.bq [v9] fun v10 h=>bIQ .leq v10 (I 0) fun v11=>jn (fun l12 h=>cnd (ge l12 0) (q (I 2) h) (q (I 0) h)) fun q13=>cnd v11 (q13 [v11] h) (bfQ 0 v1 fun v14=>b1Q h v14 fun v15=>bfQ 1 v1 fun v16=>b1Q h v16 fun v17=>clQ C h F.mr [v15,v17] fun v18 h=>bSQ .neq v18 (.d (.str [49])) fun v19=>q13 [v19] h))) fun q7=>cnd v5 (q7 [v5] h) (bfQ 1 v1 fun v20=>b1Q h v20 fun v21=>clQ C h F.kv [v21] fun v22 h=>bIQ .neq v22 (I 0) fun v23=>q7 [v23] h)
theorem xX {t0 v:V} (h:fO (CX Y) t0 (out v)):CP Y F.fO [t0] v:=CPo 1 (.n .x (.n (.r [.slot 0]) .o .o) (.n .x (.n .x (.n .x (.n .x .o (.n (.j [3] [1]) .o .o)) (.n .x .o (.n .x (.n .x .o (.n (.j [12] []) .o .o)) .o))) .o) .o)) Tryz.func115 h
end Go.Vm
namespace Go.Vm
open Go Go.Am Go.Proofs
end Go.Vm
namespace Go.Vm
open Go Go.Am Go.Proofs
def fj (C:CC) (t0:V) (q:kQ):Prop:=let h:Hp:=.replicate 0 (0,.none)
 bnd (lI t0) fun v1=>cIQ .gtr v1 (I 9) (q (.tup [(I 0),(B false)]) h) (clQ C h F.strconv_Atoi [t0] fun v3 h=>e2Q v3 fun v4 v5=>bnd (biF .eql v5 (.d (.pl .nilIface))) fun v6=>q (.tup [v4,v6]) h)
theorem wT {t0 v:V} (h:fj (CX Y) t0 (out v)):CP Y F.fj [t0] v:=CPo 0 .o Tryz.func171 h
def dX (C:CC) (t0:V) (q:kQ):Prop:=let h:Hp:=.replicate 1 (0,.none)
 jS 0 t0 h fun v1 h=>bfQ 0 v1 fun v2=>b1Q h v2 fun v3=>clQ C h F.fj [v3] fun v4 h=>e2Q v4 fun v5 v6=>bfQ 1 v1 fun v7=>b1Q h v7 fun v8=>clQ C h F.fj [v8] fun v9 h=>e2Q v9 fun v10 v11=>gqQ v6 true h v11 fun v12 h=>bpQ v6 v12 (B false) fun v13=>q (.tup [v5,v10,v13]) h
theorem zp {t0 v:V} (h:dX (CX Y) t0 (out v)):CP Y F.dX [t0] v:=CPo 1 (.n .x (.n (.r [.slot 0]) .o .o) .o) Tryz.func139 h
def kM (C:CC):bj:=fun l h q=>cIQ .neq (ge l 1) (I 0) (bIQ .rem (ge l 0) (ge l 1) fun v2=>q .normal [(ge l 1),v2] h) (q (.exit 0) [(ge l 0)] h)
def gX (C:CC) (t0 t1:V) (q:kQ):Prop:=let h:Hp:=.replicate 1 (0,.none)
 alV 0 [.d (.str []),.d (.str [])] h fun v1 h=>lp (kM C) [] h [t0,t1] h (exK [((.exit 0),fun l2 h=>bIQ .lss (ge l2 0) (I 0) fun v3=>jn (fun l4 h=>bIQ .quo t0 (ge l4 0) fun v6=>clQ C h F.strconv_Itoa [v6] fun v7 h=>bIQ .quo t1 (ge l4 0) fun v8=>clQ C h F.strconv_Itoa [v8] fun v9 h=>bnd (bld [(0,1),(1,1)] [.str [],.str []] [(0,v7),(1,v9)]) fun v10=>stD h 2 v1 v10 fun _ h=>bnd (ldA h 2 v1) fun v12=>q v12 h) fun q5=>cnd v3 (bnd (unV .neg (ge l2 0)) fun v13=>q5 [v13] h) (q5 [(ge l2 0)] h))])
theorem CW {t0 t1 v:V} (h:gX (CX Y) t0 t1 (out v)):CP Y F.gX [t0,t1] v:=CPo 1 (.n .x (.n (.r [.slot 0]) .o .o) (.n .x .o (.n .x (.n .x (.n (.l [5,6] [0,1,4] [((.exit 0),[5],[0,1,4])] []) .o .o) .o) (.n .x (.n .x .o (.n (.j [5] [0,1,4]) .o .o)) .o)))) Tryz.func140 h
def aW (C:CC) (t0 t1:V) (q:kQ):Prop:=let h:Hp:=.replicate 1 (0,.none)
 alV 0 [.d (.str []),.d (.str [])] h fun v1 h=>clQ C h F.bq [t1] fun v2 h=>bIQ .lss v2 (I 0) fun v3=>jn (fun l4 h=>clQ C h F.mr [(ge l4 0),(ge l4 1)] fun v6 h=>bSQ .neq v6 (.d (.str [49])) fun v7=>jn (fun l8 h=>bnd (bld [(0,1),(1,1)] [.str [],.str []] [(0,(ge l8 0)),(1,(ge l8 1))]) fun v10=>stD h 2 v1 v10 fun _ h=>bnd (ldA h 2 v1) fun v12=>q v12 h) fun q9=>cnd v7 (clQ C h F.aQ [(ge l4 0),v6] fun v13 h=>e3Q v13 fun v14 v15 v16=>clQ C h F.aQ [(ge l4 1),v6] fun v17 h=>e3Q v17 fun v18 v19 v20=>q9 [v14,v18] h) (q9 [(ge l4 0),(ge l4 1)] h)) fun q5=>cnd v3 (clQ C h F.iy [t0] fun v21 h=>clQ C h F.iy [t1] fun v22 h=>q5 [v21,v22] h) (q5 [t0,t1] h)
theorem wS {t0 t1 v:V} (h:aW (CX Y) t0 t1 (out v)):CP Y F.aW [t0,t1] v:=CPo 1 (.n .x (.n (.r [.slot 0]) .o .o) (.n .x (.n .x .o (.n (.j [0,1] [4]) .o .o)) (.n .x (.n .x .o (.n .x .o (.n (.j [0,1] [4]) .o .o))) .o))) Tryz.func141 h
def gK (C:CC) (t0 t1:V) (q:kQ):Prop:=let h:Hp:=.replicate 3 (0,.none)
 jS 0 t0 h fun v1 h=>jS 1 t1 h fun v2 h=>alV 2 [.d (.str []),.d (.str [])] h fun v3 h=>bfQ 1 v1 fun v4=>b1Q h v4 fun v5=>bSQ .eql v5 (.d (.str [49])) fun v6=>gbQ v6 true h (faV 1 v2) fun v7 h=>gbQ v6 true h (ld1 h v7) fun v8 h=>gbQ v6 true h (biS .eql v8 (.d (.str [49]))) fun v9 h=>bpQ v6 v9 (B false) fun v10=>cnd v10 (bfQ 0 v1 fun v11=>b1Q h v11 fun v12=>bfQ 0 v2 fun v13=>b1Q h v13 fun v14=>clQ C h F.cr [v12,v14] fun v15 h=>bnd (bld [(0,1),(1,1)] [.str [],.str []] [(0,v15),(1,(.d (.str [49])))]) fun v16=>stD h 2 v3 v16 fun _ h=>bnd (ldA h 2 v3) fun v18=>q v18 h) (bnd (ldA h 2 v1) fun v19=>clQ C h F.dX [v19] fun v20 h=>e3Q v20 fun v21 v22 v23=>jn (fun l24 h=>bfQ 0 v1 fun v26=>b1Q h v26 fun v27=>bfQ 1 v2 fun v28=>b1Q h v28 fun v29=>clQ C h F.aH [v27,v29] fun v30 h=>bfQ 0 v2 fun v31=>b1Q h v31 fun v32=>bfQ 1 v1 fun v33=>b1Q h v33 fun v34=>clQ C h F.aH [v32,v34] fun v35 h=>clQ C h F.cr [v30,v35] fun v36 h=>bfQ 1 v1 fun v37=>b1Q h v37 fun v38=>bfQ 1 v2 fun v39=>b1Q h v39 fun v40=>clQ C h F.aH [v38,v40] fun v41 h=>clQ C h F.aW [v36,v41] fun v42 h=>stD h 2 v3 v42 fun _ h=>bnd (ldA h 2 v3) fun v44=>q v44 h) fun q25=>cnd v23 (bnd (ldA h 2 v2) fun v45=>clQ C h F.dX [v45] fun v46 h=>e3Q v46 fun v47 v48 v49=>cnd v49 (bIQ .mul v21 v48 fun v50=>bIQ .mul v47 v22 fun v51=>bIQ .add v50 v51 fun v52=>bIQ .mul v22 v48 fun v53=>clQ C h F.gX [v52,v53] fun v54 h=>stD h 2 v3 v54 fun _ h=>bnd (ldA h 2 v3) fun v56=>q v56 h) (q25 [] h)) (q25 [] h))
theorem BQ {t0 t1 v:V} (h:gK (CX Y) t0 t1 (out v)):CP Y F.gK [t0,t1] v:=CPo 3 (.n .x (.n (.r [.slot 0,.slot 1,.slot 2]) .o .o) (.n .x .o (.n .x (.n .x .o (.n .x .o (.n (.j [] [2,3,4]) .o .o))) .o))) Tryz.func104 h
def gJ (C:CC) (t0 t1:V) (q:kQ):Prop:=let h:Hp:=.replicate 3 (0,.none)
 jS 0 t0 h fun v1 h=>jS 1 t1 h fun v2 h=>alV 2 [.d (.str []),.d (.str [])] h fun v3 h=>bnd (ldA h 2 v1) fun v4=>clQ C h F.dX [v4] fun v5 h=>e3Q v5 fun v6 v7 v8=>jn (fun l9 h=>bfQ 0 v1 fun v11=>b1Q h v11 fun v12=>bfQ 0 v2 fun v13=>b1Q h v13 fun v14=>clQ C h F.aH [v12,v14] fun v15 h=>bfQ 1 v1 fun v16=>b1Q h v16 fun v17=>bfQ 1 v2 fun v18=>b1Q h v18 fun v19=>clQ C h F.aH [v17,v19] fun v20 h=>clQ C h F.aW [v15,v20] fun v21 h=>stD h 2 v3 v21 fun _ h=>bnd (ldA h 2 v3) fun v23=>q v23 h) fun q10=>cnd v8 (bnd (ldA h 2 v2) fun v24=>clQ C h F.dX [v24] fun v25 h=>e3Q v25 fun v26 v27 v28=>cnd v28 (bIQ .mul v6 v26 fun v29=>bIQ .mul v7 v27 fun v30=>clQ C h F.gX [v29,v30] fun v31 h=>stD h 2 v3 v31 fun _ h=>bnd (ldA h 2 v3) fun v33=>q v33 h) (q10 [] h)) (q10 [] h)
theorem BO {t0 t1 v:V} (h:gJ (CX Y) t0 t1 (out v)):CP Y F.gJ [t0,t1] v:=CPo 3 (.n .x (.n (.r [.slot 0,.slot 1,.slot 2]) .o .o) (.n .x (.n .x .o (.n .x .o (.n (.j [] [2,3,4]) .o .o))) .o)) Tryz.func105 h
def j3 (C:CC) (t0:V) (q:kQ):Prop:=let h:Hp:=.replicate 1 (0,.none)
 jS 0 t0 h fun v1 h=>bfQ 0 v1 fun v2=>b1Q h v2 fun v3=>clQ C h F.bq [v3] fun v4 h=>q v4 h
theorem zq {t0 v:V} (h:j3 (CX Y) t0 (out v)):CP Y F.j3 [t0] v:=CPo 1 (.n .x (.n (.r [.slot 0]) .o .o) .o) Tryz.func172 h
def jE (C:CC) (t0 t1:V) (q:kQ):Prop:=let h:Hp:=.replicate 3 (0,.none)
 jS 0 t0 h fun v1 h=>jS 1 t1 h fun v2 h=>alV 2 [.d (.str []),.d (.str [])] h fun v3 h=>bnd (ldA h 2 v2) fun v4=>clQ C h F.j3 [v4] fun v5 h=>cIQ .eql v5 (I 0) (bnd (bld [(0,1),(1,1)] [.str [],.str []] []) fun v7=>stD h 2 v3 v7 fun _ h=>bnd (ldA h 2 v3) fun v9=>q (.tup [v9,(I 17)]) h) (bfQ 0 v1 fun v10=>b1Q h v10 fun v11=>bfQ 1 v2 fun v12=>b1Q h v12 fun v13=>clQ C h F.aH [v11,v13] fun v14 h=>bfQ 1 v1 fun v15=>b1Q h v15 fun v16=>bfQ 0 v2 fun v17=>b1Q h v17 fun v18=>clQ C h F.aH [v16,v18] fun v19 h=>clQ C h F.aW [v14,v19] fun v20 h=>stD h 2 v3 v20 fun _ h=>bnd (ldA h 2 v3) fun v22=>q (.tup [v22,(I 0)]) h)
theorem BP {t0 t1 v:V} (h:jE (CX Y) t0 t1 (out v)):CP Y F.jE [t0,t1] v:=CPo 3 (.n .x (.n (.r [.slot 0,.slot 1,.slot 2]) .o .o) .o) Tryz.func142 h
def ik (C:CC) (t0:V) (q:kQ):Prop:=let h:Hp:=.replicate 1 (0,.none)
 jS 0 t0 h fun v1 h=>bfQ 0 v1 fun v2=>b1Q h v2 fun v3=>bfQ 1 v1 fun v4=>b1Q h v4 fun v5=>clQ C h F.aQ [v3,v5] fun v6 h=>e3Q v6 fun v7 v8 v9=>q v7 h
theorem xW {t0 v:V} (h:ik (CX Y) t0 (out v)):CP Y F.ik [t0] v:=CPo 1 (.n .x (.n (.r [.slot 0]) .o .o) .o) Tryz.func107 h
def lf (C:CC) (t0 t1:V) (q:kQ):Prop:=let h:Hp:=.replicate 1 (0,.none)
 alV 0 [.d (.str []),.d (.str [])] h fun v1 h=>clQ C h F.bq [t1] fun v2 h=>cIQ .eql v2 (I 0) (bnd (bld [(0,1),(1,1)] [.str [],.str []] []) fun v4=>stD h 2 v1 v4 fun _ h=>bnd (ldA h 2 v1) fun v6=>q (.tup [v6,(I 17)]) h) (clQ C h F.aW [t0,t1] fun v7 h=>stD h 2 v1 v7 fun _ h=>bnd (ldA h 2 v1) fun v9=>q (.tup [v9,(I 0)]) h)
theorem BN {t0 t1 v:V} (h:lf (CX Y) t0 t1 (out v)):CP Y F.lf [t0,t1] v:=CPo 1 (.n .x (.n (.r [.slot 0]) .o .o) .o) Tryz.func117 h
def kN (C:CC) (t0 t1:V) (q:kQ):Prop:=let h:Hp:=.replicate 1 (0,.none)
 alV 0 [.d (.str []),.d (.str [])] h fun v1 h=>clQ C h F.dG [t0] fun v2 h=>clQ C h F.dG [t1] fun v3 h=>clQ C h F.lf [v2,v3] fun v4 h=>e2Q v4 fun v5 v6=>stD h 2 v1 v5 fun _ h=>bnd (ldA h 2 v1) fun v8=>q (.tup [v8,v6]) h
theorem CY {t0 t1 v:V} (h:kN (CX Y) t0 t1 (out v)):CP Y F.kN [t0,t1] v:=CPo 1 (.n .x (.n (.r [.slot 0]) .o .o) .o) Tryz.func73 h
end Go.Vm
namespace Go.Vm
open Go Go.Am Go.Proofs
def lW (C:CC) (p5 p14 p15:V):bj:=fun l h q=>cIQ .lss (ge l 0) p15 (bxQ h 2 p14 (ge l 0) fun v2=>bnd (ldA h 2 v2) fun v3=>alV 2 [.d (.str []),.d (.str [])] h fun v4 h=>stD h 2 v4 v3 fun _ h=>bfQ 2 p5 fun v6=>b1Q h v6 fun v7=>bfQ 1 v4 fun v8=>b1Q h v8 fun v9=>clQ C h F.mq [v7,v9] fun v10 h=>bfQ 2 p5 fun v11=>stD h 1 v11 v10 fun _ h=>bIQ .add (ge l 0) (I 1) fun v13=>q .normal [v13] h) (q (.exit 0) [] h)
def jM (C:CC) (p0 p5 p27 p28:V):bj:=fun l h q=>cIQ .lss (ge l 0) p28 (jn (fun l2 h=>bIQ .add (ge l 0) (I 1) fun v4=>q .normal [v4] h) fun q3=>bxQ h 2 p27 (ge l 0) fun v5=>bnd (ldA h 2 v5) fun v6=>alV 3 [.d (.str []),.d (.str [])] h fun v7 h=>stD h 2 v7 v6 fun _ h=>bfQ 0 v7 fun v9=>b1Q h v9 fun v10=>bSQ .neq v10 (.d (.str [48])) fun v11=>jn (fun l12 h=>q3 [] h) fun q13=>cnd v11 (bfQ 2 p5 fun v14=>b1Q h v14 fun v15=>bfQ 1 v7 fun v16=>b1Q h v16 fun v17=>clQ C h F.aQ [v15,v17] fun v18 h=>e3Q v18 fun v19 v20 v21=>bfQ 0 p5 fun v22=>sm h p5 v22 <| b1Q h v22 fun v23=>bxQ h 1 p0 (ge l 0) fun v24=>b1Q h v24 fun v25=>dw 1 [.int .i64 0] [(0,v25)] h fun v26 h=>sp h v23 [p5,v7] <| apV false 4 1 8 v23 v26 h fun v27 h=>bfQ 1 p5 fun v28=>sm h p5 v28 <| b1Q h v28 fun v29=>bfQ 0 v7 fun v30=>sm h v7 v30 <| b1Q h v30 fun v31=>clQ C h F.aH [v31,v19] fun v32 h=>dw 1 [.str []] [(0,v32)] h fun v33 h=>apV false 5 1 16 v29 v33 h fun v34 h=>bfQ 0 p5 fun v35=>stD h 1 v35 v27 fun _ h=>bfQ 1 p5 fun v37=>stD h 1 v37 v34 fun _ h=>q13 [] h) (q13 [] h)) (q (.exit 2) [] h)
def fG (C:CC) (t0 t1:V) (q:kQ):Prop:=let h:Hp:=.replicate 6 (0,.none)
 alV 0 [.d (.pl (.slice none 0 0)),.d (.pl (.slice none 0 0)),.d (.str [])] h fun v1 h=>bnd (bld [(0,1),(1,1),(2,1)] [.pl (.slice none 0 0),.pl (.slice none 0 0),.str []] [(2,(.d (.str [49])))]) fun v2=>alV 1 [.d (.pl (.slice none 0 0)),.d (.pl (.slice none 0 0)),.d (.str [])] h fun v3 h=>stD h 3 v3 v2 fun _ h=>blQ t1 fun v5=>lp (lW C v3 t1 v5) [2] h [(I 0)] h (exK [((.exit 0),fun l6 h=>blQ t1 fun v7=>lp (jM C t0 v3 t1 v7) [3] h [(I 0)] h (exK [((.exit 2),fun l8 h=>bnd (ldA h 3 v3) fun v9=>stD h 3 v1 v9 fun _ h=>bnd (ldA h 3 v1) fun v11=>q v11 h)]))])
theorem AS {t0 t1 v:V} (h:fG (CX Y) t0 t1 (out v)):CP Y F.fG [t0,t1] v:=CPo 6 (.n .x (.n (.r [.slot 0]) .o .o) (.n .x (.n (.r [.slot 1]) .o .o) (.n .x (.n .x .o (.n .x (.n (.l [16] [0,1,4,5,14,15] [((.exit 0),[],[0,1,4,5])] [2]) (.n .x .o (.n .x .o (.n .x (.n .x (.n .x (.n (.r [.slot 2]) .o .o) .o) .o) .o))) .o) .o)) (.n .x (.n .x .o (.n .x (.n (.l [29] [0,4,5,27,28] [((.exit 2),[],[4,5])] [3]) (.n .x .o (.n .x .o (.n .x (.n (.j [] [0,4,5,27,28,29]) (.n .x (.n (.r [.slot 3]) .o .o) (.n .x .o (.n (.j [] [0,4,5,27,28,29]) (.n .x .o (.n (.r [.o,.slot 4,.o,.o,.slot 5]) .o .o)) .o))) .o) .o))) .o) .o)) .o)))) Tryz.func81 h
def eM (C:CC) (t0:V) (q:kQ):Prop:=let h:Hp:=.replicate 1 (0,.none)
 jS 0 t0 h fun v1 h=>q (.fn F.cZ [] [v1]) h
theorem xE {t0 v:V} (h:eM (CX Y) t0 (out v)):CP Y F.eM [t0] v:=CPo 1 (.n .x (.n (.r [.slot 0]) .o .o) .o) Tryz.func146 h
def jA (C:CC) (p3 p4 p5:V):Cm:=fun l h q=>
 b1Q h p3 fun v1=>
 clQ C h F.pB [(ge l 0),v1] fun v2 h=>
 bIQ .neq (ge l 0) (I 2) fun v3=>
 jn (fun l4 h=>
 clQ C h F.aH [v2,(ge l 1)] fun v6 h=>
 clQ C h F.aH [(ge l4 0),(ge l 1)] fun v7 h=>
 clQ C h F.bq [(ge l 1)] fun v8 h=>
 bIQ .lss v8 (I 0) fun v9=>
 jn (fun l10 h=>
 b1Q h p4 fun v12=>
 clQ C h F.cr [v12,(ge l10 0)] fun v13 h=>
 b1Q h p5 fun v14=>
 clQ C h F.cr [v14,(ge l10 1)] fun v15 h=>
 stD h 1 p4 v13 fun _ h=>
 stD h 1 p5 v15 fun _ h=>
 q .normal h) fun q11=>
 cnd v9 (
 q11 [v7,v6] h) (
 q11 [v6,v7] h)) fun q5=>
 cnd v3 (
 clQ C h F.cr [v2,(.d (.str [49]))] fun v18 h=>
 q5 [v18] h) (
 q5 [v2] h)
def cM (C:CC) (t0 t1:V) (q:kQ):Prop:=let h:Hp:=.replicate 4 (0,.none)
 jS 0 t0 h fun v1 h=>jS 1 t1 h fun v2 h=>alV 2 [.d (.str [])] h fun v3 h=>alV 3 [.d (.str [])] h fun v4 h=>stD h 1 v3 (.d (.str [48])) fun _ h=>stD h 1 v4 (.d (.str [48])) fun _ h=>bnd (ldA h 3 v1) fun v7=>clQ C h F.eM [v7] fun v8 h=>rgO (sqV Y.seq v8) 2 (jA C v2 v3 v4) [] h (fun ex h=>exK [(.normal,fun _ h=>b1Q h v3 fun v9=>b1Q h v4 fun v10=>sp h v3 [v4] <| stD h 1 v3 v9 fun _ h=>stD h 1 v4 v10 fun _ h=>b1Q h v3 fun v13=>b1Q h v4 fun v14=>q (.tup [v13,v14]) h)] ex [] h)
theorem wg {t0 t1 v:V} (h:cM (CX Y) t0 t1 (out v)):CP Y F.cM [t0,t1] v:=CPo 4 (.n .x (.n (.r [.slot 0,.slot 1,.slot 2,.slot 3]) .o .o) (.n .x .o (.n .x (.n .x .o (.n .x (.n (.l [] [3,4,5] [(.normal,[],[4,5])] []) .o (.n .x (.n .x .o (.n .x .o (.n .x (.n .x .o (.n (.j [9] [4,5,7,8]) .o .o)) (.n .x .o (.n .x (.n .x .o (.n (.j [8,9] [4,5]) .o .o)) .o))))) .o)) .o)) .o))) Tryz.func109 h
def dl (C:CC) (p3 p4 p5 p6:V):Cm:=fun l h q=>
 clQ C h F.iB [(ge l 1)] fun v1 h=>
 ext v1 0 fun v2=>
 ext v1 1 fun v3=>
 bnd (unV .not v3) fun v4=>
 gqQ v4 false h v2 fun v5 h=>
 gbQ v4 false h (ld1 h p3) fun v6 h=>
 gbQ v4 false h (biI .gtr v5 v6) fun v7 h=>
 bpQ v4 (B true) v7 fun v8=>
 gqQ v8 false h v2 fun v9 h=>
 gbQ v8 false h (ld1 h p3) fun v10 h=>
 gbQ v8 false h (unV .neg v10) fun v11 h=>
 gbQ v8 false h (biI .lss v9 v11) fun v12 h=>
 bpQ v8 (B true) v12 fun v13=>
 cnd v13 (
 stD h 1 p4 (I 0) fun _ h=>
 stD h 1 p5 (I 0) fun _ h=>
 stD h 1 p6 (B false) fun _ h=>
 q .ret h) (
 clQ C h F.o8 [(ge l 0)] fun v17 h=>
 ext v17 0 fun v18=>
 ext v17 1 fun v19=>
 bnd (unV .not v19) fun v20=>
 cnd v20 (
 stD h 1 p4 (I 0) fun _ h=>
 stD h 1 p5 (I 0) fun _ h=>
 stD h 1 p6 (B false) fun _ h=>
 q .ret h) (
 bIQ .add v18 (I 1) fun v24=>
 bIQ .eql (ge l 0) (I 2) fun v25=>
 jn (fun l26 h=>
 b1Q h p4 fun v28=>
 bIQ .mul v2 v18 fun v29=>
 bIQ .mul v2 (ge l26 0) fun v30=>
 bnd (mxI false [v29,v30]) fun v31=>
 bIQ .add v28 v31 fun v32=>
 b1Q h p5 fun v33=>
 bIQ .mul v2 v18 fun v34=>
 bIQ .mul v2 (ge l26 0) fun v35=>
 bnd (mxI true [v34,v35]) fun v36=>
 bIQ .add v33 v36 fun v37=>
 sp h p4 [p5] <| stD h 1 p4 v32 fun _ h=>
 stD h 1 p5 v37 fun _ h=>
 q .normal h) fun q27=>
 cnd v25 (
 q27 [v18] h) (
 q27 [v24] h)))
def cJ (C:CC) (t0 t1:V) (q:kQ):Prop:=let h:Hp:=.replicate 5 (0,.none)
 jS 0 t0 h fun v1 h=>jS 1 t1 h fun v2 h=>alV 2 [.d (.int .i64 0)] h fun v3 h=>alV 3 [.d (.int .i64 0)] h fun v4 h=>alV 4 [.d (.bool false)] h fun v5 h=>bnd (ldA h 3 v1) fun v6=>clQ C h F.eM [v6] fun v7 h=>rgO (sqV Y.seq v7) 2 (dl C v2 v3 v4 v5) [] h (fun ex h=>exK [(.ret,fun _ h=>b1Q h v3 fun v8=>b1Q h v4 fun v9=>b1Q h v5 fun v10=>q (.tup [v8,v9,v10]) h), (.normal,fun _ h=>b1Q h v3 fun v11=>b1Q h v4 fun v12=>sp h v3 [v4] <| stD h 1 v3 v11 fun _ h=>stD h 1 v4 v12 fun _ h=>stD h 1 v5 (B true) fun _ h=>b1Q h v3 fun v16=>b1Q h v4 fun v17=>b1Q h v5 fun v18=>q (.tup [v16,v17,v18]) h)] ex [] h)
theorem we {t0 t1 v:V} (h:cJ (CX Y) t0 t1 (out v)):CP Y F.cJ [t0,t1] v:=CPo 5 (.n .x (.n (.r [.slot 0,.slot 1,.slot 2,.slot 3,.slot 4]) .o .o) (.n .x (.n .x .o (.n .x (.n (.l [] [3,4,5,6] [(.ret,[],[4,5,6]),(.normal,[],[4,5,6])] []) .o (.n .x (.n .x .o (.n .x .o (.n .x .o (.n .x .o (.n .x .o (.n .x (.n .x .o (.n (.j [13] [4,5,9,11]) .o .o)) .o)))))) .o)) .o)) .o)) Tryz.func143 h
def ft (C:CC) (t0:V) (q:kQ):Prop:=let h:Hp:=.replicate 1 (0,.none)
 jS 0 t0 h fun v1 h=>bnd (ldA h 3 v1) fun v2=>clQ C h F.cJ [v2,(I 10000000)] fun v3 h=>e3Q v3 fun v4 v5 v6=>bnd (unV .not v6) fun v7=>cnd v7 (q (I 0) h) (cIQ .geq v4 (I 0) (q (I 1) h) (cIQ .leq v5 (I 0) (q (I (-1)) h) (q (I 0) h)))
theorem vn {t0 v:V} (h:ft (CX Y) t0 (out v)):CP Y F.ft [t0] v:=CPo 1 (.n .x (.n (.r [.slot 0]) .o .o) .o) Tryz.func123 h
def ma (C:CC) (p1:V):bj:=fun l h q=>bnd (ldA h 3 p1) fun v1=>clQ C h F.cM [v1,(ge l 0)] fun v2 h=>e2Q v2 fun v3 v4=>clQ C h F.bq [v3] fun v5 h=>cIQ .geq v5 (I 0) (q .ret [(I 1)] h) (clQ C h F.bq [v4] fun v7 h=>cIQ .leq v7 (I 0) (q .ret [(I (-1))] h) (bIQ .mul (ge l 0) (I 2) fun v9=>q .normal [v9] h))
def dZ (C:CC) (t0:V) (q:kQ):Prop:=let h:Hp:=.replicate 1 (0,.none)
 jS 0 t0 h fun v1 h=>bfQ 0 v1 fun v2=>b1Q h v2 fun v3=>blQ v3 fun v4=>cIQ .eql v4 (I 0) (q (I 0) h) (bnd (ldA h 3 v1) fun v6=>clQ C h F.ft [v6] fun v7 h=>nzQ v7 (q v7 h) (lp (ma C v1) [] h [(I 64)] h (exK [(.ret,fun l9 h=>q (ge l9 0) h)])))
theorem wd {t0 v:V} (h:dZ (CX Y) t0 (out v)):CP Y F.dZ [t0] v:=CPo 1 (.n .x (.n (.r [.slot 0]) .o .o) (.n .x (.n .x .o (.n .x .o (.n .x .o (.n .x .o (.n .x (.n (.l [4] [1] [(.ret,[2],[])] []) .o .o) .o))))) .o)) Tryz.func82 h
def oI (C:CC):bj:=fun l h q=>cIQ .lss (ge l 3) (I 26) (jn (fun l2 h=>bIQ .add (ge l 3) (I 1) fun v4=>q .normal [(ge l2 0),(ge l2 1),(ge l2 2),v4] h) fun q3=>clQ C h F.fe [(ge l 0),(ge l 0)] fun v5 h=>e2Q v5 fun v6 v7=>bIQ .shl v6 (.d (.int .u64 2)) fun v8=>bIQ .shr v7 (.d (.int .u64 62)) fun v9=>bIQ .or v8 v9 fun v10=>clQ C h F.fe [(ge l 1),(ge l 1)] fun v11 h=>e2Q v11 fun v12 v13=>bIQ .shl v12 (.d (.int .u64 2)) fun v14=>bIQ .shr v13 (.d (.int .u64 62)) fun v15=>bIQ .or v14 v15 fun v16=>bIQ .add v16 (.d (.int .u64 1)) fun v17=>bIQ .mul (ge l 2) (I 2) fun v18=>bIQ .geq v10 (.d (.int .u64 9223372036854775808)) fun v19=>jn (fun l20 h=>q3 [(ge l20 1),(ge l20 2),(ge l20 0)] h) fun q21=>cnd v19 (bIQ .add v18 (I 1) fun v22=>bIQ .shr v10 (.d (.int .u64 1)) fun v23=>bIQ .shr v17 (.d (.int .u64 1)) fun v24=>bIQ .add v24 (.d (.int .u64 1)) fun v25=>q21 [v22,v23,v25] h) (cIQ .geq v17 (.d (.int .u64 9223372036854775808)) (q .ret [(I 0),(B false)] h) (q21 [v18,v10,v17] h))) (q (.exit 0) [(ge l 2)] h)
def o8 (C:CC) (t0:V) (q:kQ):Prop:=let h:Hp:=.replicate 0 (0,.none)
 bnd (cvI .u64 t0) fun v1=>clQ C h F.iS [v1] fun v2 h=>bIQ .sub v2 (I 1) fun v3=>bnd (cvI .u64 t0) fun v4=>bIQ .sub (I 62) v3 fun v5=>bIQ .shl v4 v5 fun v6=>lp (oI C) [] h [v6,v6,v3,(I 0)] h (exK [((.exit 0),fun l7 h=>q (.tup [(ge l7 0),(B true)]) h), (.ret,fun l7 h=>q (.tup [(ge l7 0),(ge l7 1)]) h)])
theorem G0 {t0 v:V} (h:o8 (CX Y) t0 (out v)):CP Y F.o8 [t0] v:=CPo 0 (.n .x .o (.n .x .o (.n .x .o (.n .x .o (.n .x .o (.n .x (.n .x .o (.n .x (.n (.l [5,6,7,21] [] [((.exit 0),[7],[]),(.ret,[2,3],[])] []) (.n .x .o (.n .x .o (.n .x (.n (.j [5,6,7] [21]) (.n .x .o (.n .x .o (.n .x .o (.n .x .o (.n .x .o (.n .x .o (.n (.j [7,5,6] [21]) .o .o))))))) .o) .o))) .o) .o)) .o)))))) Tryz.func173 h
def yC (C:CC) (p0 p1:V):bj:=fun l h q=>clQ C h F.size_digits [p0,p1,(ge l 0)] fun v1 h=>e2Q v1 fun v2 v3=>cnd v3 (q .ret [v2] h) (bIQ .mul (ge l 0) (I 2) fun v4=>q .normal [v4] h)
def pB (C:CC) (t0 t1:V) (q:kQ):Prop:=let h:Hp:=.replicate 0 (0,.none)
 cIQ .eql t0 (I 2) (clQ C h F.iC [(.d (.str [50])),t1] fun v2 h=>e2Q v2 fun v3 v4=>q v3 h) (bIQ .add t1 (I 64) fun v5=>lp (yC C t0 t1) [] h [v5] h (exK [(.ret,fun l6 h=>q (ge l6 0) h)]))
theorem Jp {t0 t1 v:V} (h:pB (CX Y) t0 t1 (out v)):CP Y F.pB [t0,t1] v:=CPo 0 (.n .x .o (.n .x .o (.n .x .o (.n .x (.n (.l [7] [0,1] [(.ret,[4],[])] []) .o .o) .o)))) Tryz.func147 h
def mK (C:CC) (p9 p11 p49:V):bj:=fun l h q=>cIQ .lss (ge l 3) p49 (jn (fun l2 h=>bIQ .add (ge l 3) (I 1) fun v4=>q .normal [(ge l2 0),(ge l2 1),(ge l2 2),v4] h) fun q3=>clQ C h F.aH [(ge l 0),(ge l 0)] fun v5 h=>clQ C h F.aQ [v5,p9] fun v6 h=>e3Q v6 fun v7 v8 v9=>clQ C h F.aH [(ge l 1),(ge l 1)] fun v10 h=>clQ C h F.aQ [v10,p9] fun v11 h=>e3Q v11 fun v12 v13 v14=>clQ C h F.cr [v12,(.d (.str [49]))] fun v15 h=>clQ C h F.cr [(ge l 2),(ge l 2)] fun v16 h=>jn (fun l17 h=>q3 [(ge l17 1),(ge l17 2),(ge l17 0)] h) fun q18=>clQ C h F.gS [v7,p11] fun v19 h=>bIQ .geq v19 (I 0) fun v20=>jn (fun l21 h=>q18 [(ge l21 0),(ge l21 1),(ge l21 2)] h) fun q22=>cnd v20 (clQ C h F.cr [v16,(.d (.str [49]))] fun v23 h=>clQ C h F.aQ [v7,(.d (.str [50]))] fun v24 h=>e3Q v24 fun v25 v26 v27=>clQ C h F.aQ [v15,(.d (.str [50]))] fun v28 h=>e3Q v28 fun v29 v30 v31=>clQ C h F.cr [v29,(.d (.str [49]))] fun v32 h=>q22 [v23,v25,v32] h) (clQ C h F.gS [v15,p11] fun v33 h=>cIQ .geq v33 (I 0) (q .ret [(.d (.str [])),(B false)] h) (q22 [v16,v7,v15] h))) (q (.exit 0) [(ge l 2)] h)
def size_digits (C:CC) (t0 t1 t2:V) (q:kQ):Prop:=let h:Hp:=.replicate 0 (0,.none)
 bnd (cvI .u64 t0) fun v1=>clQ C h F.iS [v1] fun v2 h=>bIQ .sub v2 (I 1) fun v3=>clQ C h F.iC [(.d (.str [50])),t2] fun v4 h=>e2Q v4 fun v5 v6=>clQ C h F.cr [v5,v5] fun v7 h=>bIQ .sub t2 v3 fun v8=>clQ C h F.iC [(.d (.str [50])),v8] fun v9 h=>e2Q v9 fun v10 v11=>clQ C h F.dG [t0] fun v12 h=>clQ C h F.aH [v12,v10] fun v13 h=>clQ C h F.dG [v3] fun v14 h=>lp (mK C v5 v7 t1) [] h [v13,v13,v14,(I 0)] h (exK [((.exit 0),fun l15 h=>q (.tup [(ge l15 0),(B true)]) h), (.ret,fun l15 h=>q (.tup [(ge l15 0),(ge l15 1)]) h)])
theorem CJ {t0 t1 t2 v:V} (h:size_digits (CX Y) t0 t1 t2 (out v)):CP Y F.size_digits [t0,t1,t2] v:=CPo 0 (.n .x .o (.n .x .o (.n .x .o (.n .x .o (.n .x .o (.n .x .o (.n .x .o (.n .x .o (.n .x (.n .x .o (.n .x (.n (.l [14,15,16,50] [9,11,49] [((.exit 0),[16],[]),(.ret,[6,7],[])] []) (.n .x .o (.n .x .o (.n .x (.n (.j [14,15,16] [9,11,49,50]) (.n .x .o (.n .x .o (.n .x .o (.n .x .o (.n (.j [16,14,15] [9,11,49,50]) (.n .x .o (.n (.j [16,14,15] [9,11,49,50]) .o .o)) .o))))) .o) .o))) .o) .o)) .o))))))))) Tryz.func177 h
end Go.Vm
namespace Go.Vm
open Go Go.Am Go.Proofs
def bi (C:CC) (p0 p1 p7:V):bj:=fun l h q=>cIQ .lss (ge l 0) p7 (bxQ h 2 p0 (ge l 0) fun v2=>bnd (ldA h 2 v2) fun v3=>cal C.p h p1 [v3] fun v4 h=>cnd v4 (q .ret [(ge l 0)] h) (bIQ .add (ge l 0) (I 1) fun v5=>q .normal [v5] h)) (q (.exit 0) [] h)
def aR (C:CC) (t0 t1:V) (q:kQ):Prop:=let h:Hp:=.replicate 0 (0,.none)
 blQ t0 fun v1=>lp (bi C t0 t1 v1) [] h [(I 0)] h (exK [((.exit 0),fun l2 h=>q (I (-1)) h), (.ret,fun l2 h=>q (ge l2 0) h)])
theorem jc {t0 t1 v:V} (h:aR (CX Y) t0 t1 (out v)):CP Y F.aR [t0,t1] v:=CPo 0 (.n .x .o (.n .x (.n .x .o (.n .x (.n (.l [8] [0,1,7] [((.exit 0),[],[]),(.ret,[4],[])] []) .o .o) .o)) .o)) Tryz.func149 h
def aF (C:CC) (t0 t1:V) (q:kQ):Prop:=let h:Hp:=.replicate 0 (0,.none)
 clQ C h F.aR [t0,t1] fun v1 h=>bIQ .geq v1 (I 0) fun v2=>q v2 h
theorem iD {t0 t1 v:V} (h:aF (CX Y) t0 t1 (out v)):CP Y F.aF [t0,t1] v:=CPo 0 .o Tryz.func113 h
end Go.Vm
namespace Go.Vm
open Go Go.Am Go.Proofs
end Go.Vm
namespace Go.Vm
open Go Go.Am Go.Proofs
def bI (C:CC) (p0 p1 p7:V):bj:=fun l h q=>cIQ .lss (ge l 0) p7 (bxQ h 2 p0 (ge l 0) fun v2=>bnd (ldA h 2 v2) fun v3=>cal C.p h p1 [v3] fun v4 h=>cnd v4 (q .ret [(ge l 0)] h) (bIQ .add (ge l 0) (I 1) fun v5=>q .normal [v5] h)) (q (.exit 0) [] h)
def a6 (C:CC) (t0 t1:V) (q:kQ):Prop:=let h:Hp:=.replicate 0 (0,.none)
 blQ t0 fun v1=>lp (bI C t0 t1 v1) [] h [(I 0)] h (exK [((.exit 0),fun l2 h=>q (I (-1)) h), (.ret,fun l2 h=>q (ge l2 0) h)])
theorem j7 {t0 t1 v:V} (h:a6 (CX Y) t0 t1 (out v)):CP Y F.a6 [t0,t1] v:=CPo 0 (.n .x .o (.n .x (.n .x .o (.n .x (.n (.l [8] [0,1,7] [((.exit 0),[],[]),(.ret,[4],[])] []) .o .o) .o)) .o)) Tryz.func184 h
def aK (C:CC) (t0 t1:V) (q:kQ):Prop:=let h:Hp:=.replicate 0 (0,.none)
 clQ C h F.a6 [t0,t1] fun v1 h=>bIQ .geq v1 (I 0) fun v2=>q v2 h
theorem jv {t0 t1 v:V} (h:aK (CX Y) t0 t1 (out v)):CP Y F.aK [t0,t1] v:=CPo 0 .o Tryz.func152 h
def bn (C:CC) (p0 p1 p12:V):bj:=fun l h q=>cIQ .lss (ge l 0) p12 (bxQ h 2 p0 (ge l 0) fun v2=>bnd (ldA h 2 v2) fun v3=>bxQ h 2 p1 (ge l 0) fun v4=>bnd (ldA h 2 v4) fun v5=>bnd (biA [.str [],.str []] .neq v3 v5) fun v6=>cnd v6 (q .ret [(B false)] h) (bIQ .add (ge l 0) (I 1) fun v7=>q .normal [v7] h)) (q (.exit 0) [] h)
def aN (C:CC) (t0 t1:V) (q:kQ):Prop:=let h:Hp:=.replicate 0 (0,.none)
 blQ t0 fun v1=>blQ t1 fun v2=>cIQ .neq v1 v2 (q (B false) h) (blQ t0 fun v4=>lp (bn C t0 t1 v4) [] h [(I 0)] h (exK [((.exit 0),fun l5 h=>q (B true) h), (.ret,fun l5 h=>q (ge l5 0) h)]))
theorem lG {t0 t1 v:V} (h:aN (CX Y) t0 t1 (out v)):CP Y F.aN [t0,t1] v:=CPo 0 (.n .x .o (.n .x .o (.n .x (.n .x .o (.n .x (.n (.l [13] [0,1,12] [((.exit 0),[],[]),(.ret,[4],[])] []) .o .o) .o)) .o))) Tryz.func72 h
def bN (C:CC) (t0:V) (q:kQ):Prop:=let h:Hp:=.replicate 1 (0,.none)
 alV 0 [.d (.str []),.d (.str [])] h fun v1 h=>clQ C h F.dG [t0] fun v2 h=>bnd (bld [(0,1),(1,1)] [.str [],.str []] [(0,v2),(1,(.d (.str [49])))]) fun v3=>stD h 2 v1 v3 fun _ h=>bnd (ldA h 2 v1) fun v5=>q v5 h
theorem CH {t0 v:V} (h:bN (CX Y) t0 (out v)):CP Y F.bN [t0] v:=CPo 1 (.n .x (.n (.r [.slot 0]) .o .o) .o) Tryz.func69 h
def oH (C:CC) (b:Nat) (p3 p8:V):bj:=fun l h q=>cIQ .lss (ge l 0) p8 (clQ C h F.bN [(I 0)] fun v2 h=>bxQ h 2 p3 (ge l 0) fun v3=>stD h 2 v3 v2 fun _ h=>bIQ .add (ge l 0) (I 1) fun v5=>q .normal [v5] h) (q (.exit 0) [] h)
def kU (C:CC) (b:Nat) (h:Hp) (t0:V) (q:kQ):Prop:=let h:Hp:=h++List.replicate 1 (0,.none)
 mkS (b+0) 32 [.str [],.str []] h t0 t0 fun v1 h=>blQ v1 fun v2=>lp (oH C b v1 v2) [] h [(I 0)] h (exK [((.exit 0),fun l3 h=>q v1 h)])
def tI (b:Nat):Ann:=(.n .x .o (.n .x (.n (.r [.slot (b+0)]) .o .o) (.n .x (.n .x .o (.n .x (.n (.l [9] [3,8] [((.exit 0),[],[3])] []) .o .o) .o)) .o)))
theorem GZ (C:CC) (h:Hp) (t0:V) (q:V->Hp->Prop):fnI Y C Go.Proofs.Tryz.f84 1 tI [t0] h q=kU C h.length h t0 q:=by
 rfl
theorem GX (b:Nat):okB Go.Proofs.Tryz.prog Go.Proofs.Tryz.f84 (tI b)=true:=by rfl
theorem GY {t0 v:V} {h h2:Hp} (hh:kU (CX Y) h.length h t0 (sV h.length v h2)):CI Y F.kU [t0] h v h2:=
 CI.of (fn:=Go.Proofs.Tryz.f84) (m:=1) (a:=tI) rfl (fun _=>rfl) Go.Proofs.Tryz.func84 (GX _) (by rw [GZ];exact hh)
def nT (C:CC) (p2 p7 p8 p21 p22:V):bj:=fun l h q=>cIQ .lss (ge l 0) p22 (bxQ h 2 p21 (ge l 0) fun v2=>bnd (ldA h 2 v2) fun v3=>alV 1 [.d (.str []),.d (.str [])] h fun v4 h=>stD h 2 v4 v3 fun _ h=>bxQ h 2 p7 (ge l 0) fun v6=>bnd (ldA h 2 v6) fun v7=>bnd (ldA h 2 v4) fun v8=>bxQ h 2 p2 p8 fun v9=>bnd (ldA h 2 v9) fun v10=>clQ C h F.gJ [v8,v10] fun v11 h=>clQ C h F.gK [v7,v11] fun v12 h=>bxQ h 2 p7 (ge l 0) fun v13=>stD h 2 v13 v12 fun _ h=>bIQ .add (ge l 0) (I 1) fun v15=>q .normal [v15] h) (q (.exit 2) [] h)
def pX (C:CC) (p2 p7 p14 p15:V):bj:=fun l h q=>cIQ .lss (ge l 0) p15 (bxQ h 1 p14 (ge l 0) fun v2=>b1Q h v2 fun v3=>blQ v3 fun v4=>lp (nT C p2 p7 (ge l 0) v3 v4) [1] h [(I 0)] h (exK [((.exit 2),fun l5 h=>bIQ .add (ge l 0) (I 1) fun v6=>q .normal [v6] h)])) (q (.exit 0) [] h)
def kw (C:CC) (t0 t1 t2:V) (q:kQ):Prop:=let h:Hp:=.replicate 2 (0,.none)
 ciQ C h F.kU [t0] 0 fun v1 h=>blQ t1 fun v2=>lp (pX C t2 v1 t1 v2) [1] h [(I 0)] h (exK [((.exit 0),fun l3 h=>q v1 h)])
theorem Jo {t0 t1 t2 v:V} (h:kw (CX Y) t0 t1 t2 (out v)):CP Y F.kw [t0,t1,t2] v:=CPo 2 (.n .x .o (.n .x (.n (.r [.inl 0]) .o .o) (.n .x (.n .x .o (.n .x (.n (.l [16] [2,7,14,15] [((.exit 0),[],[7])] [1]) (.n .x .o (.n .x .o (.n .x (.n .x (.n .x .o (.n .x .o (.n .x (.n (.l [23] [2,7,8,14,15,16,21,22] [((.exit 2),[],[2,7,14,15,16])] [1]) (.n .x .o (.n .x .o (.n .x (.n .x (.n .x (.n (.r [.slot 1]) .o .o) .o) .o) .o))) .o) .o))) .o) .o))) .o) .o)) .o))) Tryz.func68 h
def kW (C:CC) (p0 p14 p15:V):bj:=fun l h q=>cIQ .lss (ge l 0) p15 (bxQ h 1 p14 (ge l 0) fun v2=>b1Q h v2 fun v3=>clQ C h F.jB [p0,v3] fun v4 h=>nzQ v4 (q .ret [v4] h) (bIQ .add (ge l 0) (I 1) fun v6=>q .normal [v6] h)) (q (.exit 0) [] h)
def gU (C:CC) (t0 t1:V) (q:kQ):Prop:=let h:Hp:=.replicate 0 (0,.none)
 clQ C h F.dp [t0] fun v1 h=>nzQ v1 (q v1 h) (blQ t1 fun v3=>lp (kW C t0 t1 v3) [] h [(I 0)] h (exK [((.exit 0),fun l4 h=>q (I 0) h), (.ret,fun l4 h=>q (ge l4 0) h)]))
theorem zg {t0 t1 v:V} (h:gU (CX Y) t0 t1 (out v)):CP Y F.gU [t0,t1] v:=CPo 0 (.n .x .o (.n .x .o (.n .x (.n .x .o (.n .x (.n (.l [16] [0,14,15] [((.exit 0),[],[]),(.ret,[4],[])] []) .o .o) .o)) .o))) Tryz.func58 h
def mB (C:CC) (t0:V) (q:kQ):Prop:=let h:Hp:=.replicate 0 (0,.none)
 clQ C h F.aK [t0,(.fn F.ig [] [])] fun v1 h=>cnd v1 (q (.tup [nSQ,(I 4)]) h) (q (.tup [t0,(I 0)]) h)
theorem CG {t0 v:V} (h:mB (CX Y) t0 (out v)):CP Y F.mB [t0] v:=CPo 0 .o Tryz.func116 h
def ig (C:CC) (t0:V) (q:kQ):Prop:=let h:Hp:=.replicate 1 (0,.none)
 jS 0 t0 h fun v1 h=>bnd (ldA h 2 v1) fun v2=>clQ C h F.kx [v2] fun v3 h=>bnd (unV .not v3) fun v4=>q v4 h
theorem xF {t0 v:V} (h:ig (CX Y) t0 (out v)):CP Y F.ig [t0] v:=CPo 1 (.n .x (.n (.r [.slot 0]) .o .o) .o) Tryz.func153 h
def iF (C:CC) (t0 t1 t2:V) (q:kQ):Prop:=let h:Hp:=.replicate 0 (0,.none)
 clQ C h F.gU [t0,t1] fun v1 h=>nzQ v1 (q (.tup [nSQ,v1]) h) (blQ t2 fun v3=>blQ t1 fun v4=>cIQ .neq v3 v4 (q (.tup [nSQ,(I 5)]) h) (clQ C h F.aF [t2,(.fn F.gm [] [])] fun v6 h=>cnd v6 (q (.tup [nSQ,(I 2)]) h) (blQ t0 fun v7=>clQ C h F.kw [v7,t1,t2] fun v8 h=>clQ C h F.mB [v8] fun v9 h=>e2Q v9 fun v10 v11=>q (.tup [v10,v11]) h)))
theorem AV {t0 t1 t2 v:V} (h:iF (CX Y) t0 t1 t2 (out v)):CP Y F.iF [t0,t1,t2] v:=CPo 0 .o Tryz.func71 h
def gm (C:CC) (t0:V) (q:kQ):Prop:=let h:Hp:=.replicate 1 (0,.none)
 jS 0 t0 h fun v1 h=>bnd (ldA h 2 v1) fun v2=>clQ C h F.fO [v2] fun v3 h=>bIQ .neq v3 (I 0) fun v4=>q v4 h
theorem wh {t0 v:V} (h:gm (CX Y) t0 (out v)):CP Y F.gm [t0] v:=CPo 1 (.n .x (.n (.r [.slot 0]) .o .o) .o) Tryz.func114 h
def fv (C:CC) (t0 t1 t2:V) (q:kQ):Prop:=let h:Hp:=.replicate 1 (0,.none)
 jS 0 t2 h fun v1 h=>dw 1 [.pl (.slice none 0 0)] [(0,t1)] h fun v2 h=>bnd (ldA h 2 v1) fun v3=>dw 1 [.str [],.str []] [(0,v3)] h fun v4 h=>clQ C h F.iF [t0,v2,v4] fun v5 h=>e2Q v5 fun v6 v7=>q (.tup [v6,v7]) h
theorem EY {t0 t1 t2 v:V} (h:fv (CX Y) t0 t1 t2 (out v)):CP Y F.fv [t0,t1,t2] v:=CPo 1 (.n .x (.n (.r [.slot 0]) .o .o) .o) Tryz.func27 h
def mC (C:CC) (b:Nat) (h:Hp) (t0:V) (q:kQ):Prop:=let h:Hp:=h++List.replicate 1 (0,.none)
 clQ C h F.dp [t0] fun v1 h=>nzQ v1 (q (.tup [nSQ,v1]) h) (blQ t0 fun v3=>ciQ C h F.kU [v3] (b+0) fun v4 h=>q (.tup [v4,(I 0)]) h)
def tK (b:Nat):Ann:=(.n .x .o (.n .x .o (.n .x (.n (.r [.inl (b+0)]) .o .o) .o)))
theorem G3 (C:CC) (h:Hp) (t0:V) (q:V->Hp->Prop):fnI Y C Go.Proofs.Tryz.f42 1 tK [t0] h q=mC C h.length h t0 q:=by
 rfl
theorem G1 (b:Nat):okB Go.Proofs.Tryz.prog Go.Proofs.Tryz.f42 (tK b)=true:=by rfl
theorem G2 {t0 v:V} {h h2:Hp} (hh:mC (CX Y) h.length h t0 (sV h.length v h2)):CI Y F.mC [t0] h v h2:=
 CI.of (fn:=Go.Proofs.Tryz.f42) (m:=1) (a:=tK) rfl (fun _=>rfl) Go.Proofs.Tryz.func42 (G1 _) (by rw [G3];exact hh)
def ky (C:CC) (t0:V) (q:kQ):Prop:=let h:Hp:=.replicate 1 (0,.none)
 ciQ C h F.mC [t0] 0 fun v1 h=>e2Q v1 fun v2 v3=>nzQ v3 (q (.tup [nSQ,v3]) h) (clQ C h F.bN [(I 1)] fun v5 h=>bxQ h 2 v2 (I 0) fun v6=>stD h 2 v6 v5 fun _ h=>q (.tup [v2,(I 0)]) h)
theorem CK {t0 v:V} (h:ky (CX Y) t0 (out v)):CP Y F.ky [t0] v:=CPo 1 (.n .x .o (.n .x (.n (.r [.inl 0]) .o .o) .o)) Tryz.func30 h
def rJ (C:CC) (p7 p19 p20:V):bj:=fun l h q=>cIQ .lss (ge l 0) p20 (bxQ h 1 p19 (ge l 0) fun v2=>b1Q h v2 fun v3=>clQ C h F.bN [v3] fun v4 h=>bxQ h 2 p7 (ge l 0) fun v5=>stD h 2 v5 v4 fun _ h=>bIQ .add (ge l 0) (I 1) fun v7=>q .normal [v7] h) (q (.exit 0) [] h)
def oJ (C:CC) (t0 t1:V) (q:kQ):Prop:=let h:Hp:=.replicate 1 (0,.none)
 clQ C h F.iM [t0,t1] fun v1 h=>nzQ v1 (q (.tup [nSQ,v1]) h) (blQ t0 fun v3=>ciQ C h F.kU [v3] 0 fun v4 h=>blQ t1 fun v5=>lp (rJ C v4 t1 v5) [] h [(I 0)] h (exK [((.exit 0),fun l6 h=>q (.tup [v4,(I 0)]) h)]))
theorem MK {t0 t1 v:V} (h:oJ (CX Y) t0 t1 (out v)):CP Y F.oJ [t0,t1] v:=CPo 1 (.n .x .o (.n .x .o (.n .x (.n (.r [.inl 0]) .o .o) (.n .x (.n .x .o (.n .x (.n (.l [21] [7,19,20] [((.exit 0),[],[7])] []) .o .o) .o)) .o)))) Tryz.func85 h
def pC (C:CC) (t0 t1 t2:V) (q:kQ):Prop:=let h:Hp:=.replicate 0 (0,.none)
 dw 2 [.pl (.slice none 0 0)] [(0,t1),(1,t2)] h fun v1 h=>clQ C h F.bN [(I 1)] fun v2 h=>clQ C h F.bN [(I (-1))] fun v3 h=>dw 2 [.str [],.str []] [(0,v2),(1,v3)] h fun v4 h=>clQ C h F.iF [t0,v1,v4] fun v5 h=>e2Q v5 fun v6 v7=>q (.tup [v6,v7]) h
theorem Jq {t0 t1 t2 v:V} (h:pC (CX Y) t0 t1 t2 (out v)):CP Y F.pC [t0,t1,t2] v:=CPo 0 .o Tryz.func91 h
def pD (C:CC) (t0 t1 t2:V) (q:kQ):Prop:=let h:Hp:=.replicate 0 (0,.none)
 dw 2 [.pl (.slice none 0 0)] [(0,t1),(1,t2)] h fun v1 h=>clQ C h F.bN [(I 1)] fun v2 h=>clQ C h F.bN [(I 1)] fun v3 h=>dw 2 [.str [],.str []] [(0,v2),(1,v3)] h fun v4 h=>clQ C h F.iF [t0,v1,v4] fun v5 h=>e2Q v5 fun v6 v7=>q (.tup [v6,v7]) h
theorem Jr {t0 t1 t2 v:V} (h:pD (CX Y) t0 t1 t2 (out v)):CP Y F.pD [t0,t1,t2] v:=CPo 0 .o Tryz.func39 h
def kz (C:CC) (t0 t1:V) (q:kQ):Prop:=let h:Hp:=.replicate 0 (0,.none)
 clQ C h F.aN [t0,t1] fun v1 h=>q v1 h
theorem E0 {t0 t1 v:V} (h:kz (CX Y) t0 t1 (out v)):CP Y F.kz [t0,t1] v:=CPo 0 .o Tryz.func28 h
end Go.Vm
namespace Go.Vm
open Go Go.Am Go.Proofs
end Go.Vm
namespace Go.Vm
open Go Go.Am Go.Proofs
end Go.Vm
namespace Go.Vm
open Go Go.Am Go.Proofs
def iM (C:CC) (t0 t1:V) (q:kQ):Prop:=let h:Hp:=.replicate 0 (0,.none)
 dw 1 [.pl (.slice none 0 0)] [(0,t1)] h fun v1 h=>clQ C h F.jg [t0,v1] fun v2 h=>q v2 h
theorem CR {t0 t1 v:V} (h:iM (CX Y) t0 t1 (out v)):CP Y F.iM [t0,t1] v:=CPo 0 .o Tryz.func55 h
def km (C:CC) (p26 p27:V):bj:=fun l h q=>cIQ .lss (ge l 0) p27 (bxQ h 1 p26 (ge l 0) fun v2=>b1Q h v2 fun v3=>bIQ .gtr v3 (I 1000) fun v4=>gqQ v4 false h v3 fun v5 h=>gbQ v4 false h (biI .lss v5 (I (-1000))) fun v6 h=>bpQ v4 (B true) v6 fun v7=>cnd v7 (q .ret [(I 4)] h) (bIQ .add (ge l 0) (I 1) fun v8=>q .normal [v8] h)) (q (.exit 2) [] h)
def iL (C:CC) (p0 p15 p16:V):bj:=fun l h q=>cIQ .lss (ge l 0) p16 (bxQ h 1 p15 (ge l 0) fun v2=>b1Q h v2 fun v3=>blQ v3 fun v4=>blQ p0 fun v5=>cIQ .neq v4 v5 (q .ret [(I 5)] h) (blQ v3 fun v7=>lp (km C v3 v7) [] h [(I 0)] h (exK [((.exit 2),fun l8 h=>bIQ .add (ge l 0) (I 1) fun v9=>q .normal [v9] h), (.ret,fun l8 h=>q .ret [(ge l8 0)] h)]))) (q (.exit 0) [] h)
def jg (C:CC) (t0 t1:V) (q:kQ):Prop:=let h:Hp:=.replicate 0 (0,.none)
 clQ C h F.dp [t0] fun v1 h=>nzQ v1 (q v1 h) (blQ t1 fun v3=>lp (iL C t0 t1 v3) [] h [(I 0)] h (exK [((.exit 0),fun l4 h=>q (I 0) h), (.ret,fun l4 h=>q (ge l4 0) h)]))
theorem xS {t0 t1 v:V} (h:jg (CX Y) t0 t1 (out v)):CP Y F.jg [t0,t1] v:=CPo 0 (.n .x .o (.n .x .o (.n .x (.n .x .o (.n .x (.n (.l [17] [0,15,16] [((.exit 0),[],[]),(.ret,[4],[])] []) (.n .x .o (.n .x .o (.n .x (.n .x (.n .x .o (.n .x .o (.n .x .o (.n .x (.n (.l [28] [0,15,16,17,26,27] [((.exit 2),[],[0,15,16,17]),(.ret,[4],[])] []) .o .o) .o)))) .o) .o))) .o) .o)) .o))) Tryz.func101 h
def fP (C:CC) (t0 t1:V) (q:kQ):Prop:=let h:Hp:=.replicate 0 (0,.none)
 clQ C h F.dp [t0] fun v1 h=>nzQ v1 (q v1 h) (bIQ .lss t1 (I 1) fun v3=>gqQ v3 false h t1 fun v4 h=>gbQ v3 false h (biI .gtr v4 (I 10000)) fun v5 h=>bpQ v3 (B true) v5 fun v6=>cnd v6 (q (I 3) h) (q (I 0) h))
theorem yc {t0 t1 v:V} (h:fP (CX Y) t0 t1 (out v)):CP Y F.fP [t0,t1] v:=CPo 0 .o Tryz.func62 h
def iq (C:CC) (p0 p11 p12:V):bj:=fun l h q=>cIQ .lss (ge l 0) p12 (bxQ h 1 p11 (ge l 0) fun v2=>b1Q h v2 fun v3=>clQ C h F.iM [p0,v3] fun v4 h=>nzQ v4 (q .ret [v4] h) (bIQ .add (ge l 0) (I 1) fun v6=>q .normal [v6] h)) (q (.exit 0) [] h)
def cD (C:CC) (t0 t1:V) (q:kQ):Prop:=let h:Hp:=.replicate 0 (0,.none)
 blQ t1 fun v1=>cIQ .gtr v1 (I 60) (q (I 4) h) (blQ t1 fun v3=>lp (iq C t0 t1 v3) [] h [(I 0)] h (exK [((.exit 0),fun l4 h=>q (I 0) h), (.ret,fun l4 h=>q (ge l4 0) h)]))
theorem t8 {t0 t1 v:V} (h:cD (CX Y) t0 t1 (out v)):CP Y F.cD [t0,t1] v:=CPo 0 (.n .x .o (.n .x .o (.n .x (.n .x .o (.n .x (.n (.l [13] [0,11,12] [((.exit 0),[],[]),(.ret,[4],[])] []) .o .o) .o)) .o))) Tryz.func74 h
def gY (C:CC) (t0 t1:V) (q:kQ):Prop:=let h:Hp:=.replicate 0 (0,.none)
 clQ C h F.ky [t0] fun v1 h=>e2Q v1 fun v2 v3=>nzQ v3 (q (.tup [nSQ,v3]) h) (clQ C h F.dG [t1] fun v5 h=>bnd (bld [(0,1),(1,1)] [.str [],.str []] [(0,(.d (.str [49]))),(1,v5)]) fun v6=>clQ C h F.fv [t0,v2,v6] fun v7 h=>e2Q v7 fun v8 v9=>q (.tup [v8,v9]) h)
theorem zt {t0 t1 v:V} (h:gY (CX Y) t0 t1 (out v)):CP Y F.gY [t0,t1] v:=CPo 0 .o Tryz.func63 h
def fB (C:CC) (t0 t1 t2:V) (q:kQ):Prop:=let h:Hp:=.replicate 0 (0,.none)
 clQ C h F.gY [t0,t1] fun v1 h=>e2Q v1 fun v2 v3=>nzQ v3 (q (.tup [(.d (.str [])),v3]) h) (clQ C h F.nz [t0,t2,v2] fun v5 h=>e2Q v5 fun v6 v7=>q (.tup [v6,v7]) h)
theorem vL {t0 t1 t2 v:V} (h:fB (CX Y) t0 t1 t2 (out v)):CP Y F.fB [t0,t1,t2] v:=CPo 0 .o Tryz.func65 h
def jm (C:CC) (t0 t1 t2:V) (q:kQ):Prop:=let h:Hp:=.replicate 0 (0,.none)
 clQ C h F.gY [t0,t1] fun v1 h=>e2Q v1 fun v2 v3=>nzQ v3 (q (.tup [nSQ,v3]) h) (bnd (bld [(0,1),(1,1)] [.str [],.str []] [(0,t2),(1,(.d (.str [49])))]) fun v5=>clQ C h F.fv [t0,v2,v5] fun v6 h=>e2Q v6 fun v7 v8=>q (.tup [v7,v8]) h)
theorem yb {t0 t1 t2 v:V} (h:jm (CX Y) t0 t1 t2 (out v)):CP Y F.jm [t0,t1,t2] v:=CPo 0 .o Tryz.func66 h
def jF (C:CC) (t0 t1 t2 t3:V) (q:kQ):Prop:=let h:Hp:=.replicate 0 (0,.none)
 clQ C h F.jm [t0,t1,t2] fun v1 h=>e2Q v1 fun v2 v3=>nzQ v3 (q (.tup [nSQ,v3]) h) (clQ C h F.pC [t0,v2,t3] fun v5 h=>e2Q v5 fun v6 v7=>q (.tup [v6,v7]) h)
theorem BZ {t0 t1 t2 t3 v:V} (h:jF (CX Y) t0 t1 t2 t3 (out v)):CP Y F.jF [t0,t1,t2,t3] v:=CPo 0 .o Tryz.func86 h
def fC (C:CC) (t0 t1 t2:V) (q:kQ):Prop:=let h:Hp:=.replicate 0 (0,.none)
 clQ C h F.oJ [t0,t2] fun v1 h=>e2Q v1 fun v2 v3=>nzQ v3 (q (.tup [nSQ,v3]) h) (clQ C h F.fB [t0,t1,v2] fun v5 h=>e2Q v5 fun v6 v7=>nzQ v7 (q (.tup [nSQ,v7]) h) (clQ C h F.jF [t0,t1,v6,v2] fun v9 h=>e2Q v9 fun v10 v11=>q (.tup [v10,v11]) h))
theorem vM {t0 t1 t2 v:V} (h:fC (CX Y) t0 t1 t2 (out v)):CP Y F.fC [t0,t1,t2] v:=CPo 0 .o Tryz.func80 h
def jH (C:CC) (p0 p1 p27 p28:V):bj:=fun l h q=>cIQ .lss (ge l 1) p28 (bxQ h 1 p27 (ge l 1) fun v2=>b1Q h v2 fun v3=>clQ C h F.fC [p0,p1,v3] fun v4 h=>e2Q v4 fun v5 v6=>nzQ v6 (q .ret [nSQ,v6] h) (dw 1 [.pl (.slice none 0 0)] [(0,v5)] h fun v8 h=>apV false 0 1 24 (ge l 0) v8 h fun v9 h=>bIQ .add (ge l 1) (I 1) fun v10=>q .normal [v9,v10] h)) (q (.exit 0) [(ge l 0)] h)
def dD (C:CC) (t0 t1 t2:V) (q:kQ):Prop:=let h:Hp:=.replicate 1 (0,.none)
 clQ C h F.fP [t0,t1] fun v1 h=>nzQ v1 (q (.tup [nSQ,v1]) h) (clQ C h F.cD [t0,t2] fun v3 h=>nzQ v3 (q (.tup [nSQ,v3]) h) (blQ t2 fun v5=>lp (jH C t0 t1 t2 v5) [] h [nSQ,(I 0)] h (exK [((.exit 0),fun l6 h=>q (.tup [(ge l6 0),(I 0)]) h), (.ret,fun l6 h=>q (.tup [(ge l6 0),(ge l6 1)]) h)])))
theorem xd {t0 t1 t2 v:V} (h:dD (CX Y) t0 t1 t2 (out v)):CP Y F.dD [t0,t1,t2] v:=CPo 1 (.n .x .o (.n .x .o (.n .x .o (.n .x .o (.n .x (.n .x .o (.n .x (.n (.l [10,29] [0,1,27,28] [((.exit 0),[10],[]),(.ret,[6,7],[])] []) (.n .x .o (.n .x .o (.n .x (.n .x (.n .x .o (.n .x .o (.n .x .o (.n (.r [.o,.slot 0]) .o .o)))) .o) .o))) .o) .o)) .o))))) Tryz.func37 h
def jG (C:CC) (p0 p1 p14 p15:V):bj:=fun l h q=>cIQ .lss (ge l 1) p15 (bxQ h 1 p14 (ge l 1) fun v2=>b1Q h v2 fun v3=>clQ C h F.oJ [p0,v3] fun v4 h=>e2Q v4 fun v5 v6=>nzQ v6 (q .ret [nSQ,v6] h) (clQ C h F.fB [p0,p1,v5] fun v8 h=>e2Q v8 fun v9 v10=>nzQ v10 (q .ret [nSQ,v10] h) (dw 1 [.str []] [(0,v9)] h fun v12 h=>apV false 0 1 16 (ge l 0) v12 h fun v13 h=>bIQ .add (ge l 1) (I 1) fun v14=>q .normal [v13,v14] h))) (q (.exit 0) [(ge l 0)] h)
def iA (C:CC) (t0 t1 t2:V) (q:kQ):Prop:=let h:Hp:=.replicate 1 (0,.none)
 blQ t2 fun v1=>lp (jG C t0 t1 t2 v1) [] h [nSQ,(I 0)] h (exK [((.exit 0),fun l2 h=>q (.tup [(ge l2 0),(I 0)]) h), (.ret,fun l2 h=>q (.tup [(ge l2 0),(ge l2 1)]) h)])
theorem xc {t0 t1 t2 v:V} (h:iA (CX Y) t0 t1 t2 (out v)):CP Y F.iA [t0,t1,t2] v:=CPo 1 (.n .x .o (.n .x .o (.n .x (.n .x .o (.n .x (.n (.l [8,16] [0,1,14,15] [((.exit 0),[8],[]),(.ret,[6,7],[])] []) (.n .x .o (.n .x .o (.n .x (.n .x (.n .x .o (.n .x .o (.n .x .o (.n .x .o (.n .x .o (.n (.r [.o,.slot 0]) .o .o)))))) .o) .o))) .o) .o)) .o))) Tryz.func92 h
def jR (C:CC) (p0 p1 p2 p9:V):bj:=fun l h q=>cIQ .lss (ge l 0) p9 (bxQ h 1 p0 (ge l 0) fun v2=>b1Q h v2 fun v3=>bxQ h 1 p1 (ge l 0) fun v4=>b1Q h v4 fun v5=>bIQ .add v3 v5 fun v6=>bxQ h 1 p2 (ge l 0) fun v7=>b1Q h v7 fun v8=>cIQ .neq v6 v8 (q .ret [(B false)] h) (bIQ .add (ge l 0) (I 1) fun v10=>q .normal [v10] h)) (q (.exit 0) [] h)
def lz (C:CC) (t0 t1 t2:V) (q:kQ):Prop:=let h:Hp:=.replicate 0 (0,.none)
 blQ t0 fun v1=>lp (jR C t0 t1 t2 v1) [] h [(I 0)] h (exK [((.exit 0),fun l2 h=>q (B true) h), (.ret,fun l2 h=>q (ge l2 0) h)])
theorem BY {t0 t1 t2 v:V} (h:lz (CX Y) t0 t1 t2 (out v)):CP Y F.lz [t0,t1,t2] v:=CPo 0 (.n .x .o (.n .x (.n .x .o (.n .x (.n (.l [10] [0,1,2,9] [((.exit 0),[],[]),(.ret,[6],[])] []) .o .o) .o)) .o)) Tryz.func97 h
def gL (C:CC) (p7 p11 p12 p13 p14 p15 p57 p58:V):bj:=fun l h q=>cIQ .lss (ge l 0) p58 (bxQ h 1 p57 (ge l 0) fun v2=>b1Q h v2 fun v3=>clQ C h F.lz [p13,p15,v3] fun v4 h=>gqQ v4 true h p11 fun v5 h=>gqQ v4 true h p12 fun v6 h=>gbQ v4 true h (ixV h 1 v5 v6) fun v7 h=>gbQ v4 true h (ld1 h v7) fun v8 h=>gqQ v4 true h p11 fun v9 h=>gqQ v4 true h p14 fun v10 h=>gbQ v4 true h (ixV h 1 v9 v10) fun v11 h=>gbQ v4 true h (ld1 h v11) fun v12 h=>gd v4 true h (fun q=>clQ C h F.cr [v8,v12] q) fun v13 h=>gqQ v4 true h p11 fun v14 h=>gqQ v4 true h (ge l 0) fun v15 h=>gbQ v4 true h (ixV h 1 v14 v15) fun v16 h=>gbQ v4 true h (ld1 h v16) fun v17 h=>gbQ v4 true h (biS .neq v13 v17) fun v18 h=>bpQ v4 v18 (B false) fun v19=>cnd v19 (bnd (bld [(0,1),(1,1),(2,1)] [.int .i64 0,.int .i64 0,.int .i64 0] [(0,p12),(1,p14),(2,(ge l 0))]) fun v20=>stD h 3 p7 v20 fun _ h=>q .ret [(B false),(I 0)] h) (bIQ .add (ge l 0) (I 1) fun v22=>q .normal [v22] h)) (q (.exit 4) [] h)
def gM (C:CC) (p2 p7 p11 p12 p13 p50 p51:V):bj:=fun l h q=>cIQ .lss (ge l 0) p51 (bxQ h 1 p50 (ge l 0) fun v2=>b1Q h v2 fun v3=>blQ p2 fun v4=>lp (gL C p7 p11 p12 p13 (ge l 0) v3 p2 v4) [] h [(I 0)] h (exK [((.exit 4),fun l5 h=>bIQ .add (ge l 0) (I 1) fun v6=>q .normal [v6] h), (.ret,fun l5 h=>q .ret [(ge l5 0),(ge l5 1)] h)])) (q (.exit 2) [] h)
def gN (C:CC) (p2 p7 p11 p43 p44:V):bj:=fun l h q=>cIQ .lss (ge l 0) p44 (bxQ h 1 p43 (ge l 0) fun v2=>b1Q h v2 fun v3=>blQ p2 fun v4=>lp (gM C p2 p7 p11 (ge l 0) v3 p2 v4) [] h [(I 0)] h (exK [((.exit 2),fun l5 h=>bIQ .add (ge l 0) (I 1) fun v6=>q .normal [v6] h), (.ret,fun l5 h=>q .ret [(ge l5 0),(ge l5 1)] h)])) (q (.exit 0) [] h)
def b6 (C:CC) (t0 t1 t2:V) (q:kQ):Prop:=let h:Hp:=.replicate 1 (0,.none)
 alV 0 [.d (.int .i64 0),.d (.int .i64 0),.d (.int .i64 0)] h fun v1 h=>clQ C h F.fP [t0,t1] fun v2 h=>nzQ v2 (bnd (bld [(0,1),(1,1),(2,1)] [.int .i64 0,.int .i64 0,.int .i64 0] []) fun v4=>stD h 3 v1 v4 fun _ h=>bnd (ldA h 3 v1) fun v6=>q (.tup [(B false),v6,v2]) h) (clQ C h F.cD [t0,t2] fun v7 h=>nzQ v7 (bnd (bld [(0,1),(1,1),(2,1)] [.int .i64 0,.int .i64 0,.int .i64 0] []) fun v9=>stD h 3 v1 v9 fun _ h=>bnd (ldA h 3 v1) fun v11=>q (.tup [(B false),v11,v7]) h) (clQ C h F.iA [t0,t1,t2] fun v12 h=>e2Q v12 fun v13 v14=>nzQ v14 (bnd (bld [(0,1),(1,1),(2,1)] [.int .i64 0,.int .i64 0,.int .i64 0] []) fun v16=>stD h 3 v1 v16 fun _ h=>bnd (ldA h 3 v1) fun v18=>q (.tup [(B false),v18,v14]) h) (blQ t2 fun v19=>lp (gN C t2 v1 v13 t2 v19) [] h [(I 0)] h (exK [((.exit 0),fun l20 h=>bnd (bld [(0,1),(1,1),(2,1)] [.int .i64 0,.int .i64 0,.int .i64 0] []) fun v21=>stD h 3 v1 v21 fun _ h=>bnd (ldA h 3 v1) fun v23=>q (.tup [(B true),v23,(I 0)]) h), (.ret,fun l20 h=>bnd (ldA h 3 v1) fun v24=>q (.tup [(ge l20 0),v24,(ge l20 1)]) h)]))))
theorem s6 {t0 t1 t2 v:V} (h:b6 (CX Y) t0 t1 t2 (out v)):CP Y F.b6 [t0,t1,t2] v:=CPo 1 (.n .x (.n (.r [.slot 0]) .o .o) (.n .x .o (.n .x .o (.n .x .o (.n .x .o (.n .x (.n .x .o (.n .x (.n (.l [45] [2,7,11,43,44] [((.exit 0),[],[7]),(.ret,[6,8],[7])] []) (.n .x .o (.n .x .o (.n .x (.n .x (.n .x .o (.n .x .o (.n .x (.n (.l [52] [2,7,11,12,13,43,44,45,50,51] [((.exit 2),[],[2,7,11,43,44,45]),(.ret,[6,8],[7])] []) (.n .x .o (.n .x .o (.n .x (.n .x (.n .x .o (.n .x .o (.n .x (.n (.l [59] [2,7,11,12,13,14,15,43,44,45,50,51,52,57,58] [((.exit 4),[],[2,7,11,12,13,43,44,45,50,51,52]),(.ret,[6,8],[7])] []) .o .o) .o))) .o) .o))) .o) .o))) .o) .o))) .o) .o)) .o)))))) Tryz.func51 h
def j5 (C:CC) (t0 t1 t2:V) (q:kQ):Prop:=let h:Hp:=.replicate 0 (0,.none)
 clQ C h F.fC [t0,t1,t2] fun v1 h=>e2Q v1 fun v2 v3=>nzQ v3 (q (.tup [nSQ,v3]) h) (clQ C h F.nU [t0,v2] fun v5 h=>e2Q v5 fun v6 v7=>q (.tup [v6,v7]) h)
theorem zw {t0 t1 t2 v:V} (h:j5 (CX Y) t0 t1 t2 (out v)):CP Y F.j5 [t0,t1,t2] v:=CPo 0 .o Tryz.func56 h
def j4 (C:CC) (t0 t1 t2:V) (q:kQ):Prop:=let h:Hp:=.replicate 0 (0,.none)
 clQ C h F.iE [t0,t1,t2] fun v1 h=>e2Q v1 fun v2 v3=>bIQ .eql v3 (I 0) fun v4=>gqQ v4 true h v2 fun v5 h=>gbQ v4 true h (biI .lss v5 (I 0)) fun v6 h=>bpQ v4 v6 (B false) fun v7=>q v7 h
theorem zu {t0 t1 t2 v:V} (h:j4 (CX Y) t0 t1 t2 (out v)):CP Y F.j4 [t0,t1,t2] v:=CPo 0 .o Tryz.func57 h
def jb (C:CC) (p0 p1 p2:V):bj:=fun l h q=>cIQ .leq (ge l 2) p2 (jn (fun l2 h=>bIQ .add (ge l 2) (I 1) fun v4=>q .normal [(ge l2 0),(ge l2 1),v4] h) fun q3=>clQ C h F.j5 [p0,(ge l 2),p1] fun v5 h=>e2Q v5 fun v6 v7=>nzQ v7 (q .ret [nSQ,v7] h) (bIQ .eql (ge l 2) (I 1) fun v9=>gqQ v9 false h p0 fun v10 h=>gqQ v9 false h v6 fun v11 h=>gqQ v9 false h (ge l 1) fun v12 h=>gd v9 false h (fun q=>clQ C h F.j4 [v10,v11,v12] q) fun v13 h=>bpQ v9 (B true) v13 fun v14=>jn (fun l15 h=>q3 [(ge l15 0),(ge l15 1)] h) fun q16=>cnd v14 (a1Q 0 (ge l 0) (ge l 2) h fun v18 h=>q16 [v18,v6] h) (q16 [(ge l 0),(ge l 1)] h))) (q (.exit 0) [(ge l 0)] h)
def fD (C:CC) (t0 t1 t2:V) (q:kQ):Prop:=let h:Hp:=.replicate 1 (0,.none)
 clQ C h F.dp [t0] fun v1 h=>nzQ v1 (q (.tup [nSQ,v1]) h) (clQ C h F.iM [t0,t1] fun v3 h=>nzQ v3 (q (.tup [nSQ,v3]) h) (bIQ .lss t2 (I 1) fun v5=>gqQ v5 false h t2 fun v6 h=>gbQ v5 false h (biI .gtr v6 (I 500)) fun v7 h=>bpQ v5 (B true) v7 fun v8=>cnd v8 (q (.tup [nSQ,(I 3)]) h) (lp (jb C t0 t1 t2) [] h [nSQ,nSQ,(I 1)] h (exK [((.exit 0),fun l9 h=>q (.tup [(ge l9 0),(I 0)]) h), (.ret,fun l9 h=>q (.tup [(ge l9 0),(ge l9 1)]) h)]))))
theorem vN {t0 t1 t2 v:V} (h:fD (CX Y) t0 t1 t2 (out v)):CP Y F.fD [t0,t1,t2] v:=CPo 1 (.n .x .o (.n .x .o (.n .x .o (.n .x .o (.n .x .o (.n .x .o (.n .x (.n .x .o (.n .x (.n (.l [10,11,12] [0,1,2] [((.exit 0),[10],[]),(.ret,[6,7],[])] []) (.n .x .o (.n .x (.n (.j [10,11] [0,1,2,12]) (.n .x .o (.n .x .o (.n .x .o (.n (.j [10,11] [0,1,2,12]) (.n (.r [.o,.slot 0]) .o .o) .o)))) .o) .o)) .o) .o)) .o))))))) Tryz.func16 h
end Go.Vm
namespace Go.Vm
open Go Go.Am Go.Proofs
end Go.Vm
namespace Go.Vm
open Go Go.Am Go.Proofs
def mD (C:CC) (t0 t1:V) (q:kQ):Prop:=let h:Hp:=.replicate 0 (0,.none)
 clQ C h F.me [t0,t1] fun v1 h=>nzQ v1 (q (.tup [(I 0),v1]) h) (clQ C h F.fG [t0,t1] fun v3 h=>clQ C h F.dZ [v3] fun v4 h=>q (.tup [v4,(I 0)]) h)
theorem G4 {t0 t1 v:V} (h:mD (CX Y) t0 t1 (out v)):CP Y F.mD [t0,t1] v:=CPo 0 .o Tryz.func40 h
def nU (C:CC) (t0 t1:V) (q:kQ):Prop:=let h:Hp:=.replicate 0 (0,.none)
 clQ C h F.mD [t0,t1] fun v1 h=>e2Q v1 fun v2 v3=>nzQ v3 (q (.tup [nSQ,v3]) h) (blQ t0 fun v5=>dw 1 [.pl (.slice none 0 0)] [(0,t1)] h fun v6 h=>bnd (unV .neg v2) fun v7=>bnd (mxI true [v2,v7]) fun v8=>bnd (mxI true [v2,(I 0)]) fun v9=>bIQ .mul (I 2) v9 fun v10=>bIQ .sub v10 (I 1) fun v11=>bIQ .mul v8 v11 fun v12=>clQ C h F.bN [v12] fun v13 h=>dw 1 [.str [],.str []] [(0,v13)] h fun v14 h=>clQ C h F.kw [v5,v6,v14] fun v15 h=>q (.tup [v15,(I 0)]) h)
theorem Js {t0 t1 v:V} (h:nU (CX Y) t0 t1 (out v)):CP Y F.nU [t0,t1] v:=CPo 0 .o Tryz.func38 h
def kV (C:CC) (t0 t1 t2:V) (q:kQ):Prop:=let h:Hp:=.replicate 0 (0,.none)
 blQ t0 fun v1=>dw 2 [.pl (.slice none 0 0)] [(0,t1),(1,t2)] h fun v2 h=>clQ C h F.bN [(I 1)] fun v3 h=>clQ C h F.bN [(I (-1))] fun v4 h=>dw 2 [.str [],.str []] [(0,v3),(1,v4)] h fun v5 h=>clQ C h F.kw [v1,v2,v5] fun v6 h=>clQ C h F.fG [t0,v6] fun v7 h=>clQ C h F.dZ [v7] fun v8 h=>q v8 h
theorem AT {t0 t1 t2 v:V} (h:kV (CX Y) t0 t1 t2 (out v)):CP Y F.kV [t0,t1,t2] v:=CPo 0 .o Tryz.func59 h
def iE (C:CC) (t0 t1 t2:V) (q:kQ):Prop:=let h:Hp:=.replicate 0 (0,.none)
 dw 2 [.pl (.slice none 0 0)] [(0,t1),(1,t2)] h fun v1 h=>clQ C h F.gU [t0,v1] fun v2 h=>nzQ v2 (q (.tup [(I 0),v2]) h) (clQ C h F.kV [t0,t1,t2] fun v4 h=>q (.tup [v4,(I 0)]) h)
theorem AU {t0 t1 t2 v:V} (h:iE (CX Y) t0 t1 t2 (out v)):CP Y F.iE [t0,t1,t2] v:=CPo 0 .o Tryz.func18 h
def lK (C:CC) (p0 p6 p12 p13:V):bj:=fun l h q=>cIQ .lss (ge l 0) p13 (jn (fun l2 h=>bIQ .add (ge l 0) (I 1) fun v4=>q .normal [v4] h) fun q3=>bxQ h 2 p12 (ge l 0) fun v5=>bnd (ldA h 2 v5) fun v6=>alV 2 [.d (.str []),.d (.str [])] h fun v7 h=>stD h 2 v7 v6 fun _ h=>bfQ 0 v7 fun v9=>b1Q h v9 fun v10=>bSQ .neq v10 (.d (.str [48])) fun v11=>jn (fun l12 h=>q3 [] h) fun q13=>cnd v11 (bxQ h 2 p0 (ge l 0) fun v14=>bnd (ldA h 2 v14) fun v15=>bnd (ldA h 2 v7) fun v16=>clQ C h F.jE [v15,v16] fun v17 h=>e2Q v17 fun v18 v19=>stD h 2 p6 v18 fun _ h=>q13 [] h) (q13 [] h)) (q (.exit 0) [] h)
def jX (C:CC) (p0 p4 p6 p32 p33:V):bj:=fun l h q=>cIQ .lss (ge l 0) p33 (bxQ h 2 p32 (ge l 0) fun v2=>bnd (ldA h 2 v2) fun v3=>alV 3 [.d (.str []),.d (.str [])] h fun v4 h=>stD h 2 v4 v3 fun _ h=>bnd (ldA h 2 p6) fun v6=>bnd (ldA h 2 v4) fun v7=>clQ C h F.gJ [v6,v7] fun v8 h=>bxQ h 2 p0 (ge l 0) fun v9=>bnd (ldA h 2 v9) fun v10=>bnd (biA [.str [],.str []] .neq v8 v10) fun v11=>cnd v11 (bnd (ldA h 2 p6) fun v12=>stD h 2 p4 v12 fun _ h=>q .ret [(B false)] h) (bIQ .add (ge l 0) (I 1) fun v14=>q .normal [v14] h)) (q (.exit 2) [] h)
def mb (C:CC) (t0 t1:V) (q:kQ):Prop:=let h:Hp:=.replicate 4 (0,.none)
 alV 0 [.d (.str []),.d (.str [])] h fun v1 h=>clQ C h F.bN [(I 0)] fun v2 h=>alV 1 [.d (.str []),.d (.str [])] h fun v3 h=>stD h 2 v3 v2 fun _ h=>blQ t1 fun v5=>lp (lK C t0 v3 t1 v5) [2] h [(I 0)] h (exK [((.exit 0),fun l6 h=>blQ t1 fun v7=>lp (jX C t0 v1 v3 t1 v7) [3] h [(I 0)] h (exK [((.exit 2),fun l8 h=>bnd (ldA h 2 v3) fun v9=>stD h 2 v1 v9 fun _ h=>bnd (ldA h 2 v1) fun v11=>q (.tup [v11,(B true)]) h), (.ret,fun l8 h=>bnd (ldA h 2 v1) fun v12=>q (.tup [v12,(ge l8 0)]) h)]))])
theorem ET {t0 t1 v:V} (h:mb (CX Y) t0 t1 (out v)):CP Y F.mb [t0,t1] v:=CPo 4 (.n .x (.n (.r [.slot 0]) .o .o) (.n .x (.n (.r [.o,.slot 1]) .o .o) (.n .x (.n .x .o (.n .x (.n (.l [14] [0,1,4,6,12,13] [((.exit 0),[],[0,1,4,6])] [2]) (.n .x .o (.n .x .o (.n .x (.n (.j [] [0,1,4,6,12,13,14]) (.n .x (.n (.r [.slot 2]) .o .o) (.n .x .o (.n (.j [] [0,1,4,6,12,13,14]) .o .o))) .o) .o))) .o) .o)) (.n .x (.n .x .o (.n .x (.n (.l [34] [0,4,6,32,33] [((.exit 2),[],[4,6]),(.ret,[5],[4])] [3]) (.n .x .o (.n .x .o (.n .x (.n .x (.n .x (.n (.r [.slot 3]) .o .o) .o) .o) .o))) .o) .o)) .o)))) Tryz.func106 h
def dV (C:CC) (t0 t1:V) (q:V->Hp->Prop):Prop:=let h:Hp:=List.replicate 2 (0,.none)
 jS 0 t0 h fun v1 h=>jS 1 t1 h fun v2 h=>bnd (ldA h 3 v1) fun v3=>cal C.p h (.fn F.cJ [] []) [v3,(I 100000)] fun v4 h=>ext v4 0 fun v5=>ext v4 1 fun v6=>ext v4 2 fun v7=>bnd (ldA h 3 v2) fun v8=>cal C.p h (.fn F.cJ [] []) [v8,(I 100000)] fun v9 h=>ext v9 0 fun v10=>ext v9 1 fun v11=>ext v9 2 fun v12=>bnd (faV 2 v1) fun v13=>bnd (ld1 h v13) fun v14=>cal C.p h (.fn F.iB [] []) [v14] fun v15 h=>ext v15 0 fun v16=>ext v15 1 fun v17=>bnd (faV 2 v2) fun v18=>bnd (ld1 h v18) fun v19=>cal C.p h (.fn F.iB [] []) [v19] fun v20 h=>ext v20 0 fun v21=>ext v20 1 fun v22=>bnd (unV .not v7) fun v23=>gd v23 false h (fun q=>q v12 h) fun v24 h=>gd v23 false h (fun q=>bnd (unV .not v24) fun v=>q v h) fun v25 h=>bnd (iH v23 (B true) v25) fun v26=>gd v26 false h (fun q=>q v17 h) fun v27 h=>gd v26 false h (fun q=>bnd (unV .not v27) fun v=>q v h) fun v28 h=>bnd (iH v26 (B true) v28) fun v29=>gd v29 false h (fun q=>q v22 h) fun v30 h=>gd v29 false h (fun q=>bnd (unV .not v30) fun v=>q v h) fun v31 h=>bnd (iH v29 (B true) v31) fun v32=>gd v32 false h (fun q=>q v16 h) fun v33 h=>gd v32 false h (fun q=>bnd (biI .gtr v33 (I 10000)) fun v=>q v h) fun v34 h=>bnd (iH v32 (B true) v34) fun v35=>gd v35 false h (fun q=>q v21 h) fun v36 h=>gd v35 false h (fun q=>bnd (biI .gtr v36 (I 10000)) fun v=>q v h) fun v37 h=>bnd (iH v35 (B true) v37) fun v38=>cnd v38 (q (.tup [(I 0),(B false)]) h) (bnd (biI .leq v11 (I 0)) fun v39=>jn (fun l40 h=>bnd (biI .leq (ge l40 2) (I 0)) fun v42=>cnd v42 (q (.tup [(I 0),(B false)]) h) (bnd (biI .lss (ge l40 0) (I 0)) fun v43=>jn (fun l44 h=>bnd (biI .lss (ge l40 1) (I 0)) fun v46=>jn (fun l47 h=>bnd (biI .mul (ge l40 0) v21) fun v49=>bnd (biI .mul (ge l44 0) v16) fun v50=>cal C.p h (.fn F.eH [] []) [v49,v50] fun v51 h=>bnd (biI .mul (ge l40 1) v21) fun v52=>bnd (biI .mul (ge l47 0) v16) fun v53=>cal C.p h (.fn F.eH [] []) [v52,v53] fun v54 h=>bnd (biI .eql v51 v54) fun v55=>q (.tup [v51,v55]) h) fun q48=>cnd v46 (q48 [(ge l40 3)] h) (q48 [(ge l40 2)] h)) fun q45=>cnd v43 (q45 [(ge l40 2)] h) (q45 [(ge l40 3)] h))) fun q41=>cnd v39 (bnd (unV .neg v6) fun v56=>bnd (unV .neg v5) fun v57=>bnd (unV .neg v11) fun v58=>bnd (unV .neg v10) fun v59=>q41 [v56,v57,v58,v59] h) (q41 [v5,v6,v10,v11] h))
def oi:Ann:=(.n .x (.n (.r [.slot 0,.slot 1]) .o .o) (.n .x .o (.n .x .o (.n .x .o (.n .x .o (.n .x .o (.n .x (.n .x .o (.n (.j [6,7,9,10] [12,14]) .o .o)) (.n .x .o (.n .x .o (.n .x (.n .x .o (.n (.j [16] [6,7,10,12,14,17]) .o .o)) (.n .x (.n .x .o (.n (.j [17] [6,7,12,14,16]) .o .o)) .o)))))))))))
attribute [local irreducible] bnd gd cal cnd ext dw By stD alV alD jS jn lp exK mkS apV cai CQ in
theorem zd (C:CC) (t0:V) (t1:V) (q:V->Hp->Prop):fnD Y C Go.Proofs.Tryz.f108 2 oi [t0,t1] q=dV C t0 t1 q:=by
 repeat' (first | (refine Uv rfl fun _=>?_) | (refine YS rfl fun _ _=>?_) | (refine Us rfl fun _ _=>?_) | (refine Ur rfl ?_ ?_) | (refine Ul rfl fun _=>?_) | (refine PZ rfl fun _ _=>?_) | (refine TZ rfl fun _ _=>?_) | (refine Uy rfl fun _ _=>?_) | (refine Rk rfl fun _ _=>?_) | (refine YK rfl (fun _ _=>?_) fun _=>?_) | (refine YA rfl (fun _ _ _=>?_) fun _ _ _=>?_) | (refine Uo rfl (fun _ _=>?_) ?_) | (refine Ua rfl fun _ _=>?_) | (refine Uw rfl fun _ _=>?_) | (refine Ut rfl fun _ _=>?_) | (refine PX rfl fun _ _=>?_) | (refine Uz rfl fun _ _=>?_) | (refine PE rfl fun _=>?_) | exact rfl | (refine P2 rfl ?_))
theorem zb:okB Go.Proofs.Tryz.prog Go.Proofs.Tryz.f108 oi=true:=aJ
theorem zc {t0 t1 v:V} (h:dV (CX Y) t0 t1 (out v)):CP Y F.dV [t0,t1] v:=
 CP.of (fn:=Go.Proofs.Tryz.f108) (m:=2) (a:=oi) rfl (fun _=>rfl) Go.Proofs.Tryz.func108 zb (by rw [zd];exact h)
def eH (C:CC) (t0 t1:V) (q:kQ):Prop:=let h:Hp:=.replicate 0 (0,.none)
 cIQ .lss t0 (I 0) (bnd (unV .neg t0) fun v2=>bIQ .add v2 t1 fun v3=>bIQ .sub v3 (I 1) fun v4=>bIQ .quo v4 t1 fun v5=>bnd (unV .neg v5) fun v6=>q v6 h) (bIQ .quo t0 t1 fun v7=>q v7 h)
theorem ze {t0 t1 v:V} (h:eH (CX Y) t0 t1 (out v)):CP Y F.eH [t0,t1] v:=CPo 0 .o Tryz.func145 h
def iR (C:CC) (p9 p10:V):bj:=fun l h q=>jn (fun l1 h=>bnd (biI .mul (ge l 0) (I 2)) fun v3=>q .normal [v3] h) fun q2=>bnd (ldA h 3 p9) fun v4=>cal C.p h (.fn F.cM [] []) [v4,(ge l 0)] fun v5 h=>ext v5 0 fun v6=>ext v5 1 fun v7=>bnd (ldA h 3 p10) fun v8=>cal C.p h (.fn F.cM [] []) [v8,(ge l 0)] fun v9 h=>ext v9 0 fun v10=>ext v9 1 fun v11=>cal C.p h (.fn F.bq [] []) [v11] fun v12 h=>bnd (biI .leq v12 (I 0)) fun v13=>jn (fun l14 h=>cal C.p h (.fn F.bq [] []) [(ge l14 2)] fun v16 h=>bnd (biI .leq v16 (I 0)) fun v17=>cnd v17 (q2 [] h) (cal C.p h (.fn F.bq [] []) [(ge l14 0)] fun v18 h=>bnd (biI .lss v18 (I 0)) fun v19=>jn (fun l20 h=>cal C.p h (.fn F.bq [] []) [(ge l14 1)] fun v22 h=>bnd (biI .lss v22 (I 0)) fun v23=>jn (fun l24 h=>bnd (faV 2 p10) fun v26=>bnd (ld1 h v26) fun v27=>cal C.p h (.fn F.aH [] []) [(ge l14 0),v27] fun v28 h=>bnd (faV 2 p9) fun v29=>bnd (ld1 h v29) fun v30=>cal C.p h (.fn F.aH [] []) [(ge l20 0),v30] fun v31 h=>cal C.p h (.fn F.aQ [] []) [v28,v31] fun v32 h=>ext v32 0 fun v33=>ext v32 1 fun v34=>ext v32 2 fun v35=>bnd (faV 2 p10) fun v36=>bnd (ld1 h v36) fun v37=>cal C.p h (.fn F.aH [] []) [(ge l14 1),v37] fun v38 h=>bnd (faV 2 p9) fun v39=>bnd (ld1 h v39) fun v40=>cal C.p h (.fn F.aH [] []) [(ge l24 0),v40] fun v41 h=>cal C.p h (.fn F.aQ [] []) [v38,v41] fun v42 h=>ext v42 0 fun v43=>ext v42 1 fun v44=>ext v42 2 fun v45=>bnd (biS .eql v33 v43) fun v46=>cnd v46 (q .ret [v33] h) (q2 [] h)) fun q25=>cnd v23 (q25 [(ge l14 3)] h) (q25 [(ge l14 2)] h)) fun q21=>cnd v19 (q21 [(ge l14 2)] h) (q21 [(ge l14 3)] h))) fun q15=>cnd v13 (cal C.p h (.fn F.iy [] []) [v7] fun v47 h=>cal C.p h (.fn F.iy [] []) [v6] fun v48 h=>cal C.p h (.fn F.iy [] []) [v11] fun v49 h=>cal C.p h (.fn F.iy [] []) [v10] fun v50 h=>q15 [v47,v48,v49,v50] h) (q15 [v6,v7,v10,v11] h)
def md (C:CC) (t0 t1 t2:V) (q:V->Hp->Prop):Prop:=let h:Hp:=List.replicate 3 (0,.none)
 cal C.p h (.fn F.mb [] []) [t1,t2] fun v1 h=>ext v1 0 fun v2=>ext v1 1 fun v3=>alV 0 [.d (.str []),.d (.str [])] h fun v4 h=>stD h 2 v4 v2 fun _ h=>cnd v3 (bnd (ldA h 2 v4) fun v6=>cal C.p h (.fn F.ik [] []) [v6] fun v7 h=>q v7 h) (cal C.p h (.fn F.fG [] []) [t0,t1] fun v8 h=>cal C.p h (.fn F.fG [] []) [t0,t2] fun v9 h=>alV 1 [.d (.pl (.slice none 0 0)),.d (.pl (.slice none 0 0)),.d (.str [])] h fun v10 h=>alV 2 [.d (.pl (.slice none 0 0)),.d (.pl (.slice none 0 0)),.d (.str [])] h fun v11 h=>stD h 3 v10 v8 fun _ h=>stD h 3 v11 v9 fun _ h=>bnd (ldA h 3 v10) fun v14=>bnd (ldA h 3 v11) fun v15=>cal C.p h (.fn F.dV [] []) [v14,v15] fun v16 h=>ext v16 0 fun v17=>ext v16 1 fun v18=>cnd v18 (cal C.p h (.fn F.dG [] []) [v17] fun v19 h=>q v19 h) (lp (iR C v10 v11) [] h [(I 64)] h (exK [(.ret,fun l20 h=>q (ge l20 0) h)])))
def rI:Ann:=(.n .x .o (.n .x (.n .x (.n (.r [.o,.slot 0]) .o .o) .o) (.n .x (.n (.r [.o,.o,.slot 1,.slot 2]) .o .o) (.n .x .o (.n .x .o (.n .x (.n (.l [13] [9,10] [(.ret,[6],[])] []) (.n .x (.n (.j [] [9,10,13]) (.n .x .o (.n .x .o (.n .x (.n .x .o (.n (.j [14,15,16,17] [9,10,13]) .o .o)) (.n .x .o (.n .x .o (.n .x (.n .x .o (.n (.j [18] [9,10,13,14,15,17,19]) .o .o)) (.n .x (.n .x .o (.n (.j [19] [9,10,13,14,15,18]) .o .o)) .o))))))) .o) .o) .o) .o))))))
theorem EW (C:CC) (t0:V) (t1:V) (t2:V) (q:V->Hp->Prop):fnD Y C Go.Proofs.Tryz.f70 3 rI [t0,t1,t2] q=md C t0 t1 t2 q:=by
 kernel_rfl
theorem EU:okB Go.Proofs.Tryz.prog Go.Proofs.Tryz.f70 rI=true:=aJ
theorem EV {t0 t1 t2 v:V} (h:md (CX Y) t0 t1 t2 (out v)):CP Y F.md [t0,t1,t2] v:=
 CP.of (fn:=Go.Proofs.Tryz.f70) (m:=3) (a:=rI) rfl (fun _=>rfl) Go.Proofs.Tryz.func70 EU (by rw [EW];exact h)
def fu (C:CC) (t0 t1 t2:V) (q:kQ):Prop:=let h:Hp:=.replicate 0 (0,.none)
 dw 2 [.pl (.slice none 0 0)] [(0,t1),(1,t2)] h fun v1 h=>clQ C h F.gU [t0,v1] fun v2 h=>nzQ v2 (q v2 h) (clQ C h F.fG [t0,t2] fun v4 h=>bnd (fiV 0 1 true v4) fun v5=>blQ v5 fun v6=>cIQ .eql v6 (I 0) (q (I 17) h) (q (I 0) h))
theorem tJ {t0 t1 t2 v:V} (h:fu (CX Y) t0 t1 t2 (out v)):CP Y F.fu [t0,t1,t2] v:=CPo 0 .o Tryz.func67 h
def nz (C:CC) (t0 t1 t2:V) (q:kQ):Prop:=let h:Hp:=.replicate 0 (0,.none)
 clQ C h F.fu [t0,t1,t2] fun v1 h=>nzQ v1 (q (.tup [(.d (.str [])),v1]) h) (blQ t0 fun v3=>dw 2 [.pl (.slice none 0 0)] [(0,t1),(1,t2)] h fun v4 h=>clQ C h F.bN [(I 2)] fun v5 h=>clQ C h F.bN [(I 1)] fun v6 h=>dw 2 [.str [],.str []] [(0,v5),(1,v6)] h fun v7 h=>clQ C h F.kw [v3,v4,v7] fun v8 h=>blQ t0 fun v9=>dw 1 [.pl (.slice none 0 0)] [(0,t2)] h fun v10 h=>clQ C h F.bN [(I 2)] fun v11 h=>dw 1 [.str [],.str []] [(0,v11)] h fun v12 h=>clQ C h F.kw [v9,v10,v12] fun v13 h=>clQ C h F.md [t0,v8,v13] fun v14 h=>q (.tup [v14,(I 0)]) h)
theorem EZ {t0 t1 t2 v:V} (h:nz (CX Y) t0 t1 t2 (out v)):CP Y F.nz [t0,t1,t2] v:=CPo 0 .o Tryz.func25 h
end Go.Vm
namespace Go.Vm
open Go Go.Am Go.Proofs
def dJ (C:CC) (p0 p1:V):bj:=fun l h q=>blQ p0 fun v1=>cIQ .lss (ge l 0) v1 (bxQ h 1 p0 (ge l 0) fun v3=>b1Q h v3 fun v4=>bxQ h 1 p1 (ge l 0) fun v5=>b1Q h v5 fun v6=>cIQ .neq v4 v6 (q .ret [(B false)] h) (bIQ .add (ge l 0) (I 1) fun v8=>q .normal [v8] h)) (q (.exit 0) [] h)
def cw (C:CC) (t0 t1:V) (q:kQ):Prop:=let h:Hp:=.replicate 0 (0,.none)
 blQ t0 fun v1=>blQ t1 fun v2=>cIQ .neq v1 v2 (q (B false) h) (lp (dJ C t0 t1) [] h [(I 0)] h (exK [((.exit 0),fun l4 h=>q (B true) h), (.ret,fun l4 h=>q (ge l4 0) h)]))
theorem qk {t0 t1 v:V} (h:cw (CX Y) t0 t1 (out v)):CP Y F.cw [t0,t1] v:=CPo 0 (.n .x .o (.n .x .o (.n .x (.n .x .o (.n .x (.n (.l [5] [0,1] [((.exit 0),[],[]),(.ret,[4],[])] []) .o .o) .o)) .o))) Tryz.func60 h
def dM (C:CC) (t0:V) (q:kQ):Prop:=let h:Hp:=.replicate 0 (0,.none)
 dw 3 [.int .i64 0] [(0,(I 2)),(1,(I 3)),(2,(I 5))] h fun v1 h=>dw 4 [.int .i64 0] [(0,(I 2)),(1,(I 3)),(2,(I 5)),(3,(I 7))] h fun v2 h=>dw 2 [.int .i64 0] [(0,(I 2)),(1,(I 3))] h fun v3 h=>dw 3 [.int .i64 0] [(0,(I 2)),(1,(I 3)),(2,(I 7))] h fun v4 h=>dw 3 [.int .i64 0] [(0,(I 2)),(1,(I 5)),(2,(I 7))] h fun v5 h=>dw 3 [.int .i64 0] [(0,(I 3)),(1,(I 5)),(2,(I 7))] h fun v6 h=>dw 4 [.int .i64 0] [(0,(I 2)),(1,(I 3)),(2,(I 5)),(3,(I 11))] h fun v7 h=>dw 1 [.int .i64 0] [(0,(I 2))] h fun v8 h=>dw 4 [.int .i64 0] [(0,(I 2)),(1,(I 3)),(2,(I 7)),(3,(I 13))] h fun v9 h=>dw 4 [.int .i64 0] [(0,(I 3)),(1,(I 5)),(2,(I 7)),(3,(I 13))] h fun v10 h=>dw 10 [.pl (.slice none 0 0)] [(0,v1),(1,v2),(2,v3),(3,v4),(4,v5),(5,v6),(6,v7),(7,v8),(8,v9),(9,v10)] h fun v11 h=>bnd (cvI .i64 t0) fun v12=>blQ v11 fun v13=>bIQ .rem v12 v13 fun v14=>bxQ h 1 v11 v14 fun v15=>b1Q h v15 fun v16=>q v16 h
def j8:Ann:=.o
theorem sU (C:CC) (t0:V) (q:V->Hp->Prop):fnD Y C Go.Proofs.Tryz.f14 0 j8 [t0] q=dM C t0 q:=by
 kernel_rfl
theorem sR:okB Go.Proofs.Tryz.prog Go.Proofs.Tryz.f14 j8=true:=aJ
theorem sS {t0 v:V} (h:dM (CX Y) t0 (out v)):CP Y F.dM [t0] v:=
 CP.of (fn:=Go.Proofs.Tryz.f14) (m:=0) (a:=j8) rfl (fun _=>rfl) Go.Proofs.Tryz.func14 sR (by rw [sU];exact h)
def fH (C:CC) (p0 p3:V):bj:=fun l h q=>blQ p0 fun v1=>bIQ .lss (ge l 1) v1 fun v2=>gqQ v2 true h (ge l 1) fun v3 h=>gbQ v2 true h (biI .lss v3 (I 4)) fun v4 h=>bpQ v2 v4 (B false) fun v5=>cnd v5 (bnd (ixP 4 1 p3 (ge l 1)) fun v6=>b1Q h v6 fun v7=>bnd (cvI .i64 v7) fun v8=>bIQ .rem v8 (I 10) fun v9=>a1Q 1 (ge l 0) v9 h fun v11 h=>bIQ .add (ge l 1) (I 1) fun v12=>q .normal [v11,v12] h) (q (.exit 0) [(ge l 0)] h)
def cV (C:CC) (t0 t1:V) (q:kQ):Prop:=let h:Hp:=.replicate 2 (0,.none)
 jS 0 t1 h fun v1 h=>lp (fH C t0 v1) [] h [nSQ,(I 0)] h (exK [((.exit 0),fun l2 h=>q (ge l2 0) h)])
theorem qI {t0 t1 v:V} (h:cV (CX Y) t0 t1 (out v)):CP Y F.cV [t0,t1] v:=CPo 2 (.n .x (.n (.r [.slot 0]) .o .o) (.n .x .o (.n .x (.n .x .o (.n .x (.n (.l [5,6] [0,3] [((.exit 0),[5],[])] []) (.n .x .o (.n .x (.n .x (.n (.r [.o,.slot 1]) .o .o) .o) .o)) .o) .o)) .o))) Tryz.func15 h
def dR (C:CC) (t0 t1:V) (q:kQ):Prop:=let h:Hp:=.replicate 0 (0,.none)
 clQ C h F.cw [t0,t1] fun v1 h=>q v1 h
theorem qH {t0 t1 v:V} (h:dR (CX Y) t0 t1 (out v)):CP Y F.dR [t0,t1] v:=CPo 0 .o Tryz.func19 h
def bB (C:CC) (t0 t1:V) (q:kQ):Prop:=let h:Hp:=.replicate 2 (0,.none)
 alV 0 [.d (.str []),.d (.str [])] h fun v1 h=>clQ C h F.kN [t0,t1] fun v2 h=>e2Q v2 fun v3 v4=>alV 1 [.d (.str []),.d (.str [])] h fun v5 h=>stD h 2 v5 v3 fun _ h=>bnd (ldA h 2 v5) fun v7=>stD h 2 v1 v7 fun _ h=>bnd (ldA h 2 v1) fun v9=>q v9 h
theorem sQ {t0 t1 v:V} (h:bB (CX Y) t0 t1 (out v)):CP Y F.bB [t0,t1] v:=CPo 2 (.n .x (.n (.r [.slot 0]) .o .o) (.n .x (.n (.r [.o,.slot 1]) .o .o) .o)) Tryz.func31 h
def bW (C:CC) (q:kQ):Prop:=let h:Hp:=.replicate 2 (0,.none)
 dw 3 [.int .i64 0] [(0,(I 2)),(1,(I 3)),(2,(I 5))] h fun v1 h=>dw 3 [.int .i64 0] [(0,(I (-1))),(1,(I 1)),(2,(I 0))] h fun v2 h=>dw 1 [.pl (.slice none 0 0)] [(0,v2)] h fun v3 h=>clQ C h F.dD [v1,(I 12),v3] fun v4 h=>e2Q v4 fun v5 v6=>dw 3 [.int .i64 0] [(0,(I (-1))),(1,(I 1)),(2,(I 0))] h fun v7 h=>clQ C h F.fD [v1,v7,(I 60)] fun v8 h=>e2Q v8 fun v9 v10=>dw 3 [.int .i64 0] [(0,(I (-1))),(1,(I 1)),(2,(I 0))] h fun v11 h=>dw 3 [.int .i64 0] [(0,(I (-2))),(1,(I 2)),(2,(I 0))] h fun v12 h=>dw 2 [.pl (.slice none 0 0)] [(0,v11),(1,v12)] h fun v13 h=>clQ C h F.b6 [v1,(I 4),v13] fun v14 h=>e3Q v14 fun v15 v16 v17=>alV 0 [.d (.int .i64 0),.d (.int .i64 0),.d (.int .i64 0)] h fun v18 h=>stD h 3 v18 v16 fun _ h=>dw 3 [.int .i64 0] [(0,(I (-1))),(1,(I 1)),(2,(I 0))] h fun v20 h=>dw 3 [.int .i64 0] [(0,(I (-2))),(1,(I 0)),(2,(I 1))] h fun v21 h=>dw 3 [.int .i64 0] [(0,(I (-3))),(1,(I 1)),(2,(I 1))] h fun v22 h=>dw 3 [.pl (.slice none 0 0)] [(0,v20),(1,v21),(2,v22)] h fun v23 h=>clQ C h F.b6 [v1,(I 12),v23] fun v24 h=>e3Q v24 fun v25 v26 v27=>alV 1 [.d (.int .i64 0),.d (.int .i64 0),.d (.int .i64 0)] h fun v28 h=>stD h 3 v28 v26 fun _ h=>bIQ .eql v6 (I 0) fun v30=>gqQ v30 true h v5 fun v31 h=>gbQ v30 true h (bC v31) fun v32 h=>gbQ v30 true h (biI .eql v32 (I 1)) fun v33 h=>bpQ v30 v33 (B false) fun v34=>gqQ v34 true h v5 fun v35 h=>gbQ v34 true h (ixV h 1 v35 (I 0)) fun v36 h=>gbQ v34 true h (ld1 h v36) fun v37 h=>gd v34 true h (fun q=>clQ C h F.bB [(I 19),(I 12)] q) fun v38 h=>gd v34 true h (fun q=>clQ C h F.bB [(I (-1)),(I 1)] q) fun v39 h=>gd v34 true h (fun q=>clQ C h F.bB [(I 0),(I 1)] q) fun v40 h=>gd v34 true h (fun q=>dw 3 [.str [],.str []] [(0,v38),(1,v39),(2,v40)] h q) fun v41 h=>gd v34 true h (fun q=>clQ C h F.kz [v37,v41] q) fun v42 h=>bpQ v34 v42 (B false) fun v43=>gqQ v43 true h v10 fun v44 h=>gbQ v43 true h (biI .eql v44 (I 0)) fun v45 h=>bpQ v43 v45 (B false) fun v46=>gqQ v46 true h v9 fun v47 h=>gd v46 true h (fun q=>dw 9 [.int .i64 0] [(0,(I 1)),(1,(I 2)),(2,(I 3)),(3,(I 5)),(4,(I 7)),(5,(I 12)),(6,(I 29)),(7,(I 41)),(8,(I 53))] h q) fun v48 h=>gd v46 true h (fun q=>clQ C h F.dR [v47,v48] q) fun v49 h=>bpQ v46 v49 (B false) fun v50=>gqQ v50 true h v17 fun v51 h=>gbQ v50 true h (biI .eql v51 (I 0)) fun v52 h=>bpQ v50 v52 (B false) fun v53=>gqQ v53 true h v15 fun v54 h=>gbQ v53 true h (unV .not v54) fun v55 h=>bpQ v53 v55 (B false) fun v56=>gbQ v56 true h (ldA h 3 v18) fun v57 h=>gbQ v56 true h (bld [(0,1),(1,1),(2,1)] [.int .i64 0,.int .i64 0,.int .i64 0] [(0,(I 0)),(1,(I 0)),(2,(I 1))]) fun v58 h=>gbQ v56 true h (biA [.int .i64 0,.int .i64 0,.int .i64 0] .eql v57 v58) fun v59 h=>bpQ v56 v59 (B false) fun v60=>gqQ v60 true h v27 fun v61 h=>gbQ v60 true h (biI .eql v61 (I 0)) fun v62 h=>bpQ v60 v62 (B false) fun v63=>gqQ v63 true h v25 fun v64 h=>bpQ v63 v64 (B false) fun v65=>q v65 h
def kC:Ann:=(.n .x .o (.n .x .o (.n .x .o (.n .x .o (.n .x (.n (.r [.o,.o,.o,.o,.slot 0]) .o .o) (.n .x (.n (.r [.o,.o,.o,.o,.o,.slot 1]) .o .o) .o))))))
theorem tO (C:CC) (q:V->Hp->Prop):fnD Y C Go.Proofs.Tryz.f13 2 kC [] q=bW C q:=by
 kernel_rfl
theorem tM:okB Go.Proofs.Tryz.prog Go.Proofs.Tryz.f13 kC=true:=aJ
theorem tN {v:V} (h:bW (CX Y) (out v)):CP Y F.bW [] v:=
 CP.of (fn:=Go.Proofs.Tryz.f13) (m:=2) (a:=kC) rfl (fun _=>rfl) Go.Proofs.Tryz.func13 tM (by rw [tO];exact h)
def fS (C:CC) (t0 t1:V) (q:kQ):Prop:=let h:Hp:=.replicate 0 (0,.none)
 clQ C h F.ky [t0] fun v1 h=>e2Q v1 fun v2 v3=>clQ C h F.bB [(I 1),t1] fun v4 h=>clQ C h F.fv [t0,v2,v4] fun v5 h=>e2Q v5 fun v6 v7=>q v6 h
theorem uR {t0 t1 v:V} (h:fS (CX Y) t0 t1 (out v)):CP Y F.fS [t0,t1] v:=CPo 0 .o Tryz.func26 h
def fw (C:CC) (t0 t1 t2 t3:V) (q:kQ):Prop:=let h:Hp:=.replicate 0 (0,.none)
 clQ C h F.fS [t0,t1] fun v1 h=>clQ C h F.bB [t2,(I 1)] fun v2 h=>clQ C h F.fv [t0,v1,v2] fun v3 h=>e2Q v3 fun v4 v5=>clQ C h F.oJ [t0,t3] fun v6 h=>e2Q v6 fun v7 v8=>clQ C h F.pC [t0,v4,v7] fun v9 h=>e2Q v9 fun v10 v11=>q v10 h
theorem tL {t0 t1 t2 t3 v:V} (h:fw (CX Y) t0 t1 t2 t3 (out v)):CP Y F.fw [t0,t1,t2,t3] v:=CPo 0 .o Tryz.func46 h
end Go.Vm
namespace Go.Vm
open Go Go.Am Go.Proofs
def ku (C:CC) (p0 p1 p45 p46:V):bj:=fun l h q=>cIQ .lss (ge l 1) p46 (bxQ h 1 p45 (ge l 1) fun v2=>b1Q h v2 fun v3=>clQ C h F.nh [p0,p1,v3] fun v4 h=>e2Q v4 fun v5 v6=>nzQ v6 (q .ret [nSQ,v6] h) (clQ C h F.oJ [p0,v3] fun v8 h=>e2Q v8 fun v9 v10=>nzQ v10 (q .ret [nSQ,v10] h) (bxQ h 1 p1 (I 0) fun v12=>b1Q h v12 fun v13=>clQ C h F.dG [v5] fun v14 h=>clQ C h F.jF [p0,v13,v14,v9] fun v15 h=>e2Q v15 fun v16 v17=>nzQ v17 (q .ret [nSQ,v17] h) (dw 1 [.pl (.slice none 0 0)] [(0,v16)] h fun v19 h=>apV false 0 1 24 (ge l 0) v19 h fun v20 h=>bIQ .add (ge l 1) (I 1) fun v21=>q .normal [v20,v21] h)))) (q (.exit 0) [(ge l 0)] h)
def il (C:CC) (t0 t1 t2:V) (q:kQ):Prop:=let h:Hp:=.replicate 1 (0,.none)
 clQ C h F.dp [t0] fun v1 h=>nzQ v1 (q (.tup [nSQ,v1]) h) (clQ C h F.mA [t0,t1] fun v3 h=>nzQ v3 (q (.tup [nSQ,v3]) h) (bxQ h 1 t1 (I 0) fun v5=>b1Q h v5 fun v6=>bIQ .lss v6 (I 1) fun v7=>gqQ v7 false h t1 fun v8 h=>gbQ v7 false h (ixV h 1 v8 (I 0)) fun v9 h=>gbQ v7 false h (ld1 h v9) fun v10 h=>gbQ v7 false h (biI .gtr v10 (I 10000)) fun v11 h=>bpQ v7 (B true) v11 fun v12=>cnd v12 (q (.tup [nSQ,(I 3)]) h) (clQ C h F.cD [t0,t2] fun v13 h=>nzQ v13 (q (.tup [nSQ,v13]) h) (blQ t2 fun v15=>lp (ku C t0 t1 t2 v15) [] h [nSQ,(I 0)] h (exK [((.exit 0),fun l16 h=>q (.tup [(ge l16 0),(I 0)]) h), (.ret,fun l16 h=>q (.tup [(ge l16 0),(ge l16 1)]) h)])))))
def nK:Ann:=(.n .x .o (.n .x .o (.n .x .o (.n .x .o (.n .x .o (.n .x .o (.n .x (.n .x .o (.n .x (.n (.l [11,47] [0,1,45,46] [((.exit 0),[11],[]),(.ret,[6,7],[])] []) (.n .x .o (.n .x .o (.n .x (.n .x (.n .x .o (.n .x .o (.n .x .o (.n .x .o (.n .x .o (.n .x .o (.n .x .o (.n (.r [.o,.slot 0]) .o .o)))))))) .o) .o))) .o) .o)) .o)))))))
theorem yf (C:CC) (t0:V) (t1:V) (t2:V) (q:V->Hp->Prop):fnD Y C Go.Proofs.Tryz.f43 1 nK [t0,t1,t2] q=il C t0 t1 t2 q:=by
 kernel_rfl
theorem yd:okB Go.Proofs.Tryz.prog Go.Proofs.Tryz.f43 nK=true:=aJ
theorem ye {t0 t1 t2 v:V} (h:il (CX Y) t0 t1 t2 (out v)):CP Y F.il [t0,t1,t2] v:=
 CP.of (fn:=Go.Proofs.Tryz.f43) (m:=1) (a:=nK) rfl (fun _=>rfl) Go.Proofs.Tryz.func43 yd (by rw [yf];exact h)
def eO (C:CC) (t0:V) (q:kQ):Prop:=let h:Hp:=.replicate 1 (0,.none)
 jS 0 t0 h fun v1 h=>bfQ 1 v1 fun v2=>b1Q h v2 fun v3=>blQ v3 fun v4=>bIQ .leq v4 (I 6) fun v5=>q v5 h
theorem uT {t0 v:V} (h:eO (CX Y) t0 (out v)):CP Y F.eO [t0] v:=CPo 1 (.n .x (.n (.r [.slot 0]) .o .o) .o) Tryz.func35 h
def fk (C:CC) (p0 p1:V):bj:=fun l h q=>blQ p0 fun v1=>cIQ .lss (ge l 0) v1 (bxQ h 1 p0 (ge l 0) fun v3=>b1Q h v3 fun v4=>bxQ h 1 p1 (ge l 0) fun v5=>b1Q h v5 fun v6=>clQ C h F.kz [v4,v6] fun v7 h=>bnd (unV .not v7) fun v8=>cnd v8 (q .ret [(B false)] h) (bIQ .add (ge l 0) (I 1) fun v9=>q .normal [v9] h)) (q (.exit 0) [] h)
def dF (C:CC) (t0 t1:V) (q:kQ):Prop:=let h:Hp:=.replicate 0 (0,.none)
 blQ t0 fun v1=>blQ t1 fun v2=>cIQ .neq v1 v2 (q (B false) h) (lp (fk C t0 t1) [] h [(I 0)] h (exK [((.exit 0),fun l4 h=>q (B true) h), (.ret,fun l4 h=>q (ge l4 0) h)]))
theorem ql {t0 t1 v:V} (h:dF (CX Y) t0 t1 (out v)):CP Y F.dF [t0,t1] v:=CPo 0 (.n .x .o (.n .x .o (.n .x (.n .x .o (.n .x (.n (.l [5] [0,1] [((.exit 0),[],[]),(.ret,[4],[])] []) .o .o) .o)) .o))) Tryz.func47 h
end Go.Vm
namespace Go.Vm
open Go Go.Am Go.Proofs
end Go.Vm
namespace Go.Vm
open Go Go.Am Go.Proofs
end Go.Vm
namespace Go.Vm
open Go Go.Am Go.Proofs
def j6 (C:CC) (t0 t1:V) (q:kQ):Prop:=let h:Hp:=.replicate 0 (0,.none)
 clQ C h F.fP [t0,t1] fun v1 h=>nzQ v1 (q (.tup [nSQ,v1]) h) (clQ C h F.gY [t0,t1] fun v3 h=>e2Q v3 fun v4 v5=>q (.tup [v4,v5]) h)
theorem zA {t0 t1 v:V} (h:j6 (CX Y) t0 t1 (out v)):CP Y F.j6 [t0,t1] v:=CPo 0 .o Tryz.func22 h
end Go.Vm
namespace Go.Vm
open Go Go.Am Go.Proofs
def iG (C:CC) (p1 p4:V):bj:=fun l h q=>bfQ 1 p1 fun v1=>b1Q h v1 fun v2=>blQ v2 fun v3=>bIQ .lss (ge l 1) v3 fun v4=>gqQ v4 true h (ge l 1) fun v5 h=>gbQ v4 true h (biI .lss v5 (I 6)) fun v6 h=>bpQ v4 v6 (B false) fun v7=>cnd v7 (bfQ 1 p1 fun v8=>b1Q h v8 fun v9=>bxQ h 4 v9 (ge l 1) fun v10=>bnd (ldA h 4 v10) fun v11=>clQ C h F.cV [p4,v11] fun v12 h=>dw 1 [.pl (.slice none 0 0)] [(0,v12)] h fun v13 h=>apV false 1 1 24 (ge l 0) v13 h fun v14 h=>bIQ .add (ge l 1) (I 1) fun v15=>q .normal [v14,v15] h) (q (.exit 0) [(ge l 0)] h)
def eN (C:CC) (t0:V) (q:kQ):Prop:=let h:Hp:=.replicate 2 (0,.none)
 jS 0 t0 h fun v1 h=>bfQ 0 v1 fun v2=>b1Q h v2 fun v3=>clQ C h F.dM [v3] fun v4 h=>lp (iG C v1 v4) [] h [nSQ,(I 0)] h (exK [((.exit 0),fun l5 h=>q (.tup [v4,(ge l5 0)]) h)])
theorem uS {t0 v:V} (h:eN (CX Y) t0 (out v)):CP Y F.eN [t0] v:=CPo 2 (.n .x (.n (.r [.slot 0]) .o .o) (.n .x .o (.n .x .o (.n .x (.n .x .o (.n .x (.n (.l [5,6] [1,4] [((.exit 0),[5],[4])] []) (.n .x .o (.n .x (.n .x (.n (.r [.o,.o,.slot 1]) .o .o) .o) .o)) .o) .o)) .o)))) Tryz.func29 h
end Go.Vm
namespace Go.Vm
open Go Go.Am Go.Proofs
end Go.Vm
namespace Go.Vm
open Go Go.Am Go.Proofs
def aD (C:CC) (p1 p5 p6:V):bj:=fun l h q=>blQ p6 fun v1=>bIQ .lss (ge l 2) v1 fun v2=>gqQ v2 true h (ge l 0) fun v3 h=>gbQ v2 true h (biI .eql v3 (I 0)) fun v4 h=>bpQ v2 v4 (B false) fun v5=>cnd v5 (jn (fun l6 h=>bIQ .add (ge l 2) (I 1) fun v8=>q .normal [(ge l6 0),(ge l6 1),v8] h) fun q7=>bxQ h 1 p6 (ge l 2) fun v9=>b1Q h v9 fun v10=>clQ C h F.nh [p5,p1,v10] fun v11 h=>e2Q v11 fun v12 v13=>bIQ .eql v13 (I 0) fun v14=>jn (fun l15 h=>q7 [v13,(ge l15 0)] h) fun q16=>cnd v14 (bxQ h 1 p1 (I 0) fun v17=>b1Q h v17 fun v18=>bxQ h 1 p6 (ge l 2) fun v19=>b1Q h v19 fun v20=>clQ C h F.fw [p5,v18,v12,v20] fun v21 h=>dw 1 [.pl (.slice none 0 0)] [(0,v21)] h fun v22 h=>apV false 1 1 24 (ge l 1) v22 h fun v23 h=>q16 [v23] h) (q16 [(ge l 1)] h)) (q (.exit 0) [(ge l 0),(ge l 1)] h)
def bz (C:CC) (t0 t1:V) (q:kQ):Prop:=let h:Hp:=.replicate 2 (0,.none)
 jS 0 t0 h fun v1 h=>clQ C h F.bW [] fun v2 h=>bnd (unV .not v2) fun v3=>gbQ v3 false h (ldA h 2 v1) fun v4 h=>gd v3 false h (fun q=>clQ C h F.eO [v4] q) fun v5 h=>gbQ v3 false h (unV .not v5) fun v6 h=>bpQ v3 (B true) v6 fun v7=>gqQ v7 false h t1 fun v8 h=>gbQ v7 false h (bC v8) fun v9 h=>gbQ v7 false h (biI .gtr v9 (I 7)) fun v10 h=>bpQ v7 (B true) v10 fun v11=>cnd v11 (clQ C h F.bW [] fun v12 h=>q v12 h) (bnd (ldA h 2 v1) fun v13=>clQ C h F.eN [v13] fun v14 h=>e2Q v14 fun v15 v16=>clQ C h F.il [v15,t1,v16] fun v17 h=>e2Q v17 fun v18 v19=>clQ C h F.mA [v15,t1] fun v20 h=>bIQ .eql v20 (I 0) fun v21=>gqQ v21 true h t1 fun v22 h=>gbQ v21 true h (ixV h 1 v22 (I 0)) fun v23 h=>gbQ v21 true h (ld1 h v23) fun v24 h=>gbQ v21 true h (biI .lss v24 (I 1)) fun v25 h=>gqQ v21 true h v25 fun v26 h=>gqQ v26 false h t1 fun v27 h=>gbQ v26 false h (ixV h 1 v27 (I 0)) fun v28 h=>gbQ v26 false h (ld1 h v28) fun v29 h=>gbQ v26 false h (biI .gtr v29 (I 10000)) fun v30 h=>gbQ v21 true h (iH v26 (B true) v30) fun v31 h=>bpQ v21 v31 (B false) fun v32=>jn (fun l33 h=>lp (aD C t1 v15 v16) [] h [(ge l33 0),nSQ,(I 0)] h (exK [((.exit 0),fun l35 h=>cIQ .neq (ge l35 0) (I 0) (blQ v18 fun v37=>bIQ .eql v37 (I 0) fun v38=>gqQ v38 true h v19 fun v39 h=>gqQ v38 true h (ge l35 0) fun v40 h=>gbQ v38 true h (biI .eql v39 v40) fun v41 h=>bpQ v38 v41 (B false) fun v42=>q v42 h) (bIQ .eql v19 (I 0) fun v43=>gqQ v43 true h v18 fun v44 h=>gqQ v43 true h (ge l35 1) fun v45 h=>gd v43 true h (fun q=>clQ C h F.dF [v44,v45] q) fun v46 h=>bpQ v43 v46 (B false) fun v47=>q v47 h))])) fun q34=>cnd v32 (q34 [(I 3)] h) (q34 [v20] h))
def gE:Ann:=(.n .x (.n (.r [.slot 0]) .o .o) (.n .x .o (.n .x .o (.n .x .o (.n .x .o (.n .x (.n .x .o (.n (.j [9] [1,5,6,7,8]) .o .o)) (.n .x .o (.n .x (.n .x .o (.n .x (.n (.l [9,10,11] [1,5,6,7,8] [((.exit 0),[9,10],[7,8])] []) (.n .x .o (.n .x (.n (.j [9,10] [1,5,6,7,8,11]) (.n .x .o (.n .x .o (.n .x .o (.n (.j [10] [1,5,6,7,8,9,11]) (.n (.r [.o,.o,.slot 1]) .o .o) .o)))) .o) .o)) .o) .o)) .o))))))))
theorem oN (C:CC) (t0:V) (t1:V) (q:V->Hp->Prop):fnD Y C Go.Proofs.Tryz.f9 2 gE [t0,t1] q=bz C t0 t1 q:=by
 kernel_rfl
theorem oL:okB Go.Proofs.Tryz.prog Go.Proofs.Tryz.f9 gE=true:=aJ
theorem oM {t0 t1 v:V} (h:bz (CX Y) t0 t1 (out v)):CP Y F.bz [t0,t1] v:=
 CP.of (fn:=Go.Proofs.Tryz.f9) (m:=2) (a:=gE) rfl (fun _=>rfl) Go.Proofs.Tryz.func9 oL (by rw [oN];exact h)
end Go.Vm
namespace Go.Vm
open Go Go.Am Go.Proofs
def d7 (C:CC) (p6:V):bj:=fun l h q=>blQ p6 fun v1=>cIQ .lss (ge l 1) v1 (bxQ h 1 p6 (ge l 1) fun v3=>b1Q h v3 fun v4=>clQ C h F.uu [v4] fun v5 h=>e2Q v5 fun v6 v7=>nzQ v7 (q .ret [(B false)] h) (dw 1 [.pl (.slice none 0 0)] [(0,v6)] h fun v9 h=>apV false 1 1 24 (ge l 0) v9 h fun v10 h=>bIQ .add (ge l 1) (I 1) fun v11=>q .normal [v10,v11] h)) (q (.exit 0) [(ge l 0)] h)
def d6 (C:CC) (p5 p12 p14 p18:V):bj:=fun l h q=>blQ p12 fun v1=>cIQ .lss (ge l 0) v1 (bxQ h 1 p12 (ge l 0) fun v3=>b1Q h v3 fun v4=>clQ C h F.nU [p5,v4] fun v5 h=>e2Q v5 fun v6 v7=>clQ C h F.iE [p5,v6,p18] fun v8 h=>e2Q v8 fun v9 v10=>bxQ h 1 p12 (ge l 0) fun v11=>b1Q h v11 fun v12=>bxQ h 1 p14 (ge l 0) fun v13=>b1Q h v13 fun v14=>clQ C h F.pD [p5,v12,v14] fun v15 h=>e2Q v15 fun v16 v17=>clQ C h F.mD [p5,v16] fun v18 h=>e2Q v18 fun v19 v20=>bIQ .neq v7 (I 0) fun v21=>gqQ v21 false h v10 fun v22 h=>gbQ v21 false h (biI .neq v22 (I 0)) fun v23 h=>bpQ v21 (B true) v23 fun v24=>gqQ v24 false h v17 fun v25 h=>gbQ v24 false h (biI .neq v25 (I 0)) fun v26 h=>bpQ v24 (B true) v26 fun v27=>gqQ v27 false h v20 fun v28 h=>gbQ v27 false h (biI .neq v28 (I 0)) fun v29 h=>bpQ v27 (B true) v29 fun v30=>gqQ v30 false h v9 fun v31 h=>gbQ v30 false h (biI .gtr v31 (I 0)) fun v32 h=>bpQ v30 (B true) v32 fun v33=>gqQ v33 false h v9 fun v34 h=>gbQ v33 false h (biI .lss v34 (I 0)) fun v35 h=>gqQ v33 false h v35 fun v36 h=>gqQ v36 true h v19 fun v37 h=>gbQ v36 true h (biI .neq v37 (I 0)) fun v38 h=>gbQ v33 false h (iH v36 v38 (B false)) fun v39 h=>bpQ v33 (B true) v39 fun v40=>cnd v40 (q .ret [(B false)] h) (bIQ .add (ge l 0) (I 1) fun v41=>q .normal [v41] h)) (q (.exit 2) [] h)
def bO (C:CC) (t0 t1:V) (q:kQ):Prop:=let h:Hp:=.replicate 3 (0,.none)
 jS 0 t0 h fun v1 h=>clQ C h F.bW [] fun v2 h=>bnd (unV .not v2) fun v3=>gbQ v3 false h (ldA h 2 v1) fun v4 h=>gd v3 false h (fun q=>clQ C h F.eO [v4] q) fun v5 h=>gbQ v3 false h (unV .not v5) fun v6 h=>bpQ v3 (B true) v6 fun v7=>cnd v7 (clQ C h F.bW [] fun v8 h=>q v8 h) (bnd (ldA h 2 v1) fun v9=>clQ C h F.eN [v9] fun v10 h=>e2Q v10 fun v11 v12=>bIQ .rem t1 (.d (.int .u16 1000)) fun v13=>bnd (cvI .i64 v13) fun v14=>bIQ .add (I 1) v14 fun v15=>lp (d7 C v12) [] h [nSQ,(I 0)] h (exK [((.exit 0),fun l16 h=>clQ C h F.dD [v11,v15,v12] fun v17 h=>e2Q v17 fun v18 v19=>clQ C h F.dD [v11,v15,(ge l16 0)] fun v20 h=>e2Q v20 fun v21 v22=>clQ C h F.j6 [v11,v15] fun v23 h=>e2Q v23 fun v24 v25=>clQ C h F.bB [(I 1),(I 2)] fun v26 h=>clQ C h F.fv [v11,v24,v26] fun v27 h=>e2Q v27 fun v28 v29=>bIQ .neq v19 (I 0) fun v30=>gqQ v30 false h v22 fun v31 h=>gbQ v30 false h (biI .neq v31 (I 0)) fun v32 h=>bpQ v30 (B true) v32 fun v33=>gqQ v33 false h v25 fun v34 h=>gbQ v33 false h (biI .neq v34 (I 0)) fun v35 h=>bpQ v33 (B true) v35 fun v36=>gqQ v36 false h v29 fun v37 h=>gbQ v36 false h (biI .neq v37 (I 0)) fun v38 h=>bpQ v36 (B true) v38 fun v39=>gqQ v39 false h v18 fun v40 h=>gbQ v39 false h (bC v40) fun v41 h=>gqQ v39 false h v12 fun v42 h=>gbQ v39 false h (bC v42) fun v43 h=>gbQ v39 false h (biI .neq v41 v43) fun v44 h=>bpQ v39 (B true) v44 fun v45=>gqQ v45 false h v21 fun v46 h=>gbQ v45 false h (bC v46) fun v47 h=>gqQ v45 false h v12 fun v48 h=>gbQ v45 false h (bC v48) fun v49 h=>gbQ v45 false h (biI .neq v47 v49) fun v50 h=>bpQ v45 (B true) v50 fun v51=>cnd v51 (q (B false) h) (lp (d6 C v11 v18 v21 v28) [] h [(I 0)] h (exK [((.exit 2),fun l52 h=>blQ v11 fun v53=>clQ C h F.qM [v53,(I 0)] fun v54 h=>e2Q v54 fun v55 v56=>dw 1 [.pl (.slice none 0 0)] [(0,v55)] h fun v57 h=>clQ C h F.dD [v11,v15,v57] fun v58 h=>e2Q v58 fun v59 v60=>ciQ C h F.mC [v11] 2 fun v61 h=>e2Q v61 fun v62 v63=>bIQ .eql v56 (I 0) fun v64=>gqQ v64 true h v60 fun v65 h=>gbQ v64 true h (biI .eql v65 (I 0)) fun v66 h=>bpQ v64 v66 (B false) fun v67=>gqQ v67 true h v63 fun v68 h=>gbQ v67 true h (biI .eql v68 (I 0)) fun v69 h=>bpQ v67 v69 (B false) fun v70=>gqQ v70 true h v59 fun v71 h=>gbQ v70 true h (bC v71) fun v72 h=>gbQ v70 true h (biI .eql v72 (I 1)) fun v73 h=>bpQ v70 v73 (B false) fun v74=>gqQ v74 true h v59 fun v75 h=>gbQ v74 true h (ixV h 1 v75 (I 0)) fun v76 h=>gbQ v74 true h (ld1 h v76) fun v77 h=>gqQ v74 true h v62 fun v78 h=>gd v74 true h (fun q=>clQ C h F.kz [v77,v78] q) fun v79 h=>bpQ v74 v79 (B false) fun v80=>q v80 h), (.ret,fun l52 h=>q (ge l52 0) h)]))), (.ret,fun l16 h=>q (ge l16 0) h)]))
def gF:Ann:=(.n .x (.n (.r [.slot 0]) .o .o) (.n .x .o (.n .x .o (.n .x .o (.n .x .o (.n .x (.n .x .o (.n .x (.n (.l [8,9] [5,6,7] [((.exit 0),[8],[5,6,7]),(.ret,[4],[])] []) (.n .x .o (.n .x (.n .x (.n .x .o (.n .x .o (.n (.r [.o,.slot 1]) .o .o))) .o) .o)) .o) .o)) (.n .x .o (.n .x .o (.n .x .o (.n .x .o (.n .x .o (.n .x (.n .x .o (.n .x (.n (.l [20] [5,7,12,14,18] [((.exit 2),[],[5,7]),(.ret,[4],[])] []) .o .o) .o)) (.n .x .o (.n .x .o (.n .x (.n (.r [.inl 2]) .o .o) .o)))))))))))))))
attribute [local irreducible] bnd gd cal cnd ext dw By stD alV alD jS jn lp exK mkS apV cai CQ in
theorem oQ (C:CC) (t0:V) (t1:V) (q:V->Hp->Prop):fnD Y C Go.Proofs.Tryz.f8 3 gF [t0,t1] q=bO C t0 t1 q:=by
 repeat' (first | (refine Uv rfl fun _=>?_) | (refine YS rfl fun _ _=>?_) | (refine Us rfl fun _ _=>?_) | (refine Ur rfl ?_ ?_) | (refine Ul rfl fun _=>?_) | (refine PZ rfl fun _ _=>?_) | (refine TZ rfl fun _ _=>?_) | (refine Uy rfl fun _ _=>?_) | (refine Rk rfl fun _ _=>?_) | (refine YK rfl (fun _ _=>?_) fun _=>?_) | (refine YA rfl (fun _ _ _=>?_) fun _ _ _=>?_) | (refine Uo rfl (fun _ _=>?_) ?_) | (refine Ua rfl fun _ _=>?_) | (refine Uw rfl fun _ _=>?_) | (refine Ut rfl fun _ _=>?_) | (refine PX rfl fun _ _=>?_) | (refine Uz rfl fun _ _=>?_) | (refine PE rfl fun _=>?_) | exact rfl | (refine P2 rfl ?_))
theorem oO:okB Go.Proofs.Tryz.prog Go.Proofs.Tryz.f8 gF=true:=aJ
theorem oP {t0 t1 v:V} (h:bO (CX Y) t0 t1 (out v)):CP Y F.bO [t0,t1] v:=
 CP.of (fn:=Go.Proofs.Tryz.f8) (m:=3) (a:=gF) rfl (fun _=>rfl) Go.Proofs.Tryz.func8 oO (by rw [oQ];exact h)
end Go.Vm
