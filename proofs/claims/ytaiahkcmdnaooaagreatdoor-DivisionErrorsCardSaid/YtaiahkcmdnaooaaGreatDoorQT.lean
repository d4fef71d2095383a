/- Functions of the program as predicate transformers. Printed by gen.py. -/
import Derived.Test.YtaiahkcmdnaooaaGreatDoorQVmC
import Derived.KernelRfl
set_option linter.unusedVariables false
set_option linter.unusedSimpArgs false
set_option maxRecDepth 100000
set_option maxHeartbeats 4000000
namespace Go.Vm
open Go Go.Am Go.Proofs
theorem CPo {f:FuncId} {fn:Func} (m:Nat) (a:Ann) {ds:List V} {v:V} (h3:Y.X.P.funcs[f]?=some fn) (h5:fnD Y (CX Y) fn m a ds (out v)) (h1:Y.X.allow f=true:=by rfl) (h2:∀ u,Y.X.orc f u=none:=by exact fun _=>rfl) (h4:okB Y.X.P fn a=true:=by decide +kernel):CP Y f ds v:=CP.of h1 h2 h3 h4 h5
abbrev kQ:=V->Hp->Prop
abbrev clQ(C:CC)(h:Hp)(f:FuncId)(a:List V)(k:kQ):Prop:=cal C.p h (.fn f [] []) a k
abbrev ciQ(C:CC)(h:Hp)(f:FuncId)(a:List V)(s:Nat)(k:kQ):Prop:=cai C.i h (.fn f [] []) a s k
abbrev bIQ(o:BinOp)(x y:V)(k:V->Prop):Prop:=bnd (biI o x y) k
abbrev bSQ(o:BinOp)(x y:V)(k:V->Prop):Prop:=bnd (biS o x y) k
abbrev b1Q(h:Hp)(x:V)(k:V->Prop):Prop:=bnd (ld1 h x) k
abbrev bxQ(h:Hp)(n:Nat)(x y:V)(k:V->Prop):Prop:=bnd (ixV h n x y) k
abbrev blQ(x:V)(k:V->Prop):Prop:=bnd (bq x) k
abbrev bfQ(n:Nat)(x:V)(k:V->Prop):Prop:=bnd (faV n x) k
abbrev bpQ(x y z:V)(k:V->Prop):Prop:=bnd (cW x y z) k
abbrev cIQ(o:BinOp)(x y:V)(A B:Prop):Prop:=bnd (biI o x y) fun c=>cnd c A B
abbrev nzQ(x:V)(A B:Prop):Prop:=bnd (biI .neq x (I 0)) fun c=>cnd c A B
abbrev gbQ(c:V)(w:Bool)(h:Hp)(o:Option V)(k:kQ):Prop:=gd c w h (fun q=>bnd o fun v=>q v h) k
abbrev gqQ(c:V)(w:Bool)(h:Hp)(x:V)(k:kQ):Prop:=gd c w h (fun q=>q x h) k
abbrev e2Q(x:V)(k:V->V->Prop):Prop:=ext x 0 fun a=>ext x 1 fun b=>k a b
abbrev e3Q(x:V)(k:V->V->V->Prop):Prop:=ext x 0 fun a=>ext x 1 fun b=>ext x 2 fun c=>k a b c
abbrev nSQ:V:=.d (.pl (.slice none 0 0))
abbrev a1Q(s:Nat)(x y:V)(h:Hp)(k:kQ):Prop:=eh 1 [.int .i64 0] [(0,y)] h fun v h=>apV false s 1 8 x v h k
def mn (C:CC) (t0 t1 t2:V) (q:kQ):Prop:=let h:Hp:=.replicate 0 (0,.none)
 clQ C h F.dF [t0,t1,t2] fun v1 h=>nzQ v1 (q (.tup [(.d (.str [])),v1]) h) (clQ C h F.jG [t0,t1,t2] fun v3 h=>q (.tup [v3,(I 0)]) h)
theorem DF {t0 t1 t2 v:V} (h:mn (CX Y) t0 t1 t2 (out v)):CP Y F.mn [t0,t1,t2] v:=CPo 0 .o Tryz.func168 h
def oI (C:CC) (p11 p17:V):bh:=fun l h q=>cIQ .lss (ge l 0) p17 (bnd (bld [(0,1),(1,1)] [.str [],.str []] [(0,(.d (.str [48]))),(1,(.d (.str [49])))]) fun v2=>bxQ h 2 p11 (ge l 0) fun v3=>stD h 2 v3 v2 fun _ h=>bIQ .add (ge l 0) (I 1) fun v5=>q .normal [v5] h) (q (.exit 0) [] h)
def nU (C:CC) (t0 t1 t2 t3 t4:V) (q:kQ):Prop:=let h:Hp:=.replicate 1 (0,.none)
 blQ t0 fun v1=>mkS 0 32 [.str [],.str []] h v1 v1 fun v2 h=>blQ v2 fun v3=>lp (oI C v2 v3) [] h [(I 0)] h (exK [((.exit 0),fun l4 h=>clQ C h F.bT [t1] fun v5 h=>bnd (bld [(0,1),(1,1)] [.str [],.str []] [(0,v5),(1,(.d (.str [49])))]) fun v6=>bxQ h 2 v2 t2 fun v7=>stD h 2 v7 v6 fun _ h=>bIQ .eql t2 t4 fun v9=>jn (fun l10 h=>q v2 h) fun q11=>cnd v9 (bIQ .add t1 t3 fun v12=>clQ C h F.bT [v12] fun v13 h=>bnd (bld [(0,1),(1,1)] [.str [],.str []] [(0,v13),(1,(.d (.str [49])))]) fun v14=>bxQ h 2 v2 t2 fun v15=>stD h 2 v15 v14 fun _ h=>q11 [] h) (bIQ .neq t3 (I 0) fun v17=>jn (fun l18 h=>q11 [] h) fun q19=>cnd v17 (clQ C h F.bT [t3] fun v20 h=>bnd (bld [(0,1),(1,1)] [.str [],.str []] [(0,v20),(1,(.d (.str [49])))]) fun v21=>bxQ h 2 v2 t4 fun v22=>stD h 2 v22 v21 fun _ h=>q19 [] h) (q19 [] h)))])
theorem Hr {t0 t1 t2 t3 t4 v:V} (h:nU (CX Y) t0 t1 t2 t3 t4 (out v)):CP Y F.nU [t0,t1,t2,t3,t4] v:=CPo 1 (.n .x .o (.n .x (.n (.r [.slot 0]) .o .o) (.n .x (.n .x .o (.n .x (.n (.l [18] [1,2,3,4,11,17] [((.exit 0),[],[1,2,3,4,11])] []) .o .o) .o)) (.n .x .o (.n .x (.n .x .o (.n (.j [] [11]) .o (.n .x .o (.n (.j [] [11]) .o .o)))) .o))))) Tryz.func169 h
def jE (C:CC) (t0 t1 t2:V) (q:kQ):Prop:=let h:Hp:=.replicate 0 (0,.none)
 cIQ .eql t2 (I 0) (bIQ .add t1 (I 1) fun v2=>bIQ .shr v2 (.d (.int .u64 1)) fun v3=>q v3 h) (clQ C h F.nU [t0,t1,t2,(I 1),(I 0)] fun v4 h=>clQ C h F.nU [t0,(I 2),(I 0),(I 0),(I 0)] fun v5 h=>clQ C h F.mn [t0,v4,v5] fun v6 h=>e2Q v6 fun v7 v8=>clQ C h F.fS [v7] fun v9 h=>e2Q v9 fun v10 v11=>q v10 h)
theorem Bh {t0 t1 t2 v:V} (h:jE (CX Y) t0 t1 t2 (out v)):CP Y F.jE [t0,t1,t2] v:=CPo 0 .o Tryz.func134 h
def kV (C:CC) (t0 t1 t2:V) (q:kQ):Prop:=let h:Hp:=.replicate 0 (0,.none)
 clQ C h F.bU [t0] fun v1 h=>nzQ v1 (q (.tup [(I 0),v1]) h) (bIQ .lss t1 (I 1) fun v3=>gqQ v3 false h t1 fun v4 h=>gbQ v3 false h (biI .gtr v4 (I 100000)) fun v5 h=>bpQ v3 (B true) v5 fun v6=>cnd v6 (q (.tup [(I 0),(I 3)]) h) (bIQ .lss t2 (I 0) fun v7=>gqQ v7 false h t2 fun v8 h=>gqQ v7 false h t0 fun v9 h=>gbQ v7 false h (bq v9) fun v10 h=>gbQ v7 false h (biI .geq v8 v10) fun v11 h=>bpQ v7 (B true) v11 fun v12=>cnd v12 (q (.tup [(I 0),(I 10)]) h) (bIQ .mul (I 2) t1 fun v13=>clQ C h F.jE [t0,v13,t2] fun v14 h=>q (.tup [v14,(I 0)]) h)))
theorem Bi {t0 t1 t2 v:V} (h:kV (CX Y) t0 t1 t2 (out v)):CP Y F.kV [t0,t1,t2] v:=CPo 0 .o Tryz.func95 h
def mI (C:CC) (p0 p1 p12:V):bh:=fun l h q=>cIQ .lss (ge l 1) p12 (clQ C h F.kV [p0,p1,(ge l 1)] fun v2 h=>e2Q v2 fun v3 v4=>nzQ v4 (q .ret [nSQ,v4] h) (a1Q 0 (ge l 0) v3 h fun v7 h=>bIQ .add (ge l 1) (I 1) fun v8=>q .normal [v7,v8] h)) (q (.exit 0) [(ge l 0)] h)
def md (C:CC) (t0 t1:V) (q:kQ):Prop:=let h:Hp:=.replicate 1 (0,.none)
 blQ t0 fun v1=>bnd (mxI true [(I 1),v1]) fun v2=>lp (mI C t0 t1 v2) [] h [nSQ,(I 0)] h (exK [((.exit 0),fun l3 h=>q (.tup [(ge l3 0),(I 0)]) h), (.ret,fun l3 h=>q (.tup [(ge l3 0),(ge l3 1)]) h)])
theorem Dh {t0 t1 v:V} (h:md (CX Y) t0 t1 (out v)):CP Y F.md [t0,t1] v:=CPo 1 (.n .x .o (.n .x .o (.n .x (.n .x .o (.n .x (.n (.l [6,13] [0,1,12] [((.exit 0),[6],[]),(.ret,[4,5],[])] []) (.n .x .o (.n .x .o (.n .x (.n .x (.n .x .o (.n .x .o (.n .x .o (.n (.r [.o,.slot 0]) .o .o)))) .o) .o))) .o) .o)) .o))) Tryz.func49 h
end Go.Vm
namespace Go.Vm
open Go Go.Am Go.Proofs
end Go.Vm
namespace Go.Vm
open Go Go.Am Go.Proofs
def bK (C:CC) (t0 t1:V) (q:kQ):Prop:=let h:Hp:=.replicate 0 (0,.none)
 gqQ t0 true h t1 fun v1 h=>gbQ t0 true h (biS .neq v1 (.d (.str [48]))) fun v2 h=>bpQ t0 v2 (B false) fun v3=>cnd v3 (bSQ .add (.d (.str [45])) t1 fun v4=>q v4 h) (q t1 h)
theorem ul {t0 t1 v:V} (h:bK (CX Y) t0 t1 (out v)):CP Y F.bK [t0,t1] v:=CPo 0 .o Tryz.func129 h
def fh (C:CC) (t0 t1:V) (q:V->Hp->Prop):Prop:=let h:Hp:=List.replicate 6 (0,.none)
 cal C.p h (.fn F.d7 [] []) [t0,t1] fun v1 h=>ext v1 0 fun v2=>ext v1 1 fun v3=>ext v1 2 fun v4=>cnd v4 (bnd (biI .add v2 v3) fun v5=>cal C.p h (.fn F.gI [] []) [v5] fun v6 h=>q v6 h) (cai C.i h (.fn F.bW [] []) [t0] 0 fun v7 h=>cai C.i h (.fn F.bW [] []) [t1] 1 fun v8 h=>bnd (bq v7) fun v9=>bnd (bq v8) fun v10=>bnd (biI .lss v9 v10) fun v11=>jn (fun l12 h=>eh 1 [.int .u64 0] [(0,(.d (.int .u64 0)))] h fun v14 h=>apV false 2 1 8 (ge l12 0) v14 h fun v15 h=>bnd (bq v15) fun v16=>bnd (biI .sub v16 (I 1)) fun v17=>bnd (bq (ge l12 1)) fun v18=>bnd (biI .sub v17 v18) fun v19=>apZ false 3 1 8 [.int .u64 0] (ge l12 1) v19 h fun v20 h=>cai C.i h (.fn F.bO [] []) [v15,v20,(I 0)] 4 fun v21 h=>cai C.i h (.fn F.ay [] []) [v15] 5 fun v22 h=>cal C.p h (.fn F.aJ [] []) [v22] fun v23 h=>q v23 h) fun q13=>cnd v11 (q13 [v8,v7] h) (q13 [v7,v8] h))
def o9:Ann:=(.n .x .o (.n .x .o (.n .x (.n (.r [.inl 0,.inl 1]) .o .o) (.n .x (.n .x .o (.n (.j [8,9] []) .o .o)) (.n .x (.n (.r [.o,.slot 2]) .o .o) (.n .x (.n (.r [.slot 3,.inl 4]) .o .o) (.n .x (.n (.r [.inl 5]) .o .o) .o)))))))
attribute [local irreducible] bnd gd cal cnd ext eh tf stD alV alD iI jn lp exK mkS apV apZ cai tQ in
theorem BQ (C:CC) (t0:V) (t1:V) (q:V->Hp->Prop):fnD Y C Go.Proofs.Tryz.f130 6 o9 [t0,t1] q=fh C t0 t1 q:=by
 repeat' (first | (refine AQ rfl fun _=>?_) | (refine Ir rfl fun _ _=>?_) | (refine AM rfl fun _ _=>?_) | (refine AI rfl ?_ ?_) | (refine An rfl fun _=>?_) | (refine tV rfl fun _ _=>?_) | (refine zb rfl fun _ _=>?_) | (refine AU rfl fun _ _=>?_) | (refine uf rfl fun _ _=>?_) | (refine Il rfl (fun _ _=>?_) fun _=>?_) | (refine Ih rfl (fun _ _ _=>?_) fun _ _ _=>?_) | (refine Ap rfl (fun _ _=>?_) ?_) | (refine zK rfl fun _ _=>?_) | (refine AT rfl fun _ _=>?_) | (refine AN rfl fun _ _=>?_) | (refine Se rfl fun _ _=>?_) | (refine tU rfl fun _ _=>?_) | (refine AV rfl fun _ _=>?_) | (refine tP rfl fun _=>?_) | exact rfl | (refine tW rfl ?_))
theorem BO:okB Go.Proofs.Tryz.prog Go.Proofs.Tryz.f130 o9=true:=aG
theorem BP {t0 t1 v:V} (h:fh (CX Y) t0 t1 (out v)):CP Y F.fh [t0,t1] v:=
 CP.of (fn:=Go.Proofs.Tryz.f130) (m:=6) (a:=o9) rfl (fun _=>rfl) Go.Proofs.Tryz.func130 BO (by rw [BQ];exact h)
def bI (C:CC) (t0 t1:V) (q:kQ):Prop:=let h:Hp:=.replicate 0 (0,.none)
 bnd (ko t0) fun v1=>bnd (ko t1) fun v2=>cIQ .neq v1 v2 (bnd (ko t0) fun v4=>bnd (ko t1) fun v5=>bIQ .sub v4 v5 fun v6=>bnd (mxI true [(I (-1)),v6]) fun v7=>bnd (mxI false [(I 1),v7]) fun v8=>q v8 h) (bSQ .lss t0 t1 fun v9=>cnd v9 (q (I (-1)) h) (bSQ .gtr t0 t1 fun v10=>cnd v10 (q (I 1) h) (q (I 0) h)))
theorem vA {t0 t1 v:V} (h:bI (CX Y) t0 t1 (out v)):CP Y F.bI [t0,t1] v:=CPo 0 .o Tryz.func131 h
def gm (C:CC) (t0 t1:V) (q:V->Hp->Prop):Prop:=let h:Hp:=List.replicate 7 (0,.none)
 cal C.p h (.fn F.bI [] []) [t0,t1] fun v1 h=>bnd (biI .lss v1 (I 0)) fun v2=>cnd v2 (q (.tup [(.d (.str [])),(I 3)]) h) (cal C.p h (.fn F.d7 [] []) [t0,t1] fun v3 h=>ext v3 0 fun v4=>ext v3 1 fun v5=>ext v3 2 fun v6=>cnd v6 (bnd (biI .sub v4 v5) fun v7=>cal C.p h (.fn F.gI [] []) [v7] fun v8 h=>q (.tup [v8,(I 0)]) h) (cai C.i h (.fn F.bW [] []) [t0] 0 fun v9 h=>eh 1 [.int .u64 0] [(0,(.d (.int .u64 0)))] h fun v10 h=>apV false 1 1 8 v9 v10 h fun v11 h=>cai C.i h (.fn F.bW [] []) [t1] 2 fun v12 h=>bnd (bq v11) fun v13=>bnd (biI .sub v13 (I 1)) fun v14=>cai C.i h (.fn F.bW [] []) [t1] 3 fun v15 h=>bnd (bq v15) fun v16=>bnd (biI .sub v14 v16) fun v17=>apZ false 4 1 8 [.int .u64 0] v12 v17 h fun v18 h=>cai C.i h (.fn F.cF [] []) [v11,v18,(.d (.int .u64 1)),(I 0)] 5 fun v19 h=>cai C.i h (.fn F.ay [] []) [v11] 6 fun v20 h=>cal C.p h (.fn F.aJ [] []) [v20] fun v21 h=>q (.tup [v21,(I 0)]) h))
def o7:Ann:=(.n .x .o (.n .x .o (.n .x .o (.n .x (.n (.r [.inl 0,.o,.slot 1]) .o .o) (.n .x (.n (.r [.inl 2,.inl 3,.slot 4,.inl 5]) .o .o) (.n .x (.n (.r [.inl 6]) .o .o) .o))))))
attribute [local irreducible] bnd gd cal cnd ext eh tf stD alV alD iI jn lp exK mkS apV apZ cai tQ in
theorem BI (C:CC) (t0:V) (t1:V) (q:V->Hp->Prop):fnD Y C Go.Proofs.Tryz.f132 7 o7 [t0,t1] q=gm C t0 t1 q:=by
 repeat' (first | (refine AQ rfl fun _=>?_) | (refine Ir rfl fun _ _=>?_) | (refine AM rfl fun _ _=>?_) | (refine AI rfl ?_ ?_) | (refine An rfl fun _=>?_) | (refine tV rfl fun _ _=>?_) | (refine zb rfl fun _ _=>?_) | (refine AU rfl fun _ _=>?_) | (refine uf rfl fun _ _=>?_) | (refine Il rfl (fun _ _=>?_) fun _=>?_) | (refine Ih rfl (fun _ _ _=>?_) fun _ _ _=>?_) | (refine Ap rfl (fun _ _=>?_) ?_) | (refine zK rfl fun _ _=>?_) | (refine AT rfl fun _ _=>?_) | (refine AN rfl fun _ _=>?_) | (refine Se rfl fun _ _=>?_) | (refine tU rfl fun _ _=>?_) | (refine AV rfl fun _ _=>?_) | (refine tP rfl fun _=>?_) | exact rfl | (refine tW rfl ?_))
theorem BG:okB Go.Proofs.Tryz.prog Go.Proofs.Tryz.f132 o7=true:=aG
theorem BH {t0 t1 v:V} (h:gm (CX Y) t0 t1 (out v)):CP Y F.gm [t0,t1] v:=
 CP.of (fn:=Go.Proofs.Tryz.f132) (m:=7) (a:=o7) rfl (fun _=>rfl) Go.Proofs.Tryz.func132 BG (by rw [BI];exact h)
def ib (C:CC) (t0 t1:V) (q:kQ):Prop:=let h:Hp:=.replicate 3 (0,.none)
 bnd (ko t0) fun v1=>bnd (ko t1) fun v2=>bIQ .add v1 v2 fun v3=>cIQ .leq v3 (I 18) (clQ C h F.d7 [t0,t1] fun v5 h=>e3Q v5 fun v6 v7 v8=>bIQ .mul v6 v7 fun v9=>clQ C h F.gI [v9] fun v10 h=>q v10 h) (ciQ C h F.bW [t0] 0 fun v11 h=>ciQ C h F.bW [t1] 1 fun v12 h=>ciQ C h F.bb [v11,v12] 2 fun v13 h=>clQ C h F.aJ [v13] fun v14 h=>q v14 h)
theorem BJ {t0 t1 v:V} (h:ib (CX Y) t0 t1 (out v)):CP Y F.ib [t0,t1] v:=CPo 3 (.n .x .o (.n .x .o (.n .x (.n (.r [.inl 0,.inl 1,.inl 2]) .o .o) .o))) Tryz.func133 h
def bR (C:CC) (t0 t1:V) (q:kQ):Prop:=let h:Hp:=.replicate 0 (0,.none)
 clQ C h F.bj [t0,(I 18)] fun v1 h=>e2Q v1 fun v2 v3=>jn (fun l4 h=>clQ C h F.aN [t0] fun v6 h=>e2Q v6 fun v7 v8=>clQ C h F.aN [t1] fun v9 h=>e2Q v9 fun v10 v11=>bnd (biB .eql v7 v10) fun v12=>cnd v12 (clQ C h F.fh [v8,v11] fun v13 h=>clQ C h F.bK [v7,v13] fun v14 h=>q v14 h) (clQ C h F.bI [v8,v11] fun v15 h=>bIQ .lss v15 (I 0) fun v16=>jn (fun l17 h=>clQ C h F.gm [(ge l17 1),(ge l17 2)] fun v19 h=>e2Q v19 fun v20 v21=>clQ C h F.bK [(ge l17 0),v20] fun v22 h=>q v22 h) fun q18=>cnd v16 (q18 [v10,v11,v8] h) (q18 [v7,v8,v11] h))) fun q5=>cnd v3 (clQ C h F.bj [t1,(I 18)] fun v23 h=>e2Q v23 fun v24 v25=>cnd v25 (bIQ .add v2 v24 fun v26=>clQ C h F.bT [v26] fun v27 h=>q v27 h) (q5 [] h)) (q5 [] h)
theorem E3 {t0 t1 v:V} (h:bR (CX Y) t0 t1 (out v)):CP Y F.bR [t0,t1] v:=CPo 0 (.n .x .o (.n .x (.n .x .o (.n .x .o (.n (.j [] [0,1]) .o .o))) (.n .x .o (.n .x .o (.n .x .o (.n .x (.n .x .o (.n (.j [9,10,12] []) .o .o)) .o)))))) Tryz.func93 h
def aE (C:CC) (t0 t1:V) (q:kQ):Prop:=let h:Hp:=.replicate 0 (0,.none)
 clQ C h F.bj [t0,(I 9)] fun v1 h=>e2Q v1 fun v2 v3=>jn (fun l4 h=>clQ C h F.aN [t0] fun v6 h=>e2Q v6 fun v7 v8=>clQ C h F.aN [t1] fun v9 h=>e2Q v9 fun v10 v11=>bnd (biB .neq v7 v10) fun v12=>clQ C h F.ib [v8,v11] fun v13 h=>clQ C h F.bK [v12,v13] fun v14 h=>q v14 h) fun q5=>cnd v3 (clQ C h F.bj [t1,(I 9)] fun v15 h=>e2Q v15 fun v16 v17=>cnd v17 (bIQ .mul v2 v16 fun v18=>clQ C h F.bT [v18] fun v19 h=>q v19 h) (q5 [] h)) (q5 [] h)
theorem EW {t0 t1 v:V} (h:aE (CX Y) t0 t1 (out v)):CP Y F.aE [t0,t1] v:=CPo 0 (.n .x .o (.n .x (.n .x .o (.n .x .o (.n (.j [] [0,1]) .o .o))) .o)) Tryz.func94 h
end Go.Vm
namespace Go.Vm
open Go Go.Am Go.Proofs
def qE (C:CC) (t0:V) (q:kQ):Prop:=let h:Hp:=.replicate 0 (0,.none)
 bIQ .geq t0 (.d (.int .u32 65536)) fun v1=>jn (fun l2 h=>bIQ .geq (ge l2 0) (.d (.int .u32 256)) fun v4=>jn (fun l5 h=>bnd (cvI .u8 (ge l5 0)) fun v7=>bnd (ixS (.d (.str [0,1,2,2,3,3,3,3,4,4,4,4,4,4,4,4,5,5,5,5,5,5,5,5,5,5,5,5,5,5,5,5,6,6,6,6,6,6,6,6,6,6,6,6,6,6,6,6,6,6,6,6,6,6,6,6,6,6,6,6,6,6,6,6,7,7,7,7,7,7,7,7,7,7,7,7,7,7,7,7,7,7,7,7,7,7,7,7,7,7,7,7,7,7,7,7,7,7,7,7,7,7,7,7,7,7,7,7,7,7,7,7,7,7,7,7,7,7,7,7,7,7,7,7,7,7,7,7,8,8,8,8,8,8,8,8,8,8,8,8,8,8,8,8,8,8,8,8,8,8,8,8,8,8,8,8,8,8,8,8,8,8,8,8,8,8,8,8,8,8,8,8,8,8,8,8,8,8,8,8,8,8,8,8,8,8,8,8,8,8,8,8,8,8,8,8,8,8,8,8,8,8,8,8,8,8,8,8,8,8,8,8,8,8,8,8,8,8,8,8,8,8,8,8,8,8,8,8,8,8,8,8,8,8,8,8,8,8,8,8,8,8,8,8,8,8,8,8,8,8,8,8,8,8,8,8])) v7) fun v8=>bnd (cvI .i64 v8) fun v9=>bIQ .add (ge l5 1) v9 fun v10=>q v10 h) fun q6=>cnd v4 (bIQ .shr (ge l2 0) (.d (.int .u64 8)) fun v11=>bIQ .add (ge l2 1) (I 8) fun v12=>q6 [v11,v12] h) (q6 [(ge l2 0),(ge l2 1)] h)) fun q3=>cnd v1 (bIQ .shr t0 (.d (.int .u64 16)) fun v13=>q3 [v13,(I 16)] h) (q3 [t0,(I 0)] h)
def ii (C:CC) (t0:V) (q:kQ):Prop:=let h:Hp:=.replicate 0 (0,.none)
 cnd (B false) (bnd (cvI .u32 t0) fun v1=>clQ C h F.qE [v1] fun v2 h=>q v2 h) (clQ C h F.dD [t0] fun v3 h=>q v3 h)
theorem xK {t0 v:V} (h:ii (CX Y) t0 (out v)):CP Y F.ii [t0] v:=CPo 0 .o Tryz.func191 h
end Go.Vm
namespace Go.Vm
open Go Go.Am Go.Proofs
def gA (C:CC) (p0:V):bh:=fun l h q=>bIQ .mul (ge l 0) (ge l 0) fun v1=>cIQ .leq v1 p0 (bIQ .rem p0 (ge l 0) fun v3=>cIQ .eql v3 (I 0) (q .ret [(B false)] h) (bIQ .add (ge l 0) (I 1) fun v5=>q .normal [v5] h)) (q (.exit 0) [] h)
def fX (C:CC) (t0:V) (q:kQ):Prop:=let h:Hp:=.replicate 0 (0,.none)
 bIQ .lss t0 (I 2) fun v1=>gqQ v1 false h t0 fun v2 h=>gbQ v1 false h (biI .gtr v2 (I 97)) fun v3 h=>bpQ v1 (B true) v3 fun v4=>cnd v4 (q (B false) h) (lp (gA C t0) [] h [(I 2)] h (exK [((.exit 0),fun l5 h=>q (B true) h), (.ret,fun l5 h=>q (ge l5 0) h)]))
theorem xJ {t0 v:V} (h:fX (CX Y) t0 (out v)):CP Y F.fX [t0] v:=CPo 0 (.n .x .o (.n .x .o (.n .x (.n .x .o (.n .x (.n (.l [3] [0] [((.exit 0),[],[]),(.ret,[2],[])] []) .o .o) .o)) .o))) Tryz.func100 h
def lG (C:CC) (p0 p13 p14:V):bh:=fun l h q=>cIQ .lss (ge l 0) p14 (bxQ h 1 p13 (ge l 0) fun v2=>b1Q h v2 fun v3=>clQ C h F.fX [v3] fun v4 h=>bnd (unV .not v4) fun v5=>cnd v5 (q .ret [(I 25)] h) (bIQ .gtr (ge l 0) (I 0) fun v6=>gqQ v6 true h v3 fun v7 h=>gqQ v6 true h p0 fun v8 h=>gqQ v6 true h (ge l 0) fun v9 h=>gbQ v6 true h (biI .sub v9 (I 1)) fun v10 h=>gbQ v6 true h (ixV h 1 v8 v10) fun v11 h=>gbQ v6 true h (ld1 h v11) fun v12 h=>gbQ v6 true h (biI .leq v7 v12) fun v13 h=>bpQ v6 v13 (B false) fun v14=>cnd v14 (q .ret [(I 6)] h) (bIQ .add (ge l 0) (I 1) fun v15=>q .normal [v15] h))) (q (.exit 1) [] h)
def bU (C:CC) (t0:V) (q:kQ):Prop:=let h:Hp:=.replicate 0 (0,.none)
 blQ t0 fun v1=>cIQ .eql v1 (I 0) (q (I 13) h) (blQ t0 fun v3=>cIQ .gtr v3 (I 6) (q (I 4) h) (blQ t0 fun v5=>lp (lG C t0 t0 v5) [] h [(I 0)] h (exK [((.exit 1),fun l6 h=>q (I 0) h), (.ret,fun l6 h=>q (ge l6 0) h)])))
theorem Bt {t0 v:V} (h:bU (CX Y) t0 (out v)):CP Y F.bU [t0] v:=CPo 0 (.n .x .o (.n .x .o (.n .x (.n .x .o (.n .x (.n (.l [15] [0,13,14] [((.exit 1),[],[]),(.ret,[2],[])] []) .o .o) .o)) .o))) Tryz.func53 h
def jF (C:CC) (t0:V) (q:kQ):Prop:=let h:Hp:=.replicate 1 (0,.none)
 iI 0 t0 h fun v1 h=>bfQ 0 v1 fun v2=>b1Q h v2 fun v3=>clQ C h F.gz [v3] fun v4 h=>bnd (ko v4) fun v5=>bIQ .leq v5 (I 30) fun v6=>gbQ v6 true h (faV 1 v1) fun v7 h=>gbQ v6 true h (ld1 h v7) fun v8 h=>gbQ v6 true h (ko v8) fun v9 h=>gbQ v6 true h (biI .leq v9 (I 30)) fun v10 h=>bpQ v6 v10 (B false) fun v11=>q v11 h
theorem Dt {t0 v:V} (h:jF (CX Y) t0 (out v)):CP Y F.jF [t0] v:=CPo 1 (.n .x (.n (.r [.slot 0]) .o .o) .o) Tryz.func138 h
def mJ (C:CC) (p12 p13:V):bh:=fun l h q=>cIQ .lss (ge l 0) p13 (bxQ h 2 p12 (ge l 0) fun v2=>bnd (ldA h 2 v2) fun v3=>alV 0 [.d (.str []),.d (.str [])] h fun v4 h=>stD h 2 v4 v3 fun _ h=>bnd (ldA h 2 v4) fun v6=>clQ C h F.fe [v6] fun v7 h=>nzQ v7 (q .ret [(I 2)] h) (bnd (ldA h 2 v4) fun v9=>clQ C h F.jF [v9] fun v10 h=>bnd (unV .not v10) fun v11=>cnd v11 (q .ret [(I 4)] h) (bIQ .add (ge l 0) (I 1) fun v12=>q .normal [v12] h))) (q (.exit 0) [] h)
def iP (C:CC) (t0 t1:V) (q:kQ):Prop:=let h:Hp:=.replicate 1 (0,.none)
 blQ t1 fun v1=>blQ t0 fun v2=>cIQ .neq v1 v2 (q (I 5) h) (blQ t1 fun v4=>lp (mJ C t1 v4) [0] h [(I 0)] h (exK [((.exit 0),fun l5 h=>q (I 0) h), (.ret,fun l5 h=>q (ge l5 0) h)]))
theorem Dy {t0 t1 v:V} (h:iP (CX Y) t0 t1 (out v)):CP Y F.iP [t0,t1] v:=CPo 1 (.n .x .o (.n .x .o (.n .x (.n .x .o (.n .x (.n (.l [14] [12,13] [((.exit 0),[],[]),(.ret,[4],[])] [0]) (.n .x .o (.n .x .o (.n .x (.n .x (.n .x (.n (.r [.slot 0]) .o .o) .o) .o) .o))) .o) .o)) .o))) Tryz.func102 h
def jH (C:CC) (t0 t1:V) (q:kQ):Prop:=let h:Hp:=.replicate 0 (0,.none)
 clQ C h F.bU [t0] fun v1 h=>nzQ v1 (q v1 h) (clQ C h F.iP [t0,t1] fun v3 h=>q v3 h)
theorem DI {t0 t1 v:V} (h:jH (CX Y) t0 t1 (out v)):CP Y F.jH [t0,t1] v:=CPo 0 .o Tryz.func75 h
end Go.Vm
namespace Go.Vm
open Go Go.Am Go.Proofs
def cU (C:CC) (t0 t1:V) (q:kQ):Prop:=let h:Hp:=.replicate 2 (0,.none)
 cIQ .eql t1 (I 10) (cIQ .lss t0 (.d (.int .u64 100)) (bnd (cvI .i64 t0) fun v3=>clQ C h F.fB [v3] fun v4 h=>q v4 h) (alD 0 1 (List.replicate 24 (.int .u8 0)) h fun v5 h=>clQ C h F.cD [t0] fun v6 h=>bnd (slP 24 1 h v5 none (some v6)) fun v7=>ciQ C h F.bv [v7,t0] 1 fun v8 h=>bnd (slP 24 1 h v5 none (some v6)) fun v9=>bnd (cvT h v9) fun v10=>q v10 h)) (clQ C h F.mW [nSQ,t0,t1,(B false),(B false)] fun v11 h=>e2Q v11 fun v12 v13=>q v13 h)
theorem ql {t0 t1 v:V} (h:cU (CX Y) t0 t1 (out v)):CP Y F.cU [t0,t1] v:=CPo 2 (.n .x .o (.n .x (.n .x .o (.n .x (.n .x .o (.n .x (.n (.r [.slot 0]) .o .o) (.n .x .o (.n .x (.n (.r [.inl 1]) .o .o) .o)))) .o)) .o)) Tryz.func207 h
def eC (C:CC) (t0 t1:V) (q:kQ):Prop:=let h:Hp:=.replicate 0 (0,.none)
 clQ C h F.cU [t0,t1] fun v1 h=>q v1 h
theorem rq {t0 t1 v:V} (h:eC (CX Y) t0 t1 (out v)):CP Y F.eC [t0,t1] v:=CPo 0 .o Tryz.func189 h
def gI (C:CC) (t0:V) (q:kQ):Prop:=let h:Hp:=.replicate 0 (0,.none)
 clQ C h F.eC [t0,(I 10)] fun v1 h=>q v1 h
theorem Ew {t0 v:V} (h:gI (CX Y) t0 (out v)):CP Y F.gI [t0] v:=CPo 0 .o Tryz.func161 h
def gn (C:CC) (t0:V) (q:kQ):Prop:=let h:Hp:=.replicate 0 (0,.none)
 clQ C h F.dW [t0,(I 10),(I 64)] fun v1 h=>e2Q v1 fun v2 v3=>bnd (biF .neq v3 (.d (.pl .nilIface))) fun v4=>cnd v4 (q (.tup [(.d (.int .u64 0)),(B false)]) h) (q (.tup [v2,(B true)]) h)
theorem xY {t0 v:V} (h:gn (CX Y) t0 (out v)):CP Y F.gn [t0] v:=CPo 0 .o Tryz.func188 h
def d7 (C:CC) (t0 t1:V) (q:kQ):Prop:=let h:Hp:=.replicate 0 (0,.none)
 bnd (ko t0) fun v1=>bIQ .gtr v1 (I 18) fun v2=>gqQ v2 false h t1 fun v3 h=>gbQ v2 false h (ko v3) fun v4 h=>gbQ v2 false h (biI .gtr v4 (I 18)) fun v5 h=>bpQ v2 (B true) v5 fun v6=>cnd v6 (q (.tup [(.d (.int .u64 0)),(.d (.int .u64 0)),(B false)]) h) (clQ C h F.gn [t0] fun v7 h=>e2Q v7 fun v8 v9=>clQ C h F.gn [t1] fun v10 h=>e2Q v10 fun v11 v12=>q (.tup [v8,v11,(B true)]) h)
theorem Ay {t0 t1 v:V} (h:d7 (CX Y) t0 t1 (out v)):CP Y F.d7 [t0,t1] v:=CPo 0 .o Tryz.func160 h
def dz (C:CC) (t0 t1:V) (q:kQ):Prop:=let h:Hp:=.replicate 2 (0,.none)
 bSQ .eql t1 (.d (.str [48])) fun v1=>cnd v1 (q (.tup [(.d (.str [])),(.d (.str [])),(I 17)]) h) (clQ C h F.d7 [t0,t1] fun v2 h=>e3Q v2 fun v3 v4 v5=>cnd v5 (bIQ .quo v3 v4 fun v6=>clQ C h F.gI [v6] fun v7 h=>bIQ .rem v3 v4 fun v8=>clQ C h F.gI [v8] fun v9 h=>q (.tup [v7,v9,(I 0)]) h) (ciQ C h F.bW [t0] 0 fun v10 h=>ciQ C h F.bW [t1] 1 fun v11 h=>clQ C h F.bJ [v10,v11] fun v12 h=>cIQ .lss v12 (I 0) (q (.tup [(.d (.str [48])),t0,(I 0)]) h) (blQ v11 fun v14=>cIQ .eql v14 (I 1) (bxQ h 1 v11 (I 0) fun v16=>b1Q h v16 fun v17=>clQ C h F.bV [v10,v17] fun v18 h=>e2Q v18 fun v19 v20=>clQ C h F.aJ [v19] fun v21 h=>clQ C h F.gI [v20] fun v22 h=>q (.tup [v21,v22,(I 0)]) h) (clQ C h F.cG [v10,v11] fun v23 h=>e2Q v23 fun v24 v25=>clQ C h F.aJ [v24] fun v26 h=>clQ C h F.aJ [v25] fun v27 h=>q (.tup [v26,v27,(I 0)]) h))))
def mF:Ann:=(.n .x .o (.n .x .o (.n .x .o (.n .x (.n (.r [.inl 0,.inl 1]) .o .o) .o))))
attribute [local irreducible] bnd gd cal cnd ext eh tf stD alV alD iI jn lp exK mkS apV cai tQ in
theorem wO (C:CC) (t0:V) (t1:V) (q:V->Hp->Prop):fnD Y C Go.Proofs.Tryz.f148 2 mF [t0,t1] q=dz C t0 t1 q:=by
 repeat' (first | (refine AQ rfl fun _=>?_) | (refine Ir rfl fun _ _=>?_) | (refine AM rfl fun _ _=>?_) | (refine AI rfl ?_ ?_) | (refine An rfl fun _=>?_) | (refine tV rfl fun _ _=>?_) | (refine zb rfl fun _ _=>?_) | (refine AU rfl fun _ _=>?_) | (refine uf rfl fun _ _=>?_) | (refine Il rfl (fun _ _=>?_) fun _=>?_) | (refine Ih rfl (fun _ _ _=>?_) fun _ _ _=>?_) | (refine Ap rfl (fun _ _=>?_) ?_) | (refine zK rfl fun _ _=>?_) | (refine AT rfl fun _ _=>?_) | (refine AN rfl fun _ _=>?_) | (refine tU rfl fun _ _=>?_) | (refine AV rfl fun _ _=>?_) | (refine tP rfl fun _=>?_) | exact rfl | (refine tW rfl ?_))
theorem wM:okB Go.Proofs.Tryz.prog Go.Proofs.Tryz.f148 mF=true:=aG
theorem wN {t0 t1 v:V} (h:dz (CX Y) t0 t1 (out v)):CP Y F.dz [t0,t1] v:=
 CP.of (fn:=Go.Proofs.Tryz.f148) (m:=2) (a:=mF) rfl (fun _=>rfl) Go.Proofs.Tryz.func148 wM (by rw [wO];exact h)
def lU (C:CC):bh:=fun l h q=>bSQ .neq (ge l 1) (.d (.str [48])) fun v1=>cnd v1 (clQ C h F.dz [(ge l 0),(ge l 1)] fun v2 h=>e3Q v2 fun v3 v4 v5=>nzQ v5 (q .ret [(.d (.str []))] h) (q .normal [(ge l 1),v4] h)) (q (.exit 0) [(ge l 0)] h)
def jT (C:CC) (t0 t1:V) (q:kQ):Prop:=let h:Hp:=.replicate 0 (0,.none)
 lp (lU C) [] h [t0,t1] h (exK [((.exit 0),fun l1 h=>q (ge l1 0) h), (.ret,fun l1 h=>q (ge l1 0) h)])
theorem BN {t0 t1 v:V} (h:jT (CX Y) t0 t1 (out v)):CP Y F.jT [t0,t1] v:=CPo 0 (.n .x .o (.n .x (.n .x (.n (.l [0,1] [] [((.exit 0),[0],[]),(.ret,[4],[])] []) .o .o) .o) .o)) Tryz.func183 h
end Go.Vm
namespace Go.Vm
open Go Go.Am Go.Proofs
def strconv_Itoa (C:CC) (t0:V) (q:kQ):Prop:=let h:Hp:=.replicate 0 (0,.none)
 clQ C h F.iA [t0] fun v1 h=>q v1 h
theorem y9 {t0 v:V} (h:strconv_Itoa (CX Y) t0 (out v)):CP Y F.strconv_Itoa [t0] v:=CPo 0 .o Tryz.func124 h
def iA (C:CC) (t0:V) (q:kQ):Prop:=let h:Hp:=.replicate 0 (0,.none)
 clQ C h F.cE [t0,(I 10)] fun v1 h=>q v1 h
theorem wC {t0 v:V} (h:iA (CX Y) t0 (out v)):CP Y F.iA [t0] v:=CPo 0 .o Tryz.func157 h
def cE (C:CC) (t0 t1:V) (q:kQ):Prop:=let h:Hp:=.replicate 2 (0,.none)
 cIQ .eql t1 (I 10) (bIQ .leq (I 0) t0 fun v2=>gqQ v2 true h t0 fun v3 h=>gbQ v2 true h (biI .lss v3 (I 100)) fun v4 h=>bpQ v2 v4 (B false) fun v5=>cnd v5 (clQ C h F.fB [t0] fun v6 h=>q v6 h) (alD 0 1 (List.replicate 24 (.int .u8 0)) h fun v7 h=>bnd (cvI .u64 t0) fun v8=>bIQ .lss t0 (I 0) fun v9=>jn (fun l10 h=>clQ C h F.cD [(ge l10 0)] fun v12 h=>bIQ .add (I 1) v12 fun v13=>bnd (slP 24 1 h v7 (some (I 1)) (some v13)) fun v14=>ciQ C h F.bv [v14,(ge l10 0)] 1 fun v15 h=>cIQ .lss t0 (I 0) (bnd (ixP 24 1 v7 (I 0)) fun v17=>stD h 1 v17 (.d (.int .u8 45)) fun _ h=>bIQ .add (I 1) v12 fun v19=>bnd (slP 24 1 h v7 none (some v19)) fun v20=>bnd (cvT h v20) fun v21=>q v21 h) (bIQ .add (I 1) v12 fun v22=>bnd (slP 24 1 h v7 (some (I 1)) (some v22)) fun v23=>bnd (cvT h v23) fun v24=>q v24 h)) fun q11=>cnd v9 (bnd (unV .neg v8) fun v25=>q11 [v25] h) (q11 [v8] h))) (bnd (cvI .u64 t0) fun v26=>bIQ .lss t0 (I 0) fun v27=>clQ C h F.mW [nSQ,v26,t1,v27,(B false)] fun v28 h=>e2Q v28 fun v29 v30=>q v30 h)
theorem qO {t0 t1 v:V} (h:cE (CX Y) t0 t1 (out v)):CP Y F.cE [t0,t1] v:=CPo 2 (.n .x .o (.n .x (.n .x .o (.n .x (.n .x .o (.n .x (.n (.r [.slot 0]) .o .o) (.n .x .o (.n .x (.n .x .o (.n (.j [6] [0,5]) .o .o)) (.n .x .o (.n .x (.n (.r [.inl 1]) .o .o) .o)))))) .o)) .o)) Tryz.func185 h
def fB (C:CC) (t0:V) (q:kQ):Prop:=let h:Hp:=.replicate 0 (0,.none)
 cIQ .lss t0 (I 10) (bIQ .add t0 (I 1) fun v2=>bnd (slS (.d (.str [48,49,50,51,52,53,54,55,56,57,97,98,99,100,101,102,103,104,105,106,107,108,109,110,111,112,113,114,115,116,117,118,119,120,121,122])) (some t0) (some v2)) fun v3=>q v3 h) (bIQ .mul t0 (I 2) fun v4=>bIQ .mul t0 (I 2) fun v5=>bIQ .add v5 (I 2) fun v6=>bnd (slS (.d (.str [48,48,48,49,48,50,48,51,48,52,48,53,48,54,48,55,48,56,48,57,49,48,49,49,49,50,49,51,49,52,49,53,49,54,49,55,49,56,49,57,50,48,50,49,50,50,50,51,50,52,50,53,50,54,50,55,50,56,50,57,51,48,51,49,51,50,51,51,51,52,51,53,51,54,51,55,51,56,51,57,52,48,52,49,52,50,52,51,52,52,52,53,52,54,52,55,52,56,52,57,53,48,53,49,53,50,53,51,53,52,53,53,53,54,53,55,53,56,53,57,54,48,54,49,54,50,54,51,54,52,54,53,54,54,54,55,54,56,54,57,55,48,55,49,55,50,55,51,55,52,55,53,55,54,55,55,55,56,55,57,56,48,56,49,56,50,56,51,56,52,56,53,56,54,56,55,56,56,56,57,57,48,57,49,57,50,57,51,57,52,57,53,57,54,57,55,57,56,57,57])) (some v4) (some v6)) fun v7=>q v7 h)
theorem u9 {t0 v:V} (h:fB (CX Y) t0 (out v)):CP Y F.fB [t0] v:=CPo 0 .o Tryz.func198 h
def cD (C:CC) (t0:V) (q:kQ):Prop:=let h:Hp:=.replicate 0 (0,.none)
 clQ C h F.dD [t0] fun v1 h=>clQ C h F.d9 [v1] fun v2 h=>bnd (ixP 20 1 (gl kz) v2) fun v3=>b1Q h v3 fun v4=>bIQ .geq t0 v4 fun v5=>clQ C h F.ef [v5] fun v6 h=>bIQ .add v2 v6 fun v7=>q v7 h
theorem qK {t0 v:V} (h:cD (CX Y) t0 (out v)):CP Y F.cD [t0] v:=CPo 0 .o Tryz.func199 h
def cZ (C:CC) (b:Nat) (p0:V):bh:=fun l h q=>cIQ .geq (ge l 1) (I 8) (bIQ .rem (ge l 0) (.d (.int .u64 100000000)) fun v2=>bnd (cvI .u32 v2) fun v3=>bIQ .quo (ge l 0) (.d (.int .u64 100000000)) fun v4=>bIQ .quo v3 (.d (.int .u32 10000)) fun v5=>bIQ .rem v3 (.d (.int .u32 10000)) fun v6=>bIQ .quo v6 (.d (.int .u32 100)) fun v7=>bIQ .mul v7 (.d (.int .u32 2)) fun v8=>bIQ .rem v6 (.d (.int .u32 100)) fun v9=>bIQ .mul v9 (.d (.int .u32 2)) fun v10=>bIQ .quo v5 (.d (.int .u32 100)) fun v11=>bIQ .mul v11 (.d (.int .u32 2)) fun v12=>bIQ .rem v5 (.d (.int .u32 100)) fun v13=>bIQ .mul v13 (.d (.int .u32 2)) fun v14=>bIQ .sub (ge l 1) (I 1) fun v15=>bIQ .sub (ge l 1) (I 2) fun v16=>bIQ .add v10 (.d (.int .u32 1)) fun v17=>bnd (ixS (.d (.str [48,48,48,49,48,50,48,51,48,52,48,53,48,54,48,55,48,56,48,57,49,48,49,49,49,50,49,51,49,52,49,53,49,54,49,55,49,56,49,57,50,48,50,49,50,50,50,51,50,52,50,53,50,54,50,55,50,56,50,57,51,48,51,49,51,50,51,51,51,52,51,53,51,54,51,55,51,56,51,57,52,48,52,49,52,50,52,51,52,52,52,53,52,54,52,55,52,56,52,57,53,48,53,49,53,50,53,51,53,52,53,53,53,54,53,55,53,56,53,57,54,48,54,49,54,50,54,51,54,52,54,53,54,54,54,55,54,56,54,57,55,48,55,49,55,50,55,51,55,52,55,53,55,54,55,55,55,56,55,57,56,48,56,49,56,50,56,51,56,52,56,53,56,54,56,55,56,56,56,57,57,48,57,49,57,50,57,51,57,52,57,53,57,54,57,55,57,56,57,57])) v17) fun v18=>bnd (ixS (.d (.str [48,48,48,49,48,50,48,51,48,52,48,53,48,54,48,55,48,56,48,57,49,48,49,49,49,50,49,51,49,52,49,53,49,54,49,55,49,56,49,57,50,48,50,49,50,50,50,51,50,52,50,53,50,54,50,55,50,56,50,57,51,48,51,49,51,50,51,51,51,52,51,53,51,54,51,55,51,56,51,57,52,48,52,49,52,50,52,51,52,52,52,53,52,54,52,55,52,56,52,57,53,48,53,49,53,50,53,51,53,52,53,53,53,54,53,55,53,56,53,57,54,48,54,49,54,50,54,51,54,52,54,53,54,54,54,55,54,56,54,57,55,48,55,49,55,50,55,51,55,52,55,53,55,54,55,55,55,56,55,57,56,48,56,49,56,50,56,51,56,52,56,53,56,54,56,55,56,56,56,57,57,48,57,49,57,50,57,51,57,52,57,53,57,54,57,55,57,56,57,57])) v10) fun v19=>bxQ h 1 p0 v15 fun v20=>stD h 1 v20 v18 fun _ h=>bxQ h 1 p0 v16 fun v22=>stD h 1 v22 v19 fun _ h=>bIQ .sub (ge l 1) (I 3) fun v24=>bIQ .sub (ge l 1) (I 4) fun v25=>bIQ .add v8 (.d (.int .u32 1)) fun v26=>bnd (ixS (.d (.str [48,48,48,49,48,50,48,51,48,52,48,53,48,54,48,55,48,56,48,57,49,48,49,49,49,50,49,51,49,52,49,53,49,54,49,55,49,56,49,57,50,48,50,49,50,50,50,51,50,52,50,53,50,54,50,55,50,56,50,57,51,48,51,49,51,50,51,51,51,52,51,53,51,54,51,55,51,56,51,57,52,48,52,49,52,50,52,51,52,52,52,53,52,54,52,55,52,56,52,57,53,48,53,49,53,50,53,51,53,52,53,53,53,54,53,55,53,56,53,57,54,48,54,49,54,50,54,51,54,52,54,53,54,54,54,55,54,56,54,57,55,48,55,49,55,50,55,51,55,52,55,53,55,54,55,55,55,56,55,57,56,48,56,49,56,50,56,51,56,52,56,53,56,54,56,55,56,56,56,57,57,48,57,49,57,50,57,51,57,52,57,53,57,54,57,55,57,56,57,57])) v26) fun v27=>bnd (ixS (.d (.str [48,48,48,49,48,50,48,51,48,52,48,53,48,54,48,55,48,56,48,57,49,48,49,49,49,50,49,51,49,52,49,53,49,54,49,55,49,56,49,57,50,48,50,49,50,50,50,51,50,52,50,53,50,54,50,55,50,56,50,57,51,48,51,49,51,50,51,51,51,52,51,53,51,54,51,55,51,56,51,57,52,48,52,49,52,50,52,51,52,52,52,53,52,54,52,55,52,56,52,57,53,48,53,49,53,50,53,51,53,52,53,53,53,54,53,55,53,56,53,57,54,48,54,49,54,50,54,51,54,52,54,53,54,54,54,55,54,56,54,57,55,48,55,49,55,50,55,51,55,52,55,53,55,54,55,55,55,56,55,57,56,48,56,49,56,50,56,51,56,52,56,53,56,54,56,55,56,56,56,57,57,48,57,49,57,50,57,51,57,52,57,53,57,54,57,55,57,56,57,57])) v8) fun v28=>bxQ h 1 p0 v24 fun v29=>stD h 1 v29 v27 fun _ h=>bxQ h 1 p0 v25 fun v31=>stD h 1 v31 v28 fun _ h=>bIQ .sub (ge l 1) (I 5) fun v33=>bIQ .sub (ge l 1) (I 6) fun v34=>bIQ .add v14 (.d (.int .u32 1)) fun v35=>bnd (ixS (.d (.str [48,48,48,49,48,50,48,51,48,52,48,53,48,54,48,55,48,56,48,57,49,48,49,49,49,50,49,51,49,52,49,53,49,54,49,55,49,56,49,57,50,48,50,49,50,50,50,51,50,52,50,53,50,54,50,55,50,56,50,57,51,48,51,49,51,50,51,51,51,52,51,53,51,54,51,55,51,56,51,57,52,48,52,49,52,50,52,51,52,52,52,53,52,54,52,55,52,56,52,57,53,48,53,49,53,50,53,51,53,52,53,53,53,54,53,55,53,56,53,57,54,48,54,49,54,50,54,51,54,52,54,53,54,54,54,55,54,56,54,57,55,48,55,49,55,50,55,51,55,52,55,53,55,54,55,55,55,56,55,57,56,48,56,49,56,50,56,51,56,52,56,53,56,54,56,55,56,56,56,57,57,48,57,49,57,50,57,51,57,52,57,53,57,54,57,55,57,56,57,57])) v35) fun v36=>bnd (ixS (.d (.str [48,48,48,49,48,50,48,51,48,52,48,53,48,54,48,55,48,56,48,57,49,48,49,49,49,50,49,51,49,52,49,53,49,54,49,55,49,56,49,57,50,48,50,49,50,50,50,51,50,52,50,53,50,54,50,55,50,56,50,57,51,48,51,49,51,50,51,51,51,52,51,53,51,54,51,55,51,56,51,57,52,48,52,49,52,50,52,51,52,52,52,53,52,54,52,55,52,56,52,57,53,48,53,49,53,50,53,51,53,52,53,53,53,54,53,55,53,56,53,57,54,48,54,49,54,50,54,51,54,52,54,53,54,54,54,55,54,56,54,57,55,48,55,49,55,50,55,51,55,52,55,53,55,54,55,55,55,56,55,57,56,48,56,49,56,50,56,51,56,52,56,53,56,54,56,55,56,56,56,57,57,48,57,49,57,50,57,51,57,52,57,53,57,54,57,55,57,56,57,57])) v14) fun v37=>bxQ h 1 p0 v33 fun v38=>stD h 1 v38 v36 fun _ h=>bxQ h 1 p0 v34 fun v40=>stD h 1 v40 v37 fun _ h=>bIQ .sub (ge l 1) (I 7) fun v42=>bIQ .sub (ge l 1) (I 8) fun v43=>bIQ .add v12 (.d (.int .u32 1)) fun v44=>bnd (ixS (.d (.str [48,48,48,49,48,50,48,51,48,52,48,53,48,54,48,55,48,56,48,57,49,48,49,49,49,50,49,51,49,52,49,53,49,54,49,55,49,56,49,57,50,48,50,49,50,50,50,51,50,52,50,53,50,54,50,55,50,56,50,57,51,48,51,49,51,50,51,51,51,52,51,53,51,54,51,55,51,56,51,57,52,48,52,49,52,50,52,51,52,52,52,53,52,54,52,55,52,56,52,57,53,48,53,49,53,50,53,51,53,52,53,53,53,54,53,55,53,56,53,57,54,48,54,49,54,50,54,51,54,52,54,53,54,54,54,55,54,56,54,57,55,48,55,49,55,50,55,51,55,52,55,53,55,54,55,55,55,56,55,57,56,48,56,49,56,50,56,51,56,52,56,53,56,54,56,55,56,56,56,57,57,48,57,49,57,50,57,51,57,52,57,53,57,54,57,55,57,56,57,57])) v44) fun v45=>bnd (ixS (.d (.str [48,48,48,49,48,50,48,51,48,52,48,53,48,54,48,55,48,56,48,57,49,48,49,49,49,50,49,51,49,52,49,53,49,54,49,55,49,56,49,57,50,48,50,49,50,50,50,51,50,52,50,53,50,54,50,55,50,56,50,57,51,48,51,49,51,50,51,51,51,52,51,53,51,54,51,55,51,56,51,57,52,48,52,49,52,50,52,51,52,52,52,53,52,54,52,55,52,56,52,57,53,48,53,49,53,50,53,51,53,52,53,53,53,54,53,55,53,56,53,57,54,48,54,49,54,50,54,51,54,52,54,53,54,54,54,55,54,56,54,57,55,48,55,49,55,50,55,51,55,52,55,53,55,54,55,55,55,56,55,57,56,48,56,49,56,50,56,51,56,52,56,53,56,54,56,55,56,56,56,57,57,48,57,49,57,50,57,51,57,52,57,53,57,54,57,55,57,56,57,57])) v12) fun v46=>bxQ h 1 p0 v42 fun v47=>stD h 1 v47 v45 fun _ h=>bxQ h 1 p0 v43 fun v49=>stD h 1 v49 v46 fun _ h=>bIQ .sub (ge l 1) (I 8) fun v51=>q .normal [v4,v51] h) (q (.exit 0) [(ge l 0),(ge l 1)] h)
def bv (C:CC) (b:Nat) (h:Hp) (t0 t1:V) (q:kQ):Prop:=let h:Hp:=h++List.replicate 0 (0,.none)
 blQ t0 fun v1=>lp (cZ C b t0) [] h [t1,v1] h (exK [((.exit 0),fun l2 h=>bnd (cvI .u32 (ge l2 0)) fun v3=>bIQ .geq (ge l2 1) (I 4) fun v4=>jn (fun l5 h=>bIQ .geq (ge l5 1) (I 2) fun v7=>jn (fun l8 h=>bIQ .gtr (ge l8 1) (I 0) fun v10=>jn (fun l11 h=>q (.tup []) h) fun q12=>cnd v10 (bIQ .add (.d (.int .u32 48)) (ge l8 0) fun v13=>bnd (cvI .u8 v13) fun v14=>bxQ h 1 t0 (I 0) fun v15=>stD h 1 v15 v14 fun _ h=>q12 [] h) (q12 [] h)) fun q9=>cnd v7 (bIQ .rem (ge l5 0) (.d (.int .u32 100)) fun v17=>bIQ .mul v17 (.d (.int .u32 2)) fun v18=>bIQ .quo (ge l5 0) (.d (.int .u32 100)) fun v19=>bIQ .sub (ge l5 1) (I 1) fun v20=>bIQ .sub (ge l5 1) (I 2) fun v21=>bIQ .add v18 (.d (.int .u32 1)) fun v22=>bnd (ixS (.d (.str [48,48,48,49,48,50,48,51,48,52,48,53,48,54,48,55,48,56,48,57,49,48,49,49,49,50,49,51,49,52,49,53,49,54,49,55,49,56,49,57,50,48,50,49,50,50,50,51,50,52,50,53,50,54,50,55,50,56,50,57,51,48,51,49,51,50,51,51,51,52,51,53,51,54,51,55,51,56,51,57,52,48,52,49,52,50,52,51,52,52,52,53,52,54,52,55,52,56,52,57,53,48,53,49,53,50,53,51,53,52,53,53,53,54,53,55,53,56,53,57,54,48,54,49,54,50,54,51,54,52,54,53,54,54,54,55,54,56,54,57,55,48,55,49,55,50,55,51,55,52,55,53,55,54,55,55,55,56,55,57,56,48,56,49,56,50,56,51,56,52,56,53,56,54,56,55,56,56,56,57,57,48,57,49,57,50,57,51,57,52,57,53,57,54,57,55,57,56,57,57])) v22) fun v23=>bnd (ixS (.d (.str [48,48,48,49,48,50,48,51,48,52,48,53,48,54,48,55,48,56,48,57,49,48,49,49,49,50,49,51,49,52,49,53,49,54,49,55,49,56,49,57,50,48,50,49,50,50,50,51,50,52,50,53,50,54,50,55,50,56,50,57,51,48,51,49,51,50,51,51,51,52,51,53,51,54,51,55,51,56,51,57,52,48,52,49,52,50,52,51,52,52,52,53,52,54,52,55,52,56,52,57,53,48,53,49,53,50,53,51,53,52,53,53,53,54,53,55,53,56,53,57,54,48,54,49,54,50,54,51,54,52,54,53,54,54,54,55,54,56,54,57,55,48,55,49,55,50,55,51,55,52,55,53,55,54,55,55,55,56,55,57,56,48,56,49,56,50,56,51,56,52,56,53,56,54,56,55,56,56,56,57,57,48,57,49,57,50,57,51,57,52,57,53,57,54,57,55,57,56,57,57])) v18) fun v24=>bxQ h 1 t0 v20 fun v25=>stD h 1 v25 v23 fun _ h=>bxQ h 1 t0 v21 fun v27=>stD h 1 v27 v24 fun _ h=>bIQ .sub (ge l5 1) (I 2) fun v29=>q9 [v19,v29] h) (q9 [(ge l5 0),(ge l5 1)] h)) fun q6=>cnd v4 (bIQ .rem v3 (.d (.int .u32 10000)) fun v30=>bIQ .quo v3 (.d (.int .u32 10000)) fun v31=>bIQ .quo v30 (.d (.int .u32 100)) fun v32=>bIQ .mul v32 (.d (.int .u32 2)) fun v33=>bIQ .rem v30 (.d (.int .u32 100)) fun v34=>bIQ .mul v34 (.d (.int .u32 2)) fun v35=>bIQ .sub (ge l2 1) (I 1) fun v36=>bIQ .sub (ge l2 1) (I 2) fun v37=>bIQ .add v35 (.d (.int .u32 1)) fun v38=>bnd (ixS (.d (.str [48,48,48,49,48,50,48,51,48,52,48,53,48,54,48,55,48,56,48,57,49,48,49,49,49,50,49,51,49,52,49,53,49,54,49,55,49,56,49,57,50,48,50,49,50,50,50,51,50,52,50,53,50,54,50,55,50,56,50,57,51,48,51,49,51,50,51,51,51,52,51,53,51,54,51,55,51,56,51,57,52,48,52,49,52,50,52,51,52,52,52,53,52,54,52,55,52,56,52,57,53,48,53,49,53,50,53,51,53,52,53,53,53,54,53,55,53,56,53,57,54,48,54,49,54,50,54,51,54,52,54,53,54,54,54,55,54,56,54,57,55,48,55,49,55,50,55,51,55,52,55,53,55,54,55,55,55,56,55,57,56,48,56,49,56,50,56,51,56,52,56,53,56,54,56,55,56,56,56,57,57,48,57,49,57,50,57,51,57,52,57,53,57,54,57,55,57,56,57,57])) v38) fun v39=>bnd (ixS (.d (.str [48,48,48,49,48,50,48,51,48,52,48,53,48,54,48,55,48,56,48,57,49,48,49,49,49,50,49,51,49,52,49,53,49,54,49,55,49,56,49,57,50,48,50,49,50,50,50,51,50,52,50,53,50,54,50,55,50,56,50,57,51,48,51,49,51,50,51,51,51,52,51,53,51,54,51,55,51,56,51,57,52,48,52,49,52,50,52,51,52,52,52,53,52,54,52,55,52,56,52,57,53,48,53,49,53,50,53,51,53,52,53,53,53,54,53,55,53,56,53,57,54,48,54,49,54,50,54,51,54,52,54,53,54,54,54,55,54,56,54,57,55,48,55,49,55,50,55,51,55,52,55,53,55,54,55,55,55,56,55,57,56,48,56,49,56,50,56,51,56,52,56,53,56,54,56,55,56,56,56,57,57,48,57,49,57,50,57,51,57,52,57,53,57,54,57,55,57,56,57,57])) v35) fun v40=>bxQ h 1 t0 v36 fun v41=>stD h 1 v41 v39 fun _ h=>bxQ h 1 t0 v37 fun v43=>stD h 1 v43 v40 fun _ h=>bIQ .sub (ge l2 1) (I 3) fun v45=>bIQ .sub (ge l2 1) (I 4) fun v46=>bIQ .add v33 (.d (.int .u32 1)) fun v47=>bnd (ixS (.d (.str [48,48,48,49,48,50,48,51,48,52,48,53,48,54,48,55,48,56,48,57,49,48,49,49,49,50,49,51,49,52,49,53,49,54,49,55,49,56,49,57,50,48,50,49,50,50,50,51,50,52,50,53,50,54,50,55,50,56,50,57,51,48,51,49,51,50,51,51,51,52,51,53,51,54,51,55,51,56,51,57,52,48,52,49,52,50,52,51,52,52,52,53,52,54,52,55,52,56,52,57,53,48,53,49,53,50,53,51,53,52,53,53,53,54,53,55,53,56,53,57,54,48,54,49,54,50,54,51,54,52,54,53,54,54,54,55,54,56,54,57,55,48,55,49,55,50,55,51,55,52,55,53,55,54,55,55,55,56,55,57,56,48,56,49,56,50,56,51,56,52,56,53,56,54,56,55,56,56,56,57,57,48,57,49,57,50,57,51,57,52,57,53,57,54,57,55,57,56,57,57])) v47) fun v48=>bnd (ixS (.d (.str [48,48,48,49,48,50,48,51,48,52,48,53,48,54,48,55,48,56,48,57,49,48,49,49,49,50,49,51,49,52,49,53,49,54,49,55,49,56,49,57,50,48,50,49,50,50,50,51,50,52,50,53,50,54,50,55,50,56,50,57,51,48,51,49,51,50,51,51,51,52,51,53,51,54,51,55,51,56,51,57,52,48,52,49,52,50,52,51,52,52,52,53,52,54,52,55,52,56,52,57,53,48,53,49,53,50,53,51,53,52,53,53,53,54,53,55,53,56,53,57,54,48,54,49,54,50,54,51,54,52,54,53,54,54,54,55,54,56,54,57,55,48,55,49,55,50,55,51,55,52,55,53,55,54,55,55,55,56,55,57,56,48,56,49,56,50,56,51,56,52,56,53,56,54,56,55,56,56,56,57,57,48,57,49,57,50,57,51,57,52,57,53,57,54,57,55,57,56,57,57])) v33) fun v49=>bxQ h 1 t0 v45 fun v50=>stD h 1 v50 v48 fun _ h=>bxQ h 1 t0 v46 fun v52=>stD h 1 v52 v49 fun _ h=>bIQ .sub (ge l2 1) (I 4) fun v54=>q6 [v31,v54] h) (q6 [v3,(ge l2 1)] h))])
def ij (b:Nat):Ann:=(.n .x .o (.n .x (.n .x (.n (.l [1,4] [0] [((.exit 0),[1,4],[0])] []) .o .o) .o) (.n .x .o (.n .x (.n .x .o (.n (.j [12,4] [0]) .o .o)) (.n .x (.n .x .o (.n (.j [12,4] [0]) .o .o)) (.n .x .o (.n (.j [] []) .o .o)))))))
theorem oZ (C:CC) (h:Hp) (t0:V) (t1:V) (q:V->Hp->Prop):fnI Y C Go.Proofs.Tryz.f200 0 ij [t0,t1] h q=bv C h.length h t0 t1 q:=by
 rfl
theorem oX (b:Nat):okB Go.Proofs.Tryz.prog Go.Proofs.Tryz.f200 (ij b)=true:=by rfl
theorem oY {t0 t1 v:V} {h h2:Hp} (hh:bv (CX Y) h.length h t0 t1 (rL h.length v h2)):CI Y F.bv [t0,t1] h v h2:=
 CI.of (fn:=Go.Proofs.Tryz.f200) (m:=0) (a:=ij) rfl (fun _=>rfl) Go.Proofs.Tryz.func200 (oX _) (by rw [oZ];exact hh)
def d9 (C:CC) (t0:V) (q:kQ):Prop:=let h:Hp:=.replicate 0 (0,.none)
 bIQ .mul t0 (I 78913) fun v1=>bIQ .shr v1 (.d (.int .u64 18)) fun v2=>q v2 h
theorem qM {t0 v:V} (h:d9 (CX Y) t0 (out v)):CP Y F.d9 [t0] v:=CPo 0 .o Tryz.func212 h
def ef (C:CC) (t0:V) (q:kQ):Prop:=let h:Hp:=.replicate 0 (0,.none)
 cnd t0 (q (I 1) h) (q (I 0) h)
theorem qN {t0 v:V} (h:ef (CX Y) t0 (out v)):CP Y F.ef [t0] v:=CPo 0 .o Tryz.func213 h
def dD (C:CC) (t0:V) (q:kQ):Prop:=let h:Hp:=.replicate 0 (0,.none)
 bIQ .geq t0 (.d (.int .u64 4294967296)) fun v1=>jn (fun l2 h=>bIQ .geq (ge l2 0) (.d (.int .u64 65536)) fun v4=>jn (fun l5 h=>bIQ .geq (ge l5 0) (.d (.int .u64 256)) fun v7=>jn (fun l8 h=>bnd (cvI .u8 (ge l8 0)) fun v10=>bnd (ixS (.d (.str [0,1,2,2,3,3,3,3,4,4,4,4,4,4,4,4,5,5,5,5,5,5,5,5,5,5,5,5,5,5,5,5,6,6,6,6,6,6,6,6,6,6,6,6,6,6,6,6,6,6,6,6,6,6,6,6,6,6,6,6,6,6,6,6,7,7,7,7,7,7,7,7,7,7,7,7,7,7,7,7,7,7,7,7,7,7,7,7,7,7,7,7,7,7,7,7,7,7,7,7,7,7,7,7,7,7,7,7,7,7,7,7,7,7,7,7,7,7,7,7,7,7,7,7,7,7,7,7,8,8,8,8,8,8,8,8,8,8,8,8,8,8,8,8,8,8,8,8,8,8,8,8,8,8,8,8,8,8,8,8,8,8,8,8,8,8,8,8,8,8,8,8,8,8,8,8,8,8,8,8,8,8,8,8,8,8,8,8,8,8,8,8,8,8,8,8,8,8,8,8,8,8,8,8,8,8,8,8,8,8,8,8,8,8,8,8,8,8,8,8,8,8,8,8,8,8,8,8,8,8,8,8,8,8,8,8,8,8,8,8,8,8,8,8,8,8,8,8,8,8,8,8,8,8,8,8])) v10) fun v11=>bnd (cvI .i64 v11) fun v12=>bIQ .add (ge l8 1) v12 fun v13=>q v13 h) fun q9=>cnd v7 (bIQ .shr (ge l5 0) (.d (.int .u64 8)) fun v14=>bIQ .add (ge l5 1) (I 8) fun v15=>q9 [v14,v15] h) (q9 [(ge l5 0),(ge l5 1)] h)) fun q6=>cnd v4 (bIQ .shr (ge l2 0) (.d (.int .u64 16)) fun v16=>bIQ .add (ge l2 1) (I 16) fun v17=>q6 [v16,v17] h) (q6 [(ge l2 0),(ge l2 1)] h)) fun q3=>cnd v1 (bIQ .shr t0 (.d (.int .u64 32)) fun v18=>q3 [v18,(I 32)] h) (q3 [t0,(I 0)] h)
theorem uS {t0 v:V} (h:dD (CX Y) t0 (out v)):CP Y F.dD [t0] v:=CPo 0 (.n .x .o (.n .x (.n .x .o (.n (.j [0,2] []) .o .o)) (.n .x (.n .x .o (.n (.j [0,2] []) .o .o)) (.n .x (.n .x .o (.n (.j [0,2] []) .o .o)) .o)))) Tryz.func209 h
def et (C:CC) (t0 t1:V) (q:V->Hp->Prop):Prop:=let h:Hp:=List.replicate 0 (0,.none)
 bnd (biI .and t0 (.d (.int .u64 4294967295))) fun v1=>bnd (biI .shr t0 (.d (.int .u64 32))) fun v2=>bnd (biI .and t1 (.d (.int .u64 4294967295))) fun v3=>bnd (biI .shr t1 (.d (.int .u64 32))) fun v4=>bnd (biI .mul v1 v3) fun v5=>bnd (biI .mul v2 v3) fun v6=>bnd (biI .shr v5 (.d (.int .u64 32))) fun v7=>bnd (biI .add v6 v7) fun v8=>bnd (biI .and v8 (.d (.int .u64 4294967295))) fun v9=>bnd (biI .shr v8 (.d (.int .u64 32))) fun v10=>bnd (biI .mul v1 v4) fun v11=>bnd (biI .add v9 v11) fun v12=>bnd (biI .mul v2 v4) fun v13=>bnd (biI .add v13 v10) fun v14=>bnd (biI .shr v12 (.d (.int .u64 32))) fun v15=>bnd (biI .add v14 v15) fun v16=>bnd (biI .mul t0 t1) fun v17=>q (.tup [v16,v17]) h
theorem uR {t0 t1 v:V} (h:et (CX Y) t0 t1 (out v)):CP Y F.et [t0,t1] v:=CPo 0 .o Tryz.func192 h
def strconv_Atoi (C:CC) (t0:V) (q:kQ):Prop:=let h:Hp:=.replicate 0 (0,.none)
 clQ C h F.fc [t0] fun v1 h=>e2Q v1 fun v2 v3=>bnd (biF .neq v3 (.d (.pl .nilIface))) fun v4=>cnd v4 (clQ C h F.xA [(.d (.str [65,116,111,105])),t0,(I 0),(I 0),v3] fun v5 h=>q (.tup [v2,v5]) h) (q (.tup [v2,(.d (.pl .nilIface))]) h)
theorem rr {t0 v:V} (h:strconv_Atoi (CX Y) t0 (out v)):CP Y F.strconv_Atoi [t0] v:=CPo 0 .o Tryz.func159 h
def jC (C:CC) (p47 p48:V):bh:=fun l h q=>cIQ .lss (ge l 1) p48 (bxQ h 1 p47 (ge l 1) fun v2=>b1Q h v2 fun v3=>bIQ .sub v3 (.d (.int .u8 48)) fun v4=>cIQ .gtr v4 (.d (.int .u8 9)) (False /- makeInterface -/) (bIQ .mul (ge l 0) (I 10) fun v6=>bnd (cvI .i64 v4) fun v7=>bIQ .add v6 v7 fun v8=>bIQ .add (ge l 1) (I 1) fun v9=>q .normal [v8,v9] h)) (q (.exit 0) [(ge l 0)] h)
def fc (C:CC) (t0:V) (q:kQ):Prop:=let h:Hp:=.replicate 0 (0,.none)
 bnd (ko t0) fun v1=>gd (B false) true h (fun q=>q v1 h) fun v2 h=>gd (B false) true h (fun q=>bIQ .lss (I 0) v2 fun v=>q v h) fun v3 h=>gd (B false) true h (fun q=>q v3 h) fun v4 h=>gqQ v4 true h v1 fun v5 h=>gbQ v4 true h (biI .lss v5 (I 10)) fun v6 h=>gd (B false) true h (fun q=>bpQ v4 v6 (B false) fun v=>q v h) fun v7 h=>bpQ (B false) v7 (B false) fun v8=>gqQ v8 false h (B true) fun v9 h=>gqQ v9 true h v1 fun v10 h=>gbQ v9 true h (biI .lss (I 0) v10) fun v11 h=>gqQ v9 true h v11 fun v12 h=>gqQ v12 true h v1 fun v13 h=>gbQ v12 true h (biI .lss v13 (I 19)) fun v14 h=>gbQ v9 true h (cW v12 v14 (B false)) fun v15 h=>gbQ v8 false h (cW v9 v15 (B false)) fun v16 h=>bpQ v8 (B true) v16 fun v17=>cnd v17 (bnd (ixS t0 (I 0)) fun v18=>bIQ .eql v18 (.d (.int .u8 45)) fun v19=>gqQ v19 false h t0 fun v20 h=>gbQ v19 false h (ixS v20 (I 0)) fun v21 h=>gbQ v19 false h (biI .eql v21 (.d (.int .u8 43))) fun v22 h=>bpQ v19 (B true) v22 fun v23=>jn (fun l24 h=>cvB (ge l24 0) h fun v26 h=>blQ v26 fun v27=>lp (jC C v26 v27) [] h [(I 0),(I 0)] h (exK [((.exit 0),fun l28 h=>bnd (ixS t0 (I 0)) fun v29=>bIQ .eql v29 (.d (.int .u8 45)) fun v30=>jn (fun l31 h=>q (.tup [(ge l31 0),(.d (.pl .nilIface))]) h) fun q32=>cnd v30 (bnd (unV .neg (ge l28 0)) fun v33=>q32 [v33] h) (q32 [(ge l28 0)] h)), (.ret,fun l28 h=>q (.tup [(ge l28 0),(ge l28 1)]) h)])) fun q25=>cnd v23 (bnd (slS t0 (some (I 1)) none) fun v34=>bnd (ko v34) fun v35=>cIQ .lss v35 (I 1) (False /- makeInterface -/) (q25 [v34] h)) (q25 [t0] h)) (clQ C h F.tY [t0,(I 10),(I 0)] fun v37 h=>e2Q v37 fun v38 v39=>q (.tup [v38,v39]) h)
theorem pI {t0 v:V} (h:fc (CX Y) t0 (out v)):CP Y F.fc [t0] v:=CPo 0 (.n .x .o (.n .x .o (.n .x (.n .x .o (.n .x (.n .x .o (.n .x (.n .x .o (.n (.j [0] [5]) .o .o)) (.n .x .o (.n .x (.n .x .o (.n .x (.n (.l [6,49] [5,47,48] [((.exit 0),[6],[5]),(.ret,[2,3],[])] []) .o .o) .o)) (.n .x (.n .x .o (.n (.j [6] []) .o .o)) .o))))) .o)) .o))) Tryz.func186 h
end Go.Vm
namespace Go.Vm
open Go Go.Am Go.Proofs
end Go.Vm
namespace Go.Vm
open Go Go.Am Go.Proofs
def dK (C:CC) (p6 p7:V):bh:=fun l h q=>cIQ .lss (ge l 0) p7 (bxQ h 1 p6 (ge l 0) fun v2=>b1Q h v2 fun v3=>bIQ .lss v3 (.d (.int .u8 48)) fun v4=>gqQ v4 false h v3 fun v5 h=>gbQ v4 false h (biI .gtr v5 (.d (.int .u8 57))) fun v6 h=>bpQ v4 (B true) v6 fun v7=>cnd v7 (q .ret [(B false)] h) (bIQ .add (ge l 0) (I 1) fun v8=>q .normal [v8] h)) (q (.exit 0) [] h)
def fv (C:CC) (t0:V) (q:kQ):Prop:=let h:Hp:=.replicate 0 (0,.none)
 cvB t0 h fun v1 h=>blQ v1 fun v2=>lp (dK C v1 v2) [] h [(I 0)] h (exK [((.exit 0),fun l3 h=>bnd (ko t0) fun v4=>bIQ .eql v4 (I 1) fun v5=>gqQ v5 false h t0 fun v6 h=>gbQ v5 false h (ko v6) fun v7 h=>gbQ v5 false h (biI .gtr v7 (I 1)) fun v8 h=>gqQ v5 false h v8 fun v9 h=>gqQ v9 true h t0 fun v10 h=>gbQ v9 true h (ixS v10 (I 0)) fun v11 h=>gbQ v9 true h (biI .neq v11 (.d (.int .u8 48))) fun v12 h=>gbQ v5 false h (cW v9 v12 (B false)) fun v13 h=>bpQ v5 (B true) v13 fun v14=>q v14 h), (.ret,fun l3 h=>q (ge l3 0) h)])
theorem tg {t0 v:V} (h:fv (CX Y) t0 (out v)):CP Y F.fv [t0] v:=CPo 0 (.n .x .o (.n .x (.n .x .o (.n .x (.n (.l [8] [0,6,7] [((.exit 0),[],[0]),(.ret,[2],[])] []) .o .o) .o)) .o)) Tryz.func197 h
def io (C:CC) (t0:V) (q:kQ):Prop:=let h:Hp:=.replicate 0 (0,.none)
 clQ C h F.fv [t0] fun v1 h=>bnd (unV .not v1) fun v2=>gqQ v2 false h t0 fun v3 h=>gbQ v2 false h (ko v3) fun v4 h=>gbQ v2 false h (biI .gtr v4 (I 400)) fun v5 h=>bpQ v2 (B true) v5 fun v6=>cnd v6 (q (I 2) h) (q (I 0) h)
theorem ya {t0 v:V} (h:io (CX Y) t0 (out v)):CP Y F.io [t0] v:=CPo 0 .o Tryz.func181 h
def bw (C:CC) (b:Nat):bh:=fun l h q=>blQ (ge l 0) fun v1=>bIQ .gtr v1 (I 0) fun v2=>gqQ v2 true h (ge l 0) fun v3 h=>gqQ v2 true h (ge l 0) fun v4 h=>gbQ v2 true h (bq v4) fun v5 h=>gbQ v2 true h (biI .sub v5 (I 1)) fun v6 h=>gbQ v2 true h (ixV h 1 v3 v6) fun v7 h=>gbQ v2 true h (ld1 h v7) fun v8 h=>gbQ v2 true h (biI .eql v8 (.d (.int .u64 0))) fun v9 h=>bpQ v2 v9 (B false) fun v10=>cnd v10 (blQ (ge l 0) fun v11=>bIQ .sub v11 (I 1) fun v12=>bnd (slV h 1 (ge l 0) none (some v12)) fun v13=>q .normal [v13] h) (q (.exit 0) [(ge l 0)] h)
def ay (C:CC) (b:Nat) (h:Hp) (t0:V) (q:kQ):Prop:=let h:Hp:=h++List.replicate 0 (0,.none)
 lp (bw C b) [] h [t0] h (exK [((.exit 0),fun l1 h=>q (ge l1 0) h)])
def jw (b:Nat):Ann:=(.n .x .o (.n .x (.n .x (.n (.l [0] [] [((.exit 0),[0],[])] []) .o .o) .o) .o))
theorem qQ (C:CC) (h:Hp) (t0:V) (q:V->Hp->Prop):fnI Y C Go.Proofs.Tryz.f164 0 jw [t0] h q=ay C h.length h t0 q:=by
 rfl
theorem qP (b:Nat):okB Go.Proofs.Tryz.prog Go.Proofs.Tryz.f164 (jw b)=true:=by rfl
theorem ma {t0 v:V} {h h2:Hp} (hh:ay (CX Y) h.length h t0 (rL h.length v h2)):CI Y F.ay [t0] h v h2:=
 CI.of (fn:=Go.Proofs.Tryz.f164) (m:=0) (a:=jw) rfl (fun _=>rfl) Go.Proofs.Tryz.func164 (qP _) (by rw [qQ];exact hh)
def lS (C:CC) (b:Nat) (p25 p26:V):bh:=fun l h q=>cIQ .lss (ge l 1) p26 (bxQ h 1 p25 (ge l 1) fun v2=>b1Q h v2 fun v3=>bIQ .mul (.d (.int .u64 10)) (ge l 0) fun v4=>bIQ .sub v3 (.d (.int .u8 48)) fun v5=>bnd (cvI .u64 v5) fun v6=>bIQ .add v4 v6 fun v7=>bIQ .add (ge l 1) (I 1) fun v8=>q .normal [v7,v8] h) (q (.exit 2) [(ge l 0)] h)
def lT (C:CC) (b:Nat) (p0:V):bh:=fun l h q=>cIQ .gtr (ge l 1) (I 0) (bIQ .sub (ge l 1) (I 9) fun v2=>bnd (mxI true [(I 0),v2]) fun v3=>bnd (slS p0 (some v3) (some (ge l 1))) fun v4=>cvB v4 h fun v5 h=>blQ v5 fun v6=>lp (lS C b v5 v6) [] h [(.d (.int .u64 0)),(I 0)] h (exK [((.exit 2),fun l7 h=>eh 1 [.int .u64 0] [(0,(ge l7 0))] h fun v8 h=>apV false (b+1) 1 8 (ge l 0) v8 h fun v9 h=>bIQ .sub (ge l 1) (I 9) fun v10=>q .normal [v9,v10] h)])) (q (.exit 0) [(ge l 0)] h)
def bW (C:CC) (b:Nat) (h:Hp) (t0:V) (q:kQ):Prop:=let h:Hp:=h++List.replicate 3 (0,.none)
 bnd (ko t0) fun v1=>bIQ .quo v1 (I 9) fun v2=>bIQ .add v2 (I 1) fun v3=>mkS (b+0) 8 [.int .u64 0] h (I 0) v3 fun v4 h=>bnd (ko t0) fun v5=>lp (lT C b t0) [] h [v4,v5] h (exK [((.exit 0),fun l6 h=>ciQ C h F.ay [(ge l6 0)] (b+2) fun v7 h=>q v7 h)])
def o6 (b:Nat):Ann:=(.n .x .o (.n .x (.n (.r [.slot (b+0)]) .o .o) (.n .x (.n .x .o (.n .x (.n (.l [3,4] [0] [((.exit 0),[3],[])] []) (.n .x .o (.n .x (.n .x (.n .x .o (.n .x (.n .x .o (.n .x (.n (.l [5,27] [0,3,4,25,26] [((.exit 2),[5],[0,3,4])] []) .o .o) .o)) (.n (.r [.o,.slot (b+1)]) .o .o))) .o) .o)) .o) .o)) (.n .x (.n (.r [.inl (b+2)]) .o .o) .o))))
theorem BF (C:CC) (h:Hp) (t0:V) (q:V->Hp->Prop):fnI Y C Go.Proofs.Tryz.f162 3 o6 [t0] h q=bW C h.length h t0 q:=by
 rfl
theorem BD (b:Nat):okB Go.Proofs.Tryz.prog Go.Proofs.Tryz.f162 (o6 b)=true:=by rfl
theorem BE {t0 v:V} {h h2:Hp} (hh:bW (CX Y) h.length h t0 (rL h.length v h2)):CI Y F.bW [t0] h v h2:=
 CI.of (fn:=Go.Proofs.Tryz.f162) (m:=3) (a:=o6) rfl (fun _=>rfl) Go.Proofs.Tryz.func162 (BD _) (by rw [BF];exact hh)
def cI (C:CC) (b:Nat) (p0:V):bh:=fun l h q=>cIQ .lss (ge l 0) (ge l 1) (bxQ h 1 p0 (ge l 1) fun v2=>b1Q h v2 fun v3=>bxQ h 1 p0 (ge l 0) fun v4=>b1Q h v4 fun v5=>bxQ h 1 p0 (ge l 0) fun v6=>stD h 1 v6 v3 fun _ h=>bxQ h 1 p0 (ge l 1) fun v8=>stD h 1 v8 v5 fun _ h=>bIQ .add (ge l 0) (I 1) fun v10=>bIQ .sub (ge l 1) (I 1) fun v11=>q .normal [v10,v11] h) (q (.exit 0) [] h)
def bA (C:CC) (b:Nat) (h:Hp) (t0:V) (q:kQ):Prop:=let h:Hp:=h++List.replicate 0 (0,.none)
 blQ t0 fun v1=>bIQ .sub v1 (I 1) fun v2=>lp (cI C b t0) [] h [(I 0),v2] h (exK [((.exit 0),fun l3 h=>q (.tup []) h)])
def gB (b:Nat):Ann:=(.n .x .o (.n .x (.n (.l [2,3] [0] [((.exit 0),[],[])] []) .o .o) .o))
theorem oc (C:CC) (h:Hp) (t0:V) (q:V->Hp->Prop):fnI Y C Go.Proofs.Tryz.f190 0 gB [t0] h q=bA C h.length h t0 q:=by
 kernel_rfl
theorem nY (b:Nat):okB Go.Proofs.Tryz.prog Go.Proofs.Tryz.f190 (gB b)=true:=of_decide_eq_true ag
theorem nZ {t0 v:V} {h h2:Hp} (hh:bA (CX Y) h.length h t0 (rL h.length v h2)):CI Y F.bA [t0] h v h2:=
 CI.of (fn:=Go.Proofs.Tryz.f190) (m:=0) (a:=gB) rfl (fun _=>rfl) Go.Proofs.Tryz.func190 (nY _) (by rw [oc];exact hh)
def b9 (C:CC) (p0 p4:V):bh:=fun l h q=>bIQ .lss (ge l 2) (I 9) fun v1=>gqQ v1 true h p4 fun v2 h=>gbQ v1 true h (biI .add v2 (I 1)) fun v3 h=>gqQ v1 true h p0 fun v4 h=>gbQ v1 true h (bq v4) fun v5 h=>gbQ v1 true h (biI .lss v3 v5) fun v6 h=>gqQ v1 true h v6 fun v7 h=>gqQ v7 false h (ge l 1) fun v8 h=>gbQ v7 false h (biI .gtr v8 (.d (.int .u64 0))) fun v9 h=>gbQ v1 true h (cW v7 (B true) v9) fun v10 h=>bpQ v1 v10 (B false) fun v11=>cnd v11 (bIQ .rem (ge l 1) (.d (.int .u64 10)) fun v12=>bIQ .add (.d (.int .u64 48)) v12 fun v13=>bnd (cvI .u8 v13) fun v14=>eh 1 [.int .u8 0] [(0,v14)] h fun v15 h=>apV false 1 1 1 (ge l 0) v15 h fun v16 h=>bIQ .quo (ge l 1) (.d (.int .u64 10)) fun v17=>bIQ .add (ge l 2) (I 1) fun v18=>q .normal [v16,v17,v18] h) (q (.exit 2) [(ge l 0)] h)
def fO (C:CC) (p0 p14 p15:V):bh:=fun l h q=>cIQ .lss (ge l 1) p15 (bxQ h 1 p14 (ge l 1) fun v2=>b1Q h v2 fun v3=>lp (b9 C p0 (ge l 1)) [] h [(ge l 0),v3,(I 0)] h (exK [((.exit 2),fun l4 h=>bIQ .add (ge l 1) (I 1) fun v5=>q .normal [(ge l4 0),v5] h)])) (q (.exit 0) [(ge l 0)] h)
def aJ (C:CC) (t0:V) (q:kQ):Prop:=let h:Hp:=.replicate 3 (0,.none)
 blQ t0 fun v1=>cIQ .eql v1 (I 0) (q (.d (.str [48])) h) (blQ t0 fun v3=>bIQ .mul (I 9) v3 fun v4=>mkS 0 1 [.int .u8 0] h (I 0) v4 fun v5 h=>blQ t0 fun v6=>lp (fO C t0 t0 v6) [] h [v5,(I 0)] h (exK [((.exit 0),fun l7 h=>ciQ C h F.bA [(ge l7 0)] 2 fun v8 h=>bnd (cvT h (ge l7 0)) fun v9=>q v9 h)]))
theorem qR {t0 v:V} (h:aJ (CX Y) t0 (out v)):CP Y F.aJ [t0] v:=CPo 3 (.n .x .o (.n .x .o (.n .x (.n (.r [.slot 0]) .o .o) (.n .x (.n .x .o (.n .x (.n (.l [3,16] [0,14,15] [((.exit 0),[3],[])] []) (.n .x .o (.n .x .o (.n .x (.n .x (.n .x .o (.n .x .o (.n .x (.n (.l [3,5,6] [0,4,14,15,16] [((.exit 2),[3],[0,14,15,16])] []) (.n .x .o (.n .x (.n .x (.n .x (.n (.r [.o,.slot 1]) .o .o) .o) .o) .o)) .o) .o))) .o) .o))) .o) .o)) (.n .x (.n (.r [.inl 2]) .o .o) .o))))) Tryz.func165 h
def bX (C:CC) (p0 p1:V):bh:=fun l h q=>cIQ .geq (ge l 0) (I 0) (bxQ h 1 p0 (ge l 0) fun v2=>b1Q h v2 fun v3=>bxQ h 1 p1 (ge l 0) fun v4=>b1Q h v4 fun v5=>cIQ .lss v3 v5 (q .ret [(I (-1))] h) (bxQ h 1 p0 (ge l 0) fun v7=>b1Q h v7 fun v8=>bxQ h 1 p1 (ge l 0) fun v9=>b1Q h v9 fun v10=>cIQ .gtr v8 v10 (q .ret [(I 1)] h) (bIQ .sub (ge l 0) (I 1) fun v12=>q .normal [v12] h))) (q (.exit 0) [] h)
def bJ (C:CC) (t0 t1:V) (q:kQ):Prop:=let h:Hp:=.replicate 0 (0,.none)
 blQ t0 fun v1=>blQ t1 fun v2=>cIQ .neq v1 v2 (blQ t0 fun v4=>blQ t1 fun v5=>bIQ .sub v4 v5 fun v6=>bnd (mxI true [(I (-1)),v6]) fun v7=>bnd (mxI false [(I 1),v7]) fun v8=>q v8 h) (blQ t0 fun v9=>bIQ .sub v9 (I 1) fun v10=>lp (bX C t0 t1) [] h [v10] h (exK [((.exit 0),fun l11 h=>q (I 0) h), (.ret,fun l11 h=>q (ge l11 0) h)]))
theorem o5 {t0 t1 v:V} (h:bJ (CX Y) t0 t1 (out v)):CP Y F.bJ [t0,t1] v:=CPo 0 (.n .x .o (.n .x .o (.n .x (.n .x .o (.n .x (.n (.l [5] [0,1] [((.exit 0),[],[]),(.ret,[4],[])] []) .o .o) .o)) .o))) Tryz.func178 h
def fq (C:CC) (b:Nat) (p5 p6 p7 p24 p25:V):bh:=fun l h q=>cIQ .lss (ge l 1) p25 (bxQ h 1 p24 (ge l 1) fun v2=>b1Q h v2 fun v3=>bIQ .add p6 (ge l 1) fun v4=>bxQ h 1 p5 v4 fun v5=>b1Q h v5 fun v6=>bIQ .mul p7 v3 fun v7=>bIQ .add v6 v7 fun v8=>bIQ .add (ge l 0) v8 fun v9=>bIQ .add p6 (ge l 1) fun v10=>bIQ .rem v9 (.d (.int .u64 1000000000)) fun v11=>bxQ h 1 p5 v10 fun v12=>stD h 1 v12 v11 fun _ h=>bIQ .quo v9 (.d (.int .u64 1000000000)) fun v14=>bIQ .add (ge l 1) (I 1) fun v15=>q .normal [v14,v15] h) (q (.exit 2) [(ge l 0)] h)
def ft (C:CC) (b:Nat) (p1 p5 p17 p18:V):bh:=fun l h q=>cIQ .lss (ge l 0) p18 (bxQ h 1 p17 (ge l 0) fun v2=>b1Q h v2 fun v3=>blQ p1 fun v4=>lp (fq C b p5 (ge l 0) v3 p1 v4) [] h [(.d (.int .u64 0)),(I 0)] h (exK [((.exit 2),fun l5 h=>blQ p1 fun v6=>bIQ .add (ge l 0) v6 fun v7=>bxQ h 1 p5 v7 fun v8=>stD h 1 v8 (ge l5 0) fun _ h=>bIQ .add (ge l 0) (I 1) fun v10=>q .normal [v10] h)])) (q (.exit 0) [] h)
def bb (C:CC) (b:Nat) (h:Hp) (t0 t1:V) (q:kQ):Prop:=let h:Hp:=h++List.replicate 2 (0,.none)
 blQ t0 fun v1=>blQ t1 fun v2=>bIQ .add v1 v2 fun v3=>mkS (b+0) 8 [.int .u64 0] h v3 v3 fun v4 h=>blQ t0 fun v5=>lp (ft C b t1 v4 t0 v5) [] h [(I 0)] h (exK [((.exit 0),fun l6 h=>ciQ C h F.ay [v4] (b+1) fun v7 h=>q v7 h)])
def iZ (b:Nat):Ann:=(.n .x .o (.n .x (.n (.r [.slot (b+0)]) .o .o) (.n .x (.n .x .o (.n .x (.n (.l [19] [1,5,17,18] [((.exit 0),[],[5])] []) (.n .x .o (.n .x .o (.n .x (.n .x (.n .x .o (.n .x .o (.n .x (.n .x .o (.n .x (.n (.l [8,26] [1,5,6,7,17,18,19,24,25] [((.exit 2),[8],[1,5,6,17,18,19])] []) .o .o) .o)) .o))) .o) .o))) .o) .o)) (.n .x (.n (.r [.inl (b+1)]) .o .o) .o))))
theorem qv (C:CC) (h:Hp) (t0:V) (t1:V) (q:V->Hp->Prop):fnI Y C Go.Proofs.Tryz.f167 2 iZ [t0,t1] h q=bb C h.length h t0 t1 q:=by
 rfl
theorem qt (b:Nat):okB Go.Proofs.Tryz.prog Go.Proofs.Tryz.f167 (iZ b)=true:=by rfl
theorem qu {t0 t1 v:V} {h h2:Hp} (hh:bb (CX Y) h.length h t0 t1 (rL h.length v h2)):CI Y F.bb [t0,t1] h v h2:=
 CI.of (fn:=Go.Proofs.Tryz.f167) (m:=2) (a:=iZ) rfl (fun _=>rfl) Go.Proofs.Tryz.func167 (qt _) (by rw [qv];exact hh)
def bG (C:CC) (b:Nat) (h:Hp) (t0 t1:V) (q:kQ):Prop:=let h:Hp:=h++List.replicate 2 (0,.none)
 eh 1 [.int .u64 0] [(0,t1)] h fun v1 h=>ciQ C h F.ay [v1] (b+0) fun v2 h=>ciQ C h F.bb [t0,v2] (b+1) fun v3 h=>q v3 h
def iF (b:Nat):Ann:=(.n .x .o (.n .x (.n (.r [.o,.inl (b+0),.inl (b+1)]) .o .o) .o))
theorem pO (C:CC) (h:Hp) (t0:V) (t1:V) (q:V->Hp->Prop):fnI Y C Go.Proofs.Tryz.f196 2 iF [t0,t1] h q=bG C h.length h t0 t1 q:=by
 rfl
theorem pM (b:Nat):okB Go.Proofs.Tryz.prog Go.Proofs.Tryz.f196 (iF b)=true:=by rfl
theorem pN {t0 t1 v:V} {h h2:Hp} (hh:bG (CX Y) h.length h t0 t1 (rL h.length v h2)):CI Y F.bG [t0,t1] h v h2:=
 CI.of (fn:=Go.Proofs.Tryz.f196) (m:=2) (a:=iF) rfl (fun _=>rfl) Go.Proofs.Tryz.func196 (pM _) (by rw [pO];exact hh)
def fu (C:CC) (p0 p1 p6:V):bh:=fun l h q=>cIQ .geq (ge l 1) (I 0) (bIQ .mul (ge l 0) (.d (.int .u64 1000000000)) fun v2=>bxQ h 1 p0 (ge l 1) fun v3=>b1Q h v3 fun v4=>bIQ .add v2 v4 fun v5=>bIQ .quo v5 p1 fun v6=>bxQ h 1 p6 (ge l 1) fun v7=>stD h 1 v7 v6 fun _ h=>bIQ .rem v5 p1 fun v9=>bIQ .sub (ge l 1) (I 1) fun v10=>q .normal [v9,v10] h) (q (.exit 0) [(ge l 0)] h)
def bV (C:CC) (t0 t1:V) (q:kQ):Prop:=let h:Hp:=.replicate 2 (0,.none)
 blQ t0 fun v1=>mkS 0 8 [.int .u64 0] h v1 v1 fun v2 h=>blQ t0 fun v3=>bIQ .sub v3 (I 1) fun v4=>lp (fu C t0 t1 v2) [] h [(.d (.int .u64 0)),v4] h (exK [((.exit 0),fun l5 h=>ciQ C h F.ay [v2] 1 fun v6 h=>q (.tup [v6,(ge l5 0)]) h)])
theorem qw {t0 t1 v:V} (h:bV (CX Y) t0 t1 (out v)):CP Y F.bV [t0,t1] v:=CPo 2 (.n .x .o (.n .x (.n (.r [.slot 0]) .o .o) (.n .x .o (.n .x (.n .x .o (.n .x (.n (.l [7,8] [0,1,6] [((.exit 0),[7],[6])] []) .o .o) .o)) (.n .x (.n (.r [.inl 1]) .o .o) .o))))) Tryz.func179 h
def d6 (C:CC) (b:Nat) (p0 p1 p2 p3:V):bh:=fun l h q=>blQ p1 fun v1=>cIQ .leq (ge l 2) v1 (blQ p1 fun v3=>bIQ .lss (ge l 2) v3 fun v4=>jn (fun l5 h=>bIQ .add p3 (ge l 2) fun v7=>bxQ h 1 p0 v7 fun v8=>b1Q h v8 fun v9=>bnd (cvI .i64 v9) fun v10=>bIQ .rem (ge l5 0) (.d (.int .u64 1000000000)) fun v11=>bnd (cvI .i64 v11) fun v12=>bIQ .sub v10 v12 fun v13=>bIQ .sub v13 (ge l 1) fun v14=>bIQ .quo (ge l5 0) (.d (.int .u64 1000000000)) fun v15=>bIQ .lss v14 (I 0) fun v16=>jn (fun l17 h=>bIQ .add p3 (ge l 2) fun v19=>bnd (cvI .u64 (ge l17 0)) fun v20=>bxQ h 1 p0 v19 fun v21=>stD h 1 v21 v20 fun _ h=>bIQ .add (ge l 2) (I 1) fun v23=>q .normal [v15,(ge l17 1),v23] h) fun q18=>cnd v16 (bIQ .add v14 (I 1000000000) fun v24=>q18 [v24,(I 1)] h) (q18 [v14,(I 0)] h)) fun q6=>cnd v4 (bxQ h 1 p1 (ge l 2) fun v25=>b1Q h v25 fun v26=>bIQ .mul p2 v26 fun v27=>bIQ .add (ge l 0) v27 fun v28=>q6 [v28] h) (q6 [(ge l 0)] h)) (q (.exit 0) [(ge l 1)] h)
def cF (C:CC) (b:Nat) (h:Hp) (t0 t1 t2 t3:V) (q:kQ):Prop:=let h:Hp:=h++List.replicate 0 (0,.none)
 lp (d6 C b t0 t1 t2 t3) [] h [(.d (.int .u64 0)),(I 0),(I 0)] h (exK [((.exit 0),fun l1 h=>bIQ .gtr (ge l1 0) (I 0) fun v2=>q v2 h)])
def jy (b:Nat):Ann:=(.n .x .o (.n .x .o (.n .x .o (.n .x (.n .x .o (.n .x (.n (.l [10,9,11] [0,1,2,3] [((.exit 0),[9],[])] []) (.n .x .o (.n .x (.n .x (.n .x (.n .x .o (.n (.j [10] [0,1,2,3,9,11]) .o .o)) (.n .x .o (.n .x .o (.n .x .o (.n .x (.n .x .o (.n (.j [12,9] [0,1,2,3,10,11]) .o .o)) .o))))) .o) .o)) .o) .o)) .o))))
theorem qV (C:CC) (h:Hp) (t0:V) (t1:V) (t2:V) (t3:V) (q:V->Hp->Prop):fnI Y C Go.Proofs.Tryz.f166 0 jy [t0,t1,t2,t3] h q=cF C h.length h t0 t1 t2 t3 q:=by
 rfl
theorem qS (b:Nat):okB Go.Proofs.Tryz.prog Go.Proofs.Tryz.f166 (jy b)=true:=by rfl
theorem qU {t0 t1 t2 t3 v:V} {h h2:Hp} (hh:cF (CX Y) h.length h t0 t1 t2 t3 (rL h.length v h2)):CI Y F.cF [t0,t1,t2,t3] h v h2:=
 CI.of (fn:=Go.Proofs.Tryz.f166) (m:=0) (a:=jy) rfl (fun _=>rfl) Go.Proofs.Tryz.func166 (qS _) (by rw [qV];exact hh)
def fP (C:CC) (b:Nat) (p0 p1 p2:V):bh:=fun l h q=>blQ p1 fun v1=>cIQ .leq (ge l 1) v1 (bIQ .add p2 (ge l 1) fun v3=>bxQ h 1 p0 v3 fun v4=>b1Q h v4 fun v5=>bIQ .add (ge l 0) v5 fun v6=>blQ p1 fun v7=>bIQ .lss (ge l 1) v7 fun v8=>jn (fun l9 h=>bIQ .add p2 (ge l 1) fun v11=>bIQ .rem (ge l9 0) (.d (.int .u64 1000000000)) fun v12=>bxQ h 1 p0 v11 fun v13=>stD h 1 v13 v12 fun _ h=>bIQ .quo (ge l9 0) (.d (.int .u64 1000000000)) fun v15=>bIQ .add (ge l 1) (I 1) fun v16=>q .normal [v15,v16] h) fun q10=>cnd v8 (bxQ h 1 p1 (ge l 1) fun v17=>b1Q h v17 fun v18=>bIQ .add v6 v18 fun v19=>q10 [v19] h) (q10 [v6] h)) (q (.exit 0) [] h)
def bO (C:CC) (b:Nat) (h:Hp) (t0 t1 t2:V) (q:kQ):Prop:=let h:Hp:=h++List.replicate 0 (0,.none)
 lp (fP C b t0 t1 t2) [] h [(.d (.int .u64 0)),(I 0)] h (exK [((.exit 0),fun l1 h=>q (.tup []) h)])
def jz (b:Nat):Ann:=(.n .x .o (.n .x .o (.n .x (.n (.l [6,7] [0,1,2] [((.exit 0),[],[])] []) (.n .x .o (.n .x (.n .x (.n .x .o (.n .x (.n .x .o (.n (.j [6] [0,1,2,7]) .o .o)) .o)) .o) .o)) .o) .o)))
theorem qY (C:CC) (h:Hp) (t0:V) (t1:V) (t2:V) (q:V->Hp->Prop):fnI Y C Go.Proofs.Tryz.f163 0 jz [t0,t1,t2] h q=bO C h.length h t0 t1 t2 q:=by
 rfl
theorem qW (b:Nat):okB Go.Proofs.Tryz.prog Go.Proofs.Tryz.f163 (jz b)=true:=by rfl
theorem qX {t0 t1 t2 v:V} {h h2:Hp} (hh:bO (CX Y) h.length h t0 t1 t2 (rL h.length v h2)):CI Y F.bO [t0,t1,t2] h v h2:=
 CI.of (fn:=Go.Proofs.Tryz.f163) (m:=0) (a:=jz) rfl (fun _=>rfl) Go.Proofs.Tryz.func163 (qW _) (by rw [qY];exact hh)
def im (C:CC) (p0:V):bh:=fun l h q=>blQ (ge l 0) fun v1=>blQ p0 fun v2=>cIQ .leq v1 v2 (eh 1 [.int .u64 0] [(0,(.d (.int .u64 0)))] h fun v4 h=>apV false 3 1 8 (ge l 0) v4 h fun v5 h=>q .normal [v5] h) (q (.exit 0) [(ge l 0)] h)
def aX (C:CC) (p7 p8 p9 p11:V):bh:=fun l h q=>bIQ .geq (ge l 0) (.d (.int .u64 1000000000)) fun v1=>gqQ v1 false h (ge l 1) fun v2 h=>gbQ v1 false h (biI .lss v2 (.d (.int .u64 1000000000))) fun v3 h=>gqQ v1 false h v3 fun v4 h=>gqQ v4 true h (ge l 0) fun v5 h=>gqQ v4 true h p8 fun v6 h=>gqQ v4 true h p9 fun v7 h=>gbQ v4 true h (biI .sub v7 (I 2)) fun v8 h=>gbQ v4 true h (ixV h 1 v6 v8) fun v9 h=>gbQ v4 true h (ld1 h v9) fun v10 h=>gbQ v4 true h (biI .mul v5 v10) fun v11 h=>gqQ v4 true h (ge l 1) fun v12 h=>gbQ v4 true h (biI .mul v12 (.d (.int .u64 1000000000))) fun v13 h=>gqQ v4 true h p7 fun v14 h=>gqQ v4 true h p11 fun v15 h=>gqQ v4 true h p9 fun v16 h=>gbQ v4 true h (biI .add v15 v16) fun v17 h=>gbQ v4 true h (biI .sub v17 (I 2)) fun v18 h=>gbQ v4 true h (ixV h 1 v14 v18) fun v19 h=>gbQ v4 true h (ld1 h v19) fun v20 h=>gbQ v4 true h (biI .add v13 v20) fun v21 h=>gbQ v4 true h (biI .gtr v11 v21) fun v22 h=>gbQ v1 false h (cW v4 v22 (B false)) fun v23 h=>bpQ v1 (B true) v23 fun v24=>cnd v24 (bIQ .sub (ge l 0) (.d (.int .u64 1)) fun v25=>bIQ .sub p9 (I 1) fun v26=>bxQ h 1 p8 v26 fun v27=>b1Q h v27 fun v28=>bIQ .add (ge l 1) v28 fun v29=>q .normal [v25,v29] h) (q (.exit 4) [(ge l 0)] h)
def cx (C:CC) (p7 p8 p9 p10:V):bh:=fun l h q=>cIQ .geq (ge l 0) (I 0) (bIQ .add (ge l 0) p9 fun v2=>bxQ h 1 p7 v2 fun v3=>b1Q h v3 fun v4=>bIQ .mul v4 (.d (.int .u64 1000000000)) fun v5=>bIQ .add (ge l 0) p9 fun v6=>bIQ .sub v6 (I 1) fun v7=>bxQ h 1 p7 v7 fun v8=>b1Q h v8 fun v9=>bIQ .add v5 v9 fun v10=>bIQ .sub p9 (I 1) fun v11=>bxQ h 1 p8 v11 fun v12=>b1Q h v12 fun v13=>bIQ .quo v10 v13 fun v14=>bIQ .sub p9 (I 1) fun v15=>bxQ h 1 p8 v15 fun v16=>b1Q h v16 fun v17=>bIQ .rem v10 v17 fun v18=>lp (aX C p7 p8 p9 (ge l 0)) [] h [v14,v18] h (exK [((.exit 4),fun l19 h=>ciQ C h F.cF [p7,p8,(ge l19 0),(ge l 0)] 5 fun v20 h=>jn (fun l21 h=>bxQ h 1 p10 (ge l 0) fun v23=>stD h 1 v23 (ge l21 0) fun _ h=>bIQ .sub (ge l 0) (I 1) fun v25=>q .normal [v25] h) fun q22=>cnd v20 (bIQ .sub (ge l19 0) (.d (.int .u64 1)) fun v26=>ciQ C h F.bO [p7,p8,(ge l 0)] 6 fun v27 h=>q22 [v26] h) (q22 [(ge l19 0)] h))])) (q (.exit 2) [] h)
def cG (C:CC) (t0 t1:V) (q:kQ):Prop:=let h:Hp:=.replicate 9 (0,.none)
 blQ t1 fun v1=>bIQ .sub v1 (I 1) fun v2=>bxQ h 1 t1 v2 fun v3=>b1Q h v3 fun v4=>bIQ .add v4 (.d (.int .u64 1)) fun v5=>bIQ .quo (.d (.int .u64 1000000000)) v5 fun v6=>ciQ C h F.bG [t0,v6] 0 fun v7 h=>eh 1 [.int .u64 0] [(0,(.d (.int .u64 0)))] h fun v8 h=>apV false 1 1 8 v7 v8 h fun v9 h=>ciQ C h F.bG [t1,v6] 2 fun v10 h=>blQ v10 fun v11=>lp (im C t0) [] h [v9] h (exK [((.exit 0),fun l12 h=>blQ (ge l12 0) fun v13=>bIQ .sub v13 v11 fun v14=>mkS 4 8 [.int .u64 0] h v14 v14 fun v15 h=>blQ (ge l12 0) fun v16=>bIQ .sub v16 v11 fun v17=>bIQ .sub v17 (I 1) fun v18=>lp (cx C (ge l12 0) v10 v11 v15) [5,6] h [v18] h (exK [((.exit 2),fun l19 h=>ciQ C h F.ay [(ge l12 0)] 7 fun v20 h=>clQ C h F.bV [v20,v6] fun v21 h=>e2Q v21 fun v22 v23=>ciQ C h F.ay [v15] 8 fun v24 h=>q (.tup [v24,v22]) h)]))])
def iG:Ann:=(.n .x .o (.n .x .o (.n .x (.n (.r [.inl 0,.o,.slot 1,.inl 2]) .o .o) (.n .x .o (.n .x (.n .x (.n (.l [7] [0,6,8,9] [((.exit 0),[7],[6,8,9])] []) (.n .x .o (.n .x (.n (.r [.o,.slot 3]) .o .o) .o)) .o) .o) (.n .x (.n (.r [.slot 4]) .o .o) (.n .x (.n .x .o (.n .x (.n (.l [11] [6,7,8,9,10] [((.exit 2),[],[6,7,10])] [5,6]) (.n .x .o (.n .x (.n .x (.n .x .o (.n .x .o (.n .x (.n .x (.n (.l [13,14] [6,7,8,9,10,11] [((.exit 4),[13],[6,7,8,9,10,11])] []) .o .o) .o) (.n .x (.n .x (.n (.r [.inl 5]) .o .o) (.n (.j [13] [6,7,8,9,10,11]) (.n .x .o (.n (.r [.inl 6]) .o .o)) .o)) .o)))) .o) .o)) .o) .o)) (.n .x (.n (.r [.inl 7]) .o .o) (.n .x (.n (.r [.inl 8]) .o .o) .o)))))))))
attribute [local irreducible] bnd gd cal cnd ext eh tf stD alV alD iI jn lp exK mkS apV cai tQ in
theorem pR (C:CC) (t0:V) (t1:V) (q:V->Hp->Prop):fnD Y C Go.Proofs.Tryz.f180 9 iG [t0,t1] q=cG C t0 t1 q:=by
 repeat' (first | (refine AQ rfl fun _=>?_) | (refine Ir rfl fun _ _=>?_) | (refine AM rfl fun _ _=>?_) | (refine AI rfl ?_ ?_) | (refine An rfl fun _=>?_) | (refine tV rfl fun _ _=>?_) | (refine zb rfl fun _ _=>?_) | (refine AU rfl fun _ _=>?_) | (refine uf rfl fun _ _=>?_) | (refine Il rfl (fun _ _=>?_) fun _=>?_) | (refine Ih rfl (fun _ _ _=>?_) fun _ _ _=>?_) | (refine Ap rfl (fun _ _=>?_) ?_) | (refine zK rfl fun _ _=>?_) | (refine AT rfl fun _ _=>?_) | (refine AN rfl fun _ _=>?_) | (refine tU rfl fun _ _=>?_) | (refine AV rfl fun _ _=>?_) | (refine tP rfl fun _=>?_) | exact rfl | (refine tW rfl ?_))
theorem pP:okB Go.Proofs.Tryz.prog Go.Proofs.Tryz.f180 iG=true:=aG
theorem pQ {t0 t1 v:V} (h:cG (CX Y) t0 t1 (out v)):CP Y F.cG [t0,t1] v:=
 CP.of (fn:=Go.Proofs.Tryz.f180) (m:=9) (a:=iG) rfl (fun _=>rfl) Go.Proofs.Tryz.func180 pP (by rw [pR];exact h)
end Go.Vm
namespace Go.Vm
open Go Go.Am Go.Proofs
end Go.Vm
namespace Go.Vm
open Go Go.Am Go.Proofs
end Go.Vm
namespace Go.Vm
open Go Go.Am Go.Proofs
end Go.Vm
namespace Go.Vm
open Go Go.Am Go.Proofs
end Go.Vm
namespace Go.Vm
open Go Go.Am Go.Proofs
def aN (C:CC) (t0:V) (q:kQ):Prop:=let h:Hp:=.replicate 0 (0,.none)
 bnd (ko t0) fun v1=>bIQ .gtr v1 (I 0) fun v2=>gqQ v2 true h t0 fun v3 h=>gbQ v2 true h (ixS v3 (I 0)) fun v4 h=>gbQ v2 true h (biI .eql v4 (.d (.int .u8 45))) fun v5 h=>bpQ v2 v5 (B false) fun v6=>cnd v6 (bnd (slS t0 (some (I 1)) none) fun v7=>q (.tup [(B true),v7]) h) (q (.tup [(B false),t0]) h)
theorem A7 {t0 v:V} (h:aN (CX Y) t0 (out v)):CP Y F.aN [t0] v:=CPo 0 .o Tryz.func128 h
def jD (C:CC) (t0:V) (q:kQ):Prop:=let h:Hp:=.replicate 0 (0,.none)
 clQ C h F.aN [t0] fun v1 h=>e2Q v1 fun v2 v3=>gqQ v2 true h v3 fun v4 h=>gbQ v2 true h (biS .eql v4 (.d (.str [48]))) fun v5 h=>bpQ v2 v5 (B false) fun v6=>gqQ v6 false h v3 fun v7 h=>gd v6 false h (fun q=>clQ C h F.io [v7] q) fun v8 h=>gbQ v6 false h (biI .neq v8 (I 0)) fun v9 h=>bpQ v6 (B true) v9 fun v10=>cnd v10 (q (I 2) h) (q (I 0) h)
theorem Bg {t0 v:V} (h:jD (CX Y) t0 (out v)):CP Y F.jD [t0] v:=CPo 0 .o Tryz.func150 h
def bp (C:CC) (t0:V) (q:kQ):Prop:=let h:Hp:=.replicate 0 (0,.none)
 bSQ .eql t0 (.d (.str [48])) fun v1=>cnd v1 (q (I 0) h) (bnd (ixS t0 (I 0)) fun v2=>cIQ .eql v2 (.d (.int .u8 45)) (q (I (-1)) h) (q (I 1) h))
theorem Dg {t0 v:V} (h:bp (CX Y) t0 (out v)):CP Y F.bp [t0] v:=CPo 0 .o Tryz.func110 h
def bT (C:CC) (t0:V) (q:kQ):Prop:=let h:Hp:=.replicate 0 (0,.none)
 clQ C h F.strconv_Itoa [t0] fun v1 h=>q v1 h
theorem yN {t0 v:V} (h:bT (CX Y) t0 (out v)):CP Y F.bT [t0] v:=CPo 0 .o Tryz.func87 h
def bj (C:CC) (t0 t1:V) (q:kQ):Prop:=let h:Hp:=.replicate 0 (0,.none)
 bnd (ko t0) fun v1=>cIQ .gtr v1 t1 (q (.tup [(I 0),(B false)]) h) (clQ C h F.strconv_Atoi [t0] fun v3 h=>e2Q v3 fun v4 v5=>bnd (biF .eql v5 (.d (.pl .nilIface))) fun v6=>q (.tup [v4,v6]) h)
theorem nR {t0 t1 v:V} (h:bj (CX Y) t0 t1 (out v)):CP Y F.bj [t0,t1] v:=CPo 0 .o Tryz.func127 h
def gz (C:CC) (t0:V) (q:kQ):Prop:=let h:Hp:=.replicate 0 (0,.none)
 clQ C h F.aN [t0] fun v1 h=>e2Q v1 fun v2 v3=>q v3 h
theorem wY {t0 v:V} (h:gz (CX Y) t0 (out v)):CP Y F.gz [t0] v:=CPo 0 .o Tryz.func156 h
def nz (C:CC):bh:=fun l h q=>cIQ .neq (ge l 1) (I 0) (bIQ .rem (ge l 0) (ge l 1) fun v2=>q .normal [(ge l 1),v2] h) (q (.exit 0) [(ge l 0)] h)
def nK (C:CC) (t0 t1:V) (q:kQ):Prop:=let h:Hp:=.replicate 0 (0,.none)
 lp (nz C) [] h [t0,t1] h (exK [((.exit 0),fun l1 h=>q (ge l1 0) h)])
theorem ES {t0 t1 v:V} (h:nK (CX Y) t0 t1 (out v)):CP Y F.nK [t0,t1] v:=CPo 0 (.n .x .o (.n .x (.n .x (.n (.l [0,1] [] [((.exit 0),[0],[])] []) .o .o) .o) .o)) Tryz.func182 h
def kT (C:CC) (t0 t1:V) (q:kQ):Prop:=let h:Hp:=.replicate 0 (0,.none)
 clQ C h F.gz [t0] fun v1 h=>clQ C h F.gz [t1] fun v2 h=>clQ C h F.bj [v1,(I 18)] fun v3 h=>e2Q v3 fun v4 v5=>jn (fun l6 h=>clQ C h F.jT [v1,v2] fun v8 h=>q v8 h) fun q7=>cnd v5 (clQ C h F.bj [v2,(I 18)] fun v9 h=>e2Q v9 fun v10 v11=>cnd v11 (clQ C h F.nK [v4,v10] fun v12 h=>clQ C h F.bT [v12] fun v13 h=>q v13 h) (q7 [] h)) (q7 [] h)
theorem E0 {t0 t1 v:V} (h:kT (CX Y) t0 t1 (out v)):CP Y F.kT [t0,t1] v:=CPo 0 (.n .x .o (.n .x .o (.n .x (.n .x .o (.n .x .o (.n (.j [] [5,6]) .o .o))) .o))) Tryz.func151 h
def fe (C:CC) (t0:V) (q:kQ):Prop:=let h:Hp:=.replicate 1 (0,.none)
 iI 0 t0 h fun v1 h=>bfQ 0 v1 fun v2=>b1Q h v2 fun v3=>clQ C h F.jD [v3] fun v4 h=>bIQ .neq v4 (I 0) fun v5=>jn (fun l6 h=>cnd (ge l6 0) (q (I 2) h) (bfQ 1 v1 fun v8=>b1Q h v8 fun v9=>clQ C h F.bp [v9] fun v10 h=>bIQ .leq v10 (I 0) fun v11=>jn (fun l12 h=>cnd (ge l12 0) (q (I 2) h) (q (I 0) h)) fun q13=>cnd v11 (q13 [v11] h) (bfQ 0 v1 fun v14=>b1Q h v14 fun v15=>bfQ 1 v1 fun v16=>b1Q h v16 fun v17=>clQ C h F.kT [v15,v17] fun v18 h=>bSQ .neq v18 (.d (.str [49])) fun v19=>q13 [v19] h))) fun q7=>cnd v5 (q7 [v5] h) (bfQ 1 v1 fun v20=>b1Q h v20 fun v21=>clQ C h F.jD [v21] fun v22 h=>bIQ .neq v22 (I 0) fun v23=>q7 [v23] h)
theorem wE {t0 v:V} (h:fe (CX Y) t0 (out v)):CP Y F.fe [t0] v:=CPo 1 (.n .x (.n (.r [.slot 0]) .o .o) (.n .x (.n .x (.n .x (.n .x .o (.n (.j [3] [1]) .o .o)) (.n .x .o (.n .x (.n .x .o (.n (.j [12] []) .o .o)) .o))) .o) .o)) Tryz.func115 h
end Go.Vm
namespace Go.Vm
open Go Go.Am Go.Proofs
end Go.Vm
namespace Go.Vm
open Go Go.Am Go.Proofs
def ew (C:CC) (t0:V) (q:kQ):Prop:=let h:Hp:=.replicate 0 (0,.none)
 bnd (ko t0) fun v1=>cIQ .gtr v1 (I 9) (q (.tup [(I 0),(B false)]) h) (clQ C h F.strconv_Atoi [t0] fun v3 h=>e2Q v3 fun v4 v5=>bnd (biF .eql v5 (.d (.pl .nilIface))) fun v6=>q (.tup [v4,v6]) h)
theorem vg {t0 v:V} (h:ew (CX Y) t0 (out v)):CP Y F.ew [t0] v:=CPo 0 .o Tryz.func171 h
def dw (C:CC) (t0:V) (q:kQ):Prop:=let h:Hp:=.replicate 1 (0,.none)
 iI 0 t0 h fun v1 h=>bfQ 0 v1 fun v2=>b1Q h v2 fun v3=>clQ C h F.ew [v3] fun v4 h=>e2Q v4 fun v5 v6=>bfQ 1 v1 fun v7=>b1Q h v7 fun v8=>clQ C h F.ew [v8] fun v9 h=>e2Q v9 fun v10 v11=>gqQ v6 true h v11 fun v12 h=>bpQ v6 v12 (B false) fun v13=>q (.tup [v5,v10,v13]) h
theorem xM {t0 v:V} (h:dw (CX Y) t0 (out v)):CP Y F.dw [t0] v:=CPo 1 (.n .x (.n (.r [.slot 0]) .o .o) .o) Tryz.func139 h
def jQ (C:CC):bh:=fun l h q=>cIQ .neq (ge l 1) (I 0) (bIQ .rem (ge l 0) (ge l 1) fun v2=>q .normal [(ge l 1),v2] h) (q (.exit 0) [(ge l 0)] h)
def f9 (C:CC) (t0 t1:V) (q:kQ):Prop:=let h:Hp:=.replicate 1 (0,.none)
 alV 0 [.d (.str []),.d (.str [])] h fun v1 h=>lp (jQ C) [] h [t0,t1] h (exK [((.exit 0),fun l2 h=>bIQ .lss (ge l2 0) (I 0) fun v3=>jn (fun l4 h=>bIQ .quo t0 (ge l4 0) fun v6=>clQ C h F.strconv_Itoa [v6] fun v7 h=>bIQ .quo t1 (ge l4 0) fun v8=>clQ C h F.strconv_Itoa [v8] fun v9 h=>bnd (bld [(0,1),(1,1)] [.str [],.str []] [(0,v7),(1,v9)]) fun v10=>stD h 2 v1 v10 fun _ h=>bnd (ldA h 2 v1) fun v12=>q v12 h) fun q5=>cnd v3 (bnd (unV .neg (ge l2 0)) fun v13=>q5 [v13] h) (q5 [(ge l2 0)] h))])
theorem BA {t0 t1 v:V} (h:f9 (CX Y) t0 t1 (out v)):CP Y F.f9 [t0,t1] v:=CPo 1 (.n .x (.n (.r [.slot 0]) .o .o) (.n .x .o (.n .x (.n .x (.n (.l [5,6] [0,1,4] [((.exit 0),[5],[0,1,4])] []) .o .o) .o) (.n .x (.n .x .o (.n (.j [5] [0,1,4]) .o .o)) .o)))) Tryz.func140 h
def aW (C:CC) (t0 t1:V) (q:kQ):Prop:=let h:Hp:=.replicate 1 (0,.none)
 alV 0 [.d (.str []),.d (.str [])] h fun v1 h=>clQ C h F.bp [t1] fun v2 h=>bIQ .lss v2 (I 0) fun v3=>jn (fun l4 h=>clQ C h F.kT [(ge l4 0),(ge l4 1)] fun v6 h=>bSQ .neq v6 (.d (.str [49])) fun v7=>jn (fun l8 h=>bnd (bld [(0,1),(1,1)] [.str [],.str []] [(0,(ge l8 0)),(1,(ge l8 1))]) fun v10=>stD h 2 v1 v10 fun _ h=>bnd (ldA h 2 v1) fun v12=>q v12 h) fun q9=>cnd v7 (clQ C h F.aP [(ge l4 0),v6] fun v13 h=>e3Q v13 fun v14 v15 v16=>clQ C h F.aP [(ge l4 1),v6] fun v17 h=>e3Q v17 fun v18 v19 v20=>q9 [v14,v18] h) (q9 [(ge l4 0),(ge l4 1)] h)) fun q5=>cnd v3 (clQ C h F.gQ [t0] fun v21 h=>clQ C h F.gQ [t1] fun v22 h=>q5 [v21,v22] h) (q5 [t0,t1] h)
theorem vf {t0 t1 v:V} (h:aW (CX Y) t0 t1 (out v)):CP Y F.aW [t0,t1] v:=CPo 1 (.n .x (.n (.r [.slot 0]) .o .o) (.n .x (.n .x .o (.n (.j [0,1] [4]) .o .o)) (.n .x (.n .x .o (.n .x .o (.n (.j [0,1] [4]) .o .o))) .o))) Tryz.func141 h
def eU (C:CC) (t0 t1:V) (q:kQ):Prop:=let h:Hp:=.replicate 3 (0,.none)
 iI 0 t0 h fun v1 h=>iI 1 t1 h fun v2 h=>alV 2 [.d (.str []),.d (.str [])] h fun v3 h=>bfQ 1 v1 fun v4=>b1Q h v4 fun v5=>bSQ .eql v5 (.d (.str [49])) fun v6=>gbQ v6 true h (faV 1 v2) fun v7 h=>gbQ v6 true h (ld1 h v7) fun v8 h=>gbQ v6 true h (biS .eql v8 (.d (.str [49]))) fun v9 h=>bpQ v6 v9 (B false) fun v10=>cnd v10 (bfQ 0 v1 fun v11=>b1Q h v11 fun v12=>bfQ 0 v2 fun v13=>b1Q h v13 fun v14=>clQ C h F.bR [v12,v14] fun v15 h=>bnd (bld [(0,1),(1,1)] [.str [],.str []] [(0,v15),(1,(.d (.str [49])))]) fun v16=>stD h 2 v3 v16 fun _ h=>bnd (ldA h 2 v3) fun v18=>q v18 h) (bnd (ldA h 2 v1) fun v19=>clQ C h F.dw [v19] fun v20 h=>e3Q v20 fun v21 v22 v23=>jn (fun l24 h=>bfQ 0 v1 fun v26=>b1Q h v26 fun v27=>bfQ 1 v2 fun v28=>b1Q h v28 fun v29=>clQ C h F.aE [v27,v29] fun v30 h=>bfQ 0 v2 fun v31=>b1Q h v31 fun v32=>bfQ 1 v1 fun v33=>b1Q h v33 fun v34=>clQ C h F.aE [v32,v34] fun v35 h=>clQ C h F.bR [v30,v35] fun v36 h=>bfQ 1 v1 fun v37=>b1Q h v37 fun v38=>bfQ 1 v2 fun v39=>b1Q h v39 fun v40=>clQ C h F.aE [v38,v40] fun v41 h=>clQ C h F.aW [v36,v41] fun v42 h=>stD h 2 v3 v42 fun _ h=>bnd (ldA h 2 v3) fun v44=>q v44 h) fun q25=>cnd v23 (bnd (ldA h 2 v2) fun v45=>clQ C h F.dw [v45] fun v46 h=>e3Q v46 fun v47 v48 v49=>cnd v49 (bIQ .mul v21 v48 fun v50=>bIQ .mul v47 v22 fun v51=>bIQ .add v50 v51 fun v52=>bIQ .mul v22 v48 fun v53=>clQ C h F.f9 [v52,v53] fun v54 h=>stD h 2 v3 v54 fun _ h=>bnd (ldA h 2 v3) fun v56=>q v56 h) (q25 [] h)) (q25 [] h))
def ot:Ann:=(.n .x (.n (.r [.slot 0,.slot 1,.slot 2]) .o .o) (.n .x .o (.n .x (.n .x .o (.n .x .o (.n (.j [] [2,3,4]) .o .o))) .o)))
theorem Aj (C:CC) (t0:V) (t1:V) (q:V->Hp->Prop):fnD Y C Go.Proofs.Tryz.f104 3 ot [t0,t1] q=eU C t0 t1 q:=by
 kernel_rfl
theorem Ah:okB Go.Proofs.Tryz.prog Go.Proofs.Tryz.f104 ot=true:=aG
theorem Ai {t0 t1 v:V} (h:eU (CX Y) t0 t1 (out v)):CP Y F.eU [t0,t1] v:=
 CP.of (fn:=Go.Proofs.Tryz.f104) (m:=3) (a:=ot) rfl (fun _=>rfl) Go.Proofs.Tryz.func104 Ah (by rw [Aj];exact h)
def fJ (C:CC) (t0 t1:V) (q:kQ):Prop:=let h:Hp:=.replicate 3 (0,.none)
 iI 0 t0 h fun v1 h=>iI 1 t1 h fun v2 h=>alV 2 [.d (.str []),.d (.str [])] h fun v3 h=>bnd (ldA h 2 v1) fun v4=>clQ C h F.dw [v4] fun v5 h=>e3Q v5 fun v6 v7 v8=>jn (fun l9 h=>bfQ 0 v1 fun v11=>b1Q h v11 fun v12=>bfQ 0 v2 fun v13=>b1Q h v13 fun v14=>clQ C h F.aE [v12,v14] fun v15 h=>bfQ 1 v1 fun v16=>b1Q h v16 fun v17=>bfQ 1 v2 fun v18=>b1Q h v18 fun v19=>clQ C h F.aE [v17,v19] fun v20 h=>clQ C h F.aW [v15,v20] fun v21 h=>stD h 2 v3 v21 fun _ h=>bnd (ldA h 2 v3) fun v23=>q v23 h) fun q10=>cnd v8 (bnd (ldA h 2 v2) fun v24=>clQ C h F.dw [v24] fun v25 h=>e3Q v25 fun v26 v27 v28=>cnd v28 (bIQ .mul v6 v26 fun v29=>bIQ .mul v7 v27 fun v30=>clQ C h F.f9 [v29,v30] fun v31 h=>stD h 2 v3 v31 fun _ h=>bnd (ldA h 2 v3) fun v33=>q v33 h) (q10 [] h)) (q10 [] h)
theorem Af {t0 t1 v:V} (h:fJ (CX Y) t0 t1 (out v)):CP Y F.fJ [t0,t1] v:=CPo 3 (.n .x (.n (.r [.slot 0,.slot 1,.slot 2]) .o .o) (.n .x (.n .x .o (.n .x .o (.n (.j [] [2,3,4]) .o .o))) .o)) Tryz.func105 h
def js (C:CC) (t0:V) (q:kQ):Prop:=let h:Hp:=.replicate 1 (0,.none)
 iI 0 t0 h fun v1 h=>bfQ 0 v1 fun v2=>b1Q h v2 fun v3=>clQ C h F.bp [v3] fun v4 h=>q v4 h
theorem xN {t0 v:V} (h:js (CX Y) t0 (out v)):CP Y F.js [t0] v:=CPo 1 (.n .x (.n (.r [.slot 0]) .o .o) .o) Tryz.func172 h
def iW (C:CC) (t0 t1:V) (q:kQ):Prop:=let h:Hp:=.replicate 3 (0,.none)
 iI 0 t0 h fun v1 h=>iI 1 t1 h fun v2 h=>alV 2 [.d (.str []),.d (.str [])] h fun v3 h=>bnd (ldA h 2 v2) fun v4=>clQ C h F.js [v4] fun v5 h=>cIQ .eql v5 (I 0) (bnd (bld [(0,1),(1,1)] [.str [],.str []] []) fun v7=>stD h 2 v3 v7 fun _ h=>bnd (ldA h 2 v3) fun v9=>q (.tup [v9,(I 17)]) h) (bfQ 0 v1 fun v10=>b1Q h v10 fun v11=>bfQ 1 v2 fun v12=>b1Q h v12 fun v13=>clQ C h F.aE [v11,v13] fun v14 h=>bfQ 1 v1 fun v15=>b1Q h v15 fun v16=>bfQ 0 v2 fun v17=>b1Q h v17 fun v18=>clQ C h F.aE [v16,v18] fun v19 h=>clQ C h F.aW [v14,v19] fun v20 h=>stD h 2 v3 v20 fun _ h=>bnd (ldA h 2 v3) fun v22=>q (.tup [v22,(I 0)]) h)
theorem Ag {t0 t1 v:V} (h:iW (CX Y) t0 t1 (out v)):CP Y F.iW [t0,t1] v:=CPo 3 (.n .x (.n (.r [.slot 0,.slot 1,.slot 2]) .o .o) .o) Tryz.func142 h
def gH (C:CC) (t0:V) (q:kQ):Prop:=let h:Hp:=.replicate 1 (0,.none)
 iI 0 t0 h fun v1 h=>bfQ 0 v1 fun v2=>b1Q h v2 fun v3=>bfQ 1 v1 fun v4=>b1Q h v4 fun v5=>clQ C h F.aP [v3,v5] fun v6 h=>e3Q v6 fun v7 v8 v9=>q v7 h
theorem wD {t0 v:V} (h:gH (CX Y) t0 (out v)):CP Y F.gH [t0] v:=CPo 1 (.n .x (.n (.r [.slot 0]) .o .o) .o) Tryz.func107 h
def j4 (C:CC) (t0 t1:V) (q:kQ):Prop:=let h:Hp:=.replicate 1 (0,.none)
 alV 0 [.d (.str []),.d (.str [])] h fun v1 h=>clQ C h F.bp [t1] fun v2 h=>cIQ .eql v2 (I 0) (bnd (bld [(0,1),(1,1)] [.str [],.str []] []) fun v4=>stD h 2 v1 v4 fun _ h=>bnd (ldA h 2 v1) fun v6=>q (.tup [v6,(I 17)]) h) (clQ C h F.aW [t0,t1] fun v7 h=>stD h 2 v1 v7 fun _ h=>bnd (ldA h 2 v1) fun v9=>q (.tup [v9,(I 0)]) h)
theorem Ae {t0 t1 v:V} (h:j4 (CX Y) t0 t1 (out v)):CP Y F.j4 [t0,t1] v:=CPo 1 (.n .x (.n (.r [.slot 0]) .o .o) .o) Tryz.func117 h
def jR (C:CC) (t0 t1:V) (q:kQ):Prop:=let h:Hp:=.replicate 1 (0,.none)
 alV 0 [.d (.str []),.d (.str [])] h fun v1 h=>clQ C h F.bT [t0] fun v2 h=>clQ C h F.bT [t1] fun v3 h=>clQ C h F.j4 [v2,v3] fun v4 h=>e2Q v4 fun v5 v6=>stD h 2 v1 v5 fun _ h=>bnd (ldA h 2 v1) fun v8=>q (.tup [v8,v6]) h
theorem BB {t0 t1 v:V} (h:jR (CX Y) t0 t1 (out v)):CP Y F.jR [t0,t1] v:=CPo 1 (.n .x (.n (.r [.slot 0]) .o .o) .o) Tryz.func73 h
end Go.Vm
namespace Go.Vm
open Go Go.Am Go.Proofs
def kD (C:CC) (p5 p14 p15:V):bh:=fun l h q=>cIQ .lss (ge l 0) p15 (bxQ h 2 p14 (ge l 0) fun v2=>bnd (ldA h 2 v2) fun v3=>alV 2 [.d (.str []),.d (.str [])] h fun v4 h=>stD h 2 v4 v3 fun _ h=>bfQ 2 p5 fun v6=>b1Q h v6 fun v7=>bfQ 1 v4 fun v8=>b1Q h v8 fun v9=>clQ C h F.kS [v7,v9] fun v10 h=>bfQ 2 p5 fun v11=>stD h 1 v11 v10 fun _ h=>bIQ .add (ge l 0) (I 1) fun v13=>q .normal [v13] h) (q (.exit 0) [] h)
def jd (C:CC) (p0 p5 p27 p28:V):bh:=fun l h q=>cIQ .lss (ge l 0) p28 (jn (fun l2 h=>bIQ .add (ge l 0) (I 1) fun v4=>q .normal [v4] h) fun q3=>bxQ h 2 p27 (ge l 0) fun v5=>bnd (ldA h 2 v5) fun v6=>alV 3 [.d (.str []),.d (.str [])] h fun v7 h=>stD h 2 v7 v6 fun _ h=>bfQ 0 v7 fun v9=>b1Q h v9 fun v10=>bSQ .neq v10 (.d (.str [48])) fun v11=>jn (fun l12 h=>q3 [] h) fun q13=>cnd v11 (bfQ 2 p5 fun v14=>b1Q h v14 fun v15=>bfQ 1 v7 fun v16=>b1Q h v16 fun v17=>clQ C h F.aP [v15,v17] fun v18 h=>e3Q v18 fun v19 v20 v21=>bfQ 0 p5 fun v22=>sm h p5 v22 <| b1Q h v22 fun v23=>bxQ h 1 p0 (ge l 0) fun v24=>b1Q h v24 fun v25=>eh 1 [.int .i64 0] [(0,v25)] h fun v26 h=>sp h v23 [p5,v7] <| apV false 4 1 8 v23 v26 h fun v27 h=>bfQ 1 p5 fun v28=>sm h p5 v28 <| b1Q h v28 fun v29=>bfQ 0 v7 fun v30=>sm h v7 v30 <| b1Q h v30 fun v31=>clQ C h F.aE [v31,v19] fun v32 h=>eh 1 [.str []] [(0,v32)] h fun v33 h=>apV false 5 1 16 v29 v33 h fun v34 h=>bfQ 0 p5 fun v35=>stD h 1 v35 v27 fun _ h=>bfQ 1 p5 fun v37=>stD h 1 v37 v34 fun _ h=>q13 [] h) (q13 [] h)) (q (.exit 2) [] h)
def dY (C:CC) (t0 t1:V) (q:kQ):Prop:=let h:Hp:=.replicate 6 (0,.none)
 alV 0 [.d (.pl (.slice none 0 0)),.d (.pl (.slice none 0 0)),.d (.str [])] h fun v1 h=>bnd (bld [(0,1),(1,1),(2,1)] [.pl (.slice none 0 0),.pl (.slice none 0 0),.str []] [(2,(.d (.str [49])))]) fun v2=>alV 1 [.d (.pl (.slice none 0 0)),.d (.pl (.slice none 0 0)),.d (.str [])] h fun v3 h=>stD h 3 v3 v2 fun _ h=>blQ t1 fun v5=>lp (kD C v3 t1 v5) [2] h [(I 0)] h (exK [((.exit 0),fun l6 h=>blQ t1 fun v7=>lp (jd C t0 v3 t1 v7) [3] h [(I 0)] h (exK [((.exit 2),fun l8 h=>bnd (ldA h 3 v3) fun v9=>stD h 3 v1 v9 fun _ h=>bnd (ldA h 3 v1) fun v11=>q v11 h)]))])
def od:Ann:=(.n .x (.n (.r [.slot 0]) .o .o) (.n .x (.n (.r [.slot 1]) .o .o) (.n .x (.n .x .o (.n .x (.n (.l [16] [0,1,4,5,14,15] [((.exit 0),[],[0,1,4,5])] [2]) (.n .x .o (.n .x .o (.n .x (.n .x (.n .x (.n (.r [.slot 2]) .o .o) .o) .o) .o))) .o) .o)) (.n .x (.n .x .o (.n .x (.n (.l [29] [0,4,5,27,28] [((.exit 2),[],[4,5])] [3]) (.n .x .o (.n .x .o (.n .x (.n (.j [] [0,4,5,27,28,29]) (.n .x (.n (.r [.slot 3]) .o .o) (.n .x .o (.n (.j [] [0,4,5,27,28,29]) (.n .x .o (.n (.r [.o,.slot 4,.o,.o,.slot 5]) .o .o)) .o))) .o) .o))) .o) .o)) .o))))
theorem zk (C:CC) (t0:V) (t1:V) (q:V->Hp->Prop):fnD Y C Go.Proofs.Tryz.f81 6 od [t0,t1] q=dY C t0 t1 q:=by
 kernel_rfl
theorem zh:okB Go.Proofs.Tryz.prog Go.Proofs.Tryz.f81 od=true:=aG
theorem zj {t0 t1 v:V} (h:dY (CX Y) t0 t1 (out v)):CP Y F.dY [t0,t1] v:=
 CP.of (fn:=Go.Proofs.Tryz.f81) (m:=6) (a:=od) rfl (fun _=>rfl) Go.Proofs.Tryz.func81 zh (by rw [zk];exact h)
def dX (C:CC) (t0:V) (q:kQ):Prop:=let h:Hp:=.replicate 1 (0,.none)
 iI 0 t0 h fun v1 h=>q (.fn F.cJ [] [v1]) h
theorem vZ {t0 v:V} (h:dX (CX Y) t0 (out v)):CP Y F.dX [t0] v:=CPo 1 (.n .x (.n (.r [.slot 0]) .o .o) .o) Tryz.func146 h
def iO (C:CC) (p3 p4 p5:V):AY:=fun l h q=>
 b1Q h p3 fun v1=>
 clQ C h F.oe [(ge l 0),v1] fun v2 h=>
 bIQ .neq (ge l 0) (I 2) fun v3=>
 jn (fun l4 h=>
 clQ C h F.aE [v2,(ge l 1)] fun v6 h=>
 clQ C h F.aE [(ge l4 0),(ge l 1)] fun v7 h=>
 clQ C h F.bp [(ge l 1)] fun v8 h=>
 bIQ .lss v8 (I 0) fun v9=>
 jn (fun l10 h=>
 b1Q h p4 fun v12=>
 clQ C h F.bR [v12,(ge l10 0)] fun v13 h=>
 b1Q h p5 fun v14=>
 clQ C h F.bR [v14,(ge l10 1)] fun v15 h=>
 stD h 1 p4 v13 fun _ h=>
 stD h 1 p5 v15 fun _ h=>
 q .normal h) fun q11=>
 cnd v9 (
 q11 [v7,v6] h) (
 q11 [v6,v7] h)) fun q5=>
 cnd v3 (
 clQ C h F.bR [v2,(.d (.str [49]))] fun v18 h=>
 q5 [v18] h) (
 q5 [v2] h)
def cn (C:CC) (t0 t1:V) (q:kQ):Prop:=let h:Hp:=.replicate 4 (0,.none)
 iI 0 t0 h fun v1 h=>iI 1 t1 h fun v2 h=>alV 2 [.d (.str [])] h fun v3 h=>alV 3 [.d (.str [])] h fun v4 h=>stD h 1 v3 (.d (.str [48])) fun _ h=>stD h 1 v4 (.d (.str [48])) fun _ h=>bnd (ldA h 3 v1) fun v7=>clQ C h F.dX [v7] fun v8 h=>rgO (sqV Y.seq v8) 2 (iO C v2 v3 v4) [] h (fun ex h=>exK [(.normal,fun _ h=>b1Q h v3 fun v9=>b1Q h v4 fun v10=>sp h v3 [v4] <| stD h 1 v3 v9 fun _ h=>stD h 1 v4 v10 fun _ h=>b1Q h v3 fun v13=>b1Q h v4 fun v14=>q (.tup [v13,v14]) h)] ex [] h)
theorem uB {t0 t1 v:V} (h:cn (CX Y) t0 t1 (out v)):CP Y F.cn [t0,t1] v:=CPo 4 (.n .x (.n (.r [.slot 0,.slot 1,.slot 2,.slot 3]) .o .o) (.n .x .o (.n .x (.n .x .o (.n .x (.n (.l [] [3,4,5] [(.normal,[],[4,5])] []) .o (.n .x (.n .x .o (.n .x .o (.n .x (.n .x .o (.n (.j [9] [4,5,7,8]) .o .o)) (.n .x .o (.n .x (.n .x .o (.n (.j [8,9] [4,5]) .o .o)) .o))))) .o)) .o)) .o))) Tryz.func109 h
def cN (C:CC) (p3 p4 p5 p6:V):AY:=fun l h q=>
 clQ C h F.fS [(ge l 1)] fun v1 h=>
 ext v1 0 fun v2=>
 ext v1 1 fun v3=>
 bnd (unV .not v3) fun v4=>
 gqQ v4 false h v2 fun v5 h=>
 gbQ v4 false h (ld1 h p3) fun v6 h=>
 gbQ v4 false h (biI .gtr v5 v6) fun v7 h=>
 bpQ v4 (B true) v7 fun v8=>
 gqQ v8 false h v2 fun v9 h=>
 gbQ v8 false h (ld1 h p3) fun v10 h=>
 gbQ v8 false h (unV .neg v10) fun v11 h=>
 gbQ v8 false h (biI .lss v9 v11) fun v12 h=>
 bpQ v8 (B true) v12 fun v13=>
 cnd v13 (
 stD h 1 p4 (I 0) fun _ h=>
 stD h 1 p5 (I 0) fun _ h=>
 stD h 1 p6 (B false) fun _ h=>
 q .ret h) (
 clQ C h F.nP [(ge l 0)] fun v17 h=>
 ext v17 0 fun v18=>
 ext v17 1 fun v19=>
 bnd (unV .not v19) fun v20=>
 cnd v20 (
 stD h 1 p4 (I 0) fun _ h=>
 stD h 1 p5 (I 0) fun _ h=>
 stD h 1 p6 (B false) fun _ h=>
 q .ret h) (
 bIQ .add v18 (I 1) fun v24=>
 bIQ .eql (ge l 0) (I 2) fun v25=>
 jn (fun l26 h=>
 b1Q h p4 fun v28=>
 bIQ .mul v2 v18 fun v29=>
 bIQ .mul v2 (ge l26 0) fun v30=>
 bnd (mxI false [v29,v30]) fun v31=>
 bIQ .add v28 v31 fun v32=>
 b1Q h p5 fun v33=>
 bIQ .mul v2 v18 fun v34=>
 bIQ .mul v2 (ge l26 0) fun v35=>
 bnd (mxI true [v34,v35]) fun v36=>
 bIQ .add v33 v36 fun v37=>
 sp h p4 [p5] <| stD h 1 p4 v32 fun _ h=>
 stD h 1 p5 v37 fun _ h=>
 q .normal h) fun q27=>
 cnd v25 (
 q27 [v18] h) (
 q27 [v24] h)))
def bP (C:CC) (t0 t1:V) (q:kQ):Prop:=let h:Hp:=.replicate 5 (0,.none)
 iI 0 t0 h fun v1 h=>iI 1 t1 h fun v2 h=>alV 2 [.d (.int .i64 0)] h fun v3 h=>alV 3 [.d (.int .i64 0)] h fun v4 h=>alV 4 [.d (.bool false)] h fun v5 h=>bnd (ldA h 3 v1) fun v6=>clQ C h F.dX [v6] fun v7 h=>rgO (sqV Y.seq v7) 2 (cN C v2 v3 v4 v5) [] h (fun ex h=>exK [(.ret,fun _ h=>b1Q h v3 fun v8=>b1Q h v4 fun v9=>b1Q h v5 fun v10=>q (.tup [v8,v9,v10]) h), (.normal,fun _ h=>b1Q h v3 fun v11=>b1Q h v4 fun v12=>sp h v3 [v4] <| stD h 1 v3 v11 fun _ h=>stD h 1 v4 v12 fun _ h=>stD h 1 v5 (B true) fun _ h=>b1Q h v3 fun v16=>b1Q h v4 fun v17=>b1Q h v5 fun v18=>q (.tup [v16,v17,v18]) h)] ex [] h)
def lu:Ann:=(.n .x (.n (.r [.slot 0,.slot 1,.slot 2,.slot 3,.slot 4]) .o .o) (.n .x (.n .x .o (.n .x (.n (.l [] [3,4,5,6] [(.ret,[],[4,5,6]),(.normal,[],[4,5,6])] []) .o (.n .x (.n .x .o (.n .x .o (.n .x .o (.n .x .o (.n .x .o (.n .x (.n .x .o (.n (.j [13] [4,5,9,11]) .o .o)) .o)))))) .o)) .o)) .o))
theorem uA (C:CC) (t0:V) (t1:V) (q:V->Hp->Prop):fnD Y C Go.Proofs.Tryz.f143 5 lu [t0,t1] q=bP C t0 t1 q:=by
 kernel_rfl
theorem uy:okB Go.Proofs.Tryz.prog Go.Proofs.Tryz.f143 lu=true:=aG
theorem uz {t0 t1 v:V} (h:bP (CX Y) t0 t1 (out v)):CP Y F.bP [t0,t1] v:=
 CP.of (fn:=Go.Proofs.Tryz.f143) (m:=5) (a:=lu) rfl (fun _=>rfl) Go.Proofs.Tryz.func143 uy (by rw [uA];exact h)
def eD (C:CC) (t0:V) (q:kQ):Prop:=let h:Hp:=.replicate 1 (0,.none)
 iI 0 t0 h fun v1 h=>bnd (ldA h 3 v1) fun v2=>clQ C h F.bP [v2,(I 10000000)] fun v3 h=>e3Q v3 fun v4 v5 v6=>bnd (unV .not v6) fun v7=>cnd v7 (q (I 0) h) (cIQ .geq v4 (I 0) (q (I 1) h) (cIQ .leq v5 (I 0) (q (I (-1)) h) (q (I 0) h)))
theorem tC {t0 v:V} (h:eD (CX Y) t0 (out v)):CP Y F.eD [t0] v:=CPo 1 (.n .x (.n (.r [.slot 0]) .o .o) .o) Tryz.func123 h
def kJ (C:CC) (p1:V):bh:=fun l h q=>bnd (ldA h 3 p1) fun v1=>clQ C h F.cn [v1,(ge l 0)] fun v2 h=>e2Q v2 fun v3 v4=>clQ C h F.bp [v3] fun v5 h=>cIQ .geq v5 (I 0) (q .ret [(I 1)] h) (clQ C h F.bp [v4] fun v7 h=>cIQ .leq v7 (I 0) (q .ret [(I (-1))] h) (bIQ .mul (ge l 0) (I 2) fun v9=>q .normal [v9] h))
def dC (C:CC) (t0:V) (q:kQ):Prop:=let h:Hp:=.replicate 1 (0,.none)
 iI 0 t0 h fun v1 h=>bfQ 0 v1 fun v2=>b1Q h v2 fun v3=>blQ v3 fun v4=>cIQ .eql v4 (I 0) (q (I 0) h) (bnd (ldA h 3 v1) fun v6=>clQ C h F.eD [v6] fun v7 h=>nzQ v7 (q v7 h) (lp (kJ C v1) [] h [(I 64)] h (exK [(.ret,fun l9 h=>q (ge l9 0) h)])))
theorem uw {t0 v:V} (h:dC (CX Y) t0 (out v)):CP Y F.dC [t0] v:=CPo 1 (.n .x (.n (.r [.slot 0]) .o .o) (.n .x (.n .x .o (.n .x .o (.n .x .o (.n .x .o (.n .x (.n (.l [4] [1] [(.ret,[2],[])] []) .o .o) .o))))) .o)) Tryz.func82 h
def nD (C:CC):bh:=fun l h q=>cIQ .lss (ge l 3) (I 26) (jn (fun l2 h=>bIQ .add (ge l 3) (I 1) fun v4=>q .normal [(ge l2 0),(ge l2 1),(ge l2 2),v4] h) fun q3=>clQ C h F.et [(ge l 0),(ge l 0)] fun v5 h=>e2Q v5 fun v6 v7=>bIQ .shl v6 (.d (.int .u64 2)) fun v8=>bIQ .shr v7 (.d (.int .u64 62)) fun v9=>bIQ .or v8 v9 fun v10=>clQ C h F.et [(ge l 1),(ge l 1)] fun v11 h=>e2Q v11 fun v12 v13=>bIQ .shl v12 (.d (.int .u64 2)) fun v14=>bIQ .shr v13 (.d (.int .u64 62)) fun v15=>bIQ .or v14 v15 fun v16=>bIQ .add v16 (.d (.int .u64 1)) fun v17=>bIQ .mul (ge l 2) (I 2) fun v18=>bIQ .geq v10 (.d (.int .u64 9223372036854775808)) fun v19=>jn (fun l20 h=>q3 [(ge l20 1),(ge l20 2),(ge l20 0)] h) fun q21=>cnd v19 (bIQ .add v18 (I 1) fun v22=>bIQ .shr v10 (.d (.int .u64 1)) fun v23=>bIQ .shr v17 (.d (.int .u64 1)) fun v24=>bIQ .add v24 (.d (.int .u64 1)) fun v25=>q21 [v22,v23,v25] h) (cIQ .geq v17 (.d (.int .u64 9223372036854775808)) (q .ret [(I 0),(B false)] h) (q21 [v18,v10,v17] h))) (q (.exit 0) [(ge l 2)] h)
def nP (C:CC) (t0:V) (q:kQ):Prop:=let h:Hp:=.replicate 0 (0,.none)
 bnd (cvI .u64 t0) fun v1=>clQ C h F.ii [v1] fun v2 h=>bIQ .sub v2 (I 1) fun v3=>bnd (cvI .u64 t0) fun v4=>bIQ .sub (I 62) v3 fun v5=>bIQ .shl v4 v5 fun v6=>lp (nD C) [] h [v6,v6,v3,(I 0)] h (exK [((.exit 0),fun l7 h=>q (.tup [(ge l7 0),(B true)]) h), (.ret,fun l7 h=>q (.tup [(ge l7 0),(ge l7 1)]) h)])
theorem Fx {t0 v:V} (h:nP (CX Y) t0 (out v)):CP Y F.nP [t0] v:=CPo 0 (.n .x .o (.n .x .o (.n .x .o (.n .x .o (.n .x .o (.n .x (.n .x .o (.n .x (.n (.l [5,6,7,21] [] [((.exit 0),[7],[]),(.ret,[2,3],[])] []) (.n .x .o (.n .x .o (.n .x (.n (.j [5,6,7] [21]) (.n .x .o (.n .x .o (.n .x .o (.n .x .o (.n .x .o (.n .x .o (.n (.j [7,5,6] [21]) .o .o))))))) .o) .o))) .o) .o)) .o)))))) Tryz.func173 h
def w7 (C:CC) (p0 p1:V):bh:=fun l h q=>clQ C h F.size_digits [p0,p1,(ge l 0)] fun v1 h=>e2Q v1 fun v2 v3=>cnd v3 (q .ret [v2] h) (bIQ .mul (ge l 0) (I 2) fun v4=>q .normal [v4] h)
def oe (C:CC) (t0 t1:V) (q:kQ):Prop:=let h:Hp:=.replicate 0 (0,.none)
 cIQ .eql t0 (I 2) (clQ C h F.gT [(.d (.str [50])),t1] fun v2 h=>e2Q v2 fun v3 v4=>q v3 h) (bIQ .add t1 (I 64) fun v5=>lp (w7 C t0 t1) [] h [v5] h (exK [(.ret,fun l6 h=>q (ge l6 0) h)]))
theorem HE {t0 t1 v:V} (h:oe (CX Y) t0 t1 (out v)):CP Y F.oe [t0,t1] v:=CPo 0 (.n .x .o (.n .x .o (.n .x .o (.n .x (.n (.l [7] [0,1] [(.ret,[4],[])] []) .o .o) .o)))) Tryz.func147 h
def lC (C:CC) (p9 p11 p49:V):bh:=fun l h q=>cIQ .lss (ge l 3) p49 (jn (fun l2 h=>bIQ .add (ge l 3) (I 1) fun v4=>q .normal [(ge l2 0),(ge l2 1),(ge l2 2),v4] h) fun q3=>clQ C h F.aE [(ge l 0),(ge l 0)] fun v5 h=>clQ C h F.aP [v5,p9] fun v6 h=>e3Q v6 fun v7 v8 v9=>clQ C h F.aE [(ge l 1),(ge l 1)] fun v10 h=>clQ C h F.aP [v10,p9] fun v11 h=>e3Q v11 fun v12 v13 v14=>clQ C h F.bR [v12,(.d (.str [49]))] fun v15 h=>clQ C h F.bR [(ge l 2),(ge l 2)] fun v16 h=>jn (fun l17 h=>q3 [(ge l17 1),(ge l17 2),(ge l17 0)] h) fun q18=>clQ C h F.fT [v7,p11] fun v19 h=>bIQ .geq v19 (I 0) fun v20=>jn (fun l21 h=>q18 [(ge l21 0),(ge l21 1),(ge l21 2)] h) fun q22=>cnd v20 (clQ C h F.bR [v16,(.d (.str [49]))] fun v23 h=>clQ C h F.aP [v7,(.d (.str [50]))] fun v24 h=>e3Q v24 fun v25 v26 v27=>clQ C h F.aP [v15,(.d (.str [50]))] fun v28 h=>e3Q v28 fun v29 v30 v31=>clQ C h F.bR [v29,(.d (.str [49]))] fun v32 h=>q22 [v23,v25,v32] h) (clQ C h F.fT [v15,p11] fun v33 h=>cIQ .geq v33 (I 0) (q .ret [(.d (.str [])),(B false)] h) (q22 [v16,v7,v15] h))) (q (.exit 0) [(ge l 2)] h)
def size_digits (C:CC) (t0 t1 t2:V) (q:kQ):Prop:=let h:Hp:=.replicate 0 (0,.none)
 bnd (cvI .u64 t0) fun v1=>clQ C h F.ii [v1] fun v2 h=>bIQ .sub v2 (I 1) fun v3=>clQ C h F.gT [(.d (.str [50])),t2] fun v4 h=>e2Q v4 fun v5 v6=>clQ C h F.bR [v5,v5] fun v7 h=>bIQ .sub t2 v3 fun v8=>clQ C h F.gT [(.d (.str [50])),v8] fun v9 h=>e2Q v9 fun v10 v11=>clQ C h F.bT [t0] fun v12 h=>clQ C h F.aE [v12,v10] fun v13 h=>clQ C h F.bT [v3] fun v14 h=>lp (lC C v5 v7 t1) [] h [v13,v13,v14,(I 0)] h (exK [((.exit 0),fun l15 h=>q (.tup [(ge l15 0),(B true)]) h), (.ret,fun l15 h=>q (.tup [(ge l15 0),(ge l15 1)]) h)])
theorem Bo {t0 t1 t2 v:V} (h:size_digits (CX Y) t0 t1 t2 (out v)):CP Y F.size_digits [t0,t1,t2] v:=CPo 0 (.n .x .o (.n .x .o (.n .x .o (.n .x .o (.n .x .o (.n .x .o (.n .x .o (.n .x .o (.n .x (.n .x .o (.n .x (.n (.l [14,15,16,50] [9,11,49] [((.exit 0),[16],[]),(.ret,[6,7],[])] []) (.n .x .o (.n .x .o (.n .x (.n (.j [14,15,16] [9,11,49,50]) (.n .x .o (.n .x .o (.n .x .o (.n .x .o (.n (.j [16,14,15] [9,11,49,50]) (.n .x .o (.n (.j [16,14,15] [9,11,49,50]) .o .o)) .o))))) .o) .o))) .o) .o)) .o))))))))) Tryz.func177 h
end Go.Vm
namespace Go.Vm
open Go Go.Am Go.Proofs
def bf (C:CC) (p0 p1 p7:V):bh:=fun l h q=>cIQ .lss (ge l 0) p7 (bxQ h 2 p0 (ge l 0) fun v2=>bnd (ldA h 2 v2) fun v3=>cal C.p h p1 [v3] fun v4 h=>cnd v4 (q .ret [(ge l 0)] h) (bIQ .add (ge l 0) (I 1) fun v5=>q .normal [v5] h)) (q (.exit 0) [] h)
def aQ (C:CC) (t0 t1:V) (q:kQ):Prop:=let h:Hp:=.replicate 0 (0,.none)
 blQ t0 fun v1=>lp (bf C t0 t1 v1) [] h [(I 0)] h (exK [((.exit 0),fun l2 h=>q (I (-1)) h), (.ret,fun l2 h=>q (ge l2 0) h)])
theorem iv {t0 t1 v:V} (h:aQ (CX Y) t0 t1 (out v)):CP Y F.aQ [t0,t1] v:=CPo 0 (.n .x .o (.n .x (.n .x .o (.n .x (.n (.l [8] [0,1,7] [((.exit 0),[],[]),(.ret,[4],[])] []) .o .o) .o)) .o)) Tryz.func149 h
def aF (C:CC) (t0 t1:V) (q:kQ):Prop:=let h:Hp:=.replicate 0 (0,.none)
 clQ C h F.aQ [t0,t1] fun v1 h=>bIQ .geq v1 (I 0) fun v2=>q v2 h
theorem gV {t0 t1 v:V} (h:aF (CX Y) t0 t1 (out v)):CP Y F.aF [t0,t1] v:=CPo 0 .o Tryz.func113 h
end Go.Vm
namespace Go.Vm
open Go Go.Am Go.Proofs
end Go.Vm
namespace Go.Vm
open Go Go.Am Go.Proofs
def bC (C:CC) (p0 p1 p7:V):bh:=fun l h q=>cIQ .lss (ge l 0) p7 (bxQ h 2 p0 (ge l 0) fun v2=>bnd (ldA h 2 v2) fun v3=>cal C.p h p1 [v3] fun v4 h=>cnd v4 (q .ret [(ge l 0)] h) (bIQ .add (ge l 0) (I 1) fun v5=>q .normal [v5] h)) (q (.exit 0) [] h)
def a6 (C:CC) (t0 t1:V) (q:kQ):Prop:=let h:Hp:=.replicate 0 (0,.none)
 blQ t0 fun v1=>lp (bC C t0 t1 v1) [] h [(I 0)] h (exK [((.exit 0),fun l2 h=>q (I (-1)) h), (.ret,fun l2 h=>q (ge l2 0) h)])
theorem jt {t0 t1 v:V} (h:a6 (CX Y) t0 t1 (out v)):CP Y F.a6 [t0,t1] v:=CPo 0 (.n .x .o (.n .x (.n .x .o (.n .x (.n (.l [8] [0,1,7] [((.exit 0),[],[]),(.ret,[4],[])] []) .o .o) .o)) .o)) Tryz.func184 h
def aI (C:CC) (t0 t1:V) (q:kQ):Prop:=let h:Hp:=.replicate 0 (0,.none)
 clQ C h F.a6 [t0,t1] fun v1 h=>bIQ .geq v1 (I 0) fun v2=>q v2 h
theorem iM {t0 t1 v:V} (h:aI (CX Y) t0 t1 (out v)):CP Y F.aI [t0,t1] v:=CPo 0 .o Tryz.func152 h
def bm (C:CC) (p0 p1 p12:V):bh:=fun l h q=>cIQ .lss (ge l 0) p12 (bxQ h 2 p0 (ge l 0) fun v2=>bnd (ldA h 2 v2) fun v3=>bxQ h 2 p1 (ge l 0) fun v4=>bnd (ldA h 2 v4) fun v5=>bnd (biA [.str [],.str []] .neq v3 v5) fun v6=>cnd v6 (q .ret [(B false)] h) (bIQ .add (ge l 0) (I 1) fun v7=>q .normal [v7] h)) (q (.exit 0) [] h)
def aL (C:CC) (t0 t1:V) (q:kQ):Prop:=let h:Hp:=.replicate 0 (0,.none)
 blQ t0 fun v1=>blQ t1 fun v2=>cIQ .neq v1 v2 (q (B false) h) (blQ t0 fun v4=>lp (bm C t0 t1 v4) [] h [(I 0)] h (exK [((.exit 0),fun l5 h=>q (B true) h), (.ret,fun l5 h=>q (ge l5 0) h)]))
theorem kh {t0 t1 v:V} (h:aL (CX Y) t0 t1 (out v)):CP Y F.aL [t0,t1] v:=CPo 0 (.n .x .o (.n .x .o (.n .x (.n .x .o (.n .x (.n (.l [13] [0,1,12] [((.exit 0),[],[]),(.ret,[4],[])] []) .o .o) .o)) .o))) Tryz.func72 h
def bN (C:CC) (t0:V) (q:kQ):Prop:=let h:Hp:=.replicate 1 (0,.none)
 alV 0 [.d (.str []),.d (.str [])] h fun v1 h=>clQ C h F.bT [t0] fun v2 h=>bnd (bld [(0,1),(1,1)] [.str [],.str []] [(0,v2),(1,(.d (.str [49])))]) fun v3=>stD h 2 v1 v3 fun _ h=>bnd (ldA h 2 v1) fun v5=>q v5 h
theorem Bn {t0 v:V} (h:bN (CX Y) t0 (out v)):CP Y F.bN [t0] v:=CPo 1 (.n .x (.n (.r [.slot 0]) .o .o) .o) Tryz.func69 h
def nC (C:CC) (b:Nat) (p3 p8:V):bh:=fun l h q=>cIQ .lss (ge l 0) p8 (clQ C h F.bN [(I 0)] fun v2 h=>bxQ h 2 p3 (ge l 0) fun v3=>stD h 2 v3 v2 fun _ h=>bIQ .add (ge l 0) (I 1) fun v5=>q .normal [v5] h) (q (.exit 0) [] h)
def jV (C:CC) (b:Nat) (h:Hp) (t0:V) (q:kQ):Prop:=let h:Hp:=h++List.replicate 1 (0,.none)
 mkS (b+0) 32 [.str [],.str []] h t0 t0 fun v1 h=>blQ v1 fun v2=>lp (nC C b v1 v2) [] h [(I 0)] h (exK [((.exit 0),fun l3 h=>q v1 h)])
def rD (b:Nat):Ann:=(.n .x .o (.n .x (.n (.r [.slot (b+0)]) .o .o) (.n .x (.n .x .o (.n .x (.n (.l [9] [3,8] [((.exit 0),[],[3])] []) .o .o) .o)) .o)))
theorem Fv (C:CC) (h:Hp) (t0:V) (q:V->Hp->Prop):fnI Y C Go.Proofs.Tryz.f84 1 rD [t0] h q=jV C h.length h t0 q:=by
 rfl
theorem Ft (b:Nat):okB Go.Proofs.Tryz.prog Go.Proofs.Tryz.f84 (rD b)=true:=by rfl
theorem Fu {t0 v:V} {h h2:Hp} (hh:jV (CX Y) h.length h t0 (rL h.length v h2)):CI Y F.jV [t0] h v h2:=
 CI.of (fn:=Go.Proofs.Tryz.f84) (m:=1) (a:=rD) rfl (fun _=>rfl) Go.Proofs.Tryz.func84 (Ft _) (by rw [Fv];exact hh)
def mP (C:CC) (p2 p7 p8 p21 p22:V):bh:=fun l h q=>cIQ .lss (ge l 0) p22 (bxQ h 2 p21 (ge l 0) fun v2=>bnd (ldA h 2 v2) fun v3=>alV 1 [.d (.str []),.d (.str [])] h fun v4 h=>stD h 2 v4 v3 fun _ h=>bxQ h 2 p7 (ge l 0) fun v6=>bnd (ldA h 2 v6) fun v7=>bnd (ldA h 2 v4) fun v8=>bxQ h 2 p2 p8 fun v9=>bnd (ldA h 2 v9) fun v10=>clQ C h F.fJ [v8,v10] fun v11 h=>clQ C h F.eU [v7,v11] fun v12 h=>bxQ h 2 p7 (ge l 0) fun v13=>stD h 2 v13 v12 fun _ h=>bIQ .add (ge l 0) (I 1) fun v15=>q .normal [v15] h) (q (.exit 2) [] h)
def oJ (C:CC) (p2 p7 p14 p15:V):bh:=fun l h q=>cIQ .lss (ge l 0) p15 (bxQ h 1 p14 (ge l 0) fun v2=>b1Q h v2 fun v3=>blQ v3 fun v4=>lp (mP C p2 p7 (ge l 0) v3 v4) [1] h [(I 0)] h (exK [((.exit 2),fun l5 h=>bIQ .add (ge l 0) (I 1) fun v6=>q .normal [v6] h)])) (q (.exit 0) [] h)
def je (C:CC) (t0 t1 t2:V) (q:kQ):Prop:=let h:Hp:=.replicate 2 (0,.none)
 ciQ C h F.jV [t0] 0 fun v1 h=>blQ t1 fun v2=>lp (oJ C t2 v1 t1 v2) [1] h [(I 0)] h (exK [((.exit 0),fun l3 h=>q v1 h)])
def tD:Ann:=(.n .x .o (.n .x (.n (.r [.inl 0]) .o .o) (.n .x (.n .x .o (.n .x (.n (.l [16] [2,7,14,15] [((.exit 0),[],[7])] [1]) (.n .x .o (.n .x .o (.n .x (.n .x (.n .x .o (.n .x .o (.n .x (.n (.l [23] [2,7,8,14,15,16,21,22] [((.exit 2),[],[2,7,14,15,16])] [1]) (.n .x .o (.n .x .o (.n .x (.n .x (.n .x (.n (.r [.slot 1]) .o .o) .o) .o) .o))) .o) .o))) .o) .o))) .o) .o)) .o)))
theorem HD (C:CC) (t0:V) (t1:V) (t2:V) (q:V->Hp->Prop):fnD Y C Go.Proofs.Tryz.f68 2 tD [t0,t1,t2] q=je C t0 t1 t2 q:=by
 kernel_rfl
theorem HB:okB Go.Proofs.Tryz.prog Go.Proofs.Tryz.f68 tD=true:=aG
theorem HC {t0 t1 t2 v:V} (h:je (CX Y) t0 t1 t2 (out v)):CP Y F.je [t0,t1,t2] v:=
 CP.of (fn:=Go.Proofs.Tryz.f68) (m:=2) (a:=tD) rfl (fun _=>rfl) Go.Proofs.Tryz.func68 HB (by rw [HD];exact h)
def jY (C:CC) (p0 p14 p15:V):bh:=fun l h q=>cIQ .lss (ge l 0) p15 (bxQ h 1 p14 (ge l 0) fun v2=>b1Q h v2 fun v3=>clQ C h F.iP [p0,v3] fun v4 h=>nzQ v4 (q .ret [v4] h) (bIQ .add (ge l 0) (I 1) fun v6=>q .normal [v6] h)) (q (.exit 0) [] h)
def fW (C:CC) (t0 t1:V) (q:kQ):Prop:=let h:Hp:=.replicate 0 (0,.none)
 clQ C h F.bU [t0] fun v1 h=>nzQ v1 (q v1 h) (blQ t1 fun v3=>lp (jY C t0 t1 v3) [] h [(I 0)] h (exK [((.exit 0),fun l4 h=>q (I 0) h), (.ret,fun l4 h=>q (ge l4 0) h)]))
theorem xF {t0 t1 v:V} (h:fW (CX Y) t0 t1 (out v)):CP Y F.fW [t0,t1] v:=CPo 0 (.n .x .o (.n .x .o (.n .x (.n .x .o (.n .x (.n (.l [16] [0,14,15] [((.exit 0),[],[]),(.ret,[4],[])] []) .o .o) .o)) .o))) Tryz.func58 h
def kW (C:CC) (t0:V) (q:kQ):Prop:=let h:Hp:=.replicate 0 (0,.none)
 clQ C h F.aI [t0,(.fn F.gC [] [])] fun v1 h=>cnd v1 (q (.tup [nSQ,(I 4)]) h) (q (.tup [t0,(I 0)]) h)
theorem Bm {t0 v:V} (h:kW (CX Y) t0 (out v)):CP Y F.kW [t0] v:=CPo 0 .o Tryz.func116 h
def gC (C:CC) (t0:V) (q:kQ):Prop:=let h:Hp:=.replicate 1 (0,.none)
 iI 0 t0 h fun v1 h=>bnd (ldA h 2 v1) fun v2=>clQ C h F.jF [v2] fun v3 h=>bnd (unV .not v3) fun v4=>q v4 h
theorem wc {t0 v:V} (h:gC (CX Y) t0 (out v)):CP Y F.gC [t0] v:=CPo 1 (.n .x (.n (.r [.slot 0]) .o .o) .o) Tryz.func153 h
def iR (C:CC) (t0 t1 t2:V) (q:kQ):Prop:=let h:Hp:=.replicate 0 (0,.none)
 clQ C h F.fW [t0,t1] fun v1 h=>nzQ v1 (q (.tup [nSQ,v1]) h) (blQ t2 fun v3=>blQ t1 fun v4=>cIQ .neq v3 v4 (q (.tup [nSQ,(I 5)]) h) (clQ C h F.aF [t2,(.fn F.fw [] [])] fun v6 h=>cnd v6 (q (.tup [nSQ,(I 2)]) h) (blQ t0 fun v7=>clQ C h F.je [v7,t1,t2] fun v8 h=>clQ C h F.kW [v8] fun v9 h=>e2Q v9 fun v10 v11=>q (.tup [v10,v11]) h)))
theorem zo {t0 t1 t2 v:V} (h:iR (CX Y) t0 t1 t2 (out v)):CP Y F.iR [t0,t1,t2] v:=CPo 0 .o Tryz.func71 h
def fw (C:CC) (t0:V) (q:kQ):Prop:=let h:Hp:=.replicate 1 (0,.none)
 iI 0 t0 h fun v1 h=>bnd (ldA h 2 v1) fun v2=>clQ C h F.fe [v2] fun v3 h=>bIQ .neq v3 (I 0) fun v4=>q v4 h
theorem uC {t0 v:V} (h:fw (CX Y) t0 (out v)):CP Y F.fw [t0] v:=CPo 1 (.n .x (.n (.r [.slot 0]) .o .o) .o) Tryz.func114 h
def iQ (C:CC) (t0 t1 t2:V) (q:kQ):Prop:=let h:Hp:=.replicate 1 (0,.none)
 iI 0 t2 h fun v1 h=>eh 1 [.pl (.slice none 0 0)] [(0,t1)] h fun v2 h=>bnd (ldA h 2 v1) fun v3=>eh 1 [.str [],.str []] [(0,v3)] h fun v4 h=>clQ C h F.iR [t0,v2,v4] fun v5 h=>e2Q v5 fun v6 v7=>q (.tup [v6,v7]) h
theorem Dz {t0 t1 t2 v:V} (h:iQ (CX Y) t0 t1 t2 (out v)):CP Y F.iQ [t0,t1,t2] v:=CPo 1 (.n .x (.n (.r [.slot 0]) .o .o) .o) Tryz.func27 h
def kX (C:CC) (b:Nat) (h:Hp) (t0:V) (q:kQ):Prop:=let h:Hp:=h++List.replicate 1 (0,.none)
 clQ C h F.bU [t0] fun v1 h=>nzQ v1 (q (.tup [nSQ,v1]) h) (blQ t0 fun v3=>ciQ C h F.jV [v3] (b+0) fun v4 h=>q (.tup [v4,(I 0)]) h)
def rF (b:Nat):Ann:=(.n .x .o (.n .x .o (.n .x (.n (.r [.inl (b+0)]) .o .o) .o)))
theorem FA (C:CC) (h:Hp) (t0:V) (q:V->Hp->Prop):fnI Y C Go.Proofs.Tryz.f42 1 rF [t0] h q=kX C h.length h t0 q:=by
 rfl
theorem Fy (b:Nat):okB Go.Proofs.Tryz.prog Go.Proofs.Tryz.f42 (rF b)=true:=by rfl
theorem Fz {t0 v:V} {h h2:Hp} (hh:kX (CX Y) h.length h t0 (rL h.length v h2)):CI Y F.kX [t0] h v h2:=
 CI.of (fn:=Go.Proofs.Tryz.f42) (m:=1) (a:=rF) rfl (fun _=>rfl) Go.Proofs.Tryz.func42 (Fy _) (by rw [FA];exact hh)
def kY (C:CC) (t0:V) (q:kQ):Prop:=let h:Hp:=.replicate 1 (0,.none)
 ciQ C h F.kX [t0] 0 fun v1 h=>e2Q v1 fun v2 v3=>nzQ v3 (q (.tup [nSQ,v3]) h) (clQ C h F.bN [(I 1)] fun v5 h=>bxQ h 2 v2 (I 0) fun v6=>stD h 2 v6 v5 fun _ h=>q (.tup [v2,(I 0)]) h)
theorem Bp {t0 v:V} (h:kY (CX Y) t0 (out v)):CP Y F.kY [t0] v:=CPo 1 (.n .x .o (.n .x (.n (.r [.inl 0]) .o .o) .o)) Tryz.func30 h
def qc (C:CC) (p7 p19 p20:V):bh:=fun l h q=>cIQ .lss (ge l 0) p20 (bxQ h 1 p19 (ge l 0) fun v2=>b1Q h v2 fun v3=>clQ C h F.bN [v3] fun v4 h=>bxQ h 2 p7 (ge l 0) fun v5=>stD h 2 v5 v4 fun _ h=>bIQ .add (ge l 0) (I 1) fun v7=>q .normal [v7] h) (q (.exit 0) [] h)
def qd (C:CC) (t0 t1:V) (q:kQ):Prop:=let h:Hp:=.replicate 1 (0,.none)
 clQ C h F.hO [t0,t1] fun v1 h=>nzQ v1 (q (.tup [nSQ,v1]) h) (blQ t0 fun v3=>ciQ C h F.jV [v3] 0 fun v4 h=>blQ t1 fun v5=>lp (qc C v4 t1 v5) [] h [(I 0)] h (exK [((.exit 0),fun l6 h=>q (.tup [v4,(I 0)]) h)]))
theorem KW {t0 t1 v:V} (h:qd (CX Y) t0 t1 (out v)):CP Y F.qd [t0,t1] v:=CPo 1 (.n .x .o (.n .x .o (.n .x (.n (.r [.inl 0]) .o .o) (.n .x (.n .x .o (.n .x (.n (.l [21] [7,19,20] [((.exit 0),[],[7])] []) .o .o) .o)) .o)))) Tryz.func85 h
def pz (C:CC) (t0 t1 t2:V) (q:kQ):Prop:=let h:Hp:=.replicate 0 (0,.none)
 eh 2 [.pl (.slice none 0 0)] [(0,t1),(1,t2)] h fun v1 h=>clQ C h F.bN [(I 1)] fun v2 h=>clQ C h F.bN [(I (-1))] fun v3 h=>eh 2 [.str [],.str []] [(0,v2),(1,v3)] h fun v4 h=>clQ C h F.iR [t0,v1,v4] fun v5 h=>e2Q v5 fun v6 v7=>q (.tup [v6,v7]) h
theorem HF {t0 t1 t2 v:V} (h:pz (CX Y) t0 t1 t2 (out v)):CP Y F.pz [t0,t1,t2] v:=CPo 0 .o Tryz.func91 h
def mp (C:CC) (t0 t1:V) (q:kQ):Prop:=let h:Hp:=.replicate 0 (0,.none)
 clQ C h F.aL [t0,t1] fun v1 h=>q v1 h
theorem DG {t0 t1 v:V} (h:mp (CX Y) t0 t1 (out v)):CP Y F.mp [t0,t1] v:=CPo 0 .o Tryz.func28 h
end Go.Vm
namespace Go.Vm
open Go Go.Am Go.Proofs
end Go.Vm
namespace Go.Vm
open Go Go.Am Go.Proofs
end Go.Vm
namespace Go.Vm
open Go Go.Am Go.Proofs
def hO (C:CC) (t0 t1:V) (q:kQ):Prop:=let h:Hp:=.replicate 0 (0,.none)
 eh 1 [.pl (.slice none 0 0)] [(0,t1)] h fun v1 h=>clQ C h F.iz [t0,v1] fun v2 h=>q v2 h
theorem Bu {t0 t1 v:V} (h:hO (CX Y) t0 t1 (out v)):CP Y F.hO [t0,t1] v:=CPo 0 .o Tryz.func55 h
def jA (C:CC) (p26 p27:V):bh:=fun l h q=>cIQ .lss (ge l 0) p27 (bxQ h 1 p26 (ge l 0) fun v2=>b1Q h v2 fun v3=>bIQ .gtr v3 (I 1000) fun v4=>gqQ v4 false h v3 fun v5 h=>gbQ v4 false h (biI .lss v5 (I (-1000))) fun v6 h=>bpQ v4 (B true) v6 fun v7=>cnd v7 (q .ret [(I 4)] h) (bIQ .add (ge l 0) (I 1) fun v8=>q .normal [v8] h)) (q (.exit 2) [] h)
def hH (C:CC) (p0 p15 p16:V):bh:=fun l h q=>cIQ .lss (ge l 0) p16 (bxQ h 1 p15 (ge l 0) fun v2=>b1Q h v2 fun v3=>blQ v3 fun v4=>blQ p0 fun v5=>cIQ .neq v4 v5 (q .ret [(I 5)] h) (blQ v3 fun v7=>lp (jA C v3 v7) [] h [(I 0)] h (exK [((.exit 2),fun l8 h=>bIQ .add (ge l 0) (I 1) fun v9=>q .normal [v9] h), (.ret,fun l8 h=>q .ret [(ge l8 0)] h)]))) (q (.exit 0) [] h)
def iz (C:CC) (t0 t1:V) (q:kQ):Prop:=let h:Hp:=.replicate 0 (0,.none)
 clQ C h F.bU [t0] fun v1 h=>nzQ v1 (q v1 h) (blQ t1 fun v3=>lp (hH C t0 t1 v3) [] h [(I 0)] h (exK [((.exit 0),fun l4 h=>q (I 0) h), (.ret,fun l4 h=>q (ge l4 0) h)]))
theorem wy {t0 t1 v:V} (h:iz (CX Y) t0 t1 (out v)):CP Y F.iz [t0,t1] v:=CPo 0 (.n .x .o (.n .x .o (.n .x (.n .x .o (.n .x (.n (.l [17] [0,15,16] [((.exit 0),[],[]),(.ret,[4],[])] []) (.n .x .o (.n .x .o (.n .x (.n .x (.n .x .o (.n .x .o (.n .x .o (.n .x (.n (.l [28] [0,15,16,17,26,27] [((.exit 2),[],[0,15,16,17]),(.ret,[4],[])] []) .o .o) .o)))) .o) .o))) .o) .o)) .o))) Tryz.func101 h
def dZ (C:CC) (t0 t1:V) (q:kQ):Prop:=let h:Hp:=.replicate 0 (0,.none)
 clQ C h F.bU [t0] fun v1 h=>nzQ v1 (q v1 h) (bIQ .lss t1 (I 1) fun v3=>gqQ v3 false h t1 fun v4 h=>gbQ v3 false h (biI .gtr v4 (I 10000)) fun v5 h=>bpQ v3 (B true) v5 fun v6=>cnd v6 (q (I 3) h) (q (I 0) h))
theorem wK {t0 t1 v:V} (h:dZ (CX Y) t0 t1 (out v)):CP Y F.dZ [t0,t1] v:=CPo 0 .o Tryz.func62 h
def gK (C:CC) (p0 p11 p12:V):bh:=fun l h q=>cIQ .lss (ge l 0) p12 (bxQ h 1 p11 (ge l 0) fun v2=>b1Q h v2 fun v3=>clQ C h F.hO [p0,v3] fun v4 h=>nzQ v4 (q .ret [v4] h) (bIQ .add (ge l 0) (I 1) fun v6=>q .normal [v6] h)) (q (.exit 0) [] h)
def bE (C:CC) (t0 t1:V) (q:kQ):Prop:=let h:Hp:=.replicate 0 (0,.none)
 blQ t1 fun v1=>cIQ .gtr v1 (I 60) (q (I 4) h) (blQ t1 fun v3=>lp (gK C t0 t1 v3) [] h [(I 0)] h (exK [((.exit 0),fun l4 h=>q (I 0) h), (.ret,fun l4 h=>q (ge l4 0) h)]))
theorem rX {t0 t1 v:V} (h:bE (CX Y) t0 t1 (out v)):CP Y F.bE [t0,t1] v:=CPo 0 (.n .x .o (.n .x .o (.n .x (.n .x .o (.n .x (.n (.l [13] [0,11,12] [((.exit 0),[],[]),(.ret,[4],[])] []) .o .o) .o)) .o))) Tryz.func74 h
def gh (C:CC) (t0 t1:V) (q:kQ):Prop:=let h:Hp:=.replicate 0 (0,.none)
 clQ C h F.kY [t0] fun v1 h=>e2Q v1 fun v2 v3=>nzQ v3 (q (.tup [nSQ,v3]) h) (clQ C h F.bT [t1] fun v5 h=>bnd (bld [(0,1),(1,1)] [.str [],.str []] [(0,(.d (.str [49]))),(1,v5)]) fun v6=>clQ C h F.iQ [t0,v2,v6] fun v7 h=>e2Q v7 fun v8 v9=>q (.tup [v8,v9]) h)
theorem xP {t0 t1 v:V} (h:gh (CX Y) t0 t1 (out v)):CP Y F.gh [t0,t1] v:=CPo 0 .o Tryz.func63 h
def eM (C:CC) (t0 t1 t2:V) (q:kQ):Prop:=let h:Hp:=.replicate 0 (0,.none)
 clQ C h F.gh [t0,t1] fun v1 h=>e2Q v1 fun v2 v3=>nzQ v3 (q (.tup [(.d (.str [])),v3]) h) (clQ C h F.mj [t0,t2,v2] fun v5 h=>e2Q v5 fun v6 v7=>q (.tup [v6,v7]) h)
theorem tZ {t0 t1 t2 v:V} (h:eM (CX Y) t0 t1 t2 (out v)):CP Y F.eM [t0,t1,t2] v:=CPo 0 .o Tryz.func65 h
def iE (C:CC) (t0 t1 t2:V) (q:kQ):Prop:=let h:Hp:=.replicate 0 (0,.none)
 clQ C h F.gh [t0,t1] fun v1 h=>e2Q v1 fun v2 v3=>nzQ v3 (q (.tup [nSQ,v3]) h) (bnd (bld [(0,1),(1,1)] [.str [],.str []] [(0,t2),(1,(.d (.str [49])))]) fun v5=>clQ C h F.iQ [t0,v2,v5] fun v6 h=>e2Q v6 fun v7 v8=>q (.tup [v7,v8]) h)
theorem wJ {t0 t1 t2 v:V} (h:iE (CX Y) t0 t1 t2 (out v)):CP Y F.iE [t0,t1,t2] v:=CPo 0 .o Tryz.func66 h
def j7 (C:CC) (t0 t1 t2 t3:V) (q:kQ):Prop:=let h:Hp:=.replicate 0 (0,.none)
 clQ C h F.iE [t0,t1,t2] fun v1 h=>e2Q v1 fun v2 v3=>nzQ v3 (q (.tup [nSQ,v3]) h) (clQ C h F.pz [t0,v2,t3] fun v5 h=>e2Q v5 fun v6 v7=>q (.tup [v6,v7]) h)
theorem Aw {t0 t1 t2 t3 v:V} (h:j7 (CX Y) t0 t1 t2 t3 (out v)):CP Y F.j7 [t0,t1,t2,t3] v:=CPo 0 .o Tryz.func86 h
def eN (C:CC) (t0 t1 t2:V) (q:kQ):Prop:=let h:Hp:=.replicate 0 (0,.none)
 clQ C h F.qd [t0,t2] fun v1 h=>e2Q v1 fun v2 v3=>nzQ v3 (q (.tup [nSQ,v3]) h) (clQ C h F.eM [t0,t1,v2] fun v5 h=>e2Q v5 fun v6 v7=>nzQ v7 (q (.tup [nSQ,v7]) h) (clQ C h F.j7 [t0,t1,v6,v2] fun v9 h=>e2Q v9 fun v10 v11=>q (.tup [v10,v11]) h))
theorem t6 {t0 t1 t2 v:V} (h:eN (CX Y) t0 t1 t2 (out v)):CP Y F.eN [t0,t1,t2] v:=CPo 0 .o Tryz.func80 h
def iY (C:CC) (p0 p1 p27 p28:V):bh:=fun l h q=>cIQ .lss (ge l 1) p28 (bxQ h 1 p27 (ge l 1) fun v2=>b1Q h v2 fun v3=>clQ C h F.eN [p0,p1,v3] fun v4 h=>e2Q v4 fun v5 v6=>nzQ v6 (q .ret [nSQ,v6] h) (eh 1 [.pl (.slice none 0 0)] [(0,v5)] h fun v8 h=>apV false 0 1 24 (ge l 0) v8 h fun v9 h=>bIQ .add (ge l 1) (I 1) fun v10=>q .normal [v9,v10] h)) (q (.exit 0) [(ge l 0)] h)
def cu (C:CC) (t0 t1 t2:V) (q:kQ):Prop:=let h:Hp:=.replicate 1 (0,.none)
 clQ C h F.dZ [t0,t1] fun v1 h=>nzQ v1 (q (.tup [nSQ,v1]) h) (clQ C h F.bE [t0,t2] fun v3 h=>nzQ v3 (q (.tup [nSQ,v3]) h) (blQ t2 fun v5=>lp (iY C t0 t1 t2 v5) [] h [nSQ,(I 0)] h (exK [((.exit 0),fun l6 h=>q (.tup [(ge l6 0),(I 0)]) h), (.ret,fun l6 h=>q (.tup [(ge l6 0),(ge l6 1)]) h)])))
theorem oQ {t0 t1 t2 v:V} (h:cu (CX Y) t0 t1 t2 (out v)):CP Y F.cu [t0,t1,t2] v:=CPo 1 (.n .x .o (.n .x .o (.n .x .o (.n .x .o (.n .x (.n .x .o (.n .x (.n (.l [10,29] [0,1,27,28] [((.exit 0),[10],[]),(.ret,[6,7],[])] []) (.n .x .o (.n .x .o (.n .x (.n .x (.n .x .o (.n .x .o (.n .x .o (.n (.r [.o,.slot 0]) .o .o)))) .o) .o))) .o) .o)) .o))))) Tryz.func37 h
def iX (C:CC) (p0 p1 p14 p15:V):bh:=fun l h q=>cIQ .lss (ge l 1) p15 (bxQ h 1 p14 (ge l 1) fun v2=>b1Q h v2 fun v3=>clQ C h F.qd [p0,v3] fun v4 h=>e2Q v4 fun v5 v6=>nzQ v6 (q .ret [nSQ,v6] h) (clQ C h F.eM [p0,p1,v5] fun v8 h=>e2Q v8 fun v9 v10=>nzQ v10 (q .ret [nSQ,v10] h) (eh 1 [.str []] [(0,v9)] h fun v12 h=>apV false 0 1 16 (ge l 0) v12 h fun v13 h=>bIQ .add (ge l 1) (I 1) fun v14=>q .normal [v13,v14] h))) (q (.exit 0) [(ge l 0)] h)
def fC (C:CC) (t0 t1 t2:V) (q:kQ):Prop:=let h:Hp:=.replicate 1 (0,.none)
 blQ t2 fun v1=>lp (iX C t0 t1 t2 v1) [] h [nSQ,(I 0)] h (exK [((.exit 0),fun l2 h=>q (.tup [(ge l2 0),(I 0)]) h), (.ret,fun l2 h=>q (.tup [(ge l2 0),(ge l2 1)]) h)])
theorem vv {t0 t1 t2 v:V} (h:fC (CX Y) t0 t1 t2 (out v)):CP Y F.fC [t0,t1,t2] v:=CPo 1 (.n .x .o (.n .x .o (.n .x (.n .x .o (.n .x (.n (.l [8,16] [0,1,14,15] [((.exit 0),[8],[]),(.ret,[6,7],[])] []) (.n .x .o (.n .x .o (.n .x (.n .x (.n .x .o (.n .x .o (.n .x .o (.n .x .o (.n .x .o (.n (.r [.o,.slot 0]) .o .o)))))) .o) .o))) .o) .o)) .o))) Tryz.func92 h
def jj (C:CC) (p0 p1 p2 p9:V):bh:=fun l h q=>cIQ .lss (ge l 0) p9 (bxQ h 1 p0 (ge l 0) fun v2=>b1Q h v2 fun v3=>bxQ h 1 p1 (ge l 0) fun v4=>b1Q h v4 fun v5=>bIQ .add v3 v5 fun v6=>bxQ h 1 p2 (ge l 0) fun v7=>b1Q h v7 fun v8=>cIQ .neq v6 v8 (q .ret [(B false)] h) (bIQ .add (ge l 0) (I 1) fun v10=>q .normal [v10] h)) (q (.exit 0) [] h)
def j6 (C:CC) (t0 t1 t2:V) (q:kQ):Prop:=let h:Hp:=.replicate 0 (0,.none)
 blQ t0 fun v1=>lp (jj C t0 t1 t2 v1) [] h [(I 0)] h (exK [((.exit 0),fun l2 h=>q (B true) h), (.ret,fun l2 h=>q (ge l2 0) h)])
theorem Av {t0 t1 t2 v:V} (h:j6 (CX Y) t0 t1 t2 (out v)):CP Y F.j6 [t0,t1,t2] v:=CPo 0 (.n .x .o (.n .x (.n .x .o (.n .x (.n (.l [10] [0,1,2,9] [((.exit 0),[],[]),(.ret,[6],[])] []) .o .o) .o)) .o)) Tryz.func97 h
def fK (C:CC) (p7 p11 p12 p13 p14 p15 p57 p58:V):bh:=fun l h q=>cIQ .lss (ge l 0) p58 (bxQ h 1 p57 (ge l 0) fun v2=>b1Q h v2 fun v3=>clQ C h F.j6 [p13,p15,v3] fun v4 h=>gqQ v4 true h p11 fun v5 h=>gqQ v4 true h p12 fun v6 h=>gbQ v4 true h (ixV h 1 v5 v6) fun v7 h=>gbQ v4 true h (ld1 h v7) fun v8 h=>gqQ v4 true h p11 fun v9 h=>gqQ v4 true h p14 fun v10 h=>gbQ v4 true h (ixV h 1 v9 v10) fun v11 h=>gbQ v4 true h (ld1 h v11) fun v12 h=>gd v4 true h (fun q=>clQ C h F.bR [v8,v12] q) fun v13 h=>gqQ v4 true h p11 fun v14 h=>gqQ v4 true h (ge l 0) fun v15 h=>gbQ v4 true h (ixV h 1 v14 v15) fun v16 h=>gbQ v4 true h (ld1 h v16) fun v17 h=>gbQ v4 true h (biS .neq v13 v17) fun v18 h=>bpQ v4 v18 (B false) fun v19=>cnd v19 (bnd (bld [(0,1),(1,1),(2,1)] [.int .i64 0,.int .i64 0,.int .i64 0] [(0,p12),(1,p14),(2,(ge l 0))]) fun v20=>stD h 3 p7 v20 fun _ h=>q .ret [(B false),(I 0)] h) (bIQ .add (ge l 0) (I 1) fun v22=>q .normal [v22] h)) (q (.exit 4) [] h)
def fL (C:CC) (p2 p7 p11 p12 p13 p50 p51:V):bh:=fun l h q=>cIQ .lss (ge l 0) p51 (bxQ h 1 p50 (ge l 0) fun v2=>b1Q h v2 fun v3=>blQ p2 fun v4=>lp (fK C p7 p11 p12 p13 (ge l 0) v3 p2 v4) [] h [(I 0)] h (exK [((.exit 4),fun l5 h=>bIQ .add (ge l 0) (I 1) fun v6=>q .normal [v6] h), (.ret,fun l5 h=>q .ret [(ge l5 0),(ge l5 1)] h)])) (q (.exit 2) [] h)
def fM (C:CC) (p2 p7 p11 p43 p44:V):bh:=fun l h q=>cIQ .lss (ge l 0) p44 (bxQ h 1 p43 (ge l 0) fun v2=>b1Q h v2 fun v3=>blQ p2 fun v4=>lp (fL C p2 p7 p11 (ge l 0) v3 p2 v4) [] h [(I 0)] h (exK [((.exit 2),fun l5 h=>bIQ .add (ge l 0) (I 1) fun v6=>q .normal [v6] h), (.ret,fun l5 h=>q .ret [(ge l5 0),(ge l5 1)] h)])) (q (.exit 0) [] h)
def aM (C:CC) (t0 t1 t2:V) (q:kQ):Prop:=let h:Hp:=.replicate 1 (0,.none)
 alV 0 [.d (.int .i64 0),.d (.int .i64 0),.d (.int .i64 0)] h fun v1 h=>clQ C h F.dZ [t0,t1] fun v2 h=>nzQ v2 (bnd (bld [(0,1),(1,1),(2,1)] [.int .i64 0,.int .i64 0,.int .i64 0] []) fun v4=>stD h 3 v1 v4 fun _ h=>bnd (ldA h 3 v1) fun v6=>q (.tup [(B false),v6,v2]) h) (clQ C h F.bE [t0,t2] fun v7 h=>nzQ v7 (bnd (bld [(0,1),(1,1),(2,1)] [.int .i64 0,.int .i64 0,.int .i64 0] []) fun v9=>stD h 3 v1 v9 fun _ h=>bnd (ldA h 3 v1) fun v11=>q (.tup [(B false),v11,v7]) h) (clQ C h F.fC [t0,t1,t2] fun v12 h=>e2Q v12 fun v13 v14=>nzQ v14 (bnd (bld [(0,1),(1,1),(2,1)] [.int .i64 0,.int .i64 0,.int .i64 0] []) fun v16=>stD h 3 v1 v16 fun _ h=>bnd (ldA h 3 v1) fun v18=>q (.tup [(B false),v18,v14]) h) (blQ t2 fun v19=>lp (fM C t2 v1 v13 t2 v19) [] h [(I 0)] h (exK [((.exit 0),fun l20 h=>bnd (bld [(0,1),(1,1),(2,1)] [.int .i64 0,.int .i64 0,.int .i64 0] []) fun v21=>stD h 3 v1 v21 fun _ h=>bnd (ldA h 3 v1) fun v23=>q (.tup [(B true),v23,(I 0)]) h), (.ret,fun l20 h=>bnd (ldA h 3 v1) fun v24=>q (.tup [(ge l20 0),v24,(ge l20 1)]) h)]))))
theorem lZ {t0 t1 t2 v:V} (h:aM (CX Y) t0 t1 t2 (out v)):CP Y F.aM [t0,t1,t2] v:=CPo 1 (.n .x (.n (.r [.slot 0]) .o .o) (.n .x .o (.n .x .o (.n .x .o (.n .x .o (.n .x (.n .x .o (.n .x (.n (.l [45] [2,7,11,43,44] [((.exit 0),[],[7]),(.ret,[6,8],[7])] []) (.n .x .o (.n .x .o (.n .x (.n .x (.n .x .o (.n .x .o (.n .x (.n (.l [52] [2,7,11,12,13,43,44,45,50,51] [((.exit 2),[],[2,7,11,43,44,45]),(.ret,[6,8],[7])] []) (.n .x .o (.n .x .o (.n .x (.n .x (.n .x .o (.n .x .o (.n .x (.n (.l [59] [2,7,11,12,13,14,15,43,44,45,50,51,52,57,58] [((.exit 4),[],[2,7,11,12,13,43,44,45,50,51,52]),(.ret,[6,8],[7])] []) .o .o) .o))) .o) .o))) .o) .o))) .o) .o))) .o) .o)) .o)))))) Tryz.func51 h
def gj (C:CC) (t0 t1 t2:V) (q:kQ):Prop:=let h:Hp:=.replicate 0 (0,.none)
 clQ C h F.eN [t0,t1,t2] fun v1 h=>e2Q v1 fun v2 v3=>nzQ v3 (q (.tup [nSQ,v3]) h) (clQ C h F.pA [t0,v2] fun v5 h=>e2Q v5 fun v6 v7=>q (.tup [v6,v7]) h)
theorem xR {t0 t1 t2 v:V} (h:gj (CX Y) t0 t1 t2 (out v)):CP Y F.gj [t0,t1,t2] v:=CPo 0 .o Tryz.func56 h
def eV (C:CC) (t0 t1 t2:V) (q:kQ):Prop:=let h:Hp:=.replicate 0 (0,.none)
 clQ C h F.jX [t0,t1,t2] fun v1 h=>e2Q v1 fun v2 v3=>bIQ .eql v3 (I 0) fun v4=>gqQ v4 true h v2 fun v5 h=>gbQ v4 true h (biI .lss v5 (I 0)) fun v6 h=>bpQ v4 v6 (B false) fun v7=>q v7 h
theorem xQ {t0 t1 t2 v:V} (h:eV (CX Y) t0 t1 t2 (out v)):CP Y F.eV [t0,t1,t2] v:=CPo 0 .o Tryz.func57 h
def iu (C:CC) (p0 p1 p2:V):bh:=fun l h q=>cIQ .leq (ge l 2) p2 (jn (fun l2 h=>bIQ .add (ge l 2) (I 1) fun v4=>q .normal [(ge l2 0),(ge l2 1),v4] h) fun q3=>clQ C h F.gj [p0,(ge l 2),p1] fun v5 h=>e2Q v5 fun v6 v7=>nzQ v7 (q .ret [nSQ,v7] h) (bIQ .eql (ge l 2) (I 1) fun v9=>gqQ v9 false h p0 fun v10 h=>gqQ v9 false h v6 fun v11 h=>gqQ v9 false h (ge l 1) fun v12 h=>gd v9 false h (fun q=>clQ C h F.eV [v10,v11,v12] q) fun v13 h=>bpQ v9 (B true) v13 fun v14=>jn (fun l15 h=>q3 [(ge l15 0),(ge l15 1)] h) fun q16=>cnd v14 (a1Q 0 (ge l 0) (ge l 2) h fun v18 h=>q16 [v18,v6] h) (q16 [(ge l 0),(ge l 1)] h))) (q (.exit 0) [(ge l 0)] h)
def eO (C:CC) (t0 t1 t2:V) (q:kQ):Prop:=let h:Hp:=.replicate 1 (0,.none)
 clQ C h F.bU [t0] fun v1 h=>nzQ v1 (q (.tup [nSQ,v1]) h) (clQ C h F.hO [t0,t1] fun v3 h=>nzQ v3 (q (.tup [nSQ,v3]) h) (bIQ .lss t2 (I 1) fun v5=>gqQ v5 false h t2 fun v6 h=>gbQ v5 false h (biI .gtr v6 (I 500)) fun v7 h=>bpQ v5 (B true) v7 fun v8=>cnd v8 (q (.tup [nSQ,(I 3)]) h) (lp (iu C t0 t1 t2) [] h [nSQ,nSQ,(I 1)] h (exK [((.exit 0),fun l9 h=>q (.tup [(ge l9 0),(I 0)]) h), (.ret,fun l9 h=>q (.tup [(ge l9 0),(ge l9 1)]) h)]))))
theorem t8 {t0 t1 t2 v:V} (h:eO (CX Y) t0 t1 t2 (out v)):CP Y F.eO [t0,t1,t2] v:=CPo 1 (.n .x .o (.n .x .o (.n .x .o (.n .x .o (.n .x .o (.n .x .o (.n .x (.n .x .o (.n .x (.n (.l [10,11,12] [0,1,2] [((.exit 0),[10],[]),(.ret,[6,7],[])] []) (.n .x .o (.n .x (.n (.j [10,11] [0,1,2,12]) (.n .x .o (.n .x .o (.n .x .o (.n (.j [10,11] [0,1,2,12]) (.n (.r [.o,.slot 0]) .o .o) .o)))) .o) .o)) .o) .o)) .o))))))) Tryz.func16 h
end Go.Vm
namespace Go.Vm
open Go Go.Am Go.Proofs
end Go.Vm
namespace Go.Vm
open Go Go.Am Go.Proofs
def nQ (C:CC) (t0 t1:V) (q:kQ):Prop:=let h:Hp:=.replicate 0 (0,.none)
 clQ C h F.jH [t0,t1] fun v1 h=>nzQ v1 (q (.tup [(I 0),v1]) h) (clQ C h F.dY [t0,t1] fun v3 h=>clQ C h F.dC [v3] fun v4 h=>q (.tup [v4,(I 0)]) h)
theorem FB {t0 t1 v:V} (h:nQ (CX Y) t0 t1 (out v)):CP Y F.nQ [t0,t1] v:=CPo 0 .o Tryz.func40 h
def pA (C:CC) (t0 t1:V) (q:kQ):Prop:=let h:Hp:=.replicate 0 (0,.none)
 clQ C h F.nQ [t0,t1] fun v1 h=>e2Q v1 fun v2 v3=>nzQ v3 (q (.tup [nSQ,v3]) h) (blQ t0 fun v5=>eh 1 [.pl (.slice none 0 0)] [(0,t1)] h fun v6 h=>bnd (unV .neg v2) fun v7=>bnd (mxI true [v2,v7]) fun v8=>bnd (mxI true [v2,(I 0)]) fun v9=>bIQ .mul (I 2) v9 fun v10=>bIQ .sub v10 (I 1) fun v11=>bIQ .mul v8 v11 fun v12=>clQ C h F.bN [v12] fun v13 h=>eh 1 [.str [],.str []] [(0,v13)] h fun v14 h=>clQ C h F.je [v5,v6,v14] fun v15 h=>q (.tup [v15,(I 0)]) h)
theorem HG {t0 t1 v:V} (h:pA (CX Y) t0 t1 (out v)):CP Y F.pA [t0,t1] v:=CPo 0 .o Tryz.func38 h
def jW (C:CC) (t0 t1 t2:V) (q:kQ):Prop:=let h:Hp:=.replicate 0 (0,.none)
 blQ t0 fun v1=>eh 2 [.pl (.slice none 0 0)] [(0,t1),(1,t2)] h fun v2 h=>clQ C h F.bN [(I 1)] fun v3 h=>clQ C h F.bN [(I (-1))] fun v4 h=>eh 2 [.str [],.str []] [(0,v3),(1,v4)] h fun v5 h=>clQ C h F.je [v1,v2,v5] fun v6 h=>clQ C h F.dY [t0,v6] fun v7 h=>clQ C h F.dC [v7] fun v8 h=>q v8 h
theorem zm {t0 t1 t2 v:V} (h:jW (CX Y) t0 t1 t2 (out v)):CP Y F.jW [t0,t1,t2] v:=CPo 0 .o Tryz.func59 h
def jX (C:CC) (t0 t1 t2:V) (q:kQ):Prop:=let h:Hp:=.replicate 0 (0,.none)
 eh 2 [.pl (.slice none 0 0)] [(0,t1),(1,t2)] h fun v1 h=>clQ C h F.fW [t0,v1] fun v2 h=>nzQ v2 (q (.tup [(I 0),v2]) h) (clQ C h F.jW [t0,t1,t2] fun v4 h=>q (.tup [v4,(I 0)]) h)
theorem zn {t0 t1 t2 v:V} (h:jX (CX Y) t0 t1 t2 (out v)):CP Y F.jX [t0,t1,t2] v:=CPo 0 .o Tryz.func18 h
def ku (C:CC) (p0 p6 p12 p13:V):bh:=fun l h q=>cIQ .lss (ge l 0) p13 (jn (fun l2 h=>bIQ .add (ge l 0) (I 1) fun v4=>q .normal [v4] h) fun q3=>bxQ h 2 p12 (ge l 0) fun v5=>bnd (ldA h 2 v5) fun v6=>alV 2 [.d (.str []),.d (.str [])] h fun v7 h=>stD h 2 v7 v6 fun _ h=>bfQ 0 v7 fun v9=>b1Q h v9 fun v10=>bSQ .neq v10 (.d (.str [48])) fun v11=>jn (fun l12 h=>q3 [] h) fun q13=>cnd v11 (bxQ h 2 p0 (ge l 0) fun v14=>bnd (ldA h 2 v14) fun v15=>bnd (ldA h 2 v7) fun v16=>clQ C h F.iW [v15,v16] fun v17 h=>e2Q v17 fun v18 v19=>stD h 2 p6 v18 fun _ h=>q13 [] h) (q13 [] h)) (q (.exit 0) [] h)
def jp (C:CC) (p0 p4 p6 p32 p33:V):bh:=fun l h q=>cIQ .lss (ge l 0) p33 (bxQ h 2 p32 (ge l 0) fun v2=>bnd (ldA h 2 v2) fun v3=>alV 3 [.d (.str []),.d (.str [])] h fun v4 h=>stD h 2 v4 v3 fun _ h=>bnd (ldA h 2 p6) fun v6=>bnd (ldA h 2 v4) fun v7=>clQ C h F.fJ [v6,v7] fun v8 h=>bxQ h 2 p0 (ge l 0) fun v9=>bnd (ldA h 2 v9) fun v10=>bnd (biA [.str [],.str []] .neq v8 v10) fun v11=>cnd v11 (bnd (ldA h 2 p6) fun v12=>stD h 2 p4 v12 fun _ h=>q .ret [(B false)] h) (bIQ .add (ge l 0) (I 1) fun v14=>q .normal [v14] h)) (q (.exit 2) [] h)
def kK (C:CC) (t0 t1:V) (q:kQ):Prop:=let h:Hp:=.replicate 4 (0,.none)
 alV 0 [.d (.str []),.d (.str [])] h fun v1 h=>clQ C h F.bN [(I 0)] fun v2 h=>alV 1 [.d (.str []),.d (.str [])] h fun v3 h=>stD h 2 v3 v2 fun _ h=>blQ t1 fun v5=>lp (ku C t0 v3 t1 v5) [2] h [(I 0)] h (exK [((.exit 0),fun l6 h=>blQ t1 fun v7=>lp (jp C t0 v1 v3 t1 v7) [3] h [(I 0)] h (exK [((.exit 2),fun l8 h=>bnd (ldA h 2 v3) fun v9=>stD h 2 v1 v9 fun _ h=>bnd (ldA h 2 v1) fun v11=>q (.tup [v11,(B true)]) h), (.ret,fun l8 h=>bnd (ldA h 2 v1) fun v12=>q (.tup [v12,(ge l8 0)]) h)]))])
theorem Du {t0 t1 v:V} (h:kK (CX Y) t0 t1 (out v)):CP Y F.kK [t0,t1] v:=CPo 4 (.n .x (.n (.r [.slot 0]) .o .o) (.n .x (.n (.r [.o,.slot 1]) .o .o) (.n .x (.n .x .o (.n .x (.n (.l [14] [0,1,4,6,12,13] [((.exit 0),[],[0,1,4,6])] [2]) (.n .x .o (.n .x .o (.n .x (.n (.j [] [0,1,4,6,12,13,14]) (.n .x (.n (.r [.slot 2]) .o .o) (.n .x .o (.n (.j [] [0,1,4,6,12,13,14]) .o .o))) .o) .o))) .o) .o)) (.n .x (.n .x .o (.n .x (.n (.l [34] [0,4,6,32,33] [((.exit 2),[],[4,6]),(.ret,[5],[4])] [3]) (.n .x .o (.n .x .o (.n .x (.n .x (.n .x (.n (.r [.slot 3]) .o .o) .o) .o) .o))) .o) .o)) .o)))) Tryz.func106 h
def dt (C:CC) (t0 t1:V) (q:V->Hp->Prop):Prop:=let h:Hp:=List.replicate 2 (0,.none)
 iI 0 t0 h fun v1 h=>iI 1 t1 h fun v2 h=>bnd (ldA h 3 v1) fun v3=>cal C.p h (.fn F.bP [] []) [v3,(I 100000)] fun v4 h=>ext v4 0 fun v5=>ext v4 1 fun v6=>ext v4 2 fun v7=>bnd (ldA h 3 v2) fun v8=>cal C.p h (.fn F.bP [] []) [v8,(I 100000)] fun v9 h=>ext v9 0 fun v10=>ext v9 1 fun v11=>ext v9 2 fun v12=>bnd (faV 2 v1) fun v13=>bnd (ld1 h v13) fun v14=>cal C.p h (.fn F.fS [] []) [v14] fun v15 h=>ext v15 0 fun v16=>ext v15 1 fun v17=>bnd (faV 2 v2) fun v18=>bnd (ld1 h v18) fun v19=>cal C.p h (.fn F.fS [] []) [v19] fun v20 h=>ext v20 0 fun v21=>ext v20 1 fun v22=>bnd (unV .not v7) fun v23=>gd v23 false h (fun q=>q v12 h) fun v24 h=>gd v23 false h (fun q=>bnd (unV .not v24) fun v=>q v h) fun v25 h=>bnd (cW v23 (B true) v25) fun v26=>gd v26 false h (fun q=>q v17 h) fun v27 h=>gd v26 false h (fun q=>bnd (unV .not v27) fun v=>q v h) fun v28 h=>bnd (cW v26 (B true) v28) fun v29=>gd v29 false h (fun q=>q v22 h) fun v30 h=>gd v29 false h (fun q=>bnd (unV .not v30) fun v=>q v h) fun v31 h=>bnd (cW v29 (B true) v31) fun v32=>gd v32 false h (fun q=>q v16 h) fun v33 h=>gd v32 false h (fun q=>bnd (biI .gtr v33 (I 10000)) fun v=>q v h) fun v34 h=>bnd (cW v32 (B true) v34) fun v35=>gd v35 false h (fun q=>q v21 h) fun v36 h=>gd v35 false h (fun q=>bnd (biI .gtr v36 (I 10000)) fun v=>q v h) fun v37 h=>bnd (cW v35 (B true) v37) fun v38=>cnd v38 (q (.tup [(I 0),(B false)]) h) (bnd (biI .leq v11 (I 0)) fun v39=>jn (fun l40 h=>bnd (biI .leq (ge l40 2) (I 0)) fun v42=>cnd v42 (q (.tup [(I 0),(B false)]) h) (bnd (biI .lss (ge l40 0) (I 0)) fun v43=>jn (fun l44 h=>bnd (biI .lss (ge l40 1) (I 0)) fun v46=>jn (fun l47 h=>bnd (biI .mul (ge l40 0) v21) fun v49=>bnd (biI .mul (ge l44 0) v16) fun v50=>cal C.p h (.fn F.dS [] []) [v49,v50] fun v51 h=>bnd (biI .mul (ge l40 1) v21) fun v52=>bnd (biI .mul (ge l47 0) v16) fun v53=>cal C.p h (.fn F.dS [] []) [v52,v53] fun v54 h=>bnd (biI .eql v51 v54) fun v55=>q (.tup [v51,v55]) h) fun q48=>cnd v46 (q48 [(ge l40 3)] h) (q48 [(ge l40 2)] h)) fun q45=>cnd v43 (q45 [(ge l40 2)] h) (q45 [(ge l40 3)] h))) fun q41=>cnd v39 (bnd (unV .neg v6) fun v56=>bnd (unV .neg v5) fun v57=>bnd (unV .neg v11) fun v58=>bnd (unV .neg v10) fun v59=>q41 [v56,v57,v58,v59] h) (q41 [v5,v6,v10,v11] h))
def m6:Ann:=(.n .x (.n (.r [.slot 0,.slot 1]) .o .o) (.n .x .o (.n .x .o (.n .x .o (.n .x .o (.n .x .o (.n .x (.n .x .o (.n (.j [6,7,9,10] [12,14]) .o .o)) (.n .x .o (.n .x .o (.n .x (.n .x .o (.n (.j [16] [6,7,10,12,14,17]) .o .o)) (.n .x (.n .x .o (.n (.j [17] [6,7,12,14,16]) .o .o)) .o)))))))))))
attribute [local irreducible] bnd gd cal cnd ext eh tf stD alV alD iI jn lp exK mkS apV cai tQ in
theorem xD (C:CC) (t0:V) (t1:V) (q:V->Hp->Prop):fnD Y C Go.Proofs.Tryz.f108 2 m6 [t0,t1] q=dt C t0 t1 q:=by
 repeat' (first | (refine AQ rfl fun _=>?_) | (refine Ir rfl fun _ _=>?_) | (refine AM rfl fun _ _=>?_) | (refine AI rfl ?_ ?_) | (refine An rfl fun _=>?_) | (refine tV rfl fun _ _=>?_) | (refine zb rfl fun _ _=>?_) | (refine AU rfl fun _ _=>?_) | (refine uf rfl fun _ _=>?_) | (refine Il rfl (fun _ _=>?_) fun _=>?_) | (refine Ih rfl (fun _ _ _=>?_) fun _ _ _=>?_) | (refine Ap rfl (fun _ _=>?_) ?_) | (refine zK rfl fun _ _=>?_) | (refine AT rfl fun _ _=>?_) | (refine AN rfl fun _ _=>?_) | (refine tU rfl fun _ _=>?_) | (refine AV rfl fun _ _=>?_) | (refine tP rfl fun _=>?_) | exact rfl | (refine tW rfl ?_))
theorem xB:okB Go.Proofs.Tryz.prog Go.Proofs.Tryz.f108 m6=true:=aG
theorem xC {t0 t1 v:V} (h:dt (CX Y) t0 t1 (out v)):CP Y F.dt [t0,t1] v:=
 CP.of (fn:=Go.Proofs.Tryz.f108) (m:=2) (a:=m6) rfl (fun _=>rfl) Go.Proofs.Tryz.func108 xB (by rw [xD];exact h)
def dS (C:CC) (t0 t1:V) (q:kQ):Prop:=let h:Hp:=.replicate 0 (0,.none)
 cIQ .lss t0 (I 0) (bnd (unV .neg t0) fun v2=>bIQ .add v2 t1 fun v3=>bIQ .sub v3 (I 1) fun v4=>bIQ .quo v4 t1 fun v5=>bnd (unV .neg v5) fun v6=>q v6 h) (bIQ .quo t0 t1 fun v7=>q v7 h)
theorem xE {t0 t1 v:V} (h:dS (CX Y) t0 t1 (out v)):CP Y F.dS [t0,t1] v:=CPo 0 .o Tryz.func145 h
def ig (C:CC) (p9 p10:V):bh:=fun l h q=>jn (fun l1 h=>bnd (biI .mul (ge l 0) (I 2)) fun v3=>q .normal [v3] h) fun q2=>bnd (ldA h 3 p9) fun v4=>cal C.p h (.fn F.cn [] []) [v4,(ge l 0)] fun v5 h=>ext v5 0 fun v6=>ext v5 1 fun v7=>bnd (ldA h 3 p10) fun v8=>cal C.p h (.fn F.cn [] []) [v8,(ge l 0)] fun v9 h=>ext v9 0 fun v10=>ext v9 1 fun v11=>cal C.p h (.fn F.bp [] []) [v11] fun v12 h=>bnd (biI .leq v12 (I 0)) fun v13=>jn (fun l14 h=>cal C.p h (.fn F.bp [] []) [(ge l14 2)] fun v16 h=>bnd (biI .leq v16 (I 0)) fun v17=>cnd v17 (q2 [] h) (cal C.p h (.fn F.bp [] []) [(ge l14 0)] fun v18 h=>bnd (biI .lss v18 (I 0)) fun v19=>jn (fun l20 h=>cal C.p h (.fn F.bp [] []) [(ge l14 1)] fun v22 h=>bnd (biI .lss v22 (I 0)) fun v23=>jn (fun l24 h=>bnd (faV 2 p10) fun v26=>bnd (ld1 h v26) fun v27=>cal C.p h (.fn F.aE [] []) [(ge l14 0),v27] fun v28 h=>bnd (faV 2 p9) fun v29=>bnd (ld1 h v29) fun v30=>cal C.p h (.fn F.aE [] []) [(ge l20 0),v30] fun v31 h=>cal C.p h (.fn F.aP [] []) [v28,v31] fun v32 h=>ext v32 0 fun v33=>ext v32 1 fun v34=>ext v32 2 fun v35=>bnd (faV 2 p10) fun v36=>bnd (ld1 h v36) fun v37=>cal C.p h (.fn F.aE [] []) [(ge l14 1),v37] fun v38 h=>bnd (faV 2 p9) fun v39=>bnd (ld1 h v39) fun v40=>cal C.p h (.fn F.aE [] []) [(ge l24 0),v40] fun v41 h=>cal C.p h (.fn F.aP [] []) [v38,v41] fun v42 h=>ext v42 0 fun v43=>ext v42 1 fun v44=>ext v42 2 fun v45=>bnd (biS .eql v33 v43) fun v46=>cnd v46 (q .ret [v33] h) (q2 [] h)) fun q25=>cnd v23 (q25 [(ge l14 3)] h) (q25 [(ge l14 2)] h)) fun q21=>cnd v19 (q21 [(ge l14 2)] h) (q21 [(ge l14 3)] h))) fun q15=>cnd v13 (cal C.p h (.fn F.gQ [] []) [v7] fun v47 h=>cal C.p h (.fn F.gQ [] []) [v6] fun v48 h=>cal C.p h (.fn F.gQ [] []) [v11] fun v49 h=>cal C.p h (.fn F.gQ [] []) [v10] fun v50 h=>q15 [v47,v48,v49,v50] h) (q15 [v6,v7,v10,v11] h)
def jG (C:CC) (t0 t1 t2:V) (q:V->Hp->Prop):Prop:=let h:Hp:=List.replicate 3 (0,.none)
 cal C.p h (.fn F.kK [] []) [t1,t2] fun v1 h=>ext v1 0 fun v2=>ext v1 1 fun v3=>alV 0 [.d (.str []),.d (.str [])] h fun v4 h=>stD h 2 v4 v2 fun _ h=>cnd v3 (bnd (ldA h 2 v4) fun v6=>cal C.p h (.fn F.gH [] []) [v6] fun v7 h=>q v7 h) (cal C.p h (.fn F.dY [] []) [t0,t1] fun v8 h=>cal C.p h (.fn F.dY [] []) [t0,t2] fun v9 h=>alV 1 [.d (.pl (.slice none 0 0)),.d (.pl (.slice none 0 0)),.d (.str [])] h fun v10 h=>alV 2 [.d (.pl (.slice none 0 0)),.d (.pl (.slice none 0 0)),.d (.str [])] h fun v11 h=>stD h 3 v10 v8 fun _ h=>stD h 3 v11 v9 fun _ h=>bnd (ldA h 3 v10) fun v14=>bnd (ldA h 3 v11) fun v15=>cal C.p h (.fn F.dt [] []) [v14,v15] fun v16 h=>ext v16 0 fun v17=>ext v16 1 fun v18=>cnd v18 (cal C.p h (.fn F.bT [] []) [v17] fun v19 h=>q v19 h) (lp (ig C v10 v11) [] h [(I 64)] h (exK [(.ret,fun l20 h=>q (ge l20 0) h)])))
def pZ:Ann:=(.n .x .o (.n .x (.n .x (.n (.r [.o,.slot 0]) .o .o) .o) (.n .x (.n (.r [.o,.o,.slot 1,.slot 2]) .o .o) (.n .x .o (.n .x .o (.n .x (.n (.l [13] [9,10] [(.ret,[6],[])] []) (.n .x (.n (.j [] [9,10,13]) (.n .x .o (.n .x .o (.n .x (.n .x .o (.n (.j [14,15,16,17] [9,10,13]) .o .o)) (.n .x .o (.n .x .o (.n .x (.n .x .o (.n (.j [18] [9,10,13,14,15,17,19]) .o .o)) (.n .x (.n .x .o (.n (.j [19] [9,10,13,14,15,18]) .o .o)) .o))))))) .o) .o) .o) .o))))))
theorem Dx (C:CC) (t0:V) (t1:V) (t2:V) (q:V->Hp->Prop):fnD Y C Go.Proofs.Tryz.f70 3 pZ [t0,t1,t2] q=jG C t0 t1 t2 q:=by
 kernel_rfl
theorem Dv:okB Go.Proofs.Tryz.prog Go.Proofs.Tryz.f70 pZ=true:=aG
theorem Dw {t0 t1 t2 v:V} (h:jG (CX Y) t0 t1 t2 (out v)):CP Y F.jG [t0,t1,t2] v:=
 CP.of (fn:=Go.Proofs.Tryz.f70) (m:=3) (a:=pZ) rfl (fun _=>rfl) Go.Proofs.Tryz.func70 Dv (by rw [Dx];exact h)
def dF (C:CC) (t0 t1 t2:V) (q:kQ):Prop:=let h:Hp:=.replicate 0 (0,.none)
 eh 2 [.pl (.slice none 0 0)] [(0,t1),(1,t2)] h fun v1 h=>clQ C h F.fW [t0,v1] fun v2 h=>nzQ v2 (q v2 h) (clQ C h F.dY [t0,t2] fun v4 h=>bnd (fiV 0 1 true v4) fun v5=>blQ v5 fun v6=>cIQ .eql v6 (I 0) (q (I 17) h) (q (I 0) h))
theorem rE {t0 t1 t2 v:V} (h:dF (CX Y) t0 t1 t2 (out v)):CP Y F.dF [t0,t1,t2] v:=CPo 0 .o Tryz.func67 h
def mj (C:CC) (t0 t1 t2:V) (q:kQ):Prop:=let h:Hp:=.replicate 0 (0,.none)
 clQ C h F.dF [t0,t1,t2] fun v1 h=>nzQ v1 (q (.tup [(.d (.str [])),v1]) h) (blQ t0 fun v3=>eh 2 [.pl (.slice none 0 0)] [(0,t1),(1,t2)] h fun v4 h=>clQ C h F.bN [(I 2)] fun v5 h=>clQ C h F.bN [(I 1)] fun v6 h=>eh 2 [.str [],.str []] [(0,v5),(1,v6)] h fun v7 h=>clQ C h F.je [v3,v4,v7] fun v8 h=>blQ t0 fun v9=>eh 1 [.pl (.slice none 0 0)] [(0,t2)] h fun v10 h=>clQ C h F.bN [(I 2)] fun v11 h=>eh 1 [.str [],.str []] [(0,v11)] h fun v12 h=>clQ C h F.je [v9,v10,v12] fun v13 h=>clQ C h F.jG [t0,v8,v13] fun v14 h=>q (.tup [v14,(I 0)]) h)
theorem DC {t0 t1 t2 v:V} (h:mj (CX Y) t0 t1 t2 (out v)):CP Y F.mj [t0,t1,t2] v:=CPo 0 .o Tryz.func25 h
end Go.Vm
namespace Go.Vm
open Go Go.Am Go.Proofs
def cY (C:CC) (p0 p1:V):bh:=fun l h q=>blQ p0 fun v1=>cIQ .lss (ge l 0) v1 (bxQ h 1 p0 (ge l 0) fun v3=>b1Q h v3 fun v4=>bxQ h 1 p1 (ge l 0) fun v5=>b1Q h v5 fun v6=>cIQ .neq v4 v6 (q .ret [(B false)] h) (bIQ .add (ge l 0) (I 1) fun v8=>q .normal [v8] h)) (q (.exit 0) [] h)
def bZ (C:CC) (t0 t1:V) (q:kQ):Prop:=let h:Hp:=.replicate 0 (0,.none)
 blQ t0 fun v1=>blQ t1 fun v2=>cIQ .neq v1 v2 (q (B false) h) (lp (cY C t0 t1) [] h [(I 0)] h (exK [((.exit 0),fun l4 h=>q (B true) h), (.ret,fun l4 h=>q (ge l4 0) h)]))
theorem oU {t0 t1 v:V} (h:bZ (CX Y) t0 t1 (out v)):CP Y F.bZ [t0,t1] v:=CPo 0 (.n .x .o (.n .x .o (.n .x (.n .x .o (.n .x (.n (.l [5] [0,1] [((.exit 0),[],[]),(.ret,[4],[])] []) .o .o) .o)) .o))) Tryz.func60 h
def dj (C:CC) (t0 t1:V) (q:kQ):Prop:=let h:Hp:=.replicate 0 (0,.none)
 clQ C h F.bZ [t0,t1] fun v1 h=>q v1 h
theorem pB {t0 t1 v:V} (h:dj (CX Y) t0 t1 (out v)):CP Y F.dj [t0,t1] v:=CPo 0 .o Tryz.func19 h
def cC (C:CC) (t0 t1:V) (q:kQ):Prop:=let h:Hp:=.replicate 2 (0,.none)
 alV 0 [.d (.str []),.d (.str [])] h fun v1 h=>clQ C h F.jR [t0,t1] fun v2 h=>e2Q v2 fun v3 v4=>alV 1 [.d (.str []),.d (.str [])] h fun v5 h=>stD h 2 v5 v3 fun _ h=>bnd (ldA h 2 v5) fun v7=>stD h 2 v1 v7 fun _ h=>bnd (ldA h 2 v1) fun v9=>q v9 h
theorem qJ {t0 t1 v:V} (h:cC (CX Y) t0 t1 (out v)):CP Y F.cC [t0,t1] v:=CPo 2 (.n .x (.n (.r [.slot 0]) .o .o) (.n .x (.n (.r [.o,.slot 1]) .o .o) .o)) Tryz.func31 h
def cQ (C:CC) (q:kQ):Prop:=let h:Hp:=.replicate 2 (0,.none)
 eh 3 [.int .i64 0] [(0,(I 2)),(1,(I 3)),(2,(I 5))] h fun v1 h=>eh 3 [.int .i64 0] [(0,(I (-1))),(1,(I 1)),(2,(I 0))] h fun v2 h=>eh 1 [.pl (.slice none 0 0)] [(0,v2)] h fun v3 h=>clQ C h F.cu [v1,(I 12),v3] fun v4 h=>e2Q v4 fun v5 v6=>eh 3 [.int .i64 0] [(0,(I (-1))),(1,(I 1)),(2,(I 0))] h fun v7 h=>clQ C h F.eO [v1,v7,(I 60)] fun v8 h=>e2Q v8 fun v9 v10=>eh 3 [.int .i64 0] [(0,(I (-1))),(1,(I 1)),(2,(I 0))] h fun v11 h=>eh 3 [.int .i64 0] [(0,(I (-2))),(1,(I 2)),(2,(I 0))] h fun v12 h=>eh 2 [.pl (.slice none 0 0)] [(0,v11),(1,v12)] h fun v13 h=>clQ C h F.aM [v1,(I 4),v13] fun v14 h=>e3Q v14 fun v15 v16 v17=>alV 0 [.d (.int .i64 0),.d (.int .i64 0),.d (.int .i64 0)] h fun v18 h=>stD h 3 v18 v16 fun _ h=>eh 3 [.int .i64 0] [(0,(I (-1))),(1,(I 1)),(2,(I 0))] h fun v20 h=>eh 3 [.int .i64 0] [(0,(I (-2))),(1,(I 0)),(2,(I 1))] h fun v21 h=>eh 3 [.int .i64 0] [(0,(I (-3))),(1,(I 1)),(2,(I 1))] h fun v22 h=>eh 3 [.pl (.slice none 0 0)] [(0,v20),(1,v21),(2,v22)] h fun v23 h=>clQ C h F.aM [v1,(I 12),v23] fun v24 h=>e3Q v24 fun v25 v26 v27=>alV 1 [.d (.int .i64 0),.d (.int .i64 0),.d (.int .i64 0)] h fun v28 h=>stD h 3 v28 v26 fun _ h=>bIQ .eql v6 (I 0) fun v30=>gqQ v30 true h v5 fun v31 h=>gbQ v30 true h (bq v31) fun v32 h=>gbQ v30 true h (biI .eql v32 (I 1)) fun v33 h=>bpQ v30 v33 (B false) fun v34=>gqQ v34 true h v5 fun v35 h=>gbQ v34 true h (ixV h 1 v35 (I 0)) fun v36 h=>gbQ v34 true h (ld1 h v36) fun v37 h=>gd v34 true h (fun q=>clQ C h F.cC [(I 19),(I 12)] q) fun v38 h=>gd v34 true h (fun q=>clQ C h F.cC [(I (-1)),(I 1)] q) fun v39 h=>gd v34 true h (fun q=>clQ C h F.cC [(I 0),(I 1)] q) fun v40 h=>gd v34 true h (fun q=>eh 3 [.str [],.str []] [(0,v38),(1,v39),(2,v40)] h q) fun v41 h=>gd v34 true h (fun q=>clQ C h F.mp [v37,v41] q) fun v42 h=>bpQ v34 v42 (B false) fun v43=>gqQ v43 true h v10 fun v44 h=>gbQ v43 true h (biI .eql v44 (I 0)) fun v45 h=>bpQ v43 v45 (B false) fun v46=>gqQ v46 true h v9 fun v47 h=>gd v46 true h (fun q=>eh 9 [.int .i64 0] [(0,(I 1)),(1,(I 2)),(2,(I 3)),(3,(I 5)),(4,(I 7)),(5,(I 12)),(6,(I 29)),(7,(I 41)),(8,(I 53))] h q) fun v48 h=>gd v46 true h (fun q=>clQ C h F.dj [v47,v48] q) fun v49 h=>bpQ v46 v49 (B false) fun v50=>gqQ v50 true h v17 fun v51 h=>gbQ v50 true h (biI .eql v51 (I 0)) fun v52 h=>bpQ v50 v52 (B false) fun v53=>gqQ v53 true h v15 fun v54 h=>gbQ v53 true h (unV .not v54) fun v55 h=>bpQ v53 v55 (B false) fun v56=>gbQ v56 true h (ldA h 3 v18) fun v57 h=>gbQ v56 true h (bld [(0,1),(1,1),(2,1)] [.int .i64 0,.int .i64 0,.int .i64 0] [(0,(I 0)),(1,(I 0)),(2,(I 1))]) fun v58 h=>gbQ v56 true h (biA [.int .i64 0,.int .i64 0,.int .i64 0] .eql v57 v58) fun v59 h=>bpQ v56 v59 (B false) fun v60=>gqQ v60 true h v27 fun v61 h=>gbQ v60 true h (biI .eql v61 (I 0)) fun v62 h=>bpQ v60 v62 (B false) fun v63=>gqQ v63 true h v25 fun v64 h=>bpQ v63 v64 (B false) fun v65=>q v65 h
def jI:Ann:=(.n .x .o (.n .x .o (.n .x .o (.n .x .o (.n .x (.n (.r [.o,.o,.o,.o,.slot 0]) .o .o) (.n .x (.n (.r [.o,.o,.o,.o,.o,.slot 1]) .o .o) .o))))))
theorem rJ (C:CC) (q:V->Hp->Prop):fnD Y C Go.Proofs.Tryz.f13 2 jI [] q=cQ C q:=by
 kernel_rfl
theorem rH:okB Go.Proofs.Tryz.prog Go.Proofs.Tryz.f13 jI=true:=aG
theorem rI {v:V} (h:cQ (CX Y) (out v)):CP Y F.cQ [] v:=
 CP.of (fn:=Go.Proofs.Tryz.f13) (m:=2) (a:=jI) rfl (fun _=>rfl) Go.Proofs.Tryz.func13 rH (by rw [rJ];exact h)
end Go.Vm
namespace Go.Vm
open Go Go.Am Go.Proofs
def j8 (C:CC) (p10 p56 p57:V):bh:=fun l h q=>cIQ .lss (ge l 1) p57 (bxQ h 1 p56 (ge l 1) fun v2=>b1Q h v2 fun v3=>clQ C h F.bT [v3] fun v4 h=>bxQ h 1 p10 (ge l 1) fun v5=>b1Q h v5 fun v6=>clQ C h F.bT [v6] fun v7 h=>clQ C h F.aE [v4,v7] fun v8 h=>clQ C h F.bR [(ge l 0),v8] fun v9 h=>bIQ .add (ge l 1) (I 1) fun v10=>q .normal [v9,v10] h) (q (.exit 2) [(ge l 0)] h)
def j9 (C:CC) (p10 p12 p49 p50:V):bh:=fun l h q=>cIQ .lss (ge l 0) p50 (bxQ h 1 p49 (ge l 0) fun v2=>b1Q h v2 fun v3=>blQ v3 fun v4=>lp (j8 C p10 v3 v4) [] h [(.d (.str [48])),(I 0)] h (exK [((.exit 2),fun l5 h=>bxQ h 1 p12 (ge l 0) fun v6=>b1Q h v6 fun v7=>bSQ .neq (ge l5 0) v7 fun v8=>cnd v8 (q .ret [(B false),(I 0)] h) (bIQ .add (ge l 0) (I 1) fun v9=>q .normal [v9] h))])) (q (.exit 0) [] h)
def dU (C:CC) (t0 t1 t2:V) (q:kQ):Prop:=let h:Hp:=.replicate 0 (0,.none)
 clQ C h F.dZ [t0,t1] fun v1 h=>nzQ v1 (q (.tup [(B false),v1]) h) (clQ C h F.bE [t0,t2] fun v3 h=>nzQ v3 (q (.tup [(B false),v3]) h) (clQ C h F.md [t0,t1] fun v5 h=>e2Q v5 fun v6 v7=>nzQ v7 (q (.tup [(B false),v7]) h) (clQ C h F.fC [t0,t1,t2] fun v9 h=>e2Q v9 fun v10 v11=>nzQ v11 (q (.tup [(B false),v11]) h) (blQ t2 fun v13=>lp (j9 C v6 v10 t2 v13) [] h [(I 0)] h (exK [((.exit 0),fun l14 h=>q (.tup [(B true),(I 0)]) h), (.ret,fun l14 h=>q (.tup [(ge l14 0),(ge l14 1)]) h)])))))
def m9:Ann:=(.n .x .o (.n .x .o (.n .x .o (.n .x .o (.n .x .o (.n .x .o (.n .x .o (.n .x (.n .x .o (.n .x (.n (.l [51] [10,12,49,50] [((.exit 0),[],[]),(.ret,[6,7],[])] []) (.n .x .o (.n .x .o (.n .x (.n .x (.n .x .o (.n .x .o (.n .x (.n .x .o (.n .x (.n (.l [15,58] [10,12,13,49,50,51,56,57] [((.exit 2),[15],[10,12,13,49,50,51])] []) .o .o) .o)) .o))) .o) .o))) .o) .o)) .o))))))))
theorem xT (C:CC) (t0:V) (t1:V) (t2:V) (q:V->Hp->Prop):fnD Y C Go.Proofs.Tryz.f48 0 m9 [t0,t1,t2] q=dU C t0 t1 t2 q:=by
 kernel_rfl
theorem xS:okB Go.Proofs.Tryz.prog Go.Proofs.Tryz.f48 m9=true:=aG
theorem qH {t0 t1 t2 v:V} (h:dU (CX Y) t0 t1 t2 (out v)):CP Y F.dU [t0,t1,t2] v:=
 CP.of (fn:=Go.Proofs.Tryz.f48) (m:=0) (a:=m9) rfl (fun _=>rfl) Go.Proofs.Tryz.func48 xS (by rw [xT];exact h)
def gW (C:CC) (p0 p1:V):bh:=fun l h q=>blQ p1 fun v1=>cIQ .lss (ge l 0) v1 (bxQ h 1 p1 (ge l 0) fun v3=>b1Q h v3 fun v4=>clQ C h F.hO [p0,v4] fun v5 h=>nzQ v5 (q .ret [v5] h) (bIQ .add (ge l 0) (I 1) fun v7=>q .normal [v7] h)) (q (.exit 0) [] h)
def df (C:CC) (t0 t1:V) (q:kQ):Prop:=let h:Hp:=.replicate 0 (0,.none)
 blQ t1 fun v1=>cIQ .gtr v1 (I 60) (q (I 4) h) (lp (gW C t0 t1) [] h [(I 0)] h (exK [((.exit 0),fun l3 h=>q (I 0) h), (.ret,fun l3 h=>q (ge l3 0) h)]))
theorem s7 {t0 t1 v:V} (h:df (CX Y) t0 t1 (out v)):CP Y F.df [t0,t1] v:=CPo 0 (.n .x .o (.n .x .o (.n .x (.n .x .o (.n .x (.n (.l [5] [0,1] [((.exit 0),[],[]),(.ret,[4],[])] []) .o .o) .o)) .o))) Tryz.func54 h
end Go.Vm
namespace Go.Vm
open Go Go.Am Go.Proofs
def gk (C:CC) (t0 t1:V) (q:kQ):Prop:=let h:Hp:=.replicate 0 (0,.none)
 clQ C h F.dZ [t0,t1] fun v1 h=>nzQ v1 (q (.tup [nSQ,v1]) h) (clQ C h F.gh [t0,t1] fun v3 h=>e2Q v3 fun v4 v5=>q (.tup [v4,v5]) h)
theorem qG {t0 t1 v:V} (h:gk (CX Y) t0 t1 (out v)):CP Y F.gk [t0,t1] v:=CPo 0 .o Tryz.func22 h
end Go.Vm
namespace Go.Vm
open Go Go.Am Go.Proofs
def kt (C:CC) (p0 p1 p7:V):bh:=fun l h q=>cIQ .lss (ge l 0) p7 (bxQ h 1 p0 (ge l 0) fun v2=>b1Q h v2 fun v3=>cal C.p h p1 [v3] fun v4 h=>cnd v4 (q .ret [(ge l 0)] h) (bIQ .add (ge l 0) (I 1) fun v5=>q .normal [v5] h)) (q (.exit 0) [] h)
def gU (C:CC) (t0 t1:V) (q:kQ):Prop:=let h:Hp:=.replicate 0 (0,.none)
 blQ t0 fun v1=>lp (kt C t0 t1 v1) [] h [(I 0)] h (exK [((.exit 0),fun l2 h=>q (I (-1)) h), (.ret,fun l2 h=>q (ge l2 0) h)])
def fV (C:CC) (t0 t1:V) (q:kQ):Prop:=let h:Hp:=.replicate 0 (0,.none)
 clQ C h F.gU [t0,t1] fun v1 h=>bIQ .geq v1 (I 0) fun v2=>q v2 h
def t7 (C:CC) (p1 p3 p5:V):bh:=fun l h q=>b1Q h (ge l 1) fun v1=>bfQ 1 p5 fun v2=>b1Q h v2 fun v3=>cIQ .leq v1 v3 (jn (fun l5 h=>b1Q h (ge l 1) fun v7=>alV 4 [.d (.int .i64 0)] h fun v8 h=>stD h 1 v8 v7 fun _ h=>b1Q h v8 fun v10=>bIQ .add v10 (I 1) fun v11=>stD h 1 v8 v11 fun _ h=>q .normal [(ge l5 0),v8] h) fun q6=>clQ C h F.fV [p1,(.fn F.oz [] [p3,(ge l 1),p5])] fun v13 h=>bnd (unV .not v13) fun v14=>jn (fun l15 h=>q6 [(ge l15 0)] h) fun q16=>cnd v14 (b1Q h (ge l 1) fun v17=>a1Q 3 (ge l 0) v17 h fun v19 h=>q16 [v19] h) (q16 [(ge l 0)] h)) (q (.exit 0) [(ge l 0)] h)
def dE (C:CC) (t0 t1 t2:V) (q:kQ):Prop:=let h:Hp:=.replicate 5 (0,.none)
 iI 0 t0 h fun v1 h=>iI 1 t2 h fun v2 h=>b1Q h v1 fun v3=>clQ C h F.bU [v3] fun v4 h=>nzQ v4 (q (.tup [nSQ,v4]) h) (b1Q h v1 fun v6=>clQ C h F.bE [v6,t1] fun v7 h=>nzQ v7 (q (.tup [nSQ,v7]) h) (bfQ 0 v2 fun v9=>b1Q h v9 fun v10=>bIQ .lss v10 (I 1) fun v11=>gbQ v11 false h (faV 1 v2) fun v12 h=>gbQ v11 false h (ld1 h v12) fun v13 h=>gbQ v11 false h (biI .gtr v13 (I 10000)) fun v14 h=>bpQ v11 (B true) v14 fun v15=>gbQ v15 false h (faV 1 v2) fun v16 h=>gbQ v15 false h (ld1 h v16) fun v17 h=>gbQ v15 false h (faV 0 v2) fun v18 h=>gbQ v15 false h (ld1 h v18) fun v19 h=>gbQ v15 false h (biI .lss v17 v19) fun v20 h=>bpQ v15 (B true) v20 fun v21=>gbQ v21 false h (faV 1 v2) fun v22 h=>gbQ v21 false h (ld1 h v22) fun v23 h=>gbQ v21 false h (faV 0 v2) fun v24 h=>gbQ v21 false h (ld1 h v24) fun v25 h=>gbQ v21 false h (biI .sub v23 v25) fun v26 h=>gbQ v21 false h (biI .geq v26 (I 500)) fun v27 h=>bpQ v21 (B true) v27 fun v28=>cnd v28 (q (.tup [nSQ,(I 3)]) h) (b1Q h v1 fun v29=>bfQ 2 v2 fun v30=>b1Q h v30 fun v31=>clQ C h F.jH [v29,v31] fun v32 h=>nzQ v32 (q (.tup [nSQ,v32]) h) (bfQ 0 v2 fun v34=>b1Q h v34 fun v35=>alV 2 [.d (.int .i64 0)] h fun v36 h=>stD h 1 v36 v35 fun _ h=>lp (t7 C t1 v1 v2) [] h [nSQ,v36] h (exK [((.exit 0),fun l38 h=>q (.tup [(ge l38 0),(I 0)]) h)])))))
def lK:Ann:=(.n .x (.n (.r [.slot 0,.slot 1]) .o .o) (.n .x .o (.n .x .o (.n .x .o (.n .x .o (.n .x .o (.n .x (.n .x (.n (.r [.slot 2]) .o .o) (.n .x (.n (.l [11,12] [1,3,5] [((.exit 0),[11],[])] []) (.n .x .o (.n .x (.n (.j [11] [1,3,5,12]) (.n .x .o (.n .x .o (.n (.j [11] [1,3,5,12]) (.n (.r [.o,.slot 3]) .o .o) .o))) .o) (.n .x (.n .x .o (.n (.r [.slot 4]) .o .o)) .o))) .o) .o)) .o)))))))
theorem vz (C:CC) (t0:V) (t1:V) (t2:V) (q:V->Hp->Prop):fnD Y C Go.Proofs.Tryz.f32 5 lK [t0,t1,t2] q=dE C t0 t1 t2 q:=by
 kernel_rfl
theorem vw:okB Go.Proofs.Tryz.prog Go.Proofs.Tryz.f32 lK=true:=aG
theorem vy {t0 t1 t2 v:V} (h:dE (CX Y) t0 t1 t2 (out v)):CP Y F.dE [t0,t1,t2] v:=
 CP.of (fn:=Go.Proofs.Tryz.f32) (m:=5) (a:=lK) rfl (fun _=>rfl) Go.Proofs.Tryz.func32 vw (by rw [vz];exact h)
def oz (C:CC) (t0 t1 t2 t3:V) (q:kQ):Prop:=let h:Hp:=.replicate 0 (0,.none)
 b1Q h t1 fun v1=>b1Q h t2 fun v2=>clQ C h F.gj [v1,v2,t0] fun v3 h=>e2Q v3 fun v4 v5=>bIQ .neq v5 (I 0) fun v6=>gbQ v6 false h (ld1 h t1) fun v7 h=>gbQ v6 false h (faV 2 t3) fun v8 h=>gbQ v6 false h (ld1 h v8) fun v9 h=>gqQ v6 false h v4 fun v10 h=>gd v6 false h (fun q=>clQ C h F.eV [v7,v9,v10] q) fun v11 h=>bpQ v6 (B true) v11 fun v12=>q v12 h
def vu (C:CC) (p0 p1 p22 p23:V):bh:=fun l h q=>cIQ .lss (ge l 1) p23 (jn (fun l2 h=>bIQ .add (ge l 1) (I 1) fun v4=>q .normal [(ge l2 0),v4] h) fun q3=>bxQ h 1 p22 (ge l 1) fun v5=>b1Q h v5 fun v6=>clQ C h F.gj [p0,p1,v6] fun v7 h=>e2Q v7 fun v8 v9=>nzQ v9 (q .ret [nSQ,v9] h) (clQ C h F.eV [p0,(ge l 0),v8] fun v11 h=>jn (fun l12 h=>q3 [(ge l12 0)] h) fun q13=>cnd v11 (q13 [v8] h) (q13 [(ge l 0)] h))) (q (.exit 0) [(ge l 0)] h)
def rW (C:CC) (t0 t1 t2:V) (q:kQ):Prop:=let h:Hp:=.replicate 1 (0,.none)
 ciQ C h F.kX [t0] 0 fun v1 h=>e2Q v1 fun v2 v3=>nzQ v3 (q (.tup [nSQ,v3]) h) (blQ t2 fun v5=>lp (vu C t0 t1 t2 v5) [] h [v2,(I 0)] h (exK [((.exit 0),fun l6 h=>q (.tup [(ge l6 0),(I 0)]) h), (.ret,fun l6 h=>q (.tup [(ge l6 0),(ge l6 1)]) h)]))
def wL (C:CC) (p0 p1 p2:V):bh:=fun l h q=>cIQ .leq (ge l 2) p2 (jn (fun l2 h=>bIQ .add (ge l 2) (I 1) fun v4=>q .normal [(ge l2 0),(ge l2 1),v4] h) fun q3=>clQ C h F.rW [p0,(ge l 2),p1] fun v5 h=>e2Q v5 fun v6 v7=>nzQ v7 (q .ret [(I 0),nSQ,v7] h) (bIQ .eql (ge l 2) (I 1) fun v9=>gqQ v9 false h p0 fun v10 h=>gqQ v9 false h v6 fun v11 h=>gqQ v9 false h (ge l 1) fun v12 h=>gd v9 false h (fun q=>clQ C h F.eV [v10,v11,v12] q) fun v13 h=>bpQ v9 (B true) v13 fun v14=>jn (fun l15 h=>q3 [(ge l15 0),(ge l15 1)] h) fun q16=>cnd v14 (q16 [(ge l 2),v6] h) (q16 [(ge l 0),(ge l 1)] h))) (q (.exit 0) [(ge l 0),(ge l 1)] h)
def dV (C:CC) (t0 t1 t2:V) (q:kQ):Prop:=let h:Hp:=.replicate 0 (0,.none)
 clQ C h F.bU [t0] fun v1 h=>nzQ v1 (q (.tup [(I 0),nSQ,v1]) h) (clQ C h F.bE [t0,t1] fun v3 h=>nzQ v3 (q (.tup [(I 0),nSQ,v3]) h) (blQ t1 fun v5=>cIQ .eql v5 (I 0) (q (.tup [(I 0),nSQ,(I 13)]) h) (bIQ .lss t2 (I 1) fun v7=>gqQ v7 false h t2 fun v8 h=>gbQ v7 false h (biI .gtr v8 (I 500)) fun v9 h=>bpQ v7 (B true) v9 fun v10=>cnd v10 (q (.tup [(I 0),nSQ,(I 3)]) h) (lp (wL C t0 t1 t2) [] h [(I 0),nSQ,(I 1)] h (exK [((.exit 0),fun l11 h=>q (.tup [(ge l11 0),(ge l11 1),(I 0)]) h), (.ret,fun l11 h=>q (.tup [(ge l11 0),(ge l11 1),(ge l11 2)]) h)])))))
def nf:Ann:=(.n .x .o (.n .x .o (.n .x .o (.n .x .o (.n .x .o (.n .x (.n .x .o (.n .x (.n (.l [6,7,11] [0,1,2] [((.exit 0),[6,7],[]),(.ret,[6,7,8],[])] []) (.n .x .o (.n .x (.n (.j [6,7] [0,1,2,11]) (.n .x .o (.n .x .o (.n .x .o (.n (.j [6,7] [0,1,2,11]) .o .o)))) .o) .o)) .o) .o)) .o))))))
theorem xW (C:CC) (t0:V) (t1:V) (t2:V) (q:V->Hp->Prop):fnD Y C Go.Proofs.Tryz.f33 0 nf [t0,t1,t2] q=dV C t0 t1 t2 q:=by
 kernel_rfl
theorem xU:okB Go.Proofs.Tryz.prog Go.Proofs.Tryz.f33 nf=true:=aG
theorem xV {t0 t1 t2 v:V} (h:dV (CX Y) t0 t1 t2 (out v)):CP Y F.dV [t0,t1,t2] v:=
 CP.of (fn:=Go.Proofs.Tryz.f33) (m:=0) (a:=nf) rfl (fun _=>rfl) Go.Proofs.Tryz.func33 xU (by rw [xW];exact h)
end Go.Vm
namespace Go.Vm
open Go Go.Am Go.Proofs
def bS (C:CC) (p2:V):bh:=fun l h q=>bnd (bq p2) fun v1=>bnd (biI .lss (ge l 0) v1) fun v2=>cnd v2 (bnd (ixV h 1 p2 (ge l 0)) fun v3=>bnd (ld1 h v3) fun v4=>bnd (bq v4) fun v5=>bnd (biI .gtr v5 (I 7)) fun v6=>cnd v6 (q .ret [(B true)] h) (bnd (biI .add (ge l 0) (I 1)) fun v7=>q .normal [v7] h)) (q (.exit 0) [] h)
def aj (C:CC) (t0 t1 t2:V) (q:V->Hp->Prop):Prop:=let h:Hp:=List.replicate 1 (0,.none)
 cal C.p h (.fn F.cQ [] []) [] fun v1 h=>bnd (unV .not v1) fun v2=>gd v2 false h (fun q=>q t0 h) fun v3 h=>gd v2 false h (fun q=>bnd (bq v3) fun v=>q v h) fun v4 h=>gd v2 false h (fun q=>bnd (biI .gtr v4 (I 7)) fun v=>q v h) fun v5 h=>bnd (cW v2 (B true) v5) fun v6=>gd v6 false h (fun q=>q t2 h) fun v7 h=>gd v6 false h (fun q=>bnd (bq v7) fun v=>q v h) fun v8 h=>gd v6 false h (fun q=>bnd (biI .gtr v8 (I 3)) fun v=>q v h) fun v9 h=>gd v6 false h (fun q=>q v9 h) fun v10 h=>gd v10 true h (fun q=>q t2 h) fun v11 h=>gd v10 true h (fun q=>bnd (bq v11) fun v=>q v h) fun v12 h=>gd v10 true h (fun q=>bnd (biI .lss v12 (I 60)) fun v=>q v h) fun v13 h=>gd v10 true h (fun q=>q v13 h) fun v14 h=>gd v14 false h (fun q=>q t2 h) fun v15 h=>gd v14 false h (fun q=>bnd (bq v15) fun v=>q v h) fun v16 h=>gd v14 false h (fun q=>bnd (biI .gtr v16 (I 62)) fun v=>q v h) fun v17 h=>gd v10 true h (fun q=>bnd (cW v14 (B true) v17) fun v=>q v h) fun v18 h=>gd v6 false h (fun q=>bnd (cW v10 v18 (B false)) fun v=>q v h) fun v19 h=>bnd (cW v6 (B true) v19) fun v20=>cnd v20 (cal C.p h (.fn F.cQ [] []) [] fun v21 h=>q v21 h) (lp (bS C t2) [] h [(I 0)] h (exK [((.exit 0),fun l22 h=>cal C.p h (.fn F.bU [] []) [t0] fun v23 h=>bnd (biI .eql v23 (I 0)) fun v24=>gd v24 true h (fun q=>q t1 h) fun v25 h=>gd v24 true h (fun q=>bnd (biI .lss v25 (I 1)) fun v=>q v h) fun v26 h=>gd v24 true h (fun q=>q v26 h) fun v27 h=>gd v27 false h (fun q=>q t1 h) fun v28 h=>gd v27 false h (fun q=>bnd (biI .gtr v28 (I 10000)) fun v=>q v h) fun v29 h=>gd v24 true h (fun q=>bnd (cW v27 (B true) v29) fun v=>q v h) fun v30 h=>bnd (cW v24 v30 (B false)) fun v31=>jn (fun l32 h=>cal C.p h (.fn F.gk [] []) [t0,t1] fun v34 h=>ext v34 0 fun v35=>ext v34 1 fun v36=>bnd (biI .neq v36 (ge l32 0)) fun v37=>gd v37 false h (fun q=>q (ge l32 0) h) fun v38 h=>gd v37 false h (fun q=>bnd (biI .neq v38 (I 0)) fun v=>q v h) fun v39 h=>gd v37 false h (fun q=>q v39 h) fun v40 h=>gd v40 true h (fun q=>q v35 h) fun v41 h=>gd v40 true h (fun q=>bnd (bq v41) fun v=>q v h) fun v42 h=>gd v40 true h (fun q=>bnd (biI .neq v42 (I 0)) fun v=>q v h) fun v43 h=>gd v37 false h (fun q=>bnd (cW v40 v43 (B false)) fun v=>q v h) fun v44 h=>bnd (cW v37 (B true) v44) fun v45=>cnd v45 (q (B false) h) (bnd (biI .eql (ge l32 0) (I 0)) fun v46=>jn (fun l47 h=>bnd (biI .eql v23 (I 0)) fun v49=>jn (fun l50 h=>cal C.p h (.fn F.cu [] []) [t0,t1,t2] fun v52 h=>ext v52 0 fun v53=>ext v52 1 fun v54=>cal C.p h (.fn F.aM [] []) [t0,t1,t2] fun v55 h=>ext v55 0 fun v56=>ext v55 1 fun v57=>ext v55 2 fun v58=>alV 0 [.d (.int .i64 0),.d (.int .i64 0),.d (.int .i64 0)] h fun v59 h=>stD h 3 v59 v57 fun _ h=>cal C.p h (.fn F.dU [] []) [t0,t1,t2] fun v61 h=>ext v61 0 fun v62=>ext v61 1 fun v63=>bnd (biI .neq (ge l47 0) (I 0)) fun v64=>gd v64 true h (fun q=>q v53 h) fun v65 h=>gd v64 true h (fun q=>bnd (bq v65) fun v=>q v h) fun v66 h=>gd v64 true h (fun q=>bnd (biI .neq v66 (I 0)) fun v=>q v h) fun v67 h=>gd v64 true h (fun q=>q v67 h) fun v68 h=>gd v68 false h (fun q=>q v54 h) fun v69 h=>gd v68 false h (fun q=>q (ge l47 0) h) fun v70 h=>gd v68 false h (fun q=>bnd (biI .neq v69 v70) fun v=>q v h) fun v71 h=>gd v64 true h (fun q=>bnd (cW v68 (B true) v71) fun v=>q v h) fun v72 h=>gd v64 true h (fun q=>q v72 h) fun v73 h=>gd v73 false h (fun q=>q v56 h) fun v74 h=>gd v64 true h (fun q=>bnd (cW v73 (B true) v74) fun v=>q v h) fun v75 h=>gd v64 true h (fun q=>q v75 h) fun v76 h=>gd v76 false h (fun q=>bnd (ldA h 3 v59) fun v=>q v h) fun v77 h=>gd v76 false h (fun q=>bnd (bld [(0,1),(1,1),(2,1)] [.int .i64 0,.int .i64 0,.int .i64 0] []) fun v=>q v h) fun v78 h=>gd v76 false h (fun q=>bnd (biA [.int .i64 0,.int .i64 0,.int .i64 0] .neq v77 v78) fun v=>q v h) fun v79 h=>gd v64 true h (fun q=>bnd (cW v76 (B true) v79) fun v=>q v h) fun v80 h=>gd v64 true h (fun q=>q v80 h) fun v81 h=>gd v81 false h (fun q=>q v58 h) fun v82 h=>gd v81 false h (fun q=>q (ge l47 0) h) fun v83 h=>gd v81 false h (fun q=>bnd (biI .neq v82 v83) fun v=>q v h) fun v84 h=>gd v64 true h (fun q=>bnd (cW v81 (B true) v84) fun v=>q v h) fun v85 h=>gd v64 true h (fun q=>q v85 h) fun v86 h=>gd v86 false h (fun q=>q v62 h) fun v87 h=>gd v64 true h (fun q=>bnd (cW v86 (B true) v87) fun v=>q v h) fun v88 h=>gd v64 true h (fun q=>q v88 h) fun v89 h=>gd v89 false h (fun q=>q v63 h) fun v90 h=>gd v89 false h (fun q=>q (ge l47 0) h) fun v91 h=>gd v89 false h (fun q=>bnd (biI .neq v90 v91) fun v=>q v h) fun v92 h=>gd v64 true h (fun q=>bnd (cW v89 (B true) v92) fun v=>q v h) fun v93 h=>bnd (cW v64 v93 (B false)) fun v94=>cnd v94 (q (B false) h) (bnd (bld [(0,1),(1,1),(2,1)] [.int .i64 0,.int .i64 0,.pl (.slice none 0 0)] []) fun v95=>cal C.p h (.fn F.dE [] []) [t0,t2,v95] fun v96 h=>ext v96 0 fun v97=>ext v96 1 fun v98=>cal C.p h (.fn F.dV [] []) [t0,t2,(I 0)] fun v99 h=>ext v99 0 fun v100=>ext v99 1 fun v101=>ext v99 2 fun v102=>bnd (biI .eql (ge l50 0) (I 0)) fun v103=>jn (fun l104 h=>bnd (bq v97) fun v106=>bnd (biI .eql v106 (I 0)) fun v107=>gd v107 true h (fun q=>q v98 h) fun v108 h=>gd v107 true h (fun q=>q (ge l104 0) h) fun v109 h=>gd v107 true h (fun q=>bnd (biI .eql v108 v109) fun v=>q v h) fun v110 h=>bnd (cW v107 v110 (B false)) fun v111=>gd v111 true h (fun q=>q v100 h) fun v112 h=>gd v111 true h (fun q=>bnd (biI .eql v112 (I 0)) fun v=>q v h) fun v113 h=>bnd (cW v111 v113 (B false)) fun v114=>gd v114 true h (fun q=>q v101 h) fun v115 h=>gd v114 true h (fun q=>bnd (bq v115) fun v=>q v h) fun v116 h=>gd v114 true h (fun q=>bnd (biI .eql v116 (I 0)) fun v=>q v h) fun v117 h=>bnd (cW v114 v117 (B false)) fun v118=>gd v118 true h (fun q=>q v102 h) fun v119 h=>gd v118 true h (fun q=>q (ge l104 1) h) fun v120 h=>gd v118 true h (fun q=>bnd (biI .eql v119 v120) fun v=>q v h) fun v121 h=>bnd (cW v118 v121 (B false)) fun v122=>q v122 h) fun q105=>cnd v103 (bnd (bq t2) fun v123=>bnd (biI .eql v123 (I 0)) fun v124=>jn (fun l125 h=>q105 [(I 3),(ge l125 0)] h) fun q126=>cnd v124 (q126 [(I 13)] h) (q126 [(I 3)] h)) (q105 [(ge l50 0),(ge l50 0)] h))) fun q51=>cnd v49 (cal C.p h (.fn F.df [] []) [t0,t2] fun v127 h=>q51 [v127] h) (q51 [v23] h)) fun q48=>cnd v46 (cal C.p h (.fn F.df [] []) [t0,t2] fun v128 h=>q48 [v128] h) (q48 [(ge l32 0)] h))) fun q33=>cnd v31 (q33 [(I 3)] h) (q33 [v23] h)), (.ret,fun l22 h=>q (ge l22 0) h)]))
def eW:Ann:=(.n .x .o (.n .x .o (.n .x (.n .x .o (.n .x (.n (.l [7] [0,1,2] [((.exit 0),[],[0,1,2]),(.ret,[6],[])] []) .o .o) .o)) (.n .x .o (.n .x .o (.n .x (.n .x .o (.n (.j [8] [0,1,2,9]) .o .o)) (.n .x .o (.n .x .o (.n .x (.n .x .o (.n (.j [8] [0,1,2,9]) .o .o)) (.n .x (.n .x .o (.n (.j [9] [0,1,2,8]) .o .o)) (.n .x .o (.n .x (.n (.r [.o,.slot 0]) .o .o) (.n .x .o (.n .x .o (.n .x .o (.n .x .o (.n .x .o (.n .x (.n .x .o (.n (.j [9,24] [19,20,21,22,23]) (.n .x .o (.n .x .o (.n (.j [24] [9,19,20,21,22,23]) .o .o))) .o)) .o))))))))))))))))))
attribute [local irreducible] bnd gd cal cnd ext eh tf stD alV alD iI jn lp exK mkS apV cai tQ in
theorem mS (C:CC) (t0:V) (t1:V) (t2:V) (q:V->Hp->Prop):fnD Y C Go.Proofs.Tryz.f12 1 eW [t0,t1,t2] q=aj C t0 t1 t2 q:=by
 repeat' (first | (refine AQ rfl fun _=>?_) | (refine Ir rfl fun _ _=>?_) | (refine AM rfl fun _ _=>?_) | (refine AI rfl ?_ ?_) | (refine An rfl fun _=>?_) | (refine tV rfl fun _ _=>?_) | (refine zb rfl fun _ _=>?_) | (refine AU rfl fun _ _=>?_) | (refine uf rfl fun _ _=>?_) | (refine Il rfl (fun _ _=>?_) fun _=>?_) | (refine Ih rfl (fun _ _ _=>?_) fun _ _ _=>?_) | (refine Ap rfl (fun _ _=>?_) ?_) | (refine zK rfl fun _ _=>?_) | (refine AT rfl fun _ _=>?_) | (refine AN rfl fun _ _=>?_) | (refine tU rfl fun _ _=>?_) | (refine AV rfl fun _ _=>?_) | (refine tP rfl fun _=>?_) | exact rfl | (refine tW rfl ?_))
theorem mQ:okB Go.Proofs.Tryz.prog Go.Proofs.Tryz.f12 eW=true:=aG
theorem mR {t0 t1 t2 v:V} (h:aj (CX Y) t0 t1 t2 (out v)):CP Y F.aj [t0,t1,t2] v:=
 CP.of (fn:=Go.Proofs.Tryz.f12) (m:=1) (a:=eW) rfl (fun _=>rfl) Go.Proofs.Tryz.func12 mQ (by rw [mS];exact h)
end Go.Vm
