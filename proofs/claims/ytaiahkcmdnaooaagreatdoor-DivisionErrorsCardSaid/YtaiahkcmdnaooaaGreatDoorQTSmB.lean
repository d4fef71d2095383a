/- Functions of the program as predicate transformers. Printed by gen.py. -/
import Derived.Test.YtaiahkcmdnaooaaGreatDoorQVmC
import Derived.KernelRfl
set_option linter.unusedVariables false
set_option linter.unusedSimpArgs false
set_option maxRecDepth 100000
set_option maxHeartbeats 4000000
namespace Go.Vm
open Go Go.Am
def gQ (C:CC) (t0:V) (q:V->Hp->Prop):Prop:=
 let h:Hp:=List.replicate 0 (0,.none)
 cal C.p h (.fn F.aN [] []) [t0] fun v1 h=>
 ext v1 0 fun v2=>
 ext v1 1 fun v3=>
 bnd (unV .not v2) fun v4=>
 cal C.p h (.fn F.bK [] []) [v4,v3] fun v5 h=>
 q v5 h
def qZ:Ann:=.o
theorem EV (C:CC) (t0:V) (q:V->Hp->Prop):fnD Y C Go.Proofs.Tryz.f111 0 qZ [t0] q=gQ C t0 q:=by
 rfl
theorem ET:okB Go.Proofs.Tryz.prog Go.Proofs.Tryz.f111 qZ=true:=aG
theorem EU {t0 v:V} (h:gQ (CX Y) t0 (out v)):CP Y F.gQ [t0] v:=
 CP.of (fn:=Go.Proofs.Tryz.f111) (m:=0) (a:=qZ) rfl (fun _=>rfl) Go.Proofs.Tryz.func111 ET (by rw [EV];exact h)
def fS (C:CC) (t0:V) (q:V->Hp->Prop):Prop:=
 let h:Hp:=List.replicate 0 (0,.none)
 cal C.p h (.fn F.eA [] []) [t0,(.d (.int .i64 10)),(.d (.int .i64 64))] fun v1 h=>
 ext v1 0 fun v2=>
 ext v1 1 fun v3=>
 bnd (biF .neq v3 (.d (.pl .nilIface))) fun v4=>
 cnd v4 (
  q (.tup [(.d (.int .i64 0)),(.d (.bool false))]) h) (
  q (.tup [v2,(.d (.bool true))]) h)
def oR:Ann:=.o
theorem Bb (C:CC) (t0:V) (q:V->Hp->Prop):fnD Y C Go.Proofs.Tryz.f144 0 oR [t0] q=fS C t0 q:=by
 rfl
theorem A8:okB Go.Proofs.Tryz.prog Go.Proofs.Tryz.f144 oR=true:=aG
theorem Ba {t0 v:V} (h:fS (CX Y) t0 (out v)):CP Y F.fS [t0] v:=
 CP.of (fn:=Go.Proofs.Tryz.f144) (m:=0) (a:=oR) rfl (fun _=>rfl) Go.Proofs.Tryz.func144 A8 (by rw [Bb];exact h)
def fT (C:CC) (t0:V) (t1:V) (q:V->Hp->Prop):Prop:=
 let h:Hp:=List.replicate 0 (0,.none)
 cal C.p h (.fn F.bp [] []) [t0] fun v1 h=>
 cal C.p h (.fn F.bp [] []) [t1] fun v2 h=>
 bnd (biI .neq v1 v2) fun v3=>
 cnd v3 (
  bnd (biI .lss v1 v2) fun v4=>
  cnd v4 (
   q (.d (.int .i64 (-1))) h) (
   q (.d (.int .i64 1)) h)) (
  cal C.p h (.fn F.aN [] []) [t0] fun v5 h=>
  ext v5 0 fun v6=>
  ext v5 1 fun v7=>
  cal C.p h (.fn F.aN [] []) [t1] fun v8 h=>
  ext v8 0 fun v9=>
  ext v8 1 fun v10=>
  jn (fun l11 h=>
   cal C.p h (.fn F.bI [] []) [(ge l11 0),(ge l11 1)] fun v13 h=>
   q v13 h) fun q12=>
   cnd v6 (
    q12 [v10,v7] h) (
    q12 [v7,v10] h))
def mY:Ann:=(.n .x .o (.n .x .o (.n .x .o (.n .x .o (.n .x (.n .x .o (.n (.j [8,10] []) .o .o)) .o)))))
theorem xy (C:CC) (t0:V) (t1:V) (q:V->Hp->Prop):fnD Y C Go.Proofs.Tryz.f195 0 mY [t0,t1] q=fT C t0 t1 q:=by
 rfl
theorem xw:okB Go.Proofs.Tryz.prog Go.Proofs.Tryz.f195 mY=true:=aG
theorem xx {t0 t1 v:V} (h:fT (CX Y) t0 t1 (out v)):CP Y F.fT [t0,t1] v:=
 CP.of (fn:=Go.Proofs.Tryz.f195) (m:=0) (a:=mY) rfl (fun _=>rfl) Go.Proofs.Tryz.func195 xw (by rw [xy];exact h)
def aP (C:CC) (t0:V) (t1:V) (q:V->Hp->Prop):Prop:=
 let h:Hp:=List.replicate 0 (0,.none)
 bnd (biS .eql t1 (.d (.str [48]))) fun v1=>
 cnd v1 (
  q (.tup [(.d (.str [])),(.d (.str [])),(.d (.int .i64 17))]) h) (
  cal C.p h (.fn F.bj [] []) [t0,(.d (.int .i64 18))] fun v2 h=>
  ext v2 0 fun v3=>
  ext v2 1 fun v4=>
  jn (fun l5 h=>
   cal C.p h (.fn F.aN [] []) [t0] fun v7 h=>
   ext v7 0 fun v8=>
   ext v7 1 fun v9=>
   cal C.p h (.fn F.aN [] []) [t1] fun v10 h=>
   ext v10 0 fun v11=>
   ext v10 1 fun v12=>
   cal C.p h (.fn F.dz [] []) [v9,v12] fun v13 h=>
   ext v13 0 fun v14=>
   ext v13 1 fun v15=>
   ext v13 2 fun v16=>
   bnd (biI .neq v16 (.d (.int .i64 0))) fun v17=>
   cnd v17 (
    q (.tup [(.d (.str [])),(.d (.str [])),v16]) h) (
    bnd (biB .neq v8 v11) fun v18=>
    gd v18 true h (fun q=>q v15 h) fun v19 h=>
    gd v18 true h (fun q=>bnd (biS .neq v19 (.d (.str [48]))) fun v=>q v h) fun v20 h=>
    bnd (cW v18 v20 (.d (.bool false))) fun v21=>
    jn (fun l22 h=>
     bnd (biB .neq v8 v11) fun v24=>
     cal C.p h (.fn F.bK [] []) [v24,(ge l22 0)] fun v25 h=>
     cal C.p h (.fn F.bK [] []) [v11,(ge l22 1)] fun v26 h=>
     q (.tup [v25,v26,(.d (.int .i64 0))]) h) fun q23=>
     cnd v21 (
      cal C.p h (.fn F.fh [] []) [v14,(.d (.str [49]))] fun v27 h=>
      cal C.p h (.fn F.gm [] []) [v12,v15] fun v28 h=>
      ext v28 0 fun v29=>
      ext v28 1 fun v30=>
      q23 [v27,v29] h) (
      q23 [v14,v15] h))) fun q6=>
   cnd v4 (
    cal C.p h (.fn F.bj [] []) [t1,(.d (.int .i64 18))] fun v31 h=>
    ext v31 0 fun v32=>
    ext v31 1 fun v33=>
    cnd v33 (
     bnd (biI .quo v3 v32) fun v34=>
     bnd (biI .rem v3 v32) fun v35=>
     bnd (biI .neq v35 (.d (.int .i64 0))) fun v36=>
     gd v36 true h (fun q=>q v35 h) fun v37 h=>
     gd v36 true h (fun q=>bnd (biI .lss v37 (.d (.int .i64 0))) fun v=>q v h) fun v38 h=>
     gd v36 true h (fun q=>q v32 h) fun v39 h=>
     gd v36 true h (fun q=>bnd (biI .lss v39 (.d (.int .i64 0))) fun v=>q v h) fun v40 h=>
     gd v36 true h (fun q=>bnd (biB .neq v38 v40) fun v=>q v h) fun v41 h=>
     bnd (cW v36 v41 (.d (.bool false))) fun v42=>
     jn (fun l43 h=>
      cal C.p h (.fn F.bT [] []) [(ge l43 0)] fun v45 h=>
      cal C.p h (.fn F.bT [] []) [(ge l43 1)] fun v46 h=>
      q (.tup [v45,v46,(.d (.int .i64 0))]) h) fun q44=>
      cnd v42 (
       bnd (biI .sub v34 (.d (.int .i64 1))) fun v47=>
       bnd (biI .add v35 v32) fun v48=>
       q44 [v47,v48] h) (
       q44 [v34,v35] h)) (
     q6 [] h)) (
    q6 [] h))
def nS:Ann:=(.n .x .o (.n .x .o (.n .x (.n .x .o (.n .x .o (.n (.j [] [0,1]) (.n .x .o (.n .x .o (.n .x (.n .x .o (.n .x (.n .x .o (.n (.j [11,12] []) .o .o)) .o)) .o))) .o))) (.n .x .o (.n .x .o (.n .x .o (.n .x .o (.n .x (.n .x .o (.n (.j [17,18] [13,15]) .o .o)) .o))))))))
theorem yQ (C:CC) (t0:V) (t1:V) (q:V->Hp->Prop):fnD Y C Go.Proofs.Tryz.f112 0 nS [t0,t1] q=aP C t0 t1 q:=by
 kernel_rfl
theorem yO:okB Go.Proofs.Tryz.prog Go.Proofs.Tryz.f112 nS=true:=aG
theorem yP {t0 t1 v:V} (h:aP (CX Y) t0 t1 (out v)):CP Y F.aP [t0,t1] v:=
 CP.of (fn:=Go.Proofs.Tryz.f112) (m:=0) (a:=nS) rfl (fun _=>rfl) Go.Proofs.Tryz.func112 yO (by rw [yQ];exact h)
def kS (C:CC) (t0:V) (t1:V) (q:V->Hp->Prop):Prop:=
 let h:Hp:=List.replicate 0 (0,.none)
 cal C.p h (.fn F.gz [] []) [t0] fun v1 h=>
 cal C.p h (.fn F.gz [] []) [t1] fun v2 h=>
 cal C.p h (.fn F.jS [] []) [v1,v2] fun v3 h=>
 q v3 h
def rb:Ann:=.o
theorem EZ (C:CC) (t0:V) (t1:V) (q:V->Hp->Prop):fnD Y C Go.Proofs.Tryz.f122 0 rb [t0,t1] q=kS C t0 t1 q:=by
 rfl
theorem EX:okB Go.Proofs.Tryz.prog Go.Proofs.Tryz.f122 rb=true:=aG
theorem EY {t0 t1 v:V} (h:kS (CX Y) t0 t1 (out v)):CP Y F.kS [t0,t1] v:=
 CP.of (fn:=Go.Proofs.Tryz.f122) (m:=0) (a:=rb) rfl (fun _=>rfl) Go.Proofs.Tryz.func122 EX (by rw [EZ];exact h)
def gT (C:CC) (t0:V) (t1:V) (q:V->Hp->Prop):Prop:=
 let h:Hp:=List.replicate 0 (0,.none)
 bnd (biI .lss t1 (.d (.int .i64 0))) fun v1=>
 cnd v1 (
  q (.tup [(.d (.str [])),(.d (.int .i64 3))]) h) (
  cal C.p h (.fn F.aN [] []) [t0] fun v2 h=>
  ext v2 0 fun v3=>
  ext v2 1 fun v4=>
  bnd (ko v4) fun v5=>
  bnd (biI .quo (.d (.int .i64 4000)) v5) fun v6=>
  bnd (biI .gtr t1 v6) fun v7=>
  cnd v7 (
   q (.tup [(.d (.str [])),(.d (.int .i64 4))]) h) (
   cal C.p h (.fn F.gr [] []) [v4,t1] fun v8 h=>
   ext v8 0 fun v9=>
   ext v8 1 fun v10=>
   bnd (biI .neq v10 (.d (.int .i64 0))) fun v11=>
   cnd v11 (
    q (.tup [(.d (.str [])),v10]) h) (
    gd v3 true h (fun q=>q t1 h) fun v12 h=>
    gd v3 true h (fun q=>bnd (biI .rem v12 (.d (.int .i64 2))) fun v=>q v h) fun v13 h=>
    gd v3 true h (fun q=>bnd (biI .eql v13 (.d (.int .i64 1))) fun v=>q v h) fun v14 h=>
    bnd (cW v3 v14 (.d (.bool false))) fun v15=>
    cal C.p h (.fn F.bK [] []) [v15,v9] fun v16 h=>
    q (.tup [v16,(.d (.int .i64 0))]) h)))
def oS:Ann:=.o
theorem Bf (C:CC) (t0:V) (t1:V) (q:V->Hp->Prop):fnD Y C Go.Proofs.Tryz.f176 0 oS [t0,t1] q=gT C t0 t1 q:=by
 rfl
theorem Bc:okB Go.Proofs.Tryz.prog Go.Proofs.Tryz.f176 oS=true:=aG
theorem Be {t0 t1 v:V} (h:gT (CX Y) t0 t1 (out v)):CP Y F.gT [t0,t1] v:=
 CP.of (fn:=Go.Proofs.Tryz.f176) (m:=0) (a:=oS) rfl (fun _=>rfl) Go.Proofs.Tryz.func176 Bc (by rw [Bf];exact h)
def jS (C:CC) (t0:V) (t1:V) (q:V->Hp->Prop):Prop:=
 let h:Hp:=List.replicate 0 (0,.none)
 bnd (biS .eql t0 (.d (.str [48]))) fun v1=>
 gd v1 false h (fun q=>q t1 h) fun v2 h=>
 gd v1 false h (fun q=>bnd (biS .eql v2 (.d (.str [48]))) fun v=>q v h) fun v3 h=>
 bnd (cW v1 (.d (.bool true)) v3) fun v4=>
 cnd v4 (
  q (.d (.str [48])) h) (
  cal C.p h (.fn F.jT [] []) [t0,t1] fun v5 h=>
  cal C.p h (.fn F.dz [] []) [t0,v5] fun v6 h=>
  ext v6 0 fun v7=>
  ext v6 1 fun v8=>
  ext v6 2 fun v9=>
  bnd (biI .neq v9 (.d (.int .i64 0))) fun v10=>
  cnd v10 (
   q (.d (.str [])) h) (
   cal C.p h (.fn F.ib [] []) [v7,t1] fun v11 h=>
   q v11 h))
def o8:Ann:=.o
theorem BM (C:CC) (t0:V) (t1:V) (q:V->Hp->Prop):fnD Y C Go.Proofs.Tryz.f155 0 o8 [t0,t1] q=jS C t0 t1 q:=by
 rfl
theorem BK:okB Go.Proofs.Tryz.prog Go.Proofs.Tryz.f155 o8=true:=aG
theorem BL {t0 t1 v:V} (h:jS (CX Y) t0 t1 (out v)):CP Y F.jS [t0,t1] v:=
 CP.of (fn:=Go.Proofs.Tryz.f155) (m:=0) (a:=o8) rfl (fun _=>rfl) Go.Proofs.Tryz.func155 BK (by rw [BM];exact h)
def yb (C:CC) (p5:V) (p32:V):bh:=fun l h q=>
 bnd (biI .lss (ge l 1) p32) fun v1=>
 cnd v1 (
  bnd (ixV h 1 p5 (ge l 1)) fun v2=>
  bnd (ld1 h v2) fun v3=>
  bnd (biI .mul v3 (.d (.int .u64 1000000000))) fun v4=>
  bnd (biI .add (ge l 0) v4) fun v5=>
  bnd (biI .and v5 (.d (.int .u64 4294967295))) fun v6=>
  bnd (ixV h 1 p5 (ge l 1)) fun v7=>
  stD h 1 v7 v6 fun _ h=>
  bnd (biI .shr v5 (.d (.int .u64 32))) fun v9=>
  bnd (biI .add (ge l 1) (.d (.int .i64 1))) fun v10=>
  q .normal [v9,v10] h) (
  q (.exit 2) [(ge l 0)] h)
def yc (C:CC) (p6:V):bh:=fun l h q=>
 bnd (biI .geq (ge l 1) (.d (.int .i64 0))) fun v1=>
 cnd v1 (
  jn (fun l2 h=>
   bnd (biI .sub (ge l 1) (.d (.int .i64 1))) fun v4=>
   q .normal [(ge l2 0),v4] h) fun q3=>
   bnd (ixV h 1 p6 (ge l 1)) fun v5=>
   bnd (ld1 h v5) fun v6=>
   bnd (bq (ge l 0)) fun v7=>
   lp (yb C (ge l 0) v7) [] h [v6,(.d (.int .i64 0))] h (exK [((.exit 2),fun l8 h=>
    bnd (biI .gtr (ge l8 0) (.d (.int .u64 0))) fun v9=>
    jn (fun l10 h=>
     q3 [(ge l10 0)] h) fun q11=>
     cnd v9 (
      eh 1 [.int .u64 0] [(0,(ge l8 0))] h fun v12 h=>
      apV false 1 1 8 (ge l 0) v12 h fun v13 h=>
      q11 [v13] h) (
      q11 [(ge l 0)] h))])) (
  q (.exit 0) [(ge l 0)] h)
def ja (C:CC) (t0:V) (q:V->Hp->Prop):Prop:=
 let h:Hp:=List.replicate 2 (0,.none)
 cal C.p h (.fn F.gn [] []) [t0] fun v1 h=>
 ext v1 0 fun v2=>
 ext v1 1 fun v3=>
 cnd v3 (
  cal C.p h (.fn F.dD [] []) [v2] fun v4 h=>
  q v4 h) (
  cai C.i h (.fn F.bW [] []) [t0] 0 fun v5 h=>
  bnd (bq v5) fun v6=>
  bnd (biI .sub v6 (.d (.int .i64 1))) fun v7=>
  lp (yc C v5) [] h [(.d (.pl (.slice none 0 0))),v7] h (exK [((.exit 0),fun l8 h=>
   bnd (bq (ge l8 0)) fun v9=>
   bnd (biI .sub v9 (.d (.int .i64 1))) fun v10=>
   bnd (biI .mul (.d (.int .i64 32)) v10) fun v11=>
   bnd (bq (ge l8 0)) fun v12=>
   bnd (biI .sub v12 (.d (.int .i64 1))) fun v13=>
   bnd (ixV h 1 (ge l8 0) v13) fun v14=>
   bnd (ld1 h v14) fun v15=>
   cal C.p h (.fn F.dD [] []) [v15] fun v16 h=>
   bnd (biI .add v11 v16) fun v17=>
   q v17 h)]))
def oD:Ann:=(.n .x .o (.n .x .o (.n .x .o (.n .x (.n (.r [.inl 0]) .o .o) (.n .x (.n .x .o (.n .x (.n (.l [5,7] [6] [((.exit 0),[5],[])] []) (.n .x .o (.n .x (.n (.j [5] [6,7]) (.n .x .o (.n .x (.n .x .o (.n .x (.n (.l [8,33] [5,6,7,32] [((.exit 2),[8],[5,6,7])] []) .o .o) .o)) (.n .x .o (.n (.j [5] [6,7]) (.n (.r [.o,.slot 1]) .o .o) .o)))) .o) .o)) .o) .o)) .o)))))
theorem AB (C:CC) (t0:V) (q:V->Hp->Prop):fnD Y C Go.Proofs.Tryz.f211 2 oD [t0] q=ja C t0 q:=by
 rfl
theorem Az:okB Go.Proofs.Tryz.prog Go.Proofs.Tryz.f211 oD=true:=aG
theorem AA {t0 v:V} (h:ja (CX Y) t0 (out v)):CP Y F.ja [t0] v:=
 CP.of (fn:=Go.Proofs.Tryz.f211) (m:=2) (a:=oD) rfl (fun _=>rfl) Go.Proofs.Tryz.func211 Az (by rw [AB];exact h)
def iH (C:CC):bh:=fun l h q=>
 bnd (biI .gtr (ge l 2) (.d (.int .i64 0))) fun v1=>
 cnd v1 (
  jn (fun l2 h=>
   bnd (biI .shr (ge l 2) (.d (.int .u64 1))) fun v4=>
   q .normal [(ge l2 0),(ge l2 1),v4] h) fun q3=>
   bnd (biI .and (ge l 2) (.d (.int .i64 1))) fun v5=>
   bnd (biI .eql v5 (.d (.int .i64 1))) fun v6=>
   jn (fun l7 h=>
    bnd (biI .gtr (ge l 2) (.d (.int .i64 1))) fun v9=>
    jn (fun l10 h=>
     q3 [(ge l7 0),(ge l10 0)] h) fun q11=>
     cnd v9 (
      cai C.i h (.fn F.bb [] []) [(ge l 1),(ge l 1)] 2 fun v12 h=>
      q11 [v12] h) (
      q11 [(ge l 1)] h)) fun q8=>
    cnd v6 (
     cai C.i h (.fn F.bb [] []) [(ge l 0),(ge l 1)] 1 fun v13 h=>
     q8 [v13] h) (
     q8 [(ge l 0)] h)) (
  q (.exit 1) [(ge l 0)] h)
def gr (C:CC) (t0:V) (t1:V) (q:V->Hp->Prop):Prop:=
 let h:Hp:=List.replicate 3 (0,.none)
 bnd (biI .lss t1 (.d (.int .i64 0))) fun v1=>
 cnd v1 (
  q (.tup [(.d (.str [])),(.d (.int .i64 3))]) h) (
  bnd (biI .eql t1 (.d (.int .i64 0))) fun v2=>
  gd v2 false h (fun q=>q t0 h) fun v3 h=>
  gd v2 false h (fun q=>bnd (biS .eql v3 (.d (.str [49]))) fun v=>q v h) fun v4 h=>
  bnd (cW v2 (.d (.bool true)) v4) fun v5=>
  cnd v5 (
   q (.tup [(.d (.str [49])),(.d (.int .i64 0))]) h) (
   bnd (biS .eql t0 (.d (.str [48]))) fun v6=>
   cnd v6 (
    q (.tup [(.d (.str [48])),(.d (.int .i64 0))]) h) (
    cal C.p h (.fn F.ja [] []) [t0] fun v7 h=>
    bnd (biI .sub v7 (.d (.int .i64 1))) fun v8=>
    bnd (biI .quo (.d (.int .i64 66439)) v8) fun v9=>
    bnd (biI .gtr t1 v9) fun v10=>
    cnd v10 (
     q (.tup [(.d (.str [])),(.d (.int .i64 4))]) h) (
     eh 1 [.int .u64 0] [(0,(.d (.int .u64 1)))] h fun v11 h=>
     cai C.i h (.fn F.bW [] []) [t0] 0 fun v12 h=>
     lp (iH C) [] h [v11,v12,t1] h (exK [((.exit 1),fun l13 h=>
      cal C.p h (.fn F.aJ [] []) [(ge l13 0)] fun v14 h=>
      bnd (ko v14) fun v15=>
      bnd (biI .gtr v15 (.d (.int .i64 20000))) fun v16=>
      cnd v16 (
       q (.tup [(.d (.str [])),(.d (.int .i64 4))]) h) (
       q (.tup [v14,(.d (.int .i64 0))]) h))])))))
def nh:Ann:=(.n .x .o (.n .x .o (.n .x .o (.n .x (.n (.r [.o,.inl 0]) .o .o) (.n .x (.n .x (.n (.l [7,8,1] [] [((.exit 1),[7],[])] []) (.n .x .o (.n .x (.n (.j [7,8] [1]) (.n .x (.n .x .o (.n (.j [7] [1,8]) (.n (.r [.inl 1]) .o .o) .o)) (.n .x .o (.n (.j [8] [1,7]) (.n (.r [.inl 2]) .o .o) .o))) .o) .o)) .o) .o) .o)))))
attribute [local irreducible] bnd gd cal cnd ext eh tf stD alV alD iI jn lp exK mkS apV cai tQ in
theorem x9 (C:CC) (t0:V) (t1:V) (q:V->Hp->Prop):fnD Y C Go.Proofs.Tryz.f194 3 nh [t0,t1] q=gr C t0 t1 q:=by
 repeat' (first | (refine AQ rfl fun _=>?_) | (refine Ir rfl fun _ _=>?_) | (refine AM rfl fun _ _=>?_) | (refine AI rfl ?_ ?_) | (refine An rfl fun _=>?_) | (refine tV rfl fun _ _=>?_) | (refine zb rfl fun _ _=>?_) | (refine AU rfl fun _ _=>?_) | (refine uf rfl fun _ _=>?_) | (refine Il rfl (fun _ _=>?_) fun _=>?_) | (refine Ih rfl (fun _ _ _=>?_) fun _ _ _=>?_) | (refine Ap rfl (fun _ _=>?_) ?_) | (refine zK rfl fun _ _=>?_) | (refine AT rfl fun _ _=>?_) | (refine AN rfl fun _ _=>?_) | (refine tU rfl fun _ _=>?_) | (refine AV rfl fun _ _=>?_) | (refine tP rfl fun _=>?_) | exact rfl | (refine tW rfl ?_))
theorem xZ:okB Go.Proofs.Tryz.prog Go.Proofs.Tryz.f194 nh=true:=aG
theorem x8 {t0 t1 v:V} (h:gr (CX Y) t0 t1 (out v)):CP Y F.gr [t0,t1] v:=
 CP.of (fn:=Go.Proofs.Tryz.f194) (m:=3) (a:=nh) rfl (fun _=>rfl) Go.Proofs.Tryz.func194 xZ (by rw [x9];exact h)
end Go.Vm
