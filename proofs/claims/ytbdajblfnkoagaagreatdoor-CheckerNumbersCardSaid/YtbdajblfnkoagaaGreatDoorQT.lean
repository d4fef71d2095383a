/- Functions of the program as predicate transformers. Printed by gen.py. -/
import Derived.Test.YtbdajblfnkoagaaGreatDoorQVmC
set_option linter.unusedVariables false
set_option linter.unusedSimpArgs false
set_option maxRecDepth 100000
set_option maxHeartbeats 4000000
namespace Go.Vm
open Go Go.Am
def prime_IsPrime_l0 (C:CC) (p0:V):StepT:=fun l h q =>
 bnd (biI .mul (ge l 0) (ge l 0)) fun v1 =>
 bnd (biI .leq v1 p0) fun v2 =>
 cnd v2 (
 bnd (biI .rem p0 (ge l 0)) fun v3 =>
 bnd (biI .eql v3 (.d (.int .i64 0))) fun v4 =>
 cnd v4 (
 q .ret [(.d (.bool false))] h) (
 bnd (biI .add (ge l 0) (.d (.int .i64 1))) fun v5 =>
 q .normal [v5] h)) (
 q (.exit 0) [] h)
def prime_IsPrime (C:CC) (t0:V) (q:V→Hp→Prop):Prop :=
 let h:Hp:=List.replicate 0 (0,.none)
 bnd (biI .lss t0 (.d (.int .i64 2))) fun v1 =>
 gd v1 false h (fun q=>q t0 h) fun v2 h =>
 gd v1 false h (fun q=>bnd (biI .gtr v2 (.d (.int .i64 97))) fun v=>q v h) fun v3 h =>
 bnd (pickV v1 (.d (.bool true)) v3) fun v4 =>
 cnd v4 (
 q (.d (.bool false)) h) (
 lp (prime_IsPrime_l0 C t0) [] h [(.d (.int .i64 2))] h (exK [((.exit 0),fun l5 h =>
 q (.d (.bool true)) h),
 (.ret,fun l5 h =>
 q (ge l5 0) h)]))
def prime_IsPrime_a:Ann:=(.n .x .o (.n .x .o (.n .x (.n .x .o (.n .x (.n (.l [3] [0] [((.exit 0),[],[]),(.ret,[2],[])] []) .o .o) .o)) .o)))
theorem prime_IsPrime_e (C:CC) (t0:V) (q:V→Hp→Prop):fnD Y C Go.Proofs.Tryz.f37 0 prime_IsPrime_a [t0] q=prime_IsPrime C t0 q:=by
 rfl
theorem prime_IsPrime_o:okB Go.Proofs.Tryz.prog Go.Proofs.Tryz.f37 prime_IsPrime_a=true:=by decide +kernel
theorem prime_IsPrime_i {t0 v:V} (h:prime_IsPrime (CX Y) t0 (out v)):CP Y F.prime_IsPrime [t0] v :=
 CP.of (fn:=Go.Proofs.Tryz.f37) (m:=0) (a:=prime_IsPrime_a) rfl (fun _=>rfl) Go.Proofs.Tryz.func37 prime_IsPrime_o (by rw [prime_IsPrime_e]; exact h)
def prime_Check_l0 (C:CC) (p0:V) (p13:V) (p14:V):StepT:=fun l h q =>
 bnd (biI .lss (ge l 0) p14) fun v1 =>
 cnd v1 (
 bnd (ixV h 1 p13 (ge l 0)) fun v2 =>
 bnd (ld1 h v2) fun v3 =>
 cal C.p h (.fn F.prime_IsPrime [] []) [v3] fun v4 h =>
 bnd (unV .not v4) fun v5 =>
 cnd v5 (
 q .ret [(.d (.int .i64 25))] h) (
 bnd (biI .gtr (ge l 0) (.d (.int .i64 0))) fun v6 =>
 gd v6 true h (fun q=>q v3 h) fun v7 h =>
 gd v6 true h (fun q=>q p0 h) fun v8 h =>
 gd v6 true h (fun q=>q (ge l 0) h) fun v9 h =>
 gd v6 true h (fun q=>bnd (biI .sub v9 (.d (.int .i64 1))) fun v=>q v h) fun v10 h =>
 gd v6 true h (fun q=>bnd (ixV h 1 v8 v10) fun v=>q v h) fun v11 h =>
 gd v6 true h (fun q=>bnd (ld1 h v11) fun v=>q v h) fun v12 h =>
 gd v6 true h (fun q=>bnd (biI .leq v7 v12) fun v=>q v h) fun v13 h =>
 bnd (pickV v6 v13 (.d (.bool false))) fun v14 =>
 cnd v14 (
 q .ret [(.d (.int .i64 6))] h) (
 bnd (biI .add (ge l 0) (.d (.int .i64 1))) fun v15 =>
 q .normal [v15] h))) (
 q (.exit 1) [] h)
def prime_Check (C:CC) (t0:V) (q:V→Hp→Prop):Prop :=
 let h:Hp:=List.replicate 0 (0,.none)
 bnd (lenV t0) fun v1 =>
 bnd (biI .eql v1 (.d (.int .i64 0))) fun v2 =>
 cnd v2 (
 q (.d (.int .i64 13)) h) (
 bnd (lenV t0) fun v3 =>
 bnd (biI .gtr v3 (.d (.int .i64 6))) fun v4 =>
 cnd v4 (
 q (.d (.int .i64 4)) h) (
 bnd (lenV t0) fun v5 =>
 lp (prime_Check_l0 C t0 t0 v5) [] h [(.d (.int .i64 0))] h (exK [((.exit 1),fun l6 h =>
 q (.d (.int .i64 0)) h),
 (.ret,fun l6 h =>
 q (ge l6 0) h)])))
def prime_Check_a:Ann:=(.n .x .o (.n .x .o (.n .x (.n .x .o (.n .x (.n (.l [15] [0,13,14] [((.exit 1),[],[]),(.ret,[2],[])] []) .o .o) .o)) .o)))
theorem prime_Check_e (C:CC) (t0:V) (q:V→Hp→Prop):fnD Y C Go.Proofs.Tryz.f31 0 prime_Check_a [t0] q=prime_Check C t0 q:=by
 rfl
theorem prime_Check_o:okB Go.Proofs.Tryz.prog Go.Proofs.Tryz.f31 prime_Check_a=true:=by decide +kernel
theorem prime_Check_i {t0 v:V} (h:prime_Check (CX Y) t0 (out v)):CP Y F.prime_Check [t0] v :=
 CP.of (fn:=Go.Proofs.Tryz.f31) (m:=0) (a:=prime_Check_a) rfl (fun _=>rfl) Go.Proofs.Tryz.func31 prime_Check_o (by rw [prime_Check_e]; exact h)
def size_short (C:CC) (t0:V) (q:V→Hp→Prop):Prop :=
 let h:Hp:=List.replicate 1 (0,.none)
 boxD 0 t0 h fun v1 h =>
 bnd (faV 0 v1) fun v2 =>
 bnd (ld1 h v2) fun v3 =>
 cal C.p h (.fn F.whole_Abs [] []) [v3] fun v4 h =>
 bnd (lenS v4) fun v5 =>
 bnd (biI .leq v5 (.d (.int .i64 30))) fun v6 =>
 gd v6 true h (fun q=>bnd (faV 1 v1) fun v=>q v h) fun v7 h =>
 gd v6 true h (fun q=>bnd (ld1 h v7) fun v=>q v h) fun v8 h =>
 gd v6 true h (fun q=>bnd (lenS v8) fun v=>q v h) fun v9 h =>
 gd v6 true h (fun q=>bnd (biI .leq v9 (.d (.int .i64 30))) fun v=>q v h) fun v10 h =>
 bnd (pickV v6 v10 (.d (.bool false))) fun v11 =>
 q v11 h
def size_short_a:Ann:=(.n .x (.n (.r [.slot 0]) .o .o) .o)
theorem size_short_e (C:CC) (t0:V) (q:V→Hp→Prop):fnD Y C Go.Proofs.Tryz.f136 1 size_short_a [t0] q=size_short C t0 q:=by
 rfl
theorem size_short_o:okB Go.Proofs.Tryz.prog Go.Proofs.Tryz.f136 size_short_a=true:=by decide +kernel
theorem size_short_i {t0 v:V} (h:size_short (CX Y) t0 (out v)):CP Y F.size_short [t0] v :=
 CP.of (fn:=Go.Proofs.Tryz.f136) (m:=1) (a:=size_short_a) rfl (fun _=>rfl) Go.Proofs.Tryz.func136 size_short_o (by rw [size_short_e]; exact h)
def size_check_l0 (C:CC) (p12:V) (p13:V):StepT:=fun l h q =>
 bnd (biI .lss (ge l 0) p13) fun v1 =>
 cnd v1 (
 bnd (ixV h 2 p12 (ge l 0)) fun v2 =>
 bnd (ldA h 2 v2) fun v3 =>
 alV 0 [.d (.str []),.d (.str [])] h fun v4 h =>
 stD h 2 v4 v3 fun _ h =>
 bnd (ldA h 2 v4) fun v6 =>
 cal C.p h (.fn F.fraction_Check [] []) [v6] fun v7 h =>
 bnd (biI .neq v7 (.d (.int .i64 0))) fun v8 =>
 cnd v8 (
 q .ret [(.d (.int .i64 2))] h) (
 bnd (ldA h 2 v4) fun v9 =>
 cal C.p h (.fn F.size_short [] []) [v9] fun v10 h =>
 bnd (unV .not v10) fun v11 =>
 cnd v11 (
 q .ret [(.d (.int .i64 4))] h) (
 bnd (biI .add (ge l 0) (.d (.int .i64 1))) fun v12 =>
 q .normal [v12] h))) (
 q (.exit 0) [] h)
def size_check (C:CC) (t0:V) (t1:V) (q:V→Hp→Prop):Prop :=
 let h:Hp:=List.replicate 1 (0,.none)
 bnd (lenV t1) fun v1 =>
 bnd (lenV t0) fun v2 =>
 bnd (biI .neq v1 v2) fun v3 =>
 cnd v3 (
 q (.d (.int .i64 5)) h) (
 bnd (lenV t1) fun v4 =>
 lp (size_check_l0 C t1 v4) [0] h [(.d (.int .i64 0))] h (exK [((.exit 0),fun l5 h =>
 q (.d (.int .i64 0)) h),
 (.ret,fun l5 h =>
 q (ge l5 0) h)]))
def size_check_a:Ann:=(.n .x .o (.n .x .o (.n .x (.n .x .o (.n .x (.n (.l [14] [12,13] [((.exit 0),[],[]),(.ret,[4],[])] [0]) (.n .x .o (.n .x .o (.n .x (.n .x (.n .x (.n (.r [.slot 0]) .o .o) .o) .o) .o))) .o) .o)) .o)))
theorem size_check_e (C:CC) (t0:V) (t1:V) (q:V→Hp→Prop):fnD Y C Go.Proofs.Tryz.f111 1 size_check_a [t0,t1] q=size_check C t0 t1 q:=by
 rfl
theorem size_check_o:okB Go.Proofs.Tryz.prog Go.Proofs.Tryz.f111 size_check_a=true:=by decide +kernel
theorem size_check_i {t0 t1 v:V} (h:size_check (CX Y) t0 t1 (out v)):CP Y F.size_check [t0,t1] v :=
 CP.of (fn:=Go.Proofs.Tryz.f111) (m:=1) (a:=size_check_a) rfl (fun _=>rfl) Go.Proofs.Tryz.func111 size_check_o (by rw [size_check_e]; exact h)
def size_Check (C:CC) (t0:V) (t1:V) (q:V→Hp→Prop):Prop :=
 let h:Hp:=List.replicate 0 (0,.none)
 cal C.p h (.fn F.prime_Check [] []) [t0] fun v1 h =>
 bnd (biI .neq v1 (.d (.int .i64 0))) fun v2 =>
 cnd v2 (
 q v1 h) (
 cal C.p h (.fn F.size_check [] []) [t0,t1] fun v3 h =>
 q v3 h)
def size_Check_a:Ann:=.o
theorem size_Check_e (C:CC) (t0:V) (t1:V) (q:V→Hp→Prop):fnD Y C Go.Proofs.Tryz.f77 0 size_Check_a [t0,t1] q=size_Check C t0 t1 q:=by
 rfl
theorem size_Check_o:okB Go.Proofs.Tryz.prog Go.Proofs.Tryz.f77 size_Check_a=true:=by decide +kernel
theorem size_Check_i {t0 t1 v:V} (h:size_Check (CX Y) t0 t1 (out v)):CP Y F.size_Check [t0,t1] v :=
 CP.of (fn:=Go.Proofs.Tryz.f77) (m:=0) (a:=size_Check_a) rfl (fun _=>rfl) Go.Proofs.Tryz.func77 size_Check_o (by rw [size_Check_e]; exact h)
end Go.Vm
set_option maxRecDepth 100000
set_option maxHeartbeats 4000000
namespace Go.Vm
open Go Go.Am
def i_strconv_FormatUint (C:CC) (t0:V) (t1:V) (q:V→Hp→Prop):Prop :=
 let h:Hp:=List.replicate 2 (0,.none)
 bnd (biI .eql t1 (.d (.int .i64 10))) fun v1 =>
 cnd v1 (
 bnd (biI .lss t0 (.d (.int .u64 100))) fun v2 =>
 cnd v2 (
 bnd (cvI .i64 t0) fun v3 =>
 cal C.p h (.fn F.i_strconv_small [] []) [v3] fun v4 h =>
 q v4 h) (
 alD 0 1 (List.replicate 24 (.int .u8 0)) h fun v5 h =>
 cal C.p h (.fn F.i_strconv_numDigits [] []) [t0] fun v6 h =>
 bnd (slP 24 1 h v5 none (some v6)) fun v7 =>
 cai C.i h (.fn F.i_strconv_formatBase10 [] []) [v7,t0] 1 fun v8 h =>
 bnd (slP 24 1 h v5 none (some v6)) fun v9 =>
 bnd (cvT h v9) fun v10 =>
 q v10 h)) (
 cal C.p h (.fn F.i_strconv_formatBits [] []) [(.d (.pl (.slice none 0 0))),t0,t1,(.d (.bool false)),(.d (.bool false))] fun v11 h =>
 ext v11 0 fun v12 =>
 ext v11 1 fun v13 =>
 q v13 h)
def i_strconv_FormatUint_a:Ann:=(.n .x .o (.n .x (.n .x .o (.n .x (.n .x .o (.n .x (.n (.r [.slot 0]) .o .o) (.n .x .o (.n .x (.n (.r [.inl 1]) .o .o) .o)))) .o)) .o))
theorem i_strconv_FormatUint_e (C:CC) (t0:V) (t1:V) (q:V→Hp→Prop):fnD Y C Go.Proofs.Tryz.f206 2 i_strconv_FormatUint_a [t0,t1] q=i_strconv_FormatUint C t0 t1 q:=by
 rfl
theorem i_strconv_FormatUint_o:okB Go.Proofs.Tryz.prog Go.Proofs.Tryz.f206 i_strconv_FormatUint_a=true:=by decide +kernel
theorem i_strconv_FormatUint_i {t0 t1 v:V} (h:i_strconv_FormatUint (CX Y) t0 t1 (out v)):CP Y F.i_strconv_FormatUint [t0,t1] v :=
 CP.of (fn:=Go.Proofs.Tryz.f206) (m:=2) (a:=i_strconv_FormatUint_a) rfl (fun _=>rfl) Go.Proofs.Tryz.func206 i_strconv_FormatUint_o (by rw [i_strconv_FormatUint_e]; exact h)
def strconv_FormatUint (C:CC) (t0:V) (t1:V) (q:V→Hp→Prop):Prop :=
 let h:Hp:=List.replicate 0 (0,.none)
 cal C.p h (.fn F.i_strconv_FormatUint [] []) [t0,t1] fun v1 h =>
 q v1 h
def strconv_FormatUint_a:Ann:=.o
theorem strconv_FormatUint_e (C:CC) (t0:V) (t1:V) (q:V→Hp→Prop):fnD Y C Go.Proofs.Tryz.f196 0 strconv_FormatUint_a [t0,t1] q=strconv_FormatUint C t0 t1 q:=by
 rfl
theorem strconv_FormatUint_o:okB Go.Proofs.Tryz.prog Go.Proofs.Tryz.f196 strconv_FormatUint_a=true:=by decide +kernel
theorem strconv_FormatUint_i {t0 t1 v:V} (h:strconv_FormatUint (CX Y) t0 t1 (out v)):CP Y F.strconv_FormatUint [t0,t1] v :=
 CP.of (fn:=Go.Proofs.Tryz.f196) (m:=0) (a:=strconv_FormatUint_a) rfl (fun _=>rfl) Go.Proofs.Tryz.func196 strconv_FormatUint_o (by rw [strconv_FormatUint_e]; exact h)
def decimal_Of (C:CC) (t0:V) (q:V→Hp→Prop):Prop :=
 let h:Hp:=List.replicate 0 (0,.none)
 cal C.p h (.fn F.strconv_FormatUint [] []) [t0,(.d (.int .i64 10))] fun v1 h =>
 q v1 h
def decimal_Of_a:Ann:=.o
theorem decimal_Of_e (C:CC) (t0:V) (q:V→Hp→Prop):fnD Y C Go.Proofs.Tryz.f176 0 decimal_Of_a [t0] q=decimal_Of C t0 q:=by
 rfl
theorem decimal_Of_o:okB Go.Proofs.Tryz.prog Go.Proofs.Tryz.f176 decimal_Of_a=true:=by decide +kernel
theorem decimal_Of_i {t0 v:V} (h:decimal_Of (CX Y) t0 (out v)):CP Y F.decimal_Of [t0] v :=
 CP.of (fn:=Go.Proofs.Tryz.f176) (m:=0) (a:=decimal_Of_a) rfl (fun _=>rfl) Go.Proofs.Tryz.func176 decimal_Of_o (by rw [decimal_Of_e]; exact h)
def decimal_Small (C:CC) (t0:V) (q:V→Hp→Prop):Prop :=
 let h:Hp:=List.replicate 0 (0,.none)
 cal C.p h (.fn F.strconv_ParseUint [] []) [t0,(.d (.int .i64 10)),(.d (.int .i64 64))] fun v1 h =>
 ext v1 0 fun v2 =>
 ext v1 1 fun v3 =>
 bnd (biF .neq v3 (.d (.pl .nilIface))) fun v4 =>
 cnd v4 (
 q (.tup [(.d (.int .u64 0)),(.d (.bool false))]) h) (
 q (.tup [v2,(.d (.bool true))]) h)
def decimal_Small_a:Ann:=.o
theorem decimal_Small_e (C:CC) (t0:V) (q:V→Hp→Prop):fnD Y C Go.Proofs.Tryz.f195 0 decimal_Small_a [t0] q=decimal_Small C t0 q:=by
 rfl
theorem decimal_Small_o:okB Go.Proofs.Tryz.prog Go.Proofs.Tryz.f195 decimal_Small_a=true:=by decide +kernel
theorem decimal_Small_i {t0 v:V} (h:decimal_Small (CX Y) t0 (out v)):CP Y F.decimal_Small [t0] v :=
 CP.of (fn:=Go.Proofs.Tryz.f195) (m:=0) (a:=decimal_Small_a) rfl (fun _=>rfl) Go.Proofs.Tryz.func195 decimal_Small_o (by rw [decimal_Small_e]; exact h)
def decimal_both (C:CC) (t0:V) (t1:V) (q:V→Hp→Prop):Prop :=
 let h:Hp:=List.replicate 0 (0,.none)
 bnd (lenS t0) fun v1 =>
 bnd (biI .gtr v1 (.d (.int .i64 18))) fun v2 =>
 gd v2 false h (fun q=>q t1 h) fun v3 h =>
 gd v2 false h (fun q=>bnd (lenS v3) fun v=>q v h) fun v4 h =>
 gd v2 false h (fun q=>bnd (biI .gtr v4 (.d (.int .i64 18))) fun v=>q v h) fun v5 h =>
 bnd (pickV v2 (.d (.bool true)) v5) fun v6 =>
 cnd v6 (
 q (.tup [(.d (.int .u64 0)),(.d (.int .u64 0)),(.d (.bool false))]) h) (
 cal C.p h (.fn F.decimal_Small [] []) [t0] fun v7 h =>
 ext v7 0 fun v8 =>
 ext v7 1 fun v9 =>
 cal C.p h (.fn F.decimal_Small [] []) [t1] fun v10 h =>
 ext v10 0 fun v11 =>
 ext v10 1 fun v12 =>
 q (.tup [v8,v11,(.d (.bool true))]) h)
def decimal_both_a:Ann:=.o
theorem decimal_both_e (C:CC) (t0:V) (t1:V) (q:V→Hp→Prop):fnD Y C Go.Proofs.Tryz.f175 0 decimal_both_a [t0,t1] q=decimal_both C t0 t1 q:=by
 rfl
theorem decimal_both_o:okB Go.Proofs.Tryz.prog Go.Proofs.Tryz.f175 decimal_both_a=true:=by decide +kernel
theorem decimal_both_i {t0 t1 v:V} (h:decimal_both (CX Y) t0 t1 (out v)):CP Y F.decimal_both [t0,t1] v :=
 CP.of (fn:=Go.Proofs.Tryz.f175) (m:=0) (a:=decimal_both_a) rfl (fun _=>rfl) Go.Proofs.Tryz.func175 decimal_both_o (by rw [decimal_both_e]; exact h)
def decimal_DivMod (C:CC) (t0:V) (t1:V) (q:V→Hp→Prop):Prop :=
 let h:Hp:=List.replicate 2 (0,.none)
 bnd (biS .eql t1 (.d (.str [48]))) fun v1 =>
 cnd v1 (
 q (.tup [(.d (.str [])),(.d (.str [])),(.d (.int .i64 17))]) h) (
 cal C.p h (.fn F.decimal_both [] []) [t0,t1] fun v2 h =>
 ext v2 0 fun v3 =>
 ext v2 1 fun v4 =>
 ext v2 2 fun v5 =>
 cnd v5 (
 bnd (biI .quo v3 v4) fun v6 =>
 cal C.p h (.fn F.decimal_Of [] []) [v6] fun v7 h =>
 bnd (biI .rem v3 v4) fun v8 =>
 cal C.p h (.fn F.decimal_Of [] []) [v8] fun v9 h =>
 q (.tup [v7,v9,(.d (.int .i64 0))]) h) (
 cai C.i h (.fn F.decimal_cut [] []) [t0] 0 fun v10 h =>
 cai C.i h (.fn F.decimal_cut [] []) [t1] 1 fun v11 h =>
 cal C.p h (.fn F.decimal_pieces_compare [] []) [v10,v11] fun v12 h =>
 bnd (biI .lss v12 (.d (.int .i64 0))) fun v13 =>
 cnd v13 (
 q (.tup [(.d (.str [48])),t0,(.d (.int .i64 0))]) h) (
 bnd (lenV v11) fun v14 =>
 bnd (biI .eql v14 (.d (.int .i64 1))) fun v15 =>
 cnd v15 (
 bnd (ixV h 1 v11 (.d (.int .i64 0))) fun v16 =>
 bnd (ld1 h v16) fun v17 =>
 cal C.p h (.fn F.decimal_pieces_small [] []) [v10,v17] fun v18 h =>
 ext v18 0 fun v19 =>
 ext v18 1 fun v20 =>
 cal C.p h (.fn F.decimal_pieces_text [] []) [v19] fun v21 h =>
 cal C.p h (.fn F.decimal_Of [] []) [v20] fun v22 h =>
 q (.tup [v21,v22,(.d (.int .i64 0))]) h) (
 cal C.p h (.fn F.decimal_pieces_divide [] []) [v10,v11] fun v23 h =>
 ext v23 0 fun v24 =>
 ext v23 1 fun v25 =>
 cal C.p h (.fn F.decimal_pieces_text [] []) [v24] fun v26 h =>
 cal C.p h (.fn F.decimal_pieces_text [] []) [v25] fun v27 h =>
 q (.tup [v26,v27,(.d (.int .i64 0))]) h))))
def decimal_DivMod_a:Ann:=(.n .x .o (.n .x .o (.n .x .o (.n .x (.n (.r [.inl 0,.inl 1]) .o .o) .o))))
theorem decimal_DivMod_e (C:CC) (t0:V) (t1:V) (q:V→Hp→Prop):fnD Y C Go.Proofs.Tryz.f204 2 decimal_DivMod_a [t0,t1] q=decimal_DivMod C t0 t1 q:=by
 rfl
theorem decimal_DivMod_o:okB Go.Proofs.Tryz.prog Go.Proofs.Tryz.f204 decimal_DivMod_a=true:=by decide +kernel
theorem decimal_DivMod_i {t0 t1 v:V} (h:decimal_DivMod (CX Y) t0 t1 (out v)):CP Y F.decimal_DivMod [t0,t1] v :=
 CP.of (fn:=Go.Proofs.Tryz.f204) (m:=2) (a:=decimal_DivMod_a) rfl (fun _=>rfl) Go.Proofs.Tryz.func204 decimal_DivMod_o (by rw [decimal_DivMod_e]; exact h)
def decimal_Gcd_l0 (C:CC):StepT:=fun l h q =>
 bnd (biS .neq (ge l 1) (.d (.str [48]))) fun v1 =>
 cnd v1 (
 cal C.p h (.fn F.decimal_DivMod [] []) [(ge l 0),(ge l 1)] fun v2 h =>
 ext v2 0 fun v3 =>
 ext v2 1 fun v4 =>
 ext v2 2 fun v5 =>
 bnd (biI .neq v5 (.d (.int .i64 0))) fun v6 =>
 cnd v6 (
 q .ret [(.d (.str []))] h) (
 q .normal [(ge l 1),v4] h)) (
 q (.exit 0) [(ge l 0)] h)
def decimal_Gcd (C:CC) (t0:V) (t1:V) (q:V→Hp→Prop):Prop :=
 let h:Hp:=List.replicate 0 (0,.none)
 lp (decimal_Gcd_l0 C) [] h [t0,t1] h (exK [((.exit 0),fun l1 h =>
 q (ge l1 0) h),
 (.ret,fun l1 h =>
 q (ge l1 0) h)])
def decimal_Gcd_a:Ann:=(.n .x .o (.n .x (.n .x (.n (.l [0,1] [] [((.exit 0),[0],[]),(.ret,[4],[])] []) .o .o) .o) .o))
theorem decimal_Gcd_e (C:CC) (t0:V) (t1:V) (q:V→Hp→Prop):fnD Y C Go.Proofs.Tryz.f193 0 decimal_Gcd_a [t0,t1] q=decimal_Gcd C t0 t1 q:=by
 rfl
theorem decimal_Gcd_o:okB Go.Proofs.Tryz.prog Go.Proofs.Tryz.f193 decimal_Gcd_a=true:=by decide +kernel
theorem decimal_Gcd_i {t0 t1 v:V} (h:decimal_Gcd (CX Y) t0 t1 (out v)):CP Y F.decimal_Gcd [t0,t1] v :=
 CP.of (fn:=Go.Proofs.Tryz.f193) (m:=0) (a:=decimal_Gcd_a) rfl (fun _=>rfl) Go.Proofs.Tryz.func193 decimal_Gcd_o (by rw [decimal_Gcd_e]; exact h)
end Go.Vm
set_option maxRecDepth 100000
set_option maxHeartbeats 4000000
namespace Go.Vm
open Go Go.Am
def strconv_Itoa (C:CC) (t0:V) (q:V→Hp→Prop):Prop :=
 let h:Hp:=List.replicate 0 (0,.none)
 cal C.p h (.fn F.i_strconv_Itoa [] []) [t0] fun v1 h =>
 q v1 h
def strconv_Itoa_a:Ann:=.o
theorem strconv_Itoa_e (C:CC) (t0:V) (q:V→Hp→Prop):fnD Y C Go.Proofs.Tryz.f84 0 strconv_Itoa_a [t0] q=strconv_Itoa C t0 q:=by
 rfl
theorem strconv_Itoa_o:okB Go.Proofs.Tryz.prog Go.Proofs.Tryz.f84 strconv_Itoa_a=true:=by decide +kernel
theorem strconv_Itoa_i {t0 v:V} (h:strconv_Itoa (CX Y) t0 (out v)):CP Y F.strconv_Itoa [t0] v :=
 CP.of (fn:=Go.Proofs.Tryz.f84) (m:=0) (a:=strconv_Itoa_a) rfl (fun _=>rfl) Go.Proofs.Tryz.func84 strconv_Itoa_o (by rw [strconv_Itoa_e]; exact h)
def i_strconv_Itoa (C:CC) (t0:V) (q:V→Hp→Prop):Prop :=
 let h:Hp:=List.replicate 0 (0,.none)
 cal C.p h (.fn F.i_strconv_FormatInt [] []) [t0,(.d (.int .i64 10))] fun v1 h =>
 q v1 h
def i_strconv_Itoa_a:Ann:=.o
theorem i_strconv_Itoa_e (C:CC) (t0:V) (q:V→Hp→Prop):fnD Y C Go.Proofs.Tryz.f120 0 i_strconv_Itoa_a [t0] q=i_strconv_Itoa C t0 q:=by
 rfl
theorem i_strconv_Itoa_o:okB Go.Proofs.Tryz.prog Go.Proofs.Tryz.f120 i_strconv_Itoa_a=true:=by decide +kernel
theorem i_strconv_Itoa_i {t0 v:V} (h:i_strconv_Itoa (CX Y) t0 (out v)):CP Y F.i_strconv_Itoa [t0] v :=
 CP.of (fn:=Go.Proofs.Tryz.f120) (m:=0) (a:=i_strconv_Itoa_a) rfl (fun _=>rfl) Go.Proofs.Tryz.func120 i_strconv_Itoa_o (by rw [i_strconv_Itoa_e]; exact h)
def i_strconv_FormatInt (C:CC) (t0:V) (t1:V) (q:V→Hp→Prop):Prop :=
 let h:Hp:=List.replicate 2 (0,.none)
 bnd (biI .eql t1 (.d (.int .i64 10))) fun v1 =>
 cnd v1 (
 bnd (biI .leq (.d (.int .i64 0)) t0) fun v2 =>
 gd v2 true h (fun q=>q t0 h) fun v3 h =>
 gd v2 true h (fun q=>bnd (biI .lss v3 (.d (.int .i64 100))) fun v=>q v h) fun v4 h =>
 bnd (pickV v2 v4 (.d (.bool false))) fun v5 =>
 cnd v5 (
 cal C.p h (.fn F.i_strconv_small [] []) [t0] fun v6 h =>
 q v6 h) (
 alD 0 1 (List.replicate 24 (.int .u8 0)) h fun v7 h =>
 bnd (cvI .u64 t0) fun v8 =>
 bnd (biI .lss t0 (.d (.int .i64 0))) fun v9 =>
 jn (fun l10 h =>
 cal C.p h (.fn F.i_strconv_numDigits [] []) [(ge l10 0)] fun v12 h =>
 bnd (biI .add (.d (.int .i64 1)) v12) fun v13 =>
 bnd (slP 24 1 h v7 (some (.d (.int .i64 1))) (some v13)) fun v14 =>
 cai C.i h (.fn F.i_strconv_formatBase10 [] []) [v14,(ge l10 0)] 1 fun v15 h =>
 bnd (biI .lss t0 (.d (.int .i64 0))) fun v16 =>
 cnd v16 (
 bnd (ixP 24 1 v7 (.d (.int .i64 0))) fun v17 =>
 stD h 1 v17 (.d (.int .u8 45)) fun _ h =>
 bnd (biI .add (.d (.int .i64 1)) v12) fun v19 =>
 bnd (slP 24 1 h v7 none (some v19)) fun v20 =>
 bnd (cvT h v20) fun v21 =>
 q v21 h) (
 bnd (biI .add (.d (.int .i64 1)) v12) fun v22 =>
 bnd (slP 24 1 h v7 (some (.d (.int .i64 1))) (some v22)) fun v23 =>
 bnd (cvT h v23) fun v24 =>
 q v24 h)) fun q11 =>
 cnd v9 (
 bnd (unV .neg v8) fun v25 =>
 q11 [v25] h) (
 q11 [v8] h))) (
 bnd (cvI .u64 t0) fun v26 =>
 bnd (biI .lss t0 (.d (.int .i64 0))) fun v27 =>
 cal C.p h (.fn F.i_strconv_formatBits [] []) [(.d (.pl (.slice none 0 0))),v26,t1,v27,(.d (.bool false))] fun v28 h =>
 ext v28 0 fun v29 =>
 ext v28 1 fun v30 =>
 q v30 h)
def i_strconv_FormatInt_a:Ann:=(.n .x .o (.n .x (.n .x .o (.n .x (.n .x .o (.n .x (.n (.r [.slot 0]) .o .o) (.n .x .o (.n .x (.n .x .o (.n (.j [6] [0,5]) .o .o)) (.n .x .o (.n .x (.n (.r [.inl 1]) .o .o) .o)))))) .o)) .o))
theorem i_strconv_FormatInt_e (C:CC) (t0:V) (t1:V) (q:V→Hp→Prop):fnD Y C Go.Proofs.Tryz.f150 2 i_strconv_FormatInt_a [t0,t1] q=i_strconv_FormatInt C t0 t1 q:=by
 rfl
theorem i_strconv_FormatInt_o:okB Go.Proofs.Tryz.prog Go.Proofs.Tryz.f150 i_strconv_FormatInt_a=true:=by decide +kernel
theorem i_strconv_FormatInt_i {t0 t1 v:V} (h:i_strconv_FormatInt (CX Y) t0 t1 (out v)):CP Y F.i_strconv_FormatInt [t0,t1] v :=
 CP.of (fn:=Go.Proofs.Tryz.f150) (m:=2) (a:=i_strconv_FormatInt_a) rfl (fun _=>rfl) Go.Proofs.Tryz.func150 i_strconv_FormatInt_o (by rw [i_strconv_FormatInt_e]; exact h)
def i_strconv_small (C:CC) (t0:V) (q:V→Hp→Prop):Prop :=
 let h:Hp:=List.replicate 0 (0,.none)
 bnd (biI .lss t0 (.d (.int .i64 10))) fun v1 =>
 cnd v1 (
 bnd (biI .add t0 (.d (.int .i64 1))) fun v2 =>
 bnd (slS (.d (.str [48,49,50,51,52,53,54,55,56,57,97,98,99,100,101,102,103,104,105,106,107,108,109,110,111,112,113,114,115,116,117,118,119,120,121,122])) (some t0) (some v2)) fun v3 =>
 q v3 h) (
 bnd (biI .mul t0 (.d (.int .i64 2))) fun v4 =>
 bnd (biI .mul t0 (.d (.int .i64 2))) fun v5 =>
 bnd (biI .add v5 (.d (.int .i64 2))) fun v6 =>
 bnd (slS (.d (.str [48,48,48,49,48,50,48,51,48,52,48,53,48,54,48,55,48,56,48,57,49,48,49,49,49,50,49,51,49,52,49,53,49,54,49,55,49,56,49,57,50,48,50,49,50,50,50,51,50,52,50,53,50,54,50,55,50,56,50,57,51,48,51,49,51,50,51,51,51,52,51,53,51,54,51,55,51,56,51,57,52,48,52,49,52,50,52,51,52,52,52,53,52,54,52,55,52,56,52,57,53,48,53,49,53,50,53,51,53,52,53,53,53,54,53,55,53,56,53,57,54,48,54,49,54,50,54,51,54,52,54,53,54,54,54,55,54,56,54,57,55,48,55,49,55,50,55,51,55,52,55,53,55,54,55,55,55,56,55,57,56,48,56,49,56,50,56,51,56,52,56,53,56,54,56,55,56,56,56,57,57,48,57,49,57,50,57,51,57,52,57,53,57,54,57,55,57,56,57,57])) (some v4) (some v6)) fun v7 =>
 q v7 h)
def i_strconv_small_a:Ann:=.o
theorem i_strconv_small_e (C:CC) (t0:V) (q:V→Hp→Prop):fnD Y C Go.Proofs.Tryz.f183 0 i_strconv_small_a [t0] q=i_strconv_small C t0 q:=by
 rfl
theorem i_strconv_small_o:okB Go.Proofs.Tryz.prog Go.Proofs.Tryz.f183 i_strconv_small_a=true:=by decide +kernel
theorem i_strconv_small_i {t0 v:V} (h:i_strconv_small (CX Y) t0 (out v)):CP Y F.i_strconv_small [t0] v :=
 CP.of (fn:=Go.Proofs.Tryz.f183) (m:=0) (a:=i_strconv_small_a) rfl (fun _=>rfl) Go.Proofs.Tryz.func183 i_strconv_small_o (by rw [i_strconv_small_e]; exact h)
def i_strconv_numDigits (C:CC) (t0:V) (q:V→Hp→Prop):Prop :=
 let h:Hp:=List.replicate 0 (0,.none)
 cal C.p h (.fn F.math_bits_Len64 [] []) [t0] fun v1 h =>
 cal C.p h (.fn F.i_strconv_log10Pow2 [] []) [v1] fun v2 h =>
 bnd (ixP 20 1 (gl 2) v2) fun v3 =>
 bnd (ld1 h v3) fun v4 =>
 bnd (biI .geq t0 v4) fun v5 =>
 cal C.p h (.fn F.i_strconv_bool2_int [] []) [v5] fun v6 h =>
 bnd (biI .add v2 v6) fun v7 =>
 q v7 h
def i_strconv_numDigits_a:Ann:=.o
theorem i_strconv_numDigits_e (C:CC) (t0:V) (q:V→Hp→Prop):fnD Y C Go.Proofs.Tryz.f184 0 i_strconv_numDigits_a [t0] q=i_strconv_numDigits C t0 q:=by
 rfl
theorem i_strconv_numDigits_o:okB Go.Proofs.Tryz.prog Go.Proofs.Tryz.f184 i_strconv_numDigits_a=true:=by decide +kernel
theorem i_strconv_numDigits_i {t0 v:V} (h:i_strconv_numDigits (CX Y) t0 (out v)):CP Y F.i_strconv_numDigits [t0] v :=
 CP.of (fn:=Go.Proofs.Tryz.f184) (m:=0) (a:=i_strconv_numDigits_a) rfl (fun _=>rfl) Go.Proofs.Tryz.func184 i_strconv_numDigits_o (by rw [i_strconv_numDigits_e]; exact h)
def i_strconv_formatBase10_l0 (C:CC) (b:Nat) (p0:V):StepT:=fun l h q =>
 bnd (biI .geq (ge l 1) (.d (.int .i64 8))) fun v1 =>
 cnd v1 (
 bnd (biI .rem (ge l 0) (.d (.int .u64 100000000))) fun v2 =>
 bnd (cvI .u32 v2) fun v3 =>
 bnd (biI .quo (ge l 0) (.d (.int .u64 100000000))) fun v4 =>
 bnd (biI .quo v3 (.d (.int .u32 10000))) fun v5 =>
 bnd (biI .rem v3 (.d (.int .u32 10000))) fun v6 =>
 bnd (biI .quo v6 (.d (.int .u32 100))) fun v7 =>
 bnd (biI .mul v7 (.d (.int .u32 2))) fun v8 =>
 bnd (biI .rem v6 (.d (.int .u32 100))) fun v9 =>
 bnd (biI .mul v9 (.d (.int .u32 2))) fun v10 =>
 bnd (biI .quo v5 (.d (.int .u32 100))) fun v11 =>
 bnd (biI .mul v11 (.d (.int .u32 2))) fun v12 =>
 bnd (biI .rem v5 (.d (.int .u32 100))) fun v13 =>
 bnd (biI .mul v13 (.d (.int .u32 2))) fun v14 =>
 bnd (biI .sub (ge l 1) (.d (.int .i64 1))) fun v15 =>
 bnd (biI .sub (ge l 1) (.d (.int .i64 2))) fun v16 =>
 bnd (biI .add v10 (.d (.int .u32 1))) fun v17 =>
 bnd (ixS (.d (.str [48,48,48,49,48,50,48,51,48,52,48,53,48,54,48,55,48,56,48,57,49,48,49,49,49,50,49,51,49,52,49,53,49,54,49,55,49,56,49,57,50,48,50,49,50,50,50,51,50,52,50,53,50,54,50,55,50,56,50,57,51,48,51,49,51,50,51,51,51,52,51,53,51,54,51,55,51,56,51,57,52,48,52,49,52,50,52,51,52,52,52,53,52,54,52,55,52,56,52,57,53,48,53,49,53,50,53,51,53,52,53,53,53,54,53,55,53,56,53,57,54,48,54,49,54,50,54,51,54,52,54,53,54,54,54,55,54,56,54,57,55,48,55,49,55,50,55,51,55,52,55,53,55,54,55,55,55,56,55,57,56,48,56,49,56,50,56,51,56,52,56,53,56,54,56,55,56,56,56,57,57,48,57,49,57,50,57,51,57,52,57,53,57,54,57,55,57,56,57,57])) v17) fun v18 =>
 bnd (ixS (.d (.str [48,48,48,49,48,50,48,51,48,52,48,53,48,54,48,55,48,56,48,57,49,48,49,49,49,50,49,51,49,52,49,53,49,54,49,55,49,56,49,57,50,48,50,49,50,50,50,51,50,52,50,53,50,54,50,55,50,56,50,57,51,48,51,49,51,50,51,51,51,52,51,53,51,54,51,55,51,56,51,57,52,48,52,49,52,50,52,51,52,52,52,53,52,54,52,55,52,56,52,57,53,48,53,49,53,50,53,51,53,52,53,53,53,54,53,55,53,56,53,57,54,48,54,49,54,50,54,51,54,52,54,53,54,54,54,55,54,56,54,57,55,48,55,49,55,50,55,51,55,52,55,53,55,54,55,55,55,56,55,57,56,48,56,49,56,50,56,51,56,52,56,53,56,54,56,55,56,56,56,57,57,48,57,49,57,50,57,51,57,52,57,53,57,54,57,55,57,56,57,57])) v10) fun v19 =>
 bnd (ixV h 1 p0 v15) fun v20 =>
 stD h 1 v20 v18 fun _ h =>
 bnd (ixV h 1 p0 v16) fun v22 =>
 stD h 1 v22 v19 fun _ h =>
 bnd (biI .sub (ge l 1) (.d (.int .i64 3))) fun v24 =>
 bnd (biI .sub (ge l 1) (.d (.int .i64 4))) fun v25 =>
 bnd (biI .add v8 (.d (.int .u32 1))) fun v26 =>
 bnd (ixS (.d (.str [48,48,48,49,48,50,48,51,48,52,48,53,48,54,48,55,48,56,48,57,49,48,49,49,49,50,49,51,49,52,49,53,49,54,49,55,49,56,49,57,50,48,50,49,50,50,50,51,50,52,50,53,50,54,50,55,50,56,50,57,51,48,51,49,51,50,51,51,51,52,51,53,51,54,51,55,51,56,51,57,52,48,52,49,52,50,52,51,52,52,52,53,52,54,52,55,52,56,52,57,53,48,53,49,53,50,53,51,53,52,53,53,53,54,53,55,53,56,53,57,54,48,54,49,54,50,54,51,54,52,54,53,54,54,54,55,54,56,54,57,55,48,55,49,55,50,55,51,55,52,55,53,55,54,55,55,55,56,55,57,56,48,56,49,56,50,56,51,56,52,56,53,56,54,56,55,56,56,56,57,57,48,57,49,57,50,57,51,57,52,57,53,57,54,57,55,57,56,57,57])) v26) fun v27 =>
 bnd (ixS (.d (.str [48,48,48,49,48,50,48,51,48,52,48,53,48,54,48,55,48,56,48,57,49,48,49,49,49,50,49,51,49,52,49,53,49,54,49,55,49,56,49,57,50,48,50,49,50,50,50,51,50,52,50,53,50,54,50,55,50,56,50,57,51,48,51,49,51,50,51,51,51,52,51,53,51,54,51,55,51,56,51,57,52,48,52,49,52,50,52,51,52,52,52,53,52,54,52,55,52,56,52,57,53,48,53,49,53,50,53,51,53,52,53,53,53,54,53,55,53,56,53,57,54,48,54,49,54,50,54,51,54,52,54,53,54,54,54,55,54,56,54,57,55,48,55,49,55,50,55,51,55,52,55,53,55,54,55,55,55,56,55,57,56,48,56,49,56,50,56,51,56,52,56,53,56,54,56,55,56,56,56,57,57,48,57,49,57,50,57,51,57,52,57,53,57,54,57,55,57,56,57,57])) v8) fun v28 =>
 bnd (ixV h 1 p0 v24) fun v29 =>
 stD h 1 v29 v27 fun _ h =>
 bnd (ixV h 1 p0 v25) fun v31 =>
 stD h 1 v31 v28 fun _ h =>
 bnd (biI .sub (ge l 1) (.d (.int .i64 5))) fun v33 =>
 bnd (biI .sub (ge l 1) (.d (.int .i64 6))) fun v34 =>
 bnd (biI .add v14 (.d (.int .u32 1))) fun v35 =>
 bnd (ixS (.d (.str [48,48,48,49,48,50,48,51,48,52,48,53,48,54,48,55,48,56,48,57,49,48,49,49,49,50,49,51,49,52,49,53,49,54,49,55,49,56,49,57,50,48,50,49,50,50,50,51,50,52,50,53,50,54,50,55,50,56,50,57,51,48,51,49,51,50,51,51,51,52,51,53,51,54,51,55,51,56,51,57,52,48,52,49,52,50,52,51,52,52,52,53,52,54,52,55,52,56,52,57,53,48,53,49,53,50,53,51,53,52,53,53,53,54,53,55,53,56,53,57,54,48,54,49,54,50,54,51,54,52,54,53,54,54,54,55,54,56,54,57,55,48,55,49,55,50,55,51,55,52,55,53,55,54,55,55,55,56,55,57,56,48,56,49,56,50,56,51,56,52,56,53,56,54,56,55,56,56,56,57,57,48,57,49,57,50,57,51,57,52,57,53,57,54,57,55,57,56,57,57])) v35) fun v36 =>
 bnd (ixS (.d (.str [48,48,48,49,48,50,48,51,48,52,48,53,48,54,48,55,48,56,48,57,49,48,49,49,49,50,49,51,49,52,49,53,49,54,49,55,49,56,49,57,50,48,50,49,50,50,50,51,50,52,50,53,50,54,50,55,50,56,50,57,51,48,51,49,51,50,51,51,51,52,51,53,51,54,51,55,51,56,51,57,52,48,52,49,52,50,52,51,52,52,52,53,52,54,52,55,52,56,52,57,53,48,53,49,53,50,53,51,53,52,53,53,53,54,53,55,53,56,53,57,54,48,54,49,54,50,54,51,54,52,54,53,54,54,54,55,54,56,54,57,55,48,55,49,55,50,55,51,55,52,55,53,55,54,55,55,55,56,55,57,56,48,56,49,56,50,56,51,56,52,56,53,56,54,56,55,56,56,56,57,57,48,57,49,57,50,57,51,57,52,57,53,57,54,57,55,57,56,57,57])) v14) fun v37 =>
 bnd (ixV h 1 p0 v33) fun v38 =>
 stD h 1 v38 v36 fun _ h =>
 bnd (ixV h 1 p0 v34) fun v40 =>
 stD h 1 v40 v37 fun _ h =>
 bnd (biI .sub (ge l 1) (.d (.int .i64 7))) fun v42 =>
 bnd (biI .sub (ge l 1) (.d (.int .i64 8))) fun v43 =>
 bnd (biI .add v12 (.d (.int .u32 1))) fun v44 =>
 bnd (ixS (.d (.str [48,48,48,49,48,50,48,51,48,52,48,53,48,54,48,55,48,56,48,57,49,48,49,49,49,50,49,51,49,52,49,53,49,54,49,55,49,56,49,57,50,48,50,49,50,50,50,51,50,52,50,53,50,54,50,55,50,56,50,57,51,48,51,49,51,50,51,51,51,52,51,53,51,54,51,55,51,56,51,57,52,48,52,49,52,50,52,51,52,52,52,53,52,54,52,55,52,56,52,57,53,48,53,49,53,50,53,51,53,52,53,53,53,54,53,55,53,56,53,57,54,48,54,49,54,50,54,51,54,52,54,53,54,54,54,55,54,56,54,57,55,48,55,49,55,50,55,51,55,52,55,53,55,54,55,55,55,56,55,57,56,48,56,49,56,50,56,51,56,52,56,53,56,54,56,55,56,56,56,57,57,48,57,49,57,50,57,51,57,52,57,53,57,54,57,55,57,56,57,57])) v44) fun v45 =>
 bnd (ixS (.d (.str [48,48,48,49,48,50,48,51,48,52,48,53,48,54,48,55,48,56,48,57,49,48,49,49,49,50,49,51,49,52,49,53,49,54,49,55,49,56,49,57,50,48,50,49,50,50,50,51,50,52,50,53,50,54,50,55,50,56,50,57,51,48,51,49,51,50,51,51,51,52,51,53,51,54,51,55,51,56,51,57,52,48,52,49,52,50,52,51,52,52,52,53,52,54,52,55,52,56,52,57,53,48,53,49,53,50,53,51,53,52,53,53,53,54,53,55,53,56,53,57,54,48,54,49,54,50,54,51,54,52,54,53,54,54,54,55,54,56,54,57,55,48,55,49,55,50,55,51,55,52,55,53,55,54,55,55,55,56,55,57,56,48,56,49,56,50,56,51,56,52,56,53,56,54,56,55,56,56,56,57,57,48,57,49,57,50,57,51,57,52,57,53,57,54,57,55,57,56,57,57])) v12) fun v46 =>
 bnd (ixV h 1 p0 v42) fun v47 =>
 stD h 1 v47 v45 fun _ h =>
 bnd (ixV h 1 p0 v43) fun v49 =>
 stD h 1 v49 v46 fun _ h =>
 bnd (biI .sub (ge l 1) (.d (.int .i64 8))) fun v51 =>
 q .normal [v4,v51] h) (
 q (.exit 0) [(ge l 0),(ge l 1)] h)
def i_strconv_formatBase10 (C:CC) (b:Nat) (h:Hp) (t0:V) (t1:V) (q:V→Hp→Prop):Prop :=
 let h:Hp:=h++List.replicate 0 (0,.none)
 bnd (lenV t0) fun v1 =>
 lp (i_strconv_formatBase10_l0 C b t0) [] h [t1,v1] h (exK [((.exit 0),fun l2 h =>
 bnd (cvI .u32 (ge l2 0)) fun v3 =>
 bnd (biI .geq (ge l2 1) (.d (.int .i64 4))) fun v4 =>
 jn (fun l5 h =>
 bnd (biI .geq (ge l5 1) (.d (.int .i64 2))) fun v7 =>
 jn (fun l8 h =>
 bnd (biI .gtr (ge l8 1) (.d (.int .i64 0))) fun v10 =>
 jn (fun l11 h =>
 q (.tup []) h) fun q12 =>
 cnd v10 (
 bnd (biI .add (.d (.int .u32 48)) (ge l8 0)) fun v13 =>
 bnd (cvI .u8 v13) fun v14 =>
 bnd (ixV h 1 t0 (.d (.int .i64 0))) fun v15 =>
 stD h 1 v15 v14 fun _ h =>
 q12 [] h) (
 q12 [] h)) fun q9 =>
 cnd v7 (
 bnd (biI .rem (ge l5 0) (.d (.int .u32 100))) fun v17 =>
 bnd (biI .mul v17 (.d (.int .u32 2))) fun v18 =>
 bnd (biI .quo (ge l5 0) (.d (.int .u32 100))) fun v19 =>
 bnd (biI .sub (ge l5 1) (.d (.int .i64 1))) fun v20 =>
 bnd (biI .sub (ge l5 1) (.d (.int .i64 2))) fun v21 =>
 bnd (biI .add v18 (.d (.int .u32 1))) fun v22 =>
 bnd (ixS (.d (.str [48,48,48,49,48,50,48,51,48,52,48,53,48,54,48,55,48,56,48,57,49,48,49,49,49,50,49,51,49,52,49,53,49,54,49,55,49,56,49,57,50,48,50,49,50,50,50,51,50,52,50,53,50,54,50,55,50,56,50,57,51,48,51,49,51,50,51,51,51,52,51,53,51,54,51,55,51,56,51,57,52,48,52,49,52,50,52,51,52,52,52,53,52,54,52,55,52,56,52,57,53,48,53,49,53,50,53,51,53,52,53,53,53,54,53,55,53,56,53,57,54,48,54,49,54,50,54,51,54,52,54,53,54,54,54,55,54,56,54,57,55,48,55,49,55,50,55,51,55,52,55,53,55,54,55,55,55,56,55,57,56,48,56,49,56,50,56,51,56,52,56,53,56,54,56,55,56,56,56,57,57,48,57,49,57,50,57,51,57,52,57,53,57,54,57,55,57,56,57,57])) v22) fun v23 =>
 bnd (ixS (.d (.str [48,48,48,49,48,50,48,51,48,52,48,53,48,54,48,55,48,56,48,57,49,48,49,49,49,50,49,51,49,52,49,53,49,54,49,55,49,56,49,57,50,48,50,49,50,50,50,51,50,52,50,53,50,54,50,55,50,56,50,57,51,48,51,49,51,50,51,51,51,52,51,53,51,54,51,55,51,56,51,57,52,48,52,49,52,50,52,51,52,52,52,53,52,54,52,55,52,56,52,57,53,48,53,49,53,50,53,51,53,52,53,53,53,54,53,55,53,56,53,57,54,48,54,49,54,50,54,51,54,52,54,53,54,54,54,55,54,56,54,57,55,48,55,49,55,50,55,51,55,52,55,53,55,54,55,55,55,56,55,57,56,48,56,49,56,50,56,51,56,52,56,53,56,54,56,55,56,56,56,57,57,48,57,49,57,50,57,51,57,52,57,53,57,54,57,55,57,56,57,57])) v18) fun v24 =>
 bnd (ixV h 1 t0 v20) fun v25 =>
 stD h 1 v25 v23 fun _ h =>
 bnd (ixV h 1 t0 v21) fun v27 =>
 stD h 1 v27 v24 fun _ h =>
 bnd (biI .sub (ge l5 1) (.d (.int .i64 2))) fun v29 =>
 q9 [v19,v29] h) (
 q9 [(ge l5 0),(ge l5 1)] h)) fun q6 =>
 cnd v4 (
 bnd (biI .rem v3 (.d (.int .u32 10000))) fun v30 =>
 bnd (biI .quo v3 (.d (.int .u32 10000))) fun v31 =>
 bnd (biI .quo v30 (.d (.int .u32 100))) fun v32 =>
 bnd (biI .mul v32 (.d (.int .u32 2))) fun v33 =>
 bnd (biI .rem v30 (.d (.int .u32 100))) fun v34 =>
 bnd (biI .mul v34 (.d (.int .u32 2))) fun v35 =>
 bnd (biI .sub (ge l2 1) (.d (.int .i64 1))) fun v36 =>
 bnd (biI .sub (ge l2 1) (.d (.int .i64 2))) fun v37 =>
 bnd (biI .add v35 (.d (.int .u32 1))) fun v38 =>
 bnd (ixS (.d (.str [48,48,48,49,48,50,48,51,48,52,48,53,48,54,48,55,48,56,48,57,49,48,49,49,49,50,49,51,49,52,49,53,49,54,49,55,49,56,49,57,50,48,50,49,50,50,50,51,50,52,50,53,50,54,50,55,50,56,50,57,51,48,51,49,51,50,51,51,51,52,51,53,51,54,51,55,51,56,51,57,52,48,52,49,52,50,52,51,52,52,52,53,52,54,52,55,52,56,52,57,53,48,53,49,53,50,53,51,53,52,53,53,53,54,53,55,53,56,53,57,54,48,54,49,54,50,54,51,54,52,54,53,54,54,54,55,54,56,54,57,55,48,55,49,55,50,55,51,55,52,55,53,55,54,55,55,55,56,55,57,56,48,56,49,56,50,56,51,56,52,56,53,56,54,56,55,56,56,56,57,57,48,57,49,57,50,57,51,57,52,57,53,57,54,57,55,57,56,57,57])) v38) fun v39 =>
 bnd (ixS (.d (.str [48,48,48,49,48,50,48,51,48,52,48,53,48,54,48,55,48,56,48,57,49,48,49,49,49,50,49,51,49,52,49,53,49,54,49,55,49,56,49,57,50,48,50,49,50,50,50,51,50,52,50,53,50,54,50,55,50,56,50,57,51,48,51,49,51,50,51,51,51,52,51,53,51,54,51,55,51,56,51,57,52,48,52,49,52,50,52,51,52,52,52,53,52,54,52,55,52,56,52,57,53,48,53,49,53,50,53,51,53,52,53,53,53,54,53,55,53,56,53,57,54,48,54,49,54,50,54,51,54,52,54,53,54,54,54,55,54,56,54,57,55,48,55,49,55,50,55,51,55,52,55,53,55,54,55,55,55,56,55,57,56,48,56,49,56,50,56,51,56,52,56,53,56,54,56,55,56,56,56,57,57,48,57,49,57,50,57,51,57,52,57,53,57,54,57,55,57,56,57,57])) v35) fun v40 =>
 bnd (ixV h 1 t0 v36) fun v41 =>
 stD h 1 v41 v39 fun _ h =>
 bnd (ixV h 1 t0 v37) fun v43 =>
 stD h 1 v43 v40 fun _ h =>
 bnd (biI .sub (ge l2 1) (.d (.int .i64 3))) fun v45 =>
 bnd (biI .sub (ge l2 1) (.d (.int .i64 4))) fun v46 =>
 bnd (biI .add v33 (.d (.int .u32 1))) fun v47 =>
 bnd (ixS (.d (.str [48,48,48,49,48,50,48,51,48,52,48,53,48,54,48,55,48,56,48,57,49,48,49,49,49,50,49,51,49,52,49,53,49,54,49,55,49,56,49,57,50,48,50,49,50,50,50,51,50,52,50,53,50,54,50,55,50,56,50,57,51,48,51,49,51,50,51,51,51,52,51,53,51,54,51,55,51,56,51,57,52,48,52,49,52,50,52,51,52,52,52,53,52,54,52,55,52,56,52,57,53,48,53,49,53,50,53,51,53,52,53,53,53,54,53,55,53,56,53,57,54,48,54,49,54,50,54,51,54,52,54,53,54,54,54,55,54,56,54,57,55,48,55,49,55,50,55,51,55,52,55,53,55,54,55,55,55,56,55,57,56,48,56,49,56,50,56,51,56,52,56,53,56,54,56,55,56,56,56,57,57,48,57,49,57,50,57,51,57,52,57,53,57,54,57,55,57,56,57,57])) v47) fun v48 =>
 bnd (ixS (.d (.str [48,48,48,49,48,50,48,51,48,52,48,53,48,54,48,55,48,56,48,57,49,48,49,49,49,50,49,51,49,52,49,53,49,54,49,55,49,56,49,57,50,48,50,49,50,50,50,51,50,52,50,53,50,54,50,55,50,56,50,57,51,48,51,49,51,50,51,51,51,52,51,53,51,54,51,55,51,56,51,57,52,48,52,49,52,50,52,51,52,52,52,53,52,54,52,55,52,56,52,57,53,48,53,49,53,50,53,51,53,52,53,53,53,54,53,55,53,56,53,57,54,48,54,49,54,50,54,51,54,52,54,53,54,54,54,55,54,56,54,57,55,48,55,49,55,50,55,51,55,52,55,53,55,54,55,55,55,56,55,57,56,48,56,49,56,50,56,51,56,52,56,53,56,54,56,55,56,56,56,57,57,48,57,49,57,50,57,51,57,52,57,53,57,54,57,55,57,56,57,57])) v33) fun v49 =>
 bnd (ixV h 1 t0 v45) fun v50 =>
 stD h 1 v50 v48 fun _ h =>
 bnd (ixV h 1 t0 v46) fun v52 =>
 stD h 1 v52 v49 fun _ h =>
 bnd (biI .sub (ge l2 1) (.d (.int .i64 4))) fun v54 =>
 q6 [v31,v54] h) (
 q6 [v3,(ge l2 1)] h))])
def i_strconv_formatBase10_a (b:Nat):Ann:=(.n .x .o (.n .x (.n .x (.n (.l [1,4] [0] [((.exit 0),[1,4],[0])] []) .o .o) .o) (.n .x .o (.n .x (.n .x .o (.n (.j [12,4] [0]) .o .o)) (.n .x (.n .x .o (.n (.j [12,4] [0]) .o .o)) (.n .x .o (.n (.j [] []) .o .o)))))))
theorem i_strconv_formatBase10_e (C:CC) (h:Hp) (t0:V) (t1:V) (q:V→Hp→Prop):fnI Y C Go.Proofs.Tryz.f185 0 i_strconv_formatBase10_a [t0,t1] h q=i_strconv_formatBase10 C h.length h t0 t1 q:=by
 rfl
theorem i_strconv_formatBase10_o (b:Nat):okB Go.Proofs.Tryz.prog Go.Proofs.Tryz.f185 (i_strconv_formatBase10_a b)=true:=by rfl
theorem i_strconv_formatBase10_i {t0 t1 v:V} {h h2:Hp} (hh:i_strconv_formatBase10 (CX Y) h.length h t0 t1 (outI h.length v h2)):CI Y F.i_strconv_formatBase10 [t0,t1] h v h2 :=
 CI.of (fn:=Go.Proofs.Tryz.f185) (m:=0) (a:=i_strconv_formatBase10_a) rfl (fun _=>rfl) Go.Proofs.Tryz.func185 (i_strconv_formatBase10_o _) (by rw [i_strconv_formatBase10_e]; exact hh)
def i_strconv_log10Pow2 (C:CC) (t0:V) (q:V→Hp→Prop):Prop :=
 let h:Hp:=List.replicate 0 (0,.none)
 bnd (biI .mul t0 (.d (.int .i64 78913))) fun v1 =>
 bnd (biI .shr v1 (.d (.int .u64 18))) fun v2 =>
 q v2 h
def i_strconv_log10Pow2_a:Ann:=.o
theorem i_strconv_log10Pow2_e (C:CC) (t0:V) (q:V→Hp→Prop):fnD Y C Go.Proofs.Tryz.f198 0 i_strconv_log10Pow2_a [t0] q=i_strconv_log10Pow2 C t0 q:=by
 rfl
theorem i_strconv_log10Pow2_o:okB Go.Proofs.Tryz.prog Go.Proofs.Tryz.f198 i_strconv_log10Pow2_a=true:=by decide +kernel
theorem i_strconv_log10Pow2_i {t0 v:V} (h:i_strconv_log10Pow2 (CX Y) t0 (out v)):CP Y F.i_strconv_log10Pow2 [t0] v :=
 CP.of (fn:=Go.Proofs.Tryz.f198) (m:=0) (a:=i_strconv_log10Pow2_a) rfl (fun _=>rfl) Go.Proofs.Tryz.func198 i_strconv_log10Pow2_o (by rw [i_strconv_log10Pow2_e]; exact h)
def i_strconv_bool2_int (C:CC) (t0:V) (q:V→Hp→Prop):Prop :=
 let h:Hp:=List.replicate 0 (0,.none)
 cnd t0 (
 q (.d (.int .i64 1)) h) (
 q (.d (.int .i64 0)) h)
def i_strconv_bool2_int_a:Ann:=.o
theorem i_strconv_bool2_int_e (C:CC) (t0:V) (q:V→Hp→Prop):fnD Y C Go.Proofs.Tryz.f199 0 i_strconv_bool2_int_a [t0] q=i_strconv_bool2_int C t0 q:=by
 rfl
theorem i_strconv_bool2_int_o:okB Go.Proofs.Tryz.prog Go.Proofs.Tryz.f199 i_strconv_bool2_int_a=true:=by decide +kernel
theorem i_strconv_bool2_int_i {t0 v:V} (h:i_strconv_bool2_int (CX Y) t0 (out v)):CP Y F.i_strconv_bool2_int [t0] v :=
 CP.of (fn:=Go.Proofs.Tryz.f199) (m:=0) (a:=i_strconv_bool2_int_a) rfl (fun _=>rfl) Go.Proofs.Tryz.func199 i_strconv_bool2_int_o (by rw [i_strconv_bool2_int_e]; exact h)
def math_bits_Len64 (C:CC) (t0:V) (q:V→Hp→Prop):Prop :=
 let h:Hp:=List.replicate 0 (0,.none)
 bnd (biI .geq t0 (.d (.int .u64 4294967296))) fun v1 =>
 jn (fun l2 h =>
 bnd (biI .geq (ge l2 0) (.d (.int .u64 65536))) fun v4 =>
 jn (fun l5 h =>
 bnd (biI .geq (ge l5 0) (.d (.int .u64 256))) fun v7 =>
 jn (fun l8 h =>
 bnd (cvI .u8 (ge l8 0)) fun v10 =>
 bnd (ixS (.d (.str [0,1,2,2,3,3,3,3,4,4,4,4,4,4,4,4,5,5,5,5,5,5,5,5,5,5,5,5,5,5,5,5,6,6,6,6,6,6,6,6,6,6,6,6,6,6,6,6,6,6,6,6,6,6,6,6,6,6,6,6,6,6,6,6,7,7,7,7,7,7,7,7,7,7,7,7,7,7,7,7,7,7,7,7,7,7,7,7,7,7,7,7,7,7,7,7,7,7,7,7,7,7,7,7,7,7,7,7,7,7,7,7,7,7,7,7,7,7,7,7,7,7,7,7,7,7,7,7,8,8,8,8,8,8,8,8,8,8,8,8,8,8,8,8,8,8,8,8,8,8,8,8,8,8,8,8,8,8,8,8,8,8,8,8,8,8,8,8,8,8,8,8,8,8,8,8,8,8,8,8,8,8,8,8,8,8,8,8,8,8,8,8,8,8,8,8,8,8,8,8,8,8,8,8,8,8,8,8,8,8,8,8,8,8,8,8,8,8,8,8,8,8,8,8,8,8,8,8,8,8,8,8,8,8,8,8,8,8,8,8,8,8,8,8,8,8,8,8,8,8,8,8,8,8,8,8])) v10) fun v11 =>
 bnd (cvI .i64 v11) fun v12 =>
 bnd (biI .add (ge l8 1) v12) fun v13 =>
 q v13 h) fun q9 =>
 cnd v7 (
 bnd (biI .shr (ge l5 0) (.d (.int .u64 8))) fun v14 =>
 bnd (biI .add (ge l5 1) (.d (.int .i64 8))) fun v15 =>
 q9 [v14,v15] h) (
 q9 [(ge l5 0),(ge l5 1)] h)) fun q6 =>
 cnd v4 (
 bnd (biI .shr (ge l2 0) (.d (.int .u64 16))) fun v16 =>
 bnd (biI .add (ge l2 1) (.d (.int .i64 16))) fun v17 =>
 q6 [v16,v17] h) (
 q6 [(ge l2 0),(ge l2 1)] h)) fun q3 =>
 cnd v1 (
 bnd (biI .shr t0 (.d (.int .u64 32))) fun v18 =>
 q3 [v18,(.d (.int .i64 32))] h) (
 q3 [t0,(.d (.int .i64 0))] h)
def math_bits_Len64_a:Ann:=(.n .x .o (.n .x (.n .x .o (.n (.j [0,2] []) .o .o)) (.n .x (.n .x .o (.n (.j [0,2] []) .o .o)) (.n .x (.n .x .o (.n (.j [0,2] []) .o .o)) .o))))
theorem math_bits_Len64_e (C:CC) (t0:V) (q:V→Hp→Prop):fnD Y C Go.Proofs.Tryz.f141 0 math_bits_Len64_a [t0] q=math_bits_Len64 C t0 q:=by
 rfl
theorem math_bits_Len64_o:okB Go.Proofs.Tryz.prog Go.Proofs.Tryz.f141 math_bits_Len64_a=true:=by decide +kernel
theorem math_bits_Len64_i {t0 v:V} (h:math_bits_Len64 (CX Y) t0 (out v)):CP Y F.math_bits_Len64 [t0] v :=
 CP.of (fn:=Go.Proofs.Tryz.f141) (m:=0) (a:=math_bits_Len64_a) rfl (fun _=>rfl) Go.Proofs.Tryz.func141 math_bits_Len64_o (by rw [math_bits_Len64_e]; exact h)
def strings_HasPrefix (C:CC) (t0:V) (t1:V) (q:V→Hp→Prop):Prop :=
 let h:Hp:=List.replicate 0 (0,.none)
 cal C.p h (.fn F.i_stringslite_HasPrefix [] []) [t0,t1] fun v1 h =>
 q v1 h
def strings_HasPrefix_a:Ann:=.o
theorem strings_HasPrefix_e (C:CC) (t0:V) (t1:V) (q:V→Hp→Prop):fnD Y C Go.Proofs.Tryz.f86 0 strings_HasPrefix_a [t0,t1] q=strings_HasPrefix C t0 t1 q:=by
 rfl
theorem strings_HasPrefix_o:okB Go.Proofs.Tryz.prog Go.Proofs.Tryz.f86 strings_HasPrefix_a=true:=by decide +kernel
theorem strings_HasPrefix_i {t0 t1 v:V} (h:strings_HasPrefix (CX Y) t0 t1 (out v)):CP Y F.strings_HasPrefix [t0,t1] v :=
 CP.of (fn:=Go.Proofs.Tryz.f86) (m:=0) (a:=strings_HasPrefix_a) rfl (fun _=>rfl) Go.Proofs.Tryz.func86 strings_HasPrefix_o (by rw [strings_HasPrefix_e]; exact h)
def i_stringslite_HasPrefix (C:CC) (t0:V) (t1:V) (q:V→Hp→Prop):Prop :=
 let h:Hp:=List.replicate 0 (0,.none)
 bnd (lenS t0) fun v1 =>
 bnd (lenS t1) fun v2 =>
 bnd (biI .geq v1 v2) fun v3 =>
 gd v3 true h (fun q=>q t0 h) fun v4 h =>
 gd v3 true h (fun q=>q t1 h) fun v5 h =>
 gd v3 true h (fun q=>bnd (lenS v5) fun v=>q v h) fun v6 h =>
 gd v3 true h (fun q=>bnd (slS v4 none (some v6)) fun v=>q v h) fun v7 h =>
 gd v3 true h (fun q=>q t1 h) fun v8 h =>
 gd v3 true h (fun q=>bnd (biS .eql v7 v8) fun v=>q v h) fun v9 h =>
 bnd (pickV v3 v9 (.d (.bool false))) fun v10 =>
 q v10 h
def i_stringslite_HasPrefix_a:Ann:=.o
theorem i_stringslite_HasPrefix_e (C:CC) (t0:V) (t1:V) (q:V→Hp→Prop):fnD Y C Go.Proofs.Tryz.f126 0 i_stringslite_HasPrefix_a [t0,t1] q=i_stringslite_HasPrefix C t0 t1 q:=by
 rfl
theorem i_stringslite_HasPrefix_o:okB Go.Proofs.Tryz.prog Go.Proofs.Tryz.f126 i_stringslite_HasPrefix_a=true:=by decide +kernel
theorem i_stringslite_HasPrefix_i {t0 t1 v:V} (h:i_stringslite_HasPrefix (CX Y) t0 t1 (out v)):CP Y F.i_stringslite_HasPrefix [t0,t1] v :=
 CP.of (fn:=Go.Proofs.Tryz.f126) (m:=0) (a:=i_stringslite_HasPrefix_a) rfl (fun _=>rfl) Go.Proofs.Tryz.func126 i_stringslite_HasPrefix_o (by rw [i_stringslite_HasPrefix_e]; exact h)
def strings_TrimPrefix (C:CC) (t0:V) (t1:V) (q:V→Hp→Prop):Prop :=
 let h:Hp:=List.replicate 0 (0,.none)
 cal C.p h (.fn F.i_stringslite_TrimPrefix [] []) [t0,t1] fun v1 h =>
 q v1 h
def strings_TrimPrefix_a:Ann:=.o
theorem strings_TrimPrefix_e (C:CC) (t0:V) (t1:V) (q:V→Hp→Prop):fnD Y C Go.Proofs.Tryz.f133 0 strings_TrimPrefix_a [t0,t1] q=strings_TrimPrefix C t0 t1 q:=by
 rfl
theorem strings_TrimPrefix_o:okB Go.Proofs.Tryz.prog Go.Proofs.Tryz.f133 strings_TrimPrefix_a=true:=by decide +kernel
theorem strings_TrimPrefix_i {t0 t1 v:V} (h:strings_TrimPrefix (CX Y) t0 t1 (out v)):CP Y F.strings_TrimPrefix [t0,t1] v :=
 CP.of (fn:=Go.Proofs.Tryz.f133) (m:=0) (a:=strings_TrimPrefix_a) rfl (fun _=>rfl) Go.Proofs.Tryz.func133 strings_TrimPrefix_o (by rw [strings_TrimPrefix_e]; exact h)
def i_stringslite_TrimPrefix (C:CC) (t0:V) (t1:V) (q:V→Hp→Prop):Prop :=
 let h:Hp:=List.replicate 0 (0,.none)
 cal C.p h (.fn F.i_stringslite_HasPrefix [] []) [t0,t1] fun v1 h =>
 cnd v1 (
 bnd (lenS t1) fun v2 =>
 bnd (slS t0 (some v2) none) fun v3 =>
 q v3 h) (
 q t0 h)
def i_stringslite_TrimPrefix_a:Ann:=.o
theorem i_stringslite_TrimPrefix_e (C:CC) (t0:V) (t1:V) (q:V→Hp→Prop):fnD Y C Go.Proofs.Tryz.f164 0 i_stringslite_TrimPrefix_a [t0,t1] q=i_stringslite_TrimPrefix C t0 t1 q:=by
 rfl
theorem i_stringslite_TrimPrefix_o:okB Go.Proofs.Tryz.prog Go.Proofs.Tryz.f164 i_stringslite_TrimPrefix_a=true:=by decide +kernel
theorem i_stringslite_TrimPrefix_i {t0 t1 v:V} (h:i_stringslite_TrimPrefix (CX Y) t0 t1 (out v)):CP Y F.i_stringslite_TrimPrefix [t0,t1] v :=
 CP.of (fn:=Go.Proofs.Tryz.f164) (m:=0) (a:=i_stringslite_TrimPrefix_a) rfl (fun _=>rfl) Go.Proofs.Tryz.func164 i_stringslite_TrimPrefix_o (by rw [i_stringslite_TrimPrefix_e]; exact h)
def math_bits_Mul (C:CC) (t0:V) (t1:V) (q:V→Hp→Prop):Prop :=
 let h:Hp:=List.replicate 0 (0,.none)
 cnd (.d (.bool false)) (
 bnd (cvI .u32 t0) fun v1 =>
 bnd (cvI .u32 t1) fun v2 =>
 cal C.p h (.fn F.math_bits_Mul32 [] []) [v1,v2] fun v3 h =>
 ext v3 0 fun v4 =>
 ext v3 1 fun v5 =>
 bnd (cvI .u64 v4) fun v6 =>
 bnd (cvI .u64 v5) fun v7 =>
 q (.tup [v6,v7]) h) (
 cal C.p h (.fn F.math_bits_Mul64 [] []) [t0,t1] fun v8 h =>
 ext v8 0 fun v9 =>
 ext v8 1 fun v10 =>
 q (.tup [v9,v10]) h)
def math_bits_Mul_a:Ann:=.o
theorem math_bits_Mul_e (C:CC) (t0:V) (t1:V) (q:V→Hp→Prop):fnD Y C Go.Proofs.Tryz.f121 0 math_bits_Mul_a [t0,t1] q=math_bits_Mul C t0 t1 q:=by
 rfl
theorem math_bits_Mul_o:okB Go.Proofs.Tryz.prog Go.Proofs.Tryz.f121 math_bits_Mul_a=true:=by decide +kernel
theorem math_bits_Mul_i {t0 t1 v:V} (h:math_bits_Mul (CX Y) t0 t1 (out v)):CP Y F.math_bits_Mul [t0,t1] v :=
 CP.of (fn:=Go.Proofs.Tryz.f121) (m:=0) (a:=math_bits_Mul_a) rfl (fun _=>rfl) Go.Proofs.Tryz.func121 math_bits_Mul_o (by rw [math_bits_Mul_e]; exact h)
def math_bits_Mul64 (C:CC) (t0:V) (t1:V) (q:V→Hp→Prop):Prop :=
 let h:Hp:=List.replicate 0 (0,.none)
 bnd (biI .and t0 (.d (.int .u64 4294967295))) fun v1 =>
 bnd (biI .shr t0 (.d (.int .u64 32))) fun v2 =>
 bnd (biI .and t1 (.d (.int .u64 4294967295))) fun v3 =>
 bnd (biI .shr t1 (.d (.int .u64 32))) fun v4 =>
 bnd (biI .mul v1 v3) fun v5 =>
 bnd (biI .mul v2 v3) fun v6 =>
 bnd (biI .shr v5 (.d (.int .u64 32))) fun v7 =>
 bnd (biI .add v6 v7) fun v8 =>
 bnd (biI .and v8 (.d (.int .u64 4294967295))) fun v9 =>
 bnd (biI .shr v8 (.d (.int .u64 32))) fun v10 =>
 bnd (biI .mul v1 v4) fun v11 =>
 bnd (biI .add v9 v11) fun v12 =>
 bnd (biI .mul v2 v4) fun v13 =>
 bnd (biI .add v13 v10) fun v14 =>
 bnd (biI .shr v12 (.d (.int .u64 32))) fun v15 =>
 bnd (biI .add v14 v15) fun v16 =>
 bnd (biI .mul t0 t1) fun v17 =>
 q (.tup [v16,v17]) h
def math_bits_Mul64_a:Ann:=.o
theorem math_bits_Mul64_e (C:CC) (t0:V) (t1:V) (q:V→Hp→Prop):fnD Y C Go.Proofs.Tryz.f152 0 math_bits_Mul64_a [t0,t1] q=math_bits_Mul64 C t0 t1 q:=by
 rfl
theorem math_bits_Mul64_o:okB Go.Proofs.Tryz.prog Go.Proofs.Tryz.f152 math_bits_Mul64_a=true:=by decide +kernel
theorem math_bits_Mul64_i {t0 t1 v:V} (h:math_bits_Mul64 (CX Y) t0 t1 (out v)):CP Y F.math_bits_Mul64 [t0,t1] v :=
 CP.of (fn:=Go.Proofs.Tryz.f152) (m:=0) (a:=math_bits_Mul64_a) rfl (fun _=>rfl) Go.Proofs.Tryz.func152 math_bits_Mul64_o (by rw [math_bits_Mul64_e]; exact h)
def strconv_Atoi (C:CC) (t0:V) (q:V→Hp→Prop):Prop :=
 let h:Hp:=List.replicate 0 (0,.none)
 cal C.p h (.fn F.i_strconv_Atoi [] []) [t0] fun v1 h =>
 ext v1 0 fun v2 =>
 ext v1 1 fun v3 =>
 bnd (biF .neq v3 (.d (.pl .nilIface))) fun v4 =>
 cnd v4 (
 cal C.p h (.fn F.strconv_toError [] []) [(.d (.str [65,116,111,105])),t0,(.d (.int .i64 0)),(.d (.int .i64 0)),v3] fun v5 h =>
 q (.tup [v2,v5]) h) (
 q (.tup [v2,(.d (.pl .nilIface))]) h)
def strconv_Atoi_a:Ann:=.o
theorem strconv_Atoi_e (C:CC) (t0:V) (q:V→Hp→Prop):fnD Y C Go.Proofs.Tryz.f87 0 strconv_Atoi_a [t0] q=strconv_Atoi C t0 q:=by
 rfl
theorem strconv_Atoi_o:okB Go.Proofs.Tryz.prog Go.Proofs.Tryz.f87 strconv_Atoi_a=true:=by decide +kernel
theorem strconv_Atoi_i {t0 v:V} (h:strconv_Atoi (CX Y) t0 (out v)):CP Y F.strconv_Atoi [t0] v :=
 CP.of (fn:=Go.Proofs.Tryz.f87) (m:=0) (a:=strconv_Atoi_a) rfl (fun _=>rfl) Go.Proofs.Tryz.func87 strconv_Atoi_o (by rw [strconv_Atoi_e]; exact h)
def i_strconv_Atoi_l0 (C:CC) (p47:V) (p48:V):StepT:=fun l h q =>
 bnd (biI .lss (ge l 1) p48) fun v1 =>
 cnd v1 (
 bnd (ixV h 1 p47 (ge l 1)) fun v2 =>
 bnd (ld1 h v2) fun v3 =>
 bnd (biI .sub v3 (.d (.int .u8 48))) fun v4 =>
 bnd (biI .gtr v4 (.d (.int .u8 9))) fun v5 =>
 cnd v5 (
 False /- makeInterface -/) (
 bnd (biI .mul (ge l 0) (.d (.int .i64 10))) fun v6 =>
 bnd (cvI .i64 v4) fun v7 =>
 bnd (biI .add v6 v7) fun v8 =>
 bnd (biI .add (ge l 1) (.d (.int .i64 1))) fun v9 =>
 q .normal [v8,v9] h)) (
 q (.exit 0) [(ge l 0)] h)
def i_strconv_Atoi (C:CC) (t0:V) (q:V→Hp→Prop):Prop :=
 let h:Hp:=List.replicate 0 (0,.none)
 bnd (lenS t0) fun v1 =>
 gd (.d (.bool false)) true h (fun q=>q v1 h) fun v2 h =>
 gd (.d (.bool false)) true h (fun q=>bnd (biI .lss (.d (.int .i64 0)) v2) fun v=>q v h) fun v3 h =>
 gd (.d (.bool false)) true h (fun q=>q v3 h) fun v4 h =>
 gd v4 true h (fun q=>q v1 h) fun v5 h =>
 gd v4 true h (fun q=>bnd (biI .lss v5 (.d (.int .i64 10))) fun v=>q v h) fun v6 h =>
 gd (.d (.bool false)) true h (fun q=>bnd (pickV v4 v6 (.d (.bool false))) fun v=>q v h) fun v7 h =>
 bnd (pickV (.d (.bool false)) v7 (.d (.bool false))) fun v8 =>
 gd v8 false h (fun q=>q (.d (.bool true)) h) fun v9 h =>
 gd v9 true h (fun q=>q v1 h) fun v10 h =>
 gd v9 true h (fun q=>bnd (biI .lss (.d (.int .i64 0)) v10) fun v=>q v h) fun v11 h =>
 gd v9 true h (fun q=>q v11 h) fun v12 h =>
 gd v12 true h (fun q=>q v1 h) fun v13 h =>
 gd v12 true h (fun q=>bnd (biI .lss v13 (.d (.int .i64 19))) fun v=>q v h) fun v14 h =>
 gd v9 true h (fun q=>bnd (pickV v12 v14 (.d (.bool false))) fun v=>q v h) fun v15 h =>
 gd v8 false h (fun q=>bnd (pickV v9 v15 (.d (.bool false))) fun v=>q v h) fun v16 h =>
 bnd (pickV v8 (.d (.bool true)) v16) fun v17 =>
 cnd v17 (
 bnd (ixS t0 (.d (.int .i64 0))) fun v18 =>
 bnd (biI .eql v18 (.d (.int .u8 45))) fun v19 =>
 gd v19 false h (fun q=>q t0 h) fun v20 h =>
 gd v19 false h (fun q=>bnd (ixS v20 (.d (.int .i64 0))) fun v=>q v h) fun v21 h =>
 gd v19 false h (fun q=>bnd (biI .eql v21 (.d (.int .u8 43))) fun v=>q v h) fun v22 h =>
 bnd (pickV v19 (.d (.bool true)) v22) fun v23 =>
 jn (fun l24 h =>
 cvB (ge l24 0) h fun v26 h =>
 bnd (lenV v26) fun v27 =>
 lp (i_strconv_Atoi_l0 C v26 v27) [] h [(.d (.int .i64 0)),(.d (.int .i64 0))] h (exK [((.exit 0),fun l28 h =>
 bnd (ixS t0 (.d (.int .i64 0))) fun v29 =>
 bnd (biI .eql v29 (.d (.int .u8 45))) fun v30 =>
 jn (fun l31 h =>
 q (.tup [(ge l31 0),(.d (.pl .nilIface))]) h) fun q32 =>
 cnd v30 (
 bnd (unV .neg (ge l28 0)) fun v33 =>
 q32 [v33] h) (
 q32 [(ge l28 0)] h)),
 (.ret,fun l28 h =>
 q (.tup [(ge l28 0),(ge l28 1)]) h)])) fun q25 =>
 cnd v23 (
 bnd (slS t0 (some (.d (.int .i64 1))) none) fun v34 =>
 bnd (lenS v34) fun v35 =>
 bnd (biI .lss v35 (.d (.int .i64 1))) fun v36 =>
 cnd v36 (
 False /- makeInterface -/) (
 q25 [v34] h)) (
 q25 [t0] h)) (
 cal C.p h (.fn F.i_strconv_ParseInt [] []) [t0,(.d (.int .i64 10)),(.d (.int .i64 0))] fun v37 h =>
 ext v37 0 fun v38 =>
 ext v37 1 fun v39 =>
 q (.tup [v38,v39]) h)
def i_strconv_Atoi_a:Ann:=(.n .x .o (.n .x .o (.n .x (.n .x .o (.n .x (.n .x .o (.n .x (.n .x .o (.n (.j [0] [5]) .o .o)) (.n .x .o (.n .x (.n .x .o (.n .x (.n (.l [6,49] [5,47,48] [((.exit 0),[6],[5]),(.ret,[2,3],[])] []) .o .o) .o)) (.n .x (.n .x .o (.n (.j [6] []) .o .o)) .o))))) .o)) .o)))
theorem i_strconv_Atoi_e (C:CC) (t0:V) (q:V→Hp→Prop):fnD Y C Go.Proofs.Tryz.f127 0 i_strconv_Atoi_a [t0] q=i_strconv_Atoi C t0 q:=by
 rfl
theorem i_strconv_Atoi_o:okB Go.Proofs.Tryz.prog Go.Proofs.Tryz.f127 i_strconv_Atoi_a=true:=by decide +kernel
theorem i_strconv_Atoi_i {t0 v:V} (h:i_strconv_Atoi (CX Y) t0 (out v)):CP Y F.i_strconv_Atoi [t0] v :=
 CP.of (fn:=Go.Proofs.Tryz.f127) (m:=0) (a:=i_strconv_Atoi_a) rfl (fun _=>rfl) Go.Proofs.Tryz.func127 i_strconv_Atoi_o (by rw [i_strconv_Atoi_e]; exact h)
end Go.Vm
set_option maxRecDepth 100000
set_option maxHeartbeats 4000000
namespace Go.Vm
open Go Go.Am
def strings_Repeat_l0 (C:CC) (p7:V) (p8:V) (p9:V):StepT:=fun l h q =>
 cal C.p h (.fn F.strings_Builder_Len [] []) [p9] fun v1 h =>
 bnd (biI .lss v1 p7) fun v2 =>
 cnd v2 (
 cal C.p h (.fn F.strings_Builder_Len [] []) [p9] fun v3 h =>
 bnd (biI .sub p7 v3) fun v4 =>
 cal C.p h (.fn F.strings_Builder_Len [] []) [p9] fun v5 h =>
 bnd (mxI false [v4,v5,p8]) fun v6 =>
 cal C.p h (.fn F.strings_Builder_String [] []) [p9] fun v7 h =>
 bnd (slS v7 none (some v6)) fun v8 =>
 cal C.p h (.fn F.strings_Builder_WriteString [] []) [p9,v8] fun v9 h =>
 q .normal [] h) (
 q (.exit 3) [] h)
def strings_Repeat (C:CC) (t0:V) (t1:V) (q:V→Hp→Prop):Prop :=
 let h:Hp:=List.replicate 1 (0,.none)
 bnd (biI .eql t1 (.d (.int .i64 0))) fun v1 =>
 cnd v1 (
 q (.d (.str [])) h) (
 bnd (biI .eql t1 (.d (.int .i64 1))) fun v2 =>
 cnd v2 (
 q t0 h) (
 bnd (biI .lss t1 (.d (.int .i64 0))) fun v3 =>
 jn (fun l4 h =>
 bnd (lenS t0) fun v6 =>
 bnd (cvI .u64 v6) fun v7 =>
 bnd (cvI .u64 t1) fun v8 =>
 cal C.p h (.fn F.math_bits_Mul [] []) [v7,v8] fun v9 h =>
 ext v9 0 fun v10 =>
 ext v9 1 fun v11 =>
 bnd (biI .gtr v10 (.d (.int .u64 0))) fun v12 =>
 gd v12 false h (fun q=>q v11 h) fun v13 h =>
 gd v12 false h (fun q=>bnd (biI .gtr v13 (.d (.int .u64 9223372036854775807))) fun v=>q v h) fun v14 h =>
 bnd (pickV v12 (.d (.bool true)) v14) fun v15 =>
 jn (fun l16 h =>
 bnd (cvI .i64 v11) fun v18 =>
 bnd (lenS t0) fun v19 =>
 bnd (biI .eql v19 (.d (.int .i64 0))) fun v20 =>
 cnd v20 (
 q (.d (.str [])) h) (
 bnd (ixS t0 (.d (.int .i64 0))) fun v21 =>
 jn (fun l22 h =>
 bnd (biI .gtr v18 (.d (.int .i64 8192))) fun v24 =>
 jn (fun l25 h =>
 alV 0 [.d (.pl (.pointer none)),.d (.pl (.slice none 0 0))] h fun v27 h =>
 cal C.p h (.fn F.strings_Builder_Grow [] []) [v27,v18] fun v28 h =>
 cal C.p h (.fn F.strings_Builder_WriteString [] []) [v27,t0] fun v29 h =>
 lp (strings_Repeat_l0 C v18 (ge l25 0) v27) [] h [] h (exK [((.exit 3),fun l30 h =>
 cal C.p h (.fn F.strings_Builder_String [] []) [v27] fun v31 h =>
 q v31 h)])) fun q26 =>
 cnd v24 (
 bnd (lenS t0) fun v32 =>
 bnd (biI .quo (.d (.int .i64 8192)) v32) fun v33 =>
 bnd (lenS t0) fun v34 =>
 bnd (biI .mul v33 v34) fun v35 =>
 bnd (biI .eql v35 (.d (.int .i64 0))) fun v36 =>
 jn (fun l37 h =>
 q26 [(ge l37 0)] h) fun q38 =>
 cnd v36 (
 bnd (lenS t0) fun v39 =>
 q38 [v39] h) (
 q38 [v35] h)) (
 q26 [v18] h)) fun q23 =>
 bnd (biI .eql v21 (.d (.int .u8 32))) fun v40 =>
 jn (fun l41 h =>
 jn (fun l43 h =>
 q23 [] h) fun q44 =>
 cnd (ge l41 0) (
 bnd (biI .leq v18 (.d (.int .i64 128))) fun v45 =>
 gd v45 true h (fun q=>q t0 h) fun v46 h =>
 gd v45 true h (fun q=>cal C.p h (.fn F.strings_HasPrefix [] []) [(.d (.str [32,32,32,32,32,32,32,32,32,32,32,32,32,32,32,32,32,32,32,32,32,32,32,32,32,32,32,32,32,32,32,32,32,32,32,32,32,32,32,32,32,32,32,32,32,32,32,32,32,32,32,32,32,32,32,32,32,32,32,32,32,32,32,32,32,32,32,32,32,32,32,32,32,32,32,32,32,32,32,32,32,32,32,32,32,32,32,32,32,32,32,32,32,32,32,32,32,32,32,32,32,32,32,32,32,32,32,32,32,32,32,32,32,32,32,32,32,32,32,32,32,32,32,32,32,32,32,32])),v46] q) fun v47 h =>
 bnd (pickV v45 v47 (.d (.bool false))) fun v48 =>
 cnd v48 (
 bnd (slS (.d (.str [32,32,32,32,32,32,32,32,32,32,32,32,32,32,32,32,32,32,32,32,32,32,32,32,32,32,32,32,32,32,32,32,32,32,32,32,32,32,32,32,32,32,32,32,32,32,32,32,32,32,32,32,32,32,32,32,32,32,32,32,32,32,32,32,32,32,32,32,32,32,32,32,32,32,32,32,32,32,32,32,32,32,32,32,32,32,32,32,32,32,32,32,32,32,32,32,32,32,32,32,32,32,32,32,32,32,32,32,32,32,32,32,32,32,32,32,32,32,32,32,32,32,32,32,32,32,32,32])) none (some v18)) fun v49 =>
 q v49 h) (
 bnd (biI .leq v18 (.d (.int .i64 128))) fun v50 =>
 gd v50 true h (fun q=>q t0 h) fun v51 h =>
 gd v50 true h (fun q=>cal C.p h (.fn F.strings_HasPrefix [] []) [(.d (.str [45,45,45,45,45,45,45,45,45,45,45,45,45,45,45,45,45,45,45,45,45,45,45,45,45,45,45,45,45,45,45,45,45,45,45,45,45,45,45,45,45,45,45,45,45,45,45,45,45,45,45,45,45,45,45,45,45,45,45,45,45,45,45,45,45,45,45,45,45,45,45,45,45,45,45,45,45,45,45,45,45,45,45,45,45,45,45,45,45,45,45,45,45,45,45,45,45,45,45,45,45,45,45,45,45,45,45,45,45,45,45,45,45,45,45,45,45,45,45,45,45,45,45,45,45,45,45,45])),v51] q) fun v52 h =>
 bnd (pickV v50 v52 (.d (.bool false))) fun v53 =>
 cnd v53 (
 bnd (slS (.d (.str [45,45,45,45,45,45,45,45,45,45,45,45,45,45,45,45,45,45,45,45,45,45,45,45,45,45,45,45,45,45,45,45,45,45,45,45,45,45,45,45,45,45,45,45,45,45,45,45,45,45,45,45,45,45,45,45,45,45,45,45,45,45,45,45,45,45,45,45,45,45,45,45,45,45,45,45,45,45,45,45,45,45,45,45,45,45,45,45,45,45,45,45,45,45,45,45,45,45,45,45,45,45,45,45,45,45,45,45,45,45,45,45,45,45,45,45,45,45,45,45,45,45,45,45,45,45,45,45])) none (some v18)) fun v54 =>
 q v54 h) (
 bnd (biI .leq v18 (.d (.int .i64 64))) fun v55 =>
 gd v55 true h (fun q=>q t0 h) fun v56 h =>
 gd v55 true h (fun q=>cal C.p h (.fn F.strings_HasPrefix [] []) [(.d (.str [48,48,48,48,48,48,48,48,48,48,48,48,48,48,48,48,48,48,48,48,48,48,48,48,48,48,48,48,48,48,48,48,48,48,48,48,48,48,48,48,48,48,48,48,48,48,48,48,48,48,48,48,48,48,48,48,48,48,48,48,48,48,48,48])),v56] q) fun v57 h =>
 bnd (pickV v55 v57 (.d (.bool false))) fun v58 =>
 cnd v58 (
 bnd (slS (.d (.str [48,48,48,48,48,48,48,48,48,48,48,48,48,48,48,48,48,48,48,48,48,48,48,48,48,48,48,48,48,48,48,48,48,48,48,48,48,48,48,48,48,48,48,48,48,48,48,48,48,48,48,48,48,48,48,48,48,48,48,48,48,48,48,48])) none (some v18)) fun v59 =>
 q v59 h) (
 bnd (biI .leq v18 (.d (.int .i64 128))) fun v60 =>
 gd v60 true h (fun q=>q t0 h) fun v61 h =>
 gd v60 true h (fun q=>cal C.p h (.fn F.strings_HasPrefix [] []) [(.d (.str [61,61,61,61,61,61,61,61,61,61,61,61,61,61,61,61,61,61,61,61,61,61,61,61,61,61,61,61,61,61,61,61,61,61,61,61,61,61,61,61,61,61,61,61,61,61,61,61,61,61,61,61,61,61,61,61,61,61,61,61,61,61,61,61,61,61,61,61,61,61,61,61,61,61,61,61,61,61,61,61,61,61,61,61,61,61,61,61,61,61,61,61,61,61,61,61,61,61,61,61,61,61,61,61,61,61,61,61,61,61,61,61,61,61,61,61,61,61,61,61,61,61,61,61,61,61,61,61])),v61] q) fun v62 h =>
 bnd (pickV v60 v62 (.d (.bool false))) fun v63 =>
 cnd v63 (
 bnd (slS (.d (.str [61,61,61,61,61,61,61,61,61,61,61,61,61,61,61,61,61,61,61,61,61,61,61,61,61,61,61,61,61,61,61,61,61,61,61,61,61,61,61,61,61,61,61,61,61,61,61,61,61,61,61,61,61,61,61,61,61,61,61,61,61,61,61,61,61,61,61,61,61,61,61,61,61,61,61,61,61,61,61,61,61,61,61,61,61,61,61,61,61,61,61,61,61,61,61,61,61,61,61,61,61,61,61,61,61,61,61,61,61,61,61,61,61,61,61,61,61,61,61,61,61,61,61,61,61,61,61,61])) none (some v18)) fun v64 =>
 q v64 h) (
 bnd (biI .leq v18 (.d (.int .i64 64))) fun v65 =>
 gd v65 true h (fun q=>q t0 h) fun v66 h =>
 gd v65 true h (fun q=>cal C.p h (.fn F.strings_HasPrefix [] []) [(.d (.str [9,9,9,9,9,9,9,9,9,9,9,9,9,9,9,9,9,9,9,9,9,9,9,9,9,9,9,9,9,9,9,9,9,9,9,9,9,9,9,9,9,9,9,9,9,9,9,9,9,9,9,9,9,9,9,9,9,9,9,9,9,9,9,9])),v66] q) fun v67 h =>
 bnd (pickV v65 v67 (.d (.bool false))) fun v68 =>
 cnd v68 (
 bnd (slS (.d (.str [9,9,9,9,9,9,9,9,9,9,9,9,9,9,9,9,9,9,9,9,9,9,9,9,9,9,9,9,9,9,9,9,9,9,9,9,9,9,9,9,9,9,9,9,9,9,9,9,9,9,9,9,9,9,9,9,9,9,9,9,9,9,9,9])) none (some v18)) fun v69 =>
 q v69 h) (
 q44 [] h)))))) (
 q44 [] h)) fun q42 =>
 cnd v40 (
 q42 [v40] h) (
 bnd (biI .eql v21 (.d (.int .u8 45))) fun v70 =>
 jn (fun l71 h =>
 q42 [(ge l71 0)] h) fun q72 =>
 cnd v70 (
 q72 [v70] h) (
 bnd (biI .eql v21 (.d (.int .u8 48))) fun v73 =>
 jn (fun l74 h =>
 q72 [(ge l74 0)] h) fun q75 =>
 cnd v73 (
 q75 [v73] h) (
 bnd (biI .eql v21 (.d (.int .u8 61))) fun v76 =>
 jn (fun l77 h =>
 q75 [(ge l77 0)] h) fun q78 =>
 cnd v76 (
 q78 [v76] h) (
 bnd (biI .eql v21 (.d (.int .u8 9))) fun v79 =>
 q78 [v79] h)))))) fun q17 =>
 cnd v15 (
 False /- makeInterface -/) (
 q17 [] h)) fun q5 =>
 cnd v3 (
 False /- makeInterface -/) (
 q5 [] h)))
def strings_Repeat_a:Ann:=(.n .x .o (.n .x .o (.n .x (.n .x .o (.n (.j [] [0,1]) .o .o)) (.n .x .o (.n .x (.n .x .o (.n (.j [] [0,6]) .o .o)) (.n .x .o (.n .x .o (.n .x (.n .x .o (.n (.j [] [0,7]) (.n .x (.n .x .o (.n (.j [43] [0,7]) .o (.n .x .o (.n (.j [43] [0,7]) .o (.n .x .o (.n (.j [43] [0,7]) .o (.n .x .o (.n (.j [43] [0,7]) .o .o)))))))) (.n (.j [] [0,7]) .o .o)) .o)) (.n .x .o (.n .x (.n .x .o (.n (.j [8] [0,7]) (.n .x .o (.n .x .o (.n (.j [8] [0,7]) .o .o))) .o)) (.n .x (.n (.r [.slot 0]) .o .o) (.n .x .o (.n .x .o (.n .x (.n .x (.n (.l [] [7,8,9] [((.exit 3),[],[9])] []) .o .o) .o) .o))))))))))))))
attribute [local irreducible] bnd gd cal cnd ext lisD lisS stD alV alD boxD jn lp exK mkS apV cai nilD in
theorem strings_Repeat_e (C:CC) (t0:V) (t1:V) (q:V→Hp→Prop):fnD Y C Go.Proofs.Tryz.f85 1 strings_Repeat_a [t0,t1] q=strings_Repeat C t0 t1 q:=by
 repeat' (first | (refine bnd_e rfl fun _=>?_) | (refine gd_e rfl fun _ _=>?_) | (refine cal_e rfl fun _ _=>?_) | (refine cnd_e rfl ?_ ?_) | (refine ext_e rfl fun _=>?_) | (refine lisD_e rfl fun _ _=>?_) | (refine stD_e rfl fun _ _=>?_) | (refine alV_e rfl fun _ _=>?_) | (refine boxD_e rfl fun _ _=>?_) | (refine jn_e rfl (fun _ _=>?_) fun _=>?_) | (refine lp_e rfl (fun _ _ _=>?_) fun _ _ _=>?_) | (refine exK_e rfl (fun _ _=>?_) ?_) | (refine mkS_e rfl fun _ _=>?_) | (refine apV_e rfl fun _ _=>?_) | (refine cai_e rfl fun _ _=>?_) | (refine lisS_e rfl fun _ _=>?_) | (refine alD_e rfl fun _ _=>?_) | (refine nilD_e rfl fun _=>?_) | exact rfl | (refine leaf_e rfl ?_))
theorem strings_Repeat_o:okB Go.Proofs.Tryz.prog Go.Proofs.Tryz.f85 strings_Repeat_a=true:=by decide +kernel
theorem strings_Repeat_i {t0 t1 v:V} (h:strings_Repeat (CX Y) t0 t1 (out v)):CP Y F.strings_Repeat [t0,t1] v :=
 CP.of (fn:=Go.Proofs.Tryz.f85) (m:=1) (a:=strings_Repeat_a) rfl (fun _=>rfl) Go.Proofs.Tryz.func85 strings_Repeat_o (by rw [strings_Repeat_e]; exact h)
end Go.Vm
set_option maxRecDepth 100000
set_option maxHeartbeats 4000000
namespace Go.Vm
open Go Go.Am
def decimal_Canonical_l0 (C:CC) (p6:V) (p7:V):StepT:=fun l h q =>
 bnd (biI .lss (ge l 0) p7) fun v1 =>
 cnd v1 (
 bnd (ixV h 1 p6 (ge l 0)) fun v2 =>
 bnd (ld1 h v2) fun v3 =>
 bnd (biI .lss v3 (.d (.int .u8 48))) fun v4 =>
 gd v4 false h (fun q=>q v3 h) fun v5 h =>
 gd v4 false h (fun q=>bnd (biI .gtr v5 (.d (.int .u8 57))) fun v=>q v h) fun v6 h =>
 bnd (pickV v4 (.d (.bool true)) v6) fun v7 =>
 cnd v7 (
 q .ret [(.d (.bool false))] h) (
 bnd (biI .add (ge l 0) (.d (.int .i64 1))) fun v8 =>
 q .normal [v8] h)) (
 q (.exit 0) [] h)
def decimal_Canonical (C:CC) (t0:V) (q:V→Hp→Prop):Prop :=
 let h:Hp:=List.replicate 0 (0,.none)
 cvB t0 h fun v1 h =>
 bnd (lenV v1) fun v2 =>
 lp (decimal_Canonical_l0 C v1 v2) [] h [(.d (.int .i64 0))] h (exK [((.exit 0),fun l3 h =>
 bnd (lenS t0) fun v4 =>
 bnd (biI .eql v4 (.d (.int .i64 1))) fun v5 =>
 gd v5 false h (fun q=>q t0 h) fun v6 h =>
 gd v5 false h (fun q=>bnd (lenS v6) fun v=>q v h) fun v7 h =>
 gd v5 false h (fun q=>bnd (biI .gtr v7 (.d (.int .i64 1))) fun v=>q v h) fun v8 h =>
 gd v5 false h (fun q=>q v8 h) fun v9 h =>
 gd v9 true h (fun q=>q t0 h) fun v10 h =>
 gd v9 true h (fun q=>bnd (ixS v10 (.d (.int .i64 0))) fun v=>q v h) fun v11 h =>
 gd v9 true h (fun q=>bnd (biI .neq v11 (.d (.int .u8 48))) fun v=>q v h) fun v12 h =>
 gd v5 false h (fun q=>bnd (pickV v9 v12 (.d (.bool false))) fun v=>q v h) fun v13 h =>
 bnd (pickV v5 (.d (.bool true)) v13) fun v14 =>
 q v14 h),
 (.ret,fun l3 h =>
 q (ge l3 0) h)])
def decimal_Canonical_a:Ann:=(.n .x .o (.n .x (.n .x .o (.n .x (.n (.l [8] [0,6,7] [((.exit 0),[],[0]),(.ret,[2],[])] []) .o .o) .o)) .o))
theorem decimal_Canonical_e (C:CC) (t0:V) (q:V→Hp→Prop):fnD Y C Go.Proofs.Tryz.f169 0 decimal_Canonical_a [t0] q=decimal_Canonical C t0 q:=by
 rfl
theorem decimal_Canonical_o:okB Go.Proofs.Tryz.prog Go.Proofs.Tryz.f169 decimal_Canonical_a=true:=by decide +kernel
theorem decimal_Canonical_i {t0 v:V} (h:decimal_Canonical (CX Y) t0 (out v)):CP Y F.decimal_Canonical [t0] v :=
 CP.of (fn:=Go.Proofs.Tryz.f169) (m:=0) (a:=decimal_Canonical_a) rfl (fun _=>rfl) Go.Proofs.Tryz.func169 decimal_Canonical_o (by rw [decimal_Canonical_e]; exact h)
def decimal_Check (C:CC) (t0:V) (q:V→Hp→Prop):Prop :=
 let h:Hp:=List.replicate 0 (0,.none)
 cal C.p h (.fn F.decimal_Canonical [] []) [t0] fun v1 h =>
 bnd (unV .not v1) fun v2 =>
 gd v2 false h (fun q=>q t0 h) fun v3 h =>
 gd v2 false h (fun q=>bnd (lenS v3) fun v=>q v h) fun v4 h =>
 gd v2 false h (fun q=>bnd (biI .gtr v4 (.d (.int .i64 400))) fun v=>q v h) fun v5 h =>
 bnd (pickV v2 (.d (.bool true)) v5) fun v6 =>
 cnd v6 (
 q (.d (.int .i64 2)) h) (
 q (.d (.int .i64 0)) h)
def decimal_Check_a:Ann:=.o
theorem decimal_Check_e (C:CC) (t0:V) (q:V→Hp→Prop):fnD Y C Go.Proofs.Tryz.f139 0 decimal_Check_a [t0] q=decimal_Check C t0 q:=by
 rfl
theorem decimal_Check_o:okB Go.Proofs.Tryz.prog Go.Proofs.Tryz.f139 decimal_Check_a=true:=by decide +kernel
theorem decimal_Check_i {t0 v:V} (h:decimal_Check (CX Y) t0 (out v)):CP Y F.decimal_Check [t0] v :=
 CP.of (fn:=Go.Proofs.Tryz.f139) (m:=0) (a:=decimal_Check_a) rfl (fun _=>rfl) Go.Proofs.Tryz.func139 decimal_Check_o (by rw [decimal_Check_e]; exact h)
def decimal_pieces_trim_l0 (C:CC) (b:Nat):StepT:=fun l h q =>
 bnd (lenV (ge l 0)) fun v1 =>
 bnd (biI .gtr v1 (.d (.int .i64 0))) fun v2 =>
 gd v2 true h (fun q=>q (ge l 0) h) fun v3 h =>
 gd v2 true h (fun q=>q (ge l 0) h) fun v4 h =>
 gd v2 true h (fun q=>bnd (lenV v4) fun v=>q v h) fun v5 h =>
 gd v2 true h (fun q=>bnd (biI .sub v5 (.d (.int .i64 1))) fun v=>q v h) fun v6 h =>
 gd v2 true h (fun q=>bnd (ixV h 1 v3 v6) fun v=>q v h) fun v7 h =>
 gd v2 true h (fun q=>bnd (ld1 h v7) fun v=>q v h) fun v8 h =>
 gd v2 true h (fun q=>bnd (biI .eql v8 (.d (.int .u64 0))) fun v=>q v h) fun v9 h =>
 bnd (pickV v2 v9 (.d (.bool false))) fun v10 =>
 cnd v10 (
 bnd (lenV (ge l 0)) fun v11 =>
 bnd (biI .sub v11 (.d (.int .i64 1))) fun v12 =>
 bnd (slV h 1 (ge l 0) none (some v12)) fun v13 =>
 q .normal [v13] h) (
 q (.exit 0) [(ge l 0)] h)
def decimal_pieces_trim (C:CC) (b:Nat) (h:Hp) (t0:V) (q:V→Hp→Prop):Prop :=
 let h:Hp:=h++List.replicate 0 (0,.none)
 lp (decimal_pieces_trim_l0 C b) [] h [t0] h (exK [((.exit 0),fun l1 h =>
 q (ge l1 0) h)])
def decimal_pieces_trim_a (b:Nat):Ann:=(.n .x .o (.n .x (.n .x (.n (.l [0] [] [((.exit 0),[0],[])] []) .o .o) .o) .o))
theorem decimal_pieces_trim_e (C:CC) (h:Hp) (t0:V) (q:V→Hp→Prop):fnI Y C Go.Proofs.Tryz.f179 0 decimal_pieces_trim_a [t0] h q=decimal_pieces_trim C h.length h t0 q:=by
 rfl
theorem decimal_pieces_trim_o (b:Nat):okB Go.Proofs.Tryz.prog Go.Proofs.Tryz.f179 (decimal_pieces_trim_a b)=true:=by rfl
theorem decimal_pieces_trim_i {t0 v:V} {h h2:Hp} (hh:decimal_pieces_trim (CX Y) h.length h t0 (outI h.length v h2)):CI Y F.decimal_pieces_trim [t0] h v h2 :=
 CI.of (fn:=Go.Proofs.Tryz.f179) (m:=0) (a:=decimal_pieces_trim_a) rfl (fun _=>rfl) Go.Proofs.Tryz.func179 (decimal_pieces_trim_o _) (by rw [decimal_pieces_trim_e]; exact hh)
def decimal_cut_l1 (C:CC) (b:Nat) (p25:V) (p26:V):StepT:=fun l h q =>
 bnd (biI .lss (ge l 1) p26) fun v1 =>
 cnd v1 (
 bnd (ixV h 1 p25 (ge l 1)) fun v2 =>
 bnd (ld1 h v2) fun v3 =>
 bnd (biI .mul (.d (.int .u64 10)) (ge l 0)) fun v4 =>
 bnd (biI .sub v3 (.d (.int .u8 48))) fun v5 =>
 bnd (cvI .u64 v5) fun v6 =>
 bnd (biI .add v4 v6) fun v7 =>
 bnd (biI .add (ge l 1) (.d (.int .i64 1))) fun v8 =>
 q .normal [v7,v8] h) (
 q (.exit 2) [(ge l 0)] h)
def decimal_cut_l0 (C:CC) (b:Nat) (p0:V):StepT:=fun l h q =>
 bnd (biI .gtr (ge l 1) (.d (.int .i64 0))) fun v1 =>
 cnd v1 (
 bnd (biI .sub (ge l 1) (.d (.int .i64 9))) fun v2 =>
 bnd (mxI true [(.d (.int .i64 0)),v2]) fun v3 =>
 bnd (slS p0 (some v3) (some (ge l 1))) fun v4 =>
 cvB v4 h fun v5 h =>
 bnd (lenV v5) fun v6 =>
 lp (decimal_cut_l1 C b v5 v6) [] h [(.d (.int .u64 0)),(.d (.int .i64 0))] h (exK [((.exit 2),fun l7 h =>
 lisD 1 [.int .u64 0] [(0,(ge l7 0))] h fun v8 h =>
 apV false (b+1) 1 8 (ge l 0) v8 h fun v9 h =>
 bnd (biI .sub (ge l 1) (.d (.int .i64 9))) fun v10 =>
 q .normal [v9,v10] h)])) (
 q (.exit 0) [(ge l 0)] h)
def decimal_cut (C:CC) (b:Nat) (h:Hp) (t0:V) (q:V→Hp→Prop):Prop :=
 let h:Hp:=h++List.replicate 3 (0,.none)
 bnd (lenS t0) fun v1 =>
 bnd (biI .quo v1 (.d (.int .i64 9))) fun v2 =>
 bnd (biI .add v2 (.d (.int .i64 1))) fun v3 =>
 mkS (b+0) 8 [.int .u64 0] h (.d (.int .i64 0)) v3 fun v4 h =>
 bnd (lenS t0) fun v5 =>
 lp (decimal_cut_l0 C b t0) [] h [v4,v5] h (exK [((.exit 0),fun l6 h =>
 cai C.i h (.fn F.decimal_pieces_trim [] []) [(ge l6 0)] (b+2) fun v7 h =>
 q v7 h)])
def decimal_cut_a (b:Nat):Ann:=(.n .x .o (.n .x (.n (.r [.slot (b+0)]) .o .o) (.n .x (.n .x .o (.n .x (.n (.l [3,4] [0] [((.exit 0),[3],[])] []) (.n .x .o (.n .x (.n .x (.n .x .o (.n .x (.n .x .o (.n .x (.n (.l [5,27] [0,3,4,25,26] [((.exit 2),[5],[0,3,4])] []) .o .o) .o)) (.n (.r [.o,.slot (b+1)]) .o .o))) .o) .o)) .o) .o)) (.n .x (.n (.r [.inl (b+2)]) .o .o) .o))))
theorem decimal_cut_e (C:CC) (h:Hp) (t0:V) (q:V→Hp→Prop):fnI Y C Go.Proofs.Tryz.f177 3 decimal_cut_a [t0] h q=decimal_cut C h.length h t0 q:=by
 rfl
theorem decimal_cut_o (b:Nat):okB Go.Proofs.Tryz.prog Go.Proofs.Tryz.f177 (decimal_cut_a b)=true:=by rfl
theorem decimal_cut_i {t0 v:V} {h h2:Hp} (hh:decimal_cut (CX Y) h.length h t0 (outI h.length v h2)):CI Y F.decimal_cut [t0] h v h2 :=
 CI.of (fn:=Go.Proofs.Tryz.f177) (m:=3) (a:=decimal_cut_a) rfl (fun _=>rfl) Go.Proofs.Tryz.func177 (decimal_cut_o _) (by rw [decimal_cut_e]; exact hh)
def slices_Reverse_byte_byte_l0 (C:CC) (b:Nat) (p0:V):StepT:=fun l h q =>
 bnd (biI .lss (ge l 0) (ge l 1)) fun v1 =>
 cnd v1 (
 bnd (ixV h 1 p0 (ge l 1)) fun v2 =>
 bnd (ld1 h v2) fun v3 =>
 bnd (ixV h 1 p0 (ge l 0)) fun v4 =>
 bnd (ld1 h v4) fun v5 =>
 bnd (ixV h 1 p0 (ge l 0)) fun v6 =>
 stD h 1 v6 v3 fun _ h =>
 bnd (ixV h 1 p0 (ge l 1)) fun v8 =>
 stD h 1 v8 v5 fun _ h =>
 bnd (biI .add (ge l 0) (.d (.int .i64 1))) fun v10 =>
 bnd (biI .sub (ge l 1) (.d (.int .i64 1))) fun v11 =>
 q .normal [v10,v11] h) (
 q (.exit 0) [] h)
def slices_Reverse_byte_byte (C:CC) (b:Nat) (h:Hp) (t0:V) (q:V→Hp→Prop):Prop :=
 let h:Hp:=h++List.replicate 0 (0,.none)
 bnd (lenV t0) fun v1 =>
 bnd (biI .sub v1 (.d (.int .i64 1))) fun v2 =>
 lp (slices_Reverse_byte_byte_l0 C b t0) [] h [(.d (.int .i64 0)),v2] h (exK [((.exit 0),fun l3 h =>
 q (.tup []) h)])
def slices_Reverse_byte_byte_a (b:Nat):Ann:=(.n .x .o (.n .x (.n (.l [2,3] [0] [((.exit 0),[],[])] []) .o .o) .o))
theorem slices_Reverse_byte_byte_e (C:CC) (h:Hp) (t0:V) (q:V→Hp→Prop):fnI Y C Go.Proofs.Tryz.f197 0 slices_Reverse_byte_byte_a [t0] h q=slices_Reverse_byte_byte C h.length h t0 q:=by
 rfl
theorem slices_Reverse_byte_byte_o (b:Nat):okB Go.Proofs.Tryz.prog Go.Proofs.Tryz.f197 (slices_Reverse_byte_byte_a b)=true:=by rfl
theorem slices_Reverse_byte_byte_i {t0 v:V} {h h2:Hp} (hh:slices_Reverse_byte_byte (CX Y) h.length h t0 (outI h.length v h2)):CI Y F.slices_Reverse_byte_byte [t0] h v h2 :=
 CI.of (fn:=Go.Proofs.Tryz.f197) (m:=0) (a:=slices_Reverse_byte_byte_a) rfl (fun _=>rfl) Go.Proofs.Tryz.func197 (slices_Reverse_byte_byte_o _) (by rw [slices_Reverse_byte_byte_e]; exact hh)
def decimal_pieces_text_l1 (C:CC) (p0:V) (p4:V):StepT:=fun l h q =>
 bnd (biI .lss (ge l 2) (.d (.int .i64 9))) fun v1 =>
 gd v1 true h (fun q=>q p4 h) fun v2 h =>
 gd v1 true h (fun q=>bnd (biI .add v2 (.d (.int .i64 1))) fun v=>q v h) fun v3 h =>
 gd v1 true h (fun q=>q p0 h) fun v4 h =>
 gd v1 true h (fun q=>bnd (lenV v4) fun v=>q v h) fun v5 h =>
 gd v1 true h (fun q=>bnd (biI .lss v3 v5) fun v=>q v h) fun v6 h =>
 gd v1 true h (fun q=>q v6 h) fun v7 h =>
 gd v7 false h (fun q=>q (ge l 1) h) fun v8 h =>
 gd v7 false h (fun q=>bnd (biI .gtr v8 (.d (.int .u64 0))) fun v=>q v h) fun v9 h =>
 gd v1 true h (fun q=>bnd (pickV v7 (.d (.bool true)) v9) fun v=>q v h) fun v10 h =>
 bnd (pickV v1 v10 (.d (.bool false))) fun v11 =>
 cnd v11 (
 bnd (biI .rem (ge l 1) (.d (.int .u64 10))) fun v12 =>
 bnd (biI .add (.d (.int .u64 48)) v12) fun v13 =>
 bnd (cvI .u8 v13) fun v14 =>
 lisD 1 [.int .u8 0] [(0,v14)] h fun v15 h =>
 apV false 1 1 1 (ge l 0) v15 h fun v16 h =>
 bnd (biI .quo (ge l 1) (.d (.int .u64 10))) fun v17 =>
 bnd (biI .add (ge l 2) (.d (.int .i64 1))) fun v18 =>
 q .normal [v16,v17,v18] h) (
 q (.exit 2) [(ge l 0)] h)
def decimal_pieces_text_l0 (C:CC) (p0:V) (p14:V) (p15:V):StepT:=fun l h q =>
 bnd (biI .lss (ge l 1) p15) fun v1 =>
 cnd v1 (
 bnd (ixV h 1 p14 (ge l 1)) fun v2 =>
 bnd (ld1 h v2) fun v3 =>
 lp (decimal_pieces_text_l1 C p0 (ge l 1)) [] h [(ge l 0),v3,(.d (.int .i64 0))] h (exK [((.exit 2),fun l4 h =>
 bnd (biI .add (ge l 1) (.d (.int .i64 1))) fun v5 =>
 q .normal [(ge l4 0),v5] h)])) (
 q (.exit 0) [(ge l 0)] h)
def decimal_pieces_text (C:CC) (t0:V) (q:V→Hp→Prop):Prop :=
 let h:Hp:=List.replicate 3 (0,.none)
 bnd (lenV t0) fun v1 =>
 bnd (biI .eql v1 (.d (.int .i64 0))) fun v2 =>
 cnd v2 (
 q (.d (.str [48])) h) (
 bnd (lenV t0) fun v3 =>
 bnd (biI .mul (.d (.int .i64 9)) v3) fun v4 =>
 mkS 0 1 [.int .u8 0] h (.d (.int .i64 0)) v4 fun v5 h =>
 bnd (lenV t0) fun v6 =>
 lp (decimal_pieces_text_l0 C t0 t0 v6) [] h [v5,(.d (.int .i64 0))] h (exK [((.exit 0),fun l7 h =>
 cai C.i h (.fn F.slices_Reverse_byte_byte [] []) [(ge l7 0)] 2 fun v8 h =>
 bnd (cvT h (ge l7 0)) fun v9 =>
 q v9 h)]))
def decimal_pieces_text_a:Ann:=(.n .x .o (.n .x .o (.n .x (.n (.r [.slot 0]) .o .o) (.n .x (.n .x .o (.n .x (.n (.l [3,16] [0,14,15] [((.exit 0),[3],[])] []) (.n .x .o (.n .x .o (.n .x (.n .x (.n .x .o (.n .x .o (.n .x (.n (.l [3,5,6] [0,4,14,15,16] [((.exit 2),[3],[0,14,15,16])] []) (.n .x .o (.n .x (.n .x (.n .x (.n (.r [.o,.slot 1]) .o .o) .o) .o) .o)) .o) .o))) .o) .o))) .o) .o)) (.n .x (.n (.r [.inl 2]) .o .o) .o)))))
theorem decimal_pieces_text_e (C:CC) (t0:V) (q:V→Hp→Prop):fnD Y C Go.Proofs.Tryz.f180 3 decimal_pieces_text_a [t0] q=decimal_pieces_text C t0 q:=by
 rfl
theorem decimal_pieces_text_o:okB Go.Proofs.Tryz.prog Go.Proofs.Tryz.f180 decimal_pieces_text_a=true:=by decide +kernel
theorem decimal_pieces_text_i {t0 v:V} (h:decimal_pieces_text (CX Y) t0 (out v)):CP Y F.decimal_pieces_text [t0] v :=
 CP.of (fn:=Go.Proofs.Tryz.f180) (m:=3) (a:=decimal_pieces_text_a) rfl (fun _=>rfl) Go.Proofs.Tryz.func180 decimal_pieces_text_o (by rw [decimal_pieces_text_e]; exact h)
def decimal_pieces_compare_l0 (C:CC) (p0:V) (p1:V):StepT:=fun l h q =>
 bnd (biI .geq (ge l 0) (.d (.int .i64 0))) fun v1 =>
 cnd v1 (
 bnd (ixV h 1 p0 (ge l 0)) fun v2 =>
 bnd (ld1 h v2) fun v3 =>
 bnd (ixV h 1 p1 (ge l 0)) fun v4 =>
 bnd (ld1 h v4) fun v5 =>
 bnd (biI .lss v3 v5) fun v6 =>
 cnd v6 (
 q .ret [(.d (.int .i64 (-1)))] h) (
 bnd (ixV h 1 p0 (ge l 0)) fun v7 =>
 bnd (ld1 h v7) fun v8 =>
 bnd (ixV h 1 p1 (ge l 0)) fun v9 =>
 bnd (ld1 h v9) fun v10 =>
 bnd (biI .gtr v8 v10) fun v11 =>
 cnd v11 (
 q .ret [(.d (.int .i64 1))] h) (
 bnd (biI .sub (ge l 0) (.d (.int .i64 1))) fun v12 =>
 q .normal [v12] h))) (
 q (.exit 0) [] h)
def decimal_pieces_compare (C:CC) (t0:V) (t1:V) (q:V→Hp→Prop):Prop :=
 let h:Hp:=List.replicate 0 (0,.none)
 bnd (lenV t0) fun v1 =>
 bnd (lenV t1) fun v2 =>
 bnd (biI .neq v1 v2) fun v3 =>
 cnd v3 (
 bnd (lenV t0) fun v4 =>
 bnd (lenV t1) fun v5 =>
 bnd (biI .sub v4 v5) fun v6 =>
 bnd (mxI true [(.d (.int .i64 (-1))),v6]) fun v7 =>
 bnd (mxI false [(.d (.int .i64 1)),v7]) fun v8 =>
 q v8 h) (
 bnd (lenV t0) fun v9 =>
 bnd (biI .sub v9 (.d (.int .i64 1))) fun v10 =>
 lp (decimal_pieces_compare_l0 C t0 t1) [] h [v10] h (exK [((.exit 0),fun l11 h =>
 q (.d (.int .i64 0)) h),
 (.ret,fun l11 h =>
 q (ge l11 0) h)]))
def decimal_pieces_compare_a:Ann:=(.n .x .o (.n .x .o (.n .x (.n .x .o (.n .x (.n (.l [5] [0,1] [((.exit 0),[],[]),(.ret,[4],[])] []) .o .o) .o)) .o)))
theorem decimal_pieces_compare_e (C:CC) (t0:V) (t1:V) (q:V→Hp→Prop):fnD Y C Go.Proofs.Tryz.f209 0 decimal_pieces_compare_a [t0,t1] q=decimal_pieces_compare C t0 t1 q:=by
 rfl
theorem decimal_pieces_compare_o:okB Go.Proofs.Tryz.prog Go.Proofs.Tryz.f209 decimal_pieces_compare_a=true:=by decide +kernel
theorem decimal_pieces_compare_i {t0 t1 v:V} (h:decimal_pieces_compare (CX Y) t0 t1 (out v)):CP Y F.decimal_pieces_compare [t0,t1] v :=
 CP.of (fn:=Go.Proofs.Tryz.f209) (m:=0) (a:=decimal_pieces_compare_a) rfl (fun _=>rfl) Go.Proofs.Tryz.func209 decimal_pieces_compare_o (by rw [decimal_pieces_compare_e]; exact h)
def decimal_pieces_times_l1 (C:CC) (b:Nat) (p5:V) (p6:V) (p7:V) (p24:V) (p25:V):StepT:=fun l h q =>
 bnd (biI .lss (ge l 1) p25) fun v1 =>
 cnd v1 (
 bnd (ixV h 1 p24 (ge l 1)) fun v2 =>
 bnd (ld1 h v2) fun v3 =>
 bnd (biI .add p6 (ge l 1)) fun v4 =>
 bnd (ixV h 1 p5 v4) fun v5 =>
 bnd (ld1 h v5) fun v6 =>
 bnd (biI .mul p7 v3) fun v7 =>
 bnd (biI .add v6 v7) fun v8 =>
 bnd (biI .add (ge l 0) v8) fun v9 =>
 bnd (biI .add p6 (ge l 1)) fun v10 =>
 bnd (biI .rem v9 (.d (.int .u64 1000000000))) fun v11 =>
 bnd (ixV h 1 p5 v10) fun v12 =>
 stD h 1 v12 v11 fun _ h =>
 bnd (biI .quo v9 (.d (.int .u64 1000000000))) fun v14 =>
 bnd (biI .add (ge l 1) (.d (.int .i64 1))) fun v15 =>
 q .normal [v14,v15] h) (
 q (.exit 2) [(ge l 0)] h)
def decimal_pieces_times_l0 (C:CC) (b:Nat) (p1:V) (p5:V) (p17:V) (p18:V):StepT:=fun l h q =>
 bnd (biI .lss (ge l 0) p18) fun v1 =>
 cnd v1 (
 bnd (ixV h 1 p17 (ge l 0)) fun v2 =>
 bnd (ld1 h v2) fun v3 =>
 bnd (lenV p1) fun v4 =>
 lp (decimal_pieces_times_l1 C b p5 (ge l 0) v3 p1 v4) [] h [(.d (.int .u64 0)),(.d (.int .i64 0))] h (exK [((.exit 2),fun l5 h =>
 bnd (lenV p1) fun v6 =>
 bnd (biI .add (ge l 0) v6) fun v7 =>
 bnd (ixV h 1 p5 v7) fun v8 =>
 stD h 1 v8 (ge l5 0) fun _ h =>
 bnd (biI .add (ge l 0) (.d (.int .i64 1))) fun v10 =>
 q .normal [v10] h)])) (
 q (.exit 0) [] h)
def decimal_pieces_times (C:CC) (b:Nat) (h:Hp) (t0:V) (t1:V) (q:V→Hp→Prop):Prop :=
 let h:Hp:=h++List.replicate 2 (0,.none)
 bnd (lenV t0) fun v1 =>
 bnd (lenV t1) fun v2 =>
 bnd (biI .add v1 v2) fun v3 =>
 mkS (b+0) 8 [.int .u64 0] h v3 v3 fun v4 h =>
 bnd (lenV t0) fun v5 =>
 lp (decimal_pieces_times_l0 C b t1 v4 t0 v5) [] h [(.d (.int .i64 0))] h (exK [((.exit 0),fun l6 h =>
 cai C.i h (.fn F.decimal_pieces_trim [] []) [v4] (b+1) fun v7 h =>
 q v7 h)])
def decimal_pieces_times_a (b:Nat):Ann:=(.n .x .o (.n .x (.n (.r [.slot (b+0)]) .o .o) (.n .x (.n .x .o (.n .x (.n (.l [19] [1,5,17,18] [((.exit 0),[],[5])] []) (.n .x .o (.n .x .o (.n .x (.n .x (.n .x .o (.n .x .o (.n .x (.n .x .o (.n .x (.n (.l [8,26] [1,5,6,7,17,18,19,24,25] [((.exit 2),[8],[1,5,6,17,18,19])] []) .o .o) .o)) .o))) .o) .o))) .o) .o)) (.n .x (.n (.r [.inl (b+1)]) .o .o) .o))))
theorem decimal_pieces_times_e (C:CC) (h:Hp) (t0:V) (t1:V) (q:V→Hp→Prop):fnI Y C Go.Proofs.Tryz.f182 2 decimal_pieces_times_a [t0,t1] h q=decimal_pieces_times C h.length h t0 t1 q:=by
 rfl
theorem decimal_pieces_times_o (b:Nat):okB Go.Proofs.Tryz.prog Go.Proofs.Tryz.f182 (decimal_pieces_times_a b)=true:=by rfl
theorem decimal_pieces_times_i {t0 t1 v:V} {h h2:Hp} (hh:decimal_pieces_times (CX Y) h.length h t0 t1 (outI h.length v h2)):CI Y F.decimal_pieces_times [t0,t1] h v h2 :=
 CI.of (fn:=Go.Proofs.Tryz.f182) (m:=2) (a:=decimal_pieces_times_a) rfl (fun _=>rfl) Go.Proofs.Tryz.func182 (decimal_pieces_times_o _) (by rw [decimal_pieces_times_e]; exact hh)
def decimal_pieces_scaled (C:CC) (b:Nat) (h:Hp) (t0:V) (t1:V) (q:V→Hp→Prop):Prop :=
 let h:Hp:=h++List.replicate 2 (0,.none)
 lisD 1 [.int .u64 0] [(0,t1)] h fun v1 h =>
 cai C.i h (.fn F.decimal_pieces_trim [] []) [v1] (b+0) fun v2 h =>
 cai C.i h (.fn F.decimal_pieces_times [] []) [t0,v2] (b+1) fun v3 h =>
 q v3 h
def decimal_pieces_scaled_a (b:Nat):Ann:=(.n .x .o (.n .x (.n (.r [.o,.inl (b+0),.inl (b+1)]) .o .o) .o))
theorem decimal_pieces_scaled_e (C:CC) (h:Hp) (t0:V) (t1:V) (q:V→Hp→Prop):fnI Y C Go.Proofs.Tryz.f212 2 decimal_pieces_scaled_a [t0,t1] h q=decimal_pieces_scaled C h.length h t0 t1 q:=by
 rfl
theorem decimal_pieces_scaled_o (b:Nat):okB Go.Proofs.Tryz.prog Go.Proofs.Tryz.f212 (decimal_pieces_scaled_a b)=true:=by rfl
theorem decimal_pieces_scaled_i {t0 t1 v:V} {h h2:Hp} (hh:decimal_pieces_scaled (CX Y) h.length h t0 t1 (outI h.length v h2)):CI Y F.decimal_pieces_scaled [t0,t1] h v h2 :=
 CI.of (fn:=Go.Proofs.Tryz.f212) (m:=2) (a:=decimal_pieces_scaled_a) rfl (fun _=>rfl) Go.Proofs.Tryz.func212 (decimal_pieces_scaled_o _) (by rw [decimal_pieces_scaled_e]; exact hh)
def decimal_pieces_small_l0 (C:CC) (p0:V) (p1:V) (p6:V):StepT:=fun l h q =>
 bnd (biI .geq (ge l 1) (.d (.int .i64 0))) fun v1 =>
 cnd v1 (
 bnd (biI .mul (ge l 0) (.d (.int .u64 1000000000))) fun v2 =>
 bnd (ixV h 1 p0 (ge l 1)) fun v3 =>
 bnd (ld1 h v3) fun v4 =>
 bnd (biI .add v2 v4) fun v5 =>
 bnd (biI .quo v5 p1) fun v6 =>
 bnd (ixV h 1 p6 (ge l 1)) fun v7 =>
 stD h 1 v7 v6 fun _ h =>
 bnd (biI .rem v5 p1) fun v9 =>
 bnd (biI .sub (ge l 1) (.d (.int .i64 1))) fun v10 =>
 q .normal [v9,v10] h) (
 q (.exit 0) [(ge l 0)] h)
def decimal_pieces_small (C:CC) (t0:V) (t1:V) (q:V→Hp→Prop):Prop :=
 let h:Hp:=List.replicate 2 (0,.none)
 bnd (lenV t0) fun v1 =>
 mkS 0 8 [.int .u64 0] h v1 v1 fun v2 h =>
 bnd (lenV t0) fun v3 =>
 bnd (biI .sub v3 (.d (.int .i64 1))) fun v4 =>
 lp (decimal_pieces_small_l0 C t0 t1 v2) [] h [(.d (.int .u64 0)),v4] h (exK [((.exit 0),fun l5 h =>
 cai C.i h (.fn F.decimal_pieces_trim [] []) [v2] 1 fun v6 h =>
 q (.tup [v6,(ge l5 0)]) h)])
def decimal_pieces_small_a:Ann:=(.n .x .o (.n .x (.n (.r [.slot 0]) .o .o) (.n .x .o (.n .x (.n .x .o (.n .x (.n (.l [7,8] [0,1,6] [((.exit 0),[7],[6])] []) .o .o) .o)) (.n .x (.n (.r [.inl 1]) .o .o) .o)))))
theorem decimal_pieces_small_e (C:CC) (t0:V) (t1:V) (q:V→Hp→Prop):fnD Y C Go.Proofs.Tryz.f210 2 decimal_pieces_small_a [t0,t1] q=decimal_pieces_small C t0 t1 q:=by
 rfl
theorem decimal_pieces_small_o:okB Go.Proofs.Tryz.prog Go.Proofs.Tryz.f210 decimal_pieces_small_a=true:=by decide +kernel
theorem decimal_pieces_small_i {t0 t1 v:V} (h:decimal_pieces_small (CX Y) t0 t1 (out v)):CP Y F.decimal_pieces_small [t0,t1] v :=
 CP.of (fn:=Go.Proofs.Tryz.f210) (m:=2) (a:=decimal_pieces_small_a) rfl (fun _=>rfl) Go.Proofs.Tryz.func210 decimal_pieces_small_o (by rw [decimal_pieces_small_e]; exact h)
def decimal_pieces_take_l0 (C:CC) (b:Nat) (p0:V) (p1:V) (p2:V) (p3:V):StepT:=fun l h q =>
 bnd (lenV p1) fun v1 =>
 bnd (biI .leq (ge l 2) v1) fun v2 =>
 cnd v2 (
 bnd (lenV p1) fun v3 =>
 bnd (biI .lss (ge l 2) v3) fun v4 =>
 jn (fun l5 h =>
 bnd (biI .add p3 (ge l 2)) fun v7 =>
 bnd (ixV h 1 p0 v7) fun v8 =>
 bnd (ld1 h v8) fun v9 =>
 bnd (cvI .i64 v9) fun v10 =>
 bnd (biI .rem (ge l5 0) (.d (.int .u64 1000000000))) fun v11 =>
 bnd (cvI .i64 v11) fun v12 =>
 bnd (biI .sub v10 v12) fun v13 =>
 bnd (biI .sub v13 (ge l 1)) fun v14 =>
 bnd (biI .quo (ge l5 0) (.d (.int .u64 1000000000))) fun v15 =>
 bnd (biI .lss v14 (.d (.int .i64 0))) fun v16 =>
 jn (fun l17 h =>
 bnd (biI .add p3 (ge l 2)) fun v19 =>
 bnd (cvI .u64 (ge l17 0)) fun v20 =>
 bnd (ixV h 1 p0 v19) fun v21 =>
 stD h 1 v21 v20 fun _ h =>
 bnd (biI .add (ge l 2) (.d (.int .i64 1))) fun v23 =>
 q .normal [v15,(ge l17 1),v23] h) fun q18 =>
 cnd v16 (
 bnd (biI .add v14 (.d (.int .i64 1000000000))) fun v24 =>
 q18 [v24,(.d (.int .i64 1))] h) (
 q18 [v14,(.d (.int .i64 0))] h)) fun q6 =>
 cnd v4 (
 bnd (ixV h 1 p1 (ge l 2)) fun v25 =>
 bnd (ld1 h v25) fun v26 =>
 bnd (biI .mul p2 v26) fun v27 =>
 bnd (biI .add (ge l 0) v27) fun v28 =>
 q6 [v28] h) (
 q6 [(ge l 0)] h)) (
 q (.exit 0) [(ge l 1)] h)
def decimal_pieces_take (C:CC) (b:Nat) (h:Hp) (t0:V) (t1:V) (t2:V) (t3:V) (q:V→Hp→Prop):Prop :=
 let h:Hp:=h++List.replicate 0 (0,.none)
 lp (decimal_pieces_take_l0 C b t0 t1 t2 t3) [] h [(.d (.int .u64 0)),(.d (.int .i64 0)),(.d (.int .i64 0))] h (exK [((.exit 0),fun l1 h =>
 bnd (biI .gtr (ge l1 0) (.d (.int .i64 0))) fun v2 =>
 q v2 h)])
def decimal_pieces_take_a (b:Nat):Ann:=(.n .x .o (.n .x .o (.n .x .o (.n .x (.n .x .o (.n .x (.n (.l [10,9,11] [0,1,2,3] [((.exit 0),[9],[])] []) (.n .x .o (.n .x (.n .x (.n .x (.n .x .o (.n (.j [10] [0,1,2,3,9,11]) .o .o)) (.n .x .o (.n .x .o (.n .x .o (.n .x (.n .x .o (.n (.j [12,9] [0,1,2,3,10,11]) .o .o)) .o))))) .o) .o)) .o) .o)) .o))))
theorem decimal_pieces_take_e (C:CC) (h:Hp) (t0:V) (t1:V) (t2:V) (t3:V) (q:V→Hp→Prop):fnI Y C Go.Proofs.Tryz.f181 0 decimal_pieces_take_a [t0,t1,t2,t3] h q=decimal_pieces_take C h.length h t0 t1 t2 t3 q:=by
 rfl
theorem decimal_pieces_take_o (b:Nat):okB Go.Proofs.Tryz.prog Go.Proofs.Tryz.f181 (decimal_pieces_take_a b)=true:=by rfl
theorem decimal_pieces_take_i {t0 t1 t2 t3 v:V} {h h2:Hp} (hh:decimal_pieces_take (CX Y) h.length h t0 t1 t2 t3 (outI h.length v h2)):CI Y F.decimal_pieces_take [t0,t1,t2,t3] h v h2 :=
 CI.of (fn:=Go.Proofs.Tryz.f181) (m:=0) (a:=decimal_pieces_take_a) rfl (fun _=>rfl) Go.Proofs.Tryz.func181 (decimal_pieces_take_o _) (by rw [decimal_pieces_take_e]; exact hh)
def decimal_pieces_back_l0 (C:CC) (b:Nat) (p0:V) (p1:V) (p2:V):StepT:=fun l h q =>
 bnd (lenV p1) fun v1 =>
 bnd (biI .leq (ge l 1) v1) fun v2 =>
 cnd v2 (
 bnd (biI .add p2 (ge l 1)) fun v3 =>
 bnd (ixV h 1 p0 v3) fun v4 =>
 bnd (ld1 h v4) fun v5 =>
 bnd (biI .add (ge l 0) v5) fun v6 =>
 bnd (lenV p1) fun v7 =>
 bnd (biI .lss (ge l 1) v7) fun v8 =>
 jn (fun l9 h =>
 bnd (biI .add p2 (ge l 1)) fun v11 =>
 bnd (biI .rem (ge l9 0) (.d (.int .u64 1000000000))) fun v12 =>
 bnd (ixV h 1 p0 v11) fun v13 =>
 stD h 1 v13 v12 fun _ h =>
 bnd (biI .quo (ge l9 0) (.d (.int .u64 1000000000))) fun v15 =>
 bnd (biI .add (ge l 1) (.d (.int .i64 1))) fun v16 =>
 q .normal [v15,v16] h) fun q10 =>
 cnd v8 (
 bnd (ixV h 1 p1 (ge l 1)) fun v17 =>
 bnd (ld1 h v17) fun v18 =>
 bnd (biI .add v6 v18) fun v19 =>
 q10 [v19] h) (
 q10 [v6] h)) (
 q (.exit 0) [] h)
def decimal_pieces_back (C:CC) (b:Nat) (h:Hp) (t0:V) (t1:V) (t2:V) (q:V→Hp→Prop):Prop :=
 let h:Hp:=h++List.replicate 0 (0,.none)
 lp (decimal_pieces_back_l0 C b t0 t1 t2) [] h [(.d (.int .u64 0)),(.d (.int .i64 0))] h (exK [((.exit 0),fun l1 h =>
 q (.tup []) h)])
def decimal_pieces_back_a (b:Nat):Ann:=(.n .x .o (.n .x .o (.n .x (.n (.l [6,7] [0,1,2] [((.exit 0),[],[])] []) (.n .x .o (.n .x (.n .x (.n .x .o (.n .x (.n .x .o (.n (.j [6] [0,1,2,7]) .o .o)) .o)) .o) .o)) .o) .o)))
theorem decimal_pieces_back_e (C:CC) (h:Hp) (t0:V) (t1:V) (t2:V) (q:V→Hp→Prop):fnI Y C Go.Proofs.Tryz.f178 0 decimal_pieces_back_a [t0,t1,t2] h q=decimal_pieces_back C h.length h t0 t1 t2 q:=by
 rfl
theorem decimal_pieces_back_o (b:Nat):okB Go.Proofs.Tryz.prog Go.Proofs.Tryz.f178 (decimal_pieces_back_a b)=true:=by rfl
theorem decimal_pieces_back_i {t0 t1 t2 v:V} {h h2:Hp} (hh:decimal_pieces_back (CX Y) h.length h t0 t1 t2 (outI h.length v h2)):CI Y F.decimal_pieces_back [t0,t1,t2] h v h2 :=
 CI.of (fn:=Go.Proofs.Tryz.f178) (m:=0) (a:=decimal_pieces_back_a) rfl (fun _=>rfl) Go.Proofs.Tryz.func178 (decimal_pieces_back_o _) (by rw [decimal_pieces_back_e]; exact hh)
def decimal_pieces_divide_l0 (C:CC) (p0:V):StepT:=fun l h q =>
 bnd (lenV (ge l 0)) fun v1 =>
 bnd (lenV p0) fun v2 =>
 bnd (biI .leq v1 v2) fun v3 =>
 cnd v3 (
 lisD 1 [.int .u64 0] [(0,(.d (.int .u64 0)))] h fun v4 h =>
 apV false 3 1 8 (ge l 0) v4 h fun v5 h =>
 q .normal [v5] h) (
 q (.exit 0) [(ge l 0)] h)
def decimal_pieces_divide_l2 (C:CC) (p7:V) (p8:V) (p9:V) (p11:V):StepT:=fun l h q =>
 bnd (biI .geq (ge l 0) (.d (.int .u64 1000000000))) fun v1 =>
 gd v1 false h (fun q=>q (ge l 1) h) fun v2 h =>
 gd v1 false h (fun q=>bnd (biI .lss v2 (.d (.int .u64 1000000000))) fun v=>q v h) fun v3 h =>
 gd v1 false h (fun q=>q v3 h) fun v4 h =>
 gd v4 true h (fun q=>q (ge l 0) h) fun v5 h =>
 gd v4 true h (fun q=>q p8 h) fun v6 h =>
 gd v4 true h (fun q=>q p9 h) fun v7 h =>
 gd v4 true h (fun q=>bnd (biI .sub v7 (.d (.int .i64 2))) fun v=>q v h) fun v8 h =>
 gd v4 true h (fun q=>bnd (ixV h 1 v6 v8) fun v=>q v h) fun v9 h =>
 gd v4 true h (fun q=>bnd (ld1 h v9) fun v=>q v h) fun v10 h =>
 gd v4 true h (fun q=>bnd (biI .mul v5 v10) fun v=>q v h) fun v11 h =>
 gd v4 true h (fun q=>q (ge l 1) h) fun v12 h =>
 gd v4 true h (fun q=>bnd (biI .mul v12 (.d (.int .u64 1000000000))) fun v=>q v h) fun v13 h =>
 gd v4 true h (fun q=>q p7 h) fun v14 h =>
 gd v4 true h (fun q=>q p11 h) fun v15 h =>
 gd v4 true h (fun q=>q p9 h) fun v16 h =>
 gd v4 true h (fun q=>bnd (biI .add v15 v16) fun v=>q v h) fun v17 h =>
 gd v4 true h (fun q=>bnd (biI .sub v17 (.d (.int .i64 2))) fun v=>q v h) fun v18 h =>
 gd v4 true h (fun q=>bnd (ixV h 1 v14 v18) fun v=>q v h) fun v19 h =>
 gd v4 true h (fun q=>bnd (ld1 h v19) fun v=>q v h) fun v20 h =>
 gd v4 true h (fun q=>bnd (biI .add v13 v20) fun v=>q v h) fun v21 h =>
 gd v4 true h (fun q=>bnd (biI .gtr v11 v21) fun v=>q v h) fun v22 h =>
 gd v1 false h (fun q=>bnd (pickV v4 v22 (.d (.bool false))) fun v=>q v h) fun v23 h =>
 bnd (pickV v1 (.d (.bool true)) v23) fun v24 =>
 cnd v24 (
 bnd (biI .sub (ge l 0) (.d (.int .u64 1))) fun v25 =>
 bnd (biI .sub p9 (.d (.int .i64 1))) fun v26 =>
 bnd (ixV h 1 p8 v26) fun v27 =>
 bnd (ld1 h v27) fun v28 =>
 bnd (biI .add (ge l 1) v28) fun v29 =>
 q .normal [v25,v29] h) (
 q (.exit 4) [(ge l 0)] h)
def decimal_pieces_divide_l1 (C:CC) (p7:V) (p8:V) (p9:V) (p10:V):StepT:=fun l h q =>
 bnd (biI .geq (ge l 0) (.d (.int .i64 0))) fun v1 =>
 cnd v1 (
 bnd (biI .add (ge l 0) p9) fun v2 =>
 bnd (ixV h 1 p7 v2) fun v3 =>
 bnd (ld1 h v3) fun v4 =>
 bnd (biI .mul v4 (.d (.int .u64 1000000000))) fun v5 =>
 bnd (biI .add (ge l 0) p9) fun v6 =>
 bnd (biI .sub v6 (.d (.int .i64 1))) fun v7 =>
 bnd (ixV h 1 p7 v7) fun v8 =>
 bnd (ld1 h v8) fun v9 =>
 bnd (biI .add v5 v9) fun v10 =>
 bnd (biI .sub p9 (.d (.int .i64 1))) fun v11 =>
 bnd (ixV h 1 p8 v11) fun v12 =>
 bnd (ld1 h v12) fun v13 =>
 bnd (biI .quo v10 v13) fun v14 =>
 bnd (biI .sub p9 (.d (.int .i64 1))) fun v15 =>
 bnd (ixV h 1 p8 v15) fun v16 =>
 bnd (ld1 h v16) fun v17 =>
 bnd (biI .rem v10 v17) fun v18 =>
 lp (decimal_pieces_divide_l2 C p7 p8 p9 (ge l 0)) [] h [v14,v18] h (exK [((.exit 4),fun l19 h =>
 cai C.i h (.fn F.decimal_pieces_take [] []) [p7,p8,(ge l19 0),(ge l 0)] 5 fun v20 h =>
 jn (fun l21 h =>
 bnd (ixV h 1 p10 (ge l 0)) fun v23 =>
 stD h 1 v23 (ge l21 0) fun _ h =>
 bnd (biI .sub (ge l 0) (.d (.int .i64 1))) fun v25 =>
 q .normal [v25] h) fun q22 =>
 cnd v20 (
 bnd (biI .sub (ge l19 0) (.d (.int .u64 1))) fun v26 =>
 cai C.i h (.fn F.decimal_pieces_back [] []) [p7,p8,(ge l 0)] 6 fun v27 h =>
 q22 [v26] h) (
 q22 [(ge l19 0)] h))])) (
 q (.exit 2) [] h)
def decimal_pieces_divide (C:CC) (t0:V) (t1:V) (q:V→Hp→Prop):Prop :=
 let h:Hp:=List.replicate 9 (0,.none)
 bnd (lenV t1) fun v1 =>
 bnd (biI .sub v1 (.d (.int .i64 1))) fun v2 =>
 bnd (ixV h 1 t1 v2) fun v3 =>
 bnd (ld1 h v3) fun v4 =>
 bnd (biI .add v4 (.d (.int .u64 1))) fun v5 =>
 bnd (biI .quo (.d (.int .u64 1000000000)) v5) fun v6 =>
 cai C.i h (.fn F.decimal_pieces_scaled [] []) [t0,v6] 0 fun v7 h =>
 lisD 1 [.int .u64 0] [(0,(.d (.int .u64 0)))] h fun v8 h =>
 apV false 1 1 8 v7 v8 h fun v9 h =>
 cai C.i h (.fn F.decimal_pieces_scaled [] []) [t1,v6] 2 fun v10 h =>
 bnd (lenV v10) fun v11 =>
 lp (decimal_pieces_divide_l0 C t0) [] h [v9] h (exK [((.exit 0),fun l12 h =>
 bnd (lenV (ge l12 0)) fun v13 =>
 bnd (biI .sub v13 v11) fun v14 =>
 mkS 4 8 [.int .u64 0] h v14 v14 fun v15 h =>
 bnd (lenV (ge l12 0)) fun v16 =>
 bnd (biI .sub v16 v11) fun v17 =>
 bnd (biI .sub v17 (.d (.int .i64 1))) fun v18 =>
 lp (decimal_pieces_divide_l1 C (ge l12 0) v10 v11 v15) [5,6] h [v18] h (exK [((.exit 2),fun l19 h =>
 cai C.i h (.fn F.decimal_pieces_trim [] []) [(ge l12 0)] 7 fun v20 h =>
 cal C.p h (.fn F.decimal_pieces_small [] []) [v20,v6] fun v21 h =>
 ext v21 0 fun v22 =>
 ext v21 1 fun v23 =>
 cai C.i h (.fn F.decimal_pieces_trim [] []) [v15] 8 fun v24 h =>
 q (.tup [v24,v22]) h)]))])
def decimal_pieces_divide_a:Ann:=(.n .x .o (.n .x .o (.n .x (.n (.r [.inl 0,.o,.slot 1,.inl 2]) .o .o) (.n .x .o (.n .x (.n .x (.n (.l [7] [0,6,8,9] [((.exit 0),[7],[6,8,9])] []) (.n .x .o (.n .x (.n (.r [.o,.slot 3]) .o .o) .o)) .o) .o) (.n .x (.n (.r [.slot 4]) .o .o) (.n .x (.n .x .o (.n .x (.n (.l [11] [6,7,8,9,10] [((.exit 2),[],[6,7,10])] [5,6]) (.n .x .o (.n .x (.n .x (.n .x .o (.n .x .o (.n .x (.n .x (.n (.l [13,14] [6,7,8,9,10,11] [((.exit 4),[13],[6,7,8,9,10,11])] []) .o .o) .o) (.n .x (.n .x (.n (.r [.inl 5]) .o .o) (.n (.j [13] [6,7,8,9,10,11]) (.n .x .o (.n (.r [.inl 6]) .o .o)) .o)) .o)))) .o) .o)) .o) .o)) (.n .x (.n (.r [.inl 7]) .o .o) (.n .x (.n (.r [.inl 8]) .o .o) .o)))))))))
theorem decimal_pieces_divide_e (C:CC) (t0:V) (t1:V) (q:V→Hp→Prop):fnD Y C Go.Proofs.Tryz.f211 9 decimal_pieces_divide_a [t0,t1] q=decimal_pieces_divide C t0 t1 q:=by
 rfl
theorem decimal_pieces_divide_o:okB Go.Proofs.Tryz.prog Go.Proofs.Tryz.f211 decimal_pieces_divide_a=true:=by decide +kernel
theorem decimal_pieces_divide_i {t0 t1 v:V} (h:decimal_pieces_divide (CX Y) t0 t1 (out v)):CP Y F.decimal_pieces_divide [t0,t1] v :=
 CP.of (fn:=Go.Proofs.Tryz.f211) (m:=9) (a:=decimal_pieces_divide_a) rfl (fun _=>rfl) Go.Proofs.Tryz.func211 decimal_pieces_divide_o (by rw [decimal_pieces_divide_e]; exact h)
end Go.Vm
set_option maxRecDepth 100000
set_option maxHeartbeats 4000000
namespace Go.Vm
open Go Go.Am
def schismaref03_trim_l0 (C:CC) (p1:V):StepT:=fun l h q =>
 bnd (faV 1 p1) fun v1 =>
 bnd (ld1 h v1) fun v2 =>
 bnd (lenV v2) fun v3 =>
 bnd (biI .gtr v3 (.d (.int .i64 0))) fun v4 =>
 gd v4 true h (fun q=>bnd (faV 1 p1) fun v=>q v h) fun v5 h =>
 gd v4 true h (fun q=>bnd (ld1 h v5) fun v=>q v h) fun v6 h =>
 gd v4 true h (fun q=>bnd (faV 1 p1) fun v=>q v h) fun v7 h =>
 gd v4 true h (fun q=>bnd (ld1 h v7) fun v=>q v h) fun v8 h =>
 gd v4 true h (fun q=>bnd (lenV v8) fun v=>q v h) fun v9 h =>
 gd v4 true h (fun q=>bnd (biI .sub v9 (.d (.int .i64 1))) fun v=>q v h) fun v10 h =>
 gd v4 true h (fun q=>bnd (ixV h 1 v6 v10) fun v=>q v h) fun v11 h =>
 gd v4 true h (fun q=>bnd (ld1 h v11) fun v=>q v h) fun v12 h =>
 gd v4 true h (fun q=>bnd (biI .eql v12 (.d (.int .i64 0))) fun v=>q v h) fun v13 h =>
 bnd (pickV v4 v13 (.d (.bool false))) fun v14 =>
 cnd v14 (
 bnd (faV 1 p1) fun v15 =>
 bnd (ld1 h v15) fun v16 =>
 bnd (faV 1 p1) fun v17 =>
 bnd (ld1 h v17) fun v18 =>
 bnd (lenV v18) fun v19 =>
 bnd (biI .sub v19 (.d (.int .i64 1))) fun v20 =>
 bnd (slV h 1 v16 none (some v20)) fun v21 =>
 bnd (faV 1 p1) fun v22 =>
 stD h 1 v22 v21 fun _ h =>
 q .normal [] h) (
 q (.exit 0) [] h)
def schismaref03_trim (C:CC) (t0:V) (q:V→Hp→Prop):Prop :=
 let h:Hp:=List.replicate 2 (0,.none)
 boxD 0 t0 h fun v1 h =>
 alV 1 [.d (.bool false),.d (.pl (.slice none 0 0))] h fun v2 h =>
 lp (schismaref03_trim_l0 C v1) [] h [] h (exK [((.exit 0),fun l3 h =>
 bnd (faV 0 v1) fun v4 =>
 bnd (ld1 h v4) fun v5 =>
 gd v5 true h (fun q=>bnd (faV 1 v1) fun v=>q v h) fun v6 h =>
 gd v5 true h (fun q=>bnd (ld1 h v6) fun v=>q v h) fun v7 h =>
 gd v5 true h (fun q=>bnd (lenV v7) fun v=>q v h) fun v8 h =>
 gd v5 true h (fun q=>bnd (biI .gtr v8 (.d (.int .i64 0))) fun v=>q v h) fun v9 h =>
 bnd (pickV v5 v9 (.d (.bool false))) fun v10 =>
 bnd (faV 0 v1) fun v11 =>
 stD h 1 v11 v10 fun _ h =>
 bnd (ldA h 2 v1) fun v13 =>
 stD h 2 v2 v13 fun _ h =>
 bnd (ldA h 2 v2) fun v15 =>
 q v15 h)])
def schismaref03_trim_a:Ann:=(.n .x (.n (.r [.slot 0,.slot 1]) .o .o) (.n .x (.n .x (.n (.l [] [1,2] [((.exit 0),[],[1,2])] []) .o .o) .o) .o))
theorem schismaref03_trim_e (C:CC) (t0:V) (q:V→Hp→Prop):fnD Y C Go.Proofs.Tryz.f49 2 schismaref03_trim_a [t0] q=schismaref03_trim C t0 q:=by
 rfl
theorem schismaref03_trim_o:okB Go.Proofs.Tryz.prog Go.Proofs.Tryz.f49 schismaref03_trim_a=true:=by decide +kernel
theorem schismaref03_trim_i {t0 v:V} (h:schismaref03_trim (CX Y) t0 (out v)):CP Y F.schismaref03_trim [t0] v :=
 CP.of (fn:=Go.Proofs.Tryz.f49) (m:=2) (a:=schismaref03_trim_a) rfl (fun _=>rfl) Go.Proofs.Tryz.func49 schismaref03_trim_o (by rw [schismaref03_trim_e]; exact h)
def schismaref03_above_l0 (C:CC) (p0:V) (p1:V):StepT:=fun l h q =>
 bnd (biI .geq (ge l 0) (.d (.int .i64 0))) fun v1 =>
 cnd v1 (
 bnd (ixV h 1 p0 (ge l 0)) fun v2 =>
 bnd (ld1 h v2) fun v3 =>
 bnd (ixV h 1 p1 (ge l 0)) fun v4 =>
 bnd (ld1 h v4) fun v5 =>
 bnd (biI .lss v3 v5) fun v6 =>
 cnd v6 (
 q .ret [(.d (.int .i64 (-1)))] h) (
 bnd (ixV h 1 p0 (ge l 0)) fun v7 =>
 bnd (ld1 h v7) fun v8 =>
 bnd (ixV h 1 p1 (ge l 0)) fun v9 =>
 bnd (ld1 h v9) fun v10 =>
 bnd (biI .gtr v8 v10) fun v11 =>
 cnd v11 (
 q .ret [(.d (.int .i64 1))] h) (
 bnd (biI .sub (ge l 0) (.d (.int .i64 1))) fun v12 =>
 q .normal [v12] h))) (
 q (.exit 0) [] h)
def schismaref03_above (C:CC) (t0:V) (t1:V) (q:V→Hp→Prop):Prop :=
 let h:Hp:=List.replicate 0 (0,.none)
 bnd (lenV t0) fun v1 =>
 bnd (lenV t1) fun v2 =>
 bnd (biI .neq v1 v2) fun v3 =>
 cnd v3 (
 bnd (lenV t0) fun v4 =>
 bnd (lenV t1) fun v5 =>
 bnd (biI .lss v4 v5) fun v6 =>
 cnd v6 (
 q (.d (.int .i64 (-1))) h) (
 q (.d (.int .i64 1)) h)) (
 bnd (lenV t0) fun v7 =>
 bnd (biI .sub v7 (.d (.int .i64 1))) fun v8 =>
 lp (schismaref03_above_l0 C t0 t1) [] h [v8] h (exK [((.exit 0),fun l9 h =>
 q (.d (.int .i64 0)) h),
 (.ret,fun l9 h =>
 q (ge l9 0) h)]))
def schismaref03_above_a:Ann:=(.n .x .o (.n .x .o (.n .x (.n .x .o (.n .x (.n (.l [5] [0,1] [((.exit 0),[],[]),(.ret,[4],[])] []) .o .o) .o)) .o)))
theorem schismaref03_above_e (C:CC) (t0:V) (t1:V) (q:V→Hp→Prop):fnD Y C Go.Proofs.Tryz.f51 0 schismaref03_above_a [t0,t1] q=schismaref03_above C t0 t1 q:=by
 rfl
theorem schismaref03_above_o:okB Go.Proofs.Tryz.prog Go.Proofs.Tryz.f51 schismaref03_above_a=true:=by decide +kernel
theorem schismaref03_above_i {t0 t1 v:V} (h:schismaref03_above (CX Y) t0 t1 (out v)):CP Y F.schismaref03_above [t0,t1] v :=
 CP.of (fn:=Go.Proofs.Tryz.f51) (m:=0) (a:=schismaref03_above_a) rfl (fun _=>rfl) Go.Proofs.Tryz.func51 schismaref03_above_o (by rw [schismaref03_above_e]; exact h)
def schismaref03_minus_l0 (C:CC) (p0:V) (p1:V):StepT:=fun l h q =>
 bnd (lenV p0) fun v1 =>
 bnd (biI .lss (ge l 2) v1) fun v2 =>
 cnd v2 (
 bnd (ixV h 1 p0 (ge l 2)) fun v3 =>
 bnd (ld1 h v3) fun v4 =>
 bnd (biI .sub v4 (ge l 0)) fun v5 =>
 bnd (lenV p1) fun v6 =>
 bnd (biI .lss (ge l 2) v6) fun v7 =>
 jn (fun l8 h =>
 bnd (biI .lss (ge l8 0) (.d (.int .i64 0))) fun v10 =>
 jn (fun l11 h =>
 lisD 1 [.int .i64 0] [(0,(ge l11 0))] h fun v13 h =>
 apV false 0 1 8 (ge l 1) v13 h fun v14 h =>
 bnd (biI .add (ge l 2) (.d (.int .i64 1))) fun v15 =>
 q .normal [(ge l11 1),v14,v15] h) fun q12 =>
 cnd v10 (
 bnd (biI .add (ge l8 0) (.d (.int .i64 1000000000))) fun v16 =>
 q12 [v16,(.d (.int .i64 1))] h) (
 q12 [(ge l8 0),(.d (.int .i64 0))] h)) fun q9 =>
 cnd v7 (
 bnd (ixV h 1 p1 (ge l 2)) fun v17 =>
 bnd (ld1 h v17) fun v18 =>
 bnd (biI .sub v5 v18) fun v19 =>
 q9 [v19] h) (
 q9 [v5] h)) (
 q (.exit 0) [(ge l 1)] h)
def schismaref03_minus (C:CC) (t0:V) (t1:V) (q:V→Hp→Prop):Prop :=
 let h:Hp:=List.replicate 1 (0,.none)
 lp (schismaref03_minus_l0 C t0 t1) [] h [(.d (.int .i64 0)),(.d (.pl (.slice none 0 0))),(.d (.int .i64 0))] h (exK [((.exit 0),fun l1 h =>
 q (ge l1 0) h)])
def schismaref03_minus_a:Ann:=(.n .x .o (.n .x .o (.n .x .o (.n .x (.n .x .o (.n .x (.n (.l [6,5,7] [0,1] [((.exit 0),[5],[])] []) (.n .x .o (.n .x (.n .x (.n .x .o (.n .x (.n .x .o (.n (.j [8] [0,1,5,7]) .o .o)) (.n .x .o (.n .x (.n .x .o (.n (.j [8,6] [0,1,5,7]) .o .o)) (.n (.r [.o,.slot 0]) .o .o))))) .o) .o)) .o) .o)) .o))))
theorem schismaref03_minus_e (C:CC) (t0:V) (t1:V) (q:V→Hp→Prop):fnD Y C Go.Proofs.Tryz.f52 1 schismaref03_minus_a [t0,t1] q=schismaref03_minus C t0 t1 q:=by
 rfl
theorem schismaref03_minus_o:okB Go.Proofs.Tryz.prog Go.Proofs.Tryz.f52 schismaref03_minus_a=true:=by decide +kernel
theorem schismaref03_minus_i {t0 t1 v:V} (h:schismaref03_minus (CX Y) t0 t1 (out v)):CP Y F.schismaref03_minus [t0,t1] v :=
 CP.of (fn:=Go.Proofs.Tryz.f52) (m:=1) (a:=schismaref03_minus_a) rfl (fun _=>rfl) Go.Proofs.Tryz.func52 schismaref03_minus_o (by rw [schismaref03_minus_e]; exact h)
def schismaref03_NegW (C:CC) (t0:V) (q:V→Hp→Prop):Prop :=
 let h:Hp:=List.replicate 2 (0,.none)
 boxD 0 t0 h fun v1 h =>
 alV 1 [.d (.bool false),.d (.pl (.slice none 0 0))] h fun v2 h =>
 bnd (faV 0 v1) fun v3 =>
 bnd (ld1 h v3) fun v4 =>
 bnd (unV .not v4) fun v5 =>
 bnd (faV 1 v1) fun v6 =>
 bnd (ld1 h v6) fun v7 =>
 bnd (bld [(0,1),(1,1)] [.bool false,.pl (.slice none 0 0)] [(0,v5),(1,v7)]) fun v8 =>
 cal C.p h (.fn F.schismaref03_trim [] []) [v8] fun v9 h =>
 stD h 2 v2 v9 fun _ h =>
 bnd (ldA h 2 v2) fun v11 =>
 q v11 h
def schismaref03_MulW_l1 (C:CC) (p2:V) (p3:V) (p5:V) (p6:V):StepT:=fun l h q =>
 bnd (faV 1 p3) fun v1 =>
 bnd (ld1 h v1) fun v2 =>
 bnd (lenV v2) fun v3 =>
 bnd (biI .lss (ge l 1) v3) fun v4 =>
 gd v4 false h (fun q=>q (ge l 0) h) fun v5 h =>
 gd v4 false h (fun q=>bnd (biI .gtr v5 (.d (.int .i64 0))) fun v=>q v h) fun v6 h =>
 bnd (pickV v4 (.d (.bool true)) v6) fun v7 =>
 cnd v7 (
 bnd (biI .add p6 (ge l 1)) fun v8 =>
 bnd (ixV h 1 p5 v8) fun v9 =>
 bnd (ld1 h v9) fun v10 =>
 bnd (biI .add (ge l 0) v10) fun v11 =>
 bnd (faV 1 p3) fun v12 =>
 bnd (ld1 h v12) fun v13 =>
 bnd (lenV v13) fun v14 =>
 bnd (biI .lss (ge l 1) v14) fun v15 =>
 jn (fun l16 h =>
 bnd (biI .add p6 (ge l 1)) fun v18 =>
 bnd (biI .rem (ge l16 0) (.d (.int .i64 1000000000))) fun v19 =>
 bnd (ixV h 1 p5 v18) fun v20 =>
 stD h 1 v20 v19 fun _ h =>
 bnd (biI .quo (ge l16 0) (.d (.int .i64 1000000000))) fun v22 =>
 bnd (biI .add (ge l 1) (.d (.int .i64 1))) fun v23 =>
 q .normal [v22,v23] h) fun q17 =>
 cnd v15 (
 bnd (faV 1 p2) fun v24 =>
 bnd (ld1 h v24) fun v25 =>
 bnd (ixV h 1 v25 p6) fun v26 =>
 bnd (ld1 h v26) fun v27 =>
 bnd (faV 1 p3) fun v28 =>
 bnd (ld1 h v28) fun v29 =>
 bnd (ixV h 1 v29 (ge l 1)) fun v30 =>
 bnd (ld1 h v30) fun v31 =>
 bnd (biI .mul v27 v31) fun v32 =>
 bnd (biI .add v11 v32) fun v33 =>
 q17 [v33] h) (
 q17 [v11] h)) (
 q (.exit 2) [] h)
def schismaref03_MulW_l0 (C:CC) (p2:V) (p3:V) (p5:V):StepT:=fun l h q =>
 bnd (faV 1 p2) fun v1 =>
 bnd (ld1 h v1) fun v2 =>
 bnd (lenV v2) fun v3 =>
 bnd (biI .lss (ge l 0) v3) fun v4 =>
 cnd v4 (
 lp (schismaref03_MulW_l1 C p2 p3 p5 (ge l 0)) [] h [(.d (.int .i64 0)),(.d (.int .i64 0))] h (exK [((.exit 2),fun l5 h =>
 bnd (biI .add (ge l 0) (.d (.int .i64 1))) fun v6 =>
 q .normal [v6] h)])) (
 q (.exit 0) [] h)
def schismaref03_MulW (C:CC) (t0:V) (t1:V) (q:V→Hp→Prop):Prop :=
 let h:Hp:=List.replicate 4 (0,.none)
 boxD 0 t0 h fun v1 h =>
 boxD 1 t1 h fun v2 h =>
 alV 2 [.d (.bool false),.d (.pl (.slice none 0 0))] h fun v3 h =>
 bnd (faV 1 v1) fun v4 =>
 bnd (ld1 h v4) fun v5 =>
 bnd (lenV v5) fun v6 =>
 bnd (faV 1 v2) fun v7 =>
 bnd (ld1 h v7) fun v8 =>
 bnd (lenV v8) fun v9 =>
 bnd (biI .add v6 v9) fun v10 =>
 bnd (biI .add v10 (.d (.int .i64 1))) fun v11 =>
 mkS 3 8 [.int .i64 0] h v11 v11 fun v12 h =>
 lp (schismaref03_MulW_l0 C v1 v2 v12) [] h [(.d (.int .i64 0))] h (exK [((.exit 0),fun l13 h =>
 bnd (faV 0 v1) fun v14 =>
 bnd (ld1 h v14) fun v15 =>
 bnd (faV 0 v2) fun v16 =>
 bnd (ld1 h v16) fun v17 =>
 bnd (biB .neq v15 v17) fun v18 =>
 bnd (bld [(0,1),(1,1)] [.bool false,.pl (.slice none 0 0)] [(0,v18),(1,v12)]) fun v19 =>
 cal C.p h (.fn F.schismaref03_trim [] []) [v19] fun v20 h =>
 stD h 2 v3 v20 fun _ h =>
 bnd (ldA h 2 v3) fun v22 =>
 q v22 h)])
def schismaref03_MulW_a:Ann:=(.n .x (.n (.r [.slot 0,.slot 1,.slot 2]) .o .o) (.n .x (.n (.r [.slot 3]) .o .o) (.n .x (.n .x .o (.n .x (.n (.l [6] [2,3,4,5] [((.exit 0),[],[2,3,4,5])] []) (.n .x .o (.n .x (.n .x (.n .x .o (.n .x .o (.n .x (.n (.l [7,8] [2,3,4,5,6] [((.exit 2),[],[2,3,4,5,6])] []) (.n .x .o (.n .x (.n .x (.n .x .o (.n .x (.n .x .o (.n (.j [7] [2,3,4,5,6,8]) .o .o)) .o)) .o) .o)) .o) .o))) .o) .o)) .o) .o)) .o)))
theorem schismaref03_MulW_e (C:CC) (t0:V) (t1:V) (q:V→Hp→Prop):fnD Y C Go.Proofs.Tryz.f14 4 schismaref03_MulW_a [t0,t1] q=schismaref03_MulW C t0 t1 q:=by
 rfl
theorem schismaref03_MulW_o:okB Go.Proofs.Tryz.prog Go.Proofs.Tryz.f14 schismaref03_MulW_a=true:=by decide +kernel
theorem schismaref03_MulW_i {t0 t1 v:V} (h:schismaref03_MulW (CX Y) t0 t1 (out v)):CP Y F.schismaref03_MulW [t0,t1] v :=
 CP.of (fn:=Go.Proofs.Tryz.f14) (m:=4) (a:=schismaref03_MulW_a) rfl (fun _=>rfl) Go.Proofs.Tryz.func14 schismaref03_MulW_o (by rw [schismaref03_MulW_e]; exact h)
def schismaref03_SignW (C:CC) (t0:V) (q:V→Hp→Prop):Prop :=
 let h:Hp:=List.replicate 1 (0,.none)
 boxD 0 t0 h fun v1 h =>
 bnd (faV 1 v1) fun v2 =>
 bnd (ld1 h v2) fun v3 =>
 bnd (lenV v3) fun v4 =>
 bnd (biI .eql v4 (.d (.int .i64 0))) fun v5 =>
 cnd v5 (
 q (.d (.int .i64 0)) h) (
 bnd (faV 0 v1) fun v6 =>
 bnd (ld1 h v6) fun v7 =>
 cnd v7 (
 q (.d (.int .i64 (-1))) h) (
 q (.d (.int .i64 1)) h))
def schismaref03_SignW_a:Ann:=(.n .x (.n (.r [.slot 0]) .o .o) .o)
theorem schismaref03_SignW_e (C:CC) (t0:V) (q:V→Hp→Prop):fnD Y C Go.Proofs.Tryz.f109 1 schismaref03_SignW_a [t0] q=schismaref03_SignW C t0 q:=by
 rfl
theorem schismaref03_SignW_o:okB Go.Proofs.Tryz.prog Go.Proofs.Tryz.f109 schismaref03_SignW_a=true:=by decide +kernel
theorem schismaref03_SignW_i {t0 v:V} (h:schismaref03_SignW (CX Y) t0 (out v)):CP Y F.schismaref03_SignW [t0] v :=
 CP.of (fn:=Go.Proofs.Tryz.f109) (m:=1) (a:=schismaref03_SignW_a) rfl (fun _=>rfl) Go.Proofs.Tryz.func109 schismaref03_SignW_o (by rw [schismaref03_SignW_e]; exact h)
def schismaref03_To_l0 (C:CC) (p4:V):StepT:=fun l h q =>
 bnd (lenS (ge l 0)) fun v1 =>
 bnd (biI .gtr v1 (.d (.int .i64 0))) fun v2 =>
 cnd v2 (
 bnd (lenS (ge l 0)) fun v3 =>
 bnd (biI .sub v3 (.d (.int .i64 9))) fun v4 =>
 bnd (mxI true [(.d (.int .i64 0)),v4]) fun v5 =>
 bnd (slS (ge l 0) (some v5) none) fun v6 =>
 cal C.p h (.fn F.strconv_Atoi [] []) [v6] fun v7 h =>
 ext v7 0 fun v8 =>
 ext v7 1 fun v9 =>
 bnd (faV 1 p4) fun v10 =>
 bnd (ld1 h v10) fun v11 =>
 lisD 1 [.int .i64 0] [(0,v8)] h fun v12 h =>
 apV false 2 1 8 v11 v12 h fun v13 h =>
 bnd (faV 1 p4) fun v14 =>
 stD h 1 v14 v13 fun _ h =>
 bnd (slS (ge l 0) none (some v5)) fun v16 =>
 q .normal [v16] h) (
 q (.exit 0) [] h)
def schismaref03_To (C:CC) (t0:V) (q:V→Hp→Prop):Prop :=
 let h:Hp:=List.replicate 3 (0,.none)
 alV 0 [.d (.bool false),.d (.pl (.slice none 0 0))] h fun v1 h =>
 cal C.p h (.fn F.strings_HasPrefix [] []) [t0,(.d (.str [45]))] fun v2 h =>
 bnd (bld [(0,1),(1,1)] [.bool false,.pl (.slice none 0 0)] [(0,v2)]) fun v3 =>
 alV 1 [.d (.bool false),.d (.pl (.slice none 0 0))] h fun v4 h =>
 stD h 2 v4 v3 fun _ h =>
 bnd (faV 0 v4) fun v6 =>
 bnd (ld1 h v6) fun v7 =>
 jn (fun l8 h =>
 lp (schismaref03_To_l0 C v4) [] h [(ge l8 0)] h (exK [((.exit 0),fun l10 h =>
 bnd (ldA h 2 v4) fun v11 =>
 cal C.p h (.fn F.schismaref03_trim [] []) [v11] fun v12 h =>
 stD h 2 v1 v12 fun _ h =>
 bnd (ldA h 2 v1) fun v14 =>
 q v14 h)])) fun q9 =>
 cnd v7 (
 bnd (slS t0 (some (.d (.int .i64 1))) none) fun v15 =>
 q9 [v15] h) (
 q9 [t0] h)
def schismaref03_To_a:Ann:=(.n .x (.n (.r [.slot 0]) .o .o) (.n .x .o (.n .x (.n (.r [.o,.slot 1]) .o .o) (.n .x (.n .x .o (.n (.j [3] [2,4]) .o .o)) (.n .x (.n .x (.n (.l [3] [2,4] [((.exit 0),[],[2,4])] []) (.n .x .o (.n .x (.n .x .o (.n .x .o (.n .x (.n (.r [.o,.slot 2]) .o .o) .o))) .o)) .o) .o) .o)))))
theorem schismaref03_To_e (C:CC) (t0:V) (q:V→Hp→Prop):fnD Y C Go.Proofs.Tryz.f39 3 schismaref03_To_a [t0] q=schismaref03_To C t0 q:=by
 rfl
theorem schismaref03_To_o:okB Go.Proofs.Tryz.prog Go.Proofs.Tryz.f39 schismaref03_To_a=true:=by decide +kernel
theorem schismaref03_To_i {t0 v:V} (h:schismaref03_To (CX Y) t0 (out v)):CP Y F.schismaref03_To [t0] v :=
 CP.of (fn:=Go.Proofs.Tryz.f39) (m:=3) (a:=schismaref03_To_a) rfl (fun _=>rfl) Go.Proofs.Tryz.func39 schismaref03_To_o (by rw [schismaref03_To_e]; exact h)
def schismaref03_From_l0 (C:CC) (p1:V):StepT:=fun l h q =>
 bnd (faV 1 p1) fun v1 =>
 bnd (ld1 h v1) fun v2 =>
 bnd (lenV v2) fun v3 =>
 bnd (biI .lss (ge l 1) v3) fun v4 =>
 cnd v4 (
 bnd (faV 1 p1) fun v5 =>
 bnd (ld1 h v5) fun v6 =>
 bnd (ixV h 1 v6 (ge l 1)) fun v7 =>
 bnd (ld1 h v7) fun v8 =>
 cal C.p h (.fn F.strconv_Itoa [] []) [v8] fun v9 h =>
 bnd (biI .add (ge l 1) (.d (.int .i64 1))) fun v10 =>
 bnd (faV 1 p1) fun v11 =>
 bnd (ld1 h v11) fun v12 =>
 bnd (lenV v12) fun v13 =>
 bnd (biI .lss v10 v13) fun v14 =>
 jn (fun l15 h =>
 bnd (biS .add (ge l15 0) (ge l 0)) fun v17 =>
 bnd (biI .add (ge l 1) (.d (.int .i64 1))) fun v18 =>
 q .normal [v17,v18] h) fun q16 =>
 cnd v14 (
 bnd (lenS v9) fun v19 =>
 bnd (biI .sub (.d (.int .i64 9)) v19) fun v20 =>
 cal C.p h (.fn F.strings_Repeat [] []) [(.d (.str [48])),v20] fun v21 h =>
 bnd (biS .add v21 v9) fun v22 =>
 q16 [v22] h) (
 q16 [v9] h)) (
 q (.exit 0) [(ge l 0)] h)
def schismaref03_From (C:CC) (t0:V) (q:V→Hp→Prop):Prop :=
 let h:Hp:=List.replicate 1 (0,.none)
 boxD 0 t0 h fun v1 h =>
 bnd (faV 1 v1) fun v2 =>
 bnd (ld1 h v2) fun v3 =>
 bnd (lenV v3) fun v4 =>
 bnd (biI .eql v4 (.d (.int .i64 0))) fun v5 =>
 cnd v5 (
 q (.d (.str [48])) h) (
 lp (schismaref03_From_l0 C v1) [] h [(.d (.str [])),(.d (.int .i64 0))] h (exK [((.exit 0),fun l6 h =>
 bnd (faV 0 v1) fun v7 =>
 bnd (ld1 h v7) fun v8 =>
 jn (fun l9 h =>
 q (ge l9 0) h) fun q10 =>
 cnd v8 (
 bnd (biS .add (.d (.str [45])) (ge l6 0)) fun v11 =>
 q10 [v11] h) (
 q10 [(ge l6 0)] h))]))
def schismaref03_From_a:Ann:=(.n .x (.n (.r [.slot 0]) .o .o) (.n .x .o (.n .x .o (.n .x (.n .x .o (.n .x (.n (.l [3,4] [1] [((.exit 0),[3],[1])] []) (.n .x .o (.n .x (.n .x (.n .x .o (.n .x (.n .x .o (.n (.j [5] [1,3,4]) .o .o)) .o)) .o) .o)) .o) .o)) (.n .x (.n .x .o (.n (.j [3] []) .o .o)) .o)))))
theorem schismaref03_From_e (C:CC) (t0:V) (q:V→Hp→Prop):fnD Y C Go.Proofs.Tryz.f38 1 schismaref03_From_a [t0] q=schismaref03_From C t0 q:=by
 rfl
theorem schismaref03_From_o:okB Go.Proofs.Tryz.prog Go.Proofs.Tryz.f38 schismaref03_From_a=true:=by decide +kernel
theorem schismaref03_From_i {t0 v:V} (h:schismaref03_From (CX Y) t0 (out v)):CP Y F.schismaref03_From [t0] v :=
 CP.of (fn:=Go.Proofs.Tryz.f38) (m:=1) (a:=schismaref03_From_a) rfl (fun _=>rfl) Go.Proofs.Tryz.func38 schismaref03_From_o (by rw [schismaref03_From_e]; exact h)
def schismaref03_Int (C:CC) (t0:V) (q:V→Hp→Prop):Prop :=
 let h:Hp:=List.replicate 0 (0,.none)
 cal C.p h (.fn F.strconv_Itoa [] []) [t0] fun v1 h =>
 q v1 h
def schismaref03_Int_a:Ann:=.o
theorem schismaref03_Int_e (C:CC) (t0:V) (q:V→Hp→Prop):fnD Y C Go.Proofs.Tryz.f53 0 schismaref03_Int_a [t0] q=schismaref03_Int C t0 q:=by
 rfl
theorem schismaref03_Int_o:okB Go.Proofs.Tryz.prog Go.Proofs.Tryz.f53 schismaref03_Int_a=true:=by decide +kernel
theorem schismaref03_Int_i {t0 v:V} (h:schismaref03_Int (CX Y) t0 (out v)):CP Y F.schismaref03_Int [t0] v :=
 CP.of (fn:=Go.Proofs.Tryz.f53) (m:=0) (a:=schismaref03_Int_a) rfl (fun _=>rfl) Go.Proofs.Tryz.func53 schismaref03_Int_o (by rw [schismaref03_Int_e]; exact h)
def schismaref03_Of (C:CC) (t0:V) (q:V→Hp→Prop):Prop :=
 let h:Hp:=List.replicate 1 (0,.none)
 alV 0 [.d (.bool false),.d (.pl (.slice none 0 0))] h fun v1 h =>
 cal C.p h (.fn F.schismaref03_Int [] []) [t0] fun v2 h =>
 cal C.p h (.fn F.schismaref03_To [] []) [v2] fun v3 h =>
 stD h 2 v1 v3 fun _ h =>
 bnd (ldA h 2 v1) fun v5 =>
 q v5 h
def schismaref03_Of_a:Ann:=(.n .x (.n (.r [.slot 0]) .o .o) .o)
theorem schismaref03_Of_e (C:CC) (t0:V) (q:V→Hp→Prop):fnD Y C Go.Proofs.Tryz.f15 1 schismaref03_Of_a [t0] q=schismaref03_Of C t0 q:=by
 rfl
theorem schismaref03_Of_o:okB Go.Proofs.Tryz.prog Go.Proofs.Tryz.f15 schismaref03_Of_a=true:=by decide +kernel
theorem schismaref03_Of_i {t0 v:V} (h:schismaref03_Of (CX Y) t0 (out v)):CP Y F.schismaref03_Of [t0] v :=
 CP.of (fn:=Go.Proofs.Tryz.f15) (m:=1) (a:=schismaref03_Of_a) rfl (fun _=>rfl) Go.Proofs.Tryz.func15 schismaref03_Of_o (by rw [schismaref03_Of_e]; exact h)
def schismaref03_Make (C:CC) (t0:V) (t1:V) (q:V→Hp→Prop):Prop :=
 let h:Hp:=List.replicate 4 (0,.none)
 boxD 0 t0 h fun v1 h =>
 boxD 1 t1 h fun v2 h =>
 alV 2 [.d (.str []),.d (.str [])] h fun v3 h =>
 bnd (ldA h 2 v2) fun v4 =>
 cal C.p h (.fn F.schismaref03_SignW [] []) [v4] fun v5 h =>
 bnd (biI .lss v5 (.d (.int .i64 0))) fun v6 =>
 jn (fun l7 h =>
 bnd (faV 1 v1) fun v9 =>
 bnd (ld1 h v9) fun v10 =>
 bnd (lenV v10) fun v11 =>
 bnd (biI .leq v11 (.d (.int .i64 1))) fun v12 =>
 gd v12 true h (fun q=>bnd (faV 1 v2) fun v=>q v h) fun v13 h =>
 gd v12 true h (fun q=>bnd (ld1 h v13) fun v=>q v h) fun v14 h =>
 gd v12 true h (fun q=>bnd (lenV v14) fun v=>q v h) fun v15 h =>
 gd v12 true h (fun q=>bnd (biI .eql v15 (.d (.int .i64 1))) fun v=>q v h) fun v16 h =>
 bnd (pickV v12 v16 (.d (.bool false))) fun v17 =>
 cnd v17 (
 bnd (ldA h 2 v1) fun v18 =>
 bnd (faV 1 v2) fun v19 =>
 bnd (ld1 h v19) fun v20 =>
 bnd (ixV h 1 v20 (.d (.int .i64 0))) fun v21 =>
 bnd (ld1 h v21) fun v22 =>
 cal C.p h (.fn F.schismaref03_little [] []) [v18,v22] fun v23 h =>
 stD h 2 v3 v23 fun _ h =>
 bnd (ldA h 2 v3) fun v25 =>
 q v25 h) (
 bnd (ldA h 2 v1) fun v26 =>
 bnd (ldA h 2 v2) fun v27 =>
 cal C.p h (.fn F.schismaref03_GcdW [] []) [v26,v27] fun v28 h =>
 alV 3 [.d (.bool false),.d (.pl (.slice none 0 0))] h fun v29 h =>
 stD h 2 v29 v28 fun _ h =>
 bnd (faV 1 v1) fun v31 =>
 bnd (ld1 h v31) fun v32 =>
 bnd (faV 1 v29) fun v33 =>
 bnd (ld1 h v33) fun v34 =>
 cal C.p h (.fn F.schismaref03_divide [] []) [v32,v34] fun v35 h =>
 ext v35 0 fun v36 =>
 ext v35 1 fun v37 =>
 bnd (faV 1 v2) fun v38 =>
 bnd (ld1 h v38) fun v39 =>
 bnd (faV 1 v29) fun v40 =>
 bnd (ld1 h v40) fun v41 =>
 cal C.p h (.fn F.schismaref03_divide [] []) [v39,v41] fun v42 h =>
 ext v42 0 fun v43 =>
 ext v42 1 fun v44 =>
 bnd (faV 0 v1) fun v45 =>
 bnd (ld1 h v45) fun v46 =>
 bnd (bld [(0,1),(1,1)] [.bool false,.pl (.slice none 0 0)] [(0,v46),(1,v36)]) fun v47 =>
 cal C.p h (.fn F.schismaref03_trim [] []) [v47] fun v48 h =>
 cal C.p h (.fn F.schismaref03_From [] []) [v48] fun v49 h =>
 bnd (bld [(0,1),(1,1)] [.bool false,.pl (.slice none 0 0)] [(1,v43)]) fun v50 =>
 cal C.p h (.fn F.schismaref03_From [] []) [v50] fun v51 h =>
 bnd (bld [(0,1),(1,1)] [.str [],.str []] [(0,v49),(1,v51)]) fun v52 =>
 stD h 2 v3 v52 fun _ h =>
 bnd (ldA h 2 v3) fun v54 =>
 q v54 h)) fun q8 =>
 cnd v6 (
 bnd (ldA h 2 v1) fun v55 =>
 cal C.p h (.fn F.schismaref03_NegW [] []) [v55] fun v56 h =>
 bnd (ldA h 2 v2) fun v57 =>
 cal C.p h (.fn F.schismaref03_NegW [] []) [v57] fun v58 h =>
 stD h 2 v1 v56 fun _ h =>
 stD h 2 v2 v58 fun _ h =>
 q8 [] h) (
 q8 [] h)
def schismaref03_Make_a:Ann:=(.n .x (.n (.r [.slot 0,.slot 1,.slot 2]) .o .o) (.n .x (.n .x .o (.n (.j [] [2,3,4]) .o .o)) (.n .x .o (.n .x (.n (.r [.o,.slot 3]) .o .o) .o))))
theorem schismaref03_Make_e (C:CC) (t0:V) (t1:V) (q:V→Hp→Prop):fnD Y C Go.Proofs.Tryz.f129 4 schismaref03_Make_a [t0,t1] q=schismaref03_Make C t0 t1 q:=by
 rfl
theorem schismaref03_Make_o:okB Go.Proofs.Tryz.prog Go.Proofs.Tryz.f129 schismaref03_Make_a=true:=by decide +kernel
theorem schismaref03_Make_i {t0 t1 v:V} (h:schismaref03_Make (CX Y) t0 t1 (out v)):CP Y F.schismaref03_Make [t0,t1] v :=
 CP.of (fn:=Go.Proofs.Tryz.f129) (m:=4) (a:=schismaref03_Make_a) rfl (fun _=>rfl) Go.Proofs.Tryz.func129 schismaref03_Make_o (by rw [schismaref03_Make_e]; exact h)
def schismaref03_little_l0 (C:CC):StepT:=fun l h q =>
 bnd (biI .gtr (ge l 1) (.d (.int .i64 0))) fun v1 =>
 cnd v1 (
 bnd (biI .rem (ge l 0) (ge l 1)) fun v2 =>
 q .normal [(ge l 1),v2] h) (
 q (.exit 0) [(ge l 0)] h)
def schismaref03_little (C:CC) (t0:V) (t1:V) (q:V→Hp→Prop):Prop :=
 let h:Hp:=List.replicate 2 (0,.none)
 boxD 0 t0 h fun v1 h =>
 alV 1 [.d (.str []),.d (.str [])] h fun v2 h =>
 bnd (faV 1 v1) fun v3 =>
 bnd (ld1 h v3) fun v4 =>
 bnd (lenV v4) fun v5 =>
 bnd (biI .gtr v5 (.d (.int .i64 0))) fun v6 =>
 jn (fun l7 h =>
 lp (schismaref03_little_l0 C) [] h [(ge l7 0),t1] h (exK [((.exit 0),fun l9 h =>
 bnd (biI .quo (ge l7 0) (ge l9 0)) fun v10 =>
 bnd (biI .quo t1 (ge l9 0)) fun v11 =>
 bnd (faV 0 v1) fun v12 =>
 bnd (ld1 h v12) fun v13 =>
 jn (fun l14 h =>
 cal C.p h (.fn F.schismaref03_Int [] []) [(ge l14 0)] fun v16 h =>
 cal C.p h (.fn F.schismaref03_Int [] []) [v11] fun v17 h =>
 bnd (bld [(0,1),(1,1)] [.str [],.str []] [(0,v16),(1,v17)]) fun v18 =>
 stD h 2 v2 v18 fun _ h =>
 bnd (ldA h 2 v2) fun v20 =>
 q v20 h) fun q15 =>
 cnd v13 (
 bnd (unV .neg v10) fun v21 =>
 q15 [v21] h) (
 q15 [v10] h))])) fun q8 =>
 cnd v6 (
 bnd (faV 1 v1) fun v22 =>
 bnd (ld1 h v22) fun v23 =>
 bnd (ixV h 1 v23 (.d (.int .i64 0))) fun v24 =>
 bnd (ld1 h v24) fun v25 =>
 q8 [v25] h) (
 q8 [(.d (.int .i64 0))] h)
def schismaref03_little_a:Ann:=(.n .x (.n (.r [.slot 0,.slot 1]) .o .o) (.n .x .o (.n .x (.n .x .o (.n (.j [5] [1,2,4]) .o .o)) (.n .x .o (.n .x (.n .x (.n (.l [6,7] [1,2,4,5] [((.exit 0),[6],[1,2,4,5])] []) .o .o) .o) (.n .x .o (.n .x (.n .x .o (.n (.j [5] [1,4]) .o .o)) .o)))))))
theorem schismaref03_little_e (C:CC) (t0:V) (t1:V) (q:V→Hp→Prop):fnD Y C Go.Proofs.Tryz.f160 2 schismaref03_little_a [t0,t1] q=schismaref03_little C t0 t1 q:=by
 rfl
theorem schismaref03_little_o:okB Go.Proofs.Tryz.prog Go.Proofs.Tryz.f160 schismaref03_little_a=true:=by decide +kernel
theorem schismaref03_little_i {t0 t1 v:V} (h:schismaref03_little (CX Y) t0 t1 (out v)):CP Y F.schismaref03_little [t0,t1] v :=
 CP.of (fn:=Go.Proofs.Tryz.f160) (m:=2) (a:=schismaref03_little_a) rfl (fun _=>rfl) Go.Proofs.Tryz.func160 schismaref03_little_o (by rw [schismaref03_little_e]; exact h)
def schismaref03_Frac (C:CC) (t0:V) (t1:V) (q:V→Hp→Prop):Prop :=
 let h:Hp:=List.replicate 1 (0,.none)
 alV 0 [.d (.str []),.d (.str [])] h fun v1 h =>
 cal C.p h (.fn F.schismaref03_Of [] []) [t0] fun v2 h =>
 cal C.p h (.fn F.schismaref03_Of [] []) [t1] fun v3 h =>
 cal C.p h (.fn F.schismaref03_Make [] []) [v2,v3] fun v4 h =>
 stD h 2 v1 v4 fun _ h =>
 bnd (ldA h 2 v1) fun v6 =>
 q v6 h
def schismaref03_Frac_a:Ann:=(.n .x (.n (.r [.slot 0]) .o .o) .o)
theorem schismaref03_Frac_e (C:CC) (t0:V) (t1:V) (q:V→Hp→Prop):fnD Y C Go.Proofs.Tryz.f94 1 schismaref03_Frac_a [t0,t1] q=schismaref03_Frac C t0 t1 q:=by
 rfl
theorem schismaref03_Frac_o:okB Go.Proofs.Tryz.prog Go.Proofs.Tryz.f94 schismaref03_Frac_a=true:=by decide +kernel
theorem schismaref03_Frac_i {t0 t1 v:V} (h:schismaref03_Frac (CX Y) t0 t1 (out v)):CP Y F.schismaref03_Frac [t0,t1] v :=
 CP.of (fn:=Go.Proofs.Tryz.f94) (m:=1) (a:=schismaref03_Frac_a) rfl (fun _=>rfl) Go.Proofs.Tryz.func94 schismaref03_Frac_o (by rw [schismaref03_Frac_e]; exact h)
end Go.Vm
set_option maxRecDepth 100000
set_option maxHeartbeats 4000000
namespace Go.Vm
open Go Go.Am
def checker_trim_l0 (C:CC):StepT:=fun l h q =>
 bnd (lenV (ge l 0)) fun v1 =>
 bnd (biI .gtr v1 (.d (.int .i64 0))) fun v2 =>
 gd v2 true h (fun q=>q (ge l 0) h) fun v3 h =>
 gd v2 true h (fun q=>q (ge l 0) h) fun v4 h =>
 gd v2 true h (fun q=>bnd (lenV v4) fun v=>q v h) fun v5 h =>
 gd v2 true h (fun q=>bnd (biI .sub v5 (.d (.int .i64 1))) fun v=>q v h) fun v6 h =>
 gd v2 true h (fun q=>bnd (ixV h 1 v3 v6) fun v=>q v h) fun v7 h =>
 gd v2 true h (fun q=>bnd (ld1 h v7) fun v=>q v h) fun v8 h =>
 gd v2 true h (fun q=>bnd (biI .eql v8 (.d (.int .u32 0))) fun v=>q v h) fun v9 h =>
 bnd (pickV v2 v9 (.d (.bool false))) fun v10 =>
 cnd v10 (
 bnd (lenV (ge l 0)) fun v11 =>
 bnd (biI .sub v11 (.d (.int .i64 1))) fun v12 =>
 bnd (slV h 1 (ge l 0) none (some v12)) fun v13 =>
 q .normal [v13] h) (
 q (.exit 0) [(ge l 0)] h)
def checker_trim (C:CC) (t0:V) (q:V→Hp→Prop):Prop :=
 let h:Hp:=List.replicate 0 (0,.none)
 lp (checker_trim_l0 C) [] h [t0] h (exK [((.exit 0),fun l1 h =>
 q (ge l1 0) h)])
def checker_trim_a:Ann:=(.n .x .o (.n .x (.n .x (.n (.l [0] [] [((.exit 0),[0],[])] []) .o .o) .o) .o))
theorem checker_trim_e (C:CC) (t0:V) (q:V→Hp→Prop):fnD Y C Go.Proofs.Tryz.f131 0 checker_trim_a [t0] q=checker_trim C t0 q:=by
 rfl
theorem checker_trim_o:okB Go.Proofs.Tryz.prog Go.Proofs.Tryz.f131 checker_trim_a=true:=by decide +kernel
theorem checker_trim_i {t0 v:V} (h:checker_trim (CX Y) t0 (out v)):CP Y F.checker_trim [t0] v :=
 CP.of (fn:=Go.Proofs.Tryz.f131) (m:=0) (a:=checker_trim_a) rfl (fun _=>rfl) Go.Proofs.Tryz.func131 checker_trim_o (by rw [checker_trim_e]; exact h)
def checker_of (C:CC) (t0:V) (q:V→Hp→Prop):Prop :=
 let h:Hp:=List.replicate 0 (0,.none)
 bnd (cvI .u32 t0) fun v1 =>
 bnd (biI .shr t0 (.d (.int .u64 32))) fun v2 =>
 bnd (cvI .u32 v2) fun v3 =>
 lisD 2 [.int .u32 0] [(0,v1),(1,v3)] h fun v4 h =>
 cal C.p h (.fn F.checker_trim [] []) [v4] fun v5 h =>
 q v5 h
def checker_of_a:Ann:=.o
theorem checker_of_e (C:CC) (t0:V) (q:V→Hp→Prop):fnD Y C Go.Proofs.Tryz.f99 0 checker_of_a [t0] q=checker_of C t0 q:=by
 rfl
theorem checker_of_o:okB Go.Proofs.Tryz.prog Go.Proofs.Tryz.f99 checker_of_a=true:=by decide +kernel
theorem checker_of_i {t0 v:V} (h:checker_of (CX Y) t0 (out v)):CP Y F.checker_of [t0] v :=
 CP.of (fn:=Go.Proofs.Tryz.f99) (m:=0) (a:=checker_of_a) rfl (fun _=>rfl) Go.Proofs.Tryz.func99 checker_of_o (by rw [checker_of_e]; exact h)
def checker_order_l0 (C:CC) (p0:V) (p1:V):StepT:=fun l h q =>
 bnd (biI .geq (ge l 0) (.d (.int .i64 0))) fun v1 =>
 cnd v1 (
 bnd (ixV h 1 p0 (ge l 0)) fun v2 =>
 bnd (ld1 h v2) fun v3 =>
 bnd (ixV h 1 p1 (ge l 0)) fun v4 =>
 bnd (ld1 h v4) fun v5 =>
 bnd (biI .lss v3 v5) fun v6 =>
 cnd v6 (
 q .ret [(.d (.int .i64 (-1)))] h) (
 bnd (ixV h 1 p0 (ge l 0)) fun v7 =>
 bnd (ld1 h v7) fun v8 =>
 bnd (ixV h 1 p1 (ge l 0)) fun v9 =>
 bnd (ld1 h v9) fun v10 =>
 bnd (biI .gtr v8 v10) fun v11 =>
 cnd v11 (
 q .ret [(.d (.int .i64 1))] h) (
 bnd (biI .sub (ge l 0) (.d (.int .i64 1))) fun v12 =>
 q .normal [v12] h))) (
 q (.exit 0) [] h)
def checker_order (C:CC) (t0:V) (t1:V) (q:V→Hp→Prop):Prop :=
 let h:Hp:=List.replicate 0 (0,.none)
 bnd (lenV t0) fun v1 =>
 bnd (lenV t1) fun v2 =>
 bnd (biI .neq v1 v2) fun v3 =>
 cnd v3 (
 bnd (lenV t0) fun v4 =>
 bnd (lenV t1) fun v5 =>
 bnd (biI .lss v4 v5) fun v6 =>
 cnd v6 (
 q (.d (.int .i64 (-1))) h) (
 q (.d (.int .i64 1)) h)) (
 bnd (lenV t0) fun v7 =>
 bnd (biI .sub v7 (.d (.int .i64 1))) fun v8 =>
 lp (checker_order_l0 C t0 t1) [] h [v8] h (exK [((.exit 0),fun l9 h =>
 q (.d (.int .i64 0)) h),
 (.ret,fun l9 h =>
 q (ge l9 0) h)]))
def checker_order_a:Ann:=(.n .x .o (.n .x .o (.n .x (.n .x .o (.n .x (.n (.l [5] [0,1] [((.exit 0),[],[]),(.ret,[4],[])] []) .o .o) .o)) .o)))
theorem checker_order_e (C:CC) (t0:V) (t1:V) (q:V→Hp→Prop):fnD Y C Go.Proofs.Tryz.f80 0 checker_order_a [t0,t1] q=checker_order C t0 t1 q:=by
 rfl
theorem checker_order_o:okB Go.Proofs.Tryz.prog Go.Proofs.Tryz.f80 checker_order_a=true:=by decide +kernel
theorem checker_order_i {t0 t1 v:V} (h:checker_order (CX Y) t0 t1 (out v)):CP Y F.checker_order [t0,t1] v :=
 CP.of (fn:=Go.Proofs.Tryz.f80) (m:=0) (a:=checker_order_a) rfl (fun _=>rfl) Go.Proofs.Tryz.func80 checker_order_o (by rw [checker_order_e]; exact h)
def checker_plus_l0 (C:CC) (p0:V) (p1:V) (p5:V) (p20:V):StepT:=fun l h q =>
 bnd (biI .lss (ge l 1) p20) fun v1 =>
 cnd v1 (
 bnd (lenV p0) fun v2 =>
 bnd (biI .lss (ge l 1) v2) fun v3 =>
 jn (fun l4 h =>
 bnd (lenV p1) fun v6 =>
 bnd (biI .lss (ge l 1) v6) fun v7 =>
 jn (fun l8 h =>
 bnd (cvI .u32 (ge l8 0)) fun v10 =>
 bnd (ixV h 1 p5 (ge l 1)) fun v11 =>
 stD h 1 v11 v10 fun _ h =>
 bnd (biI .shr (ge l8 0) (.d (.int .u64 32))) fun v13 =>
 bnd (biI .add (ge l 1) (.d (.int .i64 1))) fun v14 =>
 q .normal [v13,v14] h) fun q9 =>
 cnd v7 (
 bnd (ixV h 1 p1 (ge l 1)) fun v15 =>
 bnd (ld1 h v15) fun v16 =>
 bnd (cvI .u64 v16) fun v17 =>
 bnd (biI .add (ge l4 0) v17) fun v18 =>
 q9 [v18] h) (
 q9 [(ge l4 0)] h)) fun q5 =>
 cnd v3 (
 bnd (ixV h 1 p0 (ge l 1)) fun v19 =>
 bnd (ld1 h v19) fun v20 =>
 bnd (cvI .u64 v20) fun v21 =>
 bnd (biI .add (ge l 0) v21) fun v22 =>
 q5 [v22] h) (
 q5 [(ge l 0)] h)) (
 q (.exit 0) [] h)
def checker_plus (C:CC) (t0:V) (t1:V) (q:V→Hp→Prop):Prop :=
 let h:Hp:=List.replicate 1 (0,.none)
 bnd (lenV t0) fun v1 =>
 bnd (lenV t1) fun v2 =>
 bnd (biI .lss v1 v2) fun v3 =>
 jn (fun l4 h =>
 bnd (lenV (ge l4 0)) fun v6 =>
 bnd (biI .add v6 (.d (.int .i64 1))) fun v7 =>
 mkS 0 4 [.int .u32 0] h v7 v7 fun v8 h =>
 bnd (lenV v8) fun v9 =>
 lp (checker_plus_l0 C (ge l4 0) (ge l4 1) v8 v9) [] h [(.d (.int .u64 0)),(.d (.int .i64 0))] h (exK [((.exit 0),fun l10 h =>
 cal C.p h (.fn F.checker_trim [] []) [v8] fun v11 h =>
 q v11 h)])) fun q5 =>
 cnd v3 (
 q5 [t1,t0] h) (
 q5 [t0,t1] h)
def checker_plus_a:Ann:=(.n .x .o (.n .x (.n .x .o (.n (.j [0,1] []) .o .o)) (.n .x (.n (.r [.slot 0]) .o .o) (.n .x .o (.n .x (.n .x .o (.n .x (.n (.l [6,21] [0,1,5,20] [((.exit 0),[],[5])] []) (.n .x .o (.n .x .o (.n .x (.n .x (.n .x .o (.n .x (.n .x .o (.n (.j [6] [0,1,5,7,20,21]) .o .o)) (.n .x (.n .x .o (.n (.j [6] [0,1,5,7,20,21]) .o .o)) .o))) .o) .o))) .o) .o)) .o)))))
theorem checker_plus_e (C:CC) (t0:V) (t1:V) (q:V→Hp→Prop):fnD Y C Go.Proofs.Tryz.f102 1 checker_plus_a [t0,t1] q=checker_plus C t0 t1 q:=by
 rfl
theorem checker_plus_o:okB Go.Proofs.Tryz.prog Go.Proofs.Tryz.f102 checker_plus_a=true:=by decide +kernel
theorem checker_plus_i {t0 t1 v:V} (h:checker_plus (CX Y) t0 t1 (out v)):CP Y F.checker_plus [t0,t1] v :=
 CP.of (fn:=Go.Proofs.Tryz.f102) (m:=1) (a:=checker_plus_a) rfl (fun _=>rfl) Go.Proofs.Tryz.func102 checker_plus_o (by rw [checker_plus_e]; exact h)
def checker_less_l0 (C:CC) (p0:V) (p1:V) (p5:V) (p13:V):StepT:=fun l h q =>
 bnd (biI .lss (ge l 1) p13) fun v1 =>
 cnd v1 (
 bnd (ixV h 1 p0 (ge l 1)) fun v2 =>
 bnd (ld1 h v2) fun v3 =>
 bnd (cvI .i64 v3) fun v4 =>
 bnd (biI .sub v4 (ge l 0)) fun v5 =>
 bnd (lenV p1) fun v6 =>
 bnd (biI .lss (ge l 1) v6) fun v7 =>
 jn (fun l8 h =>
 bnd (biI .lss (ge l8 0) (.d (.int .i64 0))) fun v10 =>
 jn (fun l11 h =>
 bnd (cvI .u32 (ge l11 0)) fun v13 =>
 bnd (ixV h 1 p5 (ge l 1)) fun v14 =>
 stD h 1 v14 v13 fun _ h =>
 bnd (biI .add (ge l 1) (.d (.int .i64 1))) fun v16 =>
 q .normal [(ge l11 1),v16] h) fun q12 =>
 cnd v10 (
 bnd (biI .add (ge l8 0) (.d (.int .i64 4294967296))) fun v17 =>
 q12 [v17,(.d (.int .i64 1))] h) (
 q12 [(ge l8 0),(.d (.int .i64 0))] h)) fun q9 =>
 cnd v7 (
 bnd (ixV h 1 p1 (ge l 1)) fun v18 =>
 bnd (ld1 h v18) fun v19 =>
 bnd (cvI .i64 v19) fun v20 =>
 bnd (biI .sub v5 v20) fun v21 =>
 q9 [v21] h) (
 q9 [v5] h)) (
 q (.exit 0) [] h)
def checker_less (C:CC) (t0:V) (t1:V) (q:V→Hp→Prop):Prop :=
 let h:Hp:=List.replicate 1 (0,.none)
 bnd (lenV t0) fun v1 =>
 mkS 0 4 [.int .u32 0] h v1 v1 fun v2 h =>
 bnd (lenV t0) fun v3 =>
 lp (checker_less_l0 C t0 t1 v2 v3) [] h [(.d (.int .i64 0)),(.d (.int .i64 0))] h (exK [((.exit 0),fun l4 h =>
 cal C.p h (.fn F.checker_trim [] []) [v2] fun v5 h =>
 q v5 h)])
def checker_less_a:Ann:=(.n .x .o (.n .x (.n (.r [.slot 0]) .o .o) (.n .x .o (.n .x (.n .x .o (.n .x (.n (.l [6,14] [0,1,5,13] [((.exit 0),[],[5])] []) (.n .x .o (.n .x .o (.n .x (.n .x (.n .x .o (.n .x .o (.n .x (.n .x .o (.n (.j [8] [0,1,5,7,13,14]) .o .o)) (.n .x .o (.n .x (.n .x .o (.n (.j [8,6] [0,1,5,7,13,14]) .o .o)) .o))))) .o) .o))) .o) .o)) .o))))
theorem checker_less_e (C:CC) (t0:V) (t1:V) (q:V→Hp→Prop):fnD Y C Go.Proofs.Tryz.f103 1 checker_less_a [t0,t1] q=checker_less C t0 t1 q:=by
 rfl
theorem checker_less_o:okB Go.Proofs.Tryz.prog Go.Proofs.Tryz.f103 checker_less_a=true:=by decide +kernel
theorem checker_less_i {t0 t1 v:V} (h:checker_less (CX Y) t0 t1 (out v)):CP Y F.checker_less [t0,t1] v :=
 CP.of (fn:=Go.Proofs.Tryz.f103) (m:=1) (a:=checker_less_a) rfl (fun _=>rfl) Go.Proofs.Tryz.func103 checker_less_o (by rw [checker_less_e]; exact h)
def checker_product_l1 (C:CC) (p5:V) (p6:V) (p7:V) (p24:V) (p25:V):StepT:=fun l h q =>
 bnd (biI .lss (ge l 1) p25) fun v1 =>
 cnd v1 (
 bnd (ixV h 1 p24 (ge l 1)) fun v2 =>
 bnd (ld1 h v2) fun v3 =>
 bnd (cvI .u64 p7) fun v4 =>
 bnd (cvI .u64 v3) fun v5 =>
 bnd (biI .mul v4 v5) fun v6 =>
 bnd (biI .add p6 (ge l 1)) fun v7 =>
 bnd (ixV h 1 p5 v7) fun v8 =>
 bnd (ld1 h v8) fun v9 =>
 bnd (cvI .u64 v9) fun v10 =>
 bnd (biI .add v6 v10) fun v11 =>
 bnd (biI .add (ge l 0) v11) fun v12 =>
 bnd (biI .add p6 (ge l 1)) fun v13 =>
 bnd (cvI .u32 v12) fun v14 =>
 bnd (ixV h 1 p5 v13) fun v15 =>
 stD h 1 v15 v14 fun _ h =>
 bnd (biI .shr v12 (.d (.int .u64 32))) fun v17 =>
 bnd (biI .add (ge l 1) (.d (.int .i64 1))) fun v18 =>
 q .normal [v17,v18] h) (
 q (.exit 2) [(ge l 0)] h)
def checker_product_l0 (C:CC) (p1:V) (p5:V) (p17:V) (p18:V):StepT:=fun l h q =>
 bnd (biI .lss (ge l 0) p18) fun v1 =>
 cnd v1 (
 bnd (ixV h 1 p17 (ge l 0)) fun v2 =>
 bnd (ld1 h v2) fun v3 =>
 bnd (lenV p1) fun v4 =>
 lp (checker_product_l1 C p5 (ge l 0) v3 p1 v4) [] h [(.d (.int .u64 0)),(.d (.int .i64 0))] h (exK [((.exit 2),fun l5 h =>
 bnd (lenV p1) fun v6 =>
 bnd (biI .add (ge l 0) v6) fun v7 =>
 bnd (cvI .u32 (ge l5 0)) fun v8 =>
 bnd (ixV h 1 p5 v7) fun v9 =>
 stD h 1 v9 v8 fun _ h =>
 bnd (biI .add (ge l 0) (.d (.int .i64 1))) fun v11 =>
 q .normal [v11] h)])) (
 q (.exit 0) [] h)
def checker_product (C:CC) (t0:V) (t1:V) (q:V→Hp→Prop):Prop :=
 let h:Hp:=List.replicate 1 (0,.none)
 bnd (lenV t0) fun v1 =>
 bnd (lenV t1) fun v2 =>
 bnd (biI .add v1 v2) fun v3 =>
 mkS 0 4 [.int .u32 0] h v3 v3 fun v4 h =>
 bnd (lenV t0) fun v5 =>
 lp (checker_product_l0 C t1 v4 t0 v5) [] h [(.d (.int .i64 0))] h (exK [((.exit 0),fun l6 h =>
 cal C.p h (.fn F.checker_trim [] []) [v4] fun v7 h =>
 q v7 h)])
def checker_product_a:Ann:=(.n .x .o (.n .x (.n (.r [.slot 0]) .o .o) (.n .x (.n .x .o (.n .x (.n (.l [19] [1,5,17,18] [((.exit 0),[],[5])] []) (.n .x .o (.n .x .o (.n .x (.n .x (.n .x .o (.n .x .o (.n .x (.n .x .o (.n .x (.n (.l [8,26] [1,5,6,7,17,18,19,24,25] [((.exit 2),[8],[1,5,6,17,18,19])] []) .o .o) .o)) .o))) .o) .o))) .o) .o)) .o)))
theorem checker_product_e (C:CC) (t0:V) (t1:V) (q:V→Hp→Prop):fnD Y C Go.Proofs.Tryz.f104 1 checker_product_a [t0,t1] q=checker_product C t0 t1 q:=by
 rfl
theorem checker_product_o:okB Go.Proofs.Tryz.prog Go.Proofs.Tryz.f104 checker_product_a=true:=by decide +kernel
theorem checker_product_i {t0 t1 v:V} (h:checker_product (CX Y) t0 t1 (out v)):CP Y F.checker_product [t0,t1] v :=
 CP.of (fn:=Go.Proofs.Tryz.f104) (m:=1) (a:=checker_product_a) rfl (fun _=>rfl) Go.Proofs.Tryz.func104 checker_product_o (by rw [checker_product_e]; exact h)
def checker_bits_l0 (C:CC):StepT:=fun l h q =>
 bnd (biI .gtr (ge l 1) (.d (.int .u32 0))) fun v1 =>
 cnd v1 (
 bnd (biI .add (ge l 0) (.d (.int .i64 1))) fun v2 =>
 bnd (biI .shr (ge l 1) (.d (.int .u64 1))) fun v3 =>
 q .normal [v2,v3] h) (
 q (.exit 0) [(ge l 0)] h)
def checker_bits (C:CC) (t0:V) (q:V→Hp→Prop):Prop :=
 let h:Hp:=List.replicate 0 (0,.none)
 bnd (lenV t0) fun v1 =>
 bnd (biI .eql v1 (.d (.int .i64 0))) fun v2 =>
 cnd v2 (
 q (.d (.int .i64 0)) h) (
 bnd (lenV t0) fun v3 =>
 bnd (biI .sub v3 (.d (.int .i64 1))) fun v4 =>
 bnd (biI .mul (.d (.int .i64 32)) v4) fun v5 =>
 bnd (lenV t0) fun v6 =>
 bnd (biI .sub v6 (.d (.int .i64 1))) fun v7 =>
 bnd (ixV h 1 t0 v7) fun v8 =>
 bnd (ld1 h v8) fun v9 =>
 lp (checker_bits_l0 C) [] h [v5,v9] h (exK [((.exit 0),fun l10 h =>
 q (ge l10 0) h)]))
def checker_bits_a:Ann:=(.n .x .o (.n .x .o (.n .x .o (.n .x (.n .x .o (.n .x (.n (.l [3,4] [] [((.exit 0),[3],[])] []) .o .o) .o)) .o))))
theorem checker_bits_e (C:CC) (t0:V) (q:V→Hp→Prop):fnD Y C Go.Proofs.Tryz.f112 0 checker_bits_a [t0] q=checker_bits C t0 q:=by
 rfl
theorem checker_bits_o:okB Go.Proofs.Tryz.prog Go.Proofs.Tryz.f112 checker_bits_a=true:=by decide +kernel
theorem checker_bits_i {t0 v:V} (h:checker_bits (CX Y) t0 (out v)):CP Y F.checker_bits [t0] v :=
 CP.of (fn:=Go.Proofs.Tryz.f112) (m:=0) (a:=checker_bits_a) rfl (fun _=>rfl) Go.Proofs.Tryz.func112 checker_bits_o (by rw [checker_bits_e]; exact h)
def checker_shift_l0 (C:CC) (p0:V) (p5:V) (p6:V) (p7:V) (p33:V):StepT:=fun l h q =>
 bnd (biI .lss (ge l 0) p33) fun v1 =>
 cnd v1 (
 jn (fun l2 h =>
 bnd (biI .add (ge l 0) (.d (.int .i64 1))) fun v4 =>
 q .normal [v4] h) fun q3 =>
 bnd (ixV h 1 p7 (ge l 0)) fun v5 =>
 bnd (ld1 h v5) fun v6 =>
 bnd (biI .shr v6 p6) fun v7 =>
 bnd (ixV h 1 p7 (ge l 0)) fun v8 =>
 stD h 1 v8 v7 fun _ h =>
 bnd (biI .add (ge l 0) (.d (.int .i64 1))) fun v10 =>
 bnd (lenV p7) fun v11 =>
 bnd (biI .lss v10 v11) fun v12 =>
 gd v12 true h (fun q=>q p6 h) fun v13 h =>
 gd v12 true h (fun q=>bnd (biI .gtr v13 (.d (.int .u64 0))) fun v=>q v h) fun v14 h =>
 bnd (pickV v12 v14 (.d (.bool false))) fun v15 =>
 jn (fun l16 h =>
 q3 [] h) fun q17 =>
 cnd v15 (
 bnd (ixV h 1 p7 (ge l 0)) fun v18 =>
 bnd (ld1 h v18) fun v19 =>
 bnd (biI .add p5 (ge l 0)) fun v20 =>
 bnd (biI .add v20 (.d (.int .i64 1))) fun v21 =>
 bnd (ixV h 1 p0 v21) fun v22 =>
 bnd (ld1 h v22) fun v23 =>
 bnd (biI .sub (.d (.int .u64 32)) p6) fun v24 =>
 bnd (biI .shl v23 v24) fun v25 =>
 bnd (biI .or v19 v25) fun v26 =>
 bnd (ixV h 1 p7 (ge l 0)) fun v27 =>
 stD h 1 v27 v26 fun _ h =>
 q17 [] h) (
 q17 [] h)) (
 q (.exit 0) [] h)
def checker_shift_l1 (C:CC) (p9:V) (p10:V) (p11:V) (p83:V) (p84:V):StepT:=fun l h q =>
 bnd (biI .lss (ge l 0) p84) fun v1 =>
 cnd v1 (
 bnd (ixV h 1 p83 (ge l 0)) fun v2 =>
 bnd (ld1 h v2) fun v3 =>
 bnd (cvI .u64 v3) fun v4 =>
 bnd (biI .shl v4 p10) fun v5 =>
 bnd (biI .add p9 (ge l 0)) fun v6 =>
 bnd (ixV h 1 p11 v6) fun v7 =>
 bnd (ld1 h v7) fun v8 =>
 bnd (cvI .u32 v5) fun v9 =>
 bnd (biI .or v8 v9) fun v10 =>
 bnd (ixV h 1 p11 v6) fun v11 =>
 stD h 1 v11 v10 fun _ h =>
 bnd (biI .add p9 (ge l 0)) fun v13 =>
 bnd (biI .add v13 (.d (.int .i64 1))) fun v14 =>
 bnd (biI .shr v5 (.d (.int .u64 32))) fun v15 =>
 bnd (cvI .u32 v15) fun v16 =>
 bnd (ixV h 1 p11 v14) fun v17 =>
 stD h 1 v17 v16 fun _ h =>
 bnd (biI .add (ge l 0) (.d (.int .i64 1))) fun v19 =>
 q .normal [v19] h) (
 q (.exit 2) [] h)
def checker_shift (C:CC) (t0:V) (t1:V) (q:V→Hp→Prop):Prop :=
 let h:Hp:=List.replicate 2 (0,.none)
 bnd (biI .lss t1 (.d (.int .i64 0))) fun v1 =>
 cnd v1 (
 bnd (unV .neg t1) fun v2 =>
 bnd (biI .quo v2 (.d (.int .i64 32))) fun v3 =>
 bnd (unV .neg t1) fun v4 =>
 bnd (biI .rem v4 (.d (.int .i64 32))) fun v5 =>
 bnd (cvI .u64 v5) fun v6 =>
 bnd (lenV t0) fun v7 =>
 bnd (biI .geq v3 v7) fun v8 =>
 cnd v8 (
 q (.d (.pl (.slice none 0 0))) h) (
 bnd (slV h 1 t0 (some v3) none) fun v9 =>
 cai C.i h (.fn F.slices_Clone_checker_natural_uint32 [] []) [v9] 0 fun v10 h =>
 bnd (lenV v10) fun v11 =>
 lp (checker_shift_l0 C t0 v3 v6 v10 v11) [] h [(.d (.int .i64 0))] h (exK [((.exit 0),fun l12 h =>
 cal C.p h (.fn F.checker_trim [] []) [v10] fun v13 h =>
 q v13 h)]))) (
 bnd (biI .quo t1 (.d (.int .i64 32))) fun v14 =>
 bnd (biI .rem t1 (.d (.int .i64 32))) fun v15 =>
 bnd (cvI .u64 v15) fun v16 =>
 bnd (lenV t0) fun v17 =>
 bnd (biI .add v14 v17) fun v18 =>
 bnd (biI .add v18 (.d (.int .i64 1))) fun v19 =>
 mkS 1 4 [.int .u32 0] h v19 v19 fun v20 h =>
 bnd (lenV t0) fun v21 =>
 lp (checker_shift_l1 C v14 v16 v20 t0 v21) [] h [(.d (.int .i64 0))] h (exK [((.exit 2),fun l22 h =>
 cal C.p h (.fn F.checker_trim [] []) [v20] fun v23 h =>
 q v23 h)]))
def checker_shift_a:Ann:=(.n .x .o (.n .x (.n .x .o (.n .x (.n .x .o (.n .x .o (.n .x (.n (.r [.inl 0]) .o .o) (.n .x (.n .x .o (.n .x (.n (.l [34] [0,5,6,7,33] [((.exit 0),[],[7])] []) (.n .x .o (.n .x .o (.n .x (.n (.j [] [0,5,6,7,33,34]) (.n .x .o (.n .x .o (.n .x .o (.n (.j [] [0,5,6,7,33,34]) .o .o)))) .o) .o))) .o) .o)) .o)))) .o)) (.n .x .o (.n .x (.n (.r [.slot 1]) .o .o) (.n .x (.n .x .o (.n .x (.n (.l [85] [9,10,11,83,84] [((.exit 2),[],[11])] []) .o .o) .o)) .o)))))
theorem checker_shift_e (C:CC) (t0:V) (t1:V) (q:V→Hp→Prop):fnD Y C Go.Proofs.Tryz.f113 2 checker_shift_a [t0,t1] q=checker_shift C t0 t1 q:=by
 rfl
theorem checker_shift_o:okB Go.Proofs.Tryz.prog Go.Proofs.Tryz.f113 checker_shift_a=true:=by decide +kernel
theorem checker_shift_i {t0 t1 v:V} (h:checker_shift (CX Y) t0 t1 (out v)):CP Y F.checker_shift [t0,t1] v :=
 CP.of (fn:=Go.Proofs.Tryz.f113) (m:=2) (a:=checker_shift_a) rfl (fun _=>rfl) Go.Proofs.Tryz.func113 checker_shift_o (by rw [checker_shift_e]; exact h)
def checker_divide_l0 (C:CC) (p1:V):StepT:=fun l h q =>
 bnd (biI .geq (ge l 2) (.d (.int .i64 0))) fun v1 =>
 cnd v1 (
 jn (fun l2 h =>
 bnd (biI .sub (ge l 2) (.d (.int .i64 1))) fun v4 =>
 q .normal [(ge l2 0),(ge l2 1),v4] h) fun q3 =>
 cal C.p h (.fn F.checker_shift [] []) [p1,(ge l 2)] fun v5 h =>
 cal C.p h (.fn F.checker_order [] []) [(ge l 0),v5] fun v6 h =>
 bnd (biI .geq v6 (.d (.int .i64 0))) fun v7 =>
 jn (fun l8 h =>
 q3 [(ge l8 0),(ge l8 1)] h) fun q9 =>
 cnd v7 (
 cal C.p h (.fn F.checker_less [] []) [(ge l 0),v5] fun v10 h =>
 lisD 1 [.int .u32 0] [(0,(.d (.int .u32 1)))] h fun v11 h =>
 cal C.p h (.fn F.checker_shift [] []) [v11,(ge l 2)] fun v12 h =>
 cal C.p h (.fn F.checker_plus [] []) [(ge l 1),v12] fun v13 h =>
 q9 [v10,v13] h) (
 q9 [(ge l 0),(ge l 1)] h)) (
 q (.exit 0) [(ge l 0),(ge l 1)] h)
def checker_divide (C:CC) (t0:V) (t1:V) (q:V→Hp→Prop):Prop :=
 let h:Hp:=List.replicate 0 (0,.none)
 cal C.p h (.fn F.checker_bits [] []) [t0] fun v1 h =>
 cal C.p h (.fn F.checker_bits [] []) [t1] fun v2 h =>
 bnd (biI .sub v1 v2) fun v3 =>
 lp (checker_divide_l0 C t1) [] h [t0,(.d (.pl (.slice none 0 0))),v3] h (exK [((.exit 0),fun l4 h =>
 q (.tup [(ge l4 1),(ge l4 0)]) h)])
def checker_divide_a:Ann:=(.n .x .o (.n .x (.n .x .o (.n .x (.n (.l [0,4,6] [1] [((.exit 0),[0,4],[])] []) (.n .x .o (.n .x (.n (.j [0,4] [1,6]) (.n .x .o (.n .x .o (.n (.j [0,4] [1,6]) .o .o))) .o) .o)) .o) .o)) .o))
theorem checker_divide_e (C:CC) (t0:V) (t1:V) (q:V→Hp→Prop):fnD Y C Go.Proofs.Tryz.f132 0 checker_divide_a [t0,t1] q=checker_divide C t0 t1 q:=by
 rfl
theorem checker_divide_o:okB Go.Proofs.Tryz.prog Go.Proofs.Tryz.f132 checker_divide_a=true:=by decide +kernel
theorem checker_divide_i {t0 t1 v:V} (h:checker_divide (CX Y) t0 t1 (out v)):CP Y F.checker_divide [t0,t1] v :=
 CP.of (fn:=Go.Proofs.Tryz.f132) (m:=0) (a:=checker_divide_a) rfl (fun _=>rfl) Go.Proofs.Tryz.func132 checker_divide_o (by rw [checker_divide_e]; exact h)
def checker_common_l0 (C:CC):StepT:=fun l h q =>
 bnd (lenV (ge l 1)) fun v1 =>
 bnd (biI .gtr v1 (.d (.int .i64 0))) fun v2 =>
 cnd v2 (
 cal C.p h (.fn F.checker_divide [] []) [(ge l 0),(ge l 1)] fun v3 h =>
 ext v3 0 fun v4 =>
 ext v3 1 fun v5 =>
 q .normal [(ge l 1),v5] h) (
 q (.exit 0) [(ge l 0)] h)
def checker_common (C:CC) (t0:V) (t1:V) (q:V→Hp→Prop):Prop :=
 let h:Hp:=List.replicate 0 (0,.none)
 lp (checker_common_l0 C) [] h [t0,t1] h (exK [((.exit 0),fun l1 h =>
 q (ge l1 0) h)])
def checker_common_a:Ann:=(.n .x .o (.n .x (.n .x (.n (.l [0,1] [] [((.exit 0),[0],[])] []) .o .o) .o) .o))
theorem checker_common_e (C:CC) (t0:V) (t1:V) (q:V→Hp→Prop):fnD Y C Go.Proofs.Tryz.f107 0 checker_common_a [t0,t1] q=checker_common C t0 t1 q:=by
 rfl
theorem checker_common_o:okB Go.Proofs.Tryz.prog Go.Proofs.Tryz.f107 checker_common_a=true:=by decide +kernel
theorem checker_common_i {t0 t1 v:V} (h:checker_common (CX Y) t0 t1 (out v)):CP Y F.checker_common [t0,t1] v :=
 CP.of (fn:=Go.Proofs.Tryz.f107) (m:=0) (a:=checker_common_a) rfl (fun _=>rfl) Go.Proofs.Tryz.func107 checker_common_o (by rw [checker_common_e]; exact h)
end Go.Vm
set_option maxRecDepth 100000
set_option maxHeartbeats 4000000
namespace Go.Vm
open Go Go.Am
def checker_number (C:CC) (t0:V) (q:V→Hp→Prop):Prop :=
 let h:Hp:=List.replicate 1 (0,.none)
 alV 0 [.d (.bool false),.d (.pl (.slice none 0 0))] h fun v1 h =>
 bnd (biI .lss t0 (.d (.int .i64 0))) fun v2 =>
 cnd v2 (
 bnd (unV .neg t0) fun v3 =>
 bnd (cvI .u64 v3) fun v4 =>
 cal C.p h (.fn F.checker_of [] []) [v4] fun v5 h =>
 bnd (bld [(0,1),(1,1)] [.bool false,.pl (.slice none 0 0)] [(0,(.d (.bool true))),(1,v5)]) fun v6 =>
 stD h 2 v1 v6 fun _ h =>
 bnd (ldA h 2 v1) fun v8 =>
 q v8 h) (
 bnd (cvI .u64 t0) fun v9 =>
 cal C.p h (.fn F.checker_of [] []) [v9] fun v10 h =>
 bnd (bld [(0,1),(1,1)] [.bool false,.pl (.slice none 0 0)] [(0,(.d (.bool false))),(1,v10)]) fun v11 =>
 stD h 2 v1 v11 fun _ h =>
 bnd (ldA h 2 v1) fun v13 =>
 q v13 h)
def checker_number_a:Ann:=(.n .x (.n (.r [.slot 0]) .o .o) .o)
theorem checker_number_e (C:CC) (t0:V) (q:V→Hp→Prop):fnD Y C Go.Proofs.Tryz.f60 1 checker_number_a [t0] q=checker_number C t0 q:=by
 rfl
theorem checker_number_o:okB Go.Proofs.Tryz.prog Go.Proofs.Tryz.f60 checker_number_a=true:=by decide +kernel
theorem checker_number_i {t0 v:V} (h:checker_number (CX Y) t0 (out v)):CP Y F.checker_number [t0] v :=
 CP.of (fn:=Go.Proofs.Tryz.f60) (m:=1) (a:=checker_number_a) rfl (fun _=>rfl) Go.Proofs.Tryz.func60 checker_number_o (by rw [checker_number_e]; exact h)
def checker_integer_turned (C:CC) (t0:V) (q:V→Hp→Prop):Prop :=
 let h:Hp:=List.replicate 2 (0,.none)
 boxD 0 t0 h fun v1 h =>
 alV 1 [.d (.bool false),.d (.pl (.slice none 0 0))] h fun v2 h =>
 bnd (faV 0 v1) fun v3 =>
 bnd (ld1 h v3) fun v4 =>
 bnd (unV .not v4) fun v5 =>
 gd v5 true h (fun q=>bnd (faV 1 v1) fun v=>q v h) fun v6 h =>
 gd v5 true h (fun q=>bnd (ld1 h v6) fun v=>q v h) fun v7 h =>
 gd v5 true h (fun q=>bnd (lenV v7) fun v=>q v h) fun v8 h =>
 gd v5 true h (fun q=>bnd (biI .gtr v8 (.d (.int .i64 0))) fun v=>q v h) fun v9 h =>
 bnd (pickV v5 v9 (.d (.bool false))) fun v10 =>
 bnd (faV 1 v1) fun v11 =>
 bnd (ld1 h v11) fun v12 =>
 bnd (bld [(0,1),(1,1)] [.bool false,.pl (.slice none 0 0)] [(0,v10),(1,v12)]) fun v13 =>
 stD h 2 v2 v13 fun _ h =>
 bnd (ldA h 2 v2) fun v15 =>
 q v15 h
def checker_integer_turned_a:Ann:=(.n .x (.n (.r [.slot 0,.slot 1]) .o .o) .o)
theorem checker_integer_turned_e (C:CC) (t0:V) (q:V→Hp→Prop):fnD Y C Go.Proofs.Tryz.f163 2 checker_integer_turned_a [t0] q=checker_integer_turned C t0 q:=by
 rfl
theorem checker_integer_turned_o:okB Go.Proofs.Tryz.prog Go.Proofs.Tryz.f163 checker_integer_turned_a=true:=by decide +kernel
theorem checker_integer_turned_i {t0 v:V} (h:checker_integer_turned (CX Y) t0 (out v)):CP Y F.checker_integer_turned [t0] v :=
 CP.of (fn:=Go.Proofs.Tryz.f163) (m:=2) (a:=checker_integer_turned_a) rfl (fun _=>rfl) Go.Proofs.Tryz.func163 checker_integer_turned_o (by rw [checker_integer_turned_e]; exact h)
def checker_integer_add (C:CC) (t0:V) (t1:V) (q:V→Hp→Prop):Prop :=
 let h:Hp:=List.replicate 3 (0,.none)
 boxD 0 t0 h fun v1 h =>
 boxD 1 t1 h fun v2 h =>
 alV 2 [.d (.bool false),.d (.pl (.slice none 0 0))] h fun v3 h =>
 bnd (faV 0 v1) fun v4 =>
 bnd (ld1 h v4) fun v5 =>
 bnd (faV 0 v2) fun v6 =>
 bnd (ld1 h v6) fun v7 =>
 bnd (biB .eql v5 v7) fun v8 =>
 cnd v8 (
 bnd (faV 0 v1) fun v9 =>
 bnd (ld1 h v9) fun v10 =>
 bnd (faV 1 v1) fun v11 =>
 bnd (ld1 h v11) fun v12 =>
 bnd (faV 1 v2) fun v13 =>
 bnd (ld1 h v13) fun v14 =>
 cal C.p h (.fn F.checker_plus [] []) [v12,v14] fun v15 h =>
 bnd (bld [(0,1),(1,1)] [.bool false,.pl (.slice none 0 0)] [(0,v10),(1,v15)]) fun v16 =>
 stD h 2 v3 v16 fun _ h =>
 bnd (ldA h 2 v3) fun v18 =>
 q v18 h) (
 bnd (faV 1 v1) fun v19 =>
 bnd (ld1 h v19) fun v20 =>
 bnd (faV 1 v2) fun v21 =>
 bnd (ld1 h v21) fun v22 =>
 cal C.p h (.fn F.checker_order [] []) [v20,v22] fun v23 h =>
 bnd (biI .eql v23 (.d (.int .i64 1))) fun v24 =>
 cnd v24 (
 bnd (faV 0 v1) fun v25 =>
 bnd (ld1 h v25) fun v26 =>
 bnd (faV 1 v1) fun v27 =>
 bnd (ld1 h v27) fun v28 =>
 bnd (faV 1 v2) fun v29 =>
 bnd (ld1 h v29) fun v30 =>
 cal C.p h (.fn F.checker_less [] []) [v28,v30] fun v31 h =>
 bnd (bld [(0,1),(1,1)] [.bool false,.pl (.slice none 0 0)] [(0,v26),(1,v31)]) fun v32 =>
 stD h 2 v3 v32 fun _ h =>
 bnd (ldA h 2 v3) fun v34 =>
 q v34 h) (
 bnd (biI .eql v23 (.d (.int .i64 (-1)))) fun v35 =>
 cnd v35 (
 bnd (faV 0 v2) fun v36 =>
 bnd (ld1 h v36) fun v37 =>
 bnd (faV 1 v2) fun v38 =>
 bnd (ld1 h v38) fun v39 =>
 bnd (faV 1 v1) fun v40 =>
 bnd (ld1 h v40) fun v41 =>
 cal C.p h (.fn F.checker_less [] []) [v39,v41] fun v42 h =>
 bnd (bld [(0,1),(1,1)] [.bool false,.pl (.slice none 0 0)] [(0,v37),(1,v42)]) fun v43 =>
 stD h 2 v3 v43 fun _ h =>
 bnd (ldA h 2 v3) fun v45 =>
 q v45 h) (
 bnd (bld [(0,1),(1,1)] [.bool false,.pl (.slice none 0 0)] []) fun v46 =>
 stD h 2 v3 v46 fun _ h =>
 bnd (ldA h 2 v3) fun v48 =>
 q v48 h)))
def checker_integer_add_a:Ann:=(.n .x (.n (.r [.slot 0,.slot 1,.slot 2]) .o .o) .o)
theorem checker_integer_add_e (C:CC) (t0:V) (t1:V) (q:V→Hp→Prop):fnD Y C Go.Proofs.Tryz.f67 3 checker_integer_add_a [t0,t1] q=checker_integer_add C t0 t1 q:=by
 rfl
theorem checker_integer_add_o:okB Go.Proofs.Tryz.prog Go.Proofs.Tryz.f67 checker_integer_add_a=true:=by decide +kernel
theorem checker_integer_add_i {t0 t1 v:V} (h:checker_integer_add (CX Y) t0 t1 (out v)):CP Y F.checker_integer_add [t0,t1] v :=
 CP.of (fn:=Go.Proofs.Tryz.f67) (m:=3) (a:=checker_integer_add_a) rfl (fun _=>rfl) Go.Proofs.Tryz.func67 checker_integer_add_o (by rw [checker_integer_add_e]; exact h)
def checker_integer_times (C:CC) (t0:V) (t1:V) (q:V→Hp→Prop):Prop :=
 let h:Hp:=List.replicate 3 (0,.none)
 boxD 0 t0 h fun v1 h =>
 boxD 1 t1 h fun v2 h =>
 alV 2 [.d (.bool false),.d (.pl (.slice none 0 0))] h fun v3 h =>
 bnd (faV 1 v1) fun v4 =>
 bnd (ld1 h v4) fun v5 =>
 bnd (faV 1 v2) fun v6 =>
 bnd (ld1 h v6) fun v7 =>
 cal C.p h (.fn F.checker_product [] []) [v5,v7] fun v8 h =>
 bnd (lenV v8) fun v9 =>
 bnd (biI .gtr v9 (.d (.int .i64 0))) fun v10 =>
 gd v10 true h (fun q=>bnd (faV 0 v1) fun v=>q v h) fun v11 h =>
 gd v10 true h (fun q=>bnd (ld1 h v11) fun v=>q v h) fun v12 h =>
 gd v10 true h (fun q=>bnd (faV 0 v2) fun v=>q v h) fun v13 h =>
 gd v10 true h (fun q=>bnd (ld1 h v13) fun v=>q v h) fun v14 h =>
 gd v10 true h (fun q=>bnd (biB .neq v12 v14) fun v=>q v h) fun v15 h =>
 bnd (pickV v10 v15 (.d (.bool false))) fun v16 =>
 bnd (bld [(0,1),(1,1)] [.bool false,.pl (.slice none 0 0)] [(0,v16),(1,v8)]) fun v17 =>
 stD h 2 v3 v17 fun _ h =>
 bnd (ldA h 2 v3) fun v19 =>
 q v19 h
def checker_integer_times_a:Ann:=(.n .x (.n (.r [.slot 0,.slot 1,.slot 2]) .o .o) .o)
theorem checker_integer_times_e (C:CC) (t0:V) (t1:V) (q:V→Hp→Prop):fnD Y C Go.Proofs.Tryz.f68 3 checker_integer_times_a [t0,t1] q=checker_integer_times C t0 t1 q:=by
 rfl
theorem checker_integer_times_o:okB Go.Proofs.Tryz.prog Go.Proofs.Tryz.f68 checker_integer_times_a=true:=by decide +kernel
theorem checker_integer_times_i {t0 t1 v:V} (h:checker_integer_times (CX Y) t0 t1 (out v)):CP Y F.checker_integer_times [t0,t1] v :=
 CP.of (fn:=Go.Proofs.Tryz.f68) (m:=3) (a:=checker_integer_times_a) rfl (fun _=>rfl) Go.Proofs.Tryz.func68 checker_integer_times_o (by rw [checker_integer_times_e]; exact h)
def checker_integer_equal (C:CC) (t0:V) (t1:V) (q:V→Hp→Prop):Prop :=
 let h:Hp:=List.replicate 2 (0,.none)
 boxD 0 t0 h fun v1 h =>
 boxD 1 t1 h fun v2 h =>
 bnd (faV 0 v1) fun v3 =>
 bnd (ld1 h v3) fun v4 =>
 bnd (faV 0 v2) fun v5 =>
 bnd (ld1 h v5) fun v6 =>
 bnd (biB .eql v4 v6) fun v7 =>
 gd v7 true h (fun q=>bnd (faV 1 v1) fun v=>q v h) fun v8 h =>
 gd v7 true h (fun q=>bnd (ld1 h v8) fun v=>q v h) fun v9 h =>
 gd v7 true h (fun q=>bnd (faV 1 v2) fun v=>q v h) fun v10 h =>
 gd v7 true h (fun q=>bnd (ld1 h v10) fun v=>q v h) fun v11 h =>
 gd v7 true h (fun q=>cal C.p h (.fn F.checker_order [] []) [v9,v11] q) fun v12 h =>
 gd v7 true h (fun q=>bnd (biI .eql v12 (.d (.int .i64 0))) fun v=>q v h) fun v13 h =>
 bnd (pickV v7 v13 (.d (.bool false))) fun v14 =>
 q v14 h
def checker_integer_equal_a:Ann:=(.n .x (.n (.r [.slot 0,.slot 1]) .o .o) .o)
theorem checker_integer_equal_e (C:CC) (t0:V) (t1:V) (q:V→Hp→Prop):fnD Y C Go.Proofs.Tryz.f59 2 checker_integer_equal_a [t0,t1] q=checker_integer_equal C t0 t1 q:=by
 rfl
theorem checker_integer_equal_o:okB Go.Proofs.Tryz.prog Go.Proofs.Tryz.f59 checker_integer_equal_a=true:=by decide +kernel
theorem checker_integer_equal_i {t0 t1 v:V} (h:checker_integer_equal (CX Y) t0 t1 (out v)):CP Y F.checker_integer_equal [t0,t1] v :=
 CP.of (fn:=Go.Proofs.Tryz.f59) (m:=2) (a:=checker_integer_equal_a) rfl (fun _=>rfl) Go.Proofs.Tryz.func59 checker_integer_equal_o (by rw [checker_integer_equal_e]; exact h)
def checker_near (C:CC) (t0:V) (q:V→Hp→Prop):Prop :=
 let h:Hp:=List.replicate 0 (0,.none)
 cal C.p h (.fn F.slices_ContainsFunc_api_Row_int [] []) [t0,(.fn F.checker_near_F1 [] [])] fun v1 h =>
 bnd (unV .not v1) fun v2 =>
 q v2 h
def checker_near_a:Ann:=.o
theorem checker_near_e (C:CC) (t0:V) (q:V→Hp→Prop):fnD Y C Go.Proofs.Tryz.f56 0 checker_near_a [t0] q=checker_near C t0 q:=by
 rfl
theorem checker_near_o:okB Go.Proofs.Tryz.prog Go.Proofs.Tryz.f56 checker_near_a=true:=by decide +kernel
theorem checker_near_i {t0 v:V} (h:checker_near (CX Y) t0 (out v)):CP Y F.checker_near [t0] v :=
 CP.of (fn:=Go.Proofs.Tryz.f56) (m:=0) (a:=checker_near_a) rfl (fun _=>rfl) Go.Proofs.Tryz.func56 checker_near_o (by rw [checker_near_e]; exact h)
def checker_near_F1 (C:CC) (t0:V) (q:V→Hp→Prop):Prop :=
 let h:Hp:=List.replicate 0 (0,.none)
 bnd (biI .gtr t0 (.d (.int .i64 1000000000))) fun v1 =>
 gd v1 false h (fun q=>q t0 h) fun v2 h =>
 gd v1 false h (fun q=>bnd (biI .lss v2 (.d (.int .i64 (-1000000000)))) fun v=>q v h) fun v3 h =>
 bnd (pickV v1 (.d (.bool true)) v3) fun v4 =>
 q v4 h
def checker_near_F1_a:Ann:=.o
theorem checker_near_F1_e (C:CC) (t0:V) (q:V→Hp→Prop):fnD Y C Go.Proofs.Tryz.f98 0 checker_near_F1_a [t0] q=checker_near_F1 C t0 q:=by
 rfl
theorem checker_near_F1_o:okB Go.Proofs.Tryz.prog Go.Proofs.Tryz.f98 checker_near_F1_a=true:=by decide +kernel
theorem checker_near_F1_i {t0 v:V} (h:checker_near_F1 (CX Y) t0 (out v)):CP Y F.checker_near_F1 [t0] v :=
 CP.of (fn:=Go.Proofs.Tryz.f98) (m:=0) (a:=checker_near_F1_a) rfl (fun _=>rfl) Go.Proofs.Tryz.func98 checker_near_F1_o (by rw [checker_near_F1_e]; exact h)
def checker_matrix_l0 (C:CC) (p0:V) (p8:V) (p9:V):StepT:=fun l h q =>
 bnd (biI .lss (ge l 0) p9) fun v1 =>
 cnd v1 (
 bnd (ixV h 1 p8 (ge l 0)) fun v2 =>
 bnd (ld1 h v2) fun v3 =>
 bnd (lenV v3) fun v4 =>
 bnd (ixV h 1 p0 (.d (.int .i64 0))) fun v5 =>
 bnd (ld1 h v5) fun v6 =>
 bnd (lenV v6) fun v7 =>
 bnd (biI .neq v4 v7) fun v8 =>
 gd v8 false h (fun q=>q v3 h) fun v9 h =>
 gd v8 false h (fun q=>bnd (lenV v9) fun v=>q v h) fun v10 h =>
 gd v8 false h (fun q=>bnd (biI .gtr v10 (.d (.int .i64 12))) fun v=>q v h) fun v11 h =>
 bnd (pickV v8 (.d (.bool true)) v11) fun v12 =>
 gd v12 false h (fun q=>q v3 h) fun v13 h =>
 gd v12 false h (fun q=>cal C.p h (.fn F.checker_near [] []) [v13] q) fun v14 h =>
 gd v12 false h (fun q=>bnd (unV .not v14) fun v=>q v h) fun v15 h =>
 bnd (pickV v12 (.d (.bool true)) v15) fun v16 =>
 cnd v16 (
 q .ret [(.d (.bool false))] h) (
 bnd (biI .add (ge l 0) (.d (.int .i64 1))) fun v17 =>
 q .normal [v17] h)) (
 q (.exit 0) [] h)
def checker_matrix (C:CC) (t0:V) (q:V→Hp→Prop):Prop :=
 let h:Hp:=List.replicate 0 (0,.none)
 bnd (lenV t0) fun v1 =>
 bnd (biI .gtr v1 (.d (.int .i64 12))) fun v2 =>
 cnd v2 (
 q (.d (.bool false)) h) (
 bnd (lenV t0) fun v3 =>
 lp (checker_matrix_l0 C t0 t0 v3) [] h [(.d (.int .i64 0))] h (exK [((.exit 0),fun l4 h =>
 q (.d (.bool true)) h),
 (.ret,fun l4 h =>
 q (ge l4 0) h)]))
def checker_matrix_a:Ann:=(.n .x .o (.n .x .o (.n .x (.n .x .o (.n .x (.n (.l [10] [0,8,9] [((.exit 0),[],[]),(.ret,[2],[])] []) .o .o) .o)) .o)))
theorem checker_matrix_e (C:CC) (t0:V) (q:V→Hp→Prop):fnD Y C Go.Proofs.Tryz.f55 0 checker_matrix_a [t0] q=checker_matrix C t0 q:=by
 rfl
theorem checker_matrix_o:okB Go.Proofs.Tryz.prog Go.Proofs.Tryz.f55 checker_matrix_a=true:=by decide +kernel
theorem checker_matrix_i {t0 v:V} (h:checker_matrix (CX Y) t0 (out v)):CP Y F.checker_matrix [t0] v :=
 CP.of (fn:=Go.Proofs.Tryz.f55) (m:=0) (a:=checker_matrix_a) rfl (fun _=>rfl) Go.Proofs.Tryz.func55 checker_matrix_o (by rw [checker_matrix_e]; exact h)
def checker_dot_l0 (C:CC) (p1:V) (p5:V) (p8:V) (p9:V):StepT:=fun l h q =>
 bnd (biI .lss (ge l 0) p9) fun v1 =>
 cnd v1 (
 bnd (ixV h 1 p8 (ge l 0)) fun v2 =>
 bnd (ld1 h v2) fun v3 =>
 bnd (ldA h 2 p5) fun v4 =>
 cal C.p h (.fn F.checker_number [] []) [v3] fun v5 h =>
 bnd (ixV h 1 p1 (ge l 0)) fun v6 =>
 bnd (ld1 h v6) fun v7 =>
 cal C.p h (.fn F.checker_number [] []) [v7] fun v8 h =>
 cal C.p h (.fn F.checker_integer_times [] []) [v5,v8] fun v9 h =>
 cal C.p h (.fn F.checker_integer_add [] []) [v4,v9] fun v10 h =>
 stD h 2 p5 v10 fun _ h =>
 bnd (biI .add (ge l 0) (.d (.int .i64 1))) fun v12 =>
 q .normal [v12] h) (
 q (.exit 0) [] h)
def checker_dot (C:CC) (t0:V) (t1:V) (q:V→Hp→Prop):Prop :=
 let h:Hp:=List.replicate 2 (0,.none)
 alV 0 [.d (.bool false),.d (.pl (.slice none 0 0))] h fun v1 h =>
 alV 1 [.d (.bool false),.d (.pl (.slice none 0 0))] h fun v2 h =>
 bnd (lenV t0) fun v3 =>
 lp (checker_dot_l0 C t1 v2 t0 v3) [] h [(.d (.int .i64 0))] h (exK [((.exit 0),fun l4 h =>
 bnd (ldA h 2 v2) fun v5 =>
 stD h 2 v1 v5 fun _ h =>
 bnd (ldA h 2 v1) fun v7 =>
 q v7 h)])
def checker_dot_a:Ann:=(.n .x (.n (.r [.slot 0]) .o .o) (.n .x (.n (.r [.slot 1]) .o .o) (.n .x (.n .x .o (.n .x (.n (.l [10] [1,4,5,8,9] [((.exit 0),[],[4,5])] []) .o .o) .o)) .o)))
theorem checker_dot_e (C:CC) (t0:V) (t1:V) (q:V→Hp→Prop):fnD Y C Go.Proofs.Tryz.f57 2 checker_dot_a [t0,t1] q=checker_dot C t0 t1 q:=by
 rfl
theorem checker_dot_o:okB Go.Proofs.Tryz.prog Go.Proofs.Tryz.f57 checker_dot_a=true:=by decide +kernel
theorem checker_dot_i {t0 t1 v:V} (h:checker_dot (CX Y) t0 t1 (out v)):CP Y F.checker_dot [t0,t1] v :=
 CP.of (fn:=Go.Proofs.Tryz.f57) (m:=2) (a:=checker_dot_a) rfl (fun _=>rfl) Go.Proofs.Tryz.func57 checker_dot_o (by rw [checker_dot_e]; exact h)
def checker_column_l0 (C:CC) (p1:V) (p8:V) (p9:V):StepT:=fun l h q =>
 bnd (biI .lss (ge l 1) p9) fun v1 =>
 cnd v1 (
 bnd (ixV h 1 p8 (ge l 1)) fun v2 =>
 bnd (ld1 h v2) fun v3 =>
 bnd (ixV h 1 v3 p1) fun v4 =>
 bnd (ld1 h v4) fun v5 =>
 lisD 1 [.int .i64 0] [(0,v5)] h fun v6 h =>
 apV false 0 1 8 (ge l 0) v6 h fun v7 h =>
 bnd (biI .add (ge l 1) (.d (.int .i64 1))) fun v8 =>
 q .normal [v7,v8] h) (
 q (.exit 0) [(ge l 0)] h)
def checker_column (C:CC) (t0:V) (t1:V) (q:V→Hp→Prop):Prop :=
 let h:Hp:=List.replicate 1 (0,.none)
 bnd (lenV t0) fun v1 =>
 lp (checker_column_l0 C t1 t0 v1) [] h [(.d (.pl (.slice none 0 0))),(.d (.int .i64 0))] h (exK [((.exit 0),fun l2 h =>
 q (ge l2 0) h)])
def checker_column_a:Ann:=(.n .x .o (.n .x .o (.n .x (.n .x .o (.n .x (.n (.l [5,10] [1,8,9] [((.exit 0),[5],[])] []) (.n .x .o (.n .x .o (.n .x (.n .x (.n .x .o (.n (.r [.o,.slot 0]) .o .o)) .o) .o))) .o) .o)) .o)))
theorem checker_column_e (C:CC) (t0:V) (t1:V) (q:V→Hp→Prop):fnD Y C Go.Proofs.Tryz.f58 1 checker_column_a [t0,t1] q=checker_column C t0 t1 q:=by
 rfl
theorem checker_column_o:okB Go.Proofs.Tryz.prog Go.Proofs.Tryz.f58 checker_column_a=true:=by decide +kernel
theorem checker_column_i {t0 t1 v:V} (h:checker_column (CX Y) t0 t1 (out v)):CP Y F.checker_column [t0,t1] v :=
 CP.of (fn:=Go.Proofs.Tryz.f58) (m:=1) (a:=checker_column_a) rfl (fun _=>rfl) Go.Proofs.Tryz.func58 checker_column_o (by rw [checker_column_e]; exact h)
def checker_Member_l0 (C:CC) (p0:V) (p1:V) (p43:V) (p44:V):StepT:=fun l h q =>
 bnd (biI .lss (ge l 0) p44) fun v1 =>
 cnd v1 (
 bnd (ixV h 1 p43 (ge l 0)) fun v2 =>
 bnd (ld1 h v2) fun v3 =>
 cal C.p h (.fn F.checker_column [] []) [p0,(ge l 0)] fun v4 h =>
 cal C.p h (.fn F.checker_dot [] []) [p1,v4] fun v5 h =>
 cal C.p h (.fn F.checker_number [] []) [v3] fun v6 h =>
 cal C.p h (.fn F.checker_integer_equal [] []) [v5,v6] fun v7 h =>
 bnd (unV .not v7) fun v8 =>
 cnd v8 (
 q .ret [(.d (.bool false))] h) (
 bnd (biI .add (ge l 0) (.d (.int .i64 1))) fun v9 =>
 q .normal [v9] h)) (
 q (.exit 0) [] h)
def checker_Member (C:CC) (t0:V) (t1:V) (t2:V) (q:V→Hp→Prop):Prop :=
 let h:Hp:=List.replicate 0 (0,.none)
 cal C.p h (.fn F.checker_matrix [] []) [t0] fun v1 h =>
 bnd (unV .not v1) fun v2 =>
 gd v2 false h (fun q=>q t1 h) fun v3 h =>
 gd v2 false h (fun q=>bnd (lenV v3) fun v=>q v h) fun v4 h =>
 gd v2 false h (fun q=>q t0 h) fun v5 h =>
 gd v2 false h (fun q=>bnd (lenV v5) fun v=>q v h) fun v6 h =>
 gd v2 false h (fun q=>bnd (biI .neq v4 v6) fun v=>q v h) fun v7 h =>
 bnd (pickV v2 (.d (.bool true)) v7) fun v8 =>
 gd v8 false h (fun q=>q t0 h) fun v9 h =>
 gd v8 false h (fun q=>bnd (lenV v9) fun v=>q v h) fun v10 h =>
 gd v8 false h (fun q=>bnd (biI .gtr v10 (.d (.int .i64 0))) fun v=>q v h) fun v11 h =>
 gd v8 false h (fun q=>q v11 h) fun v12 h =>
 gd v12 true h (fun q=>q t2 h) fun v13 h =>
 gd v12 true h (fun q=>bnd (lenV v13) fun v=>q v h) fun v14 h =>
 gd v12 true h (fun q=>q t0 h) fun v15 h =>
 gd v12 true h (fun q=>bnd (ixV h 1 v15 (.d (.int .i64 0))) fun v=>q v h) fun v16 h =>
 gd v12 true h (fun q=>bnd (ld1 h v16) fun v=>q v h) fun v17 h =>
 gd v12 true h (fun q=>bnd (lenV v17) fun v=>q v h) fun v18 h =>
 gd v12 true h (fun q=>bnd (biI .neq v14 v18) fun v=>q v h) fun v19 h =>
 gd v8 false h (fun q=>bnd (pickV v12 v19 (.d (.bool false))) fun v=>q v h) fun v20 h =>
 bnd (pickV v8 (.d (.bool true)) v20) fun v21 =>
 gd v21 false h (fun q=>q t1 h) fun v22 h =>
 gd v21 false h (fun q=>cal C.p h (.fn F.checker_near [] []) [v22] q) fun v23 h =>
 gd v21 false h (fun q=>bnd (unV .not v23) fun v=>q v h) fun v24 h =>
 bnd (pickV v21 (.d (.bool true)) v24) fun v25 =>
 gd v25 false h (fun q=>q t2 h) fun v26 h =>
 gd v25 false h (fun q=>cal C.p h (.fn F.checker_near [] []) [v26] q) fun v27 h =>
 gd v25 false h (fun q=>bnd (unV .not v27) fun v=>q v h) fun v28 h =>
 bnd (pickV v25 (.d (.bool true)) v28) fun v29 =>
 cnd v29 (
 q (.d (.bool false)) h) (
 bnd (lenV t2) fun v30 =>
 lp (checker_Member_l0 C t0 t1 t2 v30) [] h [(.d (.int .i64 0))] h (exK [((.exit 0),fun l31 h =>
 q (.d (.bool true)) h),
 (.ret,fun l31 h =>
 q (ge l31 0) h)]))
def checker_Member_a:Ann:=(.n .x .o (.n .x .o (.n .x (.n .x .o (.n .x (.n (.l [45] [0,1,43,44] [((.exit 0),[],[]),(.ret,[6],[])] []) .o .o) .o)) .o)))
theorem checker_Member_e (C:CC) (t0:V) (t1:V) (t2:V) (q:V→Hp→Prop):fnD Y C Go.Proofs.Tryz.f18 0 checker_Member_a [t0,t1,t2] q=checker_Member C t0 t1 t2 q:=by
 rfl
theorem checker_Member_o:okB Go.Proofs.Tryz.prog Go.Proofs.Tryz.f18 checker_Member_a=true:=by decide +kernel
theorem checker_Member_i {t0 t1 t2 v:V} (h:checker_Member (CX Y) t0 t1 t2 (out v)):CP Y F.checker_Member [t0,t1,t2] v :=
 CP.of (fn:=Go.Proofs.Tryz.f18) (m:=0) (a:=checker_Member_a) rfl (fun _=>rfl) Go.Proofs.Tryz.func18 checker_Member_o (by rw [checker_Member_e]; exact h)
def checker_pivot (C:CC) (t0:V) (q:V→Hp→Prop):Prop :=
 let h:Hp:=List.replicate 0 (0,.none)
 cal C.p h (.fn F.slices_IndexFunc_api_Row_int [] []) [t0,(.fn F.checker_pivot_F1 [] [])] fun v1 h =>
 q v1 h
def checker_pivot_a:Ann:=.o
theorem checker_pivot_e (C:CC) (t0:V) (q:V→Hp→Prop):fnD Y C Go.Proofs.Tryz.f61 0 checker_pivot_a [t0] q=checker_pivot C t0 q:=by
 rfl
theorem checker_pivot_o:okB Go.Proofs.Tryz.prog Go.Proofs.Tryz.f61 checker_pivot_a=true:=by decide +kernel
theorem checker_pivot_i {t0 v:V} (h:checker_pivot (CX Y) t0 (out v)):CP Y F.checker_pivot [t0] v :=
 CP.of (fn:=Go.Proofs.Tryz.f61) (m:=0) (a:=checker_pivot_a) rfl (fun _=>rfl) Go.Proofs.Tryz.func61 checker_pivot_o (by rw [checker_pivot_e]; exact h)
def checker_pivot_F1 (C:CC) (t0:V) (q:V→Hp→Prop):Prop :=
 let h:Hp:=List.replicate 0 (0,.none)
 bnd (biI .neq t0 (.d (.int .i64 0))) fun v1 =>
 q v1 h
def checker_pivot_F1_a:Ann:=.o
theorem checker_pivot_F1_e (C:CC) (t0:V) (q:V→Hp→Prop):fnD Y C Go.Proofs.Tryz.f100 0 checker_pivot_F1_a [t0] q=checker_pivot_F1 C t0 q:=by
 rfl
theorem checker_pivot_F1_o:okB Go.Proofs.Tryz.prog Go.Proofs.Tryz.f100 checker_pivot_F1_a=true:=by decide +kernel
theorem checker_pivot_F1_i {t0 v:V} (h:checker_pivot_F1 (CX Y) t0 (out v)):CP Y F.checker_pivot_F1 [t0] v :=
 CP.of (fn:=Go.Proofs.Tryz.f100) (m:=0) (a:=checker_pivot_F1_a) rfl (fun _=>rfl) Go.Proofs.Tryz.func100 checker_pivot_F1_o (by rw [checker_pivot_F1_e]; exact h)
def checker_Form_l1 (C:CC) (p5:V) (p6:V) (p33:V) (p34:V):StepT:=fun l h q =>
 bnd (biI .lss (ge l 0) p34) fun v1 =>
 cnd v1 (
 bnd (ixV h 1 p33 (ge l 0)) fun v2 =>
 bnd (ld1 h v2) fun v3 =>
 bnd (ixV h 1 v3 p6) fun v4 =>
 bnd (ld1 h v4) fun v5 =>
 bnd (biI .lss v5 (.d (.int .i64 0))) fun v6 =>
 gd v6 false h (fun q=>q v3 h) fun v7 h =>
 gd v6 false h (fun q=>q p6 h) fun v8 h =>
 gd v6 false h (fun q=>bnd (ixV h 1 v7 v8) fun v=>q v h) fun v9 h =>
 gd v6 false h (fun q=>bnd (ld1 h v9) fun v=>q v h) fun v10 h =>
 gd v6 false h (fun q=>q p5 h) fun v11 h =>
 gd v6 false h (fun q=>q p6 h) fun v12 h =>
 gd v6 false h (fun q=>bnd (ixV h 1 v11 v12) fun v=>q v h) fun v13 h =>
 gd v6 false h (fun q=>bnd (ld1 h v13) fun v=>q v h) fun v14 h =>
 gd v6 false h (fun q=>bnd (biI .geq v10 v14) fun v=>q v h) fun v15 h =>
 bnd (pickV v6 (.d (.bool true)) v15) fun v16 =>
 cnd v16 (
 q .ret [(.d (.bool false))] h) (
 bnd (biI .add (ge l 0) (.d (.int .i64 1))) fun v17 =>
 q .normal [v17] h)) (
 q (.exit 2) [] h)
def checker_Form_l0 (C:CC) (p0:V) (p12:V) (p13:V):StepT:=fun l h q =>
 bnd (biI .lss (ge l 1) p13) fun v1 =>
 cnd v1 (
 bnd (ixV h 1 p12 (ge l 1)) fun v2 =>
 bnd (ld1 h v2) fun v3 =>
 cal C.p h (.fn F.checker_pivot [] []) [v3] fun v4 h =>
 bnd (biI .leq v4 (ge l 0)) fun v5 =>
 gd v5 false h (fun q=>q v3 h) fun v6 h =>
 gd v5 false h (fun q=>q v4 h) fun v7 h =>
 gd v5 false h (fun q=>bnd (ixV h 1 v6 v7) fun v=>q v h) fun v8 h =>
 gd v5 false h (fun q=>bnd (ld1 h v8) fun v=>q v h) fun v9 h =>
 gd v5 false h (fun q=>bnd (biI .leq v9 (.d (.int .i64 0))) fun v=>q v h) fun v10 h =>
 bnd (pickV v5 (.d (.bool true)) v10) fun v11 =>
 cnd v11 (
 q .ret [(.d (.bool false))] h) (
 bnd (slV h 1 p0 none (some (ge l 1))) fun v12 =>
 bnd (lenV v12) fun v13 =>
 lp (checker_Form_l1 C v3 v4 v12 v13) [] h [(.d (.int .i64 0))] h (exK [((.exit 2),fun l14 h =>
 bnd (biI .add (ge l 1) (.d (.int .i64 1))) fun v15 =>
 q .normal [v4,v15] h),
 (.ret,fun l14 h =>
 q .ret [(ge l14 0)] h)]))) (
 q (.exit 0) [] h)
def checker_Form (C:CC) (t0:V) (q:V→Hp→Prop):Prop :=
 let h:Hp:=List.replicate 0 (0,.none)
 cal C.p h (.fn F.checker_matrix [] []) [t0] fun v1 h =>
 bnd (unV .not v1) fun v2 =>
 cnd v2 (
 q (.d (.bool false)) h) (
 bnd (lenV t0) fun v3 =>
 lp (checker_Form_l0 C t0 t0 v3) [] h [(.d (.int .i64 (-1))),(.d (.int .i64 0))] h (exK [((.exit 0),fun l4 h =>
 q (.d (.bool true)) h),
 (.ret,fun l4 h =>
 q (ge l4 0) h)]))
def checker_Form_a:Ann:=(.n .x .o (.n .x .o (.n .x .o (.n .x (.n .x .o (.n .x (.n (.l [3,14] [0,12,13] [((.exit 0),[],[]),(.ret,[2],[])] []) (.n .x .o (.n .x .o (.n .x (.n .x (.n .x .o (.n .x .o (.n .x .o (.n .x (.n .x .o (.n .x (.n (.l [35] [0,5,6,12,13,14,33,34] [((.exit 2),[],[0,6,12,13,14]),(.ret,[2],[])] []) .o .o) .o)) .o)))) .o) .o))) .o) .o)) .o))))
theorem checker_Form_e (C:CC) (t0:V) (q:V→Hp→Prop):fnD Y C Go.Proofs.Tryz.f19 0 checker_Form_a [t0] q=checker_Form C t0 q:=by
 rfl
theorem checker_Form_o:okB Go.Proofs.Tryz.prog Go.Proofs.Tryz.f19 checker_Form_a=true:=by decide +kernel
theorem checker_Form_i {t0 v:V} (h:checker_Form (CX Y) t0 (out v)):CP Y F.checker_Form [t0] v :=
 CP.of (fn:=Go.Proofs.Tryz.f19) (m:=0) (a:=checker_Form_a) rfl (fun _=>rfl) Go.Proofs.Tryz.func19 checker_Form_o (by rw [checker_Form_e]; exact h)
end Go.Vm
set_option maxRecDepth 100000
set_option maxHeartbeats 4000000
namespace Go.Vm
open Go Go.Am
def slices_Clone_checker_natural_uint32 (C:CC) (b:Nat) (h:Hp) (t0:V) (q:V→Hp→Prop):Prop :=
 let h:Hp:=h++List.replicate 2 (0,.none)
 nilD h .eql t0 (.d (.pl (.slice none 0 0))) fun v1 =>
 cnd v1 (
 q (.d (.pl (.slice none 0 0))) h) (
 lisS (b+0) 0 [.int .u32 0] [] h fun v2 h =>
 apV false (b+1) 1 4 v2 t0 h fun v3 h =>
 q v3 h)
def slices_Clone_checker_natural_uint32_a (b:Nat):Ann:=(.n .x .o (.n .x .o (.n .x (.n (.r [.slot (b+0),.slot (b+1)]) .o .o) .o)))
theorem slices_Clone_checker_natural_uint32_e (C:CC) (h:Hp) (t0:V) (q:V→Hp→Prop):fnI Y C Go.Proofs.Tryz.f137 2 slices_Clone_checker_natural_uint32_a [t0] h q=slices_Clone_checker_natural_uint32 C h.length h t0 q:=by
 rfl
theorem slices_Clone_checker_natural_uint32_o (b:Nat):okB Go.Proofs.Tryz.prog Go.Proofs.Tryz.f137 (slices_Clone_checker_natural_uint32_a b)=true:=by rfl
theorem slices_Clone_checker_natural_uint32_i {t0 v:V} {h h2:Hp} (hh:slices_Clone_checker_natural_uint32 (CX Y) h.length h t0 (outI h.length v h2)):CI Y F.slices_Clone_checker_natural_uint32 [t0] h v h2 :=
 CI.of (fn:=Go.Proofs.Tryz.f137) (m:=2) (a:=slices_Clone_checker_natural_uint32_a) rfl (fun _=>rfl) Go.Proofs.Tryz.func137 (slices_Clone_checker_natural_uint32_o _) (by rw [slices_Clone_checker_natural_uint32_e]; exact hh)
def slices_Clone_int_int (C:CC) (b:Nat) (h:Hp) (t0:V) (q:V→Hp→Prop):Prop :=
 let h:Hp:=h++List.replicate 2 (0,.none)
 nilD h .eql t0 (.d (.pl (.slice none 0 0))) fun v1 =>
 cnd v1 (
 q (.d (.pl (.slice none 0 0))) h) (
 lisS (b+0) 0 [.int .i64 0] [] h fun v2 h =>
 apV false (b+1) 1 8 v2 t0 h fun v3 h =>
 q v3 h)
def slices_Clone_int_int_a (b:Nat):Ann:=(.n .x .o (.n .x .o (.n .x (.n (.r [.slot (b+0),.slot (b+1)]) .o .o) .o)))
theorem slices_Clone_int_int_e (C:CC) (h:Hp) (t0:V) (q:V→Hp→Prop):fnI Y C Go.Proofs.Tryz.f162 2 slices_Clone_int_int_a [t0] h q=slices_Clone_int_int C h.length h t0 q:=by
 rfl
theorem slices_Clone_int_int_o (b:Nat):okB Go.Proofs.Tryz.prog Go.Proofs.Tryz.f162 (slices_Clone_int_int_a b)=true:=by rfl
theorem slices_Clone_int_int_i {t0 v:V} {h h2:Hp} (hh:slices_Clone_int_int (CX Y) h.length h t0 (outI h.length v h2)):CI Y F.slices_Clone_int_int [t0] h v h2 :=
 CI.of (fn:=Go.Proofs.Tryz.f162) (m:=2) (a:=slices_Clone_int_int_a) rfl (fun _=>rfl) Go.Proofs.Tryz.func162 (slices_Clone_int_int_o _) (by rw [slices_Clone_int_int_e]; exact hh)
def slices_IndexFunc_api_Row_int_l0 (C:CC) (p0:V) (p1:V) (p7:V):StepT:=fun l h q =>
 bnd (biI .lss (ge l 0) p7) fun v1 =>
 cnd v1 (
 bnd (ixV h 1 p0 (ge l 0)) fun v2 =>
 bnd (ld1 h v2) fun v3 =>
 cal C.p h p1 [v3] fun v4 h =>
 cnd v4 (
 q .ret [(ge l 0)] h) (
 bnd (biI .add (ge l 0) (.d (.int .i64 1))) fun v5 =>
 q .normal [v5] h)) (
 q (.exit 0) [] h)
def slices_IndexFunc_api_Row_int (C:CC) (t0:V) (t1:V) (q:V→Hp→Prop):Prop :=
 let h:Hp:=List.replicate 0 (0,.none)
 bnd (lenV t0) fun v1 =>
 lp (slices_IndexFunc_api_Row_int_l0 C t0 t1 v1) [] h [(.d (.int .i64 0))] h (exK [((.exit 0),fun l2 h =>
 q (.d (.int .i64 (-1))) h),
 (.ret,fun l2 h =>
 q (ge l2 0) h)])
def slices_IndexFunc_api_Row_int_a:Ann:=(.n .x .o (.n .x (.n .x .o (.n .x (.n (.l [8] [0,1,7] [((.exit 0),[],[]),(.ret,[4],[])] []) .o .o) .o)) .o))
theorem slices_IndexFunc_api_Row_int_e (C:CC) (t0:V) (t1:V) (q:V→Hp→Prop):fnD Y C Go.Proofs.Tryz.f97 0 slices_IndexFunc_api_Row_int_a [t0,t1] q=slices_IndexFunc_api_Row_int C t0 t1 q:=by
 rfl
theorem slices_IndexFunc_api_Row_int_o:okB Go.Proofs.Tryz.prog Go.Proofs.Tryz.f97 slices_IndexFunc_api_Row_int_a=true:=by decide +kernel
theorem slices_IndexFunc_api_Row_int_i {t0 t1 v:V} (h:slices_IndexFunc_api_Row_int (CX Y) t0 t1 (out v)):CP Y F.slices_IndexFunc_api_Row_int [t0,t1] v :=
 CP.of (fn:=Go.Proofs.Tryz.f97) (m:=0) (a:=slices_IndexFunc_api_Row_int_a) rfl (fun _=>rfl) Go.Proofs.Tryz.func97 slices_IndexFunc_api_Row_int_o (by rw [slices_IndexFunc_api_Row_int_e]; exact h)
def slices_ContainsFunc_api_Row_int (C:CC) (t0:V) (t1:V) (q:V→Hp→Prop):Prop :=
 let h:Hp:=List.replicate 0 (0,.none)
 cal C.p h (.fn F.slices_IndexFunc_api_Row_int [] []) [t0,t1] fun v1 h =>
 bnd (biI .geq v1 (.d (.int .i64 0))) fun v2 =>
 q v2 h
def slices_ContainsFunc_api_Row_int_a:Ann:=.o
theorem slices_ContainsFunc_api_Row_int_e (C:CC) (t0:V) (t1:V) (q:V→Hp→Prop):fnD Y C Go.Proofs.Tryz.f47 0 slices_ContainsFunc_api_Row_int_a [t0,t1] q=slices_ContainsFunc_api_Row_int C t0 t1 q:=by
 rfl
theorem slices_ContainsFunc_api_Row_int_o:okB Go.Proofs.Tryz.prog Go.Proofs.Tryz.f47 slices_ContainsFunc_api_Row_int_a=true:=by decide +kernel
theorem slices_ContainsFunc_api_Row_int_i {t0 t1 v:V} (h:slices_ContainsFunc_api_Row_int (CX Y) t0 t1 (out v)):CP Y F.slices_ContainsFunc_api_Row_int [t0,t1] v :=
 CP.of (fn:=Go.Proofs.Tryz.f47) (m:=0) (a:=slices_ContainsFunc_api_Row_int_a) rfl (fun _=>rfl) Go.Proofs.Tryz.func47 slices_ContainsFunc_api_Row_int_o (by rw [slices_ContainsFunc_api_Row_int_e]; exact h)
end Go.Vm
set_option maxRecDepth 100000
set_option maxHeartbeats 4000000
namespace Go.Vm
open Go Go.Am
def whole_split (C:CC) (t0:V) (q:V→Hp→Prop):Prop :=
 let h:Hp:=List.replicate 0 (0,.none)
 bnd (lenS t0) fun v1 =>
 bnd (biI .gtr v1 (.d (.int .i64 0))) fun v2 =>
 gd v2 true h (fun q=>q t0 h) fun v3 h =>
 gd v2 true h (fun q=>bnd (ixS v3 (.d (.int .i64 0))) fun v=>q v h) fun v4 h =>
 gd v2 true h (fun q=>bnd (biI .eql v4 (.d (.int .u8 45))) fun v=>q v h) fun v5 h =>
 bnd (pickV v2 v5 (.d (.bool false))) fun v6 =>
 cnd v6 (
 bnd (slS t0 (some (.d (.int .i64 1))) none) fun v7 =>
 q (.tup [(.d (.bool true)),v7]) h) (
 q (.tup [(.d (.bool false)),t0]) h)
def whole_split_a:Ann:=.o
theorem whole_split_e (C:CC) (t0:V) (q:V→Hp→Prop):fnD Y C Go.Proofs.Tryz.f138 0 whole_split_a [t0] q=whole_split C t0 q:=by
 rfl
theorem whole_split_o:okB Go.Proofs.Tryz.prog Go.Proofs.Tryz.f138 whole_split_a=true:=by decide +kernel
theorem whole_split_i {t0 v:V} (h:whole_split (CX Y) t0 (out v)):CP Y F.whole_split [t0] v :=
 CP.of (fn:=Go.Proofs.Tryz.f138) (m:=0) (a:=whole_split_a) rfl (fun _=>rfl) Go.Proofs.Tryz.func138 whole_split_o (by rw [whole_split_e]; exact h)
def whole_Check (C:CC) (t0:V) (q:V→Hp→Prop):Prop :=
 let h:Hp:=List.replicate 0 (0,.none)
 cal C.p h (.fn F.whole_split [] []) [t0] fun v1 h =>
 ext v1 0 fun v2 =>
 ext v1 1 fun v3 =>
 gd v2 true h (fun q=>q v3 h) fun v4 h =>
 gd v2 true h (fun q=>bnd (biS .eql v4 (.d (.str [48]))) fun v=>q v h) fun v5 h =>
 bnd (pickV v2 v5 (.d (.bool false))) fun v6 =>
 gd v6 false h (fun q=>q v3 h) fun v7 h =>
 gd v6 false h (fun q=>cal C.p h (.fn F.decimal_Check [] []) [v7] q) fun v8 h =>
 gd v6 false h (fun q=>bnd (biI .neq v8 (.d (.int .i64 0))) fun v=>q v h) fun v9 h =>
 bnd (pickV v6 (.d (.bool true)) v9) fun v10 =>
 cnd v10 (
 q (.d (.int .i64 2)) h) (
 q (.d (.int .i64 0)) h)
def whole_Check_a:Ann:=.o
theorem whole_Check_e (C:CC) (t0:V) (q:V→Hp→Prop):fnD Y C Go.Proofs.Tryz.f114 0 whole_Check_a [t0] q=whole_Check C t0 q:=by
 rfl
theorem whole_Check_o:okB Go.Proofs.Tryz.prog Go.Proofs.Tryz.f114 whole_Check_a=true:=by decide +kernel
theorem whole_Check_i {t0 v:V} (h:whole_Check (CX Y) t0 (out v)):CP Y F.whole_Check [t0] v :=
 CP.of (fn:=Go.Proofs.Tryz.f114) (m:=0) (a:=whole_Check_a) rfl (fun _=>rfl) Go.Proofs.Tryz.func114 whole_Check_o (by rw [whole_Check_e]; exact h)
def whole_Sign (C:CC) (t0:V) (q:V→Hp→Prop):Prop :=
 let h:Hp:=List.replicate 0 (0,.none)
 bnd (biS .eql t0 (.d (.str [48]))) fun v1 =>
 cnd v1 (
 q (.d (.int .i64 0)) h) (
 bnd (ixS t0 (.d (.int .i64 0))) fun v2 =>
 bnd (biI .eql v2 (.d (.int .u8 45))) fun v3 =>
 cnd v3 (
 q (.d (.int .i64 (-1))) h) (
 q (.d (.int .i64 1)) h))
def whole_Sign_a:Ann:=.o
theorem whole_Sign_e (C:CC) (t0:V) (q:V→Hp→Prop):fnD Y C Go.Proofs.Tryz.f166 0 whole_Sign_a [t0] q=whole_Sign C t0 q:=by
 rfl
theorem whole_Sign_o:okB Go.Proofs.Tryz.prog Go.Proofs.Tryz.f166 whole_Sign_a=true:=by decide +kernel
theorem whole_Sign_i {t0 v:V} (h:whole_Sign (CX Y) t0 (out v)):CP Y F.whole_Sign [t0] v :=
 CP.of (fn:=Go.Proofs.Tryz.f166) (m:=0) (a:=whole_Sign_a) rfl (fun _=>rfl) Go.Proofs.Tryz.func166 whole_Sign_o (by rw [whole_Sign_e]; exact h)
def whole_Of (C:CC) (t0:V) (q:V→Hp→Prop):Prop :=
 let h:Hp:=List.replicate 0 (0,.none)
 cal C.p h (.fn F.strconv_Itoa [] []) [t0] fun v1 h =>
 q v1 h
def whole_Of_a:Ann:=.o
theorem whole_Of_e (C:CC) (t0:V) (q:V→Hp→Prop):fnD Y C Go.Proofs.Tryz.f116 0 whole_Of_a [t0] q=whole_Of C t0 q:=by
 rfl
theorem whole_Of_o:okB Go.Proofs.Tryz.prog Go.Proofs.Tryz.f116 whole_Of_a=true:=by decide +kernel
theorem whole_Of_i {t0 v:V} (h:whole_Of (CX Y) t0 (out v)):CP Y F.whole_Of [t0] v :=
 CP.of (fn:=Go.Proofs.Tryz.f116) (m:=0) (a:=whole_Of_a) rfl (fun _=>rfl) Go.Proofs.Tryz.func116 whole_Of_o (by rw [whole_Of_e]; exact h)
def whole_little (C:CC) (t0:V) (t1:V) (q:V→Hp→Prop):Prop :=
 let h:Hp:=List.replicate 0 (0,.none)
 bnd (lenS t0) fun v1 =>
 bnd (biI .gtr v1 t1) fun v2 =>
 cnd v2 (
 q (.tup [(.d (.int .i64 0)),(.d (.bool false))]) h) (
 cal C.p h (.fn F.strconv_Atoi [] []) [t0] fun v3 h =>
 ext v3 0 fun v4 =>
 ext v3 1 fun v5 =>
 bnd (biF .eql v5 (.d (.pl .nilIface))) fun v6 =>
 q (.tup [v4,v6]) h)
def whole_little_a:Ann:=.o
theorem whole_little_e (C:CC) (t0:V) (t1:V) (q:V→Hp→Prop):fnD Y C Go.Proofs.Tryz.f144 0 whole_little_a [t0,t1] q=whole_little C t0 t1 q:=by
 rfl
theorem whole_little_o:okB Go.Proofs.Tryz.prog Go.Proofs.Tryz.f144 whole_little_a=true:=by decide +kernel
theorem whole_little_i {t0 t1 v:V} (h:whole_little (CX Y) t0 t1 (out v)):CP Y F.whole_little [t0,t1] v :=
 CP.of (fn:=Go.Proofs.Tryz.f144) (m:=0) (a:=whole_little_a) rfl (fun _=>rfl) Go.Proofs.Tryz.func144 whole_little_o (by rw [whole_little_e]; exact h)
def whole_Abs (C:CC) (t0:V) (q:V→Hp→Prop):Prop :=
 let h:Hp:=List.replicate 0 (0,.none)
 cal C.p h (.fn F.whole_split [] []) [t0] fun v1 h =>
 ext v1 0 fun v2 =>
 ext v1 1 fun v3 =>
 q v3 h
def whole_Abs_a:Ann:=.o
theorem whole_Abs_e (C:CC) (t0:V) (q:V→Hp→Prop):fnD Y C Go.Proofs.Tryz.f168 0 whole_Abs_a [t0] q=whole_Abs C t0 q:=by
 rfl
theorem whole_Abs_o:okB Go.Proofs.Tryz.prog Go.Proofs.Tryz.f168 whole_Abs_a=true:=by decide +kernel
theorem whole_Abs_i {t0 v:V} (h:whole_Abs (CX Y) t0 (out v)):CP Y F.whole_Abs [t0] v :=
 CP.of (fn:=Go.Proofs.Tryz.f168) (m:=0) (a:=whole_Abs_a) rfl (fun _=>rfl) Go.Proofs.Tryz.func168 whole_Abs_o (by rw [whole_Abs_e]; exact h)
def whole_gcd_l0 (C:CC):StepT:=fun l h q =>
 bnd (biI .neq (ge l 1) (.d (.int .i64 0))) fun v1 =>
 cnd v1 (
 bnd (biI .rem (ge l 0) (ge l 1)) fun v2 =>
 q .normal [(ge l 1),v2] h) (
 q (.exit 0) [(ge l 0)] h)
def whole_gcd (C:CC) (t0:V) (t1:V) (q:V→Hp→Prop):Prop :=
 let h:Hp:=List.replicate 0 (0,.none)
 lp (whole_gcd_l0 C) [] h [t0,t1] h (exK [((.exit 0),fun l1 h =>
 q (ge l1 0) h)])
def whole_gcd_a:Ann:=(.n .x .o (.n .x (.n .x (.n (.l [0,1] [] [((.exit 0),[0],[])] []) .o .o) .o) .o))
theorem whole_gcd_e (C:CC) (t0:V) (t1:V) (q:V→Hp→Prop):fnD Y C Go.Proofs.Tryz.f192 0 whole_gcd_a [t0,t1] q=whole_gcd C t0 t1 q:=by
 rfl
theorem whole_gcd_o:okB Go.Proofs.Tryz.prog Go.Proofs.Tryz.f192 whole_gcd_a=true:=by decide +kernel
theorem whole_gcd_i {t0 t1 v:V} (h:whole_gcd (CX Y) t0 t1 (out v)):CP Y F.whole_gcd [t0,t1] v :=
 CP.of (fn:=Go.Proofs.Tryz.f192) (m:=0) (a:=whole_gcd_a) rfl (fun _=>rfl) Go.Proofs.Tryz.func192 whole_gcd_o (by rw [whole_gcd_e]; exact h)
def whole_Gcd (C:CC) (t0:V) (t1:V) (q:V→Hp→Prop):Prop :=
 let h:Hp:=List.replicate 0 (0,.none)
 cal C.p h (.fn F.whole_Abs [] []) [t0] fun v1 h =>
 cal C.p h (.fn F.whole_Abs [] []) [t1] fun v2 h =>
 cal C.p h (.fn F.whole_little [] []) [v1,(.d (.int .i64 18))] fun v3 h =>
 ext v3 0 fun v4 =>
 ext v3 1 fun v5 =>
 jn (fun l6 h =>
 cal C.p h (.fn F.decimal_Gcd [] []) [v1,v2] fun v8 h =>
 q v8 h) fun q7 =>
 cnd v5 (
 cal C.p h (.fn F.whole_little [] []) [v2,(.d (.int .i64 18))] fun v9 h =>
 ext v9 0 fun v10 =>
 ext v9 1 fun v11 =>
 cnd v11 (
 cal C.p h (.fn F.whole_gcd [] []) [v4,v10] fun v12 h =>
 cal C.p h (.fn F.whole_Of [] []) [v12] fun v13 h =>
 q v13 h) (
 q7 [] h)) (
 q7 [] h)
def whole_Gcd_a:Ann:=(.n .x .o (.n .x .o (.n .x (.n .x .o (.n .x .o (.n (.j [] [5,6]) .o .o))) .o)))
theorem whole_Gcd_e (C:CC) (t0:V) (t1:V) (q:V→Hp→Prop):fnD Y C Go.Proofs.Tryz.f167 0 whole_Gcd_a [t0,t1] q=whole_Gcd C t0 t1 q:=by
 rfl
theorem whole_Gcd_o:okB Go.Proofs.Tryz.prog Go.Proofs.Tryz.f167 whole_Gcd_a=true:=by decide +kernel
theorem whole_Gcd_i {t0 t1 v:V} (h:whole_Gcd (CX Y) t0 t1 (out v)):CP Y F.whole_Gcd [t0,t1] v :=
 CP.of (fn:=Go.Proofs.Tryz.f167) (m:=0) (a:=whole_Gcd_a) rfl (fun _=>rfl) Go.Proofs.Tryz.func167 whole_Gcd_o (by rw [whole_Gcd_e]; exact h)
def fraction_Check (C:CC) (t0:V) (q:V→Hp→Prop):Prop :=
 let h:Hp:=List.replicate 1 (0,.none)
 boxD 0 t0 h fun v1 h =>
 bnd (faV 0 v1) fun v2 =>
 bnd (ld1 h v2) fun v3 =>
 cal C.p h (.fn F.whole_Check [] []) [v3] fun v4 h =>
 bnd (biI .neq v4 (.d (.int .i64 0))) fun v5 =>
 jn (fun l6 h =>
 cnd (ge l6 0) (
 q (.d (.int .i64 2)) h) (
 bnd (faV 1 v1) fun v8 =>
 bnd (ld1 h v8) fun v9 =>
 cal C.p h (.fn F.whole_Sign [] []) [v9] fun v10 h =>
 bnd (biI .leq v10 (.d (.int .i64 0))) fun v11 =>
 jn (fun l12 h =>
 cnd (ge l12 0) (
 q (.d (.int .i64 2)) h) (
 q (.d (.int .i64 0)) h)) fun q13 =>
 cnd v11 (
 q13 [v11] h) (
 bnd (faV 0 v1) fun v14 =>
 bnd (ld1 h v14) fun v15 =>
 bnd (faV 1 v1) fun v16 =>
 bnd (ld1 h v16) fun v17 =>
 cal C.p h (.fn F.whole_Gcd [] []) [v15,v17] fun v18 h =>
 bnd (biS .neq v18 (.d (.str [49]))) fun v19 =>
 q13 [v19] h))) fun q7 =>
 cnd v5 (
 q7 [v5] h) (
 bnd (faV 1 v1) fun v20 =>
 bnd (ld1 h v20) fun v21 =>
 cal C.p h (.fn F.whole_Check [] []) [v21] fun v22 h =>
 bnd (biI .neq v22 (.d (.int .i64 0))) fun v23 =>
 q7 [v23] h)
def fraction_Check_a:Ann:=(.n .x (.n (.r [.slot 0]) .o .o) (.n .x (.n .x (.n .x (.n .x .o (.n (.j [3] [1]) .o .o)) (.n .x .o (.n .x (.n .x .o (.n (.j [12] []) .o .o)) .o))) .o) .o))
theorem fraction_Check_e (C:CC) (t0:V) (q:V→Hp→Prop):fnD Y C Go.Proofs.Tryz.f135 1 fraction_Check_a [t0] q=fraction_Check C t0 q:=by
 rfl
theorem fraction_Check_o:okB Go.Proofs.Tryz.prog Go.Proofs.Tryz.f135 fraction_Check_a=true:=by decide +kernel
theorem fraction_Check_i {t0 v:V} (h:fraction_Check (CX Y) t0 (out v)):CP Y F.fraction_Check [t0] v :=
 CP.of (fn:=Go.Proofs.Tryz.f135) (m:=1) (a:=fraction_Check_a) rfl (fun _=>rfl) Go.Proofs.Tryz.func135 fraction_Check_o (by rw [fraction_Check_e]; exact h)
end Go.Vm
set_option maxRecDepth 100000
set_option maxHeartbeats 4000000
namespace Go.Vm
open Go Go.Am
def checker_read_l0 (C:CC) (p2:V) (p4:V) (p5:V) (p42:V):StepT:=fun l h q =>
 bnd (biI .lss (ge l 0) p42) fun v1 =>
 cnd v1 (
 bnd (ixS p4 (ge l 0)) fun v2 =>
 bnd (biI .lss v2 (.d (.int .u8 48))) fun v3 =>
 gd v3 false h (fun q=>q p4 h) fun v4 h =>
 gd v3 false h (fun q=>q (ge l 0) h) fun v5 h =>
 gd v3 false h (fun q=>bnd (ixS v4 v5) fun v=>q v h) fun v6 h =>
 gd v3 false h (fun q=>bnd (biI .gtr v6 (.d (.int .u8 57))) fun v=>q v h) fun v7 h =>
 bnd (pickV v3 (.d (.bool true)) v7) fun v8 =>
 cnd v8 (
 bnd (bld [(0,1),(1,1)] [.bool false,.pl (.slice none 0 0)] []) fun v9 =>
 stD h 2 p2 v9 fun _ h =>
 q .ret [(.d (.bool false))] h) (
 bnd (faV 1 p5) fun v11 =>
 bnd (ld1 h v11) fun v12 =>
 lisD 1 [.int .u32 0] [(0,(.d (.int .u32 10)))] h fun v13 h =>
 cal C.p h (.fn F.checker_product [] []) [v12,v13] fun v14 h =>
 bnd (ixS p4 (ge l 0)) fun v15 =>
 bnd (biI .sub v15 (.d (.int .u8 48))) fun v16 =>
 bnd (cvI .u64 v16) fun v17 =>
 cal C.p h (.fn F.checker_of [] []) [v17] fun v18 h =>
 cal C.p h (.fn F.checker_plus [] []) [v14,v18] fun v19 h =>
 bnd (faV 1 p5) fun v20 =>
 stD h 1 v20 v19 fun _ h =>
 bnd (biI .add (ge l 0) (.d (.int .i64 1))) fun v22 =>
 q .normal [v22] h)) (
 q (.exit 0) [] h)
def checker_read (C:CC) (t0:V) (q:V→Hp→Prop):Prop :=
 let h:Hp:=List.replicate 2 (0,.none)
 alV 0 [.d (.bool false),.d (.pl (.slice none 0 0))] h fun v1 h =>
 alV 1 [.d (.bool false),.d (.pl (.slice none 0 0))] h fun v2 h =>
 bnd (lenS t0) fun v3 =>
 bnd (biI .gtr v3 (.d (.int .i64 0))) fun v4 =>
 gd v4 true h (fun q=>q t0 h) fun v5 h =>
 gd v4 true h (fun q=>bnd (ixS v5 (.d (.int .i64 0))) fun v=>q v h) fun v6 h =>
 gd v4 true h (fun q=>bnd (biI .eql v6 (.d (.int .u8 45))) fun v=>q v h) fun v7 h =>
 bnd (pickV v4 v7 (.d (.bool false))) fun v8 =>
 jn (fun l9 h =>
 bnd (biS .eql (ge l9 0) (.d (.str []))) fun v11 =>
 gd v11 false h (fun q=>q (ge l9 0) h) fun v12 h =>
 gd v11 false h (fun q=>bnd (ixS v12 (.d (.int .i64 0))) fun v=>q v h) fun v13 h =>
 gd v11 false h (fun q=>bnd (biI .eql v13 (.d (.int .u8 48))) fun v=>q v h) fun v14 h =>
 gd v11 false h (fun q=>q v14 h) fun v15 h =>
 gd v15 true h (fun q=>q (ge l9 0) h) fun v16 h =>
 gd v15 true h (fun q=>bnd (lenS v16) fun v=>q v h) fun v17 h =>
 gd v15 true h (fun q=>bnd (biI .gtr v17 (.d (.int .i64 1))) fun v=>q v h) fun v18 h =>
 gd v15 true h (fun q=>q v18 h) fun v19 h =>
 gd v19 false h (fun q=>bnd (faV 0 v2) fun v=>q v h) fun v20 h =>
 gd v19 false h (fun q=>bnd (ld1 h v20) fun v=>q v h) fun v21 h =>
 gd v15 true h (fun q=>bnd (pickV v19 (.d (.bool true)) v21) fun v=>q v h) fun v22 h =>
 gd v11 false h (fun q=>bnd (pickV v15 v22 (.d (.bool false))) fun v=>q v h) fun v23 h =>
 bnd (pickV v11 (.d (.bool true)) v23) fun v24 =>
 gd v24 false h (fun q=>q (ge l9 0) h) fun v25 h =>
 gd v24 false h (fun q=>bnd (lenS v25) fun v=>q v h) fun v26 h =>
 gd v24 false h (fun q=>bnd (biI .gtr v26 (.d (.int .i64 400))) fun v=>q v h) fun v27 h =>
 bnd (pickV v24 (.d (.bool true)) v27) fun v28 =>
 cnd v28 (
 bnd (bld [(0,1),(1,1)] [.bool false,.pl (.slice none 0 0)] []) fun v29 =>
 stD h 2 v1 v29 fun _ h =>
 bnd (ldA h 2 v1) fun v31 =>
 q (.tup [v31,(.d (.bool false))]) h) (
 bnd (lenS (ge l9 0)) fun v32 =>
 lp (checker_read_l0 C v1 (ge l9 0) v2 v32) [] h [(.d (.int .i64 0))] h (exK [((.exit 0),fun l33 h =>
 bnd (ldA h 2 v2) fun v34 =>
 stD h 2 v1 v34 fun _ h =>
 bnd (ldA h 2 v1) fun v36 =>
 q (.tup [v36,(.d (.bool true))]) h),
 (.ret,fun l33 h =>
 bnd (ldA h 2 v1) fun v37 =>
 q (.tup [v37,(ge l33 0)]) h)]))) fun q10 =>
 cnd v8 (
 bnd (slS t0 (some (.d (.int .i64 1))) none) fun v38 =>
 bnd (faV 0 v2) fun v39 =>
 stD h 1 v39 (.d (.bool true)) fun _ h =>
 q10 [v38] h) (
 q10 [t0] h)
def checker_read_a:Ann:=(.n .x (.n (.r [.slot 0]) .o .o) (.n .x .o (.n .x (.n (.r [.slot 1]) .o .o) (.n .x (.n .x .o (.n (.j [4] [2,5]) .o .o)) (.n .x .o (.n .x (.n .x .o (.n .x (.n (.l [43] [2,4,5,42] [((.exit 0),[],[2,5]),(.ret,[3],[2])] []) .o .o) .o)) .o))))))
attribute [local irreducible] bnd gd cal cnd ext lisD lisS stD alV alD boxD jn lp exK mkS apV cai nilD in
theorem checker_read_e (C:CC) (t0:V) (q:V→Hp→Prop):fnD Y C Go.Proofs.Tryz.f78 2 checker_read_a [t0] q=checker_read C t0 q:=by
 repeat' (first | (refine bnd_e rfl fun _=>?_) | (refine gd_e rfl fun _ _=>?_) | (refine cal_e rfl fun _ _=>?_) | (refine cnd_e rfl ?_ ?_) | (refine ext_e rfl fun _=>?_) | (refine lisD_e rfl fun _ _=>?_) | (refine stD_e rfl fun _ _=>?_) | (refine alV_e rfl fun _ _=>?_) | (refine boxD_e rfl fun _ _=>?_) | (refine jn_e rfl (fun _ _=>?_) fun _=>?_) | (refine lp_e rfl (fun _ _ _=>?_) fun _ _ _=>?_) | (refine exK_e rfl (fun _ _=>?_) ?_) | (refine mkS_e rfl fun _ _=>?_) | (refine apV_e rfl fun _ _=>?_) | (refine cai_e rfl fun _ _=>?_) | (refine lisS_e rfl fun _ _=>?_) | (refine alD_e rfl fun _ _=>?_) | (refine nilD_e rfl fun _=>?_) | exact rfl | (refine leaf_e rfl ?_))
theorem checker_read_o:okB Go.Proofs.Tryz.prog Go.Proofs.Tryz.f78 checker_read_a=true:=by decide +kernel
theorem checker_read_i {t0 v:V} (h:checker_read (CX Y) t0 (out v)):CP Y F.checker_read [t0] v :=
 CP.of (fn:=Go.Proofs.Tryz.f78) (m:=2) (a:=checker_read_a) rfl (fun _=>rfl) Go.Proofs.Tryz.func78 checker_read_o (by rw [checker_read_e]; exact h)
def checker_parts (C:CC) (t0:V) (q:V→Hp→Prop):Prop :=
 let h:Hp:=List.replicate 4 (0,.none)
 boxD 0 t0 h fun v1 h =>
 alV 1 [.d (.bool false),.d (.pl (.slice none 0 0)),.d (.pl (.slice none 0 0))] h fun v2 h =>
 bnd (faV 0 v1) fun v3 =>
 bnd (ld1 h v3) fun v4 =>
 cal C.p h (.fn F.checker_read [] []) [v4] fun v5 h =>
 ext v5 0 fun v6 =>
 ext v5 1 fun v7 =>
 alV 2 [.d (.bool false),.d (.pl (.slice none 0 0))] h fun v8 h =>
 stD h 2 v8 v6 fun _ h =>
 bnd (faV 1 v1) fun v10 =>
 bnd (ld1 h v10) fun v11 =>
 cal C.p h (.fn F.checker_read [] []) [v11] fun v12 h =>
 ext v12 0 fun v13 =>
 ext v12 1 fun v14 =>
 alV 3 [.d (.bool false),.d (.pl (.slice none 0 0))] h fun v15 h =>
 stD h 2 v15 v13 fun _ h =>
 bnd (unV .not v7) fun v17 =>
 gd v17 false h (fun q=>q v14 h) fun v18 h =>
 gd v17 false h (fun q=>bnd (unV .not v18) fun v=>q v h) fun v19 h =>
 bnd (pickV v17 (.d (.bool true)) v19) fun v20 =>
 gd v20 false h (fun q=>bnd (faV 0 v15) fun v=>q v h) fun v21 h =>
 gd v20 false h (fun q=>bnd (ld1 h v21) fun v=>q v h) fun v22 h =>
 bnd (pickV v20 (.d (.bool true)) v22) fun v23 =>
 gd v23 false h (fun q=>bnd (faV 1 v15) fun v=>q v h) fun v24 h =>
 gd v23 false h (fun q=>bnd (ld1 h v24) fun v=>q v h) fun v25 h =>
 gd v23 false h (fun q=>bnd (lenV v25) fun v=>q v h) fun v26 h =>
 gd v23 false h (fun q=>bnd (biI .eql v26 (.d (.int .i64 0))) fun v=>q v h) fun v27 h =>
 bnd (pickV v23 (.d (.bool true)) v27) fun v28 =>
 gd v28 false h (fun q=>bnd (faV 1 v8) fun v=>q v h) fun v29 h =>
 gd v28 false h (fun q=>bnd (ld1 h v29) fun v=>q v h) fun v30 h =>
 gd v28 false h (fun q=>bnd (faV 1 v15) fun v=>q v h) fun v31 h =>
 gd v28 false h (fun q=>bnd (ld1 h v31) fun v=>q v h) fun v32 h =>
 gd v28 false h (fun q=>cal C.p h (.fn F.checker_common [] []) [v30,v32] q) fun v33 h =>
 gd v28 false h (fun q=>lisD 1 [.int .u32 0] [(0,(.d (.int .u32 1)))] h q) fun v34 h =>
 gd v28 false h (fun q=>cal C.p h (.fn F.checker_order [] []) [v33,v34] q) fun v35 h =>
 gd v28 false h (fun q=>bnd (biI .neq v35 (.d (.int .i64 0))) fun v=>q v h) fun v36 h =>
 bnd (pickV v28 (.d (.bool true)) v36) fun v37 =>
 cnd v37 (
 bnd (bld [(0,2),(2,1)] [.bool false,.pl (.slice none 0 0),.pl (.slice none 0 0)] []) fun v38 =>
 stD h 3 v2 v38 fun _ h =>
 bnd (ldA h 3 v2) fun v40 =>
 q (.tup [v40,(.d (.bool false))]) h) (
 bnd (ldA h 2 v8) fun v41 =>
 bnd (faV 1 v15) fun v42 =>
 bnd (ld1 h v42) fun v43 =>
 bnd (bld [(0,2),(2,1)] [.bool false,.pl (.slice none 0 0),.pl (.slice none 0 0)] [(0,v41),(1,v43)]) fun v44 =>
 stD h 3 v2 v44 fun _ h =>
 bnd (ldA h 3 v2) fun v46 =>
 q (.tup [v46,(.d (.bool true))]) h)
def checker_parts_a:Ann:=(.n .x (.n (.r [.slot 0,.slot 1]) .o .o) (.n .x (.n (.r [.o,.slot 2]) .o .o) (.n .x (.n (.r [.o,.slot 3]) .o .o) .o)))
theorem checker_parts_e (C:CC) (t0:V) (q:V→Hp→Prop):fnD Y C Go.Proofs.Tryz.f73 4 checker_parts_a [t0] q=checker_parts C t0 q:=by
 rfl
theorem checker_parts_o:okB Go.Proofs.Tryz.prog Go.Proofs.Tryz.f73 checker_parts_a=true:=by decide +kernel
theorem checker_parts_i {t0 v:V} (h:checker_parts (CX Y) t0 (out v)):CP Y F.checker_parts [t0] v :=
 CP.of (fn:=Go.Proofs.Tryz.f73) (m:=4) (a:=checker_parts_a) rfl (fun _=>rfl) Go.Proofs.Tryz.func73 checker_parts_o (by rw [checker_parts_e]; exact h)
def checker_list_l0 (C:CC) (p9:V) (p10:V):StepT:=fun l h q =>
 bnd (biI .lss (ge l 1) p10) fun v1 =>
 cnd v1 (
 bnd (ixV h 2 p9 (ge l 1)) fun v2 =>
 bnd (ldA h 2 v2) fun v3 =>
 alV 0 [.d (.str []),.d (.str [])] h fun v4 h =>
 stD h 2 v4 v3 fun _ h =>
 bnd (ldA h 2 v4) fun v6 =>
 cal C.p h (.fn F.checker_parts [] []) [v6] fun v7 h =>
 ext v7 0 fun v8 =>
 ext v7 1 fun v9 =>
 alV 1 [.d (.bool false),.d (.pl (.slice none 0 0)),.d (.pl (.slice none 0 0))] h fun v10 h =>
 stD h 3 v10 v8 fun _ h =>
 bnd (unV .not v9) fun v12 =>
 cnd v12 (
 q .ret [(.d (.pl (.slice none 0 0))),(.d (.bool false))] h) (
 bnd (ldA h 3 v10) fun v13 =>
 lisD 1 [.bool false,.pl (.slice none 0 0),.pl (.slice none 0 0)] [(0,v13)] h fun v14 h =>
 apV false 2 3 56 (ge l 0) v14 h fun v15 h =>
 bnd (biI .add (ge l 1) (.d (.int .i64 1))) fun v16 =>
 q .normal [v15,v16] h)) (
 q (.exit 0) [(ge l 0)] h)
def checker_list (C:CC) (t0:V) (q:V→Hp→Prop):Prop :=
 let h:Hp:=List.replicate 3 (0,.none)
 bnd (lenV t0) fun v1 =>
 lp (checker_list_l0 C t0 v1) [0,1] h [(.d (.pl (.slice none 0 0))),(.d (.int .i64 0))] h (exK [((.exit 0),fun l2 h =>
 q (.tup [(ge l2 0),(.d (.bool true))]) h),
 (.ret,fun l2 h =>
 q (.tup [(ge l2 0),(ge l2 1)]) h)])
def checker_list_a:Ann:=(.n .x .o (.n .x .o (.n .x (.n .x .o (.n .x (.n (.l [4,11] [9,10] [((.exit 0),[4],[]),(.ret,[2,3],[])] [0,1]) (.n .x .o (.n .x .o (.n .x (.n .x (.n .x (.n (.r [.slot 0]) .o .o) (.n .x (.n (.r [.o,.slot 1]) .o .o) (.n .x .o (.n (.r [.o,.slot 2]) .o .o)))) .o) .o))) .o) .o)) .o)))
theorem checker_list_e (C:CC) (t0:V) (q:V→Hp→Prop):fnD Y C Go.Proofs.Tryz.f89 3 checker_list_a [t0] q=checker_list C t0 q:=by
 rfl
theorem checker_list_o:okB Go.Proofs.Tryz.prog Go.Proofs.Tryz.f89 checker_list_a=true:=by decide +kernel
theorem checker_list_i {t0 v:V} (h:checker_list (CX Y) t0 (out v)):CP Y F.checker_list [t0] v :=
 CP.of (fn:=Go.Proofs.Tryz.f89) (m:=3) (a:=checker_list_a) rfl (fun _=>rfl) Go.Proofs.Tryz.func89 checker_list_o (by rw [checker_list_e]; exact h)
def checker_fraction_add (C:CC) (t0:V) (t1:V) (q:V→Hp→Prop):Prop :=
 let h:Hp:=List.replicate 3 (0,.none)
 boxD 0 t0 h fun v1 h =>
 boxD 1 t1 h fun v2 h =>
 alV 2 [.d (.bool false),.d (.pl (.slice none 0 0)),.d (.pl (.slice none 0 0))] h fun v3 h =>
 bnd (faV 2 v1) fun v4 =>
 bnd (ld1 h v4) fun v5 =>
 bnd (faV 2 v2) fun v6 =>
 bnd (ld1 h v6) fun v7 =>
 cal C.p h (.fn F.checker_order [] []) [v5,v7] fun v8 h =>
 bnd (biI .eql v8 (.d (.int .i64 0))) fun v9 =>
 cnd v9 (
 bnd (faV 0 v1) fun v10 =>
 bnd (ldA h 2 v10) fun v11 =>
 bnd (faV 0 v2) fun v12 =>
 bnd (ldA h 2 v12) fun v13 =>
 cal C.p h (.fn F.checker_integer_add [] []) [v11,v13] fun v14 h =>
 bnd (faV 2 v1) fun v15 =>
 bnd (ld1 h v15) fun v16 =>
 bnd (bld [(0,2),(2,1)] [.bool false,.pl (.slice none 0 0),.pl (.slice none 0 0)] [(0,v14),(1,v16)]) fun v17 =>
 stD h 3 v3 v17 fun _ h =>
 bnd (ldA h 3 v3) fun v19 =>
 q v19 h) (
 bnd (faV 0 v1) fun v20 =>
 bnd (ldA h 2 v20) fun v21 =>
 bnd (faV 2 v2) fun v22 =>
 bnd (ld1 h v22) fun v23 =>
 bnd (bld [(0,1),(1,1)] [.bool false,.pl (.slice none 0 0)] [(1,v23)]) fun v24 =>
 cal C.p h (.fn F.checker_integer_times [] []) [v21,v24] fun v25 h =>
 bnd (faV 0 v2) fun v26 =>
 bnd (ldA h 2 v26) fun v27 =>
 bnd (faV 2 v1) fun v28 =>
 bnd (ld1 h v28) fun v29 =>
 bnd (bld [(0,1),(1,1)] [.bool false,.pl (.slice none 0 0)] [(1,v29)]) fun v30 =>
 cal C.p h (.fn F.checker_integer_times [] []) [v27,v30] fun v31 h =>
 cal C.p h (.fn F.checker_integer_add [] []) [v25,v31] fun v32 h =>
 bnd (faV 2 v1) fun v33 =>
 bnd (ld1 h v33) fun v34 =>
 bnd (faV 2 v2) fun v35 =>
 bnd (ld1 h v35) fun v36 =>
 cal C.p h (.fn F.checker_product [] []) [v34,v36] fun v37 h =>
 bnd (bld [(0,2),(2,1)] [.bool false,.pl (.slice none 0 0),.pl (.slice none 0 0)] [(0,v32),(1,v37)]) fun v38 =>
 stD h 3 v3 v38 fun _ h =>
 bnd (ldA h 3 v3) fun v40 =>
 q v40 h)
def checker_fraction_add_a:Ann:=(.n .x (.n (.r [.slot 0,.slot 1,.slot 2]) .o .o) .o)
theorem checker_fraction_add_e (C:CC) (t0:V) (t1:V) (q:V→Hp→Prop):fnD Y C Go.Proofs.Tryz.f92 3 checker_fraction_add_a [t0,t1] q=checker_fraction_add C t0 t1 q:=by
 rfl
theorem checker_fraction_add_o:okB Go.Proofs.Tryz.prog Go.Proofs.Tryz.f92 checker_fraction_add_a=true:=by decide +kernel
theorem checker_fraction_add_i {t0 t1 v:V} (h:checker_fraction_add (CX Y) t0 t1 (out v)):CP Y F.checker_fraction_add [t0,t1] v :=
 CP.of (fn:=Go.Proofs.Tryz.f92) (m:=3) (a:=checker_fraction_add_a) rfl (fun _=>rfl) Go.Proofs.Tryz.func92 checker_fraction_add_o (by rw [checker_fraction_add_e]; exact h)
def checker_fraction_times (C:CC) (t0:V) (t1:V) (q:V→Hp→Prop):Prop :=
 let h:Hp:=List.replicate 3 (0,.none)
 boxD 0 t0 h fun v1 h =>
 boxD 1 t1 h fun v2 h =>
 alV 2 [.d (.bool false),.d (.pl (.slice none 0 0)),.d (.pl (.slice none 0 0))] h fun v3 h =>
 bnd (faV 0 v1) fun v4 =>
 bnd (ldA h 2 v4) fun v5 =>
 bnd (faV 0 v2) fun v6 =>
 bnd (ldA h 2 v6) fun v7 =>
 cal C.p h (.fn F.checker_integer_times [] []) [v5,v7] fun v8 h =>
 bnd (faV 2 v1) fun v9 =>
 bnd (ld1 h v9) fun v10 =>
 bnd (faV 2 v2) fun v11 =>
 bnd (ld1 h v11) fun v12 =>
 cal C.p h (.fn F.checker_product [] []) [v10,v12] fun v13 h =>
 bnd (bld [(0,2),(2,1)] [.bool false,.pl (.slice none 0 0),.pl (.slice none 0 0)] [(0,v8),(1,v13)]) fun v14 =>
 stD h 3 v3 v14 fun _ h =>
 bnd (ldA h 3 v3) fun v16 =>
 q v16 h
def checker_fraction_times_a:Ann:=(.n .x (.n (.r [.slot 0,.slot 1,.slot 2]) .o .o) .o)
theorem checker_fraction_times_e (C:CC) (t0:V) (t1:V) (q:V→Hp→Prop):fnD Y C Go.Proofs.Tryz.f93 3 checker_fraction_times_a [t0,t1] q=checker_fraction_times C t0 t1 q:=by
 rfl
theorem checker_fraction_times_o:okB Go.Proofs.Tryz.prog Go.Proofs.Tryz.f93 checker_fraction_times_a=true:=by decide +kernel
theorem checker_fraction_times_i {t0 t1 v:V} (h:checker_fraction_times (CX Y) t0 t1 (out v)):CP Y F.checker_fraction_times [t0,t1] v :=
 CP.of (fn:=Go.Proofs.Tryz.f93) (m:=3) (a:=checker_fraction_times_a) rfl (fun _=>rfl) Go.Proofs.Tryz.func93 checker_fraction_times_o (by rw [checker_fraction_times_e]; exact h)
def checker_fraction_zero (C:CC) (t0:V) (q:V→Hp→Prop):Prop :=
 let h:Hp:=List.replicate 1 (0,.none)
 boxD 0 t0 h fun v1 h =>
 bnd (faV 0 v1) fun v2 =>
 bnd (faV 1 v2) fun v3 =>
 bnd (ld1 h v3) fun v4 =>
 bnd (lenV v4) fun v5 =>
 bnd (biI .eql v5 (.d (.int .i64 0))) fun v6 =>
 q v6 h
def checker_fraction_zero_a:Ann:=(.n .x (.n (.r [.slot 0]) .o .o) .o)
theorem checker_fraction_zero_e (C:CC) (t0:V) (q:V→Hp→Prop):fnD Y C Go.Proofs.Tryz.f90 1 checker_fraction_zero_a [t0] q=checker_fraction_zero C t0 q:=by
 rfl
theorem checker_fraction_zero_o:okB Go.Proofs.Tryz.prog Go.Proofs.Tryz.f90 checker_fraction_zero_a=true:=by decide +kernel
theorem checker_fraction_zero_i {t0 v:V} (h:checker_fraction_zero (CX Y) t0 (out v)):CP Y F.checker_fraction_zero [t0] v :=
 CP.of (fn:=Go.Proofs.Tryz.f90) (m:=1) (a:=checker_fraction_zero_a) rfl (fun _=>rfl) Go.Proofs.Tryz.func90 checker_fraction_zero_o (by rw [checker_fraction_zero_e]; exact h)
def checker_nothing (C:CC) (q:V→Hp→Prop):Prop :=
 let h:Hp:=List.replicate 1 (0,.none)
 alV 0 [.d (.bool false),.d (.pl (.slice none 0 0)),.d (.pl (.slice none 0 0))] h fun v1 h =>
 lisD 1 [.int .u32 0] [(0,(.d (.int .u32 1)))] h fun v2 h =>
 bnd (bld [(0,2),(2,1)] [.bool false,.pl (.slice none 0 0),.pl (.slice none 0 0)] [(1,v2)]) fun v3 =>
 stD h 3 v1 v3 fun _ h =>
 bnd (ldA h 3 v1) fun v5 =>
 q v5 h
def checker_nothing_a:Ann:=(.n .x (.n (.r [.slot 0]) .o .o) .o)
theorem checker_nothing_e (C:CC) (q:V→Hp→Prop):fnD Y C Go.Proofs.Tryz.f91 1 checker_nothing_a [] q=checker_nothing C q:=by
 rfl
theorem checker_nothing_o:okB Go.Proofs.Tryz.prog Go.Proofs.Tryz.f91 checker_nothing_a=true:=by decide +kernel
theorem checker_nothing_i {v:V} (h:checker_nothing (CX Y) (out v)):CP Y F.checker_nothing [] v :=
 CP.of (fn:=Go.Proofs.Tryz.f91) (m:=1) (a:=checker_nothing_a) rfl (fun _=>rfl) Go.Proofs.Tryz.func91 checker_nothing_o (by rw [checker_nothing_e]; exact h)
def checker_Number (C:CC) (t0:V) (q:V→Hp→Prop):Prop :=
 let h:Hp:=List.replicate 2 (0,.none)
 boxD 0 t0 h fun v1 h =>
 bnd (ldA h 2 v1) fun v2 =>
 cal C.p h (.fn F.checker_parts [] []) [v2] fun v3 h =>
 ext v3 0 fun v4 =>
 ext v3 1 fun v5 =>
 alV 1 [.d (.bool false),.d (.pl (.slice none 0 0)),.d (.pl (.slice none 0 0))] h fun v6 h =>
 stD h 3 v6 v4 fun _ h =>
 q v5 h
def checker_Number_a:Ann:=(.n .x (.n (.r [.slot 0]) .o .o) (.n .x (.n (.r [.o,.slot 1]) .o .o) .o))
theorem checker_Number_e (C:CC) (t0:V) (q:V→Hp→Prop):fnD Y C Go.Proofs.Tryz.f28 2 checker_Number_a [t0] q=checker_Number C t0 q:=by
 rfl
theorem checker_Number_o:okB Go.Proofs.Tryz.prog Go.Proofs.Tryz.f28 checker_Number_a=true:=by decide +kernel
theorem checker_Number_i {t0 v:V} (h:checker_Number (CX Y) t0 (out v)):CP Y F.checker_Number [t0] v :=
 CP.of (fn:=Go.Proofs.Tryz.f28) (m:=2) (a:=checker_Number_a) rfl (fun _=>rfl) Go.Proofs.Tryz.func28 checker_Number_o (by rw [checker_Number_e]; exact h)
def checker_isPrime_l0 (C:CC) (p0:V):StepT:=fun l h q =>
 bnd (biI .lss (ge l 0) p0) fun v1 =>
 cnd v1 (
 bnd (biI .rem p0 (ge l 0)) fun v2 =>
 bnd (biI .eql v2 (.d (.int .i64 0))) fun v3 =>
 cnd v3 (
 q .ret [(.d (.bool false))] h) (
 bnd (biI .add (ge l 0) (.d (.int .i64 1))) fun v4 =>
 q .normal [v4] h)) (
 q (.exit 0) [] h)
def checker_isPrime (C:CC) (t0:V) (q:V→Hp→Prop):Prop :=
 let h:Hp:=List.replicate 0 (0,.none)
 bnd (biI .lss t0 (.d (.int .i64 2))) fun v1 =>
 gd v1 false h (fun q=>q t0 h) fun v2 h =>
 gd v1 false h (fun q=>bnd (biI .gtr v2 (.d (.int .i64 97))) fun v=>q v h) fun v3 h =>
 bnd (pickV v1 (.d (.bool true)) v3) fun v4 =>
 cnd v4 (
 q (.d (.bool false)) h) (
 lp (checker_isPrime_l0 C t0) [] h [(.d (.int .i64 2))] h (exK [((.exit 0),fun l5 h =>
 q (.d (.bool true)) h),
 (.ret,fun l5 h =>
 q (ge l5 0) h)]))
def checker_isPrime_a:Ann:=(.n .x .o (.n .x .o (.n .x (.n .x .o (.n .x (.n (.l [3] [0] [((.exit 0),[],[]),(.ret,[2],[])] []) .o .o) .o)) .o)))
theorem checker_isPrime_e (C:CC) (t0:V) (q:V→Hp→Prop):fnD Y C Go.Proofs.Tryz.f75 0 checker_isPrime_a [t0] q=checker_isPrime C t0 q:=by
 rfl
theorem checker_isPrime_o:okB Go.Proofs.Tryz.prog Go.Proofs.Tryz.f75 checker_isPrime_a=true:=by decide +kernel
theorem checker_isPrime_i {t0 v:V} (h:checker_isPrime (CX Y) t0 (out v)):CP Y F.checker_isPrime [t0] v :=
 CP.of (fn:=Go.Proofs.Tryz.f75) (m:=0) (a:=checker_isPrime_a) rfl (fun _=>rfl) Go.Proofs.Tryz.func75 checker_isPrime_o (by rw [checker_isPrime_e]; exact h)
def checker_Primes_l0 (C:CC) (p0:V) (p5:V) (p6:V):StepT:=fun l h q =>
 bnd (biI .lss (ge l 0) p6) fun v1 =>
 cnd v1 (
 bnd (ixV h 1 p5 (ge l 0)) fun v2 =>
 bnd (ld1 h v2) fun v3 =>
 cal C.p h (.fn F.checker_isPrime [] []) [v3] fun v4 h =>
 bnd (unV .not v4) fun v5 =>
 gd v5 false h (fun q=>q (ge l 0) h) fun v6 h =>
 gd v5 false h (fun q=>bnd (biI .gtr v6 (.d (.int .i64 0))) fun v=>q v h) fun v7 h =>
 gd v5 false h (fun q=>q v7 h) fun v8 h =>
 gd v8 true h (fun q=>q v3 h) fun v9 h =>
 gd v8 true h (fun q=>q p0 h) fun v10 h =>
 gd v8 true h (fun q=>q (ge l 0) h) fun v11 h =>
 gd v8 true h (fun q=>bnd (biI .sub v11 (.d (.int .i64 1))) fun v=>q v h) fun v12 h =>
 gd v8 true h (fun q=>bnd (ixV h 1 v10 v12) fun v=>q v h) fun v13 h =>
 gd v8 true h (fun q=>bnd (ld1 h v13) fun v=>q v h) fun v14 h =>
 gd v8 true h (fun q=>bnd (biI .leq v9 v14) fun v=>q v h) fun v15 h =>
 gd v5 false h (fun q=>bnd (pickV v8 v15 (.d (.bool false))) fun v=>q v h) fun v16 h =>
 bnd (pickV v5 (.d (.bool true)) v16) fun v17 =>
 cnd v17 (
 q .ret [(.d (.bool false))] h) (
 bnd (biI .add (ge l 0) (.d (.int .i64 1))) fun v18 =>
 q .normal [v18] h)) (
 q (.exit 0) [] h)
def checker_Primes (C:CC) (t0:V) (q:V→Hp→Prop):Prop :=
 let h:Hp:=List.replicate 0 (0,.none)
 bnd (lenV t0) fun v1 =>
 lp (checker_Primes_l0 C t0 t0 v1) [] h [(.d (.int .i64 0))] h (exK [((.exit 0),fun l2 h =>
 bnd (lenV t0) fun v3 =>
 bnd (biI .gtr v3 (.d (.int .i64 0))) fun v4 =>
 gd v4 true h (fun q=>q t0 h) fun v5 h =>
 gd v4 true h (fun q=>bnd (lenV v5) fun v=>q v h) fun v6 h =>
 gd v4 true h (fun q=>bnd (biI .leq v6 (.d (.int .i64 6))) fun v=>q v h) fun v7 h =>
 bnd (pickV v4 v7 (.d (.bool false))) fun v8 =>
 q v8 h),
 (.ret,fun l2 h =>
 q (ge l2 0) h)])
def checker_Primes_a:Ann:=(.n .x .o (.n .x (.n .x .o (.n .x (.n (.l [7] [0,5,6] [((.exit 0),[],[0]),(.ret,[2],[])] []) .o .o) .o)) .o))
theorem checker_Primes_e (C:CC) (t0:V) (q:V→Hp→Prop):fnD Y C Go.Proofs.Tryz.f30 0 checker_Primes_a [t0] q=checker_Primes C t0 q:=by
 rfl
theorem checker_Primes_o:okB Go.Proofs.Tryz.prog Go.Proofs.Tryz.f30 checker_Primes_a=true:=by decide +kernel
theorem checker_Primes_i {t0 v:V} (h:checker_Primes (CX Y) t0 (out v)):CP Y F.checker_Primes [t0] v :=
 CP.of (fn:=Go.Proofs.Tryz.f30) (m:=0) (a:=checker_Primes_a) rfl (fun _=>rfl) Go.Proofs.Tryz.func30 checker_Primes_o (by rw [checker_Primes_e]; exact h)
def checker_short (C:CC) (t0:V) (q:V→Hp→Prop):Prop :=
 let h:Hp:=List.replicate 0 (0,.none)
 bnd (lenS t0) fun v1 =>
 bnd (biI .gtr v1 (.d (.int .i64 0))) fun v2 =>
 gd v2 true h (fun q=>q t0 h) fun v3 h =>
 gd v2 true h (fun q=>bnd (ixS v3 (.d (.int .i64 0))) fun v=>q v h) fun v4 h =>
 gd v2 true h (fun q=>bnd (biI .eql v4 (.d (.int .u8 45))) fun v=>q v h) fun v5 h =>
 bnd (pickV v2 v5 (.d (.bool false))) fun v6 =>
 jn (fun l7 h =>
 bnd (biI .leq (ge l7 0) (.d (.int .i64 30))) fun v9 =>
 q v9 h) fun q8 =>
 cnd v6 (
 bnd (biI .sub v1 (.d (.int .i64 1))) fun v10 =>
 q8 [v10] h) (
 q8 [v1] h)
def checker_short_a:Ann:=(.n .x .o (.n .x .o (.n .x (.n .x .o (.n (.j [3] []) .o .o)) .o)))
theorem checker_short_e (C:CC) (t0:V) (q:V→Hp→Prop):fnD Y C Go.Proofs.Tryz.f76 0 checker_short_a [t0] q=checker_short C t0 q:=by
 rfl
theorem checker_short_o:okB Go.Proofs.Tryz.prog Go.Proofs.Tryz.f76 checker_short_a=true:=by decide +kernel
theorem checker_short_i {t0 v:V} (h:checker_short (CX Y) t0 (out v)):CP Y F.checker_short [t0] v :=
 CP.of (fn:=Go.Proofs.Tryz.f76) (m:=0) (a:=checker_short_a) rfl (fun _=>rfl) Go.Proofs.Tryz.func76 checker_short_o (by rw [checker_short_e]; exact h)
def checker_Size_l0 (C:CC) (p17:V) (p18:V):StepT:=fun l h q =>
 bnd (biI .lss (ge l 0) p18) fun v1 =>
 cnd v1 (
 bnd (ixV h 2 p17 (ge l 0)) fun v2 =>
 bnd (ldA h 2 v2) fun v3 =>
 alV 0 [.d (.str []),.d (.str [])] h fun v4 h =>
 stD h 2 v4 v3 fun _ h =>
 bnd (faV 0 v4) fun v6 =>
 bnd (ld1 h v6) fun v7 =>
 cal C.p h (.fn F.checker_short [] []) [v7] fun v8 h =>
 bnd (unV .not v8) fun v9 =>
 gd v9 false h (fun q=>bnd (faV 1 v4) fun v=>q v h) fun v10 h =>
 gd v9 false h (fun q=>bnd (ld1 h v10) fun v=>q v h) fun v11 h =>
 gd v9 false h (fun q=>cal C.p h (.fn F.checker_short [] []) [v11] q) fun v12 h =>
 gd v9 false h (fun q=>bnd (unV .not v12) fun v=>q v h) fun v13 h =>
 bnd (pickV v9 (.d (.bool true)) v13) fun v14 =>
 gd v14 false h (fun q=>bnd (ldA h 2 v4) fun v=>q v h) fun v15 h =>
 gd v14 false h (fun q=>cal C.p h (.fn F.checker_Number [] []) [v15] q) fun v16 h =>
 gd v14 false h (fun q=>bnd (unV .not v16) fun v=>q v h) fun v17 h =>
 bnd (pickV v14 (.d (.bool true)) v17) fun v18 =>
 cnd v18 (
 q .ret [(.d (.bool false))] h) (
 bnd (biI .add (ge l 0) (.d (.int .i64 1))) fun v19 =>
 q .normal [v19] h)) (
 q (.exit 0) [] h)
def checker_Size (C:CC) (t0:V) (t1:V) (q:V→Hp→Prop):Prop :=
 let h:Hp:=List.replicate 1 (0,.none)
 cal C.p h (.fn F.checker_Primes [] []) [t0] fun v1 h =>
 bnd (unV .not v1) fun v2 =>
 gd v2 false h (fun q=>q t1 h) fun v3 h =>
 gd v2 false h (fun q=>bnd (lenV v3) fun v=>q v h) fun v4 h =>
 gd v2 false h (fun q=>q t0 h) fun v5 h =>
 gd v2 false h (fun q=>bnd (lenV v5) fun v=>q v h) fun v6 h =>
 gd v2 false h (fun q=>bnd (biI .neq v4 v6) fun v=>q v h) fun v7 h =>
 bnd (pickV v2 (.d (.bool true)) v7) fun v8 =>
 cnd v8 (
 q (.d (.bool false)) h) (
 bnd (lenV t1) fun v9 =>
 lp (checker_Size_l0 C t1 v9) [0] h [(.d (.int .i64 0))] h (exK [((.exit 0),fun l10 h =>
 q (.d (.bool true)) h),
 (.ret,fun l10 h =>
 q (ge l10 0) h)]))
def checker_Size_a:Ann:=(.n .x .o (.n .x .o (.n .x (.n .x .o (.n .x (.n (.l [19] [17,18] [((.exit 0),[],[]),(.ret,[4],[])] [0]) (.n .x .o (.n .x .o (.n .x (.n .x (.n .x (.n (.r [.slot 0]) .o .o) .o) .o) .o))) .o) .o)) .o)))
theorem checker_Size_e (C:CC) (t0:V) (t1:V) (q:V→Hp→Prop):fnD Y C Go.Proofs.Tryz.f32 1 checker_Size_a [t0,t1] q=checker_Size C t0 t1 q:=by
 rfl
theorem checker_Size_o:okB Go.Proofs.Tryz.prog Go.Proofs.Tryz.f32 checker_Size_a=true:=by decide +kernel
theorem checker_Size_i {t0 t1 v:V} (h:checker_Size (CX Y) t0 t1 (out v)):CP Y F.checker_Size [t0,t1] v :=
 CP.of (fn:=Go.Proofs.Tryz.f32) (m:=1) (a:=checker_Size_a) rfl (fun _=>rfl) Go.Proofs.Tryz.func32 checker_Size_o (by rw [checker_Size_e]; exact h)
def checker_logarithm_l0 (C:CC) (p2:V) (p13:V) (p34:V):StepT:=fun l h q =>
 bnd (biI .lss (ge l 3) p34) fun v1 =>
 cnd v1 (
 jn (fun l2 h =>
 bnd (biI .add (ge l 3) (.d (.int .i64 1))) fun v4 =>
 q .normal [(ge l2 0),(ge l2 1),(ge l2 2),v4] h) fun q3 =>
 cal C.p h (.fn F.checker_product [] []) [(ge l 0),(ge l 0)] fun v5 h =>
 bnd (unV .neg p2) fun v6 =>
 cal C.p h (.fn F.checker_shift [] []) [v5,v6] fun v7 h =>
 cal C.p h (.fn F.checker_product [] []) [(ge l 1),(ge l 1)] fun v8 h =>
 bnd (unV .neg p2) fun v9 =>
 cal C.p h (.fn F.checker_shift [] []) [v8,v9] fun v10 h =>
 cal C.p h (.fn F.checker_shift [] []) [v10,p2] fun v11 h =>
 cal C.p h (.fn F.checker_order [] []) [v11,v8] fun v12 h =>
 bnd (biI .neq v12 (.d (.int .i64 0))) fun v13 =>
 jn (fun l14 h =>
 cal C.p h (.fn F.checker_shift [] []) [(ge l 2),(.d (.int .i64 1))] fun v16 h =>
 jn (fun l17 h =>
 q3 [(ge l17 1),(ge l17 2),(ge l17 0)] h) fun q18 =>
 cal C.p h (.fn F.checker_order [] []) [v7,p13] fun v19 h =>
 bnd (biI .geq v19 (.d (.int .i64 0))) fun v20 =>
 jn (fun l21 h =>
 q18 [(ge l21 0),(ge l21 1),(ge l21 2)] h) fun q22 =>
 cnd v20 (
 lisD 1 [.int .u32 0] [(0,(.d (.int .u32 1)))] h fun v23 h =>
 cal C.p h (.fn F.checker_plus [] []) [v16,v23] fun v24 h =>
 cal C.p h (.fn F.checker_shift [] []) [v7,(.d (.int .i64 (-1)))] fun v25 h =>
 lisD 1 [.int .u32 0] [(0,(.d (.int .u32 1)))] h fun v26 h =>
 cal C.p h (.fn F.checker_plus [] []) [(ge l14 0),v26] fun v27 h =>
 cal C.p h (.fn F.checker_shift [] []) [v27,(.d (.int .i64 (-1)))] fun v28 h =>
 q22 [v24,v25,v28] h) (
 cal C.p h (.fn F.checker_order [] []) [(ge l14 0),p13] fun v29 h =>
 bnd (biI .geq v29 (.d (.int .i64 0))) fun v30 =>
 cnd v30 (
 q .ret [(.d (.pl (.slice none 0 0))),(.d (.bool false))] h) (
 q22 [v16,v7,(ge l14 0)] h))) fun q15 =>
 cnd v13 (
 lisD 1 [.int .u32 0] [(0,(.d (.int .u32 1)))] h fun v31 h =>
 cal C.p h (.fn F.checker_plus [] []) [v10,v31] fun v32 h =>
 q15 [v32] h) (
 q15 [v10] h)) (
 q (.exit 0) [(ge l 2)] h)
def checker_logarithm (C:CC) (t0:V) (t1:V) (t2:V) (q:V→Hp→Prop):Prop :=
 let h:Hp:=List.replicate 0 (0,.none)
 bnd (cvI .u64 t0) fun v1 =>
 cal C.p h (.fn F.checker_of [] []) [v1] fun v2 h =>
 cal C.p h (.fn F.checker_bits [] []) [v2] fun v3 h =>
 bnd (biI .sub v3 (.d (.int .i64 1))) fun v4 =>
 bnd (cvI .u64 v4) fun v5 =>
 cal C.p h (.fn F.checker_of [] []) [v5] fun v6 h =>
 bnd (biI .sub t2 v4) fun v7 =>
 cal C.p h (.fn F.checker_shift [] []) [v2,v7] fun v8 h =>
 lisD 1 [.int .u32 0] [(0,(.d (.int .u32 1)))] h fun v9 h =>
 bnd (biI .add t2 (.d (.int .i64 1))) fun v10 =>
 cal C.p h (.fn F.checker_shift [] []) [v9,v10] fun v11 h =>
 lp (checker_logarithm_l0 C t2 v11 t1) [] h [v8,v8,v6,(.d (.int .i64 0))] h (exK [((.exit 0),fun l12 h =>
 q (.tup [(ge l12 0),(.d (.bool true))]) h),
 (.ret,fun l12 h =>
 q (.tup [(ge l12 0),(ge l12 1)]) h)])
def checker_logarithm_a:Ann:=(.n .x .o (.n .x .o (.n .x .o (.n .x .o (.n .x .o (.n .x .o (.n .x .o (.n .x (.n .x .o (.n .x (.n (.l [11,12,10,35] [2,13,34] [((.exit 0),[10],[]),(.ret,[6,7],[])] []) (.n .x .o (.n .x .o (.n .x (.n (.j [11,12,10] [2,13,34,35]) (.n .x .o (.n .x .o (.n .x .o (.n .x (.n .x .o (.n (.j [12] [2,10,11,13,34,35]) .o .o)) (.n .x .o (.n (.j [10,11,12] [2,13,34,35]) (.n .x .o (.n (.j [10,11,12] [2,13,34,35]) .o .o)) .o)))))) .o) .o))) .o) .o)) .o))))))))
attribute [local irreducible] bnd gd cal cnd ext lisD lisS stD alV alD boxD jn lp exK mkS apV cai nilD in
theorem checker_logarithm_e (C:CC) (t0:V) (t1:V) (t2:V) (q:V→Hp→Prop):fnD Y C Go.Proofs.Tryz.f79 0 checker_logarithm_a [t0,t1,t2] q=checker_logarithm C t0 t1 t2 q:=by
 repeat' (first | (refine bnd_e rfl fun _=>?_) | (refine gd_e rfl fun _ _=>?_) | (refine cal_e rfl fun _ _=>?_) | (refine cnd_e rfl ?_ ?_) | (refine ext_e rfl fun _=>?_) | (refine lisD_e rfl fun _ _=>?_) | (refine stD_e rfl fun _ _=>?_) | (refine alV_e rfl fun _ _=>?_) | (refine boxD_e rfl fun _ _=>?_) | (refine jn_e rfl (fun _ _=>?_) fun _=>?_) | (refine lp_e rfl (fun _ _ _=>?_) fun _ _ _=>?_) | (refine exK_e rfl (fun _ _=>?_) ?_) | (refine mkS_e rfl fun _ _=>?_) | (refine apV_e rfl fun _ _=>?_) | (refine cai_e rfl fun _ _=>?_) | (refine lisS_e rfl fun _ _=>?_) | (refine alD_e rfl fun _ _=>?_) | (refine nilD_e rfl fun _=>?_) | exact rfl | (refine leaf_e rfl ?_))
theorem checker_logarithm_o:okB Go.Proofs.Tryz.prog Go.Proofs.Tryz.f79 checker_logarithm_a=true:=by decide +kernel
theorem checker_logarithm_i {t0 t1 t2 v:V} (h:checker_logarithm (CX Y) t0 t1 t2 (out v)):CP Y F.checker_logarithm [t0,t1,t2] v :=
 CP.of (fn:=Go.Proofs.Tryz.f79) (m:=0) (a:=checker_logarithm_a) rfl (fun _=>rfl) Go.Proofs.Tryz.func79 checker_logarithm_o (by rw [checker_logarithm_e]; exact h)
def checker_Bounds_l0 (C:CC) (p1:V) (p3:V):StepT:=fun l h q =>
 bnd (faV 0 p1) fun v1 =>
 bnd (ld1 h v1) fun v2 =>
 bnd (faV 1 p1) fun v3 =>
 bnd (ld1 h v3) fun v4 =>
 cal C.p h (.fn F.checker_logarithm [] []) [v2,v4,(ge l 0)] fun v5 h =>
 ext v5 0 fun v6 =>
 ext v5 1 fun v7 =>
 cnd v7 (
 bnd (faV 1 p3) fun v8 =>
 bnd (ld1 h v8) fun v9 =>
 cal C.p h (.fn F.checker_order [] []) [v6,v9] fun v10 h =>
 bnd (biI .eql v10 (.d (.int .i64 0))) fun v11 =>
 q .ret [v11] h) (
 bnd (biI .mul (ge l 0) (.d (.int .i64 2))) fun v12 =>
 q .normal [v12] h)
def checker_Bounds (C:CC) (t0:V) (q:V→Hp→Prop):Prop :=
 let h:Hp:=List.replicate 2 (0,.none)
 boxD 0 t0 h fun v1 h =>
 bnd (faV 2 v1) fun v2 =>
 bnd (ld1 h v2) fun v3 =>
 cal C.p h (.fn F.checker_read [] []) [v3] fun v4 h =>
 ext v4 0 fun v5 =>
 ext v4 1 fun v6 =>
 alV 1 [.d (.bool false),.d (.pl (.slice none 0 0))] h fun v7 h =>
 stD h 2 v7 v5 fun _ h =>
 bnd (unV .not v6) fun v9 =>
 gd v9 false h (fun q=>bnd (faV 0 v7) fun v=>q v h) fun v10 h =>
 gd v9 false h (fun q=>bnd (ld1 h v10) fun v=>q v h) fun v11 h =>
 bnd (pickV v9 (.d (.bool true)) v11) fun v12 =>
 gd v12 false h (fun q=>bnd (faV 0 v1) fun v=>q v h) fun v13 h =>
 gd v12 false h (fun q=>bnd (ld1 h v13) fun v=>q v h) fun v14 h =>
 gd v12 false h (fun q=>cal C.p h (.fn F.checker_isPrime [] []) [v14] q) fun v15 h =>
 gd v12 false h (fun q=>bnd (unV .not v15) fun v=>q v h) fun v16 h =>
 bnd (pickV v12 (.d (.bool true)) v16) fun v17 =>
 gd v17 false h (fun q=>bnd (faV 1 v1) fun v=>q v h) fun v18 h =>
 gd v17 false h (fun q=>bnd (ld1 h v18) fun v=>q v h) fun v19 h =>
 gd v17 false h (fun q=>bnd (biI .lss v19 (.d (.int .i64 0))) fun v=>q v h) fun v20 h =>
 bnd (pickV v17 (.d (.bool true)) v20) fun v21 =>
 gd v21 false h (fun q=>bnd (faV 1 v1) fun v=>q v h) fun v22 h =>
 gd v21 false h (fun q=>bnd (ld1 h v22) fun v=>q v h) fun v23 h =>
 gd v21 false h (fun q=>bnd (biI .gtr v23 (.d (.int .i64 64))) fun v=>q v h) fun v24 h =>
 bnd (pickV v21 (.d (.bool true)) v24) fun v25 =>
 cnd v25 (
 q (.d (.bool false)) h) (
 lp (checker_Bounds_l0 C v1 v7) [] h [(.d (.int .i64 160))] h (exK [(.ret,fun l26 h =>
 q (ge l26 0) h)]))
def checker_Bounds_a:Ann:=(.n .x (.n (.r [.slot 0]) .o .o) (.n .x (.n (.r [.o,.slot 1]) .o .o) (.n .x .o (.n .x .o (.n .x (.n (.l [5] [1,3] [(.ret,[2],[])] []) .o .o) .o)))))
theorem checker_Bounds_e (C:CC) (t0:V) (q:V→Hp→Prop):fnD Y C Go.Proofs.Tryz.f34 2 checker_Bounds_a [t0] q=checker_Bounds C t0 q:=by
 rfl
theorem checker_Bounds_o:okB Go.Proofs.Tryz.prog Go.Proofs.Tryz.f34 checker_Bounds_a=true:=by decide +kernel
theorem checker_Bounds_i {t0 v:V} (h:checker_Bounds (CX Y) t0 (out v)):CP Y F.checker_Bounds [t0] v :=
 CP.of (fn:=Go.Proofs.Tryz.f34) (m:=2) (a:=checker_Bounds_a) rfl (fun _=>rfl) Go.Proofs.Tryz.func34 checker_Bounds_o (by rw [checker_Bounds_e]; exact h)
def checker_Sign_l0 (C:CC) (p27:V) (p28:V):StepT:=fun l h q =>
 bnd (biI .lss (ge l 1) p28) fun v1 =>
 cnd v1 (
 jn (fun l2 h =>
 bnd (biI .add (ge l 1) (.d (.int .i64 1))) fun v4 =>
 q .normal [(ge l2 0),v4] h) fun q3 =>
 bnd (ixV h 3 p27 (ge l 1)) fun v5 =>
 bnd (ldA h 3 v5) fun v6 =>
 alV 1 [.d (.bool false),.d (.pl (.slice none 0 0)),.d (.pl (.slice none 0 0))] h fun v7 h =>
 stD h 3 v7 v6 fun _ h =>
 bnd (ldA h 3 v7) fun v9 =>
 cal C.p h (.fn F.checker_fraction_zero [] []) [v9] fun v10 h =>
 bnd (unV .not v10) fun v11 =>
 jn (fun l12 h =>
 q3 [(ge l12 0)] h) fun q13 =>
 cnd v11 (
 lisD 1 [.int .i64 0] [(0,(ge l 1))] h fun v14 h =>
 apV false 2 1 8 (ge l 0) v14 h fun v15 h =>
 q13 [v15] h) (
 q13 [(ge l 0)] h)) (
 q (.exit 0) [(ge l 0)] h)
def checker_Sign_l1 (C:CC) (p0:V) (p5:V) (p7:V) (p9:V) (p12:V) (p82:V) (p83:V):StepT:=fun l h q =>
 bnd (biI .lss (ge l 0) p83) fun v1 =>
 cnd v1 (
 bnd (ixV h 3 p82 (ge l 0)) fun v2 =>
 bnd (ldA h 3 v2) fun v3 =>
 alV 4 [.d (.int .i64 0),.d (.int .i64 0),.d (.str [])] h fun v4 h =>
 stD h 3 v4 v3 fun _ h =>
 bnd (faV 0 v4) fun v6 =>
 bnd (ld1 h v6) fun v7 =>
 bnd (ixV h 1 p9 (ge l 0)) fun v8 =>
 bnd (ld1 h v8) fun v9 =>
 bnd (ixV h 1 p0 v9) fun v10 =>
 bnd (ld1 h v10) fun v11 =>
 bnd (biI .neq v7 v11) fun v12 =>
 gd v12 false h (fun q=>bnd (faV 1 v4) fun v=>q v h) fun v13 h =>
 gd v12 false h (fun q=>bnd (ld1 h v13) fun v=>q v h) fun v14 h =>
 gd v12 false h (fun q=>bnd (faV 1 p5) fun v=>q v h) fun v15 h =>
 gd v12 false h (fun q=>bnd (ld1 h v15) fun v=>q v h) fun v16 h =>
 gd v12 false h (fun q=>bnd (biI .neq v14 v16) fun v=>q v h) fun v17 h =>
 bnd (pickV v12 (.d (.bool true)) v17) fun v18 =>
 gd v18 false h (fun q=>bnd (ldA h 3 v4) fun v=>q v h) fun v19 h =>
 gd v18 false h (fun q=>cal C.p h (.fn F.checker_Bounds [] []) [v19] q) fun v20 h =>
 gd v18 false h (fun q=>bnd (unV .not v20) fun v=>q v h) fun v21 h =>
 bnd (pickV v18 (.d (.bool true)) v21) fun v22 =>
 cnd v22 (
 q .ret [(.d (.bool false))] h) (
 bnd (ixV h 1 p9 (ge l 0)) fun v23 =>
 bnd (ld1 h v23) fun v24 =>
 bnd (ixV h 3 p7 v24) fun v25 =>
 bnd (ldA h 3 v25) fun v26 =>
 alV 5 [.d (.bool false),.d (.pl (.slice none 0 0)),.d (.pl (.slice none 0 0))] h fun v27 h =>
 stD h 3 v27 v26 fun _ h =>
 bnd (faV 2 v4) fun v29 =>
 bnd (ld1 h v29) fun v30 =>
 cal C.p h (.fn F.checker_read [] []) [v30] fun v31 h =>
 ext v31 0 fun v32 =>
 ext v31 1 fun v33 =>
 alV 6 [.d (.bool false),.d (.pl (.slice none 0 0))] h fun v34 h =>
 stD h 2 v34 v32 fun _ h =>
 bnd (faV 0 v4) fun v36 =>
 bnd (ld1 h v36) fun v37 =>
 bnd (biI .neq v37 (.d (.int .i64 2))) fun v38 =>
 gd v38 true h (fun q=>bnd (faV 0 v27) fun v=>q v h) fun v39 h =>
 gd v38 true h (fun q=>bnd (faV 0 v39) fun v=>q v h) fun v40 h =>
 gd v38 true h (fun q=>bnd (ld1 h v40) fun v=>q v h) fun v41 h =>
 gd v38 true h (fun q=>bnd (faV 0 p5) fun v=>q v h) fun v42 h =>
 gd v38 true h (fun q=>bnd (ld1 h v42) fun v=>q v h) fun v43 h =>
 gd v38 true h (fun q=>bnd (biI .eql v43 (.d (.int .i64 1))) fun v=>q v h) fun v44 h =>
 gd v38 true h (fun q=>bnd (biB .eql v41 v44) fun v=>q v h) fun v45 h =>
 bnd (pickV v38 v45 (.d (.bool false))) fun v46 =>
 jn (fun l47 h =>
 bnd (ldA h 3 p12) fun v49 =>
 bnd (ldA h 3 v27) fun v50 =>
 bnd (ldA h 2 v34) fun v51 =>
 lisD 1 [.int .u32 0] [(0,(.d (.int .u32 1)))] h fun v52 h =>
 bnd (bld [(0,2),(2,1)] [.bool false,.pl (.slice none 0 0),.pl (.slice none 0 0)] [(0,v51),(1,v52)]) fun v53 =>
 cal C.p h (.fn F.checker_fraction_times [] []) [v50,v53] fun v54 h =>
 cal C.p h (.fn F.checker_fraction_add [] []) [v49,v54] fun v55 h =>
 stD h 3 p12 v55 fun _ h =>
 bnd (biI .add (ge l 0) (.d (.int .i64 1))) fun v57 =>
 q .normal [v57] h) fun q48 =>
 cnd v46 (
 bnd (ldA h 2 v34) fun v58 =>
 cal C.p h (.fn F.checker_number [] []) [(.d (.int .i64 1))] fun v59 h =>
 cal C.p h (.fn F.checker_integer_add [] []) [v58,v59] fun v60 h =>
 stD h 2 v34 v60 fun _ h =>
 q48 [] h) (
 q48 [] h))) (
 q (.exit 2) [] h)
def checker_Sign (C:CC) (t0:V) (t1:V) (t2:V) (q:V→Hp→Prop):Prop :=
 let h:Hp:=List.replicate 7 (0,.none)
 boxD 0 t2 h fun v1 h =>
 cal C.p h (.fn F.checker_Size [] []) [t0,t1] fun v2 h =>
 bnd (unV .not v2) fun v3 =>
 cnd v3 (
 q (.d (.bool false)) h) (
 cal C.p h (.fn F.checker_list [] []) [t1] fun v4 h =>
 ext v4 0 fun v5 =>
 ext v4 1 fun v6 =>
 bnd (lenV v5) fun v7 =>
 lp (checker_Sign_l0 C v5 v7) [1] h [(.d (.pl (.slice none 0 0))),(.d (.int .i64 0))] h (exK [((.exit 0),fun l8 h =>
 bnd (faV 0 v1) fun v9 =>
 bnd (ld1 h v9) fun v10 =>
 bnd (biI .eql v10 (.d (.int .i64 0))) fun v11 =>
 cnd v11 (
 bnd (lenV (ge l8 0)) fun v12 =>
 bnd (biI .eql v12 (.d (.int .i64 0))) fun v13 =>
 gd v13 true h (fun q=>bnd (faV 1 v1) fun v=>q v h) fun v14 h =>
 gd v13 true h (fun q=>bnd (ld1 h v14) fun v=>q v h) fun v15 h =>
 gd v13 true h (fun q=>bnd (biI .eql v15 (.d (.int .i64 0))) fun v=>q v h) fun v16 h =>
 bnd (pickV v13 v16 (.d (.bool false))) fun v17 =>
 gd v17 true h (fun q=>bnd (faV 2 v1) fun v=>q v h) fun v18 h =>
 gd v17 true h (fun q=>bnd (ld1 h v18) fun v=>q v h) fun v19 h =>
 gd v17 true h (fun q=>bnd (lenV v19) fun v=>q v h) fun v20 h =>
 gd v17 true h (fun q=>bnd (biI .eql v20 (.d (.int .i64 0))) fun v=>q v h) fun v21 h =>
 bnd (pickV v17 v21 (.d (.bool false))) fun v22 =>
 q v22 h) (
 bnd (faV 0 v1) fun v23 =>
 bnd (ld1 h v23) fun v24 =>
 bnd (biI .neq v24 (.d (.int .i64 1))) fun v25 =>
 gd v25 true h (fun q=>bnd (faV 0 v1) fun v=>q v h) fun v26 h =>
 gd v25 true h (fun q=>bnd (ld1 h v26) fun v=>q v h) fun v27 h =>
 gd v25 true h (fun q=>bnd (biI .neq v27 (.d (.int .i64 (-1)))) fun v=>q v h) fun v28 h =>
 bnd (pickV v25 v28 (.d (.bool false))) fun v29 =>
 gd v29 false h (fun q=>q (ge l8 0) h) fun v30 h =>
 gd v29 false h (fun q=>bnd (lenV v30) fun v=>q v h) fun v31 h =>
 gd v29 false h (fun q=>bnd (biI .eql v31 (.d (.int .i64 0))) fun v=>q v h) fun v32 h =>
 bnd (pickV v29 (.d (.bool true)) v32) fun v33 =>
 gd v33 false h (fun q=>bnd (faV 2 v1) fun v=>q v h) fun v34 h =>
 gd v33 false h (fun q=>bnd (ld1 h v34) fun v=>q v h) fun v35 h =>
 gd v33 false h (fun q=>bnd (lenV v35) fun v=>q v h) fun v36 h =>
 gd v33 false h (fun q=>q (ge l8 0) h) fun v37 h =>
 gd v33 false h (fun q=>bnd (lenV v37) fun v=>q v h) fun v38 h =>
 gd v33 false h (fun q=>bnd (biI .neq v36 v38) fun v=>q v h) fun v39 h =>
 bnd (pickV v33 (.d (.bool true)) v39) fun v40 =>
 cnd v40 (
 q (.d (.bool false)) h) (
 cal C.p h (.fn F.checker_nothing [] []) [] fun v41 h =>
 alV 3 [.d (.bool false),.d (.pl (.slice none 0 0)),.d (.pl (.slice none 0 0))] h fun v42 h =>
 stD h 3 v42 v41 fun _ h =>
 bnd (faV 2 v1) fun v44 =>
 bnd (ld1 h v44) fun v45 =>
 bnd (lenV v45) fun v46 =>
 lp (checker_Sign_l1 C t0 v1 v5 (ge l8 0) v42 v45 v46) [4,5,6] h [(.d (.int .i64 0))] h (exK [((.exit 2),fun l47 h =>
 bnd (ldA h 3 v42) fun v48 =>
 cal C.p h (.fn F.checker_fraction_zero [] []) [v48] fun v49 h =>
 gd v49 false h (fun q=>bnd (faV 0 v42) fun v=>q v h) fun v50 h =>
 gd v49 false h (fun q=>bnd (faV 0 v50) fun v=>q v h) fun v51 h =>
 gd v49 false h (fun q=>bnd (ld1 h v51) fun v=>q v h) fun v52 h =>
 gd v49 false h (fun q=>bnd (faV 0 v1) fun v=>q v h) fun v53 h =>
 gd v49 false h (fun q=>bnd (ld1 h v53) fun v=>q v h) fun v54 h =>
 gd v49 false h (fun q=>bnd (biI .lss v54 (.d (.int .i64 0))) fun v=>q v h) fun v55 h =>
 gd v49 false h (fun q=>bnd (biB .eql v52 v55) fun v=>q v h) fun v56 h =>
 bnd (pickV v49 (.d (.bool true)) v56) fun v57 =>
 q v57 h),
 (.ret,fun l47 h =>
 q (ge l47 0) h)]))))]))
def checker_Sign_a:Ann:=(.n .x (.n (.r [.slot 0]) .o .o) (.n .x .o (.n .x .o (.n .x .o (.n .x (.n .x .o (.n .x (.n (.l [9,29] [0,5,7,27,28] [((.exit 0),[9],[0,5,7])] [1]) (.n .x .o (.n .x .o (.n .x (.n (.j [9] [0,5,7,27,28,29]) (.n .x (.n (.r [.slot 1]) .o .o) (.n .x .o (.n (.j [9] [0,5,7,27,28,29]) (.n (.r [.o,.slot 2]) .o .o) .o))) .o) .o))) .o) .o)) (.n .x .o (.n .x .o (.n .x (.n (.r [.o,.slot 3]) .o .o) (.n .x (.n .x .o (.n .x (.n (.l [84] [0,5,7,9,12,82,83] [((.exit 2),[],[5,12]),(.ret,[6],[])] [4,5,6]) (.n .x .o (.n .x .o (.n .x (.n .x (.n .x (.n (.r [.slot 4]) .o .o) (.n .x .o (.n .x (.n (.r [.slot 5]) .o .o) (.n .x (.n (.r [.o,.slot 6]) .o .o) (.n .x (.n .x .o (.n (.j [] [0,5,7,9,12,15,16,82,83,84]) .o .o)) .o))))) .o) .o))) .o) .o)) .o)))))))))
attribute [local irreducible] bnd gd cal cnd ext lisD lisS stD alV alD boxD jn lp exK mkS apV cai nilD in
theorem checker_Sign_e (C:CC) (t0:V) (t1:V) (t2:V) (q:V→Hp→Prop):fnD Y C Go.Proofs.Tryz.f41 7 checker_Sign_a [t0,t1,t2] q=checker_Sign C t0 t1 t2 q:=by
 repeat' (first | (refine bnd_e rfl fun _=>?_) | (refine gd_e rfl fun _ _=>?_) | (refine cal_e rfl fun _ _=>?_) | (refine cnd_e rfl ?_ ?_) | (refine ext_e rfl fun _=>?_) | (refine lisD_e rfl fun _ _=>?_) | (refine stD_e rfl fun _ _=>?_) | (refine alV_e rfl fun _ _=>?_) | (refine boxD_e rfl fun _ _=>?_) | (refine jn_e rfl (fun _ _=>?_) fun _=>?_) | (refine lp_e rfl (fun _ _ _=>?_) fun _ _ _=>?_) | (refine exK_e rfl (fun _ _=>?_) ?_) | (refine mkS_e rfl fun _ _=>?_) | (refine apV_e rfl fun _ _=>?_) | (refine cai_e rfl fun _ _=>?_) | (refine lisS_e rfl fun _ _=>?_) | (refine alD_e rfl fun _ _=>?_) | (refine nilD_e rfl fun _=>?_) | exact rfl | (refine leaf_e rfl ?_))
theorem checker_Sign_o:okB Go.Proofs.Tryz.prog Go.Proofs.Tryz.f41 checker_Sign_a=true:=by decide +kernel
theorem checker_Sign_i {t0 t1 t2 v:V} (h:checker_Sign (CX Y) t0 t1 t2 (out v)):CP Y F.checker_Sign [t0,t1,t2] v :=
 CP.of (fn:=Go.Proofs.Tryz.f41) (m:=7) (a:=checker_Sign_a) rfl (fun _=>rfl) Go.Proofs.Tryz.func41 checker_Sign_o (by rw [checker_Sign_e]; exact h)
end Go.Vm
set_option maxRecDepth 100000
set_option maxHeartbeats 4000000
namespace Go.Vm
open Go Go.Am
def slices_IndexFunc_api_Rational_api_Rational_l0 (C:CC) (p0:V) (p1:V) (p7:V):StepT:=fun l h q =>
 bnd (biI .lss (ge l 0) p7) fun v1 =>
 cnd v1 (
 bnd (ixV h 2 p0 (ge l 0)) fun v2 =>
 bnd (ldA h 2 v2) fun v3 =>
 cal C.p h p1 [v3] fun v4 h =>
 cnd v4 (
 q .ret [(ge l 0)] h) (
 bnd (biI .add (ge l 0) (.d (.int .i64 1))) fun v5 =>
 q .normal [v5] h)) (
 q (.exit 0) [] h)
def slices_IndexFunc_api_Rational_api_Rational (C:CC) (t0:V) (t1:V) (q:V→Hp→Prop):Prop :=
 let h:Hp:=List.replicate 0 (0,.none)
 bnd (lenV t0) fun v1 =>
 lp (slices_IndexFunc_api_Rational_api_Rational_l0 C t0 t1 v1) [] h [(.d (.int .i64 0))] h (exK [((.exit 0),fun l2 h =>
 q (.d (.int .i64 (-1))) h),
 (.ret,fun l2 h =>
 q (ge l2 0) h)])
def slices_IndexFunc_api_Rational_api_Rational_a:Ann:=(.n .x .o (.n .x (.n .x .o (.n .x (.n (.l [8] [0,1,7] [((.exit 0),[],[]),(.ret,[4],[])] []) .o .o) .o)) .o))
theorem slices_IndexFunc_api_Rational_api_Rational_e (C:CC) (t0:V) (t1:V) (q:V→Hp→Prop):fnD Y C Go.Proofs.Tryz.f106 0 slices_IndexFunc_api_Rational_api_Rational_a [t0,t1] q=slices_IndexFunc_api_Rational_api_Rational C t0 t1 q:=by
 rfl
theorem slices_IndexFunc_api_Rational_api_Rational_o:okB Go.Proofs.Tryz.prog Go.Proofs.Tryz.f106 slices_IndexFunc_api_Rational_api_Rational_a=true:=by decide +kernel
theorem slices_IndexFunc_api_Rational_api_Rational_i {t0 t1 v:V} (h:slices_IndexFunc_api_Rational_api_Rational (CX Y) t0 t1 (out v)):CP Y F.slices_IndexFunc_api_Rational_api_Rational [t0,t1] v :=
 CP.of (fn:=Go.Proofs.Tryz.f106) (m:=0) (a:=slices_IndexFunc_api_Rational_api_Rational_a) rfl (fun _=>rfl) Go.Proofs.Tryz.func106 slices_IndexFunc_api_Rational_api_Rational_o (by rw [slices_IndexFunc_api_Rational_api_Rational_e]; exact h)
def slices_ContainsFunc_api_Rational_api_Rational (C:CC) (t0:V) (t1:V) (q:V→Hp→Prop):Prop :=
 let h:Hp:=List.replicate 0 (0,.none)
 cal C.p h (.fn F.slices_IndexFunc_api_Rational_api_Rational [] []) [t0,t1] fun v1 h =>
 bnd (biI .geq v1 (.d (.int .i64 0))) fun v2 =>
 q v2 h
def slices_ContainsFunc_api_Rational_api_Rational_a:Ann:=.o
theorem slices_ContainsFunc_api_Rational_api_Rational_e (C:CC) (t0:V) (t1:V) (q:V→Hp→Prop):fnD Y C Go.Proofs.Tryz.f71 0 slices_ContainsFunc_api_Rational_api_Rational_a [t0,t1] q=slices_ContainsFunc_api_Rational_api_Rational C t0 t1 q:=by
 rfl
theorem slices_ContainsFunc_api_Rational_api_Rational_o:okB Go.Proofs.Tryz.prog Go.Proofs.Tryz.f71 slices_ContainsFunc_api_Rational_api_Rational_a=true:=by decide +kernel
theorem slices_ContainsFunc_api_Rational_api_Rational_i {t0 t1 v:V} (h:slices_ContainsFunc_api_Rational_api_Rational (CX Y) t0 t1 (out v)):CP Y F.slices_ContainsFunc_api_Rational_api_Rational [t0,t1] v :=
 CP.of (fn:=Go.Proofs.Tryz.f71) (m:=0) (a:=slices_ContainsFunc_api_Rational_api_Rational_a) rfl (fun _=>rfl) Go.Proofs.Tryz.func71 slices_ContainsFunc_api_Rational_api_Rational_o (by rw [slices_ContainsFunc_api_Rational_api_Rational_e]; exact h)
def schismalaw55_short (C:CC) (t0:V) (q:V→Hp→Prop):Prop :=
 let h:Hp:=List.replicate 0 (0,.none)
 cal C.p h (.fn F.slices_ContainsFunc_api_Rational_api_Rational [] []) [t0,(.fn F.schismalaw55_short_F1 [] [])] fun v1 h =>
 bnd (unV .not v1) fun v2 =>
 q v2 h
def schismalaw55_short_a:Ann:=.o
theorem schismalaw55_short_e (C:CC) (t0:V) (q:V→Hp→Prop):fnD Y C Go.Proofs.Tryz.f27 0 schismalaw55_short_a [t0] q=schismalaw55_short C t0 q:=by
 rfl
theorem schismalaw55_short_o:okB Go.Proofs.Tryz.prog Go.Proofs.Tryz.f27 schismalaw55_short_a=true:=by decide +kernel
theorem schismalaw55_short_i {t0 v:V} (h:schismalaw55_short (CX Y) t0 (out v)):CP Y F.schismalaw55_short [t0] v :=
 CP.of (fn:=Go.Proofs.Tryz.f27) (m:=0) (a:=schismalaw55_short_a) rfl (fun _=>rfl) Go.Proofs.Tryz.func27 schismalaw55_short_o (by rw [schismalaw55_short_e]; exact h)
def schismalaw55_short_F1 (C:CC) (t0:V) (q:V→Hp→Prop):Prop :=
 let h:Hp:=List.replicate 1 (0,.none)
 boxD 0 t0 h fun v1 h =>
 bnd (faV 0 v1) fun v2 =>
 bnd (ld1 h v2) fun v3 =>
 bnd (lenS v3) fun v4 =>
 bnd (biI .gtr v4 (.d (.int .i64 40))) fun v5 =>
 gd v5 false h (fun q=>bnd (faV 1 v1) fun v=>q v h) fun v6 h =>
 gd v5 false h (fun q=>bnd (ld1 h v6) fun v=>q v h) fun v7 h =>
 gd v5 false h (fun q=>bnd (lenS v7) fun v=>q v h) fun v8 h =>
 gd v5 false h (fun q=>bnd (biI .gtr v8 (.d (.int .i64 40))) fun v=>q v h) fun v9 h =>
 bnd (pickV v5 (.d (.bool true)) v9) fun v10 =>
 q v10 h
def schismalaw55_short_F1_a:Ann:=(.n .x (.n (.r [.slot 0]) .o .o) .o)
theorem schismalaw55_short_F1_e (C:CC) (t0:V) (q:V→Hp→Prop):fnD Y C Go.Proofs.Tryz.f72 1 schismalaw55_short_F1_a [t0] q=schismalaw55_short_F1 C t0 q:=by
 rfl
theorem schismalaw55_short_F1_o:okB Go.Proofs.Tryz.prog Go.Proofs.Tryz.f72 schismalaw55_short_F1_a=true:=by decide +kernel
theorem schismalaw55_short_F1_i {t0 v:V} (h:schismalaw55_short_F1 (CX Y) t0 (out v)):CP Y F.schismalaw55_short_F1 [t0] v :=
 CP.of (fn:=Go.Proofs.Tryz.f72) (m:=1) (a:=schismalaw55_short_F1_a) rfl (fun _=>rfl) Go.Proofs.Tryz.func72 schismalaw55_short_F1_o (by rw [schismalaw55_short_F1_e]; exact h)
def schismalaw55_sizeRight (C:CC) (t0:V) (t1:V) (q:V→Hp→Prop):Prop :=
 let h:Hp:=List.replicate 0 (0,.none)
 cal C.p h (.fn F.prime_Check [] []) [t0] fun v1 h =>
 bnd (biI .eql v1 (.d (.int .i64 0))) fun v2 =>
 gd v2 true h (fun q=>q t0 h) fun v3 h =>
 gd v2 true h (fun q=>q t1 h) fun v4 h =>
 gd v2 true h (fun q=>cal C.p h (.fn F.size_Check [] []) [v3,v4] q) fun v5 h =>
 gd v2 true h (fun q=>bnd (biI .eql v5 (.d (.int .i64 0))) fun v=>q v h) fun v6 h =>
 bnd (pickV v2 v6 (.d (.bool false))) fun v7 =>
 q v7 h
def schismalaw55_sizeRight_a:Ann:=.o
theorem schismalaw55_sizeRight_e (C:CC) (t0:V) (t1:V) (q:V→Hp→Prop):fnD Y C Go.Proofs.Tryz.f33 0 schismalaw55_sizeRight_a [t0,t1] q=schismalaw55_sizeRight C t0 t1 q:=by
 rfl
theorem schismalaw55_sizeRight_o:okB Go.Proofs.Tryz.prog Go.Proofs.Tryz.f33 schismalaw55_sizeRight_a=true:=by decide +kernel
theorem schismalaw55_sizeRight_i {t0 t1 v:V} (h:schismalaw55_sizeRight (CX Y) t0 t1 (out v)):CP Y F.schismalaw55_sizeRight [t0,t1] v :=
 CP.of (fn:=Go.Proofs.Tryz.f33) (m:=0) (a:=schismalaw55_sizeRight_a) rfl (fun _=>rfl) Go.Proofs.Tryz.func33 schismalaw55_sizeRight_o (by rw [schismalaw55_sizeRight_e]; exact h)
def schismalaw55_CheckerNumbers (C:CC) (t0:V) (t1:V) (t2:V) (q:V→Hp→Prop):Prop :=
 let h:Hp:=List.replicate 1 (0,.none)
 boxD 0 t0 h fun v1 h =>
 cal C.p h (.fn F.schismalaw55_known [] []) [] fun v2 h =>
 bnd (unV .not v2) fun v3 =>
 gd v3 false h (fun q=>bnd (faV 0 v1) fun v=>q v h) fun v4 h =>
 gd v3 false h (fun q=>bnd (ld1 h v4) fun v=>q v h) fun v5 h =>
 gd v3 false h (fun q=>bnd (lenS v5) fun v=>q v h) fun v6 h =>
 gd v3 false h (fun q=>bnd (biI .gtr v6 (.d (.int .i64 410))) fun v=>q v h) fun v7 h =>
 bnd (pickV v3 (.d (.bool true)) v7) fun v8 =>
 gd v8 false h (fun q=>bnd (faV 1 v1) fun v=>q v h) fun v9 h =>
 gd v8 false h (fun q=>bnd (ld1 h v9) fun v=>q v h) fun v10 h =>
 gd v8 false h (fun q=>bnd (lenS v10) fun v=>q v h) fun v11 h =>
 gd v8 false h (fun q=>bnd (biI .gtr v11 (.d (.int .i64 410))) fun v=>q v h) fun v12 h =>
 bnd (pickV v8 (.d (.bool true)) v12) fun v13 =>
 gd v13 false h (fun q=>q t1 h) fun v14 h =>
 gd v13 false h (fun q=>bnd (lenV v14) fun v=>q v h) fun v15 h =>
 gd v13 false h (fun q=>bnd (biI .gtr v15 (.d (.int .i64 9))) fun v=>q v h) fun v16 h =>
 bnd (pickV v13 (.d (.bool true)) v16) fun v17 =>
 gd v17 false h (fun q=>q t2 h) fun v18 h =>
 gd v17 false h (fun q=>bnd (lenV v18) fun v=>q v h) fun v19 h =>
 gd v17 false h (fun q=>bnd (biI .gtr v19 (.d (.int .i64 8))) fun v=>q v h) fun v20 h =>
 bnd (pickV v17 (.d (.bool true)) v20) fun v21 =>
 gd v21 false h (fun q=>q t2 h) fun v22 h =>
 gd v21 false h (fun q=>cal C.p h (.fn F.schismalaw55_short [] []) [v22] q) fun v23 h =>
 gd v21 false h (fun q=>bnd (unV .not v23) fun v=>q v h) fun v24 h =>
 bnd (pickV v21 (.d (.bool true)) v24) fun v25 =>
 cnd v25 (
 cal C.p h (.fn F.schismalaw55_known [] []) [] fun v26 h =>
 q v26 h) (
 bnd (ldA h 2 v1) fun v27 =>
 cal C.p h (.fn F.checker_Number [] []) [v27] fun v28 h =>
 bnd (ldA h 2 v1) fun v29 =>
 cal C.p h (.fn F.schismalaw03_Right [] []) [v29] fun v30 h =>
 bnd (biB .eql v28 v30) fun v31 =>
 gd v31 true h (fun q=>q t1 h) fun v32 h =>
 gd v31 true h (fun q=>cal C.p h (.fn F.checker_Primes [] []) [v32] q) fun v33 h =>
 gd v31 true h (fun q=>q t1 h) fun v34 h =>
 gd v31 true h (fun q=>cal C.p h (.fn F.prime_Check [] []) [v34] q) fun v35 h =>
 gd v31 true h (fun q=>bnd (biI .eql v35 (.d (.int .i64 0))) fun v=>q v h) fun v36 h =>
 gd v31 true h (fun q=>bnd (biB .eql v33 v36) fun v=>q v h) fun v37 h =>
 bnd (pickV v31 v37 (.d (.bool false))) fun v38 =>
 gd v38 true h (fun q=>q t1 h) fun v39 h =>
 gd v38 true h (fun q=>q t2 h) fun v40 h =>
 gd v38 true h (fun q=>cal C.p h (.fn F.checker_Size [] []) [v39,v40] q) fun v41 h =>
 gd v38 true h (fun q=>q t1 h) fun v42 h =>
 gd v38 true h (fun q=>q t2 h) fun v43 h =>
 gd v38 true h (fun q=>cal C.p h (.fn F.schismalaw55_sizeRight [] []) [v42,v43] q) fun v44 h =>
 gd v38 true h (fun q=>bnd (biB .eql v41 v44) fun v=>q v h) fun v45 h =>
 bnd (pickV v38 v45 (.d (.bool false))) fun v46 =>
 q v46 h)
def schismalaw55_CheckerNumbers_a:Ann:=(.n .x (.n (.r [.slot 0]) .o .o) .o)
attribute [local irreducible] bnd gd cal cnd ext lisD lisS stD alV alD boxD jn lp exK mkS apV cai nilD in
theorem schismalaw55_CheckerNumbers_e (C:CC) (t0:V) (t1:V) (t2:V) (q:V→Hp→Prop):fnD Y C Go.Proofs.Tryz.f6 1 schismalaw55_CheckerNumbers_a [t0,t1,t2] q=schismalaw55_CheckerNumbers C t0 t1 t2 q:=by
 repeat' (first | (refine bnd_e rfl fun _=>?_) | (refine gd_e rfl fun _ _=>?_) | (refine cal_e rfl fun _ _=>?_) | (refine cnd_e rfl ?_ ?_) | (refine ext_e rfl fun _=>?_) | (refine lisD_e rfl fun _ _=>?_) | (refine stD_e rfl fun _ _=>?_) | (refine alV_e rfl fun _ _=>?_) | (refine boxD_e rfl fun _ _=>?_) | (refine jn_e rfl (fun _ _=>?_) fun _=>?_) | (refine lp_e rfl (fun _ _ _=>?_) fun _ _ _=>?_) | (refine exK_e rfl (fun _ _=>?_) ?_) | (refine mkS_e rfl fun _ _=>?_) | (refine apV_e rfl fun _ _=>?_) | (refine cai_e rfl fun _ _=>?_) | (refine lisS_e rfl fun _ _=>?_) | (refine alD_e rfl fun _ _=>?_) | (refine nilD_e rfl fun _=>?_) | exact rfl | (refine leaf_e rfl ?_))
theorem schismalaw55_CheckerNumbers_o:okB Go.Proofs.Tryz.prog Go.Proofs.Tryz.f6 schismalaw55_CheckerNumbers_a=true:=by decide +kernel
theorem schismalaw55_CheckerNumbers_i {t0 t1 t2 v:V} (h:schismalaw55_CheckerNumbers (CX Y) t0 t1 t2 (out v)):CP Y F.schismalaw55_CheckerNumbers [t0,t1,t2] v :=
 CP.of (fn:=Go.Proofs.Tryz.f6) (m:=1) (a:=schismalaw55_CheckerNumbers_a) rfl (fun _=>rfl) Go.Proofs.Tryz.func6 schismalaw55_CheckerNumbers_o (by rw [schismalaw55_CheckerNumbers_e]; exact h)
end Go.Vm
set_option maxRecDepth 100000
set_option maxHeartbeats 4000000
namespace Go.Vm
open Go Go.Am
def schismaref03_times (C:CC) (t0:V) (t1:V) (q:V→Hp→Prop):Prop :=
 let h:Hp:=List.replicate 0 (0,.none)
 bnd (bld [(0,1),(1,1)] [.bool false,.pl (.slice none 0 0)] [(1,t0)]) fun v1 =>
 lisD 1 [.int .i64 0] [(0,t1)] h fun v2 h =>
 bnd (bld [(0,1),(1,1)] [.bool false,.pl (.slice none 0 0)] [(1,v2)]) fun v3 =>
 cal C.p h (.fn F.schismaref03_trim [] []) [v3] fun v4 h =>
 cal C.p h (.fn F.schismaref03_MulW [] []) [v1,v4] fun v5 h =>
 bnd (fiV 1 1 true v5) fun v6 =>
 q v6 h
def schismaref03_times_a:Ann:=.o
theorem schismaref03_times_e (C:CC) (t0:V) (t1:V) (q:V→Hp→Prop):fnD Y C Go.Proofs.Tryz.f165 0 schismaref03_times_a [t0,t1] q=schismaref03_times C t0 t1 q:=by
 rfl
theorem schismaref03_times_o:okB Go.Proofs.Tryz.prog Go.Proofs.Tryz.f165 schismaref03_times_a=true:=by decide +kernel
theorem schismaref03_times_i {t0 t1 v:V} (h:schismaref03_times (CX Y) t0 t1 (out v)):CP Y F.schismaref03_times [t0,t1] v :=
 CP.of (fn:=Go.Proofs.Tryz.f165) (m:=0) (a:=schismaref03_times_a) rfl (fun _=>rfl) Go.Proofs.Tryz.func165 schismaref03_times_o (by rw [schismaref03_times_e]; exact h)
def schismaref03_divide_l1 (C:CC) (p1:V) (p5:V):StepT:=fun l h q =>
 bnd (biI .sub (ge l 1) (ge l 0)) fun v1 =>
 bnd (biI .gtr v1 (.d (.int .i64 1))) fun v2 =>
 cnd v2 (
 jn (fun l3 h =>
 q .normal [(ge l3 0),(ge l3 1)] h) fun q4 =>
 bnd (biI .add (ge l 0) (ge l 1)) fun v5 =>
 bnd (biI .quo v5 (.d (.int .i64 2))) fun v6 =>
 cal C.p h (.fn F.schismaref03_times [] []) [p1,v6] fun v7 h =>
 cal C.p h (.fn F.schismaref03_above [] []) [v7,p5] fun v8 h =>
 bnd (biI .leq v8 (.d (.int .i64 0))) fun v9 =>
 jn (fun l10 h =>
 q4 [(ge l10 0),(ge l10 1)] h) fun q11 =>
 cnd v9 (
 q11 [v6,(ge l 1)] h) (
 q11 [(ge l 0),v6] h)) (
 q (.exit 2) [(ge l 0)] h)
def schismaref03_divide_l0 (C:CC) (p0:V) (p1:V) (p4:V):StepT:=fun l h q =>
 bnd (biI .geq (ge l 1) (.d (.int .i64 0))) fun v1 =>
 cnd v1 (
 jn (fun l2 h =>
 bnd (biI .sub (ge l 1) (.d (.int .i64 1))) fun v4 =>
 q .normal [(ge l2 0),v4] h) fun q3 =>
 bnd (ixV h 1 p0 (ge l 1)) fun v5 =>
 bnd (ld1 h v5) fun v6 =>
 lisS 1 1 [.int .i64 0] [(0,v6)] h fun v7 h =>
 apV false 2 1 8 v7 (ge l 0) h fun v8 h =>
 bnd (bld [(0,1),(1,1)] [.bool false,.pl (.slice none 0 0)] [(1,v8)]) fun v9 =>
 cal C.p h (.fn F.schismaref03_trim [] []) [v9] fun v10 h =>
 bnd (fiV 1 1 true v10) fun v11 =>
 cal C.p h (.fn F.schismaref03_above [] []) [v11,p1] fun v12 h =>
 bnd (biI .lss v12 (.d (.int .i64 0))) fun v13 =>
 cnd v13 (
 q3 [v11] h) (
 bnd (lenV v11) fun v14 =>
 bnd (biI .eql v14 (.d (.int .i64 1))) fun v15 =>
 cnd v15 (
 bnd (ixV h 1 v11 (.d (.int .i64 0))) fun v16 =>
 bnd (ld1 h v16) fun v17 =>
 bnd (ixV h 1 p1 (.d (.int .i64 0))) fun v18 =>
 bnd (ld1 h v18) fun v19 =>
 bnd (biI .quo v17 v19) fun v20 =>
 bnd (ixV h 1 v11 (.d (.int .i64 0))) fun v21 =>
 bnd (ld1 h v21) fun v22 =>
 bnd (ixV h 1 p1 (.d (.int .i64 0))) fun v23 =>
 bnd (ld1 h v23) fun v24 =>
 bnd (biI .rem v22 v24) fun v25 =>
 lisD 1 [.int .i64 0] [(0,v25)] h fun v26 h =>
 bnd (bld [(0,1),(1,1)] [.bool false,.pl (.slice none 0 0)] [(1,v26)]) fun v27 =>
 cal C.p h (.fn F.schismaref03_trim [] []) [v27] fun v28 h =>
 bnd (fiV 1 1 true v28) fun v29 =>
 bnd (ixV h 1 p4 (ge l 1)) fun v30 =>
 stD h 1 v30 v20 fun _ h =>
 q3 [v29] h) (
 lp (schismaref03_divide_l1 C p1 v11) [] h [(.d (.int .i64 0)),(.d (.int .i64 1000000000))] h (exK [((.exit 2),fun l32 h =>
 cal C.p h (.fn F.schismaref03_times [] []) [p1,(ge l32 0)] fun v33 h =>
 cal C.p h (.fn F.schismaref03_minus [] []) [v11,v33] fun v34 h =>
 bnd (bld [(0,1),(1,1)] [.bool false,.pl (.slice none 0 0)] [(1,v34)]) fun v35 =>
 cal C.p h (.fn F.schismaref03_trim [] []) [v35] fun v36 h =>
 bnd (fiV 1 1 true v36) fun v37 =>
 bnd (ixV h 1 p4 (ge l 1)) fun v38 =>
 stD h 1 v38 (ge l32 0) fun _ h =>
 q3 [v37] h)])))) (
 q (.exit 0) [(ge l 0)] h)
def schismaref03_divide (C:CC) (t0:V) (t1:V) (q:V→Hp→Prop):Prop :=
 let h:Hp:=List.replicate 3 (0,.none)
 bnd (lenV t0) fun v1 =>
 mkS 0 8 [.int .i64 0] h v1 v1 fun v2 h =>
 bnd (lenV t0) fun v3 =>
 bnd (biI .sub v3 (.d (.int .i64 1))) fun v4 =>
 lp (schismaref03_divide_l0 C t0 t1 v2) [1,2] h [(.d (.pl (.slice none 0 0))),v4] h (exK [((.exit 0),fun l5 h =>
 bnd (bld [(0,1),(1,1)] [.bool false,.pl (.slice none 0 0)] [(1,v2)]) fun v6 =>
 cal C.p h (.fn F.schismaref03_trim [] []) [v6] fun v7 h =>
 bnd (fiV 1 1 true v7) fun v8 =>
 q (.tup [v8,(ge l5 0)]) h)])
def schismaref03_divide_a:Ann:=(.n .x .o (.n .x (.n (.r [.slot 0]) .o .o) (.n .x (.n .x .o (.n .x (.n (.l [5,6] [0,1,4] [((.exit 0),[5],[4])] [1,2]) (.n .x .o (.n .x (.n (.j [5] [0,1,4,6]) (.n .x (.n (.r [.slot 1,.slot 2]) .o .o) (.n .x .o (.n .x .o (.n .x .o (.n .x (.n .x (.n (.l [7,8] [0,1,4,5,6] [((.exit 2),[7],[0,1,4,5,6])] []) (.n .x .o (.n (.j [7,8] [0,1,4,5,6]) (.n .x .o (.n .x .o (.n (.j [7,8] [0,1,4,5,6]) .o .o))) .o)) .o) .o) .o))))) .o) .o)) .o) .o)) .o)))
theorem schismaref03_divide_e (C:CC) (t0:V) (t1:V) (q:V→Hp→Prop):fnD Y C Go.Proofs.Tryz.f134 3 schismaref03_divide_a [t0,t1] q=schismaref03_divide C t0 t1 q:=by
 rfl
theorem schismaref03_divide_o:okB Go.Proofs.Tryz.prog Go.Proofs.Tryz.f134 schismaref03_divide_a=true:=by decide +kernel
theorem schismaref03_divide_i {t0 t1 v:V} (h:schismaref03_divide (CX Y) t0 t1 (out v)):CP Y F.schismaref03_divide [t0,t1] v :=
 CP.of (fn:=Go.Proofs.Tryz.f134) (m:=3) (a:=schismaref03_divide_a) rfl (fun _=>rfl) Go.Proofs.Tryz.func134 schismaref03_divide_o (by rw [schismaref03_divide_e]; exact h)
def schismaref03_GcdW_l0 (C:CC):StepT:=fun l h q =>
 bnd (lenV (ge l 1)) fun v1 =>
 bnd (biI .gtr v1 (.d (.int .i64 0))) fun v2 =>
 cnd v2 (
 cal C.p h (.fn F.schismaref03_divide [] []) [(ge l 0),(ge l 1)] fun v3 h =>
 ext v3 0 fun v4 =>
 ext v3 1 fun v5 =>
 q .normal [(ge l 1),v5] h) (
 q (.exit 0) [(ge l 0)] h)
def schismaref03_GcdW (C:CC) (t0:V) (t1:V) (q:V→Hp→Prop):Prop :=
 let h:Hp:=List.replicate 3 (0,.none)
 boxD 0 t0 h fun v1 h =>
 boxD 1 t1 h fun v2 h =>
 alV 2 [.d (.bool false),.d (.pl (.slice none 0 0))] h fun v3 h =>
 bnd (faV 1 v1) fun v4 =>
 bnd (ld1 h v4) fun v5 =>
 bnd (faV 1 v2) fun v6 =>
 bnd (ld1 h v6) fun v7 =>
 lp (schismaref03_GcdW_l0 C) [] h [v5,v7] h (exK [((.exit 0),fun l8 h =>
 bnd (bld [(0,1),(1,1)] [.bool false,.pl (.slice none 0 0)] [(1,(ge l8 0))]) fun v9 =>
 stD h 2 v3 v9 fun _ h =>
 bnd (ldA h 2 v3) fun v11 =>
 q v11 h)])
def schismaref03_GcdW_a:Ann:=(.n .x (.n (.r [.slot 0,.slot 1,.slot 2]) .o .o) (.n .x .o (.n .x (.n .x (.n (.l [5,6] [4] [((.exit 0),[5],[4])] []) .o .o) .o) .o)))
theorem schismaref03_GcdW_e (C:CC) (t0:V) (t1:V) (q:V→Hp→Prop):fnD Y C Go.Proofs.Tryz.f110 3 schismaref03_GcdW_a [t0,t1] q=schismaref03_GcdW C t0 t1 q:=by
 rfl
theorem schismaref03_GcdW_o:okB Go.Proofs.Tryz.prog Go.Proofs.Tryz.f110 schismaref03_GcdW_a=true:=by decide +kernel
theorem schismaref03_GcdW_i {t0 t1 v:V} (h:schismaref03_GcdW (CX Y) t0 t1 (out v)):CP Y F.schismaref03_GcdW [t0,t1] v :=
 CP.of (fn:=Go.Proofs.Tryz.f110) (m:=3) (a:=schismaref03_GcdW_a) rfl (fun _=>rfl) Go.Proofs.Tryz.func110 schismaref03_GcdW_o (by rw [schismaref03_GcdW_e]; exact h)
def schismaref03_Canonical_l0 (C:CC) (p3:V):StepT:=fun l h q =>
 bnd (lenS p3) fun v1 =>
 bnd (biI .lss (ge l 0) v1) fun v2 =>
 cnd v2 (
 bnd (ixS p3 (ge l 0)) fun v3 =>
 bnd (biI .lss v3 (.d (.int .u8 48))) fun v4 =>
 gd v4 false h (fun q=>q p3 h) fun v5 h =>
 gd v4 false h (fun q=>q (ge l 0) h) fun v6 h =>
 gd v4 false h (fun q=>bnd (ixS v5 v6) fun v=>q v h) fun v7 h =>
 gd v4 false h (fun q=>bnd (biI .gtr v7 (.d (.int .u8 57))) fun v=>q v h) fun v8 h =>
 bnd (pickV v4 (.d (.bool true)) v8) fun v9 =>
 cnd v9 (
 q .ret [(.d (.bool false))] h) (
 bnd (biI .add (ge l 0) (.d (.int .i64 1))) fun v10 =>
 q .normal [v10] h)) (
 q (.exit 0) [] h)
def schismaref03_Canonical (C:CC) (t0:V) (q:V→Hp→Prop):Prop :=
 let h:Hp:=List.replicate 0 (0,.none)
 cal C.p h (.fn F.strings_TrimPrefix [] []) [t0,(.d (.str [45]))] fun v1 h =>
 bnd (lenS v1) fun v2 =>
 bnd (biI .eql v2 (.d (.int .i64 0))) fun v3 =>
 gd v3 false h (fun q=>q v1 h) fun v4 h =>
 gd v3 false h (fun q=>bnd (lenS v4) fun v=>q v h) fun v5 h =>
 gd v3 false h (fun q=>bnd (biI .gtr v5 (.d (.int .i64 400))) fun v=>q v h) fun v6 h =>
 bnd (pickV v3 (.d (.bool true)) v6) fun v7 =>
 gd v7 false h (fun q=>q v1 h) fun v8 h =>
 gd v7 false h (fun q=>bnd (ixS v8 (.d (.int .i64 0))) fun v=>q v h) fun v9 h =>
 gd v7 false h (fun q=>bnd (biI .eql v9 (.d (.int .u8 48))) fun v=>q v h) fun v10 h =>
 gd v7 false h (fun q=>q v10 h) fun v11 h =>
 gd v11 true h (fun q=>q t0 h) fun v12 h =>
 gd v11 true h (fun q=>bnd (biS .neq v12 (.d (.str [48]))) fun v=>q v h) fun v13 h =>
 gd v7 false h (fun q=>bnd (pickV v11 v13 (.d (.bool false))) fun v=>q v h) fun v14 h =>
 bnd (pickV v7 (.d (.bool true)) v14) fun v15 =>
 cnd v15 (
 q (.d (.bool false)) h) (
 lp (schismaref03_Canonical_l0 C v1) [] h [(.d (.int .i64 0))] h (exK [((.exit 0),fun l16 h =>
 q (.d (.bool true)) h),
 (.ret,fun l16 h =>
 q (ge l16 0) h)]))
def schismaref03_Canonical_a:Ann:=(.n .x .o (.n .x .o (.n .x .o (.n .x (.n .x .o (.n .x (.n (.l [4] [3] [((.exit 0),[],[]),(.ret,[2],[])] []) .o .o) .o)) .o))))
theorem schismaref03_Canonical_e (C:CC) (t0:V) (q:V→Hp→Prop):fnD Y C Go.Proofs.Tryz.f108 0 schismaref03_Canonical_a [t0] q=schismaref03_Canonical C t0 q:=by
 rfl
theorem schismaref03_Canonical_o:okB Go.Proofs.Tryz.prog Go.Proofs.Tryz.f108 schismaref03_Canonical_a=true:=by decide +kernel
theorem schismaref03_Canonical_i {t0 v:V} (h:schismaref03_Canonical (CX Y) t0 (out v)):CP Y F.schismaref03_Canonical [t0] v :=
 CP.of (fn:=Go.Proofs.Tryz.f108) (m:=0) (a:=schismaref03_Canonical_a) rfl (fun _=>rfl) Go.Proofs.Tryz.func108 schismaref03_Canonical_o (by rw [schismaref03_Canonical_e]; exact h)
def schismaref03_Right (C:CC) (t0:V) (q:V→Hp→Prop):Prop :=
 let h:Hp:=List.replicate 2 (0,.none)
 boxD 0 t0 h fun v1 h =>
 bnd (faV 0 v1) fun v2 =>
 bnd (ld1 h v2) fun v3 =>
 cal C.p h (.fn F.schismaref03_Canonical [] []) [v3] fun v4 h =>
 bnd (unV .not v4) fun v5 =>
 gd v5 false h (fun q=>bnd (faV 1 v1) fun v=>q v h) fun v6 h =>
 gd v5 false h (fun q=>bnd (ld1 h v6) fun v=>q v h) fun v7 h =>
 gd v5 false h (fun q=>cal C.p h (.fn F.schismaref03_Canonical [] []) [v7] q) fun v8 h =>
 gd v5 false h (fun q=>bnd (unV .not v8) fun v=>q v h) fun v9 h =>
 bnd (pickV v5 (.d (.bool true)) v9) fun v10 =>
 cnd v10 (
 q (.d (.bool false)) h) (
 bnd (faV 1 v1) fun v11 =>
 bnd (ld1 h v11) fun v12 =>
 cal C.p h (.fn F.schismaref03_To [] []) [v12] fun v13 h =>
 alV 1 [.d (.bool false),.d (.pl (.slice none 0 0))] h fun v14 h =>
 stD h 2 v14 v13 fun _ h =>
 bnd (ldA h 2 v14) fun v16 =>
 cal C.p h (.fn F.schismaref03_SignW [] []) [v16] fun v17 h =>
 bnd (biI .gtr v17 (.d (.int .i64 0))) fun v18 =>
 gd v18 true h (fun q=>bnd (faV 0 v1) fun v=>q v h) fun v19 h =>
 gd v18 true h (fun q=>bnd (ld1 h v19) fun v=>q v h) fun v20 h =>
 gd v18 true h (fun q=>cal C.p h (.fn F.schismaref03_To [] []) [v20] q) fun v21 h =>
 gd v18 true h (fun q=>bnd (ldA h 2 v14) fun v=>q v h) fun v22 h =>
 gd v18 true h (fun q=>cal C.p h (.fn F.schismaref03_GcdW [] []) [v21,v22] q) fun v23 h =>
 gd v18 true h (fun q=>cal C.p h (.fn F.schismaref03_From [] []) [v23] q) fun v24 h =>
 gd v18 true h (fun q=>bnd (biS .eql v24 (.d (.str [49]))) fun v=>q v h) fun v25 h =>
 bnd (pickV v18 v25 (.d (.bool false))) fun v26 =>
 q v26 h)
def schismaref03_Right_a:Ann:=(.n .x (.n (.r [.slot 0]) .o .o) (.n .x .o (.n .x (.n (.r [.o,.slot 1]) .o .o) .o)))
theorem schismaref03_Right_e (C:CC) (t0:V) (q:V→Hp→Prop):fnD Y C Go.Proofs.Tryz.f74 2 schismaref03_Right_a [t0] q=schismaref03_Right C t0 q:=by
 rfl
theorem schismaref03_Right_o:okB Go.Proofs.Tryz.prog Go.Proofs.Tryz.f74 schismaref03_Right_a=true:=by decide +kernel
theorem schismaref03_Right_i {t0 v:V} (h:schismaref03_Right (CX Y) t0 (out v)):CP Y F.schismaref03_Right [t0] v :=
 CP.of (fn:=Go.Proofs.Tryz.f74) (m:=2) (a:=schismaref03_Right_a) rfl (fun _=>rfl) Go.Proofs.Tryz.func74 schismaref03_Right_o (by rw [schismaref03_Right_e]; exact h)
def schismalaw03_Right (C:CC) (t0:V) (q:V→Hp→Prop):Prop :=
 let h:Hp:=List.replicate 1 (0,.none)
 boxD 0 t0 h fun v1 h =>
 bnd (ldA h 2 v1) fun v2 =>
 cal C.p h (.fn F.schismaref03_Right [] []) [v2] fun v3 h =>
 q v3 h
def schismalaw03_Right_a:Ann:=(.n .x (.n (.r [.slot 0]) .o .o) .o)
theorem schismalaw03_Right_e (C:CC) (t0:V) (q:V→Hp→Prop):fnD Y C Go.Proofs.Tryz.f29 1 schismalaw03_Right_a [t0] q=schismalaw03_Right C t0 q:=by
 rfl
theorem schismalaw03_Right_o:okB Go.Proofs.Tryz.prog Go.Proofs.Tryz.f29 schismalaw03_Right_a=true:=by decide +kernel
theorem schismalaw03_Right_i {t0 v:V} (h:schismalaw03_Right (CX Y) t0 (out v)):CP Y F.schismalaw03_Right [t0] v :=
 CP.of (fn:=Go.Proofs.Tryz.f29) (m:=1) (a:=schismalaw03_Right_a) rfl (fun _=>rfl) Go.Proofs.Tryz.func29 schismalaw03_Right_o (by rw [schismalaw03_Right_e]; exact h)
end Go.Vm
set_option maxRecDepth 100000
set_option maxHeartbeats 4000000
namespace Go.Vm
open Go Go.Am
def slices_Delete_int_int (C:CC) (b:Nat) (h:Hp) (t0:V) (t1:V) (t2:V) (q:V→Hp→Prop):Prop :=
 let h:Hp:=h++List.replicate 1 (0,.none)
 bnd (lenV t0) fun v1 =>
 bnd (slX h 1 t0 (some t1) (some t2) v1) fun v2 =>
 bnd (biI .eql t1 t2) fun v3 =>
 cnd v3 (
 q t0 h) (
 bnd (lenV t0) fun v4 =>
 bnd (slV h 1 t0 none (some t1)) fun v5 =>
 bnd (slV h 1 t0 (some t2) none) fun v6 =>
 apV false (b+0) 1 8 v5 v6 h fun v7 h =>
 bnd (lenV v7) fun v8 =>
 bnd (slV h 1 v7 (some v8) (some v4)) fun v9 =>
 clrD h [.int .i64 0] v9 fun _ h =>
 q v7 h)
def slices_Delete_int_int_a (b:Nat):Ann:=(.n .x .o (.n .x .o (.n .x .o (.n .x .o (.n .x (.n (.r [.slot (b+0)]) .o .o) .o)))))
theorem slices_Delete_int_int_e (C:CC) (h:Hp) (t0:V) (t1:V) (t2:V) (q:V→Hp→Prop):fnI Y C Go.Proofs.Tryz.f161 1 slices_Delete_int_int_a [t0,t1,t2] h q=slices_Delete_int_int C h.length h t0 t1 t2 q:=by
 rfl
theorem slices_Delete_int_int_o (b:Nat):okB Go.Proofs.Tryz.prog Go.Proofs.Tryz.f161 (slices_Delete_int_int_a b)=true:=by rfl
theorem slices_Delete_int_int_i {t0 t1 t2 v:V} {h h2:Hp} (hh:slices_Delete_int_int (CX Y) h.length h t0 t1 t2 (outI h.length v h2)):CI Y F.slices_Delete_int_int [t0,t1,t2] h v h2 :=
 CI.of (fn:=Go.Proofs.Tryz.f161) (m:=1) (a:=slices_Delete_int_int_a) rfl (fun _=>rfl) Go.Proofs.Tryz.func161 (slices_Delete_int_int_o _) (by rw [slices_Delete_int_int_e]; exact hh)
def checker_determinant_l0 (C:CC) (p0:V) (p1:V) (p5:V) (p13:V) (p14:V):StepT:=fun l h q =>
 bnd (biI .lss (ge l 0) p14) fun v1 =>
 cnd v1 (
 jn (fun l2 h =>
 bnd (biI .add (ge l 0) (.d (.int .i64 1))) fun v4 =>
 q .normal [v4] h) fun q3 =>
 bnd (ixV h 1 p13 (ge l 0)) fun v5 =>
 bnd (ld1 h v5) fun v6 =>
 bnd (ixV h 1 p0 (.d (.int .i64 0))) fun v7 =>
 bnd (ld1 h v7) fun v8 =>
 bnd (ixV h 1 v8 v6) fun v9 =>
 bnd (ld1 h v9) fun v10 =>
 bnd (biI .eql v10 (.d (.int .i64 0))) fun v11 =>
 cnd v11 (
 q3 [] h) (
 bnd (ixV h 1 p0 (.d (.int .i64 0))) fun v12 =>
 bnd (ld1 h v12) fun v13 =>
 bnd (ixV h 1 v13 v6) fun v14 =>
 bnd (ld1 h v14) fun v15 =>
 cal C.p h (.fn F.checker_number [] []) [v15] fun v16 h =>
 bnd (slV h 1 p0 (some (.d (.int .i64 1))) none) fun v17 =>
 cai C.i h (.fn F.slices_Clone_int_int [] []) [p1] 2 fun v18 h =>
 bnd (biI .add (ge l 0) (.d (.int .i64 1))) fun v19 =>
 cai C.i h (.fn F.slices_Delete_int_int [] []) [v18,(ge l 0),v19] 3 fun v20 h =>
 cal C.p h (.fn F.checker_determinant [] []) [v17,v20] fun v21 h =>
 cal C.p h (.fn F.checker_integer_times [] []) [v16,v21] fun v22 h =>
 alV 4 [.d (.bool false),.d (.pl (.slice none 0 0))] h fun v23 h =>
 stD h 2 v23 v22 fun _ h =>
 bnd (biI .rem (ge l 0) (.d (.int .i64 2))) fun v25 =>
 bnd (biI .eql v25 (.d (.int .i64 1))) fun v26 =>
 jn (fun l27 h =>
 bnd (ldA h 2 p5) fun v29 =>
 bnd (ldA h 2 v23) fun v30 =>
 cal C.p h (.fn F.checker_integer_add [] []) [v29,v30] fun v31 h =>
 stD h 2 p5 v31 fun _ h =>
 q3 [] h) fun q28 =>
 cnd v26 (
 bnd (ldA h 2 v23) fun v33 =>
 cal C.p h (.fn F.checker_integer_turned [] []) [v33] fun v34 h =>
 stD h 2 v23 v34 fun _ h =>
 q28 [] h) (
 q28 [] h))) (
 q (.exit 0) [] h)
def checker_determinant (C:CC) (t0:V) (t1:V) (q:V→Hp→Prop):Prop :=
 let h:Hp:=List.replicate 5 (0,.none)
 alV 0 [.d (.bool false),.d (.pl (.slice none 0 0))] h fun v1 h =>
 bnd (lenV t0) fun v2 =>
 bnd (biI .eql v2 (.d (.int .i64 0))) fun v3 =>
 cnd v3 (
 cal C.p h (.fn F.checker_number [] []) [(.d (.int .i64 1))] fun v4 h =>
 stD h 2 v1 v4 fun _ h =>
 bnd (ldA h 2 v1) fun v6 =>
 q v6 h) (
 alV 1 [.d (.bool false),.d (.pl (.slice none 0 0))] h fun v7 h =>
 bnd (lenV t1) fun v8 =>
 lp (checker_determinant_l0 C t0 t1 v7 t1 v8) [2,3,4] h [(.d (.int .i64 0))] h (exK [((.exit 0),fun l9 h =>
 bnd (ldA h 2 v7) fun v10 =>
 stD h 2 v1 v10 fun _ h =>
 bnd (ldA h 2 v1) fun v12 =>
 q v12 h)]))
def checker_determinant_a:Ann:=(.n .x (.n (.r [.slot 0]) .o .o) (.n .x .o (.n .x (.n (.r [.slot 1]) .o .o) (.n .x (.n .x .o (.n .x (.n (.l [15] [0,1,4,5,13,14] [((.exit 0),[],[4,5])] [2,3,4]) (.n .x .o (.n .x .o (.n .x (.n (.j [] [0,1,4,5,13,14,15]) (.n .x .o (.n .x .o (.n .x (.n (.r [.o,.inl 2,.inl 3,.o,.o,.slot 4]) .o .o) (.n .x (.n .x .o (.n (.j [] [0,1,4,5,8,13,14,15]) .o .o)) .o)))) .o) .o))) .o) .o)) .o))))
theorem checker_determinant_e (C:CC) (t0:V) (t1:V) (q:V→Hp→Prop):fnD Y C Go.Proofs.Tryz.f130 5 checker_determinant_a [t0,t1] q=checker_determinant C t0 t1 q:=by
 rfl
theorem checker_determinant_o:okB Go.Proofs.Tryz.prog Go.Proofs.Tryz.f130 checker_determinant_a=true:=by decide +kernel
theorem checker_determinant_i {t0 t1 v:V} (h:checker_determinant (CX Y) t0 t1 (out v)):CP Y F.checker_determinant [t0,t1] v :=
 CP.of (fn:=Go.Proofs.Tryz.f130) (m:=5) (a:=checker_determinant_a) rfl (fun _=>rfl) Go.Proofs.Tryz.func130 checker_determinant_o (by rw [checker_determinant_e]; exact h)
def checker_full_l1 (C:CC) (p6:V) (p14:V):StepT:=fun l h q =>
 bnd (biI .lss (ge l 1) p14) fun v1 =>
 cnd v1 (
 jn (fun l2 h =>
 bnd (biI .add (ge l 1) (.d (.int .i64 1))) fun v4 =>
 q .normal [(ge l2 0),v4] h) fun q3 =>
 bnd (biI .shr p6 (ge l 1)) fun v5 =>
 bnd (biI .and v5 (.d (.int .i64 1))) fun v6 =>
 bnd (biI .eql v6 (.d (.int .i64 1))) fun v7 =>
 jn (fun l8 h =>
 q3 [(ge l8 0)] h) fun q9 =>
 cnd v7 (
 lisD 1 [.int .i64 0] [(0,(ge l 1))] h fun v10 h =>
 apV false 0 1 8 (ge l 0) v10 h fun v11 h =>
 q9 [v11] h) (
 q9 [(ge l 0)] h)) (
 q (.exit 2) [(ge l 0)] h)
def checker_full_l0 (C:CC) (p0:V) (p1:V) (p10:V):StepT:=fun l h q =>
 bnd (biI .lss (ge l 1) p10) fun v1 =>
 cnd v1 (
 jn (fun l2 h =>
 bnd (biI .add (ge l 1) (.d (.int .i64 1))) fun v4 =>
 q .normal [(ge l2 0),v4] h) fun q3 =>
 lp (checker_full_l1 C (ge l 1) p1) [] h [(.d (.pl (.slice none 0 0))),(.d (.int .i64 0))] h (exK [((.exit 2),fun l5 h =>
 bnd (lenV (ge l5 0)) fun v6 =>
 bnd (lenV p0) fun v7 =>
 bnd (biI .eql v6 v7) fun v8 =>
 jn (fun l9 h =>
 q3 [(ge l9 0)] h) fun q10 =>
 cnd v8 (
 cal C.p h (.fn F.checker_determinant [] []) [p0,(ge l5 0)] fun v11 h =>
 bnd (fiV 1 1 true v11) fun v12 =>
 cal C.p h (.fn F.checker_common [] []) [(ge l 0),v12] fun v13 h =>
 q10 [v13] h) (
 q10 [(ge l 0)] h))])) (
 q (.exit 0) [(ge l 0)] h)
def checker_full (C:CC) (t0:V) (t1:V) (q:V→Hp→Prop):Prop :=
 let h:Hp:=List.replicate 1 (0,.none)
 bnd (biI .shl (.d (.int .i64 1)) t1) fun v1 =>
 lp (checker_full_l0 C t0 t1 v1) [0] h [(.d (.pl (.slice none 0 0))),(.d (.int .i64 0))] h (exK [((.exit 0),fun l2 h =>
 lisD 1 [.int .u32 0] [(0,(.d (.int .u32 1)))] h fun v3 h =>
 cal C.p h (.fn F.checker_order [] []) [(ge l2 0),v3] fun v4 h =>
 bnd (biI .eql v4 (.d (.int .i64 0))) fun v5 =>
 q v5 h)])
def checker_full_a:Ann:=(.n .x .o (.n .x .o (.n .x (.n .x .o (.n .x (.n (.l [5,11] [0,1,10] [((.exit 0),[5],[])] [0]) (.n .x .o (.n .x .o (.n .x (.n (.j [5] [0,1,10,11]) (.n .x .o (.n .x .o (.n .x (.n .x .o (.n .x (.n (.l [7,15] [0,1,5,6,10,11,14] [((.exit 2),[7],[0,1,5,10,11])] []) (.n .x .o (.n .x .o (.n .x (.n (.j [7] [0,1,5,6,10,11,14,15]) (.n .x .o (.n .x .o (.n (.j [7] [0,1,5,6,10,11,14,15]) (.n (.r [.o,.slot 0]) .o .o) .o))) .o) .o))) .o) .o)) (.n .x .o (.n (.j [5] [0,1,10,11]) .o .o))))) .o) .o))) .o) .o)) .o)))
theorem checker_full_e (C:CC) (t0:V) (t1:V) (q:V→Hp→Prop):fnD Y C Go.Proofs.Tryz.f95 1 checker_full_a [t0,t1] q=checker_full C t0 t1 q:=by
 rfl
theorem checker_full_o:okB Go.Proofs.Tryz.prog Go.Proofs.Tryz.f95 checker_full_a=true:=by decide +kernel
theorem checker_full_i {t0 t1 v:V} (h:checker_full (CX Y) t0 t1 (out v)):CP Y F.checker_full [t0,t1] v :=
 CP.of (fn:=Go.Proofs.Tryz.f95) (m:=1) (a:=checker_full_a) rfl (fun _=>rfl) Go.Proofs.Tryz.func95 checker_full_o (by rw [checker_full_e]; exact h)
def checker_Temperament_l0 (C:CC) (p3:V) (p32:V) (p33:V):StepT:=fun l h q =>
 bnd (biI .lss (ge l 0) p33) fun v1 =>
 cnd v1 (
 bnd (ixV h 1 p32 (ge l 0)) fun v2 =>
 bnd (ld1 h v2) fun v3 =>
 cal C.p h (.fn F.checker_Form [] []) [v3] fun v4 h =>
 bnd (unV .not v4) fun v5 =>
 gd v5 false h (fun q=>q v3 h) fun v6 h =>
 gd v5 false h (fun q=>bnd (lenV v6) fun v=>q v h) fun v7 h =>
 gd v5 false h (fun q=>bnd (biI .gtr v7 (.d (.int .i64 0))) fun v=>q v h) fun v8 h =>
 gd v5 false h (fun q=>q v8 h) fun v9 h =>
 gd v9 true h (fun q=>q v3 h) fun v10 h =>
 gd v9 true h (fun q=>bnd (ixV h 1 v10 (.d (.int .i64 0))) fun v=>q v h) fun v11 h =>
 gd v9 true h (fun q=>bnd (ld1 h v11) fun v=>q v h) fun v12 h =>
 gd v9 true h (fun q=>bnd (lenV v12) fun v=>q v h) fun v13 h =>
 gd v9 true h (fun q=>q p3 h) fun v14 h =>
 gd v9 true h (fun q=>bnd (biI .neq v13 v14) fun v=>q v h) fun v15 h =>
 gd v5 false h (fun q=>bnd (pickV v9 v15 (.d (.bool false))) fun v=>q v h) fun v16 h =>
 bnd (pickV v5 (.d (.bool true)) v16) fun v17 =>
 gd v17 false h (fun q=>q v3 h) fun v18 h =>
 gd v17 false h (fun q=>q p3 h) fun v19 h =>
 gd v17 false h (fun q=>cal C.p h (.fn F.checker_full [] []) [v18,v19] q) fun v20 h =>
 gd v17 false h (fun q=>bnd (unV .not v20) fun v=>q v h) fun v21 h =>
 bnd (pickV v17 (.d (.bool true)) v21) fun v22 =>
 cnd v22 (
 q .ret [(.d (.bool false))] h) (
 bnd (biI .add (ge l 0) (.d (.int .i64 1))) fun v23 =>
 q .normal [v23] h)) (
 q (.exit 0) [] h)
def checker_Temperament_l2 (C:CC) (p7:V) (p69:V) (p70:V):StepT:=fun l h q =>
 bnd (biI .lss (ge l 0) p70) fun v1 =>
 cnd v1 (
 bnd (ixV h 1 p69 (ge l 0)) fun v2 =>
 bnd (ld1 h v2) fun v3 =>
 cal C.p h (.fn F.checker_dot [] []) [p7,v3] fun v4 h =>
 cal C.p h (.fn F.checker_number [] []) [(.d (.int .i64 0))] fun v5 h =>
 cal C.p h (.fn F.checker_integer_equal [] []) [v4,v5] fun v6 h =>
 bnd (unV .not v6) fun v7 =>
 cnd v7 (
 q .ret [(.d (.bool false))] h) (
 bnd (biI .add (ge l 0) (.d (.int .i64 1))) fun v8 =>
 q .normal [v8] h)) (
 q (.exit 4) [] h)
def checker_Temperament_l1 (C:CC) (p1:V) (p62:V) (p63:V):StepT:=fun l h q =>
 bnd (biI .lss (ge l 0) p63) fun v1 =>
 cnd v1 (
 bnd (ixV h 1 p62 (ge l 0)) fun v2 =>
 bnd (ld1 h v2) fun v3 =>
 bnd (faV 2 p1) fun v4 =>
 bnd (ld1 h v4) fun v5 =>
 bnd (lenV v5) fun v6 =>
 lp (checker_Temperament_l2 C v3 v5 v6) [] h [(.d (.int .i64 0))] h (exK [((.exit 4),fun l7 h =>
 bnd (biI .add (ge l 0) (.d (.int .i64 1))) fun v8 =>
 q .normal [v8] h),
 (.ret,fun l7 h =>
 q .ret [(ge l7 0)] h)])) (
 q (.exit 2) [] h)
def checker_Temperament (C:CC) (t0:V) (q:V→Hp→Prop):Prop :=
 let h:Hp:=List.replicate 1 (0,.none)
 boxD 0 t0 h fun v1 h =>
 bnd (faV 0 v1) fun v2 =>
 bnd (ld1 h v2) fun v3 =>
 bnd (lenV v3) fun v4 =>
 bnd (faV 0 v1) fun v5 =>
 bnd (ld1 h v5) fun v6 =>
 cal C.p h (.fn F.checker_Primes [] []) [v6] fun v7 h =>
 bnd (unV .not v7) fun v8 =>
 gd v8 false h (fun q=>bnd (faV 1 v1) fun v=>q v h) fun v9 h =>
 gd v8 false h (fun q=>bnd (ld1 h v9) fun v=>q v h) fun v10 h =>
 gd v8 false h (fun q=>bnd (lenV v10) fun v=>q v h) fun v11 h =>
 gd v8 false h (fun q=>bnd (faV 2 v1) fun v=>q v h) fun v12 h =>
 gd v8 false h (fun q=>bnd (ld1 h v12) fun v=>q v h) fun v13 h =>
 gd v8 false h (fun q=>bnd (lenV v13) fun v=>q v h) fun v14 h =>
 gd v8 false h (fun q=>bnd (biI .add v11 v14) fun v=>q v h) fun v15 h =>
 gd v8 false h (fun q=>q v4 h) fun v16 h =>
 gd v8 false h (fun q=>bnd (biI .neq v15 v16) fun v=>q v h) fun v17 h =>
 bnd (pickV v8 (.d (.bool true)) v17) fun v18 =>
 cnd v18 (
 q (.d (.bool false)) h) (
 bnd (faV 1 v1) fun v19 =>
 bnd (ld1 h v19) fun v20 =>
 bnd (faV 2 v1) fun v21 =>
 bnd (ld1 h v21) fun v22 =>
 lisD 2 [.pl (.slice none 0 0)] [(0,v20),(1,v22)] h fun v23 h =>
 bnd (lenV v23) fun v24 =>
 lp (checker_Temperament_l0 C v4 v23 v24) [] h [(.d (.int .i64 0))] h (exK [((.exit 0),fun l25 h =>
 bnd (faV 1 v1) fun v26 =>
 bnd (ld1 h v26) fun v27 =>
 bnd (lenV v27) fun v28 =>
 lp (checker_Temperament_l1 C v1 v27 v28) [] h [(.d (.int .i64 0))] h (exK [((.exit 2),fun l29 h =>
 q (.d (.bool true)) h),
 (.ret,fun l29 h =>
 q (ge l29 0) h)])),
 (.ret,fun l25 h =>
 q (ge l25 0) h)]))
def checker_Temperament_a:Ann:=(.n .x (.n (.r [.slot 0]) .o .o) (.n .x .o (.n .x .o (.n .x (.n .x .o (.n .x (.n (.l [34] [1,3,32,33] [((.exit 0),[],[1]),(.ret,[2],[])] []) .o .o) .o)) (.n .x (.n .x .o (.n .x (.n (.l [64] [1,62,63] [((.exit 2),[],[]),(.ret,[2],[])] []) (.n .x .o (.n .x .o (.n .x (.n .x (.n .x .o (.n .x .o (.n .x (.n (.l [71] [1,7,62,63,64,69,70] [((.exit 4),[],[1,62,63,64]),(.ret,[2],[])] []) .o .o) .o))) .o) .o))) .o) .o)) .o)))))
theorem checker_Temperament_e (C:CC) (t0:V) (q:V→Hp→Prop):fnD Y C Go.Proofs.Tryz.f43 1 checker_Temperament_a [t0] q=checker_Temperament C t0 q:=by
 rfl
theorem checker_Temperament_o:okB Go.Proofs.Tryz.prog Go.Proofs.Tryz.f43 checker_Temperament_a=true:=by decide +kernel
theorem checker_Temperament_i {t0 v:V} (h:checker_Temperament (CX Y) t0 (out v)):CP Y F.checker_Temperament [t0] v :=
 CP.of (fn:=Go.Proofs.Tryz.f43) (m:=1) (a:=checker_Temperament_a) rfl (fun _=>rfl) Go.Proofs.Tryz.func43 checker_Temperament_o (by rw [checker_Temperament_e]; exact h)
end Go.Vm
set_option maxRecDepth 100000
set_option maxHeartbeats 4000000
namespace Go.Vm
open Go Go.Am
def schismalaw55_of (C:CC) (t0:V) (t1:V) (q:V→Hp→Prop):Prop :=
 let h:Hp:=List.replicate 1 (0,.none)
 alV 0 [.d (.str []),.d (.str [])] h fun v1 h =>
 cal C.p h (.fn F.schismaref03_Frac [] []) [t0,t1] fun v2 h =>
 stD h 2 v1 v2 fun _ h =>
 bnd (ldA h 2 v1) fun v4 =>
 q v4 h
def schismalaw55_of_a:Ann:=(.n .x (.n (.r [.slot 0]) .o .o) .o)
theorem schismalaw55_of_e (C:CC) (t0:V) (t1:V) (q:V→Hp→Prop):fnD Y C Go.Proofs.Tryz.f42 1 schismalaw55_of_a [t0,t1] q=schismalaw55_of C t0 t1 q:=by
 rfl
theorem schismalaw55_of_o:okB Go.Proofs.Tryz.prog Go.Proofs.Tryz.f42 schismalaw55_of_a=true:=by decide +kernel
theorem schismalaw55_of_i {t0 t1 v:V} (h:schismalaw55_of (CX Y) t0 t1 (out v)):CP Y F.schismalaw55_of [t0,t1] v :=
 CP.of (fn:=Go.Proofs.Tryz.f42) (m:=1) (a:=schismalaw55_of_a) rfl (fun _=>rfl) Go.Proofs.Tryz.func42 schismalaw55_of_o (by rw [schismalaw55_of_e]; exact h)
def schismalaw55_known (C:CC) (q:V→Hp→Prop):Prop :=
 let h:Hp:=List.replicate 2 (0,.none)
 lisD 2 [.int .i64 0] [(0,(.d (.int .i64 2))),(1,(.d (.int .i64 3)))] h fun v1 h =>
 bnd (bld [(0,1),(1,1),(2,1)] [.int .i64 0,.int .i64 0,.str []] [(0,(.d (.int .i64 2))),(2,(.d (.str [49])))]) fun v2 =>
 bnd (bld [(0,1),(1,1),(2,1)] [.int .i64 0,.int .i64 0,.str []] [(0,(.d (.int .i64 3))),(2,(.d (.str [49])))]) fun v3 =>
 lisD 2 [.int .i64 0,.int .i64 0,.str []] [(0,v2),(1,v3)] h fun v4 h =>
 bnd (bld [(0,1),(1,1),(2,1)] [.int .i64 0,.int .i64 0,.pl (.slice none 0 0)] [(0,(.d (.int .i64 1))),(2,v4)]) fun v5 =>
 alV 0 [.d (.int .i64 0),.d (.int .i64 0),.d (.pl (.slice none 0 0))] h fun v6 h =>
 stD h 3 v6 v5 fun _ h =>
 lisD 3 [.int .i64 0] [(0,(.d (.int .i64 2))),(1,(.d (.int .i64 3))),(2,(.d (.int .i64 5)))] h fun v8 h =>
 lisD 3 [.int .i64 0] [(0,(.d (.int .i64 4))),(1,(.d (.int .i64 (-4)))),(2,(.d (.int .i64 1)))] h fun v9 h =>
 lisD 1 [.pl (.slice none 0 0)] [(0,v9)] h fun v10 h =>
 lisD 3 [.int .i64 0] [(0,(.d (.int .i64 1))),(1,(.d (.int .i64 0))),(2,(.d (.int .i64 (-4))))] h fun v11 h =>
 lisD 3 [.int .i64 0] [(0,(.d (.int .i64 0))),(1,(.d (.int .i64 1))),(2,(.d (.int .i64 4)))] h fun v12 h =>
 lisD 2 [.pl (.slice none 0 0)] [(0,v11),(1,v12)] h fun v13 h =>
 bnd (bld [(0,1),(1,1),(2,1)] [.pl (.slice none 0 0),.pl (.slice none 0 0),.pl (.slice none 0 0)] [(0,v8),(1,v10),(2,v13)]) fun v14 =>
 alV 1 [.d (.pl (.slice none 0 0)),.d (.pl (.slice none 0 0)),.d (.pl (.slice none 0 0))] h fun v15 h =>
 stD h 3 v15 v14 fun _ h =>
 bnd (bld [(0,1),(1,1),(2,1)] [.int .i64 0,.int .i64 0,.str []] [(0,(.d (.int .i64 3))),(1,(.d (.int .i64 4))),(2,(.d (.str [50,53])))]) fun v17 =>
 cal C.p h (.fn F.checker_Bounds [] []) [v17] fun v18 h =>
 gd v18 true h (fun q=>q v1 h) fun v19 h =>
 gd v18 true h (fun q=>cal C.p h (.fn F.schismalaw55_of [] []) [(.d (.int .i64 (-1))),(.d (.int .i64 1))] q) fun v20 h =>
 gd v18 true h (fun q=>cal C.p h (.fn F.schismalaw55_of [] []) [(.d (.int .i64 1)),(.d (.int .i64 1))] q) fun v21 h =>
 gd v18 true h (fun q=>lisD 2 [.str [],.str []] [(0,v20),(1,v21)] h q) fun v22 h =>
 gd v18 true h (fun q=>bnd (ldA h 3 v6) fun v=>q v h) fun v23 h =>
 gd v18 true h (fun q=>cal C.p h (.fn F.checker_Sign [] []) [v19,v22,v23] q) fun v24 h =>
 bnd (pickV v18 v24 (.d (.bool false))) fun v25 =>
 gd v25 true h (fun q=>lisD 2 [.int .i64 0] [(0,(.d (.int .i64 2))),(1,(.d (.int .i64 0)))] h q) fun v26 h =>
 gd v25 true h (fun q=>lisD 2 [.int .i64 0] [(0,(.d (.int .i64 0))),(1,(.d (.int .i64 3)))] h q) fun v27 h =>
 gd v25 true h (fun q=>lisD 2 [.pl (.slice none 0 0)] [(0,v26),(1,v27)] h q) fun v28 h =>
 gd v25 true h (fun q=>lisD 2 [.int .i64 0] [(0,(.d (.int .i64 1))),(1,(.d (.int .i64 (-1))))] h q) fun v29 h =>
 gd v25 true h (fun q=>lisD 2 [.int .i64 0] [(0,(.d (.int .i64 2))),(1,(.d (.int .i64 (-3))))] h q) fun v30 h =>
 gd v25 true h (fun q=>cal C.p h (.fn F.checker_Member [] []) [v28,v29,v30] q) fun v31 h =>
 bnd (pickV v25 v31 (.d (.bool false))) fun v32 =>
 gd v32 true h (fun q=>bnd (ldA h 3 v15) fun v=>q v h) fun v33 h =>
 gd v32 true h (fun q=>cal C.p h (.fn F.checker_Temperament [] []) [v33] q) fun v34 h =>
 bnd (pickV v32 v34 (.d (.bool false))) fun v35 =>
 gd v35 true h (fun q=>bnd (bld [(0,1),(1,1),(2,1)] [.int .i64 0,.int .i64 0,.str []] [(0,(.d (.int .i64 3))),(1,(.d (.int .i64 4))),(2,(.d (.str [50,52])))]) fun v=>q v h) fun v36 h =>
 gd v35 true h (fun q=>cal C.p h (.fn F.checker_Bounds [] []) [v36] q) fun v37 h =>
 gd v35 true h (fun q=>bnd (unV .not v37) fun v=>q v h) fun v38 h =>
 bnd (pickV v35 v38 (.d (.bool false))) fun v39 =>
 q v39 h
def schismalaw55_known_a:Ann:=(.n .x .o (.n .x .o (.n .x (.n (.r [.o,.slot 0]) .o .o) (.n .x (.n (.r [.o,.o,.o,.o,.o,.o,.slot 1]) .o .o) .o))))
theorem schismalaw55_known_e (C:CC) (q:V→Hp→Prop):fnD Y C Go.Proofs.Tryz.f8 2 schismalaw55_known_a [] q=schismalaw55_known C q:=by
 rfl
theorem schismalaw55_known_o:okB Go.Proofs.Tryz.prog Go.Proofs.Tryz.f8 schismalaw55_known_a=true:=by decide +kernel
theorem schismalaw55_known_i {v:V} (h:schismalaw55_known (CX Y) (out v)):CP Y F.schismalaw55_known [] v :=
 CP.of (fn:=Go.Proofs.Tryz.f8) (m:=2) (a:=schismalaw55_known_a) rfl (fun _=>rfl) Go.Proofs.Tryz.func8 schismalaw55_known_o (by rw [schismalaw55_known_e]; exact h)
end Go.Vm
