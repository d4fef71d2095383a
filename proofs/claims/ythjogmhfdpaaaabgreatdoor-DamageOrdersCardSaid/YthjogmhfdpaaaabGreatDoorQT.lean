/- Lemmas. -/
import Derived.Test.YthjogmhfdpaaaabGreatDoorQVmC
set_option linter.unusedVariables false
set_option linter.unusedSimpArgs false
open Go.Proofs.Tryz
open Option renaming some->Wf,none->Vc
open Bool renaming true->Th,false->SM
open List renaming replicate->So,length->RW
set_option maxRecDepth 100000
set_option maxHeartbeats 4000000
namespace Go.Vm
open Go Go.Am Go.Proofs
noncomputable abbrev DA:=CX Y
abbrev Ds:=CP Y
variable{v t0 t1 t2 t3:V}{h h2:Hp}
theorem aR{f:FuncId}{fn:Func}(m:Nat)(a:cr){ds:bq}(h3:Y.X.P.funcs[f]?=Wf fn)(h5:lu Y DA fn m a ds (out v))(h1:Y.X.allow f=Th:=by rfl)(h2:∀u,Y.X.orc f u=Vc:=by exact λ_=>rfl)(h4:okB Y.X.P fn a=Th:=by decide+kernel):CP Y f ds v:=CP.of h1 h2 h3 h4 h5
abbrev bJ(a b:cr):cr:=.n .x a b
abbrev aB(a:cr):cr:=.n .x a .o
abbrev aV(l:List Act):cr:=.n (.r l) .o .o
abbrev hO(a b:ax):cr:=.n (.j a b) .o .o
abbrev aP(a:cr):cr:=.n .x .o a
abbrev cM(a:cr):cr:=aP (aP a)
abbrev lU(a:cr):cr:=cM (aP a)
abbrev Bc(a:cr):cr:=lU (aP a)
abbrev G0(a:cr):cr:=Bc (aP a)
abbrev TV(a:cr):cr:=G0 (aP a)
abbrev aiI(a:cr):cr:=TV (aP a)
theorem QA{p:Prop}(h:p:=by repeat' (first|(refine aaP rfl λ_=>?_)|(refine WT rfl λ_ _=>?_)|(refine aaF rfl λ_ _=>?_)|(refine aao rfl ?_ ?_)|(refine XR rfl λ_=>?_)|(refine UY rfl λ_ _=>?_)|(refine QC rfl λ_ _=>?_)|(refine abr rfl λ_ _=>?_)|(refine aaM rfl λ_ _=>?_)|(refine VB rfl (λ_ _=>?_) λ_=>?_)|(refine Ur rfl (λ_ _ _=>?_) λ_ _ _=>?_)|(refine XT rfl (λ_ _=>?_) ?_)|(refine Ud rfl λ_ _=>?_)|(refine abl rfl λ_ _=>?_)|(refine aaG rfl λ_ _=>?_)|(refine aqg rfl λ_ _=>?_)|(refine UX rfl λ_ _=>?_)|(refine abt rfl λ_ _=>?_)|(refine TO rfl λ_=>?_)|exact rfl|(refine U8 rfl ?_))):p:=h
theorem CF{p:Prop}(h:p:=by repeat' (first|(refine aaP rfl λ_=>?_)|(refine WT rfl λ_ _=>?_)|(refine aaF rfl λ_ _=>?_)|(refine aao rfl ?_ ?_)|(refine XR rfl λ_=>?_)|(refine UY rfl λ_ _=>?_)|(refine QC rfl λ_ _=>?_)|(refine abr rfl λ_ _=>?_)|(refine aaM rfl λ_ _=>?_)|(refine VB rfl (λ_ _=>?_) λ_=>?_)|(refine Ur rfl (λ_ _ _=>?_) λ_ _ _=>?_)|(refine XT rfl (λ_ _=>?_) ?_)|(refine Ud rfl λ_ _=>?_)|(refine abl rfl λ_ _=>?_)|(refine aaG rfl λ_ _=>?_)|(refine UX rfl λ_ _=>?_)|(refine abt rfl λ_ _=>?_)|(refine TO rfl λ_=>?_)|exact rfl|(refine U8 rfl ?_))):p:=h
abbrev kQ:=bG
abbrev ai(C:CC)(h:Hp)(f:FuncId)(a:bq)(k:kQ):Prop:=bp C.p h (.fn f [] []) a k
abbrev d7(C:CC)(h:Hp)(f:FuncId)(a:bq)(s:Nat)(k:kQ):Prop:=eQ C.i h (.fn f [] []) a s k
abbrev ak(o:BinOp)(x y:V)(k:V->Prop):Prop:=bnd (aD o x y) k
abbrev mg(o:BinOp)(x y:V)(k:V->Prop):Prop:=bnd (j7 o x y) k
abbrev aF(h:Hp)(x:V)(k:V->Prop):Prop:=bnd (ld1 h x) k
abbrev aT(h:Hp)(n:Nat)(x y:V)(k:V->Prop):Prop:=bnd (bC h n x y) k
abbrev ba(x:V)(k:V->Prop):Prop:=bnd (bh x) k
abbrev bi(n:Nat)(x:V)(k:V->Prop):Prop:=bnd (ik n x) k
abbrev cG(x y z:V)(k:V->Prop):Prop:=bnd (kU x y z) k
abbrev aY(o:BinOp)(x y:V)(A B:Prop):Prop:=bnd (aD o x y) λc=>aQ c A B
abbrev dK(x:V)(A B:Prop):Prop:=bnd (aD .neq x (I 0)) λc=>aQ c A B
abbrev aN(c:V)(w:Bool)(h:Hp)(o:Option V)(k:kQ):Prop:=gd c w h (λq=>bnd o λv=>q v h) k
abbrev bH(c:V)(w:Bool)(h:Hp)(x:V)(k:kQ):Prop:=gd c w h (λq=>q x h) k
abbrev bW(x:V)(k:V->V->Prop):Prop:=ext x 0 λa=>ext x 1 λb=>k a b
abbrev kA(x:V)(k:V->V->V->Prop):Prop:=ext x 0 λa=>ext x 1 λb=>ext x 2 λc=>k a b c
abbrev dD:V:=.d aW
abbrev uS(s:Nat)(x y:V)(h:Hp)(k:kQ):Prop:=cx 1 [.int .i64 0] [(0,y)] h λv h=>cV SM s 1 8 x v h k
def Fs(C:CC)(b:Nat)(a c d:V):bK:=λl h q=>ak .gtr (ge l 0) c λc=>bH c Th h d λd h=>bH c Th h a λe h=>bH c Th h (ge l 0) λf h=>aN c Th h (bC h 5 e f) λe h=>aN c Th h (aG h 5 e) λe h=>bH c Th h a λf h=>bH c Th h (ge l 0) λg h=>aN c Th h (aD .sub g (I 1)) λg h=>aN c Th h (bC h 5 f g) λf h=>aN c Th h (aG h 5 f) λf h=>gd c Th h (λq=>bp C.p h d [e,f] q) λd h=>aN c Th h (aD .lss d (I 0)) λd h=>cG c d (B SM) λc=>aQ c (ak .sub (ge l 0) (I 1) λc=>ak .sub (ge l 0) (I 1) λd=>aT h 5 a d λd=>bnd (aG h 5 d) λd=>aT h 5 a (ge l 0) λe=>bnd (aG h 5 e) λe=>aT h 5 a (ge l 0) λf=>aS h 5 f d λ_ h=>aT h 5 a c λa=>aS h 5 a e λ_ h=>ak .sub (ge l 0) (I 1) λa=>q .normal [a] h) (q (.exit 2) [] h)
def Aj(C:CC)(b:Nat)(a c d e:V):bK:=λl h q=>aY .lss (ge l 0) d (lp (Fs C b a c e) [] h [ge l 0] h (aU [((.exit 2),λa h=>ak .add (ge l 0) (I 1) λa=>q .normal [a] h)])) (q (.exit 0) [] h)
def rX(C:CC)(b:Nat)(h:Hp)(a c d e:V)(q:kQ):=let h:Hp:=h++So 0 ah
 ak .add c (I 1) λf=>lp (Aj C b a c d e) [] h [f] h (aU [((.exit 0),λa h=>q (.tup []) h)])
def Kl(b:Nat):cr:=(.n .x .o (.n .x (.n (.l [8] [0,1,2,3] [((.exit 0),[],[])] []) (.n .x .o (.n .x (.n .x (.n .x .o (.n .x (.n (.l [9] [0,1,2,3,8] [((.exit 2),[],[0,1,2,3,8])] []) .o .o) .o)) .o) .o)) .o) .o))
theorem aeI(C:CC)(h:Hp)(t0:V)(t1:V)(t2:V)(t3:V)(q:bG):iB Y C Tryz.f130 0 Kl [t0,t1,t2,t3] h q=rX C (RW h) h t0 t1 t2 t3 q:=by rfl
theorem aeH(b:Nat):okB Tryz.prog Tryz.f130 (Kl b)=Th:=by rfl
theorem QU(hh:rX DA (RW h) h t0 t1 t2 t3 (fA (RW h) v h2)):CI Y F.rX [t0,t1,t2,t3] h v h2:=
 CI.of (fn:=Tryz.f130) (m:=0) (a:=Kl) rfl (λ_=>rfl) func130 (aeH _) (by rw[aeI];exact hh)
def Ki(C:CC)(b:Nat)(a c d e:V):bK:=λl h q=>aY .leq (ge l 1) c (d7 C h F.rX [a,ge l 0,ge l 1,d] (b+0) λa h=>ak .add (ge l 1) e λa=>q .normal [ge l 1,a] h) (q (.exit 0) [ge l 0] h)
def aeF(C:CC)(b:Nat)(a c d e:V):bK:=λl h q=>aY .leq (ge l 1) c (ak .add (ge l 0) e λc=>ai C h F.QS [a,ge l 0,c,ge l 1,d] λa h=>ak .mul (I 2) e λa=>ak .add (ge l 1) a λa=>q .normal [ge l 1,a] h) (q (.exit 4) [ge l 0] h)
def Kh(C:CC)(b:Nat)(a c d:V):bK:=λl h q=>aY .lss (ge l 0) c (ak .mul (I 2) (ge l 0) λe=>lp (aeF C b a c d (ge l 0)) [] h [I 0,e] h (aU [((.exit 4),λe h=>ak .add (ge e 0) (ge l 0) λf=>ak .lss f c λg=>jn (λa h=>ak .mul (ge l 0) (I 2) λa=>q .normal [a] h) λi=>aQ g (ai C h F.QS [a,ge e 0,f,c,d] λa h=>i [] h) (i [] h))])) (q (.exit 2) [] h)
def tP(C:CC)(b:Nat)(h:Hp)(a c d:V)(q:kQ):=let h:Hp:=h++So 2 ah
 lp (Ki C b a c d (I 20)) [(b+0)] h [I 0,I 20] h (aU [((.exit 0),λe h=>d7 C h F.rX [a,ge e 0,c,d] (b+1) λe h=>lp (Kh C b a c d) [] h [I 20] h (aU [((.exit 2),λa h=>q (.tup []) h)]))])
def Kj(b:Nat):cr:=(.n .x .o (.n .x .o (.n .x (.n .x (.n (.l [7,8] [0,1,2,6] [((.exit 0),[7],[0,1,2,6])] [(b+0)]) (.n .x .o (.n .x (.n .x (.n (.r [.inl (b+0)]) .o .o) .o) .o)) .o) .o) (.n .x (.n (.r [.inl (b+1)]) .o .o) (.n .x (.n (.l [6] [0,1,2] [((.exit 2),[],[])] []) (.n .x .o (.n .x (.n .x .o (.n .x (.n .x (.n (.l [7,8] [0,1,2,6] [((.exit 4),[7],[0,1,2,6])] []) .o .o) .o) (.n .x (.n .x .o (.n .x .o (.n (.j [] [0,1,2,6]) .o .o))) .o))) .o)) .o) .o)))))
theorem aeG(C:CC)(h:Hp)(t0:V)(t1:V)(t2:V)(q:bG):iB Y C Tryz.f86 2 Kj [t0,t1,t2] h q=tP C (RW h) h t0 t1 t2 q:=by rfl
theorem aeE(b:Nat):okB Tryz.prog Tryz.f86 (Kj b)=Th:=by rfl
theorem QT(hh:tP DA (RW h) h t0 t1 t2 (fA (RW h) v h2)):CI Y F.tP [t0,t1,t2] h v h2:=
 CI.of (fn:=Tryz.f86) (m:=2) (a:=Kj) rfl (λ_=>rfl) func86 (aeE _) (by rw[aeG];exact hh)
def rY(C:CC)(b:Nat)(h:Hp)(a c:V)(q:kQ):=let h:Hp:=h++So 1 ah
 ba a λd=>d7 C h F.tP [a,d,c] (b+0) λa h=>q (.tup []) h
def Km(b:Nat):cr:=(.n (.r [.inl (b+0)]) .o .o)
theorem aeK(C:CC)(h:Hp)(t0:V)(t1:V)(q:bG):iB Y C Tryz.f50 1 Km [t0,t1] h q=rY C (RW h) h t0 t1 q:=by rfl
theorem aeJ(b:Nat):okB Tryz.prog Tryz.f50 (Km b)=Th:=by rfl
theorem QV(hh:rY DA (RW h) h t0 t1 (fA (RW h) v h2)):CI Y F.rY [t0,t1] h v h2:=
 CI.of (fn:=Tryz.f50) (m:=1) (a:=Km) rfl (λ_=>rfl) func50 (aeJ _) (by rw[aeK];exact hh)
def IR(C:CC)(a c d:V):bK:=λl h q=>aY .lss (ge l 1) d (aT h 1 c (ge l 1) λc=>aF h c λc=>aT h 3 a (ge l 1) λa=>bnd (aG h 3 a) λa=>bnd (fG [(0,3),(3,1),(4,1)] [aW,.str [],.str [],aW,.int .i64 0] [(0,a),(1,c),(2,(ge l 1))]) λa=>cx 1 [aW,.str [],.str [],aW,.int .i64 0] [(0,a)] h λa h=>cV SM 1 5 88 (ge l 0) a h λa h=>ak .add (ge l 1) (I 1) λc=>q .normal [a,c] h) (q (.exit 0) [ge l 0] h)
def zf(C:CC)(a c:V)(q:kQ):=let h:Hp:=.replicate 3 ah
 cD 0 a h λa h=>bnd (aG h 4 a) λd=>ai C h F.w7 [d,c] λd h=>bW d λd e=>dK e (q (.tup [dD,e]) h) (ba d λe=>lp (IR C c d e) [] h [dD,I 0] h (aU [((.exit 0),λc h=>d7 C h F.rY [ge c 0,(.fn F.nO [] [a])] 2 λa h=>q (.tup [ge c 0,I 0]) h)]))
theorem an7(h:zf DA t0 t1 (out v)):Ds F.zf [t0,t1] v:=aR 3 (bJ (aV [.slot 0]) (lU (bJ (aP (aB (.n (.l [8,22] [1,2,20,21] [((.exit 0),[8],[2])] []) (cM (aB (aB (aP (aV [.o,.slot 1]))))) .o))) (aB (aV [.inl 2]))))) func24 h
def nO(C:CC)(a c d:V)(q:kQ):=let h:Hp:=.replicate 2 ah
 cD 0 a h λa h=>cD 1 c h λc h=>bi 0 d λd=>bi 0 d λd=>aF h d λd=>bi 3 c λc=>aF h c λc=>bi 3 a λa=>aF h a λa=>ai C h F.kr [d,c,a] λa h=>bW a λa c=>q a h
theorem an8(h:nO DA t0 t1 t2 (out v)):Ds F.nO [t0,t1,t2] v:=aR 2 (aB (aV [.slot 0,.slot 1])) func51 h
def IU(C:CC)(a c d:V):bK:=λl h q=>aY .lss (ge l 1) d (jn (λa h=>ak .add (ge l 1) (I 1) λc=>q .normal [ge a 0,c] h) λd=>aT h 5 c (ge l 1) λc=>bnd (aG h 5 c) λc=>cu 1 [.d aW,.d (.str []),.d (.str []),.d aW,.d (.int .i64 0)] h λe h=>aS h 5 e c λ_ h=>bi 3 e λc=>aF h c λc=>aT h 5 a (I 0) λa=>bi 3 a λa=>aF h a λa=>ai C h F.Av [c,a] λa h=>jn (λa h=>d [ge a 0] h) λc=>aQ a (bi 4 e λa=>aF h a λa=>uS 2 (ge l 0) a h λa h=>c [a] h) (c [ge l 0] h)) (q (.exit 0) [ge l 0] h)
def zj(C:CC)(a c:V)(q:kQ):=let h:Hp:=.replicate 3 ah
 cD 0 a h λa h=>bnd (aG h 4 a) λa=>ai C h F.zf [a,c] λa h=>bW a λa c=>dK c (q (.tup [dD,dD,c]) h) (ba a λc=>aY .eql c (I 0) (q (.tup [dD,dD,I 13]) h) (ba a λc=>lp (IU C a a c) [1] h [dD,I 0] h (aU [((.exit 0),λc h=>aT h 5 a (I 0) λa=>bi 3 a λa=>aF h a λa=>q (.tup [a,ge c 0,I 0]) h)])))
theorem aod(h:zj DA t0 t1 (out v)):Ds F.zj [t0,t1] v:=aR 3 (bJ (aV [.slot 0]) (lU (aB (aP (aB (.n (.l [5,24] [7,22,23] [((.exit 0),[5],[7])] [1]) (cM (aB (.n (.j [5] [7,22,23,24]) (bJ (aV [.slot 1]) (aP (.n (.j [5] [7,22,23,24]) (aV [.o,.slot 2]) .o))) .o))) .o)))))) func19 h
def IX(C:CC)(a c d e:V):bK:=λl h q=>aY .lss (ge l 1) e (aT h 3 d (ge l 1) λd=>bnd (aG h 3 d) λd=>cu 1 [.d aW,.d (.str []),.d (.str [])] h λe h=>aS h 3 e d λ_ h=>bnd (aG h 4 a) λa=>bi 0 e λd=>aF h d λd=>ai C h F.vf [a,d] λa h=>bW a λa d=>ak .eql d (I 0) λf=>jn (λa h=>ak .eql (ge a 1) (I 0) λd=>jn (λa h=>aY .neq (ge a 1) (I 0) (q .ret [dD,ge a 1] h) (cx 1 [aW] [(0,(ge a 0))] h λa h=>cV SM 2 1 24 (ge l 0) a h λa h=>ak .add (ge l 1) (I 1) λc=>q .normal [a,c] h)) λf=>aQ d (bi 1 e λd=>bnd (aG h 2 d) λd=>ai C h F.vC [c,ge a 0,d] λa h=>bW a λa c=>f [a,c] h) (f [ge a 0,ge a 1] h)) λe=>aQ f (ai C h F.vG [c,a] λa h=>bW a λa c=>e [a,c] h) (e [a,d] h)) (q (.exit 0) [ge l 0] h)
def w7(C:CC)(a c:V)(q:kQ):=let h:Hp:=.replicate 3 ah
 cD 0 a h λa h=>bnd (aG h 4 a) λd=>ai C h F.xp [d] λd h=>dK d (q (.tup [dD,d]) h) (bi 0 a λd=>bi 0 d λd=>aF h d λd=>ai C h F.zk [d,c] λe h=>dK e (q (.tup [dD,e]) h) (ba c λe=>lp (IX C a d c e) [1] h [dD,I 0] h (aU [((.exit 0),λa h=>q (.tup [ge a 0,I 0]) h),(.ret,λa h=>q (.tup [ge a 0,ge a 1]) h)])))
theorem aog(h:w7 DA t0 t1 (out v)):Ds F.w7 [t0,t1] v:=aR 3 (bJ (aV [.slot 0]) (Bc (aB (aP (aB (.n (.l [9,30] [2,7,28,29] [((.exit 0),[9],[]),(.ret,[4,5],[])] [1]) (cM (aB (aB (bJ (aV [.slot 1]) (aP (bJ (aP (hO [12,13] [2,7,9,11,28,29,30])) (bJ (aP (hO [12,13] [2,7,9,28,29,30])) (aP (aV [.o,.slot 2]))))))))) .o)))))) func25 h
def zh(C:CC)(a c:V)(q:kQ):=let h:Hp:=.replicate 2 ah
 cD 0 a h λa h=>cD 1 c h λc h=>bnd (aG h 4 a) λa=>bnd (aG h 3 c) λc=>cx 1 [aW,.str [],.str []] [(0,c)] h λc h=>ai C h F.w7 [a,c] λa h=>bW a λa c=>dK c (q (.tup [dD,c]) h) (aT h 1 a (I 0) λa=>aF h a λa=>q (.tup [a,I 0]) h)
theorem aoc(h:zh DA t0 t1 (out v)):Ds F.zh [t0,t1] v:=aR 2 (aB (aV [.slot 0,.slot 1])) func17 h
def IS(C:CC)(a c:V):bK:=λl h q=>aY .lss (ge l 1) c (jn (λa h=>ak .add (ge l 1) (I 1) λc=>q .normal [ge a 0,c] h) λc=>aT h 1 a (ge l 1) λa=>aF h a λa=>ai C h F.xF [a,(.fn F.zg [] [])] λa h=>bnd (gL .not a) λa=>jn (λa h=>c [ge a 0] h) λc=>aQ a (uS 1 (ge l 0) (ge l 1) h λa h=>c [a] h) (c [ge l 0] h)) (q (.exit 0) [ge l 0] h)
def w6(C:CC)(a c:V)(q:kQ):=let h:Hp:=.replicate 2 ah
 cD 0 a h λa h=>bnd (aG h 4 a) λa=>ai C h F.w7 [a,c] λa h=>bW a λa c=>dK c (q (.tup [dD,c]) h) (ba a λc=>lp (IS C a c) [] h [dD,I 0] h (aU [((.exit 0),λa h=>q (.tup [ge a 0,I 0]) h)]))
theorem an9(h:w6 DA t0 t1 (out v)):Ds F.w6 [t0,t1] v:=aR 2 (bJ (aV [.slot 0]) (lU (aB (aP (aB (.n (.l [8,22] [20,21] [((.exit 0),[8],[])] []) (cM (aB (.n (.j [8] [20,21,22]) (cM (.n (.j [8] [20,21,22]) (aV [.o,.slot 1]) .o)) .o))) .o)))))) func9 h
def zg(C:CC)(a:V)(q:kQ):=let h:Hp:=.replicate 1 ah
 cD 0 a h λa h=>bi 0 a λa=>aF h a λa=>mg .neq a (.d (.str [48])) λa=>q a h
theorem aoa(h:zg DA t0 (out v)):Ds F.zg [t0] v:=aR 1 (aB (aV [.slot 0])) func27 h
def IW(C:CC)(a c d:V):bK:=λl h q=>aY .lss (ge l 0) d (aT h 3 c (ge l 0) λc=>bnd (aG h 3 c) λc=>cu 0 [.d aW,.d (.str []),.d (.str [])] h λd h=>aS h 3 d c λ_ h=>bi 0 d λc=>aF h c λc=>ai C h F.yp [a,c] λa h=>dK a (q .ret [a] h) (bi 1 d λa=>bnd (aG h 2 a) λa=>cu 1 [.d (.str []),.d (.str [])] h λc h=>aS h 2 c a λ_ h=>bnd (aG h 2 c) λa=>ai C h F.uB [a] λa h=>dK a (q .ret [I 2] h) (bnd (aG h 2 c) λa=>ai C h F.wM [a] λa h=>aY .leq a (I 0) (q .ret [I 3] h) (bi 0 c λa=>aF h a λa=>ai C h F.lK [a] λa h=>bnd (fv a) λa=>ak .gtr a (I 30) λa=>aN a SM h (ik 1 c) λc h=>aN a SM h (ld1 h c) λc h=>aN a SM h (fv c) λc h=>aN a SM h (aD .gtr c (I 30)) λc h=>cG a (B Th) c λa=>aQ a (q .ret [I 4] h) (ak .add (ge l 0) (I 1) λa=>q .normal [a] h))))) (q (.exit 0) [] h)
def zk(C:CC)(a c:V)(q:kQ):=let h:Hp:=.replicate 2 ah
 ai C h F.o6 [a] λd h=>dK d (q d h) (ba c λd=>aY .gtr d (I 60) (q (I 4) h) (ba c λd=>lp (IW C a c d) [0,1] h [I 0] h (aU [((.exit 0),λa h=>q (I 0) h),(.ret,λa h=>q (ge a 0) h)])))
theorem aof(h:zk DA t0 t1 (out v)):Ds F.zk [t0,t1] v:=aR 2 (lU (aB (aP (aB (.n (.l [20] [0,18,19] [((.exit 0),[],[]),(.ret,[4],[])] [0,1]) (cM (aB (aB (bJ (aV [.slot 0]) (aP (aB (aV [.slot 1]))))))) .o))))) func29 h
def jh(C:CC)(a c:V)(q:kQ):=let h:Hp:=[]
 bH a Th h c λd h=>aN a Th h (j7 .neq d (.d (.str [48]))) λd h=>cG a d (B SM) λa=>aQ a (mg .add (.d (.str [45])) c λa=>q a h) (q c h)
theorem Pk(h:jh DA t0 t1 (out v)):Ds F.jh [t0,t1] v:=aR 0 .o func109 h
def qt(C:CC)(a c:V)(q:bG):Prop:=let h:Hp:=So 6 ah
 bp C.p h (.fn F.rz [] []) [a,c] λd h=>ext d 0 λe=>ext d 1 λf=>ext d 2 λd=>aQ d (bnd (aD .add e f) λa=>bp C.p h (.fn F.rD [] []) [a] λa h=>q a h) (eQ C.i h (.fn F.mL [] []) [a] 0 λa h=>eQ C.i h (.fn F.mL [] []) [c] 1 λc h=>bnd (bh a) λd=>bnd (bh c) λe=>bnd (aD .lss d e) λd=>jn (λa h=>cx 1 [.int .u64 0] [(0,(.d (.int .u64 0)))] h λc h=>cV SM 2 1 8 (ge a 0) c h λc h=>bnd (bh c) λd=>bnd (aD .sub d (I 1)) λd=>bnd (bh (ge a 1)) λe=>bnd (aD .sub d e) λd=>qw SM 3 1 8 [.int .u64 0] (ge a 1) d h λa h=>eQ C.i h (.fn F.uN [] []) [c,a,(I 0)] 4 λa h=>eQ C.i h (.fn F.kD [] []) [c] 5 λa h=>bp C.p h (.fn F.nN [] []) [a] λa h=>q a h) λe=>aQ d (e [c,a] h) (e [a,c] h))
def NR:cr:=(cM (bJ (aV [.inl 0,.inl 1]) (bJ (aP (hO [8,9] [])) (bJ (aV [.o,.slot 2]) (bJ (aV [.slot 3,.inl 4]) (aB (aV [.inl 5])))))))
attribute [local irreducible] bnd gd bp aQ ext cx kx aS cu mN cD jn lp aU fS cV qw eQ qe in
theorem anY(C:CC)(t0:V)(t1:V)(q:bG):lu Y C Tryz.f107 6 NR [t0,t1] q=qt C t0 t1 q:=QA
theorem anW:okB Tryz.prog Tryz.f107 NR=Th:=dw
theorem anX(h:qt DA t0 t1 (out v)):Ds F.qt [t0,t1] v:=
 CP.of (fn:=Tryz.f107) (m:=6) (a:=NR) rfl (λ_=>rfl) func107 anW (by rw[anY];exact h)
def pD(C:CC)(a c:V)(q:kQ):=let h:Hp:=[]
 bnd (fv a) λd=>bnd (fv c) λe=>aY .neq d e (bnd (fv a) λa=>bnd (fv c) λc=>ak .sub a c λa=>bnd (gk Th [I (-1),a]) λa=>bnd (gk SM [I 1,a]) λa=>q a h) (mg .lss a c λd=>aQ d (q (I (-1)) h) (mg .gtr a c λa=>aQ a (q (I 1) h) (q (I 0) h)))
theorem anQ(h:pD DA t0 t1 (out v)):Ds F.pD [t0,t1] v:=aR 0 .o func126 h
def rC(C:CC)(a c:V)(q:bG):Prop:=let h:Hp:=So 7 ah
 bp C.p h (.fn F.pD [] []) [a,c] λd h=>bnd (aD .lss d (I 0)) λd=>aQ d (q (.tup [(.d (.str [])),(I 3)]) h) (bp C.p h (.fn F.rz [] []) [a,c] λd h=>ext d 0 λe=>ext d 1 λf=>ext d 2 λd=>aQ d (bnd (aD .sub e f) λa=>bp C.p h (.fn F.rD [] []) [a] λa h=>q (.tup [a,(I 0)]) h) (eQ C.i h (.fn F.mL [] []) [a] 0 λa h=>cx 1 [.int .u64 0] [(0,(.d (.int .u64 0)))] h λd h=>cV SM 1 1 8 a d h λa h=>eQ C.i h (.fn F.mL [] []) [c] 2 λd h=>bnd (bh a) λe=>bnd (aD .sub e (I 1)) λe=>eQ C.i h (.fn F.mL [] []) [c] 3 λc h=>bnd (bh c) λc=>bnd (aD .sub e c) λc=>qw SM 4 1 8 [.int .u64 0] d c h λc h=>eQ C.i h (.fn F.wV [] []) [a,c,(.d (.int .u64 1)),(I 0)] 5 λc h=>eQ C.i h (.fn F.kD [] []) [a] 6 λa h=>bp C.p h (.fn F.nN [] []) [a] λa h=>q (.tup [a,(I 0)]) h))
def NO:cr:=(lU (bJ (aV [.inl 0,.o,.slot 1]) (bJ (aV [.inl 2,.inl 3,.slot 4,.inl 5]) (aB (aV [.inl 6])))))
attribute [local irreducible] bnd gd bp aQ ext cx kx aS cu mN cD jn lp aU fS cV qw eQ qe in
theorem anE(C:CC)(t0:V)(t1:V)(q:bG):lu Y C Tryz.f108 7 NO [t0,t1] q=rC C t0 t1 q:=QA
theorem anC:okB Tryz.prog Tryz.f108 NO=Th:=dw
theorem anD(h:rC DA t0 t1 (out v)):Ds F.rC [t0,t1] v:=
 CP.of (fn:=Tryz.f108) (m:=7) (a:=NO) rfl (λ_=>rfl) func108 anC (by rw[anE];exact h)
def uO(C:CC)(a c:V)(q:kQ):=let h:Hp:=.replicate 3 ah
 bnd (fv a) λd=>bnd (fv c) λe=>ak .add d e λd=>aY .leq d (I 18) (ai C h F.rz [a,c] λa h=>kA a λa c d=>ak .mul a c λa=>ai C h F.rD [a] q) (d7 C h F.mL [a] 0 λa h=>d7 C h F.mL [c] 1 λc h=>d7 C h F.rt [a,c] 2 λa h=>ai C h F.nN [a] q)
theorem anK(h:uO DA t0 t1 (out v)):Ds F.uO [t0,t1] v:=aR 3 (cM (aB (aV [.inl 0,.inl 1,.inl 2]))) func110 h
def jj(C:CC)(a c:V)(q:kQ):=let h:Hp:=[]
 ai C h F.kh [a,I 18] λd h=>bW d λd e=>jn (λd h=>ai C h F.ie [a] λa h=>bW a λa d=>ai C h F.ie [c] λc h=>bW c λc e=>bnd (jE .eql a c) λf=>aQ f (ai C h F.qt [d,e] λc h=>ai C h F.jh [a,c] q) (ai C h F.pD [d,e] λf h=>ak .lss f (I 0) λf=>jn (λa h=>ai C h F.rC [ge a 1,ge a 2] λc h=>bW c λc d=>ai C h F.jh [ge a 0,c] q) λg=>aQ f (g [c,e,d] h) (g [a,d,e] h))) λa=>aQ e (ai C h F.kh [c,I 18] λc h=>bW c λc e=>aQ e (ak .add d c λa=>ai C h F.iX [a] q) (a [] h)) (a [] h)
theorem acd(h:jj DA t0 t1 (out v)):Ds F.jj [t0,t1] v:=aR 0 (aP (bJ (cM (hO [] [0,1])) (lU (aB (aP (hO [9,10,12] [])))))) func80 h
def gv(C:CC)(a c:V)(q:kQ):=let h:Hp:=[]
 ai C h F.kh [a,I 9] λd h=>bW d λd e=>jn (λd h=>ai C h F.ie [a] λa h=>bW a λa d=>ai C h F.ie [c] λc h=>bW c λc e=>bnd (jE .neq a c) λa=>ai C h F.uO [d,e] λc h=>ai C h F.jh [a,c] q) λa=>aQ e (ai C h F.kh [c,I 9] λc h=>bW c λc e=>aQ e (ak .mul d c λa=>ai C h F.iX [a] q) (a [] h)) (a [] h)
theorem ab5(h:gv DA t0 t1 (out v)):Ds F.gv [t0,t1] v:=aR 0 (aP (aB (cM (hO [] [0,1])))) func67 h
def yu(C:CC)(a:V)(q:kQ):=let h:Hp:=[]
 aQ (B SM) (bnd (ft .u32 a) λa=>ai C h F.ai4 [a] q) (ai C h F.ui [a] q)
theorem ai2(h:yu DA t0 (out v)):Ds F.yu [t0] v:=aR 0 .o func184 h
def AQ(C:CC)(a:V):bK:=λl h q=>ak .mul (ge l 0) (ge l 0) λc=>aY .leq c a (ak .rem a (ge l 0) λa=>aY .eql a (I 0) (q .ret [B SM] h) (ak .add (ge l 0) (I 1) λa=>q .normal [a] h)) (q (.exit 0) [] h)
def vW(C:CC)(a:V)(q:kQ):=let h:Hp:=[]
 ak .lss a (I 2) λc=>bH c SM h a λd h=>aN c SM h (aD .gtr d (I 97)) λd h=>cG c (B Th) d λc=>aQ c (q (B SM) h) (lp (AQ C a) [] h [I 2] h (aU [((.exit 0),λa h=>q (B Th) h),(.ret,λa h=>q (ge a 0) h)]))
theorem ahr(h:vW DA t0 (out v)):Ds F.vW [t0] v:=aR 0 (cM (aB (aP (aB (.n (.l [3] [0] [((.exit 0),[],[]),(.ret,[2],[])] []) .o .o))))) func89 h
def Gw(C:CC)(a c d:V):bK:=λl h q=>aY .lss (ge l 0) d (aT h 1 c (ge l 0) λc=>aF h c λc=>ai C h F.vW [c] λd h=>bnd (gL .not d) λd=>aQ d (q .ret [I 25] h) (ak .gtr (ge l 0) (I 0) λd=>bH d Th h c λc h=>bH d Th h a λa h=>bH d Th h (ge l 0) λe h=>aN d Th h (aD .sub e (I 1)) λe h=>aN d Th h (bC h 1 a e) λa h=>aN d Th h (ld1 h a) λa h=>aN d Th h (aD .leq c a) λa h=>cG d a (B SM) λa=>aQ a (q .ret [I 6] h) (ak .add (ge l 0) (I 1) λa=>q .normal [a] h))) (q (.exit 1) [] h)
def o6(C:CC)(a:V)(q:kQ):=let h:Hp:=[]
 ba a λc=>aY .eql c (I 0) (q (I 13) h) (ba a λc=>aY .gtr c (I 6) (q (I 4) h) (ba a λc=>lp (Gw C a a c) [] h [I 0] h (aU [((.exit 1),λa h=>q (I 0) h),(.ret,λa h=>q (ge a 0) h)])))
theorem ahs(h:o6 DA t0 (out v)):Ds F.o6 [t0] v:=aR 0 (cM (aB (aP (aB (.n (.l [15] [0,13,14] [((.exit 1),[],[]),(.ret,[2],[])] []) .o .o))))) func55 h
def vB(C:CC)(a:V)(q:kQ):=let h:Hp:=.replicate 1 ah
 cD 0 a h λa h=>bi 0 a λc=>aF h c λc=>ai C h F.lK [c] λc h=>bnd (fv c) λc=>ak .leq c (I 30) λc=>aN c Th h (ik 1 a) λa h=>aN c Th h (ld1 h a) λa h=>aN c Th h (fv a) λa h=>aN c Th h (aD .leq a (I 30)) λa h=>cG c a (B SM) λa=>q a h
theorem afA(h:vB DA t0 (out v)):Ds F.vB [t0] v:=aR 1 (aB (aV [.slot 0])) func103 h
def FI(C:CC)(a c:V):bK:=λl h q=>aY .lss (ge l 0) c (aT h 2 a (ge l 0) λa=>bnd (aG h 2 a) λa=>cu 0 [.d (.str []),.d (.str [])] h λc h=>aS h 2 c a λ_ h=>bnd (aG h 2 c) λa=>ai C h F.uB [a] λa h=>dK a (q .ret [I 2] h) (bnd (aG h 2 c) λa=>ai C h F.vB [a] λa h=>bnd (gL .not a) λa=>aQ a (q .ret [I 4] h) (ak .add (ge l 0) (I 1) λa=>q .normal [a] h))) (q (.exit 0) [] h)
def tS(C:CC)(a c:V)(q:kQ):=let h:Hp:=.replicate 1 ah
 ba c λd=>ba a λa=>aY .neq d a (q (I 5) h) (ba c λa=>lp (FI C c a) [0] h [I 0] h (aU [((.exit 0),λa h=>q (I 0) h),(.ret,λa h=>q (ge a 0) h)]))
theorem afI(h:tS DA t0 t1 (out v)):Ds F.tS [t0,t1] v:=aR 1 (cM (aB (aP (aB (.n (.l [14] [12,13] [((.exit 0),[],[]),(.ret,[4],[])] [0]) (cM (aB (aB (aB (aV [.slot 0]))))) .o))))) func64 h
def vF(C:CC)(a c:V)(q:kQ):=let h:Hp:=[]
 ai C h F.o6 [a] λd h=>dK d (q d h) (ai C h F.tS [a,c] q)
theorem afP(h:vF DA t0 t1 (out v)):Ds F.vF [t0,t1] v:=aR 0 .o func30 h
def yT(C:CC)(a c:V)(q:kQ):=let h:Hp:=.replicate 2 ah
 aY .eql c (I 10) (aY .lss a (.d (.int .u64 100)) (bnd (ft .i64 a) λa=>ai C h F.yS [a] q) (mN 0 1 (So 24 (.int .u8 0)) h λc h=>ai C h F.wF [a] λd h=>bnd (nC 24 1 h c Vc (Wf d)) λe=>d7 C h F.uw [e,a] 1 λa h=>bnd (nC 24 1 h c Vc (Wf d)) λa=>bnd (nP h a) λa=>q a h)) (ai C h F.VT [dD,a,c,B SM,B SM] λa h=>bW a λa c=>q c h)
theorem ak2(h:yT DA t0 t1 (out v)):Ds F.yT [t0,t1] v:=aR 2 (aP (aB (aP (aB (aP (bJ (aV [.slot 0]) (aP (aB (aV [.inl 1]))))))))) func202 h
def Ab(C:CC)(a c:V)(q:kQ):=let h:Hp:=[]
 ai C h F.yT [a,c] q
theorem ad3(h:Ab DA t0 t1 (out v)):Ds F.Ab [t0,t1] v:=aR 0 .o func180 h
def rD(C:CC)(a:V)(q:kQ):=let h:Hp:=[]
 ai C h F.Ab [a,I 10] q
theorem anJ(h:rD DA t0 (out v)):Ds F.rD [t0] v:=aR 0 .o func144 h
def wY(C:CC)(a:V)(q:kQ):=let h:Hp:=[]
 ai C h F.xy [a,I 10,I 64] λa h=>bW a λa c=>bnd (pI .neq c (.d (.pl .nilIface))) λc=>aQ c (q (.tup [(.d (.int .u64 0)),B SM]) h) (q (.tup [a,B Th]) h)
theorem anF(h:wY DA t0 (out v)):Ds F.wY [t0] v:=aR 0 .o func179 h
def rz(C:CC)(a c:V)(q:kQ):=let h:Hp:=[]
 bnd (fv a) λd=>ak .gtr d (I 18) λd=>bH d SM h c λe h=>aN d SM h (fv e) λe h=>aN d SM h (aD .gtr e (I 18)) λe h=>cG d (B Th) e λd=>aQ d (q (.tup [(.d (.int .u64 0)),(.d (.int .u64 0)),B SM]) h) (ai C h F.wY [a] λa h=>bW a λa d=>ai C h F.wY [c] λc h=>bW c λc d=>q (.tup [a,c,B Th]) h)
theorem anB(h:rz DA t0 t1 (out v)):Ds F.rz [t0,t1] v:=aR 0 .o func143 h
def rE(C:CC)(a c:V)(q:kQ):=let h:Hp:=.replicate 2 ah
 mg .eql c (.d (.str [48])) λd=>aQ d (q (.tup [(.d (.str [])),(.d (.str [])),I 17]) h) (ai C h F.rz [a,c] λd h=>kA d λd e f=>aQ f (ak .quo d e λa=>ai C h F.rD [a] λa h=>ak .rem d e λc=>ai C h F.rD [c] λc h=>q (.tup [a,c,I 0]) h) (d7 C h F.mL [a] 0 λd h=>d7 C h F.mL [c] 1 λc h=>ai C h F.wX [d,c] λe h=>aY .lss e (I 0) (q (.tup [(.d (.str [48])),a,I 0]) h) (ba c λa=>aY .eql a (I 1) (aT h 1 c (I 0) λa=>aF h a λa=>ai C h F.wW [d,a] λa h=>bW a λa c=>ai C h F.nN [a] λa h=>ai C h F.rD [c] λc h=>q (.tup [a,c,I 0]) h) (ai C h F.zc [d,c] λa h=>bW a λa c=>ai C h F.nN [a] λa h=>ai C h F.nN [c] λc h=>q (.tup [a,c,I 0]) h))))
def NQ:cr:=(lU (aB (aV [.inl 0,.inl 1])))
attribute [local irreducible] bnd gd bp aQ ext cx kx aS cu mN cD jn lp aU fS cV eQ qe in
theorem anP(C:CC)(t0:V)(t1:V)(q:bG):lu Y C Tryz.f106 2 NQ [t0,t1] q=rE C t0 t1 q:=CF
theorem anN:okB Tryz.prog Tryz.f106 NQ=Th:=dw
theorem anO(h:rE DA t0 t1 (out v)):Ds F.rE [t0,t1] v:=
 CP.of (fn:=Tryz.f106) (m:=2) (a:=NQ) rfl (λ_=>rfl) func106 anN (by rw[anP];exact h)
def II(C:CC):bK:=λl h q=>mg .neq (ge l 1) (.d (.str [48])) λa=>aQ a (ai C h F.rE [ge l 0,ge l 1] λa h=>kA a λa c d=>dK d (q .ret [(.d (.str []))] h) (q .normal [ge l 1,c] h)) (q (.exit 0) [ge l 0] h)
def zd(C:CC)(a c:V)(q:kQ):=let h:Hp:=[]
 lp (II C) [] h [a,c] h (aU [((.exit 0),λa h=>q (ge a 0) h),(.ret,λa h=>q (ge a 0) h)])
theorem anM(h:zd DA t0 t1 (out v)):Ds F.zd [t0,t1] v:=aR 0 (aP (aB (aB (.n (.l [0,1] [] [((.exit 0),[0],[]),(.ret,[4],[])] []) .o .o)))) func141 h
def strconv_Itoa(C:CC)(a:V)(q:kQ):=let h:Hp:=[]
 ai C h F.BC [a] q
theorem ad2(h:strconv_Itoa DA t0 (out v)):Ds F.strconv_Itoa [t0] v:=aR 0 .o func127 h
def BC(C:CC)(a:V)(q:kQ):=let h:Hp:=[]
 ai C h F.wG [a,I 10] q
theorem ak1(h:BC DA t0 (out v)):Ds F.BC [t0] v:=aR 0 .o func166 h
def wG(C:CC)(a c:V)(q:kQ):=let h:Hp:=.replicate 2 ah
 aY .eql c (I 10) (ak .leq (I 0) a λc=>bH c Th h a λd h=>aN c Th h (aD .lss d (I 100)) λd h=>cG c d (B SM) λc=>aQ c (ai C h F.yS [a] q) (mN 0 1 (So 24 (.int .u8 0)) h λc h=>bnd (ft .u64 a) λd=>ak .lss a (I 0) λe=>jn (λd h=>ai C h F.wF [ge d 0] λe h=>ak .add (I 1) e λf=>bnd (nC 24 1 h c (Wf (I 1)) (Wf f)) λf=>d7 C h F.uw [f,ge d 0] 1 λd h=>aY .lss a (I 0) (bnd (m5 24 1 c (I 0)) λa=>aS h 1 a (.d (.int .u8 45)) λ_ h=>ak .add (I 1) e λa=>bnd (nC 24 1 h c Vc (Wf a)) λa=>bnd (nP h a) λa=>q a h) (ak .add (I 1) e λa=>bnd (nC 24 1 h c (Wf (I 1)) (Wf a)) λa=>bnd (nP h a) λa=>q a h)) λa=>aQ e (bnd (gL .neg d) λc=>a [c] h) (a [d] h))) (bnd (ft .u64 a) λd=>ak .lss a (I 0) λa=>ai C h F.VT [dD,d,c,a,B SM] λa h=>bW a λa c=>q c h)
theorem ak3(h:wG DA t0 t1 (out v)):Ds F.wG [t0,t1] v:=aR 2 (aP (aB (aP (aB (aP (bJ (aV [.slot 0]) (aP (bJ (aP (hO [6] [0,5])) (aP (aB (aV [.inl 1]))))))))))) func189 h
def yS(C:CC)(a:V)(q:kQ):=let h:Hp:=[]
 aY .lss a (I 10) (ak .add a (I 1) λc=>bnd (nB (.d (.str [48,49,50,51,52,53,54,55,56,57,97,98,99,100,101,102,103,104,105,106,107,108,109,110,111,112,113,114,115,116,117,118,119,120,121,122])) (Wf a) (Wf c)) λa=>q a h) (ak .mul a (I 2) λc=>ak .mul a (I 2) λa=>ak .add a (I 2) λa=>bnd (nB (.d (.str [48,48,48,49,48,50,48,51,48,52,48,53,48,54,48,55,48,56,48,57,49,48,49,49,49,50,49,51,49,52,49,53,49,54,49,55,49,56,49,57,50,48,50,49,50,50,50,51,50,52,50,53,50,54,50,55,50,56,50,57,51,48,51,49,51,50,51,51,51,52,51,53,51,54,51,55,51,56,51,57,52,48,52,49,52,50,52,51,52,52,52,53,52,54,52,55,52,56,52,57,53,48,53,49,53,50,53,51,53,52,53,53,53,54,53,55,53,56,53,57,54,48,54,49,54,50,54,51,54,52,54,53,54,54,54,55,54,56,54,57,55,48,55,49,55,50,55,51,55,52,55,53,55,54,55,55,55,56,55,57,56,48,56,49,56,50,56,51,56,52,56,53,56,54,56,55,56,56,56,57,57,48,57,49,57,50,57,51,57,52,57,53,57,54,57,55,57,56,57,57])) (Wf c) (Wf a)) λa=>q a h)
theorem akT(h:yS DA t0 (out v)):Ds F.yS [t0] v:=aR 0 .o func207 h
def wF(C:CC)(a:V)(q:kQ):=let h:Hp:=[]
 ai C h F.ui [a] λc h=>ai C h F.BA [c] λc h=>bnd (m5 20 1 (gl gB) c) λd=>aF h d λd=>ak .geq a d λa=>ai C h F.BB [a] λa h=>ak .add c a λa=>q a h
theorem akU(h:wF DA t0 (out v)):Ds F.wF [t0] v:=aR 0 .o func208 h
def DT(C:CC)(b:Nat)(a:V):bK:=λl h q=>aY .geq (ge l 1) (I 8) (ak .rem (ge l 0) (.d (.int .u64 100000000)) λc=>bnd (ft .u32 c) λc=>ak .quo (ge l 0) (.d (.int .u64 100000000)) λd=>ak .quo c (.d (.int .u32 10000)) λe=>ak .rem c (.d (.int .u32 10000)) λc=>ak .quo c (.d (.int .u32 100)) λf=>ak .mul f (.d (.int .u32 2)) λf=>ak .rem c (.d (.int .u32 100)) λc=>ak .mul c (.d (.int .u32 2)) λc=>ak .quo e (.d (.int .u32 100)) λg=>ak .mul g (.d (.int .u32 2)) λg=>ak .rem e (.d (.int .u32 100)) λe=>ak .mul e (.d (.int .u32 2)) λe=>ak .sub (ge l 1) (I 1) λi=>ak .sub (ge l 1) (I 2) λj=>ak .add c (.d (.int .u32 1)) λk=>bnd (fF (.d (.str [48,48,48,49,48,50,48,51,48,52,48,53,48,54,48,55,48,56,48,57,49,48,49,49,49,50,49,51,49,52,49,53,49,54,49,55,49,56,49,57,50,48,50,49,50,50,50,51,50,52,50,53,50,54,50,55,50,56,50,57,51,48,51,49,51,50,51,51,51,52,51,53,51,54,51,55,51,56,51,57,52,48,52,49,52,50,52,51,52,52,52,53,52,54,52,55,52,56,52,57,53,48,53,49,53,50,53,51,53,52,53,53,53,54,53,55,53,56,53,57,54,48,54,49,54,50,54,51,54,52,54,53,54,54,54,55,54,56,54,57,55,48,55,49,55,50,55,51,55,52,55,53,55,54,55,55,55,56,55,57,56,48,56,49,56,50,56,51,56,52,56,53,56,54,56,55,56,56,56,57,57,48,57,49,57,50,57,51,57,52,57,53,57,54,57,55,57,56,57,57])) k) λk=>bnd (fF (.d (.str [48,48,48,49,48,50,48,51,48,52,48,53,48,54,48,55,48,56,48,57,49,48,49,49,49,50,49,51,49,52,49,53,49,54,49,55,49,56,49,57,50,48,50,49,50,50,50,51,50,52,50,53,50,54,50,55,50,56,50,57,51,48,51,49,51,50,51,51,51,52,51,53,51,54,51,55,51,56,51,57,52,48,52,49,52,50,52,51,52,52,52,53,52,54,52,55,52,56,52,57,53,48,53,49,53,50,53,51,53,52,53,53,53,54,53,55,53,56,53,57,54,48,54,49,54,50,54,51,54,52,54,53,54,54,54,55,54,56,54,57,55,48,55,49,55,50,55,51,55,52,55,53,55,54,55,55,55,56,55,57,56,48,56,49,56,50,56,51,56,52,56,53,56,54,56,55,56,56,56,57,57,48,57,49,57,50,57,51,57,52,57,53,57,54,57,55,57,56,57,57])) c) λc=>aT h 1 a i λi=>aS h 1 i k λ_ h=>aT h 1 a j λi=>aS h 1 i c λ_ h=>ak .sub (ge l 1) (I 3) λc=>ak .sub (ge l 1) (I 4) λi=>ak .add f (.d (.int .u32 1)) λj=>bnd (fF (.d (.str [48,48,48,49,48,50,48,51,48,52,48,53,48,54,48,55,48,56,48,57,49,48,49,49,49,50,49,51,49,52,49,53,49,54,49,55,49,56,49,57,50,48,50,49,50,50,50,51,50,52,50,53,50,54,50,55,50,56,50,57,51,48,51,49,51,50,51,51,51,52,51,53,51,54,51,55,51,56,51,57,52,48,52,49,52,50,52,51,52,52,52,53,52,54,52,55,52,56,52,57,53,48,53,49,53,50,53,51,53,52,53,53,53,54,53,55,53,56,53,57,54,48,54,49,54,50,54,51,54,52,54,53,54,54,54,55,54,56,54,57,55,48,55,49,55,50,55,51,55,52,55,53,55,54,55,55,55,56,55,57,56,48,56,49,56,50,56,51,56,52,56,53,56,54,56,55,56,56,56,57,57,48,57,49,57,50,57,51,57,52,57,53,57,54,57,55,57,56,57,57])) j) λj=>bnd (fF (.d (.str [48,48,48,49,48,50,48,51,48,52,48,53,48,54,48,55,48,56,48,57,49,48,49,49,49,50,49,51,49,52,49,53,49,54,49,55,49,56,49,57,50,48,50,49,50,50,50,51,50,52,50,53,50,54,50,55,50,56,50,57,51,48,51,49,51,50,51,51,51,52,51,53,51,54,51,55,51,56,51,57,52,48,52,49,52,50,52,51,52,52,52,53,52,54,52,55,52,56,52,57,53,48,53,49,53,50,53,51,53,52,53,53,53,54,53,55,53,56,53,57,54,48,54,49,54,50,54,51,54,52,54,53,54,54,54,55,54,56,54,57,55,48,55,49,55,50,55,51,55,52,55,53,55,54,55,55,55,56,55,57,56,48,56,49,56,50,56,51,56,52,56,53,56,54,56,55,56,56,56,57,57,48,57,49,57,50,57,51,57,52,57,53,57,54,57,55,57,56,57,57])) f) λf=>aT h 1 a c λc=>aS h 1 c j λ_ h=>aT h 1 a i λc=>aS h 1 c f λ_ h=>ak .sub (ge l 1) (I 5) λc=>ak .sub (ge l 1) (I 6) λf=>ak .add e (.d (.int .u32 1)) λi=>bnd (fF (.d (.str [48,48,48,49,48,50,48,51,48,52,48,53,48,54,48,55,48,56,48,57,49,48,49,49,49,50,49,51,49,52,49,53,49,54,49,55,49,56,49,57,50,48,50,49,50,50,50,51,50,52,50,53,50,54,50,55,50,56,50,57,51,48,51,49,51,50,51,51,51,52,51,53,51,54,51,55,51,56,51,57,52,48,52,49,52,50,52,51,52,52,52,53,52,54,52,55,52,56,52,57,53,48,53,49,53,50,53,51,53,52,53,53,53,54,53,55,53,56,53,57,54,48,54,49,54,50,54,51,54,52,54,53,54,54,54,55,54,56,54,57,55,48,55,49,55,50,55,51,55,52,55,53,55,54,55,55,55,56,55,57,56,48,56,49,56,50,56,51,56,52,56,53,56,54,56,55,56,56,56,57,57,48,57,49,57,50,57,51,57,52,57,53,57,54,57,55,57,56,57,57])) i) λi=>bnd (fF (.d (.str [48,48,48,49,48,50,48,51,48,52,48,53,48,54,48,55,48,56,48,57,49,48,49,49,49,50,49,51,49,52,49,53,49,54,49,55,49,56,49,57,50,48,50,49,50,50,50,51,50,52,50,53,50,54,50,55,50,56,50,57,51,48,51,49,51,50,51,51,51,52,51,53,51,54,51,55,51,56,51,57,52,48,52,49,52,50,52,51,52,52,52,53,52,54,52,55,52,56,52,57,53,48,53,49,53,50,53,51,53,52,53,53,53,54,53,55,53,56,53,57,54,48,54,49,54,50,54,51,54,52,54,53,54,54,54,55,54,56,54,57,55,48,55,49,55,50,55,51,55,52,55,53,55,54,55,55,55,56,55,57,56,48,56,49,56,50,56,51,56,52,56,53,56,54,56,55,56,56,56,57,57,48,57,49,57,50,57,51,57,52,57,53,57,54,57,55,57,56,57,57])) e) λe=>aT h 1 a c λc=>aS h 1 c i λ_ h=>aT h 1 a f λc=>aS h 1 c e λ_ h=>ak .sub (ge l 1) (I 7) λc=>ak .sub (ge l 1) (I 8) λe=>ak .add g (.d (.int .u32 1)) λf=>bnd (fF (.d (.str [48,48,48,49,48,50,48,51,48,52,48,53,48,54,48,55,48,56,48,57,49,48,49,49,49,50,49,51,49,52,49,53,49,54,49,55,49,56,49,57,50,48,50,49,50,50,50,51,50,52,50,53,50,54,50,55,50,56,50,57,51,48,51,49,51,50,51,51,51,52,51,53,51,54,51,55,51,56,51,57,52,48,52,49,52,50,52,51,52,52,52,53,52,54,52,55,52,56,52,57,53,48,53,49,53,50,53,51,53,52,53,53,53,54,53,55,53,56,53,57,54,48,54,49,54,50,54,51,54,52,54,53,54,54,54,55,54,56,54,57,55,48,55,49,55,50,55,51,55,52,55,53,55,54,55,55,55,56,55,57,56,48,56,49,56,50,56,51,56,52,56,53,56,54,56,55,56,56,56,57,57,48,57,49,57,50,57,51,57,52,57,53,57,54,57,55,57,56,57,57])) f) λf=>bnd (fF (.d (.str [48,48,48,49,48,50,48,51,48,52,48,53,48,54,48,55,48,56,48,57,49,48,49,49,49,50,49,51,49,52,49,53,49,54,49,55,49,56,49,57,50,48,50,49,50,50,50,51,50,52,50,53,50,54,50,55,50,56,50,57,51,48,51,49,51,50,51,51,51,52,51,53,51,54,51,55,51,56,51,57,52,48,52,49,52,50,52,51,52,52,52,53,52,54,52,55,52,56,52,57,53,48,53,49,53,50,53,51,53,52,53,53,53,54,53,55,53,56,53,57,54,48,54,49,54,50,54,51,54,52,54,53,54,54,54,55,54,56,54,57,55,48,55,49,55,50,55,51,55,52,55,53,55,54,55,55,55,56,55,57,56,48,56,49,56,50,56,51,56,52,56,53,56,54,56,55,56,56,56,57,57,48,57,49,57,50,57,51,57,52,57,53,57,54,57,55,57,56,57,57])) g) λg=>aT h 1 a c λc=>aS h 1 c f λ_ h=>aT h 1 a e λa=>aS h 1 a g λ_ h=>ak .sub (ge l 1) (I 8) λa=>q .normal [d,a] h) (q (.exit 0) [ge l 0,ge l 1] h)
def uw(C:CC)(b:Nat)(h:Hp)(a c:V)(q:kQ):=let h:Hp:=h++So 0 ah
 ba a λd=>lp (DT C b a) [] h [c,d] h (aU [((.exit 0),λc h=>bnd (ft .u32 (ge c 0)) λd=>ak .geq (ge c 1) (I 4) λe=>jn (λc h=>ak .geq (ge c 1) (I 2) λd=>jn (λc h=>ak .gtr (ge c 1) (I 0) λd=>jn (λa h=>q (.tup []) h) λe=>aQ d (ak .add (.d (.int .u32 48)) (ge c 0) λc=>bnd (ft .u8 c) λc=>aT h 1 a (I 0) λa=>aS h 1 a c λ_ h=>e [] h) (e [] h)) λe=>aQ d (ak .rem (ge c 0) (.d (.int .u32 100)) λd=>ak .mul d (.d (.int .u32 2)) λd=>ak .quo (ge c 0) (.d (.int .u32 100)) λf=>ak .sub (ge c 1) (I 1) λg=>ak .sub (ge c 1) (I 2) λi=>ak .add d (.d (.int .u32 1)) λj=>bnd (fF (.d (.str [48,48,48,49,48,50,48,51,48,52,48,53,48,54,48,55,48,56,48,57,49,48,49,49,49,50,49,51,49,52,49,53,49,54,49,55,49,56,49,57,50,48,50,49,50,50,50,51,50,52,50,53,50,54,50,55,50,56,50,57,51,48,51,49,51,50,51,51,51,52,51,53,51,54,51,55,51,56,51,57,52,48,52,49,52,50,52,51,52,52,52,53,52,54,52,55,52,56,52,57,53,48,53,49,53,50,53,51,53,52,53,53,53,54,53,55,53,56,53,57,54,48,54,49,54,50,54,51,54,52,54,53,54,54,54,55,54,56,54,57,55,48,55,49,55,50,55,51,55,52,55,53,55,54,55,55,55,56,55,57,56,48,56,49,56,50,56,51,56,52,56,53,56,54,56,55,56,56,56,57,57,48,57,49,57,50,57,51,57,52,57,53,57,54,57,55,57,56,57,57])) j) λj=>bnd (fF (.d (.str [48,48,48,49,48,50,48,51,48,52,48,53,48,54,48,55,48,56,48,57,49,48,49,49,49,50,49,51,49,52,49,53,49,54,49,55,49,56,49,57,50,48,50,49,50,50,50,51,50,52,50,53,50,54,50,55,50,56,50,57,51,48,51,49,51,50,51,51,51,52,51,53,51,54,51,55,51,56,51,57,52,48,52,49,52,50,52,51,52,52,52,53,52,54,52,55,52,56,52,57,53,48,53,49,53,50,53,51,53,52,53,53,53,54,53,55,53,56,53,57,54,48,54,49,54,50,54,51,54,52,54,53,54,54,54,55,54,56,54,57,55,48,55,49,55,50,55,51,55,52,55,53,55,54,55,55,55,56,55,57,56,48,56,49,56,50,56,51,56,52,56,53,56,54,56,55,56,56,56,57,57,48,57,49,57,50,57,51,57,52,57,53,57,54,57,55,57,56,57,57])) d) λd=>aT h 1 a g λg=>aS h 1 g j λ_ h=>aT h 1 a i λa=>aS h 1 a d λ_ h=>ak .sub (ge c 1) (I 2) λa=>e [f,a] h) (e [ge c 0,ge c 1] h)) λf=>aQ e (ak .rem d (.d (.int .u32 10000)) λe=>ak .quo d (.d (.int .u32 10000)) λd=>ak .quo e (.d (.int .u32 100)) λg=>ak .mul g (.d (.int .u32 2)) λg=>ak .rem e (.d (.int .u32 100)) λe=>ak .mul e (.d (.int .u32 2)) λe=>ak .sub (ge c 1) (I 1) λi=>ak .sub (ge c 1) (I 2) λj=>ak .add e (.d (.int .u32 1)) λk=>bnd (fF (.d (.str [48,48,48,49,48,50,48,51,48,52,48,53,48,54,48,55,48,56,48,57,49,48,49,49,49,50,49,51,49,52,49,53,49,54,49,55,49,56,49,57,50,48,50,49,50,50,50,51,50,52,50,53,50,54,50,55,50,56,50,57,51,48,51,49,51,50,51,51,51,52,51,53,51,54,51,55,51,56,51,57,52,48,52,49,52,50,52,51,52,52,52,53,52,54,52,55,52,56,52,57,53,48,53,49,53,50,53,51,53,52,53,53,53,54,53,55,53,56,53,57,54,48,54,49,54,50,54,51,54,52,54,53,54,54,54,55,54,56,54,57,55,48,55,49,55,50,55,51,55,52,55,53,55,54,55,55,55,56,55,57,56,48,56,49,56,50,56,51,56,52,56,53,56,54,56,55,56,56,56,57,57,48,57,49,57,50,57,51,57,52,57,53,57,54,57,55,57,56,57,57])) k) λk=>bnd (fF (.d (.str [48,48,48,49,48,50,48,51,48,52,48,53,48,54,48,55,48,56,48,57,49,48,49,49,49,50,49,51,49,52,49,53,49,54,49,55,49,56,49,57,50,48,50,49,50,50,50,51,50,52,50,53,50,54,50,55,50,56,50,57,51,48,51,49,51,50,51,51,51,52,51,53,51,54,51,55,51,56,51,57,52,48,52,49,52,50,52,51,52,52,52,53,52,54,52,55,52,56,52,57,53,48,53,49,53,50,53,51,53,52,53,53,53,54,53,55,53,56,53,57,54,48,54,49,54,50,54,51,54,52,54,53,54,54,54,55,54,56,54,57,55,48,55,49,55,50,55,51,55,52,55,53,55,54,55,55,55,56,55,57,56,48,56,49,56,50,56,51,56,52,56,53,56,54,56,55,56,56,56,57,57,48,57,49,57,50,57,51,57,52,57,53,57,54,57,55,57,56,57,57])) e) λe=>aT h 1 a i λi=>aS h 1 i k λ_ h=>aT h 1 a j λi=>aS h 1 i e λ_ h=>ak .sub (ge c 1) (I 3) λe=>ak .sub (ge c 1) (I 4) λi=>ak .add g (.d (.int .u32 1)) λj=>bnd (fF (.d (.str [48,48,48,49,48,50,48,51,48,52,48,53,48,54,48,55,48,56,48,57,49,48,49,49,49,50,49,51,49,52,49,53,49,54,49,55,49,56,49,57,50,48,50,49,50,50,50,51,50,52,50,53,50,54,50,55,50,56,50,57,51,48,51,49,51,50,51,51,51,52,51,53,51,54,51,55,51,56,51,57,52,48,52,49,52,50,52,51,52,52,52,53,52,54,52,55,52,56,52,57,53,48,53,49,53,50,53,51,53,52,53,53,53,54,53,55,53,56,53,57,54,48,54,49,54,50,54,51,54,52,54,53,54,54,54,55,54,56,54,57,55,48,55,49,55,50,55,51,55,52,55,53,55,54,55,55,55,56,55,57,56,48,56,49,56,50,56,51,56,52,56,53,56,54,56,55,56,56,56,57,57,48,57,49,57,50,57,51,57,52,57,53,57,54,57,55,57,56,57,57])) j) λj=>bnd (fF (.d (.str [48,48,48,49,48,50,48,51,48,52,48,53,48,54,48,55,48,56,48,57,49,48,49,49,49,50,49,51,49,52,49,53,49,54,49,55,49,56,49,57,50,48,50,49,50,50,50,51,50,52,50,53,50,54,50,55,50,56,50,57,51,48,51,49,51,50,51,51,51,52,51,53,51,54,51,55,51,56,51,57,52,48,52,49,52,50,52,51,52,52,52,53,52,54,52,55,52,56,52,57,53,48,53,49,53,50,53,51,53,52,53,53,53,54,53,55,53,56,53,57,54,48,54,49,54,50,54,51,54,52,54,53,54,54,54,55,54,56,54,57,55,48,55,49,55,50,55,51,55,52,55,53,55,54,55,55,55,56,55,57,56,48,56,49,56,50,56,51,56,52,56,53,56,54,56,55,56,56,56,57,57,48,57,49,57,50,57,51,57,52,57,53,57,54,57,55,57,56,57,57])) g) λg=>aT h 1 a e λe=>aS h 1 e j λ_ h=>aT h 1 a i λa=>aS h 1 a g λ_ h=>ak .sub (ge c 1) (I 4) λa=>f [d,a] h) (f [d,ge c 1] h))])
def MP(b:Nat):cr:=(.n .x .o (.n .x (.n .x (.n (.l [1,4] [0] [((.exit 0),[1,4],[0])] []) .o .o) .o) (.n .x .o (.n .x (.n .x .o (.n (.j [12,4] [0]) .o .o)) (.n .x (.n .x .o (.n (.j [12,4] [0]) .o .o)) (.n .x .o (.n (.j [] []) .o .o)))))))
theorem akY(C:CC)(h:Hp)(t0:V)(t1:V)(q:bG):iB Y C Tryz.f209 0 MP [t0,t1] h q=uw C (RW h) h t0 t1 q:=by rfl
theorem akW(b:Nat):okB Tryz.prog Tryz.f209 (MP b)=Th:=by rfl
theorem akX(hh:uw DA (RW h) h t0 t1 (fA (RW h) v h2)):CI Y F.uw [t0,t1] h v h2:=
 CI.of (fn:=Tryz.f209) (m:=0) (a:=MP) rfl (λ_=>rfl) func209 (akW _) (by rw[akY];exact hh)
def BA(C:CC)(a:V)(q:kQ):=let h:Hp:=[]
 ak .mul a (I 78913) λa=>ak .shr a (.d (.int .u64 18)) λa=>q a h
theorem akV(h:BA DA t0 (out v)):Ds F.BA [t0] v:=aR 0 .o func214 h
def BB(C:CC)(a:V)(q:kQ):=let h:Hp:=[]
 aQ a (q (I 1) h) (q (I 0) h)
theorem akZ(h:BB DA t0 (out v)):Ds F.BB [t0] v:=aR 0 .o func215 h
def ui(C:CC)(a:V)(q:kQ):=let h:Hp:=[]
 ak .geq a (.d (.int .u64 4294967296)) λc=>jn (λa h=>ak .geq (ge a 0) (.d (.int .u64 65536)) λc=>jn (λa h=>ak .geq (ge a 0) (.d (.int .u64 256)) λc=>jn (λa h=>bnd (ft .u8 (ge a 0)) λc=>bnd (fF (.d (.str [0,1,2,2,3,3,3,3,4,4,4,4,4,4,4,4,5,5,5,5,5,5,5,5,5,5,5,5,5,5,5,5,6,6,6,6,6,6,6,6,6,6,6,6,6,6,6,6,6,6,6,6,6,6,6,6,6,6,6,6,6,6,6,6,7,7,7,7,7,7,7,7,7,7,7,7,7,7,7,7,7,7,7,7,7,7,7,7,7,7,7,7,7,7,7,7,7,7,7,7,7,7,7,7,7,7,7,7,7,7,7,7,7,7,7,7,7,7,7,7,7,7,7,7,7,7,7,7,8,8,8,8,8,8,8,8,8,8,8,8,8,8,8,8,8,8,8,8,8,8,8,8,8,8,8,8,8,8,8,8,8,8,8,8,8,8,8,8,8,8,8,8,8,8,8,8,8,8,8,8,8,8,8,8,8,8,8,8,8,8,8,8,8,8,8,8,8,8,8,8,8,8,8,8,8,8,8,8,8,8,8,8,8,8,8,8,8,8,8,8,8,8,8,8,8,8,8,8,8,8,8,8,8,8,8,8,8,8,8,8,8,8,8,8,8,8,8,8,8,8,8,8,8,8,8,8])) c) λc=>bnd (ft .i64 c) λc=>ak .add (ge a 1) c λa=>q a h) λd=>aQ c (ak .shr (ge a 0) (.d (.int .u64 8)) λc=>ak .add (ge a 1) (I 8) λa=>d [c,a] h) (d [ge a 0,ge a 1] h)) λd=>aQ c (ak .shr (ge a 0) (.d (.int .u64 16)) λc=>ak .add (ge a 1) (I 16) λa=>d [c,a] h) (d [ge a 0,ge a 1] h)) λd=>aQ c (ak .shr a (.d (.int .u64 32)) λa=>d [a,I 32] h) (d [a,I 0] h)
theorem ai3(h:ui DA t0 (out v)):Ds F.ui [t0] v:=aR 0 (aP (bJ (aP (hO [0,2] [])) (bJ (aP (hO [0,2] [])) (aB (aP (hO [0,2] [])))))) func204 h
def Bh(C:CC)(a c:V)(q:kQ):=let h:Hp:=[]
 aQ (B SM) (bnd (ft .u32 a) λa=>bnd (ft .u32 c) λc=>ai C h F.ai1 [a,c] λa h=>bW a λa c=>bnd (ft .u64 a) λa=>bnd (ft .u64 c) λc=>q (.tup [a,c]) h) (ai C h F.qU [a,c] λa h=>bW a λa c=>q (.tup [a,c]) h)
theorem ai0(h:Bh DA t0 t1 (out v)):Ds F.Bh [t0,t1] v:=aR 0 .o func187 h
def qU(C:CC)(a c:V)(q:bG):Prop:=let h:Hp:=So 0 ah
 bnd (aD .and a (.d (.int .u64 4294967295))) λd=>bnd (aD .shr a (.d (.int .u64 32))) λe=>bnd (aD .and c (.d (.int .u64 4294967295))) λf=>bnd (aD .shr c (.d (.int .u64 32))) λg=>bnd (aD .mul d f) λi=>bnd (aD .mul e f) λf=>bnd (aD .shr i (.d (.int .u64 32))) λi=>bnd (aD .add f i) λf=>bnd (aD .and f (.d (.int .u64 4294967295))) λi=>bnd (aD .shr f (.d (.int .u64 32))) λf=>bnd (aD .mul d g) λd=>bnd (aD .add i d) λd=>bnd (aD .mul e g) λe=>bnd (aD .add e f) λe=>bnd (aD .shr d (.d (.int .u64 32))) λd=>bnd (aD .add e d) λd=>bnd (aD .mul a c) λa=>q (.tup [d,a]) h
theorem Ug(h:qU DA t0 t1 (out v)):Ds F.qU [t0,t1] v:=aR 0 .o func185 h
def strconv_Atoi(C:CC)(a:V)(q:kQ):=let h:Hp:=[]
 ai C h F.wH [a] λc h=>bW c λc d=>bnd (pI .neq d (.d (.pl .nilIface))) λe=>aQ e (ai C h F.ad0 [(.d (.str [65,116,111,105])),a,I 0,I 0,d] λa h=>q (.tup [c,a]) h) (q (.tup [c,(.d (.pl .nilIface))]) h)
theorem Qw(h:strconv_Atoi DA t0 (out v)):Ds F.strconv_Atoi [t0] v:=aR 0 .o func142 h
def HT(C:CC)(a c:V):bK:=λl h q=>aY .lss (ge l 1) c (aT h 1 a (ge l 1) λa=>aF h a λa=>ak .sub a (.d (.int .u8 48)) λa=>aY .gtr a (.d (.int .u8 9)) (False /- makeInterface -/) (ak .mul (ge l 0) (I 10) λc=>bnd (ft .i64 a) λa=>ak .add c a λa=>ak .add (ge l 1) (I 1) λc=>q .normal [a,c] h)) (q (.exit 0) [ge l 0] h)
def wH(C:CC)(a:V)(q:kQ):=let h:Hp:=[]
 bnd (fv a) λc=>gd (B SM) Th h (λq=>q c h) λd h=>gd (B SM) Th h (λq=>ak .lss (I 0) d λv=>q v h) λd h=>gd (B SM) Th h (λq=>q d h) λd h=>bH d Th h c λe h=>aN d Th h (aD .lss e (I 10)) λe h=>gd (B SM) Th h (λq=>cG d e (B SM) λv=>q v h) λd h=>cG (B SM) d (B SM) λd=>bH d SM h (B Th) λe h=>bH e Th h c λf h=>aN e Th h (aD .lss (I 0) f) λf h=>bH e Th h f λf h=>bH f Th h c λc h=>aN f Th h (aD .lss c (I 19)) λc h=>aN e Th h (kU f c (B SM)) λc h=>aN d SM h (kU e c (B SM)) λc h=>cG d (B Th) c λc=>aQ c (bnd (fF a (I 0)) λc=>ak .eql c (.d (.int .u8 45)) λc=>bH c SM h a λd h=>aN c SM h (fF d (I 0)) λd h=>aN c SM h (aD .eql d (.d (.int .u8 43))) λd h=>cG c (B Th) d λc=>jn (λc h=>oG (ge c 0) h λc h=>ba c λd=>lp (HT C c d) [] h [I 0,I 0] h (aU [((.exit 0),λc h=>bnd (fF a (I 0)) λa=>ak .eql a (.d (.int .u8 45)) λa=>jn (λa h=>q (.tup [ge a 0,(.d (.pl .nilIface))]) h) λd=>aQ a (bnd (gL .neg (ge c 0)) λa=>d [a] h) (d [ge c 0] h)),(.ret,λa h=>q (.tup [ge a 0,ge a 1]) h)])) λd=>aQ c (bnd (nB a (Wf (I 1)) Vc) λa=>bnd (fv a) λc=>aY .lss c (I 1) (False /- makeInterface -/) (d [a] h)) (d [a] h)) (ai C h F.ak0 [a,I 10,I 0] λa h=>bW a λa c=>q (.tup [a,c]) h)
theorem VU(h:wH DA t0 (out v)):Ds F.wH [t0] v:=aR 0 (cM (aB (aP (aB (aP (bJ (aP (hO [0] [5])) (aP (bJ (aP (aB (.n (.l [6,49] [5,47,48] [((.exit 0),[6],[5]),(.ret,[2,3],[])] []) .o .o))) (aB (aP (hO [6] []))))))))))) func177 h
def BX(C:CC)(a c:V):bK:=λl h q=>aY .lss (ge l 0) c (aT h 1 a (ge l 0) λa=>aF h a λa=>ak .lss a (.d (.int .u8 48)) λc=>bH c SM h a λa h=>aN c SM h (aD .gtr a (.d (.int .u8 57))) λa h=>cG c (B Th) a λa=>aQ a (q .ret [B SM] h) (ak .add (ge l 0) (I 1) λa=>q .normal [a] h)) (q (.exit 0) [] h)
def BY(C:CC)(a:V)(q:kQ):=let h:Hp:=[]
 oG a h λc h=>ba c λd=>lp (BX C c d) [] h [I 0] h (aU [((.exit 0),λc h=>bnd (fv a) λc=>ak .eql c (I 1) λc=>bH c SM h a λd h=>aN c SM h (fv d) λd h=>aN c SM h (aD .gtr d (I 1)) λd h=>bH c SM h d λd h=>bH d Th h a λa h=>aN d Th h (fF a (I 0)) λa h=>aN d Th h (aD .neq a (.d (.int .u8 48))) λa h=>aN c SM h (kU d a (B SM)) λa h=>cG c (B Th) a λa=>q a h),(.ret,λa h=>q (ge a 0) h)])
theorem anS(h:BY DA t0 (out v)):Ds F.BY [t0] v:=aR 0 (aP (aB (aP (aB (.n (.l [8] [0,6,7] [((.exit 0),[],[0]),(.ret,[2],[])] []) .o .o))))) func176 h
def ze(C:CC)(a:V)(q:kQ):=let h:Hp:=[]
 ai C h F.BY [a] λc h=>bnd (gL .not c) λc=>bH c SM h a λa h=>aN c SM h (fv a) λa h=>aN c SM h (aD .gtr a (I 400)) λa h=>cG c (B Th) a λa=>aQ a (q (I 2) h) (q (I 0) h)
theorem anR(h:ze DA t0 (out v)):Ds F.ze [t0] v:=aR 0 .o func139 h
def uK(C:CC)(b:Nat):bK:=λl h q=>ba (ge l 0) λa=>ak .gtr a (I 0) λa=>bH a Th h (ge l 0) λc h=>bH a Th h (ge l 0) λd h=>aN a Th h (bh d) λd h=>aN a Th h (aD .sub d (I 1)) λd h=>aN a Th h (bC h 1 c d) λc h=>aN a Th h (ld1 h c) λc h=>aN a Th h (aD .eql c (.d (.int .u64 0))) λc h=>cG a c (B SM) λa=>aQ a (ba (ge l 0) λa=>ak .sub a (I 1) λa=>bnd (gU h 1 (ge l 0) Vc (Wf a)) λa=>q .normal [a] h) (q (.exit 0) [ge l 0] h)
def kD(C:CC)(b:Nat)(h:Hp)(a:V)(q:kQ):=let h:Hp:=h++So 0 ah
 lp (uK C b) [] h [a] h (aU [((.exit 0),λa h=>q (ge a 0) h)])
def NG(b:Nat):cr:=(.n .x .o (.n .x (.n .x (.n (.l [0] [] [((.exit 0),[0],[])] []) .o .o) .o) .o))
theorem ane(C:CC)(h:Hp)(t0:V)(q:bG):iB Y C Tryz.f151 0 NG [t0] h q=kD C (RW h) h t0 q:=by rfl
theorem anc(b:Nat):okB Tryz.prog Tryz.f151 (NG b)=Th:=by rfl
theorem ZO(hh:kD DA (RW h) h t0 (fA (RW h) v h2)):CI Y F.kD [t0] h v h2:=
 CI.of (fn:=Tryz.f151) (m:=0) (a:=NG) rfl (λ_=>rfl) func151 (anc _) (by rw[ane];exact hh)
def IG(C:CC)(b:Nat)(a c:V):bK:=λl h q=>aY .lss (ge l 1) c (aT h 1 a (ge l 1) λa=>aF h a λa=>ak .mul (.d (.int .u64 10)) (ge l 0) λc=>ak .sub a (.d (.int .u8 48)) λa=>bnd (ft .u64 a) λa=>ak .add c a λa=>ak .add (ge l 1) (I 1) λc=>q .normal [a,c] h) (q (.exit 2) [ge l 0] h)
def IH(C:CC)(b:Nat)(a:V):bK:=λl h q=>aY .gtr (ge l 1) (I 0) (ak .sub (ge l 1) (I 9) λc=>bnd (gk Th [I 0,c]) λc=>bnd (nB a (Wf c) (Wf (ge l 1))) λa=>oG a h λa h=>ba a λc=>lp (IG C b a c) [] h [(.d (.int .u64 0)),I 0] h (aU [((.exit 2),λa h=>cx 1 [.int .u64 0] [(0,(ge a 0))] h λa h=>cV SM (b+1) 1 8 (ge l 0) a h λa h=>ak .sub (ge l 1) (I 9) λc=>q .normal [a,c] h)])) (q (.exit 0) [ge l 0] h)
def mL(C:CC)(b:Nat)(h:Hp)(a:V)(q:kQ):=let h:Hp:=h++So 3 ah
 bnd (fv a) λc=>ak .quo c (I 9) λc=>ak .add c (I 1) λc=>fS (b+0) 8 [.int .u64 0] h (I 0) c λc h=>bnd (fv a) λd=>lp (IH C b a) [] h [c,d] h (aU [((.exit 0),λa h=>d7 C h F.kD [ge a 0] (b+2) q)])
def NN(b:Nat):cr:=(.n .x .o (.n .x (.n (.r [.slot (b+0)]) .o .o) (.n .x (.n .x .o (.n .x (.n (.l [3,4] [0] [((.exit 0),[3],[])] []) (.n .x .o (.n .x (.n .x (.n .x .o (.n .x (.n .x .o (.n .x (.n (.l [5,27] [0,3,4,25,26] [((.exit 2),[5],[0,3,4])] []) .o .o) .o)) (.n (.r [.o,.slot (b+1)]) .o .o))) .o) .o)) .o) .o)) (.n .x (.n (.r [.inl (b+2)]) .o .o) .o))))
theorem anA(C:CC)(h:Hp)(t0:V)(q:bG):iB Y C Tryz.f145 3 NN [t0] h q=mL C (RW h) h t0 q:=by rfl
theorem anx(b:Nat):okB Tryz.prog Tryz.f145 (NN b)=Th:=by rfl
theorem anz(hh:mL DA (RW h) h t0 (fA (RW h) v h2)):CI Y F.mL [t0] h v h2:=
 CI.of (fn:=Tryz.f145) (m:=3) (a:=NN) rfl (λ_=>rfl) func145 (anx _) (by rw[anA];exact hh)
def CM(C:CC)(b:Nat)(a:V):bK:=λl h q=>aY .lss (ge l 0) (ge l 1) (aT h 1 a (ge l 1) λc=>aF h c λc=>aT h 1 a (ge l 0) λd=>aF h d λd=>aT h 1 a (ge l 0) λe=>aS h 1 e c λ_ h=>aT h 1 a (ge l 1) λa=>aS h 1 a d λ_ h=>ak .add (ge l 0) (I 1) λa=>ak .sub (ge l 1) (I 1) λc=>q .normal [a,c] h) (q (.exit 0) [] h)
def vr(C:CC)(b:Nat)(h:Hp)(a:V)(q:kQ):=let h:Hp:=h++So 0 ah
 ba a λc=>ak .sub c (I 1) λc=>lp (CM C b a) [] h [I 0,c] h (aU [((.exit 0),λa h=>q (.tup []) h)])
def Kn(b:Nat):cr:=(.n .x .o (.n .x (.n (.l [2,3] [0] [((.exit 0),[],[])] []) .o .o) .o))
theorem aeN(C:CC)(h:Hp)(t0:V)(q:bG):iB Y C Tryz.f181 0 Kn [t0] h q=vr C (RW h) h t0 q:=by kernel_rfl
theorem aeL(b:Nat):okB Tryz.prog Tryz.f181 (Kn b)=Th:=of_decide_eq_true aJ
theorem aeM(hh:vr DA (RW h) h t0 (fA (RW h) v h2)):CI Y F.vr [t0] h v h2:=
 CI.of (fn:=Tryz.f181) (m:=0) (a:=Kn) rfl (λ_=>rfl) func181 (aeL _) (by rw[aeN];exact hh)
def zb(C:CC)(a c:V):bK:=λl h q=>ak .lss (ge l 2) (I 9) λd=>bH d Th h c λc h=>aN d Th h (aD .add c (I 1)) λc h=>bH d Th h a λa h=>aN d Th h (bh a) λa h=>aN d Th h (aD .lss c a) λa h=>bH d Th h a λa h=>bH a SM h (ge l 1) λc h=>aN a SM h (aD .gtr c (.d (.int .u64 0))) λc h=>aN d Th h (kU a (B Th) c) λa h=>cG d a (B SM) λa=>aQ a (ak .rem (ge l 1) (.d (.int .u64 10)) λa=>ak .add (.d (.int .u64 48)) a λa=>bnd (ft .u8 a) λa=>cx 1 [.int .u8 0] [(0,a)] h λa h=>cV SM 1 1 1 (ge l 0) a h λa h=>ak .quo (ge l 1) (.d (.int .u64 10)) λc=>ak .add (ge l 2) (I 1) λd=>q .normal [a,c,d] h) (q (.exit 2) [ge l 0] h)
def ID(C:CC)(a c d:V):bK:=λl h q=>aY .lss (ge l 1) d (aT h 1 c (ge l 1) λc=>aF h c λc=>lp (zb C a (ge l 1)) [] h [ge l 0,c,I 0] h (aU [((.exit 2),λa h=>ak .add (ge l 1) (I 1) λc=>q .normal [ge a 0,c] h)])) (q (.exit 0) [ge l 0] h)
def nN(C:CC)(a:V)(q:kQ):=let h:Hp:=.replicate 3 ah
 ba a λc=>aY .eql c (I 0) (q (.d (.str [48])) h) (ba a λc=>ak .mul (I 9) c λc=>fS 0 1 [.int .u8 0] h (I 0) c λc h=>ba a λd=>lp (ID C a a d) [] h [c,I 0] h (aU [((.exit 0),λa h=>d7 C h F.vr [ge a 0] 2 λc h=>bnd (nP h (ge a 0)) λa=>q a h)]))
theorem ani(h:nN DA t0 (out v)):Ds F.nN [t0] v:=aR 3 (cM (bJ (aV [.slot 0]) (bJ (aP (aB (.n (.l [3,16] [0,14,15] [((.exit 0),[3],[])] []) (cM (aB (aB (cM (aB (.n (.l [3,5,6] [0,4,14,15,16] [((.exit 2),[3],[0,14,15,16])] []) (aP (aB (aB (aB (aV [.o,.slot 1]))))) .o)))))) .o))) (aB (aV [.inl 2]))))) func148 h
def BV(C:CC)(a c:V):bK:=λl h q=>aY .geq (ge l 0) (I 0) (aT h 1 a (ge l 0) λd=>aF h d λd=>aT h 1 c (ge l 0) λe=>aF h e λe=>aY .lss d e (q .ret [I (-1)] h) (aT h 1 a (ge l 0) λa=>aF h a λa=>aT h 1 c (ge l 0) λc=>aF h c λc=>aY .gtr a c (q .ret [I 1] h) (ak .sub (ge l 0) (I 1) λa=>q .normal [a] h))) (q (.exit 0) [] h)
def wX(C:CC)(a c:V)(q:kQ):=let h:Hp:=[]
 ba a λd=>ba c λe=>aY .neq d e (ba a λa=>ba c λc=>ak .sub a c λa=>bnd (gk Th [I (-1),a]) λa=>bnd (gk SM [I 1,a]) λa=>q a h) (ba a λd=>ak .sub d (I 1) λd=>lp (BV C a c) [] h [d] h (aU [((.exit 0),λa h=>q (I 0) h),(.ret,λa h=>q (ge a 0) h)]))
theorem ant(h:wX DA t0 t1 (out v)):Ds F.wX [t0,t1] v:=aR 0 (cM (aB (aP (aB (.n (.l [5] [0,1] [((.exit 0),[],[]),(.ret,[4],[])] []) .o .o))))) func146 h
def IB(C:CC)(b:Nat)(a c d e f:V):bK:=λl h q=>aY .lss (ge l 1) f (aT h 1 e (ge l 1) λe=>aF h e λe=>ak .add c (ge l 1) λf=>aT h 1 a f λf=>aF h f λf=>ak .mul d e λd=>ak .add f d λd=>ak .add (ge l 0) d λd=>ak .add c (ge l 1) λc=>ak .rem d (.d (.int .u64 1000000000)) λe=>aT h 1 a c λa=>aS h 1 a e λ_ h=>ak .quo d (.d (.int .u64 1000000000)) λa=>ak .add (ge l 1) (I 1) λc=>q .normal [a,c] h) (q (.exit 2) [ge l 0] h)
def IC(C:CC)(b:Nat)(a c d e:V):bK:=λl h q=>aY .lss (ge l 0) e (aT h 1 d (ge l 0) λd=>aF h d λd=>ba a λe=>lp (IB C b c (ge l 0) d a e) [] h [(.d (.int .u64 0)),I 0] h (aU [((.exit 2),λd h=>ba a λa=>ak .add (ge l 0) a λa=>aT h 1 c a λa=>aS h 1 a (ge d 0) λ_ h=>ak .add (ge l 0) (I 1) λa=>q .normal [a] h)])) (q (.exit 0) [] h)
def rt(C:CC)(b:Nat)(h:Hp)(a c:V)(q:kQ):=let h:Hp:=h++So 2 ah
 ba a λd=>ba c λe=>ak .add d e λd=>fS (b+0) 8 [.int .u64 0] h d d λd h=>ba a λe=>lp (IC C b c d a e) [] h [I 0] h (aU [((.exit 0),λa h=>d7 C h F.kD [d] (b+1) q)])
def NH(b:Nat):cr:=(.n .x .o (.n .x (.n (.r [.slot (b+0)]) .o .o) (.n .x (.n .x .o (.n .x (.n (.l [19] [1,5,17,18] [((.exit 0),[],[5])] []) (.n .x .o (.n .x .o (.n .x (.n .x (.n .x .o (.n .x .o (.n .x (.n .x .o (.n .x (.n (.l [8,26] [1,5,6,7,17,18,19,24,25] [((.exit 2),[8],[1,5,6,17,18,19])] []) .o .o) .o)) .o))) .o) .o))) .o) .o)) (.n .x (.n (.r [.inl (b+1)]) .o .o) .o))))
theorem anh(C:CC)(h:Hp)(t0:V)(t1:V)(q:bG):iB Y C Tryz.f153 2 NH [t0,t1] h q=rt C (RW h) h t0 t1 q:=by rfl
theorem anf(b:Nat):okB Tryz.prog Tryz.f153 (NH b)=Th:=by rfl
theorem ang(hh:rt DA (RW h) h t0 t1 (fA (RW h) v h2)):CI Y F.rt [t0,t1] h v h2:=
 CI.of (fn:=Tryz.f153) (m:=2) (a:=NH) rfl (λ_=>rfl) func153 (anf _) (by rw[anh];exact hh)
def uL(C:CC)(b:Nat)(h:Hp)(a c:V)(q:kQ):=let h:Hp:=h++So 2 ah
 cx 1 [.int .u64 0] [(0,c)] h λc h=>d7 C h F.kD [c] (b+0) λc h=>d7 C h F.rt [a,c] (b+1) q
def NJ(b:Nat):cr:=(.n .x .o (.n .x (.n (.r [.o,.inl (b+0),.inl (b+1)]) .o .o) .o))
theorem anp(C:CC)(h:Hp)(t0:V)(t1:V)(q:bG):iB Y C Tryz.f182 2 NJ [t0,t1] h q=uL C (RW h) h t0 t1 q:=by rfl
theorem ann(b:Nat):okB Tryz.prog Tryz.f182 (NJ b)=Th:=by rfl
theorem ano(hh:uL DA (RW h) h t0 t1 (fA (RW h) v h2)):CI Y F.uL [t0,t1] h v h2:=
 CI.of (fn:=Tryz.f182) (m:=2) (a:=NJ) rfl (λ_=>rfl) func182 (ann _) (by rw[anp];exact hh)
def IE(C:CC)(a c d:V):bK:=λl h q=>aY .geq (ge l 1) (I 0) (ak .mul (ge l 0) (.d (.int .u64 1000000000)) λe=>aT h 1 a (ge l 1) λa=>aF h a λa=>ak .add e a λa=>ak .quo a c λe=>aT h 1 d (ge l 1) λd=>aS h 1 d e λ_ h=>ak .rem a c λa=>ak .sub (ge l 1) (I 1) λc=>q .normal [a,c] h) (q (.exit 0) [ge l 0] h)
def wW(C:CC)(a c:V)(q:kQ):=let h:Hp:=.replicate 2 ah
 ba a λd=>fS 0 8 [.int .u64 0] h d d λd h=>ba a λe=>ak .sub e (I 1) λe=>lp (IE C a c d) [] h [(.d (.int .u64 0)),e] h (aU [((.exit 0),λa h=>d7 C h F.kD [d] 1 λc h=>q (.tup [c,ge a 0]) h)])
theorem anm(h:wW DA t0 t1 (out v)):Ds F.wW [t0,t1] v:=aR 2 (aP (bJ (aV [.slot 0]) (aP (bJ (aP (aB (.n (.l [7,8] [0,1,6] [((.exit 0),[7],[6])] []) .o .o))) (aB (aV [.inl 1])))))) func147 h
def Eg(C:CC)(b:Nat)(a c d e:V):bK:=λl h q=>ba c λf=>aY .leq (ge l 2) f (ba c λf=>ak .lss (ge l 2) f λf=>jn (λc h=>ak .add e (ge l 2) λd=>aT h 1 a d λd=>aF h d λd=>bnd (ft .i64 d) λd=>ak .rem (ge c 0) (.d (.int .u64 1000000000)) λf=>bnd (ft .i64 f) λf=>ak .sub d f λd=>ak .sub d (ge l 1) λd=>ak .quo (ge c 0) (.d (.int .u64 1000000000)) λc=>ak .lss d (I 0) λf=>jn (λd h=>ak .add e (ge l 2) λe=>bnd (ft .u64 (ge d 0)) λf=>aT h 1 a e λa=>aS h 1 a f λ_ h=>ak .add (ge l 2) (I 1) λa=>q .normal [c,ge d 1,a] h) λa=>aQ f (ak .add d (I 1000000000) λc=>a [c,I 1] h) (a [d,I 0] h)) λa=>aQ f (aT h 1 c (ge l 2) λc=>aF h c λc=>ak .mul d c λc=>ak .add (ge l 0) c λc=>a [c] h) (a [ge l 0] h)) (q (.exit 0) [ge l 1] h)
def wV(C:CC)(b:Nat)(h:Hp)(a c d e:V)(q:kQ):=let h:Hp:=h++So 0 ah
 lp (Eg C b a c d e) [] h [(.d (.int .u64 0)),I 0,I 0] h (aU [((.exit 0),λa h=>ak .gtr (ge a 0) (I 0) λa=>q a h)])
def NI(b:Nat):cr:=(.n .x .o (.n .x .o (.n .x .o (.n .x (.n .x .o (.n .x (.n (.l [10,9,11] [0,1,2,3] [((.exit 0),[9],[])] []) (.n .x .o (.n .x (.n .x (.n .x (.n .x .o (.n (.j [10] [0,1,2,3,9,11]) .o .o)) (.n .x .o (.n .x .o (.n .x .o (.n .x (.n .x .o (.n (.j [12,9] [0,1,2,3,10,11]) .o .o)) .o))))) .o) .o)) .o) .o)) .o))))
theorem anl(C:CC)(h:Hp)(t0:V)(t1:V)(t2:V)(t3:V)(q:bG):iB Y C Tryz.f152 0 NI [t0,t1,t2,t3] h q=wV C (RW h) h t0 t1 t2 t3 q:=by rfl
theorem anj(b:Nat):okB Tryz.prog Tryz.f152 (NI b)=Th:=by rfl
theorem ank(hh:wV DA (RW h) h t0 t1 t2 t3 (fA (RW h) v h2)):CI Y F.wV [t0,t1,t2,t3] h v h2:=
 CI.of (fn:=Tryz.f152) (m:=0) (a:=NI) rfl (λ_=>rfl) func152 (anj _) (by rw[anl];exact hh)
def IF(C:CC)(b:Nat)(a c d:V):bK:=λl h q=>ba c λe=>aY .leq (ge l 1) e (ak .add d (ge l 1) λe=>aT h 1 a e λe=>aF h e λe=>ak .add (ge l 0) e λe=>ba c λf=>ak .lss (ge l 1) f λf=>jn (λc h=>ak .add d (ge l 1) λd=>ak .rem (ge c 0) (.d (.int .u64 1000000000)) λe=>aT h 1 a d λa=>aS h 1 a e λ_ h=>ak .quo (ge c 0) (.d (.int .u64 1000000000)) λa=>ak .add (ge l 1) (I 1) λc=>q .normal [a,c] h) λa=>aQ f (aT h 1 c (ge l 1) λc=>aF h c λc=>ak .add e c λc=>a [c] h) (a [e] h)) (q (.exit 0) [] h)
def uN(C:CC)(b:Nat)(h:Hp)(a c d:V)(q:kQ):=let h:Hp:=h++So 0 ah
 lp (IF C b a c d) [] h [(.d (.int .u64 0)),I 0] h (aU [((.exit 0),λa h=>q (.tup []) h)])
def NM(b:Nat):cr:=(.n .x .o (.n .x .o (.n .x (.n (.l [6,7] [0,1,2] [((.exit 0),[],[])] []) (.n .x .o (.n .x (.n .x (.n .x .o (.n .x (.n .x .o (.n (.j [6] [0,1,2,7]) .o .o)) .o)) .o) .o)) .o) .o)))
theorem anw(C:CC)(h:Hp)(t0:V)(t1:V)(t2:V)(q:bG):iB Y C Tryz.f150 0 NM [t0,t1,t2] h q=uN C (RW h) h t0 t1 t2 q:=by rfl
theorem anu(b:Nat):okB Tryz.prog Tryz.f150 (NM b)=Th:=by rfl
theorem anv(hh:uN DA (RW h) h t0 t1 t2 (fA (RW h) v h2)):CI Y F.uN [t0,t1,t2] h v h2:=
 CI.of (fn:=Tryz.f150) (m:=0) (a:=NM) rfl (λ_=>rfl) func150 (anu _) (by rw[anw];exact hh)
def NK(C:CC)(a:V):bK:=λl h q=>ba (ge l 0) λc=>ba a λa=>aY .leq c a (cx 1 [.int .u64 0] [(0,(.d (.int .u64 0)))] h λa h=>cV SM 3 1 8 (ge l 0) a h λa h=>q .normal [a] h) (q (.exit 0) [ge l 0] h)
def uM(C:CC)(a c d e:V):bK:=λl h q=>ak .geq (ge l 0) (.d (.int .u64 1000000000)) λf=>bH f SM h (ge l 1) λg h=>aN f SM h (aD .lss g (.d (.int .u64 1000000000))) λg h=>bH f SM h g λg h=>bH g Th h (ge l 0) λi h=>bH g Th h c λj h=>bH g Th h d λk h=>aN g Th h (aD .sub k (I 2)) λk h=>aN g Th h (bC h 1 j k) λj h=>aN g Th h (ld1 h j) λj h=>aN g Th h (aD .mul i j) λi h=>bH g Th h (ge l 1) λj h=>aN g Th h (aD .mul j (.d (.int .u64 1000000000))) λj h=>bH g Th h a λa h=>bH g Th h e λe h=>bH g Th h d λk h=>aN g Th h (aD .add e k) λe h=>aN g Th h (aD .sub e (I 2)) λe h=>aN g Th h (bC h 1 a e) λa h=>aN g Th h (ld1 h a) λa h=>aN g Th h (aD .add j a) λa h=>aN g Th h (aD .gtr i a) λa h=>aN f SM h (kU g a (B SM)) λa h=>cG f (B Th) a λa=>aQ a (ak .sub (ge l 0) (.d (.int .u64 1)) λa=>ak .sub d (I 1) λd=>aT h 1 c d λc=>aF h c λc=>ak .add (ge l 1) c λc=>q .normal [a,c] h) (q (.exit 4) [ge l 0] h)
def BU(C:CC)(a c d e:V):bK:=λl h q=>aY .geq (ge l 0) (I 0) (ak .add (ge l 0) d λf=>aT h 1 a f λf=>aF h f λf=>ak .mul f (.d (.int .u64 1000000000)) λf=>ak .add (ge l 0) d λg=>ak .sub g (I 1) λg=>aT h 1 a g λg=>aF h g λg=>ak .add f g λf=>ak .sub d (I 1) λg=>aT h 1 c g λg=>aF h g λg=>ak .quo f g λg=>ak .sub d (I 1) λi=>aT h 1 c i λi=>aF h i λi=>ak .rem f i λf=>lp (uM C a c d (ge l 0)) [] h [g,f] h (aU [((.exit 4),λd h=>d7 C h F.wV [a,c,ge d 0,ge l 0] 5 λf h=>jn (λa h=>aT h 1 e (ge l 0) λc=>aS h 1 c (ge a 0) λ_ h=>ak .sub (ge l 0) (I 1) λa=>q .normal [a] h) λe=>aQ f (ak .sub (ge d 0) (.d (.int .u64 1)) λd=>d7 C h F.uN [a,c,ge l 0] 6 λa h=>e [d] h) (e [ge d 0] h))])) (q (.exit 2) [] h)
def zc(C:CC)(a c:V)(q:kQ):=let h:Hp:=.replicate 9 ah
 ba c λd=>ak .sub d (I 1) λd=>aT h 1 c d λd=>aF h d λd=>ak .add d (.d (.int .u64 1)) λd=>ak .quo (.d (.int .u64 1000000000)) d λd=>d7 C h F.uL [a,d] 0 λe h=>cx 1 [.int .u64 0] [(0,(.d (.int .u64 0)))] h λf h=>cV SM 1 1 8 e f h λe h=>d7 C h F.uL [c,d] 2 λc h=>ba c λf=>lp (NK C a) [] h [e] h (aU [((.exit 0),λa h=>ba (ge a 0) λe=>ak .sub e f λe=>fS 4 8 [.int .u64 0] h e e λe h=>ba (ge a 0) λg=>ak .sub g f λg=>ak .sub g (I 1) λg=>lp (BU C (ge a 0) c f e) [5,6] h [g] h (aU [((.exit 2),λc h=>d7 C h F.kD [ge a 0] 7 λa h=>ai C h F.wW [a,d] λa h=>bW a λa c=>d7 C h F.kD [e] 8 λc h=>q (.tup [c,a]) h)]))])
def NL:cr:=(cM (bJ (aV [.inl 0,.o,.slot 1,.inl 2]) (aP (bJ (aB (.n (.l [7] [0,6,8,9] [((.exit 0),[7],[6,8,9])] []) (aP (aB (aV [.o,.slot 3]))) .o)) (bJ (aV [.slot 4]) (bJ (aP (aB (.n (.l [11] [6,7,8,9,10] [((.exit 2),[],[6,7,10])] [5,6]) (aP (aB (aB (cM (bJ (aB (.n (.l [13,14] [6,7,8,9,10,11] [((.exit 4),[13],[6,7,8,9,10,11])] []) .o .o)) (aB (bJ (aV [.inl 5]) (.n (.j [13] [6,7,8,9,10,11]) (aP (aV [.inl 6])) .o)))))))) .o))) (bJ (aV [.inl 7]) (aB (aV [.inl 8])))))))))
attribute [local irreducible] bnd gd bp aQ ext cx kx aS cu mN cD jn lp aU fS cV eQ qe in
theorem ans(C:CC)(t0:V)(t1:V)(q:bG):lu Y C Tryz.f149 9 NL [t0,t1] q=zc C t0 t1 q:=CF
theorem anq:okB Tryz.prog Tryz.f149 NL=Th:=dw
theorem anr(h:zc DA t0 t1 (out v)):Ds F.zc [t0,t1] v:=
 CP.of (fn:=Tryz.f149) (m:=9) (a:=NL) rfl (λ_=>rfl) func149 anq (by rw[ans];exact h)
def Fv(C:CC)(a c d:V):bK:=λl h q=>aY .lss (ge l 0) d (aT h 1 a (ge l 0) λa=>aF h a λa=>bp C.p h c [a] λa h=>aQ a (q .ret [ge l 0] h) (ak .add (ge l 0) (I 1) λa=>q .normal [a] h)) (q (.exit 0) [] h)
def vt(C:CC)(a c:V)(q:kQ):=let h:Hp:=[]
 ba a λd=>lp (Fv C a c d) [] h [I 0] h (aU [((.exit 0),λa h=>q (I (-1)) h),(.ret,λa h=>q (ge a 0) h)])
theorem aeU(h:vt DA t0 t1 (out v)):Ds F.vt [t0,t1] v:=aR 0 (aP (aB (aP (aB (.n (.l [8] [0,1,7] [((.exit 0),[],[]),(.ret,[4],[])] []) .o .o))))) func165 h
def xG(C:CC)(a c:V)(q:kQ):=let h:Hp:=[]
 ai C h F.vt [a,c] λa h=>ak .geq a (I 0) λa=>q a h
theorem ae4(h:xG DA t0 t1 (out v)):Ds F.xG [t0,t1] v:=aR 0 .o func123 h
def aeW(C:CC)(a c d:V):bK:=λl h q=>aY .lss (ge l 0) d (aT h 1 a (ge l 0) λa=>aF h a λa=>bp C.p h c [a] λa h=>aQ a (q .ret [ge l 0] h) (ak .add (ge l 0) (I 1) λa=>q .normal [a] h)) (q (.exit 0) [] h)
def Fy(C:CC)(a c:V)(q:kQ):=let h:Hp:=[]
 ba a λd=>lp (aeW C a c d) [] h [I 0] h (aU [((.exit 0),λa h=>q (I (-1)) h),(.ret,λa h=>q (ge a 0) h)])
theorem aeX(h:Fy DA t0 t1 (out v)):Ds F.Fy [t0,t1] v:=aR 0 (aP (aB (aP (aB (.n (.l [8] [0,1,7] [((.exit 0),[],[]),(.ret,[4],[])] []) .o .o))))) func193 h
def Al(C:CC)(a c:V)(q:kQ):=let h:Hp:=[]
 ai C h F.Fy [a,c] λa h=>ak .geq a (I 0) λa=>q a h
theorem ae6(h:Al DA t0 t1 (out v)):Ds F.Al [t0,t1] v:=aR 0 .o func173 h
def ie(C:CC)(a:V)(q:kQ):=let h:Hp:=[]
 bnd (fv a) λc=>ak .gtr c (I 0) λc=>bH c Th h a λd h=>aN c Th h (fF d (I 0)) λd h=>aN c Th h (aD .eql d (.d (.int .u8 45))) λd h=>cG c d (B SM) λc=>aQ c (bnd (nB a (Wf (I 1)) Vc) λa=>q (.tup [B Th,a]) h) (q (.tup [B SM,a]) h)
theorem abY(h:ie DA t0 (out v)):Ds F.ie [t0] v:=aR 0 .o func102 h
def xi(C:CC)(a:V)(q:kQ):=let h:Hp:=[]
 ai C h F.ie [a] λa h=>bW a λa c=>bH a Th h c λd h=>aN a Th h (j7 .eql d (.d (.str [48]))) λd h=>cG a d (B SM) λa=>bH a SM h c λc h=>gd a SM h (λq=>ai C h F.ze [c] q) λc h=>aN a SM h (aD .neq c (I 0)) λc h=>cG a (B Th) c λa=>aQ a (q (I 2) h) (q (I 0) h)
theorem acb(h:xi DA t0 (out v)):Ds F.xi [t0] v:=aR 0 .o func100 h
def kR(C:CC)(a:V)(q:kQ):=let h:Hp:=[]
 mg .eql a (.d (.str [48])) λc=>aQ c (q (I 0) h) (bnd (fF a (I 0)) λa=>aY .eql a (.d (.int .u8 45)) (q (I (-1)) h) (q (I 1) h))
theorem ab2(h:kR DA t0 (out v)):Ds F.kR [t0] v:=aR 0 .o func70 h
def iX(C:CC)(a:V)(q:kQ):=let h:Hp:=[]
 ai C h F.strconv_Itoa [a] q
theorem Pm(h:iX DA t0 (out v)):Ds F.iX [t0] v:=aR 0 .o func81 h
def kh(C:CC)(a c:V)(q:kQ):=let h:Hp:=[]
 bnd (fv a) λd=>aY .gtr d c (q (.tup [I 0,B SM]) h) (ai C h F.strconv_Atoi [a] λa h=>bW a λa c=>bnd (pI .eql c (.d (.pl .nilIface))) λc=>q (.tup [a,c]) h)
theorem Jw(h:kh DA t0 t1 (out v)):Ds F.kh [t0,t1] v:=aR 0 .o func105 h
def lK(C:CC)(a:V)(q:kQ):=let h:Hp:=[]
 ai C h F.ie [a] λa h=>bW a λa c=>q c h
theorem Po(h:lK DA t0 (out v)):Ds F.lK [t0] v:=aR 0 .o func63 h
def EO(C:CC):bK:=λl h q=>aY .neq (ge l 1) (I 0) (ak .rem (ge l 0) (ge l 1) λa=>q .normal [ge l 1,a] h) (q (.exit 0) [ge l 0] h)
def zE(C:CC)(a c:V)(q:kQ):=let h:Hp:=[]
 lp (EO C) [] h [a,c] h (aU [((.exit 0),λa h=>q (ge a 0) h)])
theorem abZ(h:zE DA t0 t1 (out v)):Ds F.zE [t0,t1] v:=aR 0 (aP (aB (aB (.n (.l [0,1] [] [((.exit 0),[0],[])] []) .o .o)))) func140 h
def u5(C:CC)(a c:V)(q:kQ):=let h:Hp:=[]
 ai C h F.lK [a] λa h=>ai C h F.lK [c] λc h=>ai C h F.kh [a,I 18] λd h=>bW d λd e=>jn (λd h=>ai C h F.zd [a,c] q) λa=>aQ e (ai C h F.kh [c,I 18] λc h=>bW c λc e=>aQ e (ai C h F.zE [d,c] λa h=>ai C h F.iX [a] q) (a [] h)) (a [] h)
theorem ab7(h:u5 DA t0 t1 (out v)):Ds F.u5 [t0,t1] v:=aR 0 (cM (aB (cM (hO [] [5,6])))) func101 h
def uB(C:CC)(a:V)(q:kQ):=let h:Hp:=.replicate 1 ah
 cD 0 a h λa h=>bi 0 a λc=>aF h c λc=>ai C h F.xi [c] λc h=>ak .neq c (I 0) λc=>jn (λc h=>aQ (ge c 0) (q (I 2) h) (bi 1 a λc=>aF h c λc=>ai C h F.kR [c] λc h=>ak .leq c (I 0) λc=>jn (λa h=>aQ (ge a 0) (q (I 2) h) (q (I 0) h)) λd=>aQ c (d [c] h) (bi 0 a λc=>aF h c λc=>bi 1 a λa=>aF h a λa=>ai C h F.u5 [c,a] λa h=>mg .neq a (.d (.str [49])) λa=>d [a] h))) λd=>aQ c (d [c] h) (bi 1 a λa=>aF h a λa=>ai C h F.xi [a] λa h=>ak .neq a (I 0) λa=>d [a] h)
theorem alS(h:uB DA t0 (out v)):Ds F.uB [t0] v:=aR 1 (bJ (aV [.slot 0]) (aB (aB (bJ (aP (hO [3] [1])) (aP (aB (aP (hO [12] [])))))))) func62 h
def rO(C:CC)(a:V)(q:kQ):=let h:Hp:=[]
 ai C h F.ie [a] λa h=>bW a λa c=>bnd (gL .not a) λa=>ai C h F.jh [a,c] q
theorem ab4(h:rO DA t0 (out v)):Ds F.rO [t0] v:=aR 0 .o func162 h
def uY(C:CC)(a:V)(q:kQ):=let h:Hp:=[]
 ai C h F.vj [a,I 10,I 64] λa h=>bW a λa c=>bnd (pI .neq c (.d (.pl .nilIface))) λc=>aQ c (q (.tup [I 0,B SM]) h) (q (.tup [a,B Th]) h)
theorem ab1(h:uY DA t0 (out v)):Ds F.uY [t0] v:=aR 0 .o func154 h
def u7(C:CC)(a c:V)(q:kQ):=let h:Hp:=[]
 ai C h F.kR [a] λd h=>ai C h F.kR [c] λe h=>aY .neq d e (aY .lss d e (q (I (-1)) h) (q (I 1) h)) (ai C h F.ie [a] λa h=>bW a λa d=>ai C h F.ie [c] λc h=>bW c λc e=>jn (λa h=>ai C h F.pD [ge a 0,ge a 1] q) λc=>aQ a (c [e,d] h) (c [d,e] h))
theorem aca(h:u7 DA t0 t1 (out v)):Ds F.u7 [t0,t1] v:=aR 0 (Bc (aB (aP (hO [8,10] [])))) func167 h
def ji(C:CC)(a c:V)(q:kQ):=let h:Hp:=[]
 mg .eql c (.d (.str [48])) λd=>aQ d (q (.tup [(.d (.str [])),(.d (.str [])),I 17]) h) (ai C h F.kh [a,I 18] λd h=>bW d λd e=>jn (λd h=>ai C h F.ie [a] λa h=>bW a λa d=>ai C h F.ie [c] λc h=>bW c λc e=>ai C h F.rE [d,e] λd h=>kA d λd f g=>dK g (q (.tup [(.d (.str [])),(.d (.str [])),g]) h) (bnd (jE .neq a c) λg=>bH g Th h f λi h=>aN g Th h (j7 .neq i (.d (.str [48]))) λi h=>cG g i (B SM) λg=>jn (λd h=>bnd (jE .neq a c) λa=>ai C h F.jh [a,ge d 0] λa h=>ai C h F.jh [c,ge d 1] λc h=>q (.tup [a,c,I 0]) h) λa=>aQ g (ai C h F.qt [d,(.d (.str [49]))] λc h=>ai C h F.rC [e,f] λd h=>bW d λd e=>a [c,d] h) (a [d,f] h))) λa=>aQ e (ai C h F.kh [c,I 18] λc h=>bW c λc e=>aQ e (ak .quo d c λa=>ak .rem d c λd=>ak .neq d (I 0) λe=>bH e Th h d λf h=>aN e Th h (aD .lss f (I 0)) λf h=>bH e Th h c λg h=>aN e Th h (aD .lss g (I 0)) λg h=>aN e Th h (jE .neq f g) λf h=>cG e f (B SM) λe=>jn (λa h=>ai C h F.iX [ge a 0] λc h=>ai C h F.iX [ge a 1] λa h=>q (.tup [c,a,I 0]) h) λf=>aQ e (ak .sub a (I 1) λa=>ak .add d c λc=>f [a,c] h) (f [a,d] h)) (a [] h)) (a [] h))
def Jy:cr:=(cM (bJ (cM (.n (.j [] [0,1]) (cM (aB (aP (aB (aP (hO [11,12] [])))))) .o)) (Bc (aB (aP (hO [17,18] [13,15]))))))
theorem ab9(C:CC)(t0:V)(t1:V)(q:bG):lu Y C Tryz.f66 0 Jy [t0,t1] q=ji C t0 t1 q:=by kernel_rfl
theorem ab8:okB Tryz.prog Tryz.f66 Jy=Th:=dw
theorem Pn(h:ji DA t0 t1 (out v)):Ds F.ji [t0,t1] v:=
 CP.of (fn:=Tryz.f66) (m:=0) (a:=Jy) rfl (λ_=>rfl) func66 ab8 (by rw[ab9];exact h)
def xh(C:CC)(a c:V)(q:kQ):=let h:Hp:=[]
 ai C h F.lK [a] λa h=>ai C h F.lK [c] λc h=>ai C h F.BW [a,c] q
theorem ab6(h:xh DA t0 t1 (out v)):Ds F.xh [t0,t1] v:=aR 0 .o func65 h
def uZ(C:CC)(a c:V)(q:kQ):=let h:Hp:=[]
 aY .lss c (I 0) (q (.tup [(.d (.str [])),I 3]) h) (ai C h F.ie [a] λa h=>bW a λa d=>bnd (fv d) λe=>ak .quo (I 4000) e λe=>aY .gtr c e (q (.tup [(.d (.str [])),I 4]) h) (ai C h F.wZ [d,c] λd h=>bW d λd e=>dK e (q (.tup [(.d (.str [])),e]) h) (bH a Th h c λc h=>aN a Th h (aD .rem c (I 2)) λc h=>aN a Th h (aD .eql c (I 1)) λc h=>cG a c (B SM) λa=>ai C h F.jh [a,d] λa h=>q (.tup [a,I 0]) h)))
theorem ab3(h:uZ DA t0 t1 (out v)):Ds F.uZ [t0,t1] v:=aR 0 .o func157 h
def BW(C:CC)(a c:V)(q:kQ):=let h:Hp:=[]
 mg .eql a (.d (.str [48])) λd=>bH d SM h c λe h=>aN d SM h (j7 .eql e (.d (.str [48]))) λe h=>cG d (B Th) e λd=>aQ d (q (.d (.str [48])) h) (ai C h F.zd [a,c] λd h=>ai C h F.rE [a,d] λa h=>kA a λa d e=>dK e (q (.d (.str [])) h) (ai C h F.uO [a,c] q))
theorem anL(h:BW DA t0 t1 (out v)):Ds F.BW [t0,t1] v:=aR 0 .o func104 h
def anT(C:CC)(a c:V):bK:=λl h q=>aY .lss (ge l 1) c (aT h 1 a (ge l 1) λc=>aF h c λc=>ak .mul c (.d (.int .u64 1000000000)) λc=>ak .add (ge l 0) c λc=>ak .and c (.d (.int .u64 4294967295)) λd=>aT h 1 a (ge l 1) λa=>aS h 1 a d λ_ h=>ak .shr c (.d (.int .u64 32)) λa=>ak .add (ge l 1) (I 1) λc=>q .normal [a,c] h) (q (.exit 2) [ge l 0] h)
def anU(C:CC)(a:V):bK:=λl h q=>aY .geq (ge l 1) (I 0) (jn (λa h=>ak .sub (ge l 1) (I 1) λc=>q .normal [ge a 0,c] h) λc=>aT h 1 a (ge l 1) λa=>aF h a λa=>ba (ge l 0) λd=>lp (anT C (ge l 0) d) [] h [a,I 0] h (aU [((.exit 2),λa h=>ak .gtr (ge a 0) (.d (.int .u64 0)) λd=>jn (λa h=>c [ge a 0] h) λc=>aQ d (cx 1 [.int .u64 0] [(0,(ge a 0))] h λa h=>cV SM 1 1 8 (ge l 0) a h λa h=>c [a] h) (c [ge l 0] h))])) (q (.exit 0) [ge l 0] h)
def BZ(C:CC)(a:V)(q:kQ):=let h:Hp:=.replicate 2 ah
 ai C h F.wY [a] λc h=>bW c λc d=>aQ d (ai C h F.ui [c] q) (d7 C h F.mL [a] 0 λa h=>ba a λc=>ak .sub c (I 1) λc=>lp (anU C a) [] h [dD,c] h (aU [((.exit 0),λa h=>ba (ge a 0) λc=>ak .sub c (I 1) λc=>ak .mul (I 32) c λc=>ba (ge a 0) λd=>ak .sub d (I 1) λd=>aT h 1 (ge a 0) d λa=>aF h a λa=>ai C h F.ui [a] λa h=>ak .add c a λa=>q a h)]))
theorem anV(h:BZ DA t0 (out v)):Ds F.BZ [t0] v:=aR 2 (lU (bJ (aV [.inl 0]) (aB (aP (aB (.n (.l [5,7] [6] [((.exit 0),[5],[])] []) (aP (aB (.n (.j [5] [6,7]) (aP (bJ (aP (aB (.n (.l [8,33] [5,6,7,32] [((.exit 2),[8],[5,6,7])] []) .o .o))) (aP (.n (.j [5] [6,7]) (aV [.o,.slot 1]) .o)))) .o))) .o)))))) func205 h
def Eh(C:CC):bK:=λl h q=>aY .gtr (ge l 2) (I 0) (jn (λa h=>ak .shr (ge l 2) (.d (.int .u64 1)) λc=>q .normal [ge a 0,ge a 1,c] h) λa=>ak .and (ge l 2) (I 1) λc=>ak .eql c (I 1) λc=>jn (λc h=>ak .gtr (ge l 2) (I 1) λd=>jn (λd h=>a [ge c 0,ge d 0] h) λa=>aQ d (d7 C h F.rt [ge l 1,ge l 1] 2 λc h=>a [c] h) (a [ge l 1] h)) λa=>aQ c (d7 C h F.rt [ge l 0,ge l 1] 1 λc h=>a [c] h) (a [ge l 0] h)) (q (.exit 1) [ge l 0] h)
def wZ(C:CC)(a c:V)(q:kQ):=let h:Hp:=.replicate 3 ah
 aY .lss c (I 0) (q (.tup [(.d (.str [])),I 3]) h) (ak .eql c (I 0) λd=>bH d SM h a λe h=>aN d SM h (j7 .eql e (.d (.str [49]))) λe h=>cG d (B Th) e λd=>aQ d (q (.tup [(.d (.str [49])),I 0]) h) (mg .eql a (.d (.str [48])) λd=>aQ d (q (.tup [(.d (.str [48])),I 0]) h) (ai C h F.BZ [a] λd h=>ak .sub d (I 1) λd=>ak .quo (I 66439) d λd=>aY .gtr c d (q (.tup [(.d (.str [])),I 4]) h) (cx 1 [.int .u64 0] [(0,(.d (.int .u64 1)))] h λd h=>d7 C h F.mL [a] 0 λa h=>lp (Eh C) [] h [d,a,c] h (aU [((.exit 1),λa h=>ai C h F.nN [ge a 0] λa h=>bnd (fv a) λc=>aY .gtr c (I 20000) (q (.tup [(.d (.str [])),I 4]) h) (q (.tup [a,I 0]) h))])))))
def NP:cr:=(lU (bJ (aV [.o,.inl 0]) (aB (aB (.n (.l [7,8,1] [] [((.exit 1),[7],[])] []) (aP (aB (.n (.j [7,8] [1]) (bJ (aP (.n (.j [7] [1,8]) (aV [.inl 1]) .o)) (aP (.n (.j [8] [1,7]) (aV [.inl 2]) .o))) .o))) .o)))))
attribute [local irreducible] bnd gd bp aQ ext cx kx aS cu mN cD jn lp aU fS cV eQ qe in
theorem anI(C:CC)(t0:V)(t1:V)(q:bG):lu Y C Tryz.f186 3 NP [t0,t1] q=wZ C t0 t1 q:=CF
theorem anG:okB Tryz.prog Tryz.f186 NP=Th:=dw
theorem anH(h:wZ DA t0 t1 (out v)):Ds F.wZ [t0,t1] v:=
 CP.of (fn:=Tryz.f186) (m:=3) (a:=NP) rfl (λ_=>rfl) func186 anG (by rw[anI];exact h)
def wL(C:CC)(a:V)(q:kQ):=let h:Hp:=[]
 bnd (fv a) λc=>aY .gtr c (I 9) (q (.tup [I 0,B SM]) h) (ai C h F.strconv_Atoi [a] λa h=>bW a λa c=>bnd (pI .eql c (.d (.pl .nilIface))) λc=>q (.tup [a,c]) h)
theorem alK(h:wL DA t0 (out v)):Ds F.wL [t0] v:=aR 0 .o func188 h
def rb(C:CC)(a:V)(q:kQ):=let h:Hp:=.replicate 1 ah
 cD 0 a h λa h=>bi 0 a λc=>aF h c λc=>ai C h F.wL [c] λc h=>bW c λc d=>bi 1 a λa=>aF h a λa=>ai C h F.wL [a] λa h=>bW a λa e=>bH d Th h e λe h=>cG d e (B SM) λd=>q (.tup [c,a,d]) h
theorem alL(h:rb DA t0 (out v)):Ds F.rb [t0] v:=aR 1 (aB (aV [.slot 0])) func160 h
def D2(C:CC):bK:=λl h q=>aY .neq (ge l 1) (I 0) (ak .rem (ge l 0) (ge l 1) λa=>q .normal [ge l 1,a] h) (q (.exit 0) [ge l 0] h)
def sX(C:CC)(a c:V)(q:kQ):=let h:Hp:=.replicate 1 ah
 cu 0 [.d (.str []),.d (.str [])] h λd h=>lp (D2 C) [] h [a,c] h (aU [((.exit 0),λe h=>ak .lss (ge e 0) (I 0) λf=>jn (λe h=>ak .quo a (ge e 0) λa=>ai C h F.strconv_Itoa [a] λa h=>ak .quo c (ge e 0) λc=>ai C h F.strconv_Itoa [c] λc h=>bnd (fG [(0,1),(1,1)] [.str [],.str []] [(0,a),(1,c)]) λa=>aS h 2 d a λ_ h=>bnd (aG h 2 d) λa=>q a h) λa=>aQ f (bnd (gL .neg (ge e 0)) λc=>a [c] h) (a [ge e 0] h))])
theorem alI(h:sX DA t0 t1 (out v)):Ds F.sX [t0,t1] v:=aR 1 (bJ (aV [.slot 0]) (aP (bJ (aB (.n (.l [5,6] [0,1,4] [((.exit 0),[5],[0,1,4])] []) .o .o)) (aB (aP (hO [5] [0,1,4])))))) func161 h
def oC(C:CC)(a c:V)(q:kQ):=let h:Hp:=.replicate 1 ah
 cu 0 [.d (.str []),.d (.str [])] h λd h=>ai C h F.kR [c] λe h=>ak .lss e (I 0) λe=>jn (λa h=>ai C h F.u5 [ge a 0,ge a 1] λc h=>mg .neq c (.d (.str [49])) λe=>jn (λa h=>bnd (fG [(0,1),(1,1)] [.str [],.str []] [(0,(ge a 0)),(1,(ge a 1))]) λa=>aS h 2 d a λ_ h=>bnd (aG h 2 d) λa=>q a h) λd=>aQ e (ai C h F.ji [ge a 0,c] λe h=>kA e λe f g=>ai C h F.ji [ge a 1,c] λa h=>kA a λa c f=>d [e,a] h) (d [ge a 0,ge a 1] h)) λd=>aQ e (ai C h F.rO [a] λa h=>ai C h F.rO [c] λc h=>d [a,c] h) (d [a,c] h)
theorem alJ(h:oC DA t0 t1 (out v)):Ds F.oC [t0,t1] v:=aR 1 (bJ (aV [.slot 0]) (bJ (aP (hO [0,1] [4])) (aB (cM (hO [0,1] [4]))))) func128 h
def qn(C:CC)(a c:V)(q:kQ):=let h:Hp:=.replicate 3 ah
 cD 0 a h λa h=>cD 1 c h λc h=>cu 2 [.d (.str []),.d (.str [])] h λd h=>bi 1 a λe=>aF h e λe=>mg .eql e (.d (.str [49])) λe=>aN e Th h (ik 1 c) λf h=>aN e Th h (ld1 h f) λf h=>aN e Th h (j7 .eql f (.d (.str [49]))) λf h=>cG e f (B SM) λe=>aQ e (bi 0 a λa=>aF h a λa=>bi 0 c λc=>aF h c λc=>ai C h F.jj [a,c] λa h=>bnd (fG [(0,1),(1,1)] [.str [],.str []] [(0,a),(1,(.d (.str [49])))]) λa=>aS h 2 d a λ_ h=>bnd (aG h 2 d) λa=>q a h) (bnd (aG h 2 a) λe=>ai C h F.rb [e] λe h=>kA e λe f g=>jn (λe h=>bi 0 a λe=>aF h e λe=>bi 1 c λf=>aF h f λf=>ai C h F.gv [e,f] λe h=>bi 0 c λf=>aF h f λf=>bi 1 a λg=>aF h g λg=>ai C h F.gv [f,g] λf h=>ai C h F.jj [e,f] λe h=>bi 1 a λa=>aF h a λa=>bi 1 c λc=>aF h c λc=>ai C h F.gv [a,c] λa h=>ai C h F.oC [e,a] λa h=>aS h 2 d a λ_ h=>bnd (aG h 2 d) λa=>q a h) λa=>aQ g (bnd (aG h 2 c) λc=>ai C h F.rb [c] λc h=>kA c λc g i=>aQ i (ak .mul e g λa=>ak .mul c f λc=>ak .add a c λa=>ak .mul f g λc=>ai C h F.sX [a,c] λa h=>aS h 2 d a λ_ h=>bnd (aG h 2 d) λa=>q a h) (a [] h)) (a [] h))
def M6:cr:=(bJ (aV [.slot 0,.slot 1,.slot 2]) (aP (aB (cM (hO [] [2,3,4])))))
theorem alW(C:CC)(t0:V)(t1:V)(q:bG):lu Y C Tryz.f116 3 M6 [t0,t1] q=qn C t0 t1 q:=by kernel_rfl
theorem alT:okB Tryz.prog Tryz.f116 M6=Th:=dw
theorem alU(h:qn DA t0 t1 (out v)):Ds F.qn [t0,t1] v:=
 CP.of (fn:=Tryz.f116) (m:=3) (a:=M6) rfl (λ_=>rfl) func116 alT (by rw[alW];exact h)
def wN(C:CC)(a c:V)(q:kQ):=let h:Hp:=.replicate 3 ah
 cD 0 a h λa h=>cD 1 c h λc h=>cu 2 [.d (.str []),.d (.str [])] h λd h=>bnd (aG h 2 a) λe=>ai C h F.rb [e] λe h=>kA e λe f g=>jn (λe h=>bi 0 a λe=>aF h e λe=>bi 0 c λf=>aF h f λf=>ai C h F.gv [e,f] λe h=>bi 1 a λa=>aF h a λa=>bi 1 c λc=>aF h c λc=>ai C h F.gv [a,c] λa h=>ai C h F.oC [e,a] λa h=>aS h 2 d a λ_ h=>bnd (aG h 2 d) λa=>q a h) λa=>aQ g (bnd (aG h 2 c) λc=>ai C h F.rb [c] λc h=>kA c λc g i=>aQ i (ak .mul e c λa=>ak .mul f g λc=>ai C h F.sX [a,c] λa h=>aS h 2 d a λ_ h=>bnd (aG h 2 d) λa=>q a h) (a [] h)) (a [] h)
theorem alR(h:wN DA t0 t1 (out v)):Ds F.wN [t0,t1] v:=aR 3 (bJ (aV [.slot 0,.slot 1,.slot 2]) (aB (cM (hO [] [2,3,4])))) func119 h
def wM(C:CC)(a:V)(q:kQ):=let h:Hp:=.replicate 1 ah
 cD 0 a h λa h=>bi 0 a λa=>aF h a λa=>ai C h F.kR [a] q
theorem alN(h:wM DA t0 (out v)):Ds F.wM [t0] v:=aR 1 (aB (aV [.slot 0])) func49 h
def BK(C:CC)(a c:V)(q:kQ):=let h:Hp:=.replicate 1 ah
 cu 0 [.d (.str []),.d (.str [])] h λd h=>ai C h F.kR [c] λe h=>aY .eql e (I 0) (bnd (fG [(0,1),(1,1)] [.str [],.str []] []) λa=>aS h 2 d a λ_ h=>bnd (aG h 2 d) λa=>q (.tup [a,I 17]) h) (ai C h F.oC [a,c] λa h=>aS h 2 d a λ_ h=>bnd (aG h 2 d) λa=>q (.tup [a,I 0]) h)
theorem alP(h:BK DA t0 t1 (out v)):Ds F.BK [t0,t1] v:=aR 1 (aB (aV [.slot 0])) func82 h
def sY(C:CC)(a c:V)(q:kQ):=let h:Hp:=.replicate 1 ah
 cu 0 [.d (.str []),.d (.str [])] h λd h=>ai C h F.iX [a] λa h=>ai C h F.iX [c] λc h=>ai C h F.BK [a,c] λa h=>bW a λa c=>aS h 2 d a λ_ h=>bnd (aG h 2 d) λa=>q (.tup [a,c]) h
theorem alO(h:sY DA t0 t1 (out v)):Ds F.sY [t0,t1] v:=aR 1 (aB (aV [.slot 0])) func41 h
def FE(C:CC)(a c d:V):bK:=λl h q=>aY .lss (ge l 0) d (aT h 2 c (ge l 0) λc=>bnd (aG h 2 c) λc=>cu 2 [.d (.str []),.d (.str [])] h λd h=>aS h 2 d c λ_ h=>bi 2 a λc=>aF h c λc=>bi 1 d λd=>aF h d λd=>ai C h F.xh [c,d] λc h=>bi 2 a λa=>aS h 1 a c λ_ h=>ak .add (ge l 0) (I 1) λa=>q .normal [a] h) (q (.exit 0) [] h)
def CS(C:CC)(a c d e:V):bK:=λl h q=>aY .lss (ge l 0) e (jn (λa h=>ak .add (ge l 0) (I 1) λa=>q .normal [a] h) λe=>aT h 2 d (ge l 0) λd=>bnd (aG h 2 d) λd=>cu 3 [.d (.str []),.d (.str [])] h λf h=>aS h 2 f d λ_ h=>bi 0 f λd=>aF h d λd=>mg .neq d (.d (.str [48])) λd=>jn (λa h=>e [] h) λe=>aQ d (bi 2 c λd=>aF h d λd=>bi 1 f λg=>aF h g λg=>ai C h F.ji [d,g] λd h=>kA d λd g i=>bi 0 c λg=>sm h c g<|aF h g λg=>aT h 1 a (ge l 0) λa=>aF h a λa=>cx 1 [.int .i64 0] [(0,a)] h λa h=>sp h g [c,f]<|cV SM 4 1 8 g a h λa h=>bi 1 c λg=>sm h c g<|aF h g λg=>bi 0 f λi=>sm h f i<|aF h i λf=>ai C h F.gv [f,d] λd h=>cx 1 [.str []] [(0,d)] h λd h=>cV SM 5 1 16 g d h λd h=>bi 0 c λf=>aS h 1 f a λ_ h=>bi 1 c λa=>aS h 1 a d λ_ h=>e [] h) (e [] h)) (q (.exit 2) [] h)
def vA(C:CC)(a c:V)(q:kQ):=let h:Hp:=.replicate 6 ah
 cu 0 [.d aW,.d aW,.d (.str [])] h λd h=>bnd (fG [(0,1),(1,1),(2,1)] [aW,aW,.str []] [(2,(.d (.str [49])))]) λe=>cu 1 [.d aW,.d aW,.d (.str [])] h λf h=>aS h 3 f e λ_ h=>ba c λe=>lp (FE C f c e) [2] h [I 0] h (aU [((.exit 0),λe h=>ba c λe=>lp (CS C a f c e) [3] h [I 0] h (aU [((.exit 2),λa h=>bnd (aG h 3 f) λa=>aS h 3 d a λ_ h=>bnd (aG h 3 d) λa=>q a h)]))])
def Kx:cr:=(bJ (aV [.slot 0]) (bJ (aV [.slot 1]) (bJ (aP (aB (.n (.l [16] [0,1,4,5,14,15] [((.exit 0),[],[0,1,4,5])] [2]) (cM (aB (aB (aB (aV [.slot 2]))))) .o))) (aB (aP (aB (.n (.l [29] [0,4,5,27,28] [((.exit 2),[],[4,5])] [3]) (cM (aB (.n (.j [] [0,4,5,27,28,29]) (bJ (aV [.slot 3]) (aP (.n (.j [] [0,4,5,27,28,29]) (aP (aV [.o,.slot 4,.o,.o,.slot 5])) .o))) .o))) .o)))))))
theorem afw(C:CC)(t0:V)(t1:V)(q:bG):lu Y C Tryz.f31 6 Kx [t0,t1] q=vA C t0 t1 q:=by kernel_rfl
theorem afu:okB Tryz.prog Tryz.f31 Kx=Th:=dw
theorem afv(h:vA DA t0 t1 (out v)):Ds F.vA [t0,t1] v:=
 CP.of (fn:=Tryz.f31) (m:=6) (a:=Kx) rfl (λ_=>rfl) func31 afu (by rw[afw];exact h)
def tQ(C:CC)(a:V)(q:kQ):=let h:Hp:=.replicate 1 ah
 cD 0 a h λa h=>q (.fn F.rZ [] [a]) h
theorem afs(h:tQ DA t0 (out v)):Ds F.tQ [t0] v:=aR 1 (aB (aV [.slot 0])) func112 h
def FD(C:CC)(a c d:V):zy:=λl h q=>
 aF h a λa=>
 ai C h F.xN [ge l 0,a] λa h=>
 ak .neq (ge l 0) (I 2) λe=>
 jn (λe h=>
 ai C h F.gv [a,ge l 1] λa h=>
 ai C h F.gv [ge e 0,ge l 1] λe h=>
 ai C h F.kR [ge l 1] λf h=>
 ak .lss f (I 0) λf=>
 jn (λa h=>
 aF h c λe=>
 ai C h F.jj [e,ge a 0] λe h=>
 aF h d λf=>
 ai C h F.jj [f,ge a 1] λa h=>
 aS h 1 c e λ_ h=>
 aS h 1 d a λ_ h=>
 q .normal h) λc=>
 aQ f (
 c [e,a] h) (
 c [a,e] h)) λc=>
 aQ e (
 ai C h F.jj [a,(.d (.str [49]))] λa h=>
 c [a] h) (
 c [a] h)
def xL(C:CC)(a c:V)(q:kQ):=let h:Hp:=.replicate 4 ah
 cD 0 a h λa h=>cD 1 c h λc h=>cu 2 [.d (.str [])] h λd h=>cu 3 [.d (.str [])] h λe h=>aS h 1 d (.d (.str [48])) λ_ h=>aS h 1 e (.d (.str [48])) λ_ h=>bnd (aG h 3 a) λa=>ai C h F.tQ [a] λa h=>xY (CH Y.seq a) 2 (FD C c d e) [] h (λex h=>aU [(.normal,λ_ h=>aF h d λa=>aF h e λc=>sp h d [e]<|aS h 1 d a λ_ h=>aS h 1 e c λ_ h=>aF h d λa=>aF h e λc=>q (.tup [a,c]) h)] ex [] h)
theorem afr(h:xL DA t0 t1 (out v)):Ds F.xL [t0,t1] v:=aR 4 (bJ (aV [.slot 0,.slot 1,.slot 2,.slot 3]) (aP (aB (aP (aB (.n (.l [] [3,4,5] [(.normal,[],[4,5])] []) .o (aB (cM (bJ (aP (hO [9] [4,5,7,8])) (aP (aB (aP (hO [8,9] [4,5]))))))))))))) func69 h
def vw(C:CC)(a c d e:V):zy:=λl h q=>
 ai C h F.uY [ge l 1] λf h=>
 ext f 0 λg=>
 ext f 1 λf=>
 bnd (gL .not f) λf=>
 bH f SM h g λi h=>
 aN f SM h (ld1 h a) λj h=>
 aN f SM h (aD .gtr i j) λi h=>
 cG f (B Th) i λf=>
 bH f SM h g λi h=>
 aN f SM h (ld1 h a) λa h=>
 aN f SM h (gL .neg a) λa h=>
 aN f SM h (aD .lss i a) λa h=>
 cG f (B Th) a λa=>
 aQ a (
 aS h 1 c (I 0) λ_ h=>
 aS h 1 d (I 0) λ_ h=>
 aS h 1 e (B SM) λ_ h=>
 q .ret h) (
 ai C h F.Aq [ge l 0] λa h=>
 ext a 0 λf=>
 ext a 1 λa=>
 bnd (gL .not a) λa=>
 aQ a (
 aS h 1 c (I 0) λ_ h=>
 aS h 1 d (I 0) λ_ h=>
 aS h 1 e (B SM) λ_ h=>
 q .ret h) (
 ak .add f (I 1) λa=>
 ak .eql (ge l 0) (I 2) λe=>
 jn (λa h=>
 aF h c λe=>
 ak .mul g f λi=>
 ak .mul g (ge a 0) λj=>
 bnd (gk SM [i,j]) λi=>
 ak .add e i λe=>
 aF h d λi=>
 ak .mul g f λf=>
 ak .mul g (ge a 0) λa=>
 bnd (gk Th [f,a]) λa=>
 ak .add i a λa=>
 sp h c [d]<|aS h 1 c e λ_ h=>
 aS h 1 d a λ_ h=>
 q .normal h) λc=>
 aQ e (
 c [f] h) (
 c [a] h)))
def vy(C:CC)(a c:V)(q:kQ):=let h:Hp:=.replicate 5 ah
 cD 0 a h λa h=>cD 1 c h λc h=>cu 2 [.d (.int .i64 0)] h λd h=>cu 3 [.d (.int .i64 0)] h λe h=>cu 4 [.d (.bool SM)] h λf h=>bnd (aG h 3 a) λa=>ai C h F.tQ [a] λa h=>xY (CH Y.seq a) 2 (vw C c d e f) [] h (λex h=>aU [(.ret,λ_ h=>aF h d λa=>aF h e λc=>aF h f λd=>q (.tup [a,c,d]) h),(.normal,λ_ h=>aF h d λa=>aF h e λc=>sp h d [e]<|aS h 1 d a λ_ h=>aS h 1 e c λ_ h=>aS h 1 f (B Th) λ_ h=>aF h d λa=>aF h e λc=>aF h f λd=>q (.tup [a,c,d]) h)] ex [] h)
def Kw:cr:=(bJ (aV [.slot 0,.slot 1,.slot 2,.slot 3,.slot 4]) (aB (aP (aB (.n (.l [] [3,4,5,6] [(.ret,[],[4,5,6]),(.normal,[],[4,5,6])] []) .o (aB (G0 (aB (aP (hO [13] [4,5,9,11]))))))))))
theorem afq(C:CC)(t0:V)(t1:V)(q:bG):lu Y C Tryz.f111 5 Kw [t0,t1] q=vy C t0 t1 q:=by kernel_rfl
theorem afo:okB Tryz.prog Tryz.f111 Kw=Th:=dw
theorem afp(h:vy DA t0 t1 (out v)):Ds F.vy [t0,t1] v:=
 CP.of (fn:=Tryz.f111) (m:=5) (a:=Kw) rfl (λ_=>rfl) func111 afo (by rw[afq];exact h)
def vv(C:CC)(a:V)(q:kQ):=let h:Hp:=.replicate 1 ah
 cD 0 a h λa h=>bnd (aG h 3 a) λa=>ai C h F.vy [a,I 10000000] λa h=>kA a λa c d=>bnd (gL .not d) λd=>aQ d (q (I 0) h) (aY .geq a (I 0) (q (I 1) h) (aY .leq c (I 0) (q (I (-1)) h) (q (I 0) h)))
theorem afn(h:vv DA t0 (out v)):Ds F.vv [t0] v:=aR 1 (aB (aV [.slot 0])) func68 h
def Kv(C:CC)(a:V):bK:=λl h q=>bnd (aG h 3 a) λa=>ai C h F.xL [a,ge l 0] λa h=>bW a λa c=>ai C h F.kR [a] λa h=>aY .geq a (I 0) (q .ret [I 1] h) (ai C h F.kR [c] λa h=>aY .leq a (I 0) (q .ret [I (-1)] h) (ak .mul (ge l 0) (I 2) λa=>q .normal [a] h))
def oW(C:CC)(a:V)(q:kQ):=let h:Hp:=.replicate 1 ah
 cD 0 a h λa h=>bi 0 a λc=>aF h c λc=>ba c λc=>aY .eql c (I 0) (q (I 0) h) (bnd (aG h 3 a) λc=>ai C h F.vv [c] λc h=>dK c (q c h) (lp (Kv C a) [] h [I 64] h (aU [(.ret,λa h=>q (ge a 0) h)])))
theorem Q4(h:oW DA t0 (out v)):Ds F.oW [t0] v:=aR 1 (bJ (aV [.slot 0]) (aB (Bc (aB (.n (.l [4] [1] [(.ret,[2],[])] []) .o .o))))) func32 h
def FG(C:CC):bK:=λl h q=>aY .lss (ge l 3) (I 26) (jn (λa h=>ak .add (ge l 3) (I 1) λc=>q .normal [ge a 0,ge a 1,ge a 2,c] h) λa=>ai C h F.qU [ge l 0,ge l 0] λc h=>bW c λc d=>ak .shl c (.d (.int .u64 2)) λc=>ak .shr d (.d (.int .u64 62)) λd=>ak .or c d λc=>ai C h F.qU [ge l 1,ge l 1] λd h=>bW d λd e=>ak .shl d (.d (.int .u64 2)) λd=>ak .shr e (.d (.int .u64 62)) λe=>ak .or d e λd=>ak .add d (.d (.int .u64 1)) λd=>ak .mul (ge l 2) (I 2) λe=>ak .geq c (.d (.int .u64 9223372036854775808)) λf=>jn (λc h=>a [ge c 1,ge c 2,ge c 0] h) λa=>aQ f (ak .add e (I 1) λe=>ak .shr c (.d (.int .u64 1)) λc=>ak .shr d (.d (.int .u64 1)) λd=>ak .add d (.d (.int .u64 1)) λd=>a [e,c,d] h) (aY .geq d (.d (.int .u64 9223372036854775808)) (q .ret [I 0,B SM] h) (a [e,c,d] h))) (q (.exit 0) [ge l 2] h)
def Aq(C:CC)(a:V)(q:kQ):=let h:Hp:=[]
 bnd (ft .u64 a) λc=>ai C h F.yu [c] λc h=>ak .sub c (I 1) λc=>bnd (ft .u64 a) λa=>ak .sub (I 62) c λd=>ak .shl a d λa=>lp (FG C) [] h [a,a,c,I 0] h (aU [((.exit 0),λa h=>q (.tup [ge a 0,B Th]) h),(.ret,λa h=>q (.tup [ge a 0,ge a 1]) h)])
theorem afF(h:Aq DA t0 (out v)):Ds F.Aq [t0] v:=aR 0 (G0 (aB (aP (aB (.n (.l [5,6,7,21] [] [((.exit 0),[7],[]),(.ret,[2,3],[])] []) (cM (aB (.n (.j [5,6,7] [21]) (TV (hO [7,5,6] [21])) .o))) .o))))) func155 h
def Q5(C:CC)(a c:V):bK:=λl h q=>ai C h F.size_digits [a,c,ge l 0] λa h=>bW a λa c=>aQ c (q .ret [a] h) (ak .mul (ge l 0) (I 2) λa=>q .normal [a] h)
def xN(C:CC)(a c:V)(q:kQ):=let h:Hp:=[]
 aY .eql a (I 2) (ai C h F.uZ [(.d (.str [50])),c] λa h=>bW a λa c=>q a h) (ak .add c (I 64) λd=>lp (Q5 C a c) [] h [d] h (aU [(.ret,λa h=>q (ge a 0) h)]))
theorem afE(h:xN DA t0 t1 (out v)):Ds F.xN [t0,t1] v:=aR 0 (lU (aB (.n (.l [7] [0,1] [(.ret,[4],[])] []) .o .o))) func113 h
def FH(C:CC)(a c d:V):bK:=λl h q=>aY .lss (ge l 3) d (jn (λa h=>ak .add (ge l 3) (I 1) λc=>q .normal [ge a 0,ge a 1,ge a 2,c] h) λd=>ai C h F.gv [ge l 0,ge l 0] λe h=>ai C h F.ji [e,a] λe h=>kA e λe f g=>ai C h F.gv [ge l 1,ge l 1] λf h=>ai C h F.ji [f,a] λa h=>kA a λa f g=>ai C h F.jj [a,(.d (.str [49]))] λa h=>ai C h F.jj [ge l 2,ge l 2] λf h=>jn (λa h=>d [ge a 1,ge a 2,ge a 0] h) λd=>ai C h F.u7 [e,c] λg h=>ak .geq g (I 0) λg=>jn (λa h=>d [ge a 0,ge a 1,ge a 2] h) λd=>aQ g (ai C h F.jj [f,(.d (.str [49]))] λc h=>ai C h F.ji [e,(.d (.str [50]))] λe h=>kA e λe f g=>ai C h F.ji [a,(.d (.str [50]))] λa h=>kA a λa f g=>ai C h F.jj [a,(.d (.str [49]))] λa h=>d [c,e,a] h) (ai C h F.u7 [a,c] λc h=>aY .geq c (I 0) (q .ret [(.d (.str [])),B SM] h) (d [f,e,a] h))) (q (.exit 0) [ge l 2] h)
def size_digits(C:CC)(a c d:V)(q:kQ):=let h:Hp:=[]
 bnd (ft .u64 a) λe=>ai C h F.yu [e] λe h=>ak .sub e (I 1) λe=>ai C h F.uZ [(.d (.str [50])),d] λf h=>bW f λf g=>ai C h F.jj [f,f] λg h=>ak .sub d e λd=>ai C h F.uZ [(.d (.str [50])),d] λd h=>bW d λd i=>ai C h F.iX [a] λa h=>ai C h F.gv [a,d] λa h=>ai C h F.iX [e] λd h=>lp (FH C f g c) [] h [a,a,d,I 0] h (aU [((.exit 0),λa h=>q (.tup [ge a 0,B Th]) h),(.ret,λa h=>q (.tup [ge a 0,ge a 1]) h)])
theorem afG(h:size_digits DA t0 t1 t2 (out v)):Ds F.size_digits [t0,t1,t2] v:=aR 0 (aiI (aP (aB (aP (aB (.n (.l [14,15,16,50] [9,11,49] [((.exit 0),[16],[]),(.ret,[6,7],[])] []) (cM (aB (.n (.j [14,15,16] [9,11,49,50]) (Bc (.n (.j [16,14,15] [9,11,49,50]) (aP (hO [16,14,15] [9,11,49,50])) .o)) .o))) .o)))))) func158 h
def Fx(C:CC)(a c d:V):bK:=λl h q=>aY .lss (ge l 0) d (aT h 2 a (ge l 0) λa=>bnd (aG h 2 a) λa=>bp C.p h c [a] λa h=>aQ a (q .ret [ge l 0] h) (ak .add (ge l 0) (I 1) λa=>q .normal [a] h)) (q (.exit 0) [] h)
def CQ(C:CC)(a c:V)(q:kQ):=let h:Hp:=[]
 ba a λd=>lp (Fx C a c d) [] h [I 0] h (aU [((.exit 0),λa h=>q (I (-1)) h),(.ret,λa h=>q (ge a 0) h)])
theorem aeV(h:CQ DA t0 t1 (out v)):Ds F.CQ [t0,t1] v:=aR 0 (aP (aB (aP (aB (.n (.l [8] [0,1,7] [((.exit 0),[],[]),(.ret,[4],[])] []) .o .o))))) func163 h
def Ak(C:CC)(a c:V)(q:kQ):=let h:Hp:=[]
 ai C h F.CQ [a,c] λa h=>ak .geq a (I 0) λa=>q a h
theorem ae5(h:Ak DA t0 t1 (out v)):Ds F.Ak [t0,t1] v:=aR 0 .o func120 h
def Fu(C:CC)(a c d:V):bK:=λl h q=>aY .lss (ge l 0) d (aT h 2 a (ge l 0) λa=>bnd (aG h 2 a) λa=>bp C.p h c [a] λa h=>aQ a (q .ret [ge l 0] h) (ak .add (ge l 0) (I 1) λa=>q .normal [a] h)) (q (.exit 0) [] h)
def CO(C:CC)(a c:V)(q:kQ):=let h:Hp:=[]
 ba a λd=>lp (Fu C a c d) [] h [I 0] h (aU [((.exit 0),λa h=>q (I (-1)) h),(.ret,λa h=>q (ge a 0) h)])
theorem aeT(h:CO DA t0 t1 (out v)):Ds F.CO [t0,t1] v:=aR 0 (aP (aB (aP (aB (.n (.l [8] [0,1,7] [((.exit 0),[],[]),(.ret,[4],[])] []) .o .o))))) func54 h
def xF(C:CC)(a c:V)(q:kQ):=let h:Hp:=[]
 ai C h F.CO [a,c] λa h=>ak .geq a (I 0) λa=>q a h
theorem ae3(h:xF DA t0 t1 (out v)):Ds F.xF [t0,t1] v:=aR 0 .o func26 h
def CR(C:CC)(a c d:V):bK:=λl h q=>aY .lss (ge l 0) d (aT h 2 a (ge l 0) λa=>bnd (aG h 2 a) λa=>aT h 2 c (ge l 0) λc=>bnd (aG h 2 c) λc=>bnd (pJ [.str [],.str []] .neq a c) λa=>aQ a (q .ret [B SM] h) (ak .add (ge l 0) (I 1) λa=>q .normal [a] h)) (q (.exit 0) [] h)
def xD(C:CC)(a c:V)(q:kQ):=let h:Hp:=[]
 ba a λd=>ba c λe=>aY .neq d e (q (B SM) h) (ba a λd=>lp (CR C a c d) [] h [I 0] h (aU [((.exit 0),λa h=>q (B Th) h),(.ret,λa h=>q (ge a 0) h)]))
theorem ae0(h:xD DA t0 t1 (out v)):Ds F.xD [t0,t1] v:=aR 0 (cM (aB (aP (aB (.n (.l [13] [0,1,12] [((.exit 0),[],[]),(.ret,[4],[])] []) .o .o))))) func83 h
def tR(C:CC)(a:V)(q:kQ):=let h:Hp:=.replicate 1 ah
 cu 0 [.d (.str []),.d (.str [])] h λc h=>ai C h F.iX [a] λa h=>bnd (fG [(0,1),(1,1)] [.str [],.str []] [(0,a),(1,(.d (.str [49])))]) λa=>aS h 2 c a λ_ h=>bnd (aG h 2 c) λa=>q a h
theorem afD(h:tR DA t0 (out v)):Ds F.tR [t0] v:=aR 1 (aB (aV [.slot 0])) func76 h
def FC(C:CC)(b:Nat)(a c:V):bK:=λl h q=>aY .lss (ge l 0) c (ai C h F.tR [I 0] λc h=>aT h 2 a (ge l 0) λa=>aS h 2 a c λ_ h=>ak .add (ge l 0) (I 1) λa=>q .normal [a] h) (q (.exit 0) [] h)
def xK(C:CC)(b:Nat)(h:Hp)(a:V)(q:kQ):=let h:Hp:=h++So 1 ah
 fS (b+0) 32 [.str [],.str []] h a a λa h=>ba a λc=>lp (FC C b a c) [] h [I 0] h (aU [((.exit 0),λc h=>q a h)])
def Ku(b:Nat):cr:=(.n .x .o (.n .x (.n (.r [.slot (b+0)]) .o .o) (.n .x (.n .x .o (.n .x (.n (.l [9] [3,8] [((.exit 0),[],[3])] []) .o .o) .o)) .o)))
theorem afm(C:CC)(h:Hp)(t0:V)(q:bG):iB Y C Tryz.f118 1 Ku [t0] h q=xK C (RW h) h t0 q:=by rfl
theorem afk(b:Nat):okB Tryz.prog Tryz.f118 (Ku b)=Th:=by rfl
theorem afl(hh:xK DA (RW h) h t0 (fA (RW h) v h2)):CI Y F.xK [t0] h v h2:=
 CI.of (fn:=Tryz.f118) (m:=1) (a:=Ku) rfl (λ_=>rfl) func118 (afk _) (by rw[afm];exact hh)
def CU(C:CC)(a c d e f:V):bK:=λl h q=>aY .lss (ge l 0) f (aT h 2 e (ge l 0) λe=>bnd (aG h 2 e) λe=>cu 1 [.d (.str []),.d (.str [])] h λf h=>aS h 2 f e λ_ h=>aT h 2 c (ge l 0) λe=>bnd (aG h 2 e) λe=>bnd (aG h 2 f) λf=>aT h 2 a d λa=>bnd (aG h 2 a) λa=>ai C h F.wN [f,a] λa h=>ai C h F.qn [e,a] λa h=>aT h 2 c (ge l 0) λc=>aS h 2 c a λ_ h=>ak .add (ge l 0) (I 1) λa=>q .normal [a] h) (q (.exit 2) [] h)
def FF(C:CC)(a c d e:V):bK:=λl h q=>aY .lss (ge l 0) e (aT h 1 d (ge l 0) λd=>aF h d λd=>ba d λe=>lp (CU C a c (ge l 0) d e) [1] h [I 0] h (aU [((.exit 2),λa h=>ak .add (ge l 0) (I 1) λa=>q .normal [a] h)])) (q (.exit 0) [] h)
def r8(C:CC)(a c d:V)(q:kQ):=let h:Hp:=.replicate 2 ah
 d7 C h F.xK [a] 0 λa h=>ba c λe=>lp (FF C d a c e) [1] h [I 0] h (aU [((.exit 0),λc h=>q a h)])
def Ky:cr:=(aP (bJ (aV [.inl 0]) (aB (aP (aB (.n (.l [16] [2,7,14,15] [((.exit 0),[],[7])] [1]) (cM (aB (aB (cM (aB (.n (.l [23] [2,7,8,14,15,16,21,22] [((.exit 2),[],[2,7,14,15,16])] [1]) (cM (aB (aB (aB (aV [.slot 1]))))) .o)))))) .o))))))
theorem afz(C:CC)(t0:V)(t1:V)(t2:V)(q:bG):lu Y C Tryz.f75 2 Ky [t0,t1,t2] q=r8 C t0 t1 t2 q:=by kernel_rfl
theorem afx:okB Tryz.prog Tryz.f75 Ky=Th:=dw
theorem afy(h:r8 DA t0 t1 t2 (out v)):Ds F.r8 [t0,t1,t2] v:=
 CP.of (fn:=Tryz.f75) (m:=2) (a:=Ky) rfl (λ_=>rfl) func75 afx (by rw[afz];exact h)
def FJ(C:CC)(a c d:V):bK:=λl h q=>aY .lss (ge l 0) d (aT h 1 c (ge l 0) λc=>aF h c λc=>ai C h F.tS [a,c] λa h=>dK a (q .ret [a] h) (ak .add (ge l 0) (I 1) λa=>q .normal [a] h)) (q (.exit 0) [] h)
def vE(C:CC)(a c:V)(q:kQ):=let h:Hp:=[]
 ai C h F.o6 [a] λd h=>dK d (q d h) (ba c λd=>lp (FJ C a c d) [] h [I 0] h (aU [((.exit 0),λa h=>q (I 0) h),(.ret,λa h=>q (ge a 0) h)]))
theorem afQ(h:vE DA t0 t1 (out v)):Ds F.vE [t0,t1] v:=aR 0 (cM (aB (aP (aB (.n (.l [16] [0,14,15] [((.exit 0),[],[]),(.ret,[4],[])] []) .o .o))))) func87 h
def Ap(C:CC)(a:V)(q:kQ):=let h:Hp:=[]
 ai C h F.xF [a,(.fn F.xM [] [])] λc h=>aQ c (q (.tup [dD,I 4]) h) (q (.tup [a,I 0]) h)
theorem afB(h:Ap DA t0 (out v)):Ds F.Ap [t0] v:=aR 0 .o func122 h
def xM(C:CC)(a:V)(q:kQ):=let h:Hp:=.replicate 1 ah
 cD 0 a h λa h=>bnd (aG h 2 a) λa=>ai C h F.vB [a] λa h=>bnd (gL .not a) λa=>q a h
theorem afC(h:xM DA t0 (out v)):Ds F.xM [t0] v:=aR 1 (aB (aV [.slot 0])) func164 h
def Aw(C:CC)(a c d:V)(q:kQ):=let h:Hp:=[]
 ai C h F.vE [a,c] λe h=>dK e (q (.tup [dD,e]) h) (ba d λe=>ba c λf=>aY .neq e f (q (.tup [dD,I 5]) h) (ai C h F.Ak [d,(.fn F.xO [] [])] λe h=>aQ e (q (.tup [dD,I 2]) h) (ba a λa=>ai C h F.r8 [a,c,d] λa h=>ai C h F.Ap [a] λa h=>bW a λa c=>q (.tup [a,c]) h)))
theorem afN(h:Aw DA t0 t1 t2 (out v)):Ds F.Aw [t0,t1,t2] v:=aR 0 .o func77 h
def xO(C:CC)(a:V)(q:kQ):=let h:Hp:=.replicate 1 ah
 cD 0 a h λa h=>bnd (aG h 2 a) λa=>ai C h F.uB [a] λa h=>ak .neq a (I 0) λa=>q a h
theorem afO(h:xO DA t0 (out v)):Ds F.xO [t0] v:=aR 1 (aB (aV [.slot 0])) func121 h
def vC(C:CC)(a c d:V)(q:kQ):=let h:Hp:=.replicate 1 ah
 cD 0 d h λd h=>cx 1 [aW] [(0,c)] h λc h=>bnd (aG h 2 d) λd=>cx 1 [.str [],.str []] [(0,d)] h λd h=>ai C h F.Aw [a,c,d] λa h=>bW a λa c=>q (.tup [a,c]) h
theorem afK(h:vC DA t0 t1 t2 (out v)):Ds F.vC [t0,t1,t2] v:=aR 1 (aB (aV [.slot 0])) func35 h
def Av(C:CC)(a c:V)(q:kQ):=let h:Hp:=[]
 ai C h F.xD [a,c] q
theorem afL(h:Av DA t0 t1 (out v)):Ds F.Av [t0,t1] v:=aR 0 .o func42 h
def FA(C:CC)(a c d:V):bK:=λl h q=>aY .lss (ge l 0) d (aT h 1 a (ge l 0) λa=>aF h a λa=>aT h 1 c (ge l 0) λc=>aF h c λc=>aY .neq a c (q .ret [B SM] h) (ak .add (ge l 0) (I 1) λa=>q .normal [a] h)) (q (.exit 0) [] h)
def vu(C:CC)(a c:V)(q:kQ):=let h:Hp:=[]
 ba a λd=>ba c λe=>aY .neq d e (q (B SM) h) (ba a λd=>lp (FA C a c d) [] h [I 0] h (aU [((.exit 0),λa h=>q (B Th) h),(.ret,λa h=>q (ge a 0) h)]))
theorem ae1(h:vu DA t0 t1 (out v)):Ds F.vu [t0,t1] v:=aR 0 (cM (aB (aP (aB (.n (.l [13] [0,1,12] [((.exit 0),[],[]),(.ret,[4],[])] []) .o .o))))) func98 h
def yp(C:CC)(a c:V)(q:kQ):=let h:Hp:=[]
 cx 1 [aW] [(0,c)] h λc h=>ai C h F.Be [a,c] q
theorem aiT(h:yp DA t0 t1 (out v)):Ds F.yp [t0,t1] v:=aR 0 .o func61 h
def G6(C:CC)(a c:V):bK:=λl h q=>aY .lss (ge l 0) c (aT h 1 a (ge l 0) λa=>aF h a λa=>ak .gtr a (I 1000) λc=>bH c SM h a λa h=>aN c SM h (aD .lss a (I (-1000))) λa h=>cG c (B Th) a λa=>aQ a (q .ret [I 4] h) (ak .add (ge l 0) (I 1) λa=>q .normal [a] h)) (q (.exit 2) [] h)
def Dq(C:CC)(a c d:V):bK:=λl h q=>aY .lss (ge l 0) d (aT h 1 c (ge l 0) λc=>aF h c λc=>ba c λd=>ba a λa=>aY .neq d a (q .ret [I 5] h) (ba c λa=>lp (G6 C c a) [] h [I 0] h (aU [((.exit 2),λa h=>ak .add (ge l 0) (I 1) λa=>q .normal [a] h),(.ret,λa h=>q .ret [ge a 0] h)]))) (q (.exit 0) [] h)
def Be(C:CC)(a c:V)(q:kQ):=let h:Hp:=[]
 ai C h F.o6 [a] λd h=>dK d (q d h) (ba c λd=>lp (Dq C a c d) [] h [I 0] h (aU [((.exit 0),λa h=>q (I 0) h),(.ret,λa h=>q (ge a 0) h)]))
theorem aiU(h:Be DA t0 t1 (out v)):Ds F.Be [t0,t1] v:=aR 0 (cM (aB (aP (aB (.n (.l [17] [0,15,16] [((.exit 0),[],[]),(.ret,[4],[])] []) (cM (aB (aB (lU (aB (.n (.l [28] [0,15,16,17,26,27] [((.exit 2),[],[0,15,16,17]),(.ret,[4],[])] []) .o .o)))))) .o))))) func99 h
def xm(C:CC)(b:Nat)(h:Hp)(a c:V)(q:kQ):=let h:Hp:=h++So 2 ah
 cD (b+0) a h λa h=>bnd (aG h 4 a) λd=>ai C h F.xp [d] λd h=>dK d (q (.tup [dD,d]) h) (bi 0 a λd=>bi 0 d λd=>aF h d λd=>ai C h F.yp [d,c] λe h=>dK e (q (.tup [dD,e]) h) (bi 0 a λe=>bnd (aG h 3 e) λe=>ai C h F.zX [e,c] λc h=>bW c λc e=>dK e (q (.tup [dD,e]) h) (bi 3 a λa=>aF h a λa=>ai C h F.xn [c] λc h=>d7 C h F.xo [d,a,c] (b+1) λa h=>q (.tup [a,I 0]) h)))
def JF(b:Nat):cr:=(.n .x (.n (.r [.slot (b+0)]) .o .o) (.n .x .o (.n .x .o (.n .x .o (.n .x .o (.n .x .o (.n .x (.n (.r [.o,.inl (b+1)]) .o .o) .o)))))))
theorem ac7(C:CC)(h:Hp)(t0:V)(t1:V)(q:bG):iB Y C Tryz.f71 2 JF [t0,t1] h q=xm C (RW h) h t0 t1 q:=by rfl
theorem ac5(b:Nat):okB Tryz.prog Tryz.f71 (JF b)=Th:=by rfl
theorem ac6(hh:xm DA (RW h) h t0 t1 (fA (RW h) v h2)):CI Y F.xm [t0,t1] h v h2:=
 CI.of (fn:=Tryz.f71) (m:=2) (a:=JF) rfl (λ_=>rfl) func71 (ac5 _) (by rw[ac7];exact hh)
def EY(C:CC)(a c d:V):bK:=λl h q=>aY .lss (ge l 0) d (aT h 2 c (ge l 0) λc=>bnd (aG h 2 c) λc=>cu 2 [.d (.str []),.d (.str [])] h λd h=>aS h 2 d c λ_ h=>aT h 2 a (ge l 0) λc=>bnd (aG h 2 c) λc=>bnd (aG h 2 d) λd=>ai C h F.BJ [c,d] λc h=>aT h 2 a (ge l 0) λa=>aS h 2 a c λ_ h=>ak .add (ge l 0) (I 1) λa=>q .normal [a] h) (q (.exit 0) [] h)
def vf(C:CC)(a c:V)(q:kQ):=let h:Hp:=.replicate 3 ah
 cD 0 a h λa h=>bnd (aG h 4 a) λd=>d7 C h F.xm [d,c] 1 λd h=>bW d λd e=>dK e (q (.tup [dD,e]) h) (ai C h F.xn [c] λc h=>ba c λe=>lp (EY C d c e) [2] h [I 0] h (aU [((.exit 0),λc h=>bi 0 a λa=>bi 0 a λa=>aF h a λa=>ai C h F.zP [a,d] λa h=>bW a λa c=>q (.tup [a,c]) h)]))
theorem ade(h:vf DA t0 t1 (out v)):Ds F.vf [t0,t1] v:=aR 3 (bJ (aV [.slot 0]) (bJ (aV [.inl 1]) (aP (aB (aP (aB (.n (.l [22] [2,6,20,21] [((.exit 0),[],[2,6])] [2]) (cM (aB (aB (aB (aV [.slot 2]))))) .o))))))) func33 h
def xp(C:CC)(a:V)(q:kQ):=let h:Hp:=.replicate 1 ah
 cD 0 a h λa h=>bi 0 a λc=>bnd (aG h 3 c) λc=>ai C h F.tG [c] λc h=>dK c (q c h) (bi 3 a λc=>aF h c λc=>ba c λc=>bi 0 a λd=>bi 2 d λd=>aF h d λd=>ba d λd=>aY .neq c d (q (I 5) h) (bi 0 a λc=>bi 0 c λc=>aF h c λc=>bi 3 a λa=>aF h a λa=>ai C h F.vE [c,a] q))
theorem adf(h:xp DA t0 (out v)):Ds F.xp [t0] v:=aR 1 (aB (aV [.slot 0])) func53 h
def zP(C:CC)(a c:V)(q:kQ):=let h:Hp:=[]
 ai C h F.vF [a,c] λa h=>dK a (q (.tup [dD,I 4]) h) (q (.tup [c,I 0]) h)
theorem ac8(h:zP DA t0 t1 (out v)):Ds F.zP [t0,t1] v:=aR 0 .o func74 h
def EV(C:CC)(a c:V):bK:=λl h q=>aY .lss (ge l 1) c (aT h 1 a (ge l 1) λa=>aF h a λa=>ai C h F.sY [a,I 1] λa h=>bW a λa c=>cu 0 [.d (.str []),.d (.str [])] h λc h=>aS h 2 c a λ_ h=>bnd (aG h 2 c) λa=>cx 1 [.str [],.str []] [(0,a)] h λa h=>cV SM 1 2 32 (ge l 0) a h λa h=>ak .add (ge l 1) (I 1) λc=>q .normal [a,c] h) (q (.exit 0) [ge l 0] h)
def xn(C:CC)(a:V)(q:kQ):=let h:Hp:=.replicate 2 ah
 ba a λc=>lp (EV C a c) [0] h [dD,I 0] h (aU [((.exit 0),λa h=>q (ge a 0) h)])
theorem ac9(h:xn DA t0 (out v)):Ds F.xn [t0] v:=aR 2 (cM (aB (aP (aB (.n (.l [3,10] [8,9] [((.exit 0),[3],[])] [0]) (cM (aB (aB (aP (bJ (aV [.o,.slot 0]) (aV [.o,.slot 1])))))) .o))))) func72 h
def CN(C:CC)(b:Nat)(a:V):bK:=λl h q=>ba a λc=>aY .lss (ge l 0) c (bnd (gU h 2 a (Wf (ge l 0)) Vc) λc=>bnd (gU h 2 a Vc (Wf (ge l 0))) λa=>tf h 2 c a λa h=>ak .add (ge l 0) a λa=>q .normal [a] h) (q (.exit 0) [] h)
def xC(C:CC)(b:Nat)(h:Hp)(a c:V)(q:kQ):=let h:Hp:=h++So 1 ah
 ak .lss c (I 0) λd=>jn (λd h=>ba a λd=>bnd (ft .u64 d) λd=>bnd (ft .u64 c) λc=>ai C h F.Bh [d,c] λc h=>bW c λc d=>ak .gtr c (.d (.int .u64 0)) λc=>bH c SM h d λe h=>aN c SM h (aD .gtr e (.d (.int .u64 9223372036854775807))) λe h=>cG c (B Th) e λc=>jn (λc h=>bnd (ft .i64 d) λc=>fS (b+0) 32 [.str [],.str []] h c c λc h=>tf h 2 c a λa h=>lp (CN C b c) [] h [a] h (aU [((.exit 0),λa h=>q c h)])) λa=>aQ c (False /- makeInterface -/) (a [] h)) λa=>aQ d (False /- makeInterface -/) (a [] h)
def Kp(b:Nat):cr:=(.n .x .o (.n .x (.n .x .o (.n (.j [] [0,1]) .o .o)) (.n .x .o (.n .x (.n .x .o (.n (.j [] [0,6]) .o .o)) (.n .x (.n (.r [.slot (b+0)]) .o .o) (.n .x .o (.n .x (.n .x (.n (.l [8] [7] [((.exit 0),[],[7])] []) .o .o) .o) .o)))))))
theorem aeQ(C:CC)(h:Hp)(t0:V)(t1:V)(q:bG):iB Y C Tryz.f159 1 Kp [t0,t1] h q=xC C (RW h) h t0 t1 q:=by rfl
theorem aeO(b:Nat):okB Tryz.prog Tryz.f159 (Kp b)=Th:=by rfl
theorem aeP(hh:xC DA (RW h) h t0 t1 (fA (RW h) v h2)):CI Y F.xC [t0,t1] h v h2:=
 CI.of (fn:=Tryz.f159) (m:=1) (a:=Kp) rfl (λ_=>rfl) func159 (aeO _) (by rw[aeQ];exact hh)
def EW(C:CC)(b:Nat)(a c d e f:V):bK:=λl h q=>aY .lss (ge l 0) f (aT h 2 c (ge l 0) λf=>bnd (aG h 2 f) λf=>aT h 2 e (ge l 0) λe=>bnd (aG h 2 e) λe=>aT h 2 a d λa=>bnd (aG h 2 a) λa=>ai C h F.wN [e,a] λa h=>ai C h F.qn [f,a] λa h=>aT h 2 c (ge l 0) λc=>aS h 2 c a λ_ h=>ak .add (ge l 0) (I 1) λa=>q .normal [a] h) (q (.exit 2) [] h)
def EX(C:CC)(b:Nat)(a c d e:V):bK:=λl h q=>aY .lss (ge l 0) e (aT h 1 d (ge l 0) λd=>aF h d λd=>ba c λe=>lp (EW C b a c (ge l 0) d e) [] h [I 0] h (aU [((.exit 2),λa h=>ak .add (ge l 0) (I 1) λa=>q .normal [a] h)])) (q (.exit 0) [] h)
def xo(C:CC)(b:Nat)(h:Hp)(a c d:V)(q:kQ):=let h:Hp:=h++So 1 ah
 bnd (fG [(0,1),(1,1)] [.str [],.str []] [(0,(.d (.str [48]))),(1,(.d (.str [49])))]) λe=>cx 1 [.str [],.str []] [(0,e)] h λe h=>ba a λa=>d7 C h F.xC [e,a] (b+0) λa h=>ba c λe=>lp (EX C b d a c e) [] h [I 0] h (aU [((.exit 0),λc h=>q a h)])
def JG(b:Nat):cr:=(.n .x .o (.n .x (.n (.r [.o,.inl (b+0)]) .o .o) (.n .x (.n .x .o (.n .x (.n (.l [18] [2,7,16,17] [((.exit 0),[],[7])] []) (.n .x .o (.n .x .o (.n .x (.n .x (.n .x .o (.n .x .o (.n .x (.n (.l [25] [2,7,8,9,16,17,18,24] [((.exit 2),[],[2,7,16,17,18])] []) .o .o) .o))) .o) .o))) .o) .o)) .o)))
theorem adc(C:CC)(h:Hp)(t0:V)(t1:V)(t2:V)(q:bG):iB Y C Tryz.f115 1 JG [t0,t1,t2] h q=xo C (RW h) h t0 t1 t2 q:=by rfl
theorem ada(b:Nat):okB Tryz.prog Tryz.f115 (JG b)=Th:=by rfl
theorem adb(hh:xo DA (RW h) h t0 t1 t2 (fA (RW h) v h2)):CI Y F.xo [t0,t1,t2] h v h2:=
 CI.of (fn:=Tryz.f115) (m:=1) (a:=JG) rfl (λ_=>rfl) func115 (ada _) (by rw[adc];exact hh)
def BI(C:CC)(a:V)(q:kQ):=let h:Hp:=[]
 ai C h F.zZ [a] λc h=>dK c (q (.tup [B SM,c]) h) (ai C h F.BH [a] λa h=>q (.tup [a,I 0]) h)
theorem alj(h:BI DA t0 (out v)):Ds F.BI [t0] v:=aR 0 .o func91 h
def HZ(C:CC)(a c d:V):bK:=λl h q=>aY .lss (ge l 1) d (aT h 1 c (ge l 1) λc=>aF h c λc=>cu 0 [.d aW] h λd h=>aS h 1 d c λ_ h=>aF h d λc=>ai C h F.BF [c] λc h=>cu 1 [.d (.int .i64 0)] h λe h=>aS h 1 e c λ_ h=>aF h e λc=>ak .leq c (ge l 0) λc=>aN c SM h (ld1 h d) λf h=>aN c SM h (ld1 h e) λg h=>aN c SM h (bC h 1 f g) λf h=>aN c SM h (ld1 h f) λf h=>aN c SM h (aD .lss f (I 0)) λf h=>cG c (B Th) f λc=>aQ c (q .ret [B SM] h) (bnd (gU h 1 a Vc (Wf (ge l 1))) λa=>ai C h F.Al [a,(.fn F.wK [] [e,d])] λa h=>aQ a (q .ret [B SM] h) (aF h e λa=>ak .add (ge l 1) (I 1) λc=>q .normal [a,c] h))) (q (.exit 0) [] h)
def BH(C:CC)(a:V)(q:kQ):=let h:Hp:=.replicate 2 ah
 ba a λc=>lp (HZ C a a c) [0,1] h [I (-1),I 0] h (aU [((.exit 0),λa h=>q (B Th) h),(.ret,λa h=>q (ge a 0) h)])
theorem alh(h:BH DA t0 (out v)):Ds F.BH [t0] v:=aR 2 (cM (aB (aP (aB (.n (.l [3,9] [0,7,8] [((.exit 0),[],[]),(.ret,[2],[])] [0,1]) (cM (aB (aB (bJ (aV [.slot 0]) (aB (aV [.o,.slot 1])))))) .o))))) func134 h
def wK(C:CC)(a c d:V)(q:kQ):=let h:Hp:=[]
 aF h c λe=>aT h 1 a e λe=>aF h e λe=>ak .lss e (I 0) λe=>bH e SM h a λa h=>aN e SM h (ld1 h c) λf h=>aN e SM h (bC h 1 a f) λa h=>aN e SM h (ld1 h a) λa h=>aN e SM h (ld1 h d) λd h=>aN e SM h (ld1 h c) λc h=>aN e SM h (bC h 1 d c) λc h=>aN e SM h (ld1 h c) λc h=>aN e SM h (aD .geq a c) λa h=>cG e (B Th) a λa=>q a h
theorem ali(h:wK DA t0 t1 t2 (out v)):Ds F.wK [t0,t1,t2] v:=aR 0 .o func174 h
def BF(C:CC)(a:V)(q:kQ):=let h:Hp:=[]
 ai C h F.vt [a,(.fn F.BE [] [])] q
theorem alf(h:BF DA t0 (out v)):Ds F.BF [t0] v:=aR 0 .o func172 h
def BE(C:CC)(a:V)(q:kQ):=let h:Hp:=[]
 ak .neq a (I 0) λa=>q a h
theorem alg(h:BE DA t0 (out v)):Ds F.BE [t0] v:=aR 0 .o func192 h
def E9(C:CC)(a c d:V):bK:=λl h q=>aY .lss (ge l 0) d (aT h 1 c (ge l 0) λc=>aF h c λc=>ba c λd=>aY .gtr d (I 12) (q .ret [I 4] h) (ba c λd=>aT h 1 a (I 0) λa=>aF h a λa=>ba a λa=>aY .neq d a (q .ret [I 5] h) (ai C h F.xG [c,(.fn F.zY [] [])] λa h=>aQ a (q .ret [I 4] h) (ak .add (ge l 0) (I 1) λa=>q .normal [a] h)))) (q (.exit 0) [] h)
def zZ(C:CC)(a:V)(q:kQ):=let h:Hp:=[]
 ba a λc=>aY .gtr c (I 12) (q (I 4) h) (ba a λc=>lp (E9 C a a c) [] h [I 0] h (aU [((.exit 0),λa h=>q (I 0) h),(.ret,λa h=>q (ge a 0) h)]))
theorem adW(h:zZ DA t0 (out v)):Ds F.zZ [t0] v:=aR 0 (cM (aB (aP (aB (.n (.l [10] [0,8,9] [((.exit 0),[],[]),(.ret,[2],[])] []) .o .o))))) func133 h
def zY(C:CC)(a:V)(q:kQ):=let h:Hp:=[]
 ak .gtr a (I 1000000000) λc=>bH c SM h a λa h=>aN c SM h (aD .lss a (I (-1000000000))) λa h=>cG c (B Th) a λa=>q a h
theorem adV(h:zY DA t0 (out v)):Ds F.zY [t0] v:=aR 0 .o func171 h
def F6(C:CC)(a c d:V):bK:=λl h q=>aY .lss (ge l 0) d (aT h 1 c (ge l 0) λc=>aF h c λc=>ai C h F.vO [c] λd h=>dK d (q .ret [d] h) (ba c λc=>aY .neq c a (q .ret [I 5] h) (ak .add (ge l 0) (I 1) λa=>q .normal [a] h))) (q (.exit 0) [] h)
def AK(C:CC)(a c:V)(q:kQ):=let h:Hp:=[]
 ba a λd=>lp (F6 C c a d) [] h [I 0] h (aU [((.exit 0),λa h=>q (I 0) h),(.ret,λa h=>q (ge a 0) h)])
theorem agN(h:AK DA t0 t1 (out v)):Ds F.AK [t0,t1] v:=aR 0 (aP (aB (aP (aB (.n (.l [10] [1,8,9] [((.exit 0),[],[]),(.ret,[4],[])] []) .o .o))))) func132 h
def zF(C:CC)(a c:V)(q:kQ):=let h:Hp:=[]
 ai C h F.rO [c] λc h=>ai C h F.jj [a,c] q
theorem ab0(h:zF DA t0 t1 (out v)):Ds F.zF [t0,t1] v:=aR 0 .o func190 h
def HF(C:CC)(b:Nat)(a c:V):bK:=λl h q=>aY .lss (ge l 1) c (aT h 1 a (ge l 1) λa=>aF h a λa=>ai C h F.iX [a] λa h=>cx 1 [.str []] [(0,a)] h λa h=>cV SM (b+1) 1 16 (ge l 0) a h λa h=>ak .add (ge l 1) (I 1) λc=>q .normal [a,c] h) (q (.exit 0) [ge l 0] h)
def uu(C:CC)(b:Nat)(h:Hp)(a:V)(q:kQ):=let h:Hp:=h++So 2 ah
 ba a λc=>fS (b+0) 16 [.str []] h (I 0) c λc h=>ba a λd=>lp (HF C b a d) [] h [c,I 0] h (aU [((.exit 0),λa h=>q (ge a 0) h)])
def Mu(b:Nat):cr:=(.n .x .o (.n .x (.n (.r [.slot (b+0)]) .o .o) (.n .x (.n .x .o (.n .x (.n (.l [3,11] [9,10] [((.exit 0),[3],[])] []) (.n .x .o (.n .x .o (.n .x (.n .x (.n .x .o (.n (.r [.o,.o,.slot (b+1)]) .o .o)) .o) .o))) .o) .o)) .o)))
theorem aki(C:CC)(h:Hp)(t0:V)(q:bG):iB Y C Tryz.f135 2 Mu [t0] h q=uu C (RW h) h t0 q:=by rfl
theorem akg(b:Nat):okB Tryz.prog Tryz.f135 (Mu b)=Th:=by rfl
theorem akh(hh:uu DA (RW h) h t0 (fA (RW h) v h2)):CI Y F.uu [t0] h v h2:=
 CI.of (fn:=Tryz.f135) (m:=2) (a:=Mu) rfl (λ_=>rfl) func135 (akg _) (by rw[aki];exact hh)
def yD(C:CC)(b:Nat)(h:Hp)(a:V)(q:kQ):=let h:Hp:=h++So 2 ah
 fS (b+0) 8 [.int .i64 0] h a a λa h=>d7 C h F.uu [a] (b+1) q
def Mm(b:Nat):cr:=(.n .x .o (.n .x (.n (.r [.slot (b+0),.inl (b+1)]) .o .o) .o))
theorem ajW(C:CC)(h:Hp)(t0:V)(q:bG):iB Y C Tryz.f136 2 Mm [t0] h q=yD C (RW h) h t0 q:=by rfl
theorem ajU(b:Nat):okB Tryz.prog Tryz.f136 (Mm b)=Th:=by rfl
theorem ajV(hh:yD DA (RW h) h t0 (fA (RW h) v h2)):CI Y F.yD [t0] h v h2:=
 CI.of (fn:=Tryz.f136) (m:=2) (a:=Mm) rfl (λ_=>rfl) func136 (ajU _) (by rw[ajW];exact hh)
def HE(C:CC)(b:Nat)(a c d e:V):bK:=λl h q=>aY .lss (ge l 0) e (aT h 1 d (ge l 0) λd=>aF h d λd=>aT h 1 a (ge l 0) λe=>aF h e λe=>ai C h F.gv [c,d] λc h=>ai C h F.zF [e,c] λc h=>aT h 1 a (ge l 0) λa=>aS h 1 a c λ_ h=>ak .add (ge l 0) (I 1) λa=>q .normal [a] h) (q (.exit 0) [] h)
def wA(C:CC)(b:Nat)(h:Hp)(a c d:V)(q:kQ):=let h:Hp:=h++So 0 ah
 mg .eql c (.d (.str [48])) λe=>aQ e (q (.tup []) h) (ba d λe=>lp (HE C b a c d e) [] h [I 0] h (aU [((.exit 0),λa h=>q (.tup []) h)]))
def Mt(b:Nat):cr:=(.n .x .o (.n .x .o (.n .x (.n (.l [12] [0,1,10,11] [((.exit 0),[],[])] []) .o .o) .o)))
theorem akd(C:CC)(h:Hp)(t0:V)(t1:V)(t2:V)(q:bG):iB Y C Tryz.f168 0 Mt [t0,t1,t2] h q=wA C (RW h) h t0 t1 t2 q:=by rfl
theorem akb(b:Nat):okB Tryz.prog Tryz.f168 (Mt b)=Th:=by rfl
theorem akc(hh:wA DA (RW h) h t0 t1 t2 (fA (RW h) v h2)):CI Y F.wA [t0,t1,t2] h v h2:=
 CI.of (fn:=Tryz.f168) (m:=0) (a:=Mt) rfl (λ_=>rfl) func168 (akb _) (by rw[akd];exact hh)
def HD(C:CC)(b:Nat)(a c d:V):bK:=λl h q=>aY .lss (ge l 0) d (aT h 1 c (ge l 0) λc=>aF h c λc=>ai C h F.rO [c] λc h=>aT h 1 a (ge l 0) λa=>aS h 1 a c λ_ h=>ak .add (ge l 0) (I 1) λa=>q .normal [a] h) (q (.exit 0) [] h)
def yE(C:CC)(b:Nat)(h:Hp)(a:V)(q:kQ):=let h:Hp:=h++So 0 ah
 ba a λc=>lp (HD C b a a c) [] h [I 0] h (aU [((.exit 0),λa h=>q (.tup []) h)])
def Mr(b:Nat):cr:=(.n .x .o (.n .x (.n (.l [6] [0,4,5] [((.exit 0),[],[])] []) .o .o) .o))
theorem aka(C:CC)(h:Hp)(t0:V)(q:bG):iB Y C Tryz.f169 0 Mr [t0] h q=yE C (RW h) h t0 q:=by rfl
theorem aj8(b:Nat):okB Tryz.prog Tryz.f169 (Mr b)=Th:=by rfl
theorem aj9(hh:yE DA (RW h) h t0 (fA (RW h) v h2)):CI Y F.yE [t0] h v h2:=
 CI.of (fn:=Tryz.f169) (m:=0) (a:=Mr) rfl (λ_=>rfl) func169 (aj8 _) (by rw[aka];exact hh)
def DC(C:CC)(b:Nat)(a c:V):bK:=λl h q=>ba a λd=>aY .lss (ge l 1) d (jn (λa h=>ak .add (ge l 1) (I 1) λc=>q .normal [ge a 0,c] h) λd=>aT h 1 a (ge l 1) λe=>aF h e λe=>aT h 1 e c λe=>aF h e λe=>mg .neq e (.d (.str [48])) λe=>bH e Th h (ge l 0) λf h=>aN e Th h (aD .lss f (I 0)) λf h=>bH e Th h f λf h=>bH f SM h a λg h=>bH f SM h (ge l 1) λi h=>aN f SM h (bC h 1 g i) λg h=>aN f SM h (ld1 h g) λg h=>bH f SM h c λi h=>aN f SM h (bC h 1 g i) λg h=>aN f SM h (ld1 h g) λg h=>gd f SM h (λq=>ai C h F.lK [g] q) λg h=>bH f SM h a λa h=>bH f SM h (ge l 0) λi h=>aN f SM h (bC h 1 a i) λa h=>aN f SM h (ld1 h a) λa h=>bH f SM h c λc h=>aN f SM h (bC h 1 a c) λa h=>aN f SM h (ld1 h a) λa h=>gd f SM h (λq=>ai C h F.lK [a] q) λa h=>gd f SM h (λq=>ai C h F.u7 [g,a] q) λa h=>aN f SM h (aD .lss a (I 0)) λa h=>aN e Th h (kU f (B Th) a) λa h=>cG e a (B SM) λa=>jn (λa h=>d [ge a 0] h) λc=>aQ a (c [ge l 1] h) (c [ge l 0] h)) (q (.exit 4) [ge l 0] h)
def Hz(C:CC)(b:Nat)(a c d:V):bK:=λl h q=>ba a λe=>aY .lss (ge l 1) e (aT h 1 a (ge l 1) λe=>aF h e λe=>aT h 1 e d λe=>aF h e λe=>aT h 1 a c λf=>aF h f λf=>aT h 1 f d λd=>aF h d λd=>ai C h F.ji [e,d] λd h=>kA d λd e f=>aT h 1 a (ge l 1) λf=>aF h f λf=>aT h 1 a c λa=>aF h a λa=>d7 C h F.wA [f,d,a] (b+0) λa h=>bH (ge l 0) SM h e λa h=>aN (ge l 0) SM h (j7 .neq a (.d (.str [48]))) λa h=>cG (ge l 0) (B Th) a λa=>ak .add (ge l 1) (I 1) λc=>q .normal [a,c] h) (q (.exit 6) [ge l 0] h)
def Dz(C:CC)(b:Nat)(a c d e:V):bK:=λl h q=>aY .lss (ge l 0) e (aT h 1 a (ge l 0) λe=>aF h e λe=>aT h 1 e d λe=>aF h e λe=>aT h 1 a c λf=>aF h f λf=>aT h 1 f d λd=>aF h d λd=>ai C h F.ji [e,d] λd h=>kA d λd e f=>aT h 1 a (ge l 0) λe=>aF h e λe=>aT h 1 a c λa=>aF h a λa=>d7 C h F.wA [e,d,a] (b+2) λa h=>ak .add (ge l 0) (I 1) λa=>q .normal [a] h) (q (.exit 8) [] h)
def Mn(C:CC)(b:Nat)(a c:V):bK:=λl h q=>lp (DC C b a c) [] h [I (-1),ge l 0] h (aU [((.exit 4),λd h=>aY .lss (ge d 0) (I 0) (q (.exit 2) [ge l 0] h) (aT h 1 a (ge d 0) λe=>aF h e λe=>aT h 1 a (ge l 0) λf=>aF h f λf=>aT h 1 a (ge l 0) λg=>aS h 1 g e λ_ h=>aT h 1 a (ge d 0) λd=>aS h 1 d f λ_ h=>ak .add (ge l 0) (I 1) λd=>lp (Hz C b a (ge l 0) c) [(b+0)] h [B SM,d] h (aU [((.exit 6),λd h=>aQ (ge d 0) (q .normal [ge l 0] h) (aT h 1 a (ge l 0) λd=>aF h d λd=>aT h 1 d c λd=>aF h d λd=>ai C h F.kR [d] λd h=>ak .lss d (I 0) λd=>jn (λd h=>lp (Dz C b a (ge l 0) c (ge l 0)) [(b+2)] h [I 0] h (aU [((.exit 8),λa h=>ak .add (ge l 0) (I 1) λa=>q (.exit 2) [a] h)])) λc=>aQ d (aT h 1 a (ge l 0) λa=>aF h a λa=>d7 C h F.yE [a] (b+1) λa h=>c [] h) (c [] h)))])))])
def DF(C:CC)(b:Nat)(a c:V):bK:=λl h q=>ak .lss (ge l 1) c λc=>bH c Th h (ge l 0) λd h=>bH c Th h a λe h=>aN c Th h (bh e) λe h=>aN c Th h (aD .lss d e) λd h=>cG c d (B SM) λc=>aQ c (lp (Mn C b a (ge l 1)) [(b+0),(b+1),(b+2)] h [ge l 0] h (aU [((.exit 2),λa h=>ak .add (ge l 1) (I 1) λc=>q .normal [ge a 0,c] h)])) (q (.exit 0) [ge l 0] h)
def qW(C:CC)(b:Nat)(h:Hp)(a c:V)(q:kQ):=let h:Hp:=h++So 3 ah
 lp (DF C b a c) [(b+0),(b+1),(b+2)] h [I 0,I 0] h (aU [((.exit 0),λc h=>bnd (gU h 1 a Vc (Wf (ge c 0))) λa=>q a h)])
def Mo(b:Nat):cr:=(.n .x .o (.n .x .o (.n .x (.n .x .o (.n .x (.n (.l [5,6] [0,1] [((.exit 0),[5],[0])] [(b+0),(b+1),(b+2)]) (.n .x .o (.n .x (.n .x (.n .x (.n (.l [5] [0,1,6] [((.exit 2),[5],[0,1,6])] [(b+0),(b+1),(b+2)]) (.n .x (.n .x .o (.n .x (.n .x .o (.n .x (.n (.l [7,8] [0,1,5,6] [((.exit 4),[7],[0,1,5,6])] []) (.n .x .o (.n .x (.n (.j [7] [0,1,5,6,8]) (.n .x .o (.n (.j [7] [0,1,5,6,8]) .o .o)) .o) .o)) .o) .o)) (.n .x .o (.n .x .o (.n .x .o (.n .x (.n .x .o (.n .x (.n (.l [9,10] [0,1,5,6] [((.exit 6),[9],[0,1,5,6])] [(b+0)]) (.n .x .o (.n .x (.n .x (.n .x .o (.n .x (.n (.r [.inl (b+0)]) .o .o) .o)) .o) .o)) .o) .o)) (.n .x .o (.n .x (.n .x .o (.n (.j [] [0,1,5,6]) (.n (.r [.inl (b+1)]) .o .o) .o)) (.n .x (.n .x .o (.n .x (.n (.l [143] [0,1,5,6,142] [((.exit 8),[],[0,1,5,6])] [(b+2)]) (.n .x .o (.n .x .o (.n .x (.n .x (.n .x .o (.n .x .o (.n (.r [.inl (b+2)]) .o .o))) .o) .o))) .o) .o)) .o))))))))) .o) .o) .o) .o) .o)) .o) .o)) .o)))
theorem aj0(C:CC)(h:Hp)(t0:V)(t1:V)(q:bG):iB Y C Tryz.f129 3 Mo [t0,t1] h q=qW C (RW h) h t0 t1 q:=by rfl
theorem ajZ(b:Nat):okB Tryz.prog Tryz.f129 (Mo b)=Th:=by rfl
theorem Vj(hh:qW DA (RW h) h t0 t1 (fA (RW h) v h2)):CI Y F.qW [t0,t1] h v h2:=
 CI.of (fn:=Tryz.f129) (m:=3) (a:=Mo) rfl (λ_=>rfl) func129 (ajZ _) (by rw[aj0];exact hh)
def HB(C:CC)(b:Nat)(a c:V):bK:=λl h q=>aY .lss (ge l 1) c (aT h 1 a (ge l 1) λa=>aF h a λa=>anyS λs4=>d7 C h F.uu [a] s4 λa h=>anyS λs6=>qh s6 1 [aW] [(0,a)] h λa h=>anyS λs8=>nf SM s8 1 24 (ge l 0) a h λa h=>ak .add (ge l 1) (I 1) λc=>q .normal [a,c] h) (q (.exit 0) [ge l 0] h)
def qi(C:CC)(b:Nat)(h:Hp)(a:V)(q:kQ):=let h:Hp:=h++So 14 ah
 ba a λc=>lp (HB C b a c) [] h [dD,I 0] h (aU [((.exit 0),λa h=>q (ge a 0) h)])
def Mq(b:Nat):cr:=(.n .x .o (.n .x .o (.n .x (.n .x .o (.n .x (.n (.l [3,8] [6,7] [((.exit 0),[3],[])] []) (.n .x .o (.n .x .o (.n .x (.n .x (.n .x .o (.n (.r [.anyI,.anyV,.anyV]) .o .o)) .o) .o))) .o) .o)) .o)))
theorem aj6(C:CC)(h:Hp)(t0:V)(q:bG):iB Y C Tryz.f92 14 Mq [t0] h q=qi C (RW h) h t0 q:=by rfl
theorem aj4(b:Nat):okB Tryz.prog Tryz.f92 (Mq b)=Th:=by rfl
theorem aj5(hh:qi DA (RW h) h t0 (fA (RW h) v h2)):CI Y F.qi [t0] h v h2:=
 CI.of (fn:=Tryz.f92) (m:=14) (a:=Mq) rfl (λ_=>rfl) func92 (aj4 _) (by rw[aj6];exact hh)
def HA(C:CC)(a c:V):bK:=λl h q=>aY .lss (ge l 1) c (aT h 1 a (ge l 1) λa=>aF h a λa=>anyS λs4=>d7 C h F.uu [a] s4 λa h=>anyS λs6=>qh s6 1 [aW] [(0,a)] h λa h=>anyS λs8=>nf SM s8 1 24 (ge l 0) a h λa h=>ak .add (ge l 1) (I 1) λc=>q .normal [a,c] h) (q (.exit 0) [ge l 0] h)
def Vl(C:CC)(a:V)(q:kQ):=let h:Hp:=.replicate 14 ah
 ba a λc=>lp (HA C a c) [] h [dD,I 0] h (aU [((.exit 0),λa h=>q (ge a 0) h)])
theorem aj3(h:Vl DA t0 (out v)):Ds F.qi [t0] v:=aR 14 (cM (aB (aP (aB (.n (.l [3,8] [6,7] [((.exit 0),[3],[])] []) (cM (aB (aB (aP (aV [.anyI,.anyV,.anyV]))))) .o))))) func92 h
def DG(C:CC)(b:Nat)(a c d:V):bK:=λl h q=>aY .lss (ge l 1) d (jn (λa h=>ak .add (ge l 1) (I 1) λc=>q .normal [ge a 0,c] h) λd=>aT h 1 c (ge l 1) λc=>aF h c λc=>ai C h F.Bs [c] λe h=>ak .geq e a λe=>jn (λa h=>d [ge a 0] h) λd=>aQ e (bnd (gU h 1 c (Wf a) Vc) λa=>anyS λs12=>qh s12 1 [aW] [(0,a)] h λa h=>anyS λs14=>nf SM s14 1 24 (ge l 0) a h λa h=>d [a] h) (d [ge l 0] h)) (q (.exit 0) [ge l 0] h)
def ut(C:CC)(b:Nat)(h:Hp)(a c d:V)(q:kQ):=let h:Hp:=h++So 2 ah
 ba a λe=>lp (DG C b c a e) [] h [dD,I 0] h (aU [((.exit 0),λa h=>d7 C h F.qW [ge a 0,d] (b+0) q)])
def Mp(b:Nat):cr:=(.n .x .o (.n .x .o (.n .x (.n .x .o (.n .x (.n (.l [7,12] [1,2,10,11] [((.exit 0),[7],[2])] []) (.n .x .o (.n .x .o (.n .x (.n (.j [7] [1,2,10,11,12]) (.n .x .o (.n .x .o (.n (.j [7] [1,2,10,11,12]) (.n (.r [.anyV,.anyV]) .o .o) .o))) .o) .o))) .o) .o)) (.n .x (.n (.r [.inl (b+0)]) .o .o) .o))))
theorem aj2(C:CC)(h:Hp)(t0:V)(t1:V)(t2:V)(q:bG):iB Y C Tryz.f137 2 Mp [t0,t1,t2] h q=ut C (RW h) h t0 t1 t2 q:=by rfl
theorem aj1(b:Nat):okB Tryz.prog Tryz.f137 (Mp b)=Th:=by rfl
theorem Vk(hh:ut DA (RW h) h t0 t1 t2 (fA (RW h) v h2)):CI Y F.ut [t0,t1,t2] h v h2:=
 CI.of (fn:=Tryz.f137) (m:=2) (a:=Mp) rfl (λ_=>rfl) func137 (aj1 _) (by rw[aj2];exact hh)
def Hv(C:CC)(a c d:V):bK:=λl h q=>aY .lss (ge l 1) d (aT h 1 c (ge l 1) λc=>aF h c λc=>aT h 1 c a λa=>aF h a λa=>cx 1 [.str []] [(0,a)] h λa h=>anyS λs7=>cV SM s7 1 16 (ge l 0) a h λa h=>ak .add (ge l 1) (I 1) λc=>q .normal [a,c] h) (q (.exit 2) [ge l 0] h)
def Hy(C:CC)(a c d:V):bK:=λl h q=>aY .lss (ge l 1) d (ba a λd=>lp (Hv C (ge l 1) a d) [] h [dD,I 0] h (aU [((.exit 2),λa h=>d7 C h F.yD [c] 0 λc h=>aT h 1 c (ge l 1) λd=>aS h 1 d (.d (.str [49])) λ_ h=>anyS λs7=>cV SM s7 1 16 (ge a 0) c h λa h=>anyS λs9=>qh s9 1 [aW] [(0,a)] h λa h=>anyS λs11=>nf SM s11 1 24 (ge l 0) a h λa h=>ak .add (ge l 1) (I 1) λc=>q .normal [a,c] h)])) (q (.exit 0) [ge l 0] h)
def wz(C:CC)(a c:V)(q:kQ):=let h:Hp:=.replicate 19 ah
 lp (Hy C a c c) [0] h [dD,I 0] h (aU [((.exit 0),λd h=>ba a λe=>ak .add e c λe=>d7 C h F.qW [ge d 0,e] 1 λd h=>ba a λa=>d7 C h F.ut [d,a,c] 2 q)])
theorem ajY(h:wz DA t0 t1 (out v)):Ds F.wz [t0,t1] v:=aR 19 (cM (bJ (aP (aB (.n (.l [5,12] [0,1,11] [((.exit 0),[5],[0,1])] [0]) (cM (aB (aB (cM (bJ (aP (aB (.n (.l [7,17] [0,1,5,6,11,12,15,16] [((.exit 2),[7],[0,1,5,6,11,12])] []) (cM (aB (aB (aP (aV [.o,.anyS]))))) .o))) (bJ (aV [.inl 0]) (aP (aV [.anyS,.anyV,.anyV])))))))) .o))) (aB (aV [.inl 1,.inl 2])))) func93 h
def Bs(C:CC)(a:V)(q:kQ):=let h:Hp:=[]
 ai C h F.Ft [a,(.fn F.yF [] [])] q
theorem ake(h:Bs DA t0 (out v)):Ds F.Bs [t0] v:=aR 0 .o func175 h
def yF(C:CC)(a:V)(q:kQ):=let h:Hp:=[]
 mg .neq a (.d (.str [48])) λa=>q a h
theorem akf(h:yF DA t0 (out v)):Ds F.yF [t0] v:=aR 0 .o func195 h
def aeR(C:CC)(a c d:V):bK:=λl h q=>aY .lss (ge l 0) d (aT h 1 a (ge l 0) λa=>aF h a λa=>bp C.p h c [a] λa h=>aQ a (q .ret [ge l 0] h) (ak .add (ge l 0) (I 1) λa=>q .normal [a] h)) (q (.exit 0) [] h)
def Ft(C:CC)(a c:V)(q:kQ):=let h:Hp:=[]
 ba a λd=>lp (aeR C a c d) [] h [I 0] h (aU [((.exit 0),λa h=>q (I (-1)) h),(.ret,λa h=>q (ge a 0) h)])
theorem aeS(h:Ft DA t0 t1 (out v)):Ds F.Ft [t0,t1] v:=aR 0 (aP (aB (aP (aB (.n (.l [8] [0,1,7] [((.exit 0),[],[]),(.ret,[4],[])] []) .o .o))))) func194 h
def HC(C:CC)(a c:V):bK:=λl h q=>aY .lss (ge l 1) c (aT h 1 a (ge l 1) λa=>aF h a λa=>ai C h F.uY [a] λa h=>bW a λa c=>bnd (gL .not c) λc=>bH c SM h a λd h=>aN c SM h (aD .gtr d (I 1000000000)) λd h=>cG c (B Th) d λc=>bH c SM h a λd h=>aN c SM h (aD .lss d (I (-1000000000))) λd h=>cG c (B Th) d λc=>aQ c (q .ret [dD,I 4] h) (uS 1 (ge l 0) a h λa h=>ak .add (ge l 1) (I 1) λc=>q .normal [a,c] h)) (q (.exit 0) [ge l 0] h)
def Br(C:CC)(a:V)(q:kQ):=let h:Hp:=.replicate 2 ah
 ba a λc=>fS 0 8 [.int .i64 0] h (I 0) c λc h=>ba a λd=>lp (HC C a d) [] h [c,I 0] h (aU [((.exit 0),λa h=>q (.tup [ge a 0,I 0]) h),(.ret,λa h=>q (.tup [ge a 0,ge a 1]) h)])
theorem aj7(h:Br DA t0 (out v)):Ds F.Br [t0] v:=aR 2 (aP (bJ (aV [.slot 0]) (aB (aP (aB (.n (.l [4,14] [12,13] [((.exit 0),[4],[]),(.ret,[2,3],[])] []) (cM (aB (aB (lU (aV [.o,.slot 1]))))) .o)))))) func138 h
def Hu(C:CC)(a c d e:V):bK:=λl h q=>aY .lss (ge l 0) e (aT h 1 d (ge l 0) λd=>aF h d λd=>ai C h F.Br [d] λd h=>bW d λd e=>dK e (bnd (fG [(0,1),(1,1)] [.int .i64 0,aW] []) λc=>aS h 2 a c λ_ h=>q .ret [e] h) (bi 1 c λa=>aF h a λa=>cx 1 [aW] [(0,d)] h λd h=>cV SM 2 1 24 a d h λa h=>bi 1 c λc=>aS h 1 c a λ_ h=>ak .add (ge l 0) (I 1) λa=>q .normal [a] h)) (q (.exit 0) [] h)
def wy(C:CC)(a c:V)(q:kQ):=let h:Hp:=.replicate 3 ah
 cu 0 [.d (.int .i64 0),.d aW] h λd h=>bnd (fG [(0,1),(1,1)] [.int .i64 0,aW] [(0,c)]) λc=>cu 1 [.d (.int .i64 0),.d aW] h λe h=>aS h 2 e c λ_ h=>ba a λc=>lp (Hu C d e a c) [] h [I 0] h (aU [((.exit 0),λa h=>bnd (aG h 2 e) λa=>aS h 2 d a λ_ h=>bnd (aG h 2 d) λa=>q (.tup [a,I 0]) h),(.ret,λa h=>bnd (aG h 2 d) λc=>q (.tup [c,ge a 0]) h)])
theorem ajX(h:wy DA t0 t1 (out v)):Ds F.wy [t0,t1] v:=aR 3 (bJ (aV [.slot 0]) (bJ (aV [.slot 1]) (aB (aP (aB (.n (.l [15] [4,6,13,14] [((.exit 0),[],[4,6]),(.ret,[5],[4])] []) (cM (aB (aB (lU (aV [.o,.slot 2]))))) .o)))))) func94 h
def yH(C:CC)(a:V)(q:kQ):=let h:Hp:=.replicate 2 ah
 cD 0 a h λa h=>cu 1 [.d (.int .i64 0),.d aW] h λc h=>bnd (aG h 2 a) λd=>ai C h F.wB [d] λd h=>dK d (bnd (fG [(0,1),(1,1)] [.int .i64 0,aW] []) λa=>aS h 2 c a λ_ h=>bnd (aG h 2 c) λa=>q (.tup [a,d]) h) (bi 1 a λd=>aF h d λd=>ai C h F.qi [d] λd h=>bi 0 a λe=>aF h e λe=>ai C h F.wz [d,e] λd h=>bi 0 a λe=>aF h e λe=>ai C h F.wz [d,e] λd h=>bi 0 a λa=>aF h a λa=>ai C h F.wy [d,a] λa h=>bW a λa d=>aS h 2 c a λ_ h=>bnd (aG h 2 c) λa=>q (.tup [a,d]) h)
theorem akk(h:yH DA t0 (out v)):Ds F.yH [t0] v:=aR 2 (aB (aV [.slot 0,.slot 1])) func57 h
def yJ(C:CC)(a:V)(q:kQ):=let h:Hp:=.replicate 2 ah
 cD 0 a h λa h=>cu 1 [.d (.int .i64 0),.d aW] h λc h=>bnd (aG h 2 a) λd=>ai C h F.wB [d] λd h=>dK d (bnd (fG [(0,1),(1,1)] [.int .i64 0,aW] []) λa=>aS h 2 c a λ_ h=>bnd (aG h 2 c) λa=>q (.tup [a,d]) h) (bi 1 a λd=>aF h d λd=>ai C h F.qi [d] λd h=>bi 0 a λe=>aF h e λe=>ai C h F.wz [d,e] λd h=>bi 0 a λa=>aF h a λa=>ai C h F.wy [d,a] λa h=>bW a λa d=>aS h 2 c a λ_ h=>bnd (aG h 2 c) λa=>q (.tup [a,d]) h)
theorem ako(h:yJ DA t0 (out v)):Ds F.yJ [t0] v:=aR 2 (aB (aV [.slot 0,.slot 1])) func59 h
def Bt(C:CC)(a c:V)(q:kQ):=let h:Hp:=.replicate 16 ah
 cu 0 [.d (.int .i64 0),.d aW] h λd h=>ai C h F.yG [a,c] λe h=>dK e (bnd (fG [(0,1),(1,1)] [.int .i64 0,aW] []) λa=>aS h 2 d a λ_ h=>bnd (aG h 2 d) λa=>q (.tup [a,e]) h) (d7 C h F.qi [c] 1 λc h=>d7 C h F.qW [c,a] 2 λc h=>ai C h F.wy [c,a] λa h=>bW a λa c=>aS h 2 d a λ_ h=>bnd (aG h 2 d) λa=>q (.tup [a,c]) h)
theorem akl(h:Bt DA t0 t1 (out v)):Ds F.Bt [t0,t1] v:=aR 16 (bJ (aV [.slot 0]) (aP (aB (aV [.inl 1,.inl 2])))) func84 h
def yG(C:CC)(a c:V)(q:kQ):=let h:Hp:=[]
 ak .lss a (I 0) λd=>bH d SM h a λe h=>aN d SM h (aD .gtr e (I 12)) λe h=>cG d (B Th) e λd=>aQ d (q (I 3) h) (ba c λd=>aY .gtr d (I 12) (q (I 4) h) (ai C h F.AK [c,a] q))
theorem akj(h:yG DA t0 t1 (out v)):Ds F.yG [t0,t1] v:=aR 0 .o func90 h
def wB(C:CC)(a:V)(q:kQ):=let h:Hp:=.replicate 1 ah
 cD 0 a h λa h=>bi 0 a λc=>aF h c λc=>bi 1 a λd=>aF h d λd=>ai C h F.yG [c,d] λc h=>dK c (q c h) (bi 1 a λa=>aF h a λa=>ai C h F.BI [a] λa h=>bW a λa c=>ak .neq c (I 0) λc=>bH c SM h a λa h=>aN c SM h (gL .not a) λa h=>cG c (B Th) a λa=>aQ a (q (I 7) h) (q (I 0) h))
theorem akn(h:wB DA t0 (out v)):Ds F.wB [t0] v:=aR 1 (aB (aV [.slot 0])) func56 h
def yI(C:CC)(a c:V)(q:kQ):=let h:Hp:=.replicate 2 ah
 cD 0 a h λa h=>cD 1 c h λc h=>bi 0 a λd=>aF h d λd=>bi 0 c λe=>aF h e λe=>ak .eql d e λd=>aN d Th h (ik 1 a) λa h=>aN d Th h (ld1 h a) λa h=>aN d Th h (ik 1 c) λc h=>aN d Th h (ld1 h c) λc h=>gd d Th h (λq=>ai C h F.xE [a,c,(.fn F.xX [] [])] q) λa h=>cG d a (B SM) λa=>q a h
theorem akm(h:yI DA t0 t1 (out v)):Ds F.yI [t0,t1] v:=aR 2 (aB (aV [.slot 0,.slot 1])) func58 h
def FB(C:CC)(a c d e:V):bK:=λl h q=>aY .lss (ge l 0) e (aT h 1 d (ge l 0) λd=>aF h d λd=>aT h 1 a (ge l 0) λa=>aF h a λa=>bp C.p h c [d,a] λa h=>bnd (gL .not a) λa=>aQ a (q .ret [B SM] h) (ak .add (ge l 0) (I 1) λa=>q .normal [a] h)) (q (.exit 0) [] h)
def xE(C:CC)(a c d:V)(q:kQ):=let h:Hp:=[]
 ba a λe=>ba c λf=>aY .neq e f (q (B SM) h) (ba a λe=>lp (FB C c d a e) [] h [I 0] h (aU [((.exit 0),λa h=>q (B Th) h),(.ret,λa h=>q (ge a 0) h)]))
theorem ae2(h:xE DA t0 t1 t2 (out v)):Ds F.xE [t0,t1,t2] v:=aR 0 (cM (aB (aP (aB (.n (.l [17] [1,2,15,16] [((.exit 0),[],[]),(.ret,[6],[])] []) .o .o))))) func95 h
def vN(C:CC)(a:V)(q:kQ):=let h:Hp:=[]
 ak .geq a (I (-1000000000)) λc=>bH c Th h a λa h=>aN c Th h (aD .leq a (I 1000000000)) λa h=>cG c a (B SM) λa=>q a h
theorem agJ(h:vN DA t0 (out v)):Ds F.vN [t0] v:=aR 0 .o func125 h
def AJ(C:CC)(a:V)(q:kQ):=let h:Hp:=[]
 ai C h F.vN [a] λa h=>bnd (gL .not a) λa=>q a h
theorem agM(h:AJ DA t0 (out v)):Ds F.AJ [t0] v:=aR 0 .o func124 h
def vO(C:CC)(a:V)(q:kQ):=let h:Hp:=[]
 ba a λc=>ak .gtr c (I 64) λc=>bH c SM h a λa h=>gd c SM h (λq=>ai C h F.xG [a,(.fn F.AJ [] [])] q) λa h=>cG c (B Th) a λa=>aQ a (q (I 4) h) (q (I 0) h)
theorem agL(h:vO DA t0 (out v)):Ds F.vO [t0] v:=aR 0 .o func78 h
def xX(C:CC)(a c:V)(q:kQ):=let h:Hp:=[]
 ai C h F.vu [a,c] q
theorem agK(h:xX DA t0 t1 (out v)):Ds F.xX [t0,t1] v:=aR 0 .o func96 h
def r9(C:CC)(a c:V)(q:kQ):=let h:Hp:=[]
 ai C h F.vF [a,c] λd h=>dK d (q (.tup [I 0,d]) h) (ai C h F.vA [a,c] λa h=>ai C h F.oW [a] λa h=>q (.tup [a,I 0]) h)
theorem afJ(h:r9 DA t0 t1 (out v)):Ds F.r9 [t0,t1] v:=aR 0 .o func11 h
def vG(C:CC)(a c:V)(q:kQ):=let h:Hp:=[]
 ai C h F.r9 [a,c] λd h=>bW d λd e=>dK e (q (.tup [dD,e]) h) (ba a λa=>cx 1 [aW] [(0,c)] h λc h=>bnd (gL .neg d) λe=>bnd (gk Th [d,e]) λe=>bnd (gk Th [d,I 0]) λd=>ak .mul (I 2) d λd=>ak .sub d (I 1) λd=>ak .mul e d λd=>ai C h F.tR [d] λd h=>cx 1 [.str [],.str []] [(0,d)] h λd h=>ai C h F.r8 [a,c,d] λa h=>q (.tup [a,I 0]) h)
theorem afR(h:vG DA t0 t1 (out v)):Ds F.vG [t0,t1] v:=aR 0 .o func34 h
def As(C:CC)(a c d:V)(q:kQ):=let h:Hp:=[]
 ba a λe=>cx 2 [aW] [(0,c),(1,d)] h λc h=>ai C h F.tR [I 1] λd h=>ai C h F.tR [I (-1)] λf h=>cx 2 [.str [],.str []] [(0,d),(1,f)] h λd h=>ai C h F.r8 [e,c,d] λc h=>ai C h F.vA [a,c] λa h=>ai C h F.oW [a] q
theorem afH(h:As DA t0 t1 t2 (out v)):Ds F.As [t0,t1,t2] v:=aR 0 .o func88 h
def kr(C:CC)(a c d:V)(q:kQ):=let h:Hp:=[]
 cx 2 [aW] [(0,c),(1,d)] h λe h=>ai C h F.vE [a,e] λe h=>dK e (q (.tup [I 0,e]) h) (ai C h F.As [a,c,d] λa h=>q (.tup [a,I 0]) h)
theorem afM(h:kr DA t0 t1 t2 (out v)):Ds F.kr [t0,t1,t2] v:=aR 0 .o func52 h
def xV(C:CC)(a:V)(q:kQ):=let h:Hp:=[]
 cx 3 [.int .i64 0] [(0,(I 2)),(1,(I 3)),(2,(I 5))] h λc h=>cx 4 [.int .i64 0] [(0,(I 2)),(1,(I 3)),(2,(I 5)),(3,(I 7))] h λd h=>cx 2 [.int .i64 0] [(0,(I 2)),(1,(I 3))] h λe h=>cx 3 [.int .i64 0] [(0,(I 2)),(1,(I 3)),(2,(I 7))] h λf h=>cx 3 [.int .i64 0] [(0,(I 2)),(1,(I 5)),(2,(I 7))] h λg h=>cx 3 [.int .i64 0] [(0,(I 3)),(1,(I 5)),(2,(I 7))] h λi h=>cx 4 [.int .i64 0] [(0,(I 2)),(1,(I 3)),(2,(I 5)),(3,(I 11))] h λj h=>cx 1 [.int .i64 0] [(0,(I 2))] h λk h=>cx 4 [.int .i64 0] [(0,(I 2)),(1,(I 3)),(2,(I 7)),(3,(I 13))] h λl h=>cx 4 [.int .i64 0] [(0,(I 3)),(1,(I 5)),(2,(I 7)),(3,(I 13))] h λm h=>cx 10 [aW] [(0,c),(1,d),(2,e),(3,f),(4,g),(5,i),(6,j),(7,k),(8,l),(9,m)] h λc h=>bnd (ft .i64 a) λa=>ba c λd=>ak .rem a d λa=>aT h 1 c a λa=>aF h a λa=>q a h
def KI:cr:=.o
theorem agB(C:CC)(t0:V)(q:bG):lu Y C Tryz.f44 0 KI [t0] q=xV C t0 q:=by kernel_rfl
theorem agz:okB Tryz.prog Tryz.f44 KI=Th:=dw
theorem agA(h:xV DA t0 (out v)):Ds F.xV [t0] v:=
 CP.of (fn:=Tryz.f44) (m:=0) (a:=KI) rfl (λ_=>rfl) func44 agz (by rw[agB];exact h)
def FV(C:CC)(a c:V):bK:=λl h q=>ba a λa=>ak .lss (ge l 1) a λa=>bH a Th h (ge l 1) λd h=>aN a Th h (aD .lss d (I 4)) λd h=>cG a d (B SM) λa=>aQ a (bnd (m5 4 1 c (ge l 1)) λa=>aF h a λa=>bnd (ft .i64 a) λa=>ak .rem a (I 10) λa=>uS 1 (ge l 0) a h λa h=>ak .add (ge l 1) (I 1) λc=>q .normal [a,c] h) (q (.exit 0) [ge l 0] h)
def tX(C:CC)(a c:V)(q:kQ):=let h:Hp:=.replicate 2 ah
 cD 0 c h λc h=>lp (FV C a c) [] h [dD,I 0] h (aU [((.exit 0),λa h=>q (ge a 0) h)])
theorem agC(h:tX DA t0 t1 (out v)):Ds F.tX [t0,t1] v:=aR 2 (bJ (aV [.slot 0]) (aP (aB (aP (aB (.n (.l [5,6] [0,3] [((.exit 0),[5],[])] []) (aP (aB (aB (aV [.o,.slot 1])))) .o)))))) func45 h
def zW(C:CC)(a c:V)(q:kQ):=let h:Hp:=[]
 ai C h F.xE [a,c,(.fn F.xt [] [])] q
theorem adL(h:zW DA t0 t1 (out v)):Ds F.zW [t0,t1] v:=aR 0 .o func60 h
def xt(C:CC)(a c:V)(q:kQ):=let h:Hp:=[]
 ai C h F.vu [a,c] q
theorem adM(h:xt DA t0 t1 (out v)):Ds F.xt [t0,t1] v:=aR 0 .o func97 h
def tG(C:CC)(a:V)(q:kQ):=let h:Hp:=.replicate 4 ah
 cD 0 a h λa h=>bi 0 a λc=>aF h c λc=>ai C h F.o6 [c] λc h=>dK c (q c h) (bi 0 a λc=>aF h c λc=>ba c λc=>bi 1 a λd=>aF h d λd=>bnd (fG [(0,1),(1,1)] [.int .i64 0,aW] [(0,c),(1,d)]) λc=>cu 1 [.d (.int .i64 0),.d aW] h λd h=>aS h 2 d c λ_ h=>bnd (aG h 2 d) λc=>ai C h F.wB [c] λc h=>dK c (q c h) (bnd (aG h 2 d) λc=>ai C h F.yH [c] λc h=>bW c λc e=>cu 2 [.d (.int .i64 0),.d aW] h λf h=>aS h 2 f c λ_ h=>ak .neq e (I 0) λc=>aN c SM h (aG h 2 f) λe h=>aN c SM h (aG h 2 d) λf h=>gd c SM h (λq=>ai C h F.yI [e,f] q) λe h=>aN c SM h (gL .not e) λe h=>cG c (B Th) e λc=>aQ c (q (I 7) h) (bnd (aG h 2 d) λc=>ai C h F.yJ [c] λc h=>bW c λc d=>cu 3 [.d (.int .i64 0),.d aW] h λe h=>aS h 2 e c λ_ h=>ak .neq d (I 0) λc=>aN c SM h (ik 1 e) λd h=>aN c SM h (ld1 h d) λd h=>aN c SM h (ik 2 a) λa h=>aN c SM h (ld1 h a) λa h=>gd c SM h (λq=>ai C h F.zW [d,a] q) λa h=>aN c SM h (gL .not a) λa h=>cG c (B Th) a λa=>aQ a (q (I 14) h) (q (I 0) h))))
theorem adR(h:tG DA t0 (out v)):Ds F.tG [t0] v:=aR 4 (bJ (aV [.slot 0]) (aP (bJ (aV [.slot 1]) (aP (bJ (aV [.o,.slot 2]) (aP (aB (aV [.o,.slot 3])))))))) func28 h
def E7(C:CC)(a c d:V):bK:=λl h q=>aY .lss (ge l 0) d (aT h 1 c (ge l 0) λc=>aF h c λc=>ai C h F.vO [c] λd h=>dK d (q .ret [d] h) (ba c λc=>bi 0 a λa=>aF h a λa=>ba a λa=>aY .neq c a (q .ret [I 5] h) (ak .add (ge l 0) (I 1) λa=>q .normal [a] h))) (q (.exit 0) [] h)
def xu(C:CC)(a c:V)(q:kQ):=let h:Hp:=.replicate 1 ah
 cD 0 a h λa h=>bnd (aG h 3 a) λd=>ai C h F.tG [d] λd h=>dK d (q d h) (ba c λd=>lp (E7 C a c d) [] h [I 0] h (aU [((.exit 0),λa h=>q (I 0) h),(.ret,λa h=>q (ge a 0) h)]))
theorem adN(h:xu DA t0 t1 (out v)):Ds F.xu [t0,t1] v:=aR 1 (bJ (aV [.slot 0]) (aP (aB (aP (aB (.n (.l [16] [2,14,15] [((.exit 0),[],[]),(.ret,[4],[])] []) .o .o)))))) func36 h
def E5(C:CC)(a c d:V):bK:=λl h q=>aY .lss (ge l 1) d (aT h 1 c (ge l 1) λc=>aF h c λc=>ai C h F.iX [c] λc h=>aT h 1 a (ge l 1) λa=>aF h a λa=>ai C h F.iX [a] λa h=>ai C h F.gv [c,a] λa h=>ai C h F.jj [ge l 0,a] λa h=>ak .add (ge l 1) (I 1) λc=>q .normal [a,c] h) (q (.exit 2) [ge l 0] h)
def E6(C:CC)(a c d:V):bK:=λl h q=>aY .lss (ge l 1) d (aT h 1 c (ge l 1) λc=>aF h c λc=>ba a λd=>lp (E5 C c a d) [] h [(.d (.str [48])),I 0] h (aU [((.exit 2),λa h=>cx 1 [.str []] [(0,(ge a 0))] h λa h=>cV SM 1 1 16 (ge l 0) a h λa h=>ak .add (ge l 1) (I 1) λc=>q .normal [a,c] h)])) (q (.exit 0) [ge l 0] h)
def xr(C:CC)(a c:V)(q:kQ):=let h:Hp:=.replicate 2 ah
 cD 0 a h λa h=>bi 2 a λa=>aF h a λa=>ba a λd=>lp (E6 C c a d) [] h [dD,I 0] h (aU [((.exit 0),λa h=>q (ge a 0) h)])
theorem adK(h:xr DA t0 t1 (out v)):Ds F.xr [t0,t1] v:=aR 2 (bJ (aV [.slot 0]) (aP (aB (aP (aB (.n (.l [5,14] [1,12,13] [((.exit 0),[5],[])] []) (cM (aB (aB (cM (bJ (aP (aB (.n (.l [8,20] [1,5,7,12,13,14,18,19] [((.exit 2),[8],[1,5,12,13,14])] []) .o .o))) (aV [.o,.slot 1])))))) .o)))))) func38 h
def E8(C:CC)(a c:V):bK:=λl h q=>aY .lss (ge l 1) c (aT h 1 a (ge l 1) λa=>aF h a λa=>ai C h F.uY [a] λa h=>bW a λa c=>bnd (gL .not c) λc=>bH c SM h a λd h=>aN c SM h (aD .gtr d (I 1000000000)) λd h=>cG c (B Th) d λc=>bH c SM h a λd h=>aN c SM h (aD .lss d (I (-1000000000))) λd h=>cG c (B Th) d λc=>aQ c (q .ret [dD,I 4] h) (uS 1 (ge l 0) a h λa h=>ak .add (ge l 1) (I 1) λc=>q .normal [a,c] h)) (q (.exit 0) [ge l 0] h)
def zX(C:CC)(a c:V)(q:kQ):=let h:Hp:=.replicate 2 ah
 cD 0 a h λa h=>bnd (aG h 3 a) λd=>cx 1 [aW] [(0,c)] h λe h=>ai C h F.xu [d,e] λd h=>dK d (q (.tup [dD,d]) h) (bnd (aG h 3 a) λa=>ai C h F.xr [a,c] λa h=>ba a λc=>lp (E8 C a c) [] h [dD,I 0] h (aU [((.exit 0),λa h=>q (.tup [ge a 0,I 0]) h),(.ret,λa h=>q (.tup [ge a 0,ge a 1]) h)]))
theorem adQ(h:zX DA t0 t1 (out v)):Ds F.zX [t0,t1] v:=aR 2 (bJ (aV [.slot 0]) (cM (aB (aP (aB (.n (.l [7,23] [21,22] [((.exit 0),[7],[]),(.ret,[4,5],[])] []) (cM (aB (aB (lU (aV [.o,.slot 1]))))) .o)))))) func114 h
def BL(C:CC)(a:V)(q:kQ):=let h:Hp:=.replicate 2 ah
 cD 0 a h λa h=>cu 1 [.d (.str []),.d (.str [])] h λc h=>bi 0 a λd=>aF h d λd=>ai C h F.rO [d] λd h=>bi 1 a λa=>aF h a λa=>bnd (fG [(0,1),(1,1)] [.str [],.str []] [(0,d),(1,a)]) λa=>aS h 2 c a λ_ h=>bnd (aG h 2 c) λa=>q a h
theorem alQ(h:BL DA t0 (out v)):Ds F.BL [t0] v:=aR 2 (aB (aV [.slot 0,.slot 1])) func117 h
def BJ(C:CC)(a c:V)(q:kQ):=let h:Hp:=.replicate 3 ah
 cD 0 a h λa h=>cD 1 c h λc h=>cu 2 [.d (.str []),.d (.str [])] h λd h=>bnd (aG h 2 a) λa=>bnd (aG h 2 c) λc=>ai C h F.BL [c] λc h=>ai C h F.qn [a,c] λa h=>aS h 2 d a λ_ h=>bnd (aG h 2 d) λa=>q a h
theorem alM(h:BJ DA t0 t1 (out v)):Ds F.BJ [t0,t1] v:=aR 3 (aB (aV [.slot 0,.slot 1,.slot 2])) func73 h
def xU(C:CC)(a c:V)(q:kQ):=let h:Hp:=.replicate 2 ah
 cu 0 [.d (.str []),.d (.str [])] h λd h=>ai C h F.sY [a,c] λa h=>bW a λa c=>cu 1 [.d (.str []),.d (.str [])] h λc h=>aS h 2 c a λ_ h=>bnd (aG h 2 c) λa=>aS h 2 d a λ_ h=>bnd (aG h 2 d) λa=>q a h
theorem agw(h:xU DA t0 t1 (out v)):Ds F.xU [t0,t1] v:=aR 2 (bJ (aV [.slot 0]) (aB (aV [.o,.slot 1]))) func85 h
def vM(C:CC)(a:V)(q:kQ):=let h:Hp:=.replicate 2 ah
 cD 0 a h λa h=>cu 1 [.d (.str []),.d (.str [])] h λc h=>bi 0 a λd=>aF h d λd=>ak .rem d (.d (.int .i8 41)) λd=>bnd (ft .i64 d) λd=>cx 6 [.int .i64 0] [(0,(I 1)),(1,(I 2)),(2,(I 3)),(3,(I 4)),(4,(I 6)),(5,(I 12))] h λe h=>bi 1 a λa=>aF h a λa=>ak .rem a (.d (.int .u8 6)) λa=>aT h 1 e a λa=>aF h a λa=>ai C h F.xU [d,a] λa h=>aS h 2 c a λ_ h=>bnd (aG h 2 c) λa=>q a h
theorem agy(h:vM DA t0 (out v)):Ds F.vM [t0] v:=aR 2 (aB (aV [.slot 0,.slot 1])) func47 h
def FU(C:CC)(a c:V):bK:=λl h q=>ba a λa=>aY .lss (ge l 1) a (ak .rem (ge l 1) (I 4) λa=>bnd (m5 4 2 c a) λa=>bnd (aG h 2 a) λa=>ai C h F.vM [a] λa h=>cx 1 [.str [],.str []] [(0,a)] h λa h=>cV SM 2 2 32 (ge l 0) a h λa h=>ak .add (ge l 1) (I 1) λc=>q .normal [a,c] h) (q (.exit 0) [ge l 0] h)
def AF(C:CC)(a c:V)(q:kQ):=let h:Hp:=.replicate 3 ah
 cD 0 c h λc h=>kx 1 0 [.str [],.str []] [] h λd h=>lp (FU C a c) [] h [d,I 0] h (aU [((.exit 0),λa h=>q (ge a 0) h)])
theorem agx(h:AF DA t0 t1 (out v)):Ds F.AF [t0,t1] v:=aR 3 (bJ (aV [.slot 0]) (bJ (aV [.slot 1]) (aB (aP (aB (.n (.l [5,6] [0,3] [((.exit 0),[5],[])] []) (aP (aB (aB (aV [.o,.o,.slot 2])))) .o)))))) func22 h
def BM(C:CC)(a:V)(q:kQ):=let h:Hp:=.replicate 2 ah
 cD 0 a h λa h=>cu 1 [.d (.str []),.d (.str [])] h λc h=>bi 0 a λd=>aF h d λd=>ai C h F.lK [d] λd h=>bi 1 a λa=>aF h a λa=>bnd (fG [(0,1),(1,1)] [.str [],.str []] [(0,d),(1,a)]) λa=>aS h 2 c a λ_ h=>bnd (aG h 2 c) λa=>q a h
theorem alX(h:BM DA t0 (out v)):Ds F.BM [t0] v:=aR 2 (aB (aV [.slot 0,.slot 1])) func48 h
def IT(C:CC)(a c:V):bK:=λl h q=>aY .lss (ge l 1) c (aT h 5 a (ge l 1) λa=>bnd (aG h 5 a) λa=>cu 1 [.d aW,.d (.str []),.d (.str []),.d aW,.d (.int .i64 0)] h λc h=>aS h 5 c a λ_ h=>bi 4 c λa=>aF h a λa=>uS 2 (ge l 0) a h λa h=>ak .add (ge l 1) (I 1) λc=>q .normal [a,c] h) (q (.exit 0) [ge l 0] h)
def B4(C:CC)(a c:V)(q:kQ):=let h:Hp:=.replicate 3 ah
 cD 0 a h λa h=>bnd (aG h 4 a) λa=>ai C h F.zf [a,c] λa h=>bW a λa c=>dK c (q (.tup [dD,c]) h) (ba a λc=>lp (IT C a c) [1] h [dD,I 0] h (aU [((.exit 0),λa h=>q (.tup [ge a 0,I 0]) h)]))
theorem aob(h:B4 DA t0 t1 (out v)):Ds F.B4 [t0,t1] v:=aR 3 (bJ (aV [.slot 0]) (lU (aB (aP (aB (.n (.l [8,22] [20,21] [((.exit 0),[8],[])] [1]) (cM (aB (aB (bJ (aV [.slot 1]) (aV [.o,.slot 2]))))) .o)))))) func8 h
def IV(C:CC)(a c d:V):bK:=λl h q=>aY .lss (ge l 1) d (jn (λa h=>ak .add (ge l 1) (I 1) λc=>q .normal [ge a 0,c] h) λd=>aT h 3 c (ge l 1) λc=>bnd (aG h 3 c) λc=>cu 1 [.d aW,.d (.str []),.d (.str [])] h λe h=>aS h 3 e c λ_ h=>bnd (aG h 3 a) λa=>bi 0 e λc=>aF h c λc=>ai C h F.xw [a,c] λa h=>bW a λa c=>dK c (q .ret [dD,c] h) (jn (λa h=>d [ge a 0] h) λc=>aQ a (uS 2 (ge l 0) (ge l 1) h λa h=>c [a] h) (c [ge l 0] h))) (q (.exit 0) [ge l 0] h)
def B5(C:CC)(a c:V)(q:kQ):=let h:Hp:=.replicate 3 ah
 cD 0 a h λa h=>bnd (aG h 3 a) λd=>ai C h F.tG [d] λd h=>dK d (q (.tup [dD,d]) h) (bi 0 a λd=>aF h d λd=>ai C h F.zk [d,c] λd h=>dK d (q (.tup [dD,d]) h) (ba c λd=>lp (IV C a c d) [1] h [dD,I 0] h (aU [((.exit 0),λa h=>q (.tup [ge a 0,I 0]) h),(.ret,λa h=>q (.tup [ge a 0,ge a 1]) h)])))
theorem aoe(h:B5 DA t0 t1 (out v)):Ds F.B5 [t0,t1] v:=aR 3 (bJ (aV [.slot 0]) (lU (aB (aP (aB (.n (.l [8,27] [2,25,26] [((.exit 0),[8],[]),(.ret,[4,5],[])] [1]) (cM (aB (.n (.j [8] [2,25,26,27]) (bJ (aV [.slot 1]) (lU (.n (.j [8] [2,25,26,27]) (aV [.o,.slot 2]) .o))) .o))) .o)))))) func10 h
def xv(C:CC)(a:V)(q:kQ):=let h:Hp:=[]
 mg .neq a (.d (.str [48])) λa=>q a h
theorem adP(h:xv DA t0 (out v)):Ds F.xv [t0] v:=aR 0 .o func39 h
def xw(C:CC)(a c:V)(q:kQ):=let h:Hp:=.replicate 1 ah
 cD 0 a h λa h=>bnd (aG h 3 a) λd=>cx 1 [aW] [(0,c)] h λe h=>ai C h F.xu [d,e] λd h=>dK d (q (.tup [B SM,d]) h) (bnd (aG h 3 a) λa=>ai C h F.xr [a,c] λa h=>ai C h F.An [a,(.fn F.xv [] [])] λa h=>bnd (gL .not a) λa=>q (.tup [a,I 0]) h)
theorem adO(h:xw DA t0 t1 (out v)):Ds F.xw [t0,t1] v:=aR 1 (aB (aV [.slot 0])) func13 h
def An(C:CC)(a c:V)(q:kQ):=let h:Hp:=[]
 ai C h F.Fz [a,c] λa h=>ak .geq a (I 0) λa=>q a h
theorem ae7(h:An DA t0 t1 (out v)):Ds F.An [t0,t1] v:=aR 0 .o func37 h
def aeY(C:CC)(a c d:V):bK:=λl h q=>aY .lss (ge l 0) d (aT h 1 a (ge l 0) λa=>aF h a λa=>bp C.p h c [a] λa h=>aQ a (q .ret [ge l 0] h) (ak .add (ge l 0) (I 1) λa=>q .normal [a] h)) (q (.exit 0) [] h)
def Fz(C:CC)(a c:V)(q:kQ):=let h:Hp:=[]
 ba a λd=>lp (aeY C a c d) [] h [I 0] h (aU [((.exit 0),λa h=>q (I (-1)) h),(.ret,λa h=>q (ge a 0) h)])
theorem aeZ(h:Fz DA t0 t1 (out v)):Ds F.Fz [t0,t1] v:=aR 0 (aP (aB (aP (aB (.n (.l [8] [0,1,7] [((.exit 0),[],[]),(.ret,[4],[])] []) .o .o))))) func79 h
def AB(C:CC)(a c:V)(q:kQ):=let h:Hp:=.replicate 3 ah
 cD 0 c h λc h=>cu 1 [.d aW,.d (.str []),.d (.str [])] h λd h=>bi 4 c λe=>bnd (aG h 2 e) λe=>ai C h F.vM [e] λe h=>ai C h F.BM [e] λe h=>cu 2 [.d (.str []),.d (.str [])] h λf h=>aS h 2 f e λ_ h=>bnd (aG h 2 f) λe=>ai C h F.wM [e] λe h=>ak .eql e (I 0) λe=>jn (λe h=>bi 0 c λc=>bnd (aG h 4 c) λc=>ai C h F.tX [a,c] λa h=>bnd (aG h 2 f) λc=>bnd (fG [(0,1),(1,2)] [aW,.str [],.str []] [(0,a),(1,c)]) λa=>aS h 3 d a λ_ h=>bnd (aG h 3 d) λa=>q a h) λa=>aQ e (ai C h F.jM [I 1,I 1] λc h=>aS h 2 f c λ_ h=>a [] h) (a [] h)
theorem agm(h:AB DA t0 t1 (out v)):Ds F.AB [t0,t1] v:=aR 3 (bJ (aV [.slot 0,.slot 1]) (bJ (aV [.o,.o,.slot 2]) (aB (aP (hO [] [0,3,4,5]))))) func23 h
def FQ(C:CC)(a c:V):bK:=λl h q=>ba c λd=>ak .lss (ge l 1) d λd=>bH d Th h (ge l 1) λe h=>aN d Th h (aD .lss e (I 8)) λe h=>cG d e (B SM) λd=>aQ d (aT h 6 c (ge l 1) λc=>bnd (aG h 6 c) λc=>ai C h F.AB [a,c] λa h=>cx 1 [aW,.str [],.str []] [(0,a)] h λa h=>cV SM 0 3 56 (ge l 0) a h λa h=>ak .add (ge l 1) (I 1) λc=>q .normal [a,c] h) (q (.exit 0) [ge l 0] h)
def xR(C:CC)(a c:V)(q:kQ):=let h:Hp:=.replicate 1 ah
 lp (FQ C a c) [] h [dD,I 0] h (aU [((.exit 0),λa h=>q (ge a 0) h)])
theorem agn(h:xR DA t0 t1 (out v)):Ds F.xR [t0,t1] v:=aR 1 (cM (aB (aP (aB (.n (.l [5,6] [0,1] [((.exit 0),[5],[])] []) (aP (aB (aB (aV [.o,.o,.slot 0])))) .o))))) func7 h
def Az(C:CC)(a c:V)(q:kQ):=let h:Hp:=.replicate 1 ah
 cD 0 a h λa h=>bnd (aG h 35 a) λa=>ai C h F.AD [a] λa h=>bH a Th h c λc h=>aN a Th h (bh c) λc h=>aN a Th h (aD .leq c (I 8)) λc h=>cG a c (B SM) λa=>q a h
theorem agk(h:Az DA t0 t1 (out v)):Ds F.Az [t0,t1] v:=aR 1 (aB (aV [.slot 0])) func5 h
def jM(C:CC)(a c:V)(q:kQ):=let h:Hp:=.replicate 2 ah
 cu 0 [.d (.str []),.d (.str [])] h λd h=>ai C h F.sY [a,c] λa h=>bW a λa c=>cu 1 [.d (.str []),.d (.str [])] h λc h=>aS h 2 c a λ_ h=>bnd (aG h 2 c) λa=>aS h 2 d a λ_ h=>bnd (aG h 2 d) λa=>q a h
theorem agc(h:jM DA t0 t1 (out v)):Ds F.jM [t0,t1] v:=aR 2 (bJ (aV [.slot 0]) (aB (aV [.o,.slot 1]))) func16 h
def vK(C:CC)(q:kQ):=let h:Hp:=.replicate 3 ah
 cu 0 [.d aW,.d aW,.d aW,.d aW] h λa h=>ai C h F.jM [I 0,I 1] λc h=>ai C h F.jM [I 1,I 1] λd h=>cu 1 [.d (.str []),.d (.str [])] h λe h=>cu 2 [.d (.str []),.d (.str [])] h λf h=>aS h 2 e c λ_ h=>aS h 2 f d λ_ h=>cx 3 [.int .i64 0] [(0,(I 2)),(1,(I 3)),(2,(I 5))] h λc h=>cx 3 [.int .i64 0] [(0,(I 4)),(1,(I (-4))),(2,(I 1))] h λd h=>cx 1 [aW] [(0,d)] h λd h=>cx 3 [.int .i64 0] [(0,(I 1)),(1,(I 0)),(2,(I (-4)))] h λg h=>cx 3 [.int .i64 0] [(0,(I 0)),(1,(I 1)),(2,(I 4))] h λi h=>cx 2 [aW] [(0,g),(1,i)] h λg h=>bnd (fG [(0,1),(1,1),(2,1)] [aW,aW,aW] [(0,c),(1,d),(2,g)]) λc=>bnd (aG h 2 f) λd=>bnd (aG h 2 e) λg=>bnd (aG h 2 e) λi=>cx 3 [.str [],.str []] [(0,d),(1,g),(2,i)] h λd h=>bnd (aG h 2 f) λf=>bnd (aG h 2 e) λe=>vn C.p h (.fn F.jM [] []) [I 1,I 4] λg h=>cx 3 [.str [],.str []] [(0,f),(1,e),(2,g)] h λe h=>cx 2 [aW] [(0,d),(1,e)] h λd h=>bnd (fG [(0,3),(3,1)] [aW,aW,aW,aW] [(0,c),(1,d)]) λc=>aS h 4 a c λ_ h=>bnd (aG h 4 a) λa=>q a h
theorem agf(h:vK DA (out v)):Ds F.vK [] v:=aR 3 (bJ (aV [.slot 0]) (aB (aV [.o,.o,.slot 1,.slot 2]))) func18 h
def vL(C:CC)(q:kQ):=let h:Hp:=[]
 cx 3 [.int .i64 0] [(0,(I (-1))),(1,(I 1)),(2,(I 0))] h λa h=>ai C h F.jM [I 1,I 1] λc h=>bnd (fG [(0,1),(1,2)] [aW,.str [],.str []] [(0,a),(1,c)]) λa=>cx 3 [.int .i64 0] [(0,(I 1)),(1,(I 1)),(2,(I (-1)))] h λc h=>ai C h F.jM [I 2,I 1] λd h=>bnd (fG [(0,1),(1,2)] [aW,.str [],.str []] [(0,c),(1,d)]) λc=>cx 3 [.int .i64 0] [(0,(I (-2))),(1,(I 0)),(2,(I 1))] h λd h=>ai C h F.jM [I 1,I 1] λe h=>bnd (fG [(0,1),(1,2)] [aW,.str [],.str []] [(0,d),(1,e)]) λd=>cx 3 [aW,.str [],.str []] [(0,a),(1,c),(2,d)] h λa h=>ai C h F.vK [] λc h=>aT h 3 a (I 0) λd=>bnd (aG h 3 d) λd=>ai C h F.zh [c,d] λc h=>bW c λc d=>ai C h F.vK [] λe h=>ai C h F.zj [e,a] λe h=>kA e λe f g=>ai C h F.vK [] λi h=>ai C h F.w6 [i,a] λa h=>bW a λa i=>ak .eql d (I 0) λd=>bH d Th h c λj h=>aN d Th h (bh j) λj h=>aN d Th h (aD .eql j (I 3)) λj h=>cG d j (B SM) λd=>bH d Th h c λj h=>aN d Th h (bC h 2 j (I 0)) λj h=>aN d Th h (aG h 2 j) λj h=>gd d Th h (λq=>ai C h F.jM [I (-1),I 1] q) λk h=>aN d Th h (pJ [.str [],.str []] .eql j k) λj h=>cG d j (B SM) λd=>bH d Th h c λj h=>aN d Th h (bC h 2 j (I 1)) λj h=>aN d Th h (aG h 2 j) λj h=>gd d Th h (λq=>ai C h F.jM [I 1,I 1] q) λk h=>aN d Th h (pJ [.str [],.str []] .eql j k) λj h=>cG d j (B SM) λd=>bH d Th h c λc h=>aN d Th h (bC h 2 c (I 2)) λc h=>aN d Th h (aG h 2 c) λc h=>gd d Th h (λq=>ai C h F.jM [I (-1),I 4] q) λj h=>aN d Th h (pJ [.str [],.str []] .eql c j) λc h=>cG d c (B SM) λc=>bH c Th h g λd h=>aN c Th h (aD .eql d (I 0)) λd h=>cG c d (B SM) λc=>bH c Th h e λd h=>aN c Th h (bh d) λd h=>aN c Th h (aD .eql d (I 3)) λd h=>cG c d (B SM) λc=>bH c Th h e λd h=>aN c Th h (bC h 2 d (I 0)) λd h=>aN c Th h (aG h 2 d) λd h=>gd c Th h (λq=>ai C h F.jM [I (-2),I 1] q) λe h=>aN c Th h (pJ [.str [],.str []] .eql d e) λd h=>cG c d (B SM) λc=>bH c Th h f λd h=>aN c Th h (bh d) λd h=>aN c Th h (aD .eql d (I 1)) λd h=>cG c d (B SM) λc=>bH c Th h f λd h=>aN c Th h (bC h 1 d (I 0)) λd h=>aN c Th h (ld1 h d) λd h=>aN c Th h (aD .eql d (I 1)) λd h=>cG c d (B SM) λc=>bH c Th h i λd h=>aN c Th h (aD .eql d (I 0)) λd h=>cG c d (B SM) λc=>bH c Th h a λd h=>aN c Th h (bh d) λd h=>aN c Th h (aD .eql d (I 1)) λd h=>cG c d (B SM) λc=>bH c Th h a λa h=>aN c Th h (bC h 1 a (I 0)) λa h=>aN c Th h (ld1 h a) λa h=>aN c Th h (aD .eql a (I 2)) λa h=>cG c a (B SM) λa=>q a h
def KG:cr:=.o
attribute [local irreducible] bnd gd bp aQ ext cx kx aS cu mN cD jn lp aU fS cV eQ qe in
theorem agj(C:CC)(q:bG):lu Y C Tryz.f4 0 KG [] q=vL C q:=CF
theorem agh:okB Tryz.prog Tryz.f4 KG=Th:=dw
theorem agi(h:vL DA (out v)):Ds F.vL [] v:=
 CP.of (fn:=Tryz.f4) (m:=0) (a:=KG) rfl (λ_=>rfl) func4 agh (by rw[agj];exact h)
def xT(C:CC)(a:V)(q:kQ):=let h:Hp:=.replicate 1 ah
 cD 0 a h λa h=>bi 1 a λa=>aF h a λa=>ba a λa=>ak .leq a (I 3) λa=>q a h
theorem agv(h:xT DA t0 (out v)):Ds F.xT [t0] v:=aR 1 (aB (aV [.slot 0])) func43 h
def AE(C:CC)(a c d:V)(q:kQ):=let h:Hp:=.replicate 4 ah
 cu 0 [.d aW,.d aW,.d aW] h λe h=>ai C h F.o6 [a] λf h=>dK f (bnd (fG [(0,1),(1,1),(2,1)] [aW,aW,aW] []) λa=>aS h 3 e a λ_ h=>bnd (aG h 3 e) λa=>q (.tup [a,f]) h) (ba a λf=>ai C h F.Bt [f,c] λc h=>bW c λc f=>cu 1 [.d (.int .i64 0),.d aW] h λg h=>aS h 2 g c λ_ h=>dK f (bnd (fG [(0,1),(1,1),(2,1)] [aW,aW,aW] []) λa=>aS h 3 e a λ_ h=>bnd (aG h 3 e) λa=>q (.tup [a,f]) h) (bnd (aG h 2 g) λc=>ai C h F.yH [c] λc h=>bW c λc f=>cu 2 [.d (.int .i64 0),.d aW] h λi h=>aS h 2 i c λ_ h=>bnd (aG h 2 g) λc=>ai C h F.yJ [c] λc h=>bW c λc g=>cu 3 [.d (.int .i64 0),.d aW] h λj h=>aS h 2 j c λ_ h=>ak .neq f (I 0) λc=>bH c SM h g λf h=>aN c SM h (aD .neq f (I 0)) λf h=>cG c (B Th) f λc=>aQ c (bnd (fG [(0,1),(1,1),(2,1)] [aW,aW,aW] []) λa=>aS h 3 e a λ_ h=>bnd (aG h 3 e) λa=>q (.tup [a,I 4]) h) (jn (λc h=>bi 1 i λc=>aF h c λc=>bi 1 j λd=>aF h d λd=>bnd (fG [(0,1),(1,1),(2,1)] [aW,aW,aW] [(0,a),(1,c),(2,d)]) λa=>aS h 3 e a λ_ h=>bnd (aG h 3 e) λa=>q (.tup [a,I 0]) h) λa=>aQ d (bnd (aG h 2 j) λc=>bnd (aG h 2 i) λd=>aS h 2 i c λ_ h=>aS h 2 j d λ_ h=>a [] h) (a [] h))))
theorem agt(h:AE DA t0 t1 t2 (out v)):Ds F.AE [t0,t1,t2] v:=aR 4 (bJ (aV [.slot 0]) (aP (bJ (aV [.o,.slot 1]) (aP (bJ (aV [.o,.slot 2]) (bJ (aV [.o,.slot 3]) (aP (aB (aP (hO [] [0,6,11,12])))))))))) func46 h
def FT(C:CC)(a c:V):bK:=λl h q=>bi 1 a λd=>aF h d λd=>ba d λd=>ak .lss (ge l 1) d λd=>bH d Th h (ge l 1) λe h=>aN d Th h (aD .lss e (I 3)) λe h=>cG d e (B SM) λd=>aQ d (bi 1 a λa=>aF h a λa=>aT h 4 a (ge l 1) λa=>bnd (aG h 4 a) λa=>ai C h F.tX [c,a] λa h=>cx 1 [aW] [(0,a)] h λa h=>cV SM 2 1 24 (ge l 0) a h λa h=>ak .add (ge l 1) (I 1) λc=>q .normal [a,c] h) (q (.exit 0) [ge l 0] h)
def tW(C:CC)(a:V)(q:kQ):=let h:Hp:=.replicate 4 ah
 cD 0 a h λa h=>cu 1 [.d aW,.d aW,.d aW] h λc h=>bi 0 a λd=>aF h d λd=>ai C h F.xV [d] λd h=>lp (FT C a d) [] h [dD,I 0] h (aU [((.exit 0),λe h=>bi 2 a λa=>aF h a λa=>ai C h F.AE [d,ge e 0,a] λa h=>bW a λa d=>cu 3 [.d aW,.d aW,.d aW] h λd h=>aS h 3 d a λ_ h=>bnd (aG h 3 d) λa=>aS h 3 c a λ_ h=>bnd (aG h 3 c) λa=>q a h)])
theorem agu(h:tW DA t0 (out v)):Ds F.tW [t0] v:=aR 4 (bJ (aV [.slot 0,.slot 1]) (cM (bJ (aP (aB (.n (.l [4,5] [1,2,3] [((.exit 0),[4],[1,2,3])] []) (aP (aB (aB (aV [.o,.o,.slot 2])))) .o))) (aB (aV [.o,.slot 3]))))) func21 h
def AD(C:CC)(a:V)(q:kQ):=let h:Hp:=.replicate 1 ah
 cD 0 a h λa h=>bi 0 a λa=>bnd (aG h 3 a) λa=>ai C h F.xT [a] q
theorem ags(h:AD DA t0 (out v)):Ds F.AD [t0] v:=aR 1 (aB (aV [.slot 0])) func20 h
def FS(C:CC)(a c d:V):bK:=λl h q=>bi 2 c λe=>aF h e λe=>ba e λe=>aY .lss (ge l 0) e (bi 3 d λe=>aF h e λe=>bi 0 c λc=>aF h c λc=>ak .rem (ge l 0) (I 4) λf=>bi 3 a λa=>bnd (m5 4 8 a f) λa=>bnd (aG h 8 a) λa=>ai C h F.AF [c,a] λa h=>cx 1 [aW] [(0,a)] h λa h=>cV SM 4 1 24 e a h λa h=>bi 3 d λc=>aS h 1 c a λ_ h=>ak .add (ge l 0) (I 1) λa=>q .normal [a] h) (q (.exit 0) [] h)
def xS(C:CC)(a:V)(q:kQ):=let h:Hp:=.replicate 5 ah
 cD 0 a h λa h=>cu 1 [.d aW,.d aW,.d aW,.d aW] h λc h=>bi 0 a λd=>bnd (aG h 3 d) λd=>ai C h F.tW [d] λd h=>cu 2 [.d aW,.d aW,.d aW] h λe h=>aS h 3 e d λ_ h=>bnd (aG h 3 e) λd=>bnd (fG [(0,3),(3,1)] [aW,aW,aW,aW] [(0,d)]) λd=>cu 3 [.d aW,.d aW,.d aW,.d aW] h λf h=>aS h 4 f d λ_ h=>lp (FS C a e f) [] h [I 0] h (aU [((.exit 0),λa h=>bnd (aG h 4 f) λa=>aS h 4 c a λ_ h=>bnd (aG h 4 c) λa=>q a h)])
theorem agr(h:xS DA t0 (out v)):Ds F.xS [t0] v:=aR 5 (bJ (aV [.slot 0,.slot 1]) (bJ (aV [.o,.slot 2]) (bJ (aV [.slot 3]) (aB (aP (aB (.n (.l [5] [1,2,3,4] [((.exit 0),[],[2,4])] []) (aP (aB (aB (aV [.o,.o,.slot 4])))) .o))))))) func6 h
def vJ(C:CC)(a c:V)(q:kQ):=let h:Hp:=.replicate 2 ah
 cD 0 a h λa h=>cD 1 c h λc h=>bnd (aG h 4 a) λd=>bi 0 c λe=>aF h e λe=>ai C h F.vf [d,e] λd h=>bW d λd e=>bi 0 a λe=>bi 0 e λe=>aF h e λe=>ai C h F.vG [e,d] λd h=>bW d λd e=>bi 0 a λa=>bi 0 a λa=>aF h a λa=>bi 1 c λc=>bnd (aG h 2 c) λc=>ai C h F.vC [a,d,c] λa h=>bW a λa c=>q a h
theorem age(h:vJ DA t0 t1 (out v)):Ds F.vJ [t0,t1] v:=aR 2 (aB (aV [.slot 0,.slot 1])) func12 h
def AA(C:CC)(a c d:V)(q:kQ):=let h:Hp:=.replicate 1 ah
 cD 0 a h λa h=>bi 0 a λa=>bi 0 a λa=>aF h a λa=>ai C h F.kr [a,c,d] λa h=>bW a λa c=>q a h
theorem agl(h:AA DA t0 t1 t2 (out v)):Ds F.AA [t0,t1,t2] v:=aR 1 (aB (aV [.slot 0])) func40 h
def FN(C:CC)(a c:V):bK:=λl h q=>ba a λd=>aY .lss (ge l 0) d (aT h 1 a (ge l 0) λa=>aF h a λa=>aT h 1 c (ge l 0) λc=>aF h c λc=>aY .neq a c (q .ret [B SM] h) (ak .add (ge l 0) (I 1) λa=>q .normal [a] h)) (q (.exit 0) [] h)
def sf(C:CC)(a c:V)(q:kQ):=let h:Hp:=[]
 ba a λd=>ba c λe=>aY .neq d e (q (B SM) h) (lp (FN C a c) [] h [I 0] h (aU [((.exit 0),λa h=>q (B Th) h),(.ret,λa h=>q (ge a 0) h)]))
theorem agb(h:sf DA t0 t1 (out v)):Ds F.sf [t0,t1] v:=aR 0 (cM (aB (aP (aB (.n (.l [5] [0,1] [((.exit 0),[],[]),(.ret,[4],[])] []) .o .o))))) func14 h
def FO(C:CC)(a c d e:V):bK:=λl h q=>ak .gtr (ge l 0) (I 0) λf=>aN f Th h (aG h 4 c) λg h=>aN f Th h (aG h 4 c) λi h=>bH f Th h a λj h=>bH f Th h e λe h=>aN f Th h (bC h 3 j e) λe h=>aN f Th h (aG h 3 e) λe h=>gd f Th h (λq=>ai C h F.vJ [i,e] q) λe h=>aN f Th h (aG h 4 c) λc h=>bH f Th h a λa h=>bH f Th h d λd h=>bH f Th h (ge l 0) λi h=>aN f Th h (aD .sub i (I 1)) λi h=>aN f Th h (bC h 1 d i) λd h=>aN f Th h (ld1 h d) λd h=>aN f Th h (bC h 3 a d) λa h=>aN f Th h (aG h 3 a) λa h=>gd f Th h (λq=>ai C h F.vJ [c,a] q) λa h=>gd f Th h (λq=>ai C h F.AA [g,e,a] q) λa h=>aN f Th h (aD .gtr a (I 0)) λa h=>cG f a (B SM) λa=>aQ a (ak .sub (ge l 0) (I 1) λa=>q .normal [a] h) (q (.exit 2) [ge l 0] h)
def FP(C:CC)(a c:V):bK:=λl h q=>ba a λd=>aY .lss (ge l 1) d (ba (ge l 0) λd=>lp (FO C a c (ge l 0) (ge l 1)) [] h [d] h (aU [((.exit 2),λa h=>bnd (xH h 1 (ge l 0) Vc (Wf (ge a 0)) (ge a 0)) λc=>kx 1 1 [.int .i64 0] [(0,(ge l 1))] h λd h=>bnd (gU h 1 (ge l 0) (Wf (ge a 0)) Vc) λa=>cV SM 2 1 8 d a h λa h=>cV SM 3 1 8 c a h λa h=>ak .add (ge l 1) (I 1) λc=>q .normal [a,c] h)])) (q (.exit 0) [ge l 0] h)
def Ay(C:CC)(a c:V)(q:kQ):=let h:Hp:=.replicate 4 ah
 cD 0 a h λa h=>lp (FP C c a) [1,2] h [dD,I 0] h (aU [((.exit 0),λa h=>q (ge a 0) h)])
theorem agd(h:Ay DA t0 t1 (out v)):Ds F.Ay [t0,t1] v:=aR 4 (bJ (aV [.slot 0]) (aP (aB (aP (aB (.n (.l [5,6] [1,2] [((.exit 0),[5],[])] [1,2]) (aP (aB (aB (aP (bJ (aB (.n (.l [7] [1,2,5,6] [((.exit 2),[7],[1,2,5,6])] []) .o .o)) (aV [.slot 1,.slot 2,.slot 3])))))) .o)))))) func15 h
def FR(C:CC)(a c:V):bK:=λl h q=>ba c λd=>aY .lss (ge l 2) d (jn (λa h=>ak .add (ge l 2) (I 1) λc=>q .normal [ge a 0,ge a 1,c] h) λd=>bi 0 a λe=>bi 0 e λe=>aF h e λe=>bnd (aG h 4 a) λf=>aT h 3 c (ge l 2) λg=>bnd (aG h 3 g) λg=>ai C h F.vJ [f,g] λf h=>ai C h F.r9 [e,f] λe h=>bW e λe f=>ak .eql e (I 0) λe=>jn (λe h=>bi 0 a λa=>bnd (aG h 3 a) λa=>aT h 3 c (ge l 2) λc=>bi 0 c λc=>aF h c λc=>ai C h F.xw [a,c] λa h=>bW a λa c=>jn (λa h=>d [ge e 0,ge a 0] h) λc=>aQ a (uS 3 (ge l 1) (ge l 2) h λa h=>c [a] h) (c [ge l 1] h)) λa=>aQ e (uS 2 (ge l 0) (ge l 2) h λc h=>a [c] h) (a [ge l 0] h)) (q (.exit 0) [ge l 0,ge l 1] h)
def AC(C:CC)(a c:V)(q:kQ):=let h:Hp:=.replicate 4 ah
 cD 0 a h λa h=>ai C h F.vL [] λd h=>bnd (gL .not d) λd=>aN d SM h (aG h 35 a) λe h=>bH d SM h c λf h=>gd d SM h (λq=>ai C h F.Az [e,f] q) λe h=>aN d SM h (gL .not e) λe h=>cG d (B Th) e λd=>aQ d (ai C h F.vL [] q) (bnd (aG h 35 a) λa=>ai C h F.xS [a] λa h=>cu 1 [.d aW,.d aW,.d aW,.d aW] h λd h=>aS h 4 d a λ_ h=>bi 0 d λa=>bi 0 a λa=>aF h a λa=>ai C h F.xR [a,c] λa h=>bnd (aG h 4 d) λc=>ai C h F.B4 [c,a] λc h=>bW c λc e=>bnd (aG h 4 d) λf=>ai C h F.w6 [f,a] λf h=>bW f λf g=>bi 0 d λi=>bnd (aG h 3 i) λi=>ai C h F.B5 [i,a] λi h=>bW i λi j=>lp (FR C d a) [] h [dD,dD,I 0] h (aU [((.exit 0),λk h=>ak .eql e (I 0) λe=>bH e Th h g λg h=>aN e Th h (aD .eql g (I 0)) λg h=>cG e g (B SM) λe=>bH e Th h j λg h=>aN e Th h (aD .eql g (I 0)) λg h=>cG e g (B SM) λe=>bH e Th h c λc h=>aN e Th h (aG h 4 d) λd h=>bH e Th h a λa h=>gd e Th h (λq=>ai C h F.Ay [d,a] q) λa h=>gd e Th h (λq=>ai C h F.sf [c,a] q) λa h=>cG e a (B SM) λa=>bH a Th h f λc h=>bH a Th h (ge k 0) λd h=>gd a Th h (λq=>ai C h F.sf [c,d] q) λc h=>cG a c (B SM) λa=>bH a Th h i λc h=>bH a Th h (ge k 1) λd h=>gd a Th h (λq=>ai C h F.sf [c,d] q) λc h=>cG a c (B SM) λa=>q a h)]))
def KH:cr:=(bJ (aV [.slot 0]) (aP (bJ (aV [.o,.slot 1]) (G0 (aB (aP (aB (.n (.l [13,14,15] [5,6,7,8,9,10,11,12] [((.exit 0),[13,14],[5,6,7,8,9,10,11,12])] []) (aP (aB (.n (.j [13,14] [5,6,7,8,9,10,11,12,15]) (bJ (cM (.n (.j [13] [5,6,7,8,9,10,11,12,14,15]) (aV [.o,.slot 2]) .o)) (cM (.n (.j [14] [5,6,7,8,9,10,11,12,13,15]) (aV [.o,.slot 3]) .o))) .o))) .o))))))))
attribute [local irreducible] bnd gd bp aQ ext cx kx aS cu mN cD jn lp aU fS cV eQ qe in
theorem agq(C:CC)(t0:V)(t1:V)(q:bG):lu Y C Tryz.f3 4 KH [t0,t1] q=AC C t0 t1 q:=CF
theorem ago:okB Tryz.prog Tryz.f3 KH=Th:=dw
theorem agp(h:AC DA t0 t1 (out v)):Ds F.AC [t0,t1] v:=
 CP.of (fn:=Tryz.f3) (m:=4) (a:=KH) rfl (λ_=>rfl) func3 ago (by rw[agq];exact h)
end Go.Vm
