/- Lemmas. -/
import Derived.Test.YthjogmhfdpaaaaaGreatDoorQVmC
set_option linter.unusedVariables false
set_option linter.unusedSimpArgs false
open Go.Proofs.Tryz
open Option renaming some->Wf,none->Vc
open Bool renaming true->Th,false->SM
open List renaming replicate->So,length->RW
set_option maxRecDepth 100000
set_option maxHeartbeats 4000000
namespace Go.Vm
open Go Go.Am Go.Proofs
noncomputable abbrev DA:=CX Y
abbrev Ds:=CP Y
variable{v t0 t1 t2 t3:V}{h h2:Hp}
theorem aU{f:FuncId}{fn:Func}(m:Nat)(a:cn){ds:bA}(h3:Y.X.P.funcs[f]?=Wf fn)(h5:k9 Y DA fn m a ds (out v))(h1:Y.X.allow f=Th:=by rfl)(h2:∀u,Y.X.orc f u=Vc:=by exact λ_=>rfl)(h4:okB Y.X.P fn a=Th:=by decide+kernel):CP Y f ds v:=CP.of h1 h2 h3 h4 h5
abbrev bN(a b:cn):cn:=.n .x a b
abbrev aB(a:cn):cn:=.n .x a .o
abbrev aX(l:List Act):cn:=.n (.r l) .o .o
abbrev gZ(a b:ax):cn:=.n (.j a b) .o .o
abbrev aP(a:cn):cn:=.n .x .o a
abbrev cN(a:cn):cn:=aP (aP a)
abbrev nm(a:cn):cn:=cN (aP a)
abbrev yb(a:cn):cn:=nm (aP a)
abbrev Lz(a:cn):cn:=yb (aP a)
abbrev Lx(a:cn):cn:=Lz (aP a)
abbrev aio(a:cn):cn:=Lx (aP a)
theorem Qo{p:Prop}(h:p:=by repeat' (first|(refine aaC rfl λ_=>?_)|(refine V1 rfl λ_ _=>?_)|(refine aaq rfl λ_ _=>?_)|(refine ZY rfl ?_ ?_)|(refine WZ rfl λ_=>?_)|(refine UF rfl λ_ _=>?_)|(refine Qq rfl λ_ _=>?_)|(refine abe rfl λ_ _=>?_)|(refine aaz rfl λ_ _=>?_)|(refine Vi rfl (λ_ _=>?_) λ_=>?_)|(refine T9 rfl (λ_ _ _=>?_) λ_ _ _=>?_)|(refine XB rfl (λ_ _=>?_) ?_)|(refine TQ rfl λ_ _=>?_)|(refine aa8 rfl λ_ _=>?_)|(refine aar rfl λ_ _=>?_)|(refine apN rfl λ_ _=>?_)|(refine UE rfl λ_ _=>?_)|(refine abf rfl λ_ _=>?_)|(refine Tw rfl λ_=>?_)|exact rfl|(refine UQ rfl ?_))):p:=h
theorem Cq{p:Prop}(h:p:=by repeat' (first|(refine aaC rfl λ_=>?_)|(refine V1 rfl λ_ _=>?_)|(refine aaq rfl λ_ _=>?_)|(refine ZY rfl ?_ ?_)|(refine WZ rfl λ_=>?_)|(refine UF rfl λ_ _=>?_)|(refine Qq rfl λ_ _=>?_)|(refine abe rfl λ_ _=>?_)|(refine aaz rfl λ_ _=>?_)|(refine Vi rfl (λ_ _=>?_) λ_=>?_)|(refine T9 rfl (λ_ _ _=>?_) λ_ _ _=>?_)|(refine XB rfl (λ_ _=>?_) ?_)|(refine TQ rfl λ_ _=>?_)|(refine aa8 rfl λ_ _=>?_)|(refine aar rfl λ_ _=>?_)|(refine UE rfl λ_ _=>?_)|(refine abf rfl λ_ _=>?_)|(refine Tw rfl λ_=>?_)|exact rfl|(refine UQ rfl ?_))):p:=h
abbrev kQ:=bH
abbrev ak(C:CC)(h:Hp)(f:FuncId)(a:bA)(k:kQ):Prop:=bp C.p h (.fn f [] []) a k
abbrev dX(C:CC)(h:Hp)(f:FuncId)(a:bA)(s:Nat)(k:kQ):Prop:=eO C.i h (.fn f [] []) a s k
abbrev aj(o:BinOp)(x y:V)(k:V->Prop):Prop:=bnd (aD o x y) k
abbrev mE(o:BinOp)(x y:V)(k:V->Prop):Prop:=bnd (jY o x y) k
abbrev aF(h:Hp)(x:V)(k:V->Prop):Prop:=bnd (ld1 h x) k
abbrev aT(h:Hp)(n:Nat)(x y:V)(k:V->Prop):Prop:=bnd (bq h n x y) k
abbrev ba(x:V)(k:V->Prop):Prop:=bnd (bf x) k
abbrev bi(n:Nat)(x:V)(k:V->Prop):Prop:=bnd (ii n x) k
abbrev cF(x y z:V)(k:V->Prop):Prop:=bnd (kP x y z) k
abbrev aY(o:BinOp)(x y:V)(A B:Prop):Prop:=bnd (aD o x y) λc=>aQ c A B
abbrev dM(x:V)(A B:Prop):Prop:=bnd (aD .neq x (I 0)) λc=>aQ c A B
abbrev aM(c:V)(w:Bool)(h:Hp)(o:Option V)(k:kQ):Prop:=gd c w h (λq=>bnd o λv=>q v h) k
abbrev bL(c:V)(w:Bool)(h:Hp)(x:V)(k:kQ):Prop:=gd c w h (λq=>q x h) k
abbrev bX(x:V)(k:V->V->Prop):Prop:=ext x 0 λa=>ext x 1 λb=>k a b
abbrev kw(x:V)(k:V->V->V->Prop):Prop:=ext x 0 λa=>ext x 1 λb=>ext x 2 λc=>k a b c
abbrev d6:V:=.d aR
abbrev Ex(s:Nat)(x y:V)(h:Hp)(k:kQ):Prop:=cu 1 [.int .i64 0] [(0,y)] h λv h=>cX SM s 1 8 x v h k
def Fl(C:CC)(b:Nat)(a c d:V):bJ:=λl h q=>aj .gtr (ge l 0) c λc=>bL c Th h d λd h=>bL c Th h a λe h=>bL c Th h (ge l 0) λf h=>aM c Th h (bq h 5 e f) λe h=>aM c Th h (aG h 5 e) λe h=>bL c Th h a λf h=>bL c Th h (ge l 0) λg h=>aM c Th h (aD .sub g (I 1)) λg h=>aM c Th h (bq h 5 f g) λf h=>aM c Th h (aG h 5 f) λf h=>gd c Th h (λq=>bp C.p h d [e,f] q) λd h=>aM c Th h (aD .lss d (I 0)) λd h=>cF c d (B SM) λc=>aQ c (aj .sub (ge l 0) (I 1) λc=>aj .sub (ge l 0) (I 1) λd=>aT h 5 a d λd=>bnd (aG h 5 d) λd=>aT h 5 a (ge l 0) λe=>bnd (aG h 5 e) λe=>aT h 5 a (ge l 0) λf=>aS h 5 f d λ_ h=>aT h 5 a c λa=>aS h 5 a e λ_ h=>aj .sub (ge l 0) (I 1) λa=>q .normal [a] h) (q (.exit 2) [] h)
def zZ(C:CC)(b:Nat)(a c d e:V):bJ:=λl h q=>aY .lss (ge l 0) d (lp (Fl C b a c e) [] h [ge l 0] h (aV [((.exit 2),λa h=>aj .add (ge l 0) (I 1) λa=>q .normal [a] h)])) (q (.exit 0) [] h)
def rQ(C:CC)(b:Nat)(h:Hp)(a c d e:V)(q:kQ):=let h:Hp:=h++So 0 ah
 aj .add c (I 1) λf=>lp (zZ C b a c d e) [] h [f] h (aV [((.exit 0),λa h=>q (.tup []) h)])
def J7(b:Nat):cn:=(.n .x .o (.n .x (.n (.l [8] [0,1,2,3] [((.exit 0),[],[])] []) (.n .x .o (.n .x (.n .x (.n .x .o (.n .x (.n (.l [9] [0,1,2,3,8] [((.exit 2),[],[0,1,2,3,8])] []) .o .o) .o)) .o) .o)) .o) .o))
theorem aeq(C:CC)(h:Hp)(t0:V)(t1:V)(t2:V)(t3:V)(q:bH):iA Y C Tryz.f100 0 J7 [t0,t1,t2,t3] h q=rQ C (RW h) h t0 t1 t2 t3 q:=by rfl
theorem aep(b:Nat):okB Tryz.prog Tryz.f100 (J7 b)=Th:=by rfl
theorem QI(hh:rQ DA (RW h) h t0 t1 t2 t3 (fx (RW h) v h2)):CI Y F.rQ [t0,t1,t2,t3] h v h2:=
 CI.of (fn:=Tryz.f100) (m:=0) (a:=J7) rfl (λ_=>rfl) func100 (aep _) (by rw[aeq];exact hh)
def J5(C:CC)(b:Nat)(a c d e:V):bJ:=λl h q=>aY .leq (ge l 1) c (dX C h F.rQ [a,ge l 0,ge l 1,d] (b+0) λa h=>aj .add (ge l 1) e λa=>q .normal [ge l 1,a] h) (q (.exit 0) [ge l 0] h)
def aen(C:CC)(b:Nat)(a c d e:V):bJ:=λl h q=>aY .leq (ge l 1) c (aj .add (ge l 0) e λc=>ak C h F.QG [a,ge l 0,c,ge l 1,d] λa h=>aj .mul (I 2) e λa=>aj .add (ge l 1) a λa=>q .normal [ge l 1,a] h) (q (.exit 4) [ge l 0] h)
def J4(C:CC)(b:Nat)(a c d:V):bJ:=λl h q=>aY .lss (ge l 0) c (aj .mul (I 2) (ge l 0) λe=>lp (aen C b a c d (ge l 0)) [] h [I 0,e] h (aV [((.exit 4),λe h=>aj .add (ge e 0) (ge l 0) λf=>aj .lss f c λg=>jn (λa h=>aj .mul (ge l 0) (I 2) λa=>q .normal [a] h) λi=>aQ g (ak C h F.QG [a,ge e 0,f,c,d] λa h=>i [] h) (i [] h))])) (q (.exit 2) [] h)
def tD(C:CC)(b:Nat)(h:Hp)(a c d:V)(q:kQ):=let h:Hp:=h++So 2 ah
 lp (J5 C b a c d (I 20)) [(b+0)] h [I 0,I 20] h (aV [((.exit 0),λe h=>dX C h F.rQ [a,ge e 0,c,d] (b+1) λe h=>lp (J4 C b a c d) [] h [I 20] h (aV [((.exit 2),λa h=>q (.tup []) h)]))])
def J6(b:Nat):cn:=(.n .x .o (.n .x .o (.n .x (.n .x (.n (.l [7,8] [0,1,2,6] [((.exit 0),[7],[0,1,2,6])] [(b+0)]) (.n .x .o (.n .x (.n .x (.n (.r [.inl (b+0)]) .o .o) .o) .o)) .o) .o) (.n .x (.n (.r [.inl (b+1)]) .o .o) (.n .x (.n (.l [6] [0,1,2] [((.exit 2),[],[])] []) (.n .x .o (.n .x (.n .x .o (.n .x (.n .x (.n (.l [7,8] [0,1,2,6] [((.exit 4),[7],[0,1,2,6])] []) .o .o) .o) (.n .x (.n .x .o (.n .x .o (.n (.j [] [0,1,2,6]) .o .o))) .o))) .o)) .o) .o)))))
theorem aeo(C:CC)(h:Hp)(t0:V)(t1:V)(t2:V)(q:bH):iA Y C Tryz.f70 2 J6 [t0,t1,t2] h q=tD C (RW h) h t0 t1 t2 q:=by rfl
theorem aem(b:Nat):okB Tryz.prog Tryz.f70 (J6 b)=Th:=by rfl
theorem QH(hh:tD DA (RW h) h t0 t1 t2 (fx (RW h) v h2)):CI Y F.tD [t0,t1,t2] h v h2:=
 CI.of (fn:=Tryz.f70) (m:=2) (a:=J6) rfl (λ_=>rfl) func70 (aem _) (by rw[aeo];exact hh)
def rR(C:CC)(b:Nat)(h:Hp)(a c:V)(q:kQ):=let h:Hp:=h++So 1 ah
 ba a λd=>dX C h F.tD [a,d,c] (b+0) λa h=>q (.tup []) h
def J8(b:Nat):cn:=(.n (.r [.inl (b+0)]) .o .o)
theorem aes(C:CC)(h:Hp)(t0:V)(t1:V)(q:bH):iA Y C Tryz.f43 1 J8 [t0,t1] h q=rR C (RW h) h t0 t1 q:=by rfl
theorem aer(b:Nat):okB Tryz.prog Tryz.f43 (J8 b)=Th:=by rfl
theorem QJ(hh:rR DA (RW h) h t0 t1 (fx (RW h) v h2)):CI Y F.rR [t0,t1] h v h2:=
 CI.of (fn:=Tryz.f43) (m:=1) (a:=J8) rfl (λ_=>rfl) func43 (aer _) (by rw[aes];exact hh)
def IF(C:CC)(a c d:V):bJ:=λl h q=>aY .lss (ge l 1) d (aT h 1 c (ge l 1) λc=>aF h c λc=>aT h 3 a (ge l 1) λa=>bnd (aG h 3 a) λa=>bnd (fG [(0,3),(3,1),(4,1)] [aR,.str [],.str [],aR,.int .i64 0] [(0,a),(1,c),(2,(ge l 1))]) λa=>cu 1 [aR,.str [],.str [],aR,.int .i64 0] [(0,a)] h λa h=>cX SM 1 5 88 (ge l 0) a h λa h=>aj .add (ge l 1) (I 1) λc=>q .normal [a,c] h) (q (.exit 0) [ge l 0] h)
def sO(C:CC)(a c:V)(q:kQ):=let h:Hp:=.replicate 3 ah
 cC 0 a h λa h=>bnd (aG h 4 a) λd=>ak C h F.wV [d,c] λd h=>bX d λd e=>dM e (q (.tup [d6,e]) h) (ba d λe=>lp (IF C c d e) [] h [d6,I 0] h (aV [((.exit 0),λc h=>dX C h F.rR [ge c 0,(.fn F.nI [] [a])] 2 λa h=>q (.tup [ge c 0,I 0]) h)]))
theorem anL(h:sO DA t0 t1 (out v)):Ds F.sO [t0,t1] v:=aU 3 (bN (aX [.slot 0]) (nm (bN (aP (aB (.n (.l [8,22] [1,2,20,21] [((.exit 0),[8],[2])] []) (cN (aB (aB (aP (aX [.o,.slot 1]))))) .o))) (aB (aX [.inl 2]))))) func25 h
def nI(C:CC)(a c d:V)(q:kQ):=let h:Hp:=.replicate 2 ah
 cC 0 a h λa h=>cC 1 c h λc h=>bi 0 d λd=>bi 0 d λd=>aF h d λd=>bi 3 c λc=>aF h c λc=>bi 3 a λa=>aF h a λa=>ak C h F.iM [d,c,a] λa h=>bX a λa c=>q a h
theorem anM(h:nI DA t0 t1 t2 (out v)):Ds F.nI [t0,t1,t2] v:=aU 2 (aB (aX [.slot 0,.slot 1])) func44 h
def IH(C:CC)(a c d:V):bJ:=λl h q=>aY .lss (ge l 1) d (jn (λa h=>aj .add (ge l 1) (I 1) λc=>q .normal [ge a 0,c] h) λd=>aT h 5 c (ge l 1) λc=>bnd (aG h 5 c) λc=>cr 1 [.d aR,.d (.str []),.d (.str []),.d aR,.d (.int .i64 0)] h λe h=>aS h 5 e c λ_ h=>bi 3 e λc=>aF h c λc=>aT h 5 a (I 0) λa=>bi 3 a λa=>aF h a λa=>ak C h F.Ah [c,a] λa h=>jn (λa h=>d [ge a 0] h) λc=>aQ a (bi 4 e λa=>aF h a λa=>Ex 2 (ge l 0) a h λa h=>c [a] h) (c [ge l 0] h)) (q (.exit 0) [ge l 0] h)
def yY(C:CC)(a c:V)(q:kQ):=let h:Hp:=.replicate 3 ah
 cC 0 a h λa h=>bnd (aG h 4 a) λa=>ak C h F.sO [a,c] λa h=>bX a λa c=>dM c (q (.tup [d6,d6,c]) h) (ba a λc=>aY .eql c (I 0) (q (.tup [d6,d6,I 13]) h) (ba a λc=>lp (IH C a a c) [1] h [d6,I 0] h (aV [((.exit 0),λc h=>aT h 5 a (I 0) λa=>bi 3 a λa=>aF h a λa=>q (.tup [a,ge c 0,I 0]) h)])))
theorem anQ(h:yY DA t0 t1 (out v)):Ds F.yY [t0,t1] v:=aU 3 (bN (aX [.slot 0]) (nm (aB (aP (aB (.n (.l [5,24] [7,22,23] [((.exit 0),[5],[7])] [1]) (cN (aB (.n (.j [5] [7,22,23,24]) (bN (aX [.slot 1]) (aP (.n (.j [5] [7,22,23,24]) (aX [.o,.slot 2]) .o))) .o))) .o)))))) func17 h
def IK(C:CC)(a c d e:V):bJ:=λl h q=>aY .lss (ge l 1) e (aT h 3 d (ge l 1) λd=>bnd (aG h 3 d) λd=>cr 1 [.d aR,.d (.str []),.d (.str [])] h λe h=>aS h 3 e d λ_ h=>bnd (aG h 4 a) λa=>bi 0 e λd=>aF h d λd=>ak C h F.uV [a,d] λa h=>bX a λa d=>aj .eql d (I 0) λf=>jn (λa h=>aj .eql (ge a 1) (I 0) λd=>jn (λa h=>aY .neq (ge a 1) (I 0) (q .ret [d6,ge a 1] h) (cu 1 [aR] [(0,(ge a 0))] h λa h=>cX SM 2 1 24 (ge l 0) a h λa h=>aj .add (ge l 1) (I 1) λc=>q .normal [a,c] h)) λf=>aQ d (bi 1 e λd=>bnd (aG h 2 d) λd=>ak C h F.vu [c,ge a 0,d] λa h=>bX a λa c=>f [a,c] h) (f [ge a 0,ge a 1] h)) λe=>aQ f (ak C h F.vy [c,a] λa h=>bX a λa c=>e [a,c] h) (e [a,d] h)) (q (.exit 0) [ge l 0] h)
def wV(C:CC)(a c:V)(q:kQ):=let h:Hp:=.replicate 3 ah
 cC 0 a h λa h=>bnd (aG h 4 a) λd=>ak C h F.pI [d] λd h=>dM d (q (.tup [d6,d]) h) (bi 0 a λd=>bi 0 d λd=>aF h d λd=>ak C h F.BP [d,c] λe h=>dM e (q (.tup [d6,e]) h) (ba c λe=>lp (IK C a d c e) [1] h [d6,I 0] h (aV [((.exit 0),λa h=>q (.tup [ge a 0,I 0]) h),(.ret,λa h=>q (.tup [ge a 0,ge a 1]) h)])))
theorem anT(h:wV DA t0 t1 (out v)):Ds F.wV [t0,t1] v:=aU 3 (bN (aX [.slot 0]) (yb (aB (aP (aB (.n (.l [9,30] [2,7,28,29] [((.exit 0),[9],[]),(.ret,[4,5],[])] [1]) (cN (aB (aB (bN (aX [.slot 1]) (aP (bN (aP (gZ [12,13] [2,7,9,11,28,29,30])) (bN (aP (gZ [12,13] [2,7,9,28,29,30])) (aP (aX [.o,.slot 2]))))))))) .o)))))) func31 h
def yX(C:CC)(a c:V)(q:kQ):=let h:Hp:=.replicate 2 ah
 cC 0 a h λa h=>cC 1 c h λc h=>bnd (aG h 4 a) λa=>bnd (aG h 3 c) λc=>cu 1 [aR,.str [],.str []] [(0,c)] h λc h=>ak C h F.wV [a,c] λa h=>bX a λa c=>dM c (q (.tup [d6,c]) h) (aT h 1 a (I 0) λa=>aF h a λa=>q (.tup [a,I 0]) h)
theorem anP(h:yX DA t0 t1 (out v)):Ds F.yX [t0,t1] v:=aU 2 (aB (aX [.slot 0,.slot 1])) func15 h
def IG(C:CC)(a c:V):bJ:=λl h q=>aY .lss (ge l 1) c (jn (λa h=>aj .add (ge l 1) (I 1) λc=>q .normal [ge a 0,c] h) λc=>aT h 1 a (ge l 1) λa=>aF h a λa=>ak C h F.xv [a,(.fn F.yV [] [])] λa h=>bnd (f9 .not a) λa=>jn (λa h=>c [ge a 0] h) λc=>aQ a (Ex 1 (ge l 0) (ge l 1) h λa h=>c [a] h) (c [ge l 0] h)) (q (.exit 0) [ge l 0] h)
def yW(C:CC)(a c:V)(q:kQ):=let h:Hp:=.replicate 2 ah
 cC 0 a h λa h=>bnd (aG h 4 a) λa=>ak C h F.wV [a,c] λa h=>bX a λa c=>dM c (q (.tup [d6,c]) h) (ba a λc=>lp (IG C a c) [] h [d6,I 0] h (aV [((.exit 0),λa h=>q (.tup [ge a 0,I 0]) h)]))
theorem anN(h:yW DA t0 t1 (out v)):Ds F.yW [t0,t1] v:=aU 2 (bN (aX [.slot 0]) (nm (aB (aP (aB (.n (.l [8,22] [20,21] [((.exit 0),[8],[])] []) (cN (aB (.n (.j [8] [20,21,22]) (cN (.n (.j [8] [20,21,22]) (aX [.o,.slot 1]) .o)) .o))) .o)))))) func18 h
def yV(C:CC)(a:V)(q:kQ):=let h:Hp:=.replicate 1 ah
 cC 0 a h λa h=>bi 0 a λa=>aF h a λa=>mE .neq a (.d (.str [48])) λa=>q a h
theorem anO(h:yV DA t0 (out v)):Ds F.yV [t0] v:=aU 1 (aB (aX [.slot 0])) func34 h
def IJ(C:CC)(a c d:V):bJ:=λl h q=>aY .lss (ge l 0) d (aT h 3 c (ge l 0) λc=>bnd (aG h 3 c) λc=>cr 0 [.d aR,.d (.str []),.d (.str [])] h λd h=>aS h 3 d c λ_ h=>bi 0 d λc=>aF h c λc=>ak C h F.yd [a,c] λa h=>dM a (q .ret [a] h) (bi 1 d λa=>bnd (aG h 2 a) λa=>cr 1 [.d (.str []),.d (.str [])] h λc h=>aS h 2 c a λ_ h=>bnd (aG h 2 c) λa=>ak C h F.ut [a] λa h=>dM a (q .ret [I 2] h) (bnd (aG h 2 c) λa=>ak C h F.wH [a] λa h=>aY .leq a (I 0) (q .ret [I 3] h) (bi 0 c λa=>aF h a λa=>ak C h F.lE [a] λa h=>bnd (fv a) λa=>aj .gtr a (I 30) λa=>aM a SM h (ii 1 c) λc h=>aM a SM h (ld1 h c) λc h=>aM a SM h (fv c) λc h=>aM a SM h (aD .gtr c (I 30)) λc h=>cF a (B Th) c λa=>aQ a (q .ret [I 4] h) (aj .add (ge l 0) (I 1) λa=>q .normal [a] h))))) (q (.exit 0) [] h)
def BP(C:CC)(a c:V)(q:kQ):=let h:Hp:=.replicate 2 ah
 ak C h F.oT [a] λd h=>dM d (q d h) (ba c λd=>aY .gtr d (I 60) (q (I 4) h) (ba c λd=>lp (IJ C a c d) [0,1] h [I 0] h (aV [((.exit 0),λa h=>q (I 0) h),(.ret,λa h=>q (ge a 0) h)])))
theorem anS(h:BP DA t0 t1 (out v)):Ds F.BP [t0,t1] v:=aU 2 (nm (aB (aP (aB (.n (.l [20] [0,18,19] [((.exit 0),[],[]),(.ret,[4],[])] [0,1]) (cN (aB (aB (bN (aX [.slot 0]) (aP (aB (aX [.slot 1]))))))) .o))))) func56 h
def jg(C:CC)(a c:V)(q:kQ):=let h:Hp:=[]
 bL a Th h c λd h=>aM a Th h (jY .neq d (.d (.str [48]))) λd h=>cF a d (B SM) λa=>aQ a (mE .add (.d (.str [45])) c λa=>q a h) (q c h)
theorem O5(h:jg DA t0 t1 (out v)):Ds F.jg [t0,t1] v:=aU 0 .o func137 h
def qi(C:CC)(a c:V)(q:bH):Prop:=let h:Hp:=So 6 ah
 bp C.p h (.fn F.qZ [] []) [a,c] λd h=>ext d 0 λe=>ext d 1 λf=>ext d 2 λd=>aQ d (bnd (aD .add e f) λa=>bp C.p h (.fn F.rc [] []) [a] λa h=>q a h) (eO C.i h (.fn F.mC [] []) [a] 0 λa h=>eO C.i h (.fn F.mC [] []) [c] 1 λc h=>bnd (bf a) λd=>bnd (bf c) λe=>bnd (aD .lss d e) λd=>jn (λa h=>cu 1 [.int .u64 0] [(0,(.d (.int .u64 0)))] h λc h=>cX SM 2 1 8 (ge a 0) c h λc h=>bnd (bf c) λd=>bnd (aD .sub d (I 1)) λd=>bnd (bf (ge a 1)) λe=>bnd (aD .sub d e) λd=>qk SM 3 1 8 [.int .u64 0] (ge a 1) d h λa h=>eO C.i h (.fn F.uF [] []) [c,a,(I 0)] 4 λa h=>eO C.i h (.fn F.kz [] []) [c] 5 λa h=>bp C.p h (.fn F.nH [] []) [a] λa h=>q a h) λe=>aQ d (e [c,a] h) (e [a,c] h))
def NG:cn:=(cN (bN (aX [.inl 0,.inl 1]) (bN (aP (gZ [8,9] [])) (bN (aX [.o,.slot 2]) (bN (aX [.slot 3,.inl 4]) (aB (aX [.inl 5])))))))
attribute [local irreducible] bnd gd bp aQ ext cu kt aS cr mF cC jn lp aV fS cX qk eO pW in
theorem anD(C:CC)(t0:V)(t1:V)(q:bH):k9 Y C Tryz.f135 6 NG [t0,t1] q=qi C t0 t1 q:=Qo
theorem anB:okB Tryz.prog Tryz.f135 NG=Th:=du
theorem anC(h:qi DA t0 t1 (out v)):Ds F.qi [t0,t1] v:=
 CP.of (fn:=Tryz.f135) (m:=6) (a:=NG) rfl (λ_=>rfl) func135 anB (by rw[anD];exact h)
def po(C:CC)(a c:V)(q:kQ):=let h:Hp:=[]
 bnd (fv a) λd=>bnd (fv c) λe=>aY .neq d e (bnd (fv a) λa=>bnd (fv c) λc=>aj .sub a c λa=>bnd (gk Th [I (-1),a]) λa=>bnd (gk SM [I 1,a]) λa=>q a h) (mE .lss a c λd=>aQ d (q (I (-1)) h) (mE .gtr a c λa=>aQ a (q (I 1) h) (q (I 0) h)))
theorem anu(h:po DA t0 t1 (out v)):Ds F.po [t0,t1] v:=aU 0 .o func145 h
def rb(C:CC)(a c:V)(q:bH):Prop:=let h:Hp:=So 7 ah
 bp C.p h (.fn F.po [] []) [a,c] λd h=>bnd (aD .lss d (I 0)) λd=>aQ d (q (.tup [(.d (.str [])),(I 3)]) h) (bp C.p h (.fn F.qZ [] []) [a,c] λd h=>ext d 0 λe=>ext d 1 λf=>ext d 2 λd=>aQ d (bnd (aD .sub e f) λa=>bp C.p h (.fn F.rc [] []) [a] λa h=>q (.tup [a,(I 0)]) h) (eO C.i h (.fn F.mC [] []) [a] 0 λa h=>cu 1 [.int .u64 0] [(0,(.d (.int .u64 0)))] h λd h=>cX SM 1 1 8 a d h λa h=>eO C.i h (.fn F.mC [] []) [c] 2 λd h=>bnd (bf a) λe=>bnd (aD .sub e (I 1)) λe=>eO C.i h (.fn F.mC [] []) [c] 3 λc h=>bnd (bf c) λc=>bnd (aD .sub e c) λc=>qk SM 4 1 8 [.int .u64 0] d c h λc h=>eO C.i h (.fn F.wQ [] []) [a,c,(.d (.int .u64 1)),(I 0)] 5 λc h=>eO C.i h (.fn F.kz [] []) [a] 6 λa h=>bp C.p h (.fn F.nH [] []) [a] λa h=>q (.tup [a,(I 0)]) h))
def ND:cn:=(nm (bN (aX [.inl 0,.o,.slot 1]) (bN (aX [.inl 2,.inl 3,.slot 4,.inl 5]) (aB (aX [.inl 6])))))
attribute [local irreducible] bnd gd bp aQ ext cu kt aS cr mF cC jn lp aV fS cX qk eO pW in
theorem ani(C:CC)(t0:V)(t1:V)(q:bH):k9 Y C Tryz.f136 7 ND [t0,t1] q=rb C t0 t1 q:=Qo
theorem ang:okB Tryz.prog Tryz.f136 ND=Th:=du
theorem anh(h:rb DA t0 t1 (out v)):Ds F.rb [t0,t1] v:=
 CP.of (fn:=Tryz.f136) (m:=7) (a:=ND) rfl (λ_=>rfl) func136 ang (by rw[ani];exact h)
def uG(C:CC)(a c:V)(q:kQ):=let h:Hp:=.replicate 3 ah
 bnd (fv a) λd=>bnd (fv c) λe=>aj .add d e λd=>aY .leq d (I 18) (ak C h F.qZ [a,c] λa h=>kw a λa c d=>aj .mul a c λa=>ak C h F.rc [a] q) (dX C h F.mC [a] 0 λa h=>dX C h F.mC [c] 1 λc h=>dX C h F.qY [a,c] 2 λa h=>ak C h F.nH [a] q)
theorem ano(h:uG DA t0 t1 (out v)):Ds F.uG [t0,t1] v:=aU 3 (cN (aB (aX [.inl 0,.inl 1,.inl 2]))) func138 h
def ji(C:CC)(a c:V)(q:kQ):=let h:Hp:=[]
 ak C h F.j7 [a,I 18] λd h=>bX d λd e=>jn (λd h=>ak C h F.ic [a] λa h=>bX a λa d=>ak C h F.ic [c] λc h=>bX c λc e=>bnd (jB .eql a c) λf=>aQ f (ak C h F.qi [d,e] λc h=>ak C h F.jg [a,c] q) (ak C h F.po [d,e] λf h=>aj .lss f (I 0) λf=>jn (λa h=>ak C h F.rb [ge a 1,ge a 2] λc h=>bX c λc d=>ak C h F.jg [ge a 0,c] q) λg=>aQ f (g [c,e,d] h) (g [a,d,e] h))) λa=>aQ e (ak C h F.j7 [c,I 18] λc h=>bX c λc e=>aQ e (aj .add d c λa=>ak C h F.iW [a] q) (a [] h)) (a [] h)
theorem abY(h:ji DA t0 t1 (out v)):Ds F.ji [t0,t1] v:=aU 0 (aP (bN (cN (gZ [] [0,1])) (nm (aB (aP (gZ [9,10,12] [])))))) func112 h
def gy(C:CC)(a c:V)(q:kQ):=let h:Hp:=[]
 ak C h F.j7 [a,I 9] λd h=>bX d λd e=>jn (λd h=>ak C h F.ic [a] λa h=>bX a λa d=>ak C h F.ic [c] λc h=>bX c λc e=>bnd (jB .neq a c) λa=>ak C h F.uG [d,e] λc h=>ak C h F.jg [a,c] q) λa=>aQ e (ak C h F.j7 [c,I 9] λc h=>bX c λc e=>aQ e (aj .mul d c λa=>ak C h F.iW [a] q) (a [] h)) (a [] h)
theorem abR(h:gy DA t0 t1 (out v)):Ds F.gy [t0,t1] v:=aU 0 (aP (aB (cN (gZ [] [0,1])))) func104 h
def yg(C:CC)(a:V)(q:kQ):=let h:Hp:=[]
 aQ (B SM) (bnd (fq .u32 a) λa=>ak C h F.aiL [a] q) (ak C h F.t6 [a] q)
theorem aiJ(h:yg DA t0 (out v)):Ds F.yg [t0] v:=aU 0 .o func196 h
def AF(C:CC)(a:V):bJ:=λl h q=>aj .mul (ge l 0) (ge l 0) λc=>aY .leq c a (aj .rem a (ge l 0) λa=>aY .eql a (I 0) (q .ret [B SM] h) (aj .add (ge l 0) (I 1) λa=>q .normal [a] h)) (q (.exit 0) [] h)
def vP(C:CC)(a:V)(q:kQ):=let h:Hp:=[]
 aj .lss a (I 2) λc=>bL c SM h a λd h=>aM c SM h (aD .gtr d (I 97)) λd h=>cF c (B Th) d λc=>aQ c (q (B SM) h) (lp (AF C a) [] h [I 2] h (aV [((.exit 0),λa h=>q (B Th) h),(.ret,λa h=>q (ge a 0) h)]))
theorem ag7(h:vP DA t0 (out v)):Ds F.vP [t0] v:=aU 0 (cN (aB (aP (aB (.n (.l [3] [0] [((.exit 0),[],[]),(.ret,[2],[])] []) .o .o))))) func87 h
def Gn(C:CC)(a c d:V):bJ:=λl h q=>aY .lss (ge l 0) d (aT h 1 c (ge l 0) λc=>aF h c λc=>ak C h F.vP [c] λd h=>bnd (f9 .not d) λd=>aQ d (q .ret [I 25] h) (aj .gtr (ge l 0) (I 0) λd=>bL d Th h c λc h=>bL d Th h a λa h=>bL d Th h (ge l 0) λe h=>aM d Th h (aD .sub e (I 1)) λe h=>aM d Th h (bq h 1 a e) λa h=>aM d Th h (ld1 h a) λa h=>aM d Th h (aD .leq c a) λa h=>cF d a (B SM) λa=>aQ a (q .ret [I 6] h) (aj .add (ge l 0) (I 1) λa=>q .normal [a] h))) (q (.exit 1) [] h)
def oT(C:CC)(a:V)(q:kQ):=let h:Hp:=[]
 ba a λc=>aY .eql c (I 0) (q (I 13) h) (ba a λc=>aY .gtr c (I 6) (q (I 4) h) (ba a λc=>lp (Gn C a a c) [] h [I 0] h (aV [((.exit 1),λa h=>q (I 0) h),(.ret,λa h=>q (ge a 0) h)])))
theorem ag8(h:oT DA t0 (out v)):Ds F.oT [t0] v:=aU 0 (cN (aB (aP (aB (.n (.l [15] [0,13,14] [((.exit 1),[],[]),(.ret,[2],[])] []) .o .o))))) func59 h
def vt(C:CC)(a:V)(q:kQ):=let h:Hp:=.replicate 1 ah
 cC 0 a h λa h=>bi 0 a λc=>aF h c λc=>ak C h F.lE [c] λc h=>bnd (fv c) λc=>aj .leq c (I 30) λc=>aM c Th h (ii 1 a) λa h=>aM c Th h (ld1 h a) λa h=>aM c Th h (fv a) λa h=>aM c Th h (aD .leq a (I 30)) λa h=>cF c a (B SM) λa=>q a h
theorem aff(h:vt DA t0 (out v)):Ds F.vt [t0] v:=aU 1 (aB (aX [.slot 0])) func99 h
def FC(C:CC)(a c:V):bJ:=λl h q=>aY .lss (ge l 0) c (aT h 2 a (ge l 0) λa=>bnd (aG h 2 a) λa=>cr 0 [.d (.str []),.d (.str [])] h λc h=>aS h 2 c a λ_ h=>bnd (aG h 2 c) λa=>ak C h F.ut [a] λa h=>dM a (q .ret [I 2] h) (bnd (aG h 2 c) λa=>ak C h F.vt [a] λa h=>bnd (f9 .not a) λa=>aQ a (q .ret [I 4] h) (aj .add (ge l 0) (I 1) λa=>q .normal [a] h))) (q (.exit 0) [] h)
def tG(C:CC)(a c:V)(q:kQ):=let h:Hp:=.replicate 1 ah
 ba c λd=>ba a λa=>aY .neq d a (q (I 5) h) (ba c λa=>lp (FC C c a) [0] h [I 0] h (aV [((.exit 0),λa h=>q (I 0) h),(.ret,λa h=>q (ge a 0) h)]))
theorem afn(h:tG DA t0 t1 (out v)):Ds F.tG [t0,t1] v:=aU 1 (cN (aB (aP (aB (.n (.l [14] [12,13] [((.exit 0),[],[]),(.ret,[4],[])] [0]) (cN (aB (aB (aB (aX [.slot 0]))))) .o))))) func69 h
def vw(C:CC)(a c:V)(q:kQ):=let h:Hp:=[]
 ak C h F.oT [a] λd h=>dM d (q d h) (ak C h F.tG [a,c] q)
theorem afv(h:vw DA t0 t1 (out v)):Ds F.vw [t0,t1] v:=aU 0 .o func78 h
def yI(C:CC)(a c:V)(q:kQ):=let h:Hp:=.replicate 2 ah
 aY .eql c (I 10) (aY .lss a (.d (.int .u64 100)) (bnd (fq .i64 a) λa=>ak C h F.yH [a] q) (mF 0 1 (So 24 (.int .u8 0)) h λc h=>ak C h F.wz [a] λd h=>bnd (nf 24 1 h c Vc (Wf d)) λe=>dX C h F.uj [e,a] 1 λa h=>bnd (nf 24 1 h c Vc (Wf d)) λa=>bnd (nJ h a) λa=>q a h)) (ak C h F.VB [d6,a,c,B SM,B SM] λa h=>bX a λa c=>q c h)
theorem akK(h:yI DA t0 t1 (out v)):Ds F.yI [t0,t1] v:=aU 2 (aP (aB (aP (aB (aP (bN (aX [.slot 0]) (aP (aB (aX [.inl 1]))))))))) func209 h
def zR(C:CC)(a c:V)(q:kQ):=let h:Hp:=[]
 ak C h F.yI [a,c] q
theorem adK(h:zR DA t0 t1 (out v)):Ds F.zR [t0,t1] v:=aU 0 .o func193 h
def rc(C:CC)(a:V)(q:kQ):=let h:Hp:=[]
 ak C h F.zR [a,I 10] q
theorem ann(h:rc DA t0 (out v)):Ds F.rc [t0] v:=aU 0 .o func161 h
def wT(C:CC)(a:V)(q:kQ):=let h:Hp:=[]
 ak C h F.xm [a,I 10,I 64] λa h=>bX a λa c=>bnd (py .neq c (.d (.pl .nilIface))) λc=>aQ c (q (.tup [(.d (.int .u64 0)),B SM]) h) (q (.tup [a,B Th]) h)
theorem anj(h:wT DA t0 (out v)):Ds F.wT [t0] v:=aU 0 .o func192 h
def qZ(C:CC)(a c:V)(q:kQ):=let h:Hp:=[]
 bnd (fv a) λd=>aj .gtr d (I 18) λd=>bL d SM h c λe h=>aM d SM h (fv e) λe h=>aM d SM h (aD .gtr e (I 18)) λe h=>cF d (B Th) e λd=>aQ d (q (.tup [(.d (.int .u64 0)),(.d (.int .u64 0)),B SM]) h) (ak C h F.wT [a] λa h=>bX a λa d=>ak C h F.wT [c] λc h=>bX c λc d=>q (.tup [a,c,B Th]) h)
theorem anf(h:qZ DA t0 t1 (out v)):Ds F.qZ [t0,t1] v:=aU 0 .o func160 h
def re(C:CC)(a c:V)(q:kQ):=let h:Hp:=.replicate 2 ah
 mE .eql c (.d (.str [48])) λd=>aQ d (q (.tup [(.d (.str [])),(.d (.str [])),I 17]) h) (ak C h F.qZ [a,c] λd h=>kw d λd e f=>aQ f (aj .quo d e λa=>ak C h F.rc [a] λa h=>aj .rem d e λc=>ak C h F.rc [c] λc h=>q (.tup [a,c,I 0]) h) (dX C h F.mC [a] 0 λd h=>dX C h F.mC [c] 1 λc h=>ak C h F.wS [d,c] λe h=>aY .lss e (I 0) (q (.tup [(.d (.str [48])),a,I 0]) h) (ba c λa=>aY .eql a (I 1) (aT h 1 c (I 0) λa=>aF h a λa=>ak C h F.wR [d,a] λa h=>bX a λa c=>ak C h F.nH [a] λa h=>ak C h F.rc [c] λc h=>q (.tup [a,c,I 0]) h) (ak C h F.yS [d,c] λa h=>bX a λa c=>ak C h F.nH [a] λa h=>ak C h F.nH [c] λc h=>q (.tup [a,c,I 0]) h))))
def NF:cn:=(nm (aB (aX [.inl 0,.inl 1])))
attribute [local irreducible] bnd gd bp aQ ext cu kt aS cr mF cC jn lp aV fS cX eO pW in
theorem ant(C:CC)(t0:V)(t1:V)(q:bH):k9 Y C Tryz.f134 2 NF [t0,t1] q=re C t0 t1 q:=Cq
theorem anr:okB Tryz.prog Tryz.f134 NF=Th:=du
theorem ans(h:re DA t0 t1 (out v)):Ds F.re [t0,t1] v:=
 CP.of (fn:=Tryz.f134) (m:=2) (a:=NF) rfl (λ_=>rfl) func134 anr (by rw[ant];exact h)
def Ix(C:CC):bJ:=λl h q=>mE .neq (ge l 1) (.d (.str [48])) λa=>aQ a (ak C h F.re [ge l 0,ge l 1] λa h=>kw a λa c d=>dM d (q .ret [(.d (.str []))] h) (q .normal [ge l 1,c] h)) (q (.exit 0) [ge l 0] h)
def yT(C:CC)(a c:V)(q:kQ):=let h:Hp:=[]
 lp (Ix C) [] h [a,c] h (aV [((.exit 0),λa h=>q (ge a 0) h),(.ret,λa h=>q (ge a 0) h)])
theorem anq(h:yT DA t0 t1 (out v)):Ds F.yT [t0,t1] v:=aU 0 (aP (aB (aB (.n (.l [0,1] [] [((.exit 0),[0],[]),(.ret,[4],[])] []) .o .o)))) func149 h
def strconv_Itoa(C:CC)(a:V)(q:kQ):=let h:Hp:=[]
 ak C h F.Bp [a] q
theorem adJ(h:strconv_Itoa DA t0 (out v)):Ds F.strconv_Itoa [t0] v:=aU 0 .o func86 h
def Bp(C:CC)(a:V)(q:kQ):=let h:Hp:=[]
 ak C h F.wA [a,I 10] q
theorem akJ(h:Bp DA t0 (out v)):Ds F.Bp [t0] v:=aU 0 .o func120 h
def wA(C:CC)(a c:V)(q:kQ):=let h:Hp:=.replicate 2 ah
 aY .eql c (I 10) (aj .leq (I 0) a λc=>bL c Th h a λd h=>aM c Th h (aD .lss d (I 100)) λd h=>cF c d (B SM) λc=>aQ c (ak C h F.yH [a] q) (mF 0 1 (So 24 (.int .u8 0)) h λc h=>bnd (fq .u64 a) λd=>aj .lss a (I 0) λe=>jn (λd h=>ak C h F.wz [ge d 0] λe h=>aj .add (I 1) e λf=>bnd (nf 24 1 h c (Wf (I 1)) (Wf f)) λf=>dX C h F.uj [f,ge d 0] 1 λd h=>aY .lss a (I 0) (bnd (mT 24 1 c (I 0)) λa=>aS h 1 a (.d (.int .u8 45)) λ_ h=>aj .add (I 1) e λa=>bnd (nf 24 1 h c Vc (Wf a)) λa=>bnd (nJ h a) λa=>q a h) (aj .add (I 1) e λa=>bnd (nf 24 1 h c (Wf (I 1)) (Wf a)) λa=>bnd (nJ h a) λa=>q a h)) λa=>aQ e (bnd (f9 .neg d) λc=>a [c] h) (a [d] h))) (bnd (fq .u64 a) λd=>aj .lss a (I 0) λa=>ak C h F.VB [d6,d,c,a,B SM] λa h=>bX a λa c=>q c h)
theorem akL(h:wA DA t0 t1 (out v)):Ds F.wA [t0,t1] v:=aU 2 (aP (aB (aP (aB (aP (bN (aX [.slot 0]) (aP (bN (aP (gZ [6] [0,5])) (aP (aB (aX [.inl 1]))))))))))) func150 h
def yH(C:CC)(a:V)(q:kQ):=let h:Hp:=[]
 aY .lss a (I 10) (aj .add a (I 1) λc=>bnd (m9 (.d (.str [48,49,50,51,52,53,54,55,56,57,97,98,99,100,101,102,103,104,105,106,107,108,109,110,111,112,113,114,115,116,117,118,119,120,121,122])) (Wf a) (Wf c)) λa=>q a h) (aj .mul a (I 2) λc=>aj .mul a (I 2) λa=>aj .add a (I 2) λa=>bnd (m9 (.d (.str [48,48,48,49,48,50,48,51,48,52,48,53,48,54,48,55,48,56,48,57,49,48,49,49,49,50,49,51,49,52,49,53,49,54,49,55,49,56,49,57,50,48,50,49,50,50,50,51,50,52,50,53,50,54,50,55,50,56,50,57,51,48,51,49,51,50,51,51,51,52,51,53,51,54,51,55,51,56,51,57,52,48,52,49,52,50,52,51,52,52,52,53,52,54,52,55,52,56,52,57,53,48,53,49,53,50,53,51,53,52,53,53,53,54,53,55,53,56,53,57,54,48,54,49,54,50,54,51,54,52,54,53,54,54,54,55,54,56,54,57,55,48,55,49,55,50,55,51,55,52,55,53,55,54,55,55,55,56,55,57,56,48,56,49,56,50,56,51,56,52,56,53,56,54,56,55,56,56,56,57,57,48,57,49,57,50,57,51,57,52,57,53,57,54,57,55,57,56,57,57])) (Wf c) (Wf a)) λa=>q a h)
theorem akB(h:yH DA t0 (out v)):Ds F.yH [t0] v:=aU 0 .o func182 h
def wz(C:CC)(a:V)(q:kQ):=let h:Hp:=[]
 ak C h F.t6 [a] λc h=>ak C h F.Bn [c] λc h=>bnd (mT 20 1 (gl gD) c) λd=>aF h d λd=>aj .geq a d λa=>ak C h F.Bo [a] λa h=>aj .add c a λa=>q a h
theorem akC(h:wz DA t0 (out v)):Ds F.wz [t0] v:=aU 0 .o func183 h
def DK(C:CC)(b:Nat)(a:V):bJ:=λl h q=>aY .geq (ge l 1) (I 8) (aj .rem (ge l 0) (.d (.int .u64 100000000)) λc=>bnd (fq .u32 c) λc=>aj .quo (ge l 0) (.d (.int .u64 100000000)) λd=>aj .quo c (.d (.int .u32 10000)) λe=>aj .rem c (.d (.int .u32 10000)) λc=>aj .quo c (.d (.int .u32 100)) λf=>aj .mul f (.d (.int .u32 2)) λf=>aj .rem c (.d (.int .u32 100)) λc=>aj .mul c (.d (.int .u32 2)) λc=>aj .quo e (.d (.int .u32 100)) λg=>aj .mul g (.d (.int .u32 2)) λg=>aj .rem e (.d (.int .u32 100)) λe=>aj .mul e (.d (.int .u32 2)) λe=>aj .sub (ge l 1) (I 1) λi=>aj .sub (ge l 1) (I 2) λj=>aj .add c (.d (.int .u32 1)) λk=>bnd (fF (.d (.str [48,48,48,49,48,50,48,51,48,52,48,53,48,54,48,55,48,56,48,57,49,48,49,49,49,50,49,51,49,52,49,53,49,54,49,55,49,56,49,57,50,48,50,49,50,50,50,51,50,52,50,53,50,54,50,55,50,56,50,57,51,48,51,49,51,50,51,51,51,52,51,53,51,54,51,55,51,56,51,57,52,48,52,49,52,50,52,51,52,52,52,53,52,54,52,55,52,56,52,57,53,48,53,49,53,50,53,51,53,52,53,53,53,54,53,55,53,56,53,57,54,48,54,49,54,50,54,51,54,52,54,53,54,54,54,55,54,56,54,57,55,48,55,49,55,50,55,51,55,52,55,53,55,54,55,55,55,56,55,57,56,48,56,49,56,50,56,51,56,52,56,53,56,54,56,55,56,56,56,57,57,48,57,49,57,50,57,51,57,52,57,53,57,54,57,55,57,56,57,57])) k) λk=>bnd (fF (.d (.str [48,48,48,49,48,50,48,51,48,52,48,53,48,54,48,55,48,56,48,57,49,48,49,49,49,50,49,51,49,52,49,53,49,54,49,55,49,56,49,57,50,48,50,49,50,50,50,51,50,52,50,53,50,54,50,55,50,56,50,57,51,48,51,49,51,50,51,51,51,52,51,53,51,54,51,55,51,56,51,57,52,48,52,49,52,50,52,51,52,52,52,53,52,54,52,55,52,56,52,57,53,48,53,49,53,50,53,51,53,52,53,53,53,54,53,55,53,56,53,57,54,48,54,49,54,50,54,51,54,52,54,53,54,54,54,55,54,56,54,57,55,48,55,49,55,50,55,51,55,52,55,53,55,54,55,55,55,56,55,57,56,48,56,49,56,50,56,51,56,52,56,53,56,54,56,55,56,56,56,57,57,48,57,49,57,50,57,51,57,52,57,53,57,54,57,55,57,56,57,57])) c) λc=>aT h 1 a i λi=>aS h 1 i k λ_ h=>aT h 1 a j λi=>aS h 1 i c λ_ h=>aj .sub (ge l 1) (I 3) λc=>aj .sub (ge l 1) (I 4) λi=>aj .add f (.d (.int .u32 1)) λj=>bnd (fF (.d (.str [48,48,48,49,48,50,48,51,48,52,48,53,48,54,48,55,48,56,48,57,49,48,49,49,49,50,49,51,49,52,49,53,49,54,49,55,49,56,49,57,50,48,50,49,50,50,50,51,50,52,50,53,50,54,50,55,50,56,50,57,51,48,51,49,51,50,51,51,51,52,51,53,51,54,51,55,51,56,51,57,52,48,52,49,52,50,52,51,52,52,52,53,52,54,52,55,52,56,52,57,53,48,53,49,53,50,53,51,53,52,53,53,53,54,53,55,53,56,53,57,54,48,54,49,54,50,54,51,54,52,54,53,54,54,54,55,54,56,54,57,55,48,55,49,55,50,55,51,55,52,55,53,55,54,55,55,55,56,55,57,56,48,56,49,56,50,56,51,56,52,56,53,56,54,56,55,56,56,56,57,57,48,57,49,57,50,57,51,57,52,57,53,57,54,57,55,57,56,57,57])) j) λj=>bnd (fF (.d (.str [48,48,48,49,48,50,48,51,48,52,48,53,48,54,48,55,48,56,48,57,49,48,49,49,49,50,49,51,49,52,49,53,49,54,49,55,49,56,49,57,50,48,50,49,50,50,50,51,50,52,50,53,50,54,50,55,50,56,50,57,51,48,51,49,51,50,51,51,51,52,51,53,51,54,51,55,51,56,51,57,52,48,52,49,52,50,52,51,52,52,52,53,52,54,52,55,52,56,52,57,53,48,53,49,53,50,53,51,53,52,53,53,53,54,53,55,53,56,53,57,54,48,54,49,54,50,54,51,54,52,54,53,54,54,54,55,54,56,54,57,55,48,55,49,55,50,55,51,55,52,55,53,55,54,55,55,55,56,55,57,56,48,56,49,56,50,56,51,56,52,56,53,56,54,56,55,56,56,56,57,57,48,57,49,57,50,57,51,57,52,57,53,57,54,57,55,57,56,57,57])) f) λf=>aT h 1 a c λc=>aS h 1 c j λ_ h=>aT h 1 a i λc=>aS h 1 c f λ_ h=>aj .sub (ge l 1) (I 5) λc=>aj .sub (ge l 1) (I 6) λf=>aj .add e (.d (.int .u32 1)) λi=>bnd (fF (.d (.str [48,48,48,49,48,50,48,51,48,52,48,53,48,54,48,55,48,56,48,57,49,48,49,49,49,50,49,51,49,52,49,53,49,54,49,55,49,56,49,57,50,48,50,49,50,50,50,51,50,52,50,53,50,54,50,55,50,56,50,57,51,48,51,49,51,50,51,51,51,52,51,53,51,54,51,55,51,56,51,57,52,48,52,49,52,50,52,51,52,52,52,53,52,54,52,55,52,56,52,57,53,48,53,49,53,50,53,51,53,52,53,53,53,54,53,55,53,56,53,57,54,48,54,49,54,50,54,51,54,52,54,53,54,54,54,55,54,56,54,57,55,48,55,49,55,50,55,51,55,52,55,53,55,54,55,55,55,56,55,57,56,48,56,49,56,50,56,51,56,52,56,53,56,54,56,55,56,56,56,57,57,48,57,49,57,50,57,51,57,52,57,53,57,54,57,55,57,56,57,57])) i) λi=>bnd (fF (.d (.str [48,48,48,49,48,50,48,51,48,52,48,53,48,54,48,55,48,56,48,57,49,48,49,49,49,50,49,51,49,52,49,53,49,54,49,55,49,56,49,57,50,48,50,49,50,50,50,51,50,52,50,53,50,54,50,55,50,56,50,57,51,48,51,49,51,50,51,51,51,52,51,53,51,54,51,55,51,56,51,57,52,48,52,49,52,50,52,51,52,52,52,53,52,54,52,55,52,56,52,57,53,48,53,49,53,50,53,51,53,52,53,53,53,54,53,55,53,56,53,57,54,48,54,49,54,50,54,51,54,52,54,53,54,54,54,55,54,56,54,57,55,48,55,49,55,50,55,51,55,52,55,53,55,54,55,55,55,56,55,57,56,48,56,49,56,50,56,51,56,52,56,53,56,54,56,55,56,56,56,57,57,48,57,49,57,50,57,51,57,52,57,53,57,54,57,55,57,56,57,57])) e) λe=>aT h 1 a c λc=>aS h 1 c i λ_ h=>aT h 1 a f λc=>aS h 1 c e λ_ h=>aj .sub (ge l 1) (I 7) λc=>aj .sub (ge l 1) (I 8) λe=>aj .add g (.d (.int .u32 1)) λf=>bnd (fF (.d (.str [48,48,48,49,48,50,48,51,48,52,48,53,48,54,48,55,48,56,48,57,49,48,49,49,49,50,49,51,49,52,49,53,49,54,49,55,49,56,49,57,50,48,50,49,50,50,50,51,50,52,50,53,50,54,50,55,50,56,50,57,51,48,51,49,51,50,51,51,51,52,51,53,51,54,51,55,51,56,51,57,52,48,52,49,52,50,52,51,52,52,52,53,52,54,52,55,52,56,52,57,53,48,53,49,53,50,53,51,53,52,53,53,53,54,53,55,53,56,53,57,54,48,54,49,54,50,54,51,54,52,54,53,54,54,54,55,54,56,54,57,55,48,55,49,55,50,55,51,55,52,55,53,55,54,55,55,55,56,55,57,56,48,56,49,56,50,56,51,56,52,56,53,56,54,56,55,56,56,56,57,57,48,57,49,57,50,57,51,57,52,57,53,57,54,57,55,57,56,57,57])) f) λf=>bnd (fF (.d (.str [48,48,48,49,48,50,48,51,48,52,48,53,48,54,48,55,48,56,48,57,49,48,49,49,49,50,49,51,49,52,49,53,49,54,49,55,49,56,49,57,50,48,50,49,50,50,50,51,50,52,50,53,50,54,50,55,50,56,50,57,51,48,51,49,51,50,51,51,51,52,51,53,51,54,51,55,51,56,51,57,52,48,52,49,52,50,52,51,52,52,52,53,52,54,52,55,52,56,52,57,53,48,53,49,53,50,53,51,53,52,53,53,53,54,53,55,53,56,53,57,54,48,54,49,54,50,54,51,54,52,54,53,54,54,54,55,54,56,54,57,55,48,55,49,55,50,55,51,55,52,55,53,55,54,55,55,55,56,55,57,56,48,56,49,56,50,56,51,56,52,56,53,56,54,56,55,56,56,56,57,57,48,57,49,57,50,57,51,57,52,57,53,57,54,57,55,57,56,57,57])) g) λg=>aT h 1 a c λc=>aS h 1 c f λ_ h=>aT h 1 a e λa=>aS h 1 a g λ_ h=>aj .sub (ge l 1) (I 8) λa=>q .normal [d,a] h) (q (.exit 0) [ge l 0,ge l 1] h)
def uj(C:CC)(b:Nat)(h:Hp)(a c:V)(q:kQ):=let h:Hp:=h++So 0 ah
 ba a λd=>lp (DK C b a) [] h [c,d] h (aV [((.exit 0),λc h=>bnd (fq .u32 (ge c 0)) λd=>aj .geq (ge c 1) (I 4) λe=>jn (λc h=>aj .geq (ge c 1) (I 2) λd=>jn (λc h=>aj .gtr (ge c 1) (I 0) λd=>jn (λa h=>q (.tup []) h) λe=>aQ d (aj .add (.d (.int .u32 48)) (ge c 0) λc=>bnd (fq .u8 c) λc=>aT h 1 a (I 0) λa=>aS h 1 a c λ_ h=>e [] h) (e [] h)) λe=>aQ d (aj .rem (ge c 0) (.d (.int .u32 100)) λd=>aj .mul d (.d (.int .u32 2)) λd=>aj .quo (ge c 0) (.d (.int .u32 100)) λf=>aj .sub (ge c 1) (I 1) λg=>aj .sub (ge c 1) (I 2) λi=>aj .add d (.d (.int .u32 1)) λj=>bnd (fF (.d (.str [48,48,48,49,48,50,48,51,48,52,48,53,48,54,48,55,48,56,48,57,49,48,49,49,49,50,49,51,49,52,49,53,49,54,49,55,49,56,49,57,50,48,50,49,50,50,50,51,50,52,50,53,50,54,50,55,50,56,50,57,51,48,51,49,51,50,51,51,51,52,51,53,51,54,51,55,51,56,51,57,52,48,52,49,52,50,52,51,52,52,52,53,52,54,52,55,52,56,52,57,53,48,53,49,53,50,53,51,53,52,53,53,53,54,53,55,53,56,53,57,54,48,54,49,54,50,54,51,54,52,54,53,54,54,54,55,54,56,54,57,55,48,55,49,55,50,55,51,55,52,55,53,55,54,55,55,55,56,55,57,56,48,56,49,56,50,56,51,56,52,56,53,56,54,56,55,56,56,56,57,57,48,57,49,57,50,57,51,57,52,57,53,57,54,57,55,57,56,57,57])) j) λj=>bnd (fF (.d (.str [48,48,48,49,48,50,48,51,48,52,48,53,48,54,48,55,48,56,48,57,49,48,49,49,49,50,49,51,49,52,49,53,49,54,49,55,49,56,49,57,50,48,50,49,50,50,50,51,50,52,50,53,50,54,50,55,50,56,50,57,51,48,51,49,51,50,51,51,51,52,51,53,51,54,51,55,51,56,51,57,52,48,52,49,52,50,52,51,52,52,52,53,52,54,52,55,52,56,52,57,53,48,53,49,53,50,53,51,53,52,53,53,53,54,53,55,53,56,53,57,54,48,54,49,54,50,54,51,54,52,54,53,54,54,54,55,54,56,54,57,55,48,55,49,55,50,55,51,55,52,55,53,55,54,55,55,55,56,55,57,56,48,56,49,56,50,56,51,56,52,56,53,56,54,56,55,56,56,56,57,57,48,57,49,57,50,57,51,57,52,57,53,57,54,57,55,57,56,57,57])) d) λd=>aT h 1 a g λg=>aS h 1 g j λ_ h=>aT h 1 a i λa=>aS h 1 a d λ_ h=>aj .sub (ge c 1) (I 2) λa=>e [f,a] h) (e [ge c 0,ge c 1] h)) λf=>aQ e (aj .rem d (.d (.int .u32 10000)) λe=>aj .quo d (.d (.int .u32 10000)) λd=>aj .quo e (.d (.int .u32 100)) λg=>aj .mul g (.d (.int .u32 2)) λg=>aj .rem e (.d (.int .u32 100)) λe=>aj .mul e (.d (.int .u32 2)) λe=>aj .sub (ge c 1) (I 1) λi=>aj .sub (ge c 1) (I 2) λj=>aj .add e (.d (.int .u32 1)) λk=>bnd (fF (.d (.str [48,48,48,49,48,50,48,51,48,52,48,53,48,54,48,55,48,56,48,57,49,48,49,49,49,50,49,51,49,52,49,53,49,54,49,55,49,56,49,57,50,48,50,49,50,50,50,51,50,52,50,53,50,54,50,55,50,56,50,57,51,48,51,49,51,50,51,51,51,52,51,53,51,54,51,55,51,56,51,57,52,48,52,49,52,50,52,51,52,52,52,53,52,54,52,55,52,56,52,57,53,48,53,49,53,50,53,51,53,52,53,53,53,54,53,55,53,56,53,57,54,48,54,49,54,50,54,51,54,52,54,53,54,54,54,55,54,56,54,57,55,48,55,49,55,50,55,51,55,52,55,53,55,54,55,55,55,56,55,57,56,48,56,49,56,50,56,51,56,52,56,53,56,54,56,55,56,56,56,57,57,48,57,49,57,50,57,51,57,52,57,53,57,54,57,55,57,56,57,57])) k) λk=>bnd (fF (.d (.str [48,48,48,49,48,50,48,51,48,52,48,53,48,54,48,55,48,56,48,57,49,48,49,49,49,50,49,51,49,52,49,53,49,54,49,55,49,56,49,57,50,48,50,49,50,50,50,51,50,52,50,53,50,54,50,55,50,56,50,57,51,48,51,49,51,50,51,51,51,52,51,53,51,54,51,55,51,56,51,57,52,48,52,49,52,50,52,51,52,52,52,53,52,54,52,55,52,56,52,57,53,48,53,49,53,50,53,51,53,52,53,53,53,54,53,55,53,56,53,57,54,48,54,49,54,50,54,51,54,52,54,53,54,54,54,55,54,56,54,57,55,48,55,49,55,50,55,51,55,52,55,53,55,54,55,55,55,56,55,57,56,48,56,49,56,50,56,51,56,52,56,53,56,54,56,55,56,56,56,57,57,48,57,49,57,50,57,51,57,52,57,53,57,54,57,55,57,56,57,57])) e) λe=>aT h 1 a i λi=>aS h 1 i k λ_ h=>aT h 1 a j λi=>aS h 1 i e λ_ h=>aj .sub (ge c 1) (I 3) λe=>aj .sub (ge c 1) (I 4) λi=>aj .add g (.d (.int .u32 1)) λj=>bnd (fF (.d (.str [48,48,48,49,48,50,48,51,48,52,48,53,48,54,48,55,48,56,48,57,49,48,49,49,49,50,49,51,49,52,49,53,49,54,49,55,49,56,49,57,50,48,50,49,50,50,50,51,50,52,50,53,50,54,50,55,50,56,50,57,51,48,51,49,51,50,51,51,51,52,51,53,51,54,51,55,51,56,51,57,52,48,52,49,52,50,52,51,52,52,52,53,52,54,52,55,52,56,52,57,53,48,53,49,53,50,53,51,53,52,53,53,53,54,53,55,53,56,53,57,54,48,54,49,54,50,54,51,54,52,54,53,54,54,54,55,54,56,54,57,55,48,55,49,55,50,55,51,55,52,55,53,55,54,55,55,55,56,55,57,56,48,56,49,56,50,56,51,56,52,56,53,56,54,56,55,56,56,56,57,57,48,57,49,57,50,57,51,57,52,57,53,57,54,57,55,57,56,57,57])) j) λj=>bnd (fF (.d (.str [48,48,48,49,48,50,48,51,48,52,48,53,48,54,48,55,48,56,48,57,49,48,49,49,49,50,49,51,49,52,49,53,49,54,49,55,49,56,49,57,50,48,50,49,50,50,50,51,50,52,50,53,50,54,50,55,50,56,50,57,51,48,51,49,51,50,51,51,51,52,51,53,51,54,51,55,51,56,51,57,52,48,52,49,52,50,52,51,52,52,52,53,52,54,52,55,52,56,52,57,53,48,53,49,53,50,53,51,53,52,53,53,53,54,53,55,53,56,53,57,54,48,54,49,54,50,54,51,54,52,54,53,54,54,54,55,54,56,54,57,55,48,55,49,55,50,55,51,55,52,55,53,55,54,55,55,55,56,55,57,56,48,56,49,56,50,56,51,56,52,56,53,56,54,56,55,56,56,56,57,57,48,57,49,57,50,57,51,57,52,57,53,57,54,57,55,57,56,57,57])) g) λg=>aT h 1 a e λe=>aS h 1 e j λ_ h=>aT h 1 a i λa=>aS h 1 a g λ_ h=>aj .sub (ge c 1) (I 4) λa=>f [d,a] h) (f [d,ge c 1] h))])
def MC(b:Nat):cn:=(.n .x .o (.n .x (.n .x (.n (.l [1,4] [0] [((.exit 0),[1,4],[0])] []) .o .o) .o) (.n .x .o (.n .x (.n .x .o (.n (.j [12,4] [0]) .o .o)) (.n .x (.n .x .o (.n (.j [12,4] [0]) .o .o)) (.n .x .o (.n (.j [] []) .o .o)))))))
theorem akG(C:CC)(h:Hp)(t0:V)(t1:V)(q:bH):iA Y C Tryz.f184 0 MC [t0,t1] h q=uj C (RW h) h t0 t1 q:=by rfl
theorem akE(b:Nat):okB Tryz.prog Tryz.f184 (MC b)=Th:=by rfl
theorem akF(hh:uj DA (RW h) h t0 t1 (fx (RW h) v h2)):CI Y F.uj [t0,t1] h v h2:=
 CI.of (fn:=Tryz.f184) (m:=0) (a:=MC) rfl (λ_=>rfl) func184 (akE _) (by rw[akG];exact hh)
def Bn(C:CC)(a:V)(q:kQ):=let h:Hp:=[]
 aj .mul a (I 78913) λa=>aj .shr a (.d (.int .u64 18)) λa=>q a h
theorem akD(h:Bn DA t0 (out v)):Ds F.Bn [t0] v:=aU 0 .o func203 h
def Bo(C:CC)(a:V)(q:kQ):=let h:Hp:=[]
 aQ a (q (I 1) h) (q (I 0) h)
theorem akH(h:Bo DA t0 (out v)):Ds F.Bo [t0] v:=aU 0 .o func205 h
def t6(C:CC)(a:V)(q:kQ):=let h:Hp:=[]
 aj .geq a (.d (.int .u64 4294967296)) λc=>jn (λa h=>aj .geq (ge a 0) (.d (.int .u64 65536)) λc=>jn (λa h=>aj .geq (ge a 0) (.d (.int .u64 256)) λc=>jn (λa h=>bnd (fq .u8 (ge a 0)) λc=>bnd (fF (.d (.str [0,1,2,2,3,3,3,3,4,4,4,4,4,4,4,4,5,5,5,5,5,5,5,5,5,5,5,5,5,5,5,5,6,6,6,6,6,6,6,6,6,6,6,6,6,6,6,6,6,6,6,6,6,6,6,6,6,6,6,6,6,6,6,6,7,7,7,7,7,7,7,7,7,7,7,7,7,7,7,7,7,7,7,7,7,7,7,7,7,7,7,7,7,7,7,7,7,7,7,7,7,7,7,7,7,7,7,7,7,7,7,7,7,7,7,7,7,7,7,7,7,7,7,7,7,7,7,7,8,8,8,8,8,8,8,8,8,8,8,8,8,8,8,8,8,8,8,8,8,8,8,8,8,8,8,8,8,8,8,8,8,8,8,8,8,8,8,8,8,8,8,8,8,8,8,8,8,8,8,8,8,8,8,8,8,8,8,8,8,8,8,8,8,8,8,8,8,8,8,8,8,8,8,8,8,8,8,8,8,8,8,8,8,8,8,8,8,8,8,8,8,8,8,8,8,8,8,8,8,8,8,8,8,8,8,8,8,8,8,8,8,8,8,8,8,8,8,8,8,8,8,8,8,8,8,8])) c) λc=>bnd (fq .i64 c) λc=>aj .add (ge a 1) c λa=>q a h) λd=>aQ c (aj .shr (ge a 0) (.d (.int .u64 8)) λc=>aj .add (ge a 1) (I 8) λa=>d [c,a] h) (d [ge a 0,ge a 1] h)) λd=>aQ c (aj .shr (ge a 0) (.d (.int .u64 16)) λc=>aj .add (ge a 1) (I 16) λa=>d [c,a] h) (d [ge a 0,ge a 1] h)) λd=>aQ c (aj .shr a (.d (.int .u64 32)) λa=>d [a,I 32] h) (d [a,I 0] h)
theorem aiK(h:t6 DA t0 (out v)):Ds F.t6 [t0] v:=aU 0 (aP (bN (aP (gZ [0,2] [])) (bN (aP (gZ [0,2] [])) (aB (aP (gZ [0,2] [])))))) func204 h
def AZ(C:CC)(a c:V)(q:kQ):=let h:Hp:=[]
 aQ (B SM) (bnd (fq .u32 a) λa=>bnd (fq .u32 c) λc=>ak C h F.aiI [a,c] λa h=>bX a λa c=>bnd (fq .u64 a) λa=>bnd (fq .u64 c) λc=>q (.tup [a,c]) h) (ak C h F.qM [a,c] λa h=>bX a λa c=>q (.tup [a,c]) h)
theorem aiH(h:AZ DA t0 t1 (out v)):Ds F.AZ [t0,t1] v:=aU 0 .o func144 h
def qM(C:CC)(a c:V)(q:bH):Prop:=let h:Hp:=So 0 ah
 bnd (aD .and a (.d (.int .u64 4294967295))) λd=>bnd (aD .shr a (.d (.int .u64 32))) λe=>bnd (aD .and c (.d (.int .u64 4294967295))) λf=>bnd (aD .shr c (.d (.int .u64 32))) λg=>bnd (aD .mul d f) λi=>bnd (aD .mul e f) λf=>bnd (aD .shr i (.d (.int .u64 32))) λi=>bnd (aD .add f i) λf=>bnd (aD .and f (.d (.int .u64 4294967295))) λi=>bnd (aD .shr f (.d (.int .u64 32))) λf=>bnd (aD .mul d g) λd=>bnd (aD .add i d) λd=>bnd (aD .mul e g) λe=>bnd (aD .add e f) λe=>bnd (aD .shr d (.d (.int .u64 32))) λd=>bnd (aD .add e d) λd=>bnd (aD .mul a c) λa=>q (.tup [d,a]) h
theorem TT(h:qM DA t0 t1 (out v)):Ds F.qM [t0,t1] v:=aU 0 .o func180 h
def strconv_Atoi(C:CC)(a:V)(q:kQ):=let h:Hp:=[]
 ak C h F.wB [a] λc h=>bX c λc d=>bnd (py .neq d (.d (.pl .nilIface))) λe=>aQ e (ak C h F.adI [(.d (.str [65,116,111,105])),a,I 0,I 0,d] λa h=>q (.tup [c,a]) h) (q (.tup [c,(.d (.pl .nilIface))]) h)
theorem Qk(h:strconv_Atoi DA t0 (out v)):Ds F.strconv_Atoi [t0] v:=aU 0 .o func159 h
def HI(C:CC)(a c:V):bJ:=λl h q=>aY .lss (ge l 1) c (aT h 1 a (ge l 1) λa=>aF h a λa=>aj .sub a (.d (.int .u8 48)) λa=>aY .gtr a (.d (.int .u8 9)) (False /- makeInterface -/) (aj .mul (ge l 0) (I 10) λc=>bnd (fq .i64 a) λa=>aj .add c a λa=>aj .add (ge l 1) (I 1) λc=>q .normal [a,c] h)) (q (.exit 0) [ge l 0] h)
def wB(C:CC)(a:V)(q:kQ):=let h:Hp:=[]
 bnd (fv a) λc=>gd (B SM) Th h (λq=>q c h) λd h=>gd (B SM) Th h (λq=>aj .lss (I 0) d λv=>q v h) λd h=>gd (B SM) Th h (λq=>q d h) λd h=>bL d Th h c λe h=>aM d Th h (aD .lss e (I 10)) λe h=>gd (B SM) Th h (λq=>cF d e (B SM) λv=>q v h) λd h=>cF (B SM) d (B SM) λd=>bL d SM h (B Th) λe h=>bL e Th h c λf h=>aM e Th h (aD .lss (I 0) f) λf h=>bL e Th h f λf h=>bL f Th h c λc h=>aM f Th h (aD .lss c (I 19)) λc h=>aM e Th h (kP f c (B SM)) λc h=>aM d SM h (kP e c (B SM)) λc h=>cF d (B Th) c λc=>aQ c (bnd (fF a (I 0)) λc=>aj .eql c (.d (.int .u8 45)) λc=>bL c SM h a λd h=>aM c SM h (fF d (I 0)) λd h=>aM c SM h (aD .eql d (.d (.int .u8 43))) λd h=>cF c (B Th) d λc=>jn (λc h=>ov (ge c 0) h λc h=>ba c λd=>lp (HI C c d) [] h [I 0,I 0] h (aV [((.exit 0),λc h=>bnd (fF a (I 0)) λa=>aj .eql a (.d (.int .u8 45)) λa=>jn (λa h=>q (.tup [ge a 0,(.d (.pl .nilIface))]) h) λd=>aQ a (bnd (f9 .neg (ge c 0)) λa=>d [a] h) (d [ge c 0] h)),(.ret,λa h=>q (.tup [ge a 0,ge a 1]) h)])) λd=>aQ c (bnd (m9 a (Wf (I 1)) Vc) λa=>bnd (fv a) λc=>aY .lss c (I 1) (False /- makeInterface -/) (d [a] h)) (d [a] h)) (ak C h F.akI [a,I 10,I 0] λa h=>bX a λa c=>q (.tup [a,c]) h)
theorem VC(h:wB DA t0 (out v)):Ds F.wB [t0] v:=aU 0 (cN (aB (aP (aB (aP (bN (aP (gZ [0] [5])) (aP (bN (aP (aB (.n (.l [6,49] [5,47,48] [((.exit 0),[6],[5]),(.ret,[2,3],[])] []) .o .o))) (aB (aP (gZ [6] []))))))))))) func191 h
def BL(C:CC)(a c:V):bJ:=λl h q=>aY .lss (ge l 0) c (aT h 1 a (ge l 0) λa=>aF h a λa=>aj .lss a (.d (.int .u8 48)) λc=>bL c SM h a λa h=>aM c SM h (aD .gtr a (.d (.int .u8 57))) λa h=>cF c (B Th) a λa=>aQ a (q .ret [B SM] h) (aj .add (ge l 0) (I 1) λa=>q .normal [a] h)) (q (.exit 0) [] h)
def BM(C:CC)(a:V)(q:kQ):=let h:Hp:=[]
 ov a h λc h=>ba c λd=>lp (BL C c d) [] h [I 0] h (aV [((.exit 0),λc h=>bnd (fv a) λc=>aj .eql c (I 1) λc=>bL c SM h a λd h=>aM c SM h (fv d) λd h=>aM c SM h (aD .gtr d (I 1)) λd h=>bL c SM h d λd h=>bL d Th h a λa h=>aM d Th h (fF a (I 0)) λa h=>aM d Th h (aD .neq a (.d (.int .u8 48))) λa h=>aM c SM h (kP d a (B SM)) λa h=>cF c (B Th) a λa=>q a h),(.ret,λa h=>q (ge a 0) h)])
theorem anw(h:BM DA t0 (out v)):Ds F.BM [t0] v:=aU 0 (aP (aB (aP (aB (.n (.l [8] [0,6,7] [((.exit 0),[],[0]),(.ret,[2],[])] []) .o .o))))) func181 h
def yU(C:CC)(a:V)(q:kQ):=let h:Hp:=[]
 ak C h F.BM [a] λc h=>bnd (f9 .not c) λc=>bL c SM h a λa h=>aM c SM h (fv a) λa h=>aM c SM h (aD .gtr a (I 400)) λa h=>cF c (B Th) a λa=>aQ a (q (I 2) h) (q (I 0) h)
theorem anv(h:yU DA t0 (out v)):Ds F.yU [t0] v:=aU 0 .o func147 h
def uC(C:CC)(b:Nat):bJ:=λl h q=>ba (ge l 0) λa=>aj .gtr a (I 0) λa=>bL a Th h (ge l 0) λc h=>bL a Th h (ge l 0) λd h=>aM a Th h (bf d) λd h=>aM a Th h (aD .sub d (I 1)) λd h=>aM a Th h (bq h 1 c d) λc h=>aM a Th h (ld1 h c) λc h=>aM a Th h (aD .eql c (.d (.int .u64 0))) λc h=>cF a c (B SM) λa=>aQ a (ba (ge l 0) λa=>aj .sub a (I 1) λa=>bnd (gU h 1 (ge l 0) Vc (Wf a)) λa=>q .normal [a] h) (q (.exit 0) [ge l 0] h)
def kz(C:CC)(b:Nat)(h:Hp)(a:V)(q:kQ):=let h:Hp:=h++So 0 ah
 lp (uC C b) [] h [a] h (aV [((.exit 0),λa h=>q (ge a 0) h)])
def Nv(b:Nat):cn:=(.n .x .o (.n .x (.n .x (.n (.l [0] [] [((.exit 0),[0],[])] []) .o .o) .o) .o))
theorem amS(C:CC)(h:Hp)(t0:V)(q:bH):iA Y C Tryz.f168 0 Nv [t0] h q=kz C (RW h) h t0 q:=by rfl
theorem amR(b:Nat):okB Tryz.prog Tryz.f168 (Nv b)=Th:=by rfl
theorem YV(hh:kz DA (RW h) h t0 (fx (RW h) v h2)):CI Y F.kz [t0] h v h2:=
 CI.of (fn:=Tryz.f168) (m:=0) (a:=Nv) rfl (λ_=>rfl) func168 (amR _) (by rw[amS];exact hh)
def Iv(C:CC)(b:Nat)(a c:V):bJ:=λl h q=>aY .lss (ge l 1) c (aT h 1 a (ge l 1) λa=>aF h a λa=>aj .mul (.d (.int .u64 10)) (ge l 0) λc=>aj .sub a (.d (.int .u8 48)) λa=>bnd (fq .u64 a) λa=>aj .add c a λa=>aj .add (ge l 1) (I 1) λc=>q .normal [a,c] h) (q (.exit 2) [ge l 0] h)
def Iw(C:CC)(b:Nat)(a:V):bJ:=λl h q=>aY .gtr (ge l 1) (I 0) (aj .sub (ge l 1) (I 9) λc=>bnd (gk Th [I 0,c]) λc=>bnd (m9 a (Wf c) (Wf (ge l 1))) λa=>ov a h λa h=>ba a λc=>lp (Iv C b a c) [] h [(.d (.int .u64 0)),I 0] h (aV [((.exit 2),λa h=>cu 1 [.int .u64 0] [(0,(ge a 0))] h λa h=>cX SM (b+1) 1 8 (ge l 0) a h λa h=>aj .sub (ge l 1) (I 9) λc=>q .normal [a,c] h)])) (q (.exit 0) [ge l 0] h)
def mC(C:CC)(b:Nat)(h:Hp)(a:V)(q:kQ):=let h:Hp:=h++So 3 ah
 bnd (fv a) λc=>aj .quo c (I 9) λc=>aj .add c (I 1) λc=>fS (b+0) 8 [.int .u64 0] h (I 0) c λc h=>bnd (fv a) λd=>lp (Iw C b a) [] h [c,d] h (aV [((.exit 0),λa h=>dX C h F.kz [ge a 0] (b+2) q)])
def NC(b:Nat):cn:=(.n .x .o (.n .x (.n (.r [.slot (b+0)]) .o .o) (.n .x (.n .x .o (.n .x (.n (.l [3,4] [0] [((.exit 0),[3],[])] []) (.n .x .o (.n .x (.n .x (.n .x .o (.n .x (.n .x .o (.n .x (.n (.l [5,27] [0,3,4,25,26] [((.exit 2),[5],[0,3,4])] []) .o .o) .o)) (.n (.r [.o,.slot (b+1)]) .o .o))) .o) .o)) .o) .o)) (.n .x (.n (.r [.inl (b+2)]) .o .o) .o))))
theorem ane(C:CC)(h:Hp)(t0:V)(q:bH):iA Y C Tryz.f162 3 NC [t0] h q=mC C (RW h) h t0 q:=by rfl
theorem anb(b:Nat):okB Tryz.prog Tryz.f162 (NC b)=Th:=by rfl
theorem anc(hh:mC DA (RW h) h t0 (fx (RW h) v h2)):CI Y F.mC [t0] h v h2:=
 CI.of (fn:=Tryz.f162) (m:=3) (a:=NC) rfl (λ_=>rfl) func162 (anb _) (by rw[ane];exact hh)
def Cw(C:CC)(b:Nat)(a:V):bJ:=λl h q=>aY .lss (ge l 0) (ge l 1) (aT h 1 a (ge l 1) λc=>aF h c λc=>aT h 1 a (ge l 0) λd=>aF h d λd=>aT h 1 a (ge l 0) λe=>aS h 1 e c λ_ h=>aT h 1 a (ge l 1) λa=>aS h 1 a d λ_ h=>aj .add (ge l 0) (I 1) λa=>aj .sub (ge l 1) (I 1) λc=>q .normal [a,c] h) (q (.exit 0) [] h)
def vi(C:CC)(b:Nat)(h:Hp)(a:V)(q:kQ):=let h:Hp:=h++So 0 ah
 ba a λc=>aj .sub c (I 1) λc=>lp (Cw C b a) [] h [I 0,c] h (aV [((.exit 0),λa h=>q (.tup []) h)])
def J9(b:Nat):cn:=(.n .x .o (.n .x (.n (.l [2,3] [0] [((.exit 0),[],[])] []) .o .o) .o))
theorem aev(C:CC)(h:Hp)(t0:V)(q:bH):iA Y C Tryz.f194 0 J9 [t0] h q=vi C (RW h) h t0 q:=by kernel_rfl
theorem aet(b:Nat):okB Tryz.prog Tryz.f194 (J9 b)=Th:=of_decide_eq_true aJ
theorem aeu(hh:vi DA (RW h) h t0 (fx (RW h) v h2)):CI Y F.vi [t0] h v h2:=
 CI.of (fn:=Tryz.f194) (m:=0) (a:=J9) rfl (λ_=>rfl) func194 (aet _) (by rw[aev];exact hh)
def yR(C:CC)(a c:V):bJ:=λl h q=>aj .lss (ge l 2) (I 9) λd=>bL d Th h c λc h=>aM d Th h (aD .add c (I 1)) λc h=>bL d Th h a λa h=>aM d Th h (bf a) λa h=>aM d Th h (aD .lss c a) λa h=>bL d Th h a λa h=>bL a SM h (ge l 1) λc h=>aM a SM h (aD .gtr c (.d (.int .u64 0))) λc h=>aM d Th h (kP a (B Th) c) λa h=>cF d a (B SM) λa=>aQ a (aj .rem (ge l 1) (.d (.int .u64 10)) λa=>aj .add (.d (.int .u64 48)) a λa=>bnd (fq .u8 a) λa=>cu 1 [.int .u8 0] [(0,a)] h λa h=>cX SM 1 1 1 (ge l 0) a h λa h=>aj .quo (ge l 1) (.d (.int .u64 10)) λc=>aj .add (ge l 2) (I 1) λd=>q .normal [a,c,d] h) (q (.exit 2) [ge l 0] h)
def Iq(C:CC)(a c d:V):bJ:=λl h q=>aY .lss (ge l 1) d (aT h 1 c (ge l 1) λc=>aF h c λc=>lp (yR C a (ge l 1)) [] h [ge l 0,c,I 0] h (aV [((.exit 2),λa h=>aj .add (ge l 1) (I 1) λc=>q .normal [ge a 0,c] h)])) (q (.exit 0) [ge l 0] h)
def nH(C:CC)(a:V)(q:kQ):=let h:Hp:=.replicate 3 ah
 ba a λc=>aY .eql c (I 0) (q (.d (.str [48])) h) (ba a λc=>aj .mul (I 9) c λc=>fS 0 1 [.int .u8 0] h (I 0) c λc h=>ba a λd=>lp (Iq C a a d) [] h [c,I 0] h (aV [((.exit 0),λa h=>dX C h F.vi [ge a 0] 2 λc h=>bnd (nJ h (ge a 0)) λa=>q a h)]))
theorem amW(h:nH DA t0 (out v)):Ds F.nH [t0] v:=aU 3 (cN (bN (aX [.slot 0]) (bN (aP (aB (.n (.l [3,16] [0,14,15] [((.exit 0),[3],[])] []) (cN (aB (aB (cN (aB (.n (.l [3,5,6] [0,4,14,15,16] [((.exit 2),[3],[0,14,15,16])] []) (aP (aB (aB (aB (aX [.o,.slot 1]))))) .o)))))) .o))) (aB (aX [.inl 2]))))) func165 h
def BJ(C:CC)(a c:V):bJ:=λl h q=>aY .geq (ge l 0) (I 0) (aT h 1 a (ge l 0) λd=>aF h d λd=>aT h 1 c (ge l 0) λe=>aF h e λe=>aY .lss d e (q .ret [I (-1)] h) (aT h 1 a (ge l 0) λa=>aF h a λa=>aT h 1 c (ge l 0) λc=>aF h c λc=>aY .gtr a c (q .ret [I 1] h) (aj .sub (ge l 0) (I 1) λa=>q .normal [a] h))) (q (.exit 0) [] h)
def wS(C:CC)(a c:V)(q:kQ):=let h:Hp:=[]
 ba a λd=>ba c λe=>aY .neq d e (ba a λa=>ba c λc=>aj .sub a c λa=>bnd (gk Th [I (-1),a]) λa=>bnd (gk SM [I 1,a]) λa=>q a h) (ba a λd=>aj .sub d (I 1) λd=>lp (BJ C a c) [] h [d] h (aV [((.exit 0),λa h=>q (I 0) h),(.ret,λa h=>q (ge a 0) h)]))
theorem am7(h:wS DA t0 t1 (out v)):Ds F.wS [t0,t1] v:=aU 0 (cN (aB (aP (aB (.n (.l [5] [0,1] [((.exit 0),[],[]),(.ret,[4],[])] []) .o .o))))) func163 h
def Io(C:CC)(b:Nat)(a c d e f:V):bJ:=λl h q=>aY .lss (ge l 1) f (aT h 1 e (ge l 1) λe=>aF h e λe=>aj .add c (ge l 1) λf=>aT h 1 a f λf=>aF h f λf=>aj .mul d e λd=>aj .add f d λd=>aj .add (ge l 0) d λd=>aj .add c (ge l 1) λc=>aj .rem d (.d (.int .u64 1000000000)) λe=>aT h 1 a c λa=>aS h 1 a e λ_ h=>aj .quo d (.d (.int .u64 1000000000)) λa=>aj .add (ge l 1) (I 1) λc=>q .normal [a,c] h) (q (.exit 2) [ge l 0] h)
def Ip(C:CC)(b:Nat)(a c d e:V):bJ:=λl h q=>aY .lss (ge l 0) e (aT h 1 d (ge l 0) λd=>aF h d λd=>ba a λe=>lp (Io C b c (ge l 0) d a e) [] h [(.d (.int .u64 0)),I 0] h (aV [((.exit 2),λd h=>ba a λa=>aj .add (ge l 0) a λa=>aT h 1 c a λa=>aS h 1 a (ge d 0) λ_ h=>aj .add (ge l 0) (I 1) λa=>q .normal [a] h)])) (q (.exit 0) [] h)
def qY(C:CC)(b:Nat)(h:Hp)(a c:V)(q:kQ):=let h:Hp:=h++So 2 ah
 ba a λd=>ba c λe=>aj .add d e λd=>fS (b+0) 8 [.int .u64 0] h d d λd h=>ba a λe=>lp (Ip C b c d a e) [] h [I 0] h (aV [((.exit 0),λa h=>dX C h F.kz [d] (b+1) q)])
def Nw(b:Nat):cn:=(.n .x .o (.n .x (.n (.r [.slot (b+0)]) .o .o) (.n .x (.n .x .o (.n .x (.n (.l [19] [1,5,17,18] [((.exit 0),[],[5])] []) (.n .x .o (.n .x .o (.n .x (.n .x (.n .x .o (.n .x .o (.n .x (.n .x .o (.n .x (.n (.l [8,26] [1,5,6,7,17,18,19,24,25] [((.exit 2),[8],[1,5,6,17,18,19])] []) .o .o) .o)) .o))) .o) .o))) .o) .o)) (.n .x (.n (.r [.inl (b+1)]) .o .o) .o))))
theorem amV(C:CC)(h:Hp)(t0:V)(t1:V)(q:bH):iA Y C Tryz.f170 2 Nw [t0,t1] h q=qY C (RW h) h t0 t1 q:=by rfl
theorem amT(b:Nat):okB Tryz.prog Tryz.f170 (Nw b)=Th:=by rfl
theorem amU(hh:qY DA (RW h) h t0 t1 (fx (RW h) v h2)):CI Y F.qY [t0,t1] h v h2:=
 CI.of (fn:=Tryz.f170) (m:=2) (a:=Nw) rfl (λ_=>rfl) func170 (amT _) (by rw[amV];exact hh)
def uD(C:CC)(b:Nat)(h:Hp)(a c:V)(q:kQ):=let h:Hp:=h++So 2 ah
 cu 1 [.int .u64 0] [(0,c)] h λc h=>dX C h F.kz [c] (b+0) λc h=>dX C h F.qY [a,c] (b+1) q
def Ny(b:Nat):cn:=(.n .x .o (.n .x (.n (.r [.o,.inl (b+0),.inl (b+1)]) .o .o) .o))
theorem am3(C:CC)(h:Hp)(t0:V)(t1:V)(q:bH):iA Y C Tryz.f195 2 Ny [t0,t1] h q=uD C (RW h) h t0 t1 q:=by rfl
theorem am1(b:Nat):okB Tryz.prog Tryz.f195 (Ny b)=Th:=by rfl
theorem am2(hh:uD DA (RW h) h t0 t1 (fx (RW h) v h2)):CI Y F.uD [t0,t1] h v h2:=
 CI.of (fn:=Tryz.f195) (m:=2) (a:=Ny) rfl (λ_=>rfl) func195 (am1 _) (by rw[am3];exact hh)
def Ir(C:CC)(a c d:V):bJ:=λl h q=>aY .geq (ge l 1) (I 0) (aj .mul (ge l 0) (.d (.int .u64 1000000000)) λe=>aT h 1 a (ge l 1) λa=>aF h a λa=>aj .add e a λa=>aj .quo a c λe=>aT h 1 d (ge l 1) λd=>aS h 1 d e λ_ h=>aj .rem a c λa=>aj .sub (ge l 1) (I 1) λc=>q .normal [a,c] h) (q (.exit 0) [ge l 0] h)
def wR(C:CC)(a c:V)(q:kQ):=let h:Hp:=.replicate 2 ah
 ba a λd=>fS 0 8 [.int .u64 0] h d d λd h=>ba a λe=>aj .sub e (I 1) λe=>lp (Ir C a c d) [] h [(.d (.int .u64 0)),e] h (aV [((.exit 0),λa h=>dX C h F.kz [d] 1 λc h=>q (.tup [c,ge a 0]) h)])
theorem am0(h:wR DA t0 t1 (out v)):Ds F.wR [t0,t1] v:=aU 2 (aP (bN (aX [.slot 0]) (aP (bN (aP (aB (.n (.l [7,8] [0,1,6] [((.exit 0),[7],[6])] []) .o .o))) (aB (aX [.inl 1])))))) func164 h
def Eb(C:CC)(b:Nat)(a c d e:V):bJ:=λl h q=>ba c λf=>aY .leq (ge l 2) f (ba c λf=>aj .lss (ge l 2) f λf=>jn (λc h=>aj .add e (ge l 2) λd=>aT h 1 a d λd=>aF h d λd=>bnd (fq .i64 d) λd=>aj .rem (ge c 0) (.d (.int .u64 1000000000)) λf=>bnd (fq .i64 f) λf=>aj .sub d f λd=>aj .sub d (ge l 1) λd=>aj .quo (ge c 0) (.d (.int .u64 1000000000)) λc=>aj .lss d (I 0) λf=>jn (λd h=>aj .add e (ge l 2) λe=>bnd (fq .u64 (ge d 0)) λf=>aT h 1 a e λa=>aS h 1 a f λ_ h=>aj .add (ge l 2) (I 1) λa=>q .normal [c,ge d 1,a] h) λa=>aQ f (aj .add d (I 1000000000) λc=>a [c,I 1] h) (a [d,I 0] h)) λa=>aQ f (aT h 1 c (ge l 2) λc=>aF h c λc=>aj .mul d c λc=>aj .add (ge l 0) c λc=>a [c] h) (a [ge l 0] h)) (q (.exit 0) [ge l 1] h)
def wQ(C:CC)(b:Nat)(h:Hp)(a c d e:V)(q:kQ):=let h:Hp:=h++So 0 ah
 lp (Eb C b a c d e) [] h [(.d (.int .u64 0)),I 0,I 0] h (aV [((.exit 0),λa h=>aj .gtr (ge a 0) (I 0) λa=>q a h)])
def Nx(b:Nat):cn:=(.n .x .o (.n .x .o (.n .x .o (.n .x (.n .x .o (.n .x (.n (.l [10,9,11] [0,1,2,3] [((.exit 0),[9],[])] []) (.n .x .o (.n .x (.n .x (.n .x (.n .x .o (.n (.j [10] [0,1,2,3,9,11]) .o .o)) (.n .x .o (.n .x .o (.n .x .o (.n .x (.n .x .o (.n (.j [12,9] [0,1,2,3,10,11]) .o .o)) .o))))) .o) .o)) .o) .o)) .o))))
theorem amZ(C:CC)(h:Hp)(t0:V)(t1:V)(t2:V)(t3:V)(q:bH):iA Y C Tryz.f169 0 Nx [t0,t1,t2,t3] h q=wQ C (RW h) h t0 t1 t2 t3 q:=by rfl
theorem amX(b:Nat):okB Tryz.prog Tryz.f169 (Nx b)=Th:=by rfl
theorem amY(hh:wQ DA (RW h) h t0 t1 t2 t3 (fx (RW h) v h2)):CI Y F.wQ [t0,t1,t2,t3] h v h2:=
 CI.of (fn:=Tryz.f169) (m:=0) (a:=Nx) rfl (λ_=>rfl) func169 (amX _) (by rw[amZ];exact hh)
def Iu(C:CC)(b:Nat)(a c d:V):bJ:=λl h q=>ba c λe=>aY .leq (ge l 1) e (aj .add d (ge l 1) λe=>aT h 1 a e λe=>aF h e λe=>aj .add (ge l 0) e λe=>ba c λf=>aj .lss (ge l 1) f λf=>jn (λc h=>aj .add d (ge l 1) λd=>aj .rem (ge c 0) (.d (.int .u64 1000000000)) λe=>aT h 1 a d λa=>aS h 1 a e λ_ h=>aj .quo (ge c 0) (.d (.int .u64 1000000000)) λa=>aj .add (ge l 1) (I 1) λc=>q .normal [a,c] h) λa=>aQ f (aT h 1 c (ge l 1) λc=>aF h c λc=>aj .add e c λc=>a [c] h) (a [e] h)) (q (.exit 0) [] h)
def uF(C:CC)(b:Nat)(h:Hp)(a c d:V)(q:kQ):=let h:Hp:=h++So 0 ah
 lp (Iu C b a c d) [] h [(.d (.int .u64 0)),I 0] h (aV [((.exit 0),λa h=>q (.tup []) h)])
def NB(b:Nat):cn:=(.n .x .o (.n .x .o (.n .x (.n (.l [6,7] [0,1,2] [((.exit 0),[],[])] []) (.n .x .o (.n .x (.n .x (.n .x .o (.n .x (.n .x .o (.n (.j [6] [0,1,2,7]) .o .o)) .o)) .o) .o)) .o) .o)))
theorem ana(C:CC)(h:Hp)(t0:V)(t1:V)(t2:V)(q:bH):iA Y C Tryz.f167 0 NB [t0,t1,t2] h q=uF C (RW h) h t0 t1 t2 q:=by rfl
theorem am8(b:Nat):okB Tryz.prog Tryz.f167 (NB b)=Th:=by rfl
theorem am9(hh:uF DA (RW h) h t0 t1 t2 (fx (RW h) v h2)):CI Y F.uF [t0,t1,t2] h v h2:=
 CI.of (fn:=Tryz.f167) (m:=0) (a:=NB) rfl (λ_=>rfl) func167 (am8 _) (by rw[ana];exact hh)
def Nz(C:CC)(a:V):bJ:=λl h q=>ba (ge l 0) λc=>ba a λa=>aY .leq c a (cu 1 [.int .u64 0] [(0,(.d (.int .u64 0)))] h λa h=>cX SM 3 1 8 (ge l 0) a h λa h=>q .normal [a] h) (q (.exit 0) [ge l 0] h)
def uE(C:CC)(a c d e:V):bJ:=λl h q=>aj .geq (ge l 0) (.d (.int .u64 1000000000)) λf=>bL f SM h (ge l 1) λg h=>aM f SM h (aD .lss g (.d (.int .u64 1000000000))) λg h=>bL f SM h g λg h=>bL g Th h (ge l 0) λi h=>bL g Th h c λj h=>bL g Th h d λk h=>aM g Th h (aD .sub k (I 2)) λk h=>aM g Th h (bq h 1 j k) λj h=>aM g Th h (ld1 h j) λj h=>aM g Th h (aD .mul i j) λi h=>bL g Th h (ge l 1) λj h=>aM g Th h (aD .mul j (.d (.int .u64 1000000000))) λj h=>bL g Th h a λa h=>bL g Th h e λe h=>bL g Th h d λk h=>aM g Th h (aD .add e k) λe h=>aM g Th h (aD .sub e (I 2)) λe h=>aM g Th h (bq h 1 a e) λa h=>aM g Th h (ld1 h a) λa h=>aM g Th h (aD .add j a) λa h=>aM g Th h (aD .gtr i a) λa h=>aM f SM h (kP g a (B SM)) λa h=>cF f (B Th) a λa=>aQ a (aj .sub (ge l 0) (.d (.int .u64 1)) λa=>aj .sub d (I 1) λd=>aT h 1 c d λc=>aF h c λc=>aj .add (ge l 1) c λc=>q .normal [a,c] h) (q (.exit 4) [ge l 0] h)
def BI(C:CC)(a c d e:V):bJ:=λl h q=>aY .geq (ge l 0) (I 0) (aj .add (ge l 0) d λf=>aT h 1 a f λf=>aF h f λf=>aj .mul f (.d (.int .u64 1000000000)) λf=>aj .add (ge l 0) d λg=>aj .sub g (I 1) λg=>aT h 1 a g λg=>aF h g λg=>aj .add f g λf=>aj .sub d (I 1) λg=>aT h 1 c g λg=>aF h g λg=>aj .quo f g λg=>aj .sub d (I 1) λi=>aT h 1 c i λi=>aF h i λi=>aj .rem f i λf=>lp (uE C a c d (ge l 0)) [] h [g,f] h (aV [((.exit 4),λd h=>dX C h F.wQ [a,c,ge d 0,ge l 0] 5 λf h=>jn (λa h=>aT h 1 e (ge l 0) λc=>aS h 1 c (ge a 0) λ_ h=>aj .sub (ge l 0) (I 1) λa=>q .normal [a] h) λe=>aQ f (aj .sub (ge d 0) (.d (.int .u64 1)) λd=>dX C h F.uF [a,c,ge l 0] 6 λa h=>e [d] h) (e [ge d 0] h))])) (q (.exit 2) [] h)
def yS(C:CC)(a c:V)(q:kQ):=let h:Hp:=.replicate 9 ah
 ba c λd=>aj .sub d (I 1) λd=>aT h 1 c d λd=>aF h d λd=>aj .add d (.d (.int .u64 1)) λd=>aj .quo (.d (.int .u64 1000000000)) d λd=>dX C h F.uD [a,d] 0 λe h=>cu 1 [.int .u64 0] [(0,(.d (.int .u64 0)))] h λf h=>cX SM 1 1 8 e f h λe h=>dX C h F.uD [c,d] 2 λc h=>ba c λf=>lp (Nz C a) [] h [e] h (aV [((.exit 0),λa h=>ba (ge a 0) λe=>aj .sub e f λe=>fS 4 8 [.int .u64 0] h e e λe h=>ba (ge a 0) λg=>aj .sub g f λg=>aj .sub g (I 1) λg=>lp (BI C (ge a 0) c f e) [5,6] h [g] h (aV [((.exit 2),λc h=>dX C h F.kz [ge a 0] 7 λa h=>ak C h F.wR [a,d] λa h=>bX a λa c=>dX C h F.kz [e] 8 λc h=>q (.tup [c,a]) h)]))])
def NA:cn:=(cN (bN (aX [.inl 0,.o,.slot 1,.inl 2]) (aP (bN (aB (.n (.l [7] [0,6,8,9] [((.exit 0),[7],[6,8,9])] []) (aP (aB (aX [.o,.slot 3]))) .o)) (bN (aX [.slot 4]) (bN (aP (aB (.n (.l [11] [6,7,8,9,10] [((.exit 2),[],[6,7,10])] [5,6]) (aP (aB (aB (cN (bN (aB (.n (.l [13,14] [6,7,8,9,10,11] [((.exit 4),[13],[6,7,8,9,10,11])] []) .o .o)) (aB (bN (aX [.inl 5]) (.n (.j [13] [6,7,8,9,10,11]) (aP (aX [.inl 6])) .o)))))))) .o))) (bN (aX [.inl 7]) (aB (aX [.inl 8])))))))))
attribute [local irreducible] bnd gd bp aQ ext cu kt aS cr mF cC jn lp aV fS cX eO pW in
theorem am6(C:CC)(t0:V)(t1:V)(q:bH):k9 Y C Tryz.f166 9 NA [t0,t1] q=yS C t0 t1 q:=Cq
theorem am4:okB Tryz.prog Tryz.f166 NA=Th:=du
theorem am5(h:yS DA t0 t1 (out v)):Ds F.yS [t0,t1] v:=
 CP.of (fn:=Tryz.f166) (m:=9) (a:=NA) rfl (λ_=>rfl) func166 am4 (by rw[am6];exact h)
def Fq(C:CC)(a c d:V):bJ:=λl h q=>aY .lss (ge l 0) d (aT h 1 a (ge l 0) λa=>aF h a λa=>bp C.p h c [a] λa h=>aQ a (q .ret [ge l 0] h) (aj .add (ge l 0) (I 1) λa=>q .normal [a] h)) (q (.exit 0) [] h)
def vj(C:CC)(a c:V)(q:kQ):=let h:Hp:=[]
 ba a λd=>lp (Fq C a c d) [] h [I 0] h (aV [((.exit 0),λa h=>q (I (-1)) h),(.ret,λa h=>q (ge a 0) h)])
theorem aeC(h:vj DA t0 t1 (out v)):Ds F.vj [t0,t1] v:=aU 0 (aP (aB (aP (aB (.n (.l [8] [0,1,7] [((.exit 0),[],[]),(.ret,[4],[])] []) .o .o))))) func188 h
def xw(C:CC)(a c:V)(q:kQ):=let h:Hp:=[]
 ak C h F.vj [a,c] λa h=>aj .geq a (I 0) λa=>q a h
theorem aeL(h:xw DA t0 t1 (out v)):Ds F.xw [t0,t1] v:=aU 0 .o func153 h
def aeE(C:CC)(a c d:V):bJ:=λl h q=>aY .lss (ge l 0) d (aT h 1 a (ge l 0) λa=>aF h a λa=>bp C.p h c [a] λa h=>aQ a (q .ret [ge l 0] h) (aj .add (ge l 0) (I 1) λa=>q .normal [a] h)) (q (.exit 0) [] h)
def Ft(C:CC)(a c:V)(q:kQ):=let h:Hp:=[]
 ba a λd=>lp (aeE C a c d) [] h [I 0] h (aV [((.exit 0),λa h=>q (I (-1)) h),(.ret,λa h=>q (ge a 0) h)])
theorem aeF(h:Ft DA t0 t1 (out v)):Ds F.Ft [t0,t1] v:=aU 0 (aP (aB (aP (aB (.n (.l [8] [0,1,7] [((.exit 0),[],[]),(.ret,[4],[])] []) .o .o))))) func190 h
def Ab(C:CC)(a c:V)(q:kQ):=let h:Hp:=[]
 ak C h F.Ft [a,c] λa h=>aj .geq a (I 0) λa=>q a h
theorem aeN(h:Ab DA t0 t1 (out v)):Ds F.Ab [t0,t1] v:=aU 0 .o func156 h
def ic(C:CC)(a:V)(q:kQ):=let h:Hp:=[]
 bnd (fv a) λc=>aj .gtr c (I 0) λc=>bL c Th h a λd h=>aM c Th h (fF d (I 0)) λd h=>aM c Th h (aD .eql d (.d (.int .u8 45))) λd h=>cF c d (B SM) λc=>aQ c (bnd (m9 a (Wf (I 1)) Vc) λa=>q (.tup [B Th,a]) h) (q (.tup [B SM,a]) h)
theorem abJ(h:ic DA t0 (out v)):Ds F.ic [t0] v:=aU 0 .o func93 h
def xa(C:CC)(a:V)(q:kQ):=let h:Hp:=[]
 ak C h F.ic [a] λa h=>bX a λa c=>bL a Th h c λd h=>aM a Th h (jY .eql d (.d (.str [48]))) λd h=>cF a d (B SM) λa=>bL a SM h c λc h=>gd a SM h (λq=>ak C h F.yU [c] q) λc h=>aM a SM h (aD .neq c (I 0)) λc h=>cF a (B Th) c λa=>aQ a (q (I 2) h) (q (I 0) h)
theorem abX(h:xa DA t0 (out v)):Ds F.xa [t0] v:=aU 0 .o func117 h
def kL(C:CC)(a:V)(q:kQ):=let h:Hp:=[]
 mE .eql a (.d (.str [48])) λc=>aQ c (q (I 0) h) (bnd (fF a (I 0)) λa=>aY .eql a (.d (.int .u8 45)) (q (I (-1)) h) (q (I 1) h))
theorem abO(h:kL DA t0 (out v)):Ds F.kL [t0] v:=aU 0 .o func65 h
def iW(C:CC)(a:V)(q:kQ):=let h:Hp:=[]
 ak C h F.strconv_Itoa [a] q
theorem O6(h:iW DA t0 (out v)):Ds F.iW [t0] v:=aU 0 .o func55 h
def j7(C:CC)(a c:V)(q:kQ):=let h:Hp:=[]
 bnd (fv a) λd=>aY .gtr d c (q (.tup [I 0,B SM]) h) (ak C h F.strconv_Atoi [a] λa h=>bX a λa c=>bnd (py .eql c (.d (.pl .nilIface))) λc=>q (.tup [a,c]) h)
theorem Jk(h:j7 DA t0 t1 (out v)):Ds F.j7 [t0,t1] v:=aU 0 .o func133 h
def lE(C:CC)(a:V)(q:kQ):=let h:Hp:=[]
 ak C h F.ic [a] λa h=>bX a λa c=>q c h
theorem O8(h:lE DA t0 (out v)):Ds F.lE [t0] v:=aU 0 .o func64 h
def EL(C:CC):bJ:=λl h q=>aY .neq (ge l 1) (I 0) (aj .rem (ge l 0) (ge l 1) λa=>q .normal [ge l 1,a] h) (q (.exit 0) [ge l 0] h)
def zr(C:CC)(a c:V)(q:kQ):=let h:Hp:=[]
 lp (EL C) [] h [a,c] h (aV [((.exit 0),λa h=>q (ge a 0) h)])
theorem abL(h:zr DA t0 t1 (out v)):Ds F.zr [t0,t1] v:=aU 0 (aP (aB (aB (.n (.l [0,1] [] [((.exit 0),[0],[])] []) .o .o)))) func148 h
def uR(C:CC)(a c:V)(q:kQ):=let h:Hp:=[]
 ak C h F.lE [a] λa h=>ak C h F.lE [c] λc h=>ak C h F.j7 [a,I 18] λd h=>bX d λd e=>jn (λd h=>ak C h F.yT [a,c] q) λa=>aQ e (ak C h F.j7 [c,I 18] λc h=>bX c λc e=>aQ e (ak C h F.zr [d,c] λa h=>ak C h F.iW [a] q) (a [] h)) (a [] h)
theorem abT(h:uR DA t0 t1 (out v)):Ds F.uR [t0,t1] v:=aU 0 (cN (aB (cN (gZ [] [5,6])))) func118 h
def ut(C:CC)(a:V)(q:kQ):=let h:Hp:=.replicate 1 ah
 cC 0 a h λa h=>bi 0 a λc=>aF h c λc=>ak C h F.xa [c] λc h=>aj .neq c (I 0) λc=>jn (λc h=>aQ (ge c 0) (q (I 2) h) (bi 1 a λc=>aF h c λc=>ak C h F.kL [c] λc h=>aj .leq c (I 0) λc=>jn (λa h=>aQ (ge a 0) (q (I 2) h) (q (I 0) h)) λd=>aQ c (d [c] h) (bi 0 a λc=>aF h c λc=>bi 1 a λa=>aF h a λa=>ak C h F.uR [c,a] λa h=>mE .neq a (.d (.str [49])) λa=>d [a] h))) λd=>aQ c (d [c] h) (bi 1 a λa=>aF h a λa=>ak C h F.xa [a] λa h=>aj .neq a (I 0) λa=>d [a] h)
theorem aly(h:ut DA t0 (out v)):Ds F.ut [t0] v:=aU 1 (bN (aX [.slot 0]) (aB (aB (bN (aP (gZ [3] [1])) (aP (aB (aP (gZ [12] [])))))))) func83 h
def rH(C:CC)(a:V)(q:kQ):=let h:Hp:=[]
 ak C h F.ic [a] λa h=>bX a λa c=>bnd (f9 .not a) λa=>ak C h F.jg [a,c] q
theorem abQ(h:rH DA t0 (out v)):Ds F.rH [t0] v:=aU 0 .o func115 h
def uP(C:CC)(a:V)(q:kQ):=let h:Hp:=[]
 ak C h F.u7 [a,I 10,I 64] λa h=>bX a λa c=>bnd (py .neq c (.d (.pl .nilIface))) λc=>aQ c (q (.tup [I 0,B SM]) h) (q (.tup [a,B Th]) h)
theorem abN(h:uP DA t0 (out v)):Ds F.uP [t0] v:=aU 0 .o func110 h
def uS(C:CC)(a c:V)(q:kQ):=let h:Hp:=[]
 ak C h F.kL [a] λd h=>ak C h F.kL [c] λe h=>aY .neq d e (aY .lss d e (q (I (-1)) h) (q (I 1) h)) (ak C h F.ic [a] λa h=>bX a λa d=>ak C h F.ic [c] λc h=>bX c λc e=>jn (λa h=>ak C h F.po [ge a 0,ge a 1] q) λc=>aQ a (c [e,d] h) (c [d,e] h))
theorem abW(h:uS DA t0 t1 (out v)):Ds F.uS [t0,t1] v:=aU 0 (yb (aB (aP (gZ [8,10] [])))) func123 h
def jh(C:CC)(a c:V)(q:kQ):=let h:Hp:=[]
 mE .eql c (.d (.str [48])) λd=>aQ d (q (.tup [(.d (.str [])),(.d (.str [])),I 17]) h) (ak C h F.j7 [a,I 18] λd h=>bX d λd e=>jn (λd h=>ak C h F.ic [a] λa h=>bX a λa d=>ak C h F.ic [c] λc h=>bX c λc e=>ak C h F.re [d,e] λd h=>kw d λd f g=>dM g (q (.tup [(.d (.str [])),(.d (.str [])),g]) h) (bnd (jB .neq a c) λg=>bL g Th h f λi h=>aM g Th h (jY .neq i (.d (.str [48]))) λi h=>cF g i (B SM) λg=>jn (λd h=>bnd (jB .neq a c) λa=>ak C h F.jg [a,ge d 0] λa h=>ak C h F.jg [c,ge d 1] λc h=>q (.tup [a,c,I 0]) h) λa=>aQ g (ak C h F.qi [d,(.d (.str [49]))] λc h=>ak C h F.rb [e,f] λd h=>bX d λd e=>a [c,d] h) (a [d,f] h))) λa=>aQ e (ak C h F.j7 [c,I 18] λc h=>bX c λc e=>aQ e (aj .quo d c λa=>aj .rem d c λd=>aj .neq d (I 0) λe=>bL e Th h d λf h=>aM e Th h (aD .lss f (I 0)) λf h=>bL e Th h c λg h=>aM e Th h (aD .lss g (I 0)) λg h=>aM e Th h (jB .neq f g) λf h=>cF e f (B SM) λe=>jn (λa h=>ak C h F.iW [ge a 0] λc h=>ak C h F.iW [ge a 1] λa h=>q (.tup [c,a,I 0]) h) λf=>aQ e (aj .sub a (I 1) λa=>aj .add d c λc=>f [a,c] h) (f [a,d] h)) (a [] h)) (a [] h))
def Jl:cn:=(cN (bN (cN (.n (.j [] [0,1]) (cN (aB (aP (aB (aP (gZ [11,12] [])))))) .o)) (yb (aB (aP (gZ [17,18] [13,15]))))))
theorem abV(C:CC)(t0:V)(t1:V)(q:bH):k9 Y C Tryz.f103 0 Jl [t0,t1] q=jh C t0 t1 q:=by kernel_rfl
theorem abU:okB Tryz.prog Tryz.f103 Jl=Th:=du
theorem O7(h:jh DA t0 t1 (out v)):Ds F.jh [t0,t1] v:=
 CP.of (fn:=Tryz.f103) (m:=0) (a:=Jl) rfl (λ_=>rfl) func103 abU (by rw[abV];exact h)
def w9(C:CC)(a c:V)(q:kQ):=let h:Hp:=[]
 ak C h F.lE [a] λa h=>ak C h F.lE [c] λc h=>ak C h F.BK [a,c] q
theorem abS(h:w9 DA t0 t1 (out v)):Ds F.w9 [t0,t1] v:=aU 0 .o func102 h
def uQ(C:CC)(a c:V)(q:kQ):=let h:Hp:=[]
 aY .lss c (I 0) (q (.tup [(.d (.str [])),I 3]) h) (ak C h F.ic [a] λa h=>bX a λa d=>bnd (fv d) λe=>aj .quo (I 4000) e λe=>aY .gtr c e (q (.tup [(.d (.str [])),I 4]) h) (ak C h F.wU [d,c] λd h=>bX d λd e=>dM e (q (.tup [(.d (.str [])),e]) h) (bL a Th h c λc h=>aM a Th h (aD .rem c (I 2)) λc h=>aM a Th h (aD .eql c (I 1)) λc h=>cF a c (B SM) λa=>ak C h F.jg [a,d] λa h=>q (.tup [a,I 0]) h)))
theorem abP(h:uQ DA t0 t1 (out v)):Ds F.uQ [t0,t1] v:=aU 0 .o func173 h
def BK(C:CC)(a c:V)(q:kQ):=let h:Hp:=[]
 mE .eql a (.d (.str [48])) λd=>bL d SM h c λe h=>aM d SM h (jY .eql e (.d (.str [48]))) λe h=>cF d (B Th) e λd=>aQ d (q (.d (.str [48])) h) (ak C h F.yT [a,c] λd h=>ak C h F.re [a,d] λa h=>kw a λa d e=>dM e (q (.d (.str [])) h) (ak C h F.uG [a,c] q))
theorem anp(h:BK DA t0 t1 (out v)):Ds F.BK [t0,t1] v:=aU 0 .o func132 h
def anx(C:CC)(a c:V):bJ:=λl h q=>aY .lss (ge l 1) c (aT h 1 a (ge l 1) λc=>aF h c λc=>aj .mul c (.d (.int .u64 1000000000)) λc=>aj .add (ge l 0) c λc=>aj .and c (.d (.int .u64 4294967295)) λd=>aT h 1 a (ge l 1) λa=>aS h 1 a d λ_ h=>aj .shr c (.d (.int .u64 32)) λa=>aj .add (ge l 1) (I 1) λc=>q .normal [a,c] h) (q (.exit 2) [ge l 0] h)
def anz(C:CC)(a:V):bJ:=λl h q=>aY .geq (ge l 1) (I 0) (jn (λa h=>aj .sub (ge l 1) (I 1) λc=>q .normal [ge a 0,c] h) λc=>aT h 1 a (ge l 1) λa=>aF h a λa=>ba (ge l 0) λd=>lp (anx C (ge l 0) d) [] h [a,I 0] h (aV [((.exit 2),λa h=>aj .gtr (ge a 0) (.d (.int .u64 0)) λd=>jn (λa h=>c [ge a 0] h) λc=>aQ d (cu 1 [.int .u64 0] [(0,(ge a 0))] h λa h=>cX SM 1 1 8 (ge l 0) a h λa h=>c [a] h) (c [ge l 0] h))])) (q (.exit 0) [ge l 0] h)
def BN(C:CC)(a:V)(q:kQ):=let h:Hp:=.replicate 2 ah
 ak C h F.wT [a] λc h=>bX c λc d=>aQ d (ak C h F.t6 [c] q) (dX C h F.mC [a] 0 λa h=>ba a λc=>aj .sub c (I 1) λc=>lp (anz C a) [] h [d6,c] h (aV [((.exit 0),λa h=>ba (ge a 0) λc=>aj .sub c (I 1) λc=>aj .mul (I 32) c λc=>ba (ge a 0) λd=>aj .sub d (I 1) λd=>aT h 1 (ge a 0) d λa=>aF h a λa=>ak C h F.t6 [a] λa h=>aj .add c a λa=>q a h)]))
theorem anA(h:BN DA t0 (out v)):Ds F.BN [t0] v:=aU 2 (nm (bN (aX [.inl 0]) (aB (aP (aB (.n (.l [5,7] [6] [((.exit 0),[5],[])] []) (aP (aB (.n (.j [5] [6,7]) (aP (bN (aP (aB (.n (.l [8,33] [5,6,7,32] [((.exit 2),[8],[5,6,7])] []) .o .o))) (aP (.n (.j [5] [6,7]) (aX [.o,.slot 1]) .o)))) .o))) .o)))))) func211 h
def Ec(C:CC):bJ:=λl h q=>aY .gtr (ge l 2) (I 0) (jn (λa h=>aj .shr (ge l 2) (.d (.int .u64 1)) λc=>q .normal [ge a 0,ge a 1,c] h) λa=>aj .and (ge l 2) (I 1) λc=>aj .eql c (I 1) λc=>jn (λc h=>aj .gtr (ge l 2) (I 1) λd=>jn (λd h=>a [ge c 0,ge d 0] h) λa=>aQ d (dX C h F.qY [ge l 1,ge l 1] 2 λc h=>a [c] h) (a [ge l 1] h)) λa=>aQ c (dX C h F.qY [ge l 0,ge l 1] 1 λc h=>a [c] h) (a [ge l 0] h)) (q (.exit 1) [ge l 0] h)
def wU(C:CC)(a c:V)(q:kQ):=let h:Hp:=.replicate 3 ah
 aY .lss c (I 0) (q (.tup [(.d (.str [])),I 3]) h) (aj .eql c (I 0) λd=>bL d SM h a λe h=>aM d SM h (jY .eql e (.d (.str [49]))) λe h=>cF d (B Th) e λd=>aQ d (q (.tup [(.d (.str [49])),I 0]) h) (mE .eql a (.d (.str [48])) λd=>aQ d (q (.tup [(.d (.str [48])),I 0]) h) (ak C h F.BN [a] λd h=>aj .sub d (I 1) λd=>aj .quo (I 66439) d λd=>aY .gtr c d (q (.tup [(.d (.str [])),I 4]) h) (cu 1 [.int .u64 0] [(0,(.d (.int .u64 1)))] h λd h=>dX C h F.mC [a] 0 λa h=>lp (Ec C) [] h [d,a,c] h (aV [((.exit 1),λa h=>ak C h F.nH [ge a 0] λa h=>bnd (fv a) λc=>aY .gtr c (I 20000) (q (.tup [(.d (.str [])),I 4]) h) (q (.tup [a,I 0]) h))])))))
def NE:cn:=(nm (bN (aX [.o,.inl 0]) (aB (aB (.n (.l [7,8,1] [] [((.exit 1),[7],[])] []) (aP (aB (.n (.j [7,8] [1]) (bN (aP (.n (.j [7] [1,8]) (aX [.inl 1]) .o)) (aP (.n (.j [8] [1,7]) (aX [.inl 2]) .o))) .o))) .o)))))
attribute [local irreducible] bnd gd bp aQ ext cu kt aS cr mF cC jn lp aV fS cX eO pW in
theorem anm(C:CC)(t0:V)(t1:V)(q:bH):k9 Y C Tryz.f197 3 NE [t0,t1] q=wU C t0 t1 q:=Cq
theorem ank:okB Tryz.prog Tryz.f197 NE=Th:=du
theorem anl(h:wU DA t0 t1 (out v)):Ds F.wU [t0,t1] v:=
 CP.of (fn:=Tryz.f197) (m:=3) (a:=NE) rfl (λ_=>rfl) func197 ank (by rw[anm];exact h)
def wG(C:CC)(a:V)(q:kQ):=let h:Hp:=[]
 bnd (fv a) λc=>aY .gtr c (I 9) (q (.tup [I 0,B SM]) h) (ak C h F.strconv_Atoi [a] λa h=>bX a λa c=>bnd (py .eql c (.d (.pl .nilIface))) λc=>q (.tup [a,c]) h)
theorem alq(h:wG DA t0 (out v)):Ds F.wG [t0] v:=aU 0 .o func146 h
def qS(C:CC)(a:V)(q:kQ):=let h:Hp:=.replicate 1 ah
 cC 0 a h λa h=>bi 0 a λc=>aF h c λc=>ak C h F.wG [c] λc h=>bX c λc d=>bi 1 a λa=>aF h a λa=>ak C h F.wG [a] λa h=>bX a λa e=>bL d Th h e λe h=>cF d e (B SM) λd=>q (.tup [c,a,d]) h
theorem alr(h:qS DA t0 (out v)):Ds F.qS [t0] v:=aU 1 (aB (aX [.slot 0])) func113 h
def DU(C:CC):bJ:=λl h q=>aY .neq (ge l 1) (I 0) (aj .rem (ge l 0) (ge l 1) λa=>q .normal [ge l 1,a] h) (q (.exit 0) [ge l 0] h)
def sJ(C:CC)(a c:V)(q:kQ):=let h:Hp:=.replicate 1 ah
 cr 0 [.d (.str []),.d (.str [])] h λd h=>lp (DU C) [] h [a,c] h (aV [((.exit 0),λe h=>aj .lss (ge e 0) (I 0) λf=>jn (λe h=>aj .quo a (ge e 0) λa=>ak C h F.strconv_Itoa [a] λa h=>aj .quo c (ge e 0) λc=>ak C h F.strconv_Itoa [c] λc h=>bnd (fG [(0,1),(1,1)] [.str [],.str []] [(0,a),(1,c)]) λa=>aS h 2 d a λ_ h=>bnd (aG h 2 d) λa=>q a h) λa=>aQ f (bnd (f9 .neg (ge e 0)) λc=>a [c] h) (a [ge e 0] h))])
theorem alo(h:sJ DA t0 t1 (out v)):Ds F.sJ [t0,t1] v:=aU 1 (bN (aX [.slot 0]) (aP (bN (aB (.n (.l [5,6] [0,1,4] [((.exit 0),[5],[0,1,4])] []) .o .o)) (aB (aP (gZ [5] [0,1,4])))))) func114 h
def om(C:CC)(a c:V)(q:kQ):=let h:Hp:=.replicate 1 ah
 cr 0 [.d (.str []),.d (.str [])] h λd h=>ak C h F.kL [c] λe h=>aj .lss e (I 0) λe=>jn (λa h=>ak C h F.uR [ge a 0,ge a 1] λc h=>mE .neq c (.d (.str [49])) λe=>jn (λa h=>bnd (fG [(0,1),(1,1)] [.str [],.str []] [(0,(ge a 0)),(1,(ge a 1))]) λa=>aS h 2 d a λ_ h=>bnd (aG h 2 d) λa=>q a h) λd=>aQ e (ak C h F.jh [ge a 0,c] λe h=>kw e λe f g=>ak C h F.jh [ge a 1,c] λa h=>kw a λa c f=>d [e,a] h) (d [ge a 0,ge a 1] h)) λd=>aQ e (ak C h F.rH [a] λa h=>ak C h F.rH [c] λc h=>d [a,c] h) (d [a,c] h)
theorem alp(h:om DA t0 t1 (out v)):Ds F.om [t0,t1] v:=aU 1 (bN (aX [.slot 0]) (bN (aP (gZ [0,1] [4])) (aB (cN (gZ [0,1] [4]))))) func85 h
def qf(C:CC)(a c:V)(q:kQ):=let h:Hp:=.replicate 3 ah
 cC 0 a h λa h=>cC 1 c h λc h=>cr 2 [.d (.str []),.d (.str [])] h λd h=>bi 1 a λe=>aF h e λe=>mE .eql e (.d (.str [49])) λe=>aM e Th h (ii 1 c) λf h=>aM e Th h (ld1 h f) λf h=>aM e Th h (jY .eql f (.d (.str [49]))) λf h=>cF e f (B SM) λe=>aQ e (bi 0 a λa=>aF h a λa=>bi 0 c λc=>aF h c λc=>ak C h F.ji [a,c] λa h=>bnd (fG [(0,1),(1,1)] [.str [],.str []] [(0,a),(1,(.d (.str [49])))]) λa=>aS h 2 d a λ_ h=>bnd (aG h 2 d) λa=>q a h) (bnd (aG h 2 a) λe=>ak C h F.qS [e] λe h=>kw e λe f g=>jn (λe h=>bi 0 a λe=>aF h e λe=>bi 1 c λf=>aF h f λf=>ak C h F.gy [e,f] λe h=>bi 0 c λf=>aF h f λf=>bi 1 a λg=>aF h g λg=>ak C h F.gy [f,g] λf h=>ak C h F.ji [e,f] λe h=>bi 1 a λa=>aF h a λa=>bi 1 c λc=>aF h c λc=>ak C h F.gy [a,c] λa h=>ak C h F.om [e,a] λa h=>aS h 2 d a λ_ h=>bnd (aG h 2 d) λa=>q a h) λa=>aQ g (bnd (aG h 2 c) λc=>ak C h F.qS [c] λc h=>kw c λc g i=>aQ i (aj .mul e g λa=>aj .mul c f λc=>aj .add a c λa=>aj .mul f g λc=>ak C h F.sJ [a,c] λa h=>aS h 2 d a λ_ h=>bnd (aG h 2 d) λa=>q a h) (a [] h)) (a [] h))
def MQ:cn:=(bN (aX [.slot 0,.slot 1,.slot 2]) (aP (aB (cN (gZ [] [2,3,4])))))
theorem alB(C:CC)(t0:V)(t1:V)(q:bH):k9 Y C Tryz.f76 3 MQ [t0,t1] q=qf C t0 t1 q:=by kernel_rfl
theorem alz:okB Tryz.prog Tryz.f76 MQ=Th:=du
theorem alA(h:qf DA t0 t1 (out v)):Ds F.qf [t0,t1] v:=
 CP.of (fn:=Tryz.f76) (m:=3) (a:=MQ) rfl (λ_=>rfl) func76 alz (by rw[alB];exact h)
def wI(C:CC)(a c:V)(q:kQ):=let h:Hp:=.replicate 3 ah
 cC 0 a h λa h=>cC 1 c h λc h=>cr 2 [.d (.str []),.d (.str [])] h λd h=>bnd (aG h 2 a) λe=>ak C h F.qS [e] λe h=>kw e λe f g=>jn (λe h=>bi 0 a λe=>aF h e λe=>bi 0 c λf=>aF h f λf=>ak C h F.gy [e,f] λe h=>bi 1 a λa=>aF h a λa=>bi 1 c λc=>aF h c λc=>ak C h F.gy [a,c] λa h=>ak C h F.om [e,a] λa h=>aS h 2 d a λ_ h=>bnd (aG h 2 d) λa=>q a h) λa=>aQ g (bnd (aG h 2 c) λc=>ak C h F.qS [c] λc h=>kw c λc g i=>aQ i (aj .mul e c λa=>aj .mul f g λc=>ak C h F.sJ [a,c] λa h=>aS h 2 d a λ_ h=>bnd (aG h 2 d) λa=>q a h) (a [] h)) (a [] h)
theorem alx(h:wI DA t0 t1 (out v)):Ds F.wI [t0,t1] v:=aU 3 (bN (aX [.slot 0,.slot 1,.slot 2]) (aB (cN (gZ [] [2,3,4])))) func80 h
def wH(C:CC)(a:V)(q:kQ):=let h:Hp:=.replicate 1 ah
 cC 0 a h λa h=>bi 0 a λa=>aF h a λa=>ak C h F.kL [a] q
theorem alt(h:wH DA t0 (out v)):Ds F.wH [t0] v:=aU 1 (aB (aX [.slot 0])) func40 h
def By(C:CC)(a c:V)(q:kQ):=let h:Hp:=.replicate 1 ah
 cr 0 [.d (.str []),.d (.str [])] h λd h=>ak C h F.kL [c] λe h=>aY .eql e (I 0) (bnd (fG [(0,1),(1,1)] [.str [],.str []] []) λa=>aS h 2 d a λ_ h=>bnd (aG h 2 d) λa=>q (.tup [a,I 17]) h) (ak C h F.om [a,c] λa h=>aS h 2 d a λ_ h=>bnd (aG h 2 d) λa=>q (.tup [a,I 0]) h)
theorem alv(h:By DA t0 t1 (out v)):Ds F.By [t0,t1] v:=aU 1 (aB (aX [.slot 0])) func54 h
def sL(C:CC)(a c:V)(q:kQ):=let h:Hp:=.replicate 1 ah
 cr 0 [.d (.str []),.d (.str [])] h λd h=>ak C h F.iW [a] λa h=>ak C h F.iW [c] λc h=>ak C h F.By [a,c] λa h=>bX a λa c=>aS h 2 d a λ_ h=>bnd (aG h 2 d) λa=>q (.tup [a,c]) h
theorem alu(h:sL DA t0 t1 (out v)):Ds F.sL [t0,t1] v:=aU 1 (aB (aX [.slot 0])) func30 h
def Fy(C:CC)(a c d:V):bJ:=λl h q=>aY .lss (ge l 0) d (aT h 2 c (ge l 0) λc=>bnd (aG h 2 c) λc=>cr 2 [.d (.str []),.d (.str [])] h λd h=>aS h 2 d c λ_ h=>bi 2 a λc=>aF h c λc=>bi 1 d λd=>aF h d λd=>ak C h F.w9 [c,d] λc h=>bi 2 a λa=>aS h 1 a c λ_ h=>aj .add (ge l 0) (I 1) λa=>q .normal [a] h) (q (.exit 0) [] h)
def CF(C:CC)(a c d e:V):bJ:=λl h q=>aY .lss (ge l 0) e (jn (λa h=>aj .add (ge l 0) (I 1) λa=>q .normal [a] h) λe=>aT h 2 d (ge l 0) λd=>bnd (aG h 2 d) λd=>cr 3 [.d (.str []),.d (.str [])] h λf h=>aS h 2 f d λ_ h=>bi 0 f λd=>aF h d λd=>mE .neq d (.d (.str [48])) λd=>jn (λa h=>e [] h) λe=>aQ d (bi 2 c λd=>aF h d λd=>bi 1 f λg=>aF h g λg=>ak C h F.jh [d,g] λd h=>kw d λd g i=>bi 0 c λg=>sm h c g<|aF h g λg=>aT h 1 a (ge l 0) λa=>aF h a λa=>cu 1 [.int .i64 0] [(0,a)] h λa h=>sp h g [c,f]<|cX SM 4 1 8 g a h λa h=>bi 1 c λg=>sm h c g<|aF h g λg=>bi 0 f λi=>sm h f i<|aF h i λf=>ak C h F.gy [f,d] λd h=>cu 1 [.str []] [(0,d)] h λd h=>cX SM 5 1 16 g d h λd h=>bi 0 c λf=>aS h 1 f a λ_ h=>bi 1 c λa=>aS h 1 a d λ_ h=>e [] h) (e [] h)) (q (.exit 2) [] h)
def vr(C:CC)(a c:V)(q:kQ):=let h:Hp:=.replicate 6 ah
 cr 0 [.d aR,.d aR,.d (.str [])] h λd h=>bnd (fG [(0,1),(1,1),(2,1)] [aR,aR,.str []] [(2,(.d (.str [49])))]) λe=>cr 1 [.d aR,.d aR,.d (.str [])] h λf h=>aS h 3 f e λ_ h=>ba c λe=>lp (Fy C f c e) [2] h [I 0] h (aV [((.exit 0),λe h=>ba c λe=>lp (CF C a f c e) [3] h [I 0] h (aV [((.exit 2),λa h=>bnd (aG h 3 f) λa=>aS h 3 d a λ_ h=>bnd (aG h 3 d) λa=>q a h)]))])
def Kh:cn:=(bN (aX [.slot 0]) (bN (aX [.slot 1]) (bN (aP (aB (.n (.l [16] [0,1,4,5,14,15] [((.exit 0),[],[0,1,4,5])] [2]) (cN (aB (aB (aB (aX [.slot 2]))))) .o))) (aB (aP (aB (.n (.l [29] [0,4,5,27,28] [((.exit 2),[],[4,5])] [3]) (cN (aB (.n (.j [] [0,4,5,27,28,29]) (bN (aX [.slot 3]) (aP (.n (.j [] [0,4,5,27,28,29]) (aP (aX [.o,.slot 4,.o,.o,.slot 5])) .o))) .o))) .o)))))))
theorem afb(C:CC)(t0:V)(t1:V)(q:bH):k9 Y C Tryz.f71 6 Kh [t0,t1] q=vr C t0 t1 q:=by kernel_rfl
theorem ae9:okB Tryz.prog Tryz.f71 Kh=Th:=du
theorem afa(h:vr DA t0 t1 (out v)):Ds F.vr [t0,t1] v:=
 CP.of (fn:=Tryz.f71) (m:=6) (a:=Kh) rfl (λ_=>rfl) func71 ae9 (by rw[afb];exact h)
def tE(C:CC)(a:V)(q:kQ):=let h:Hp:=.replicate 1 ah
 cC 0 a h λa h=>q (.fn F.rS [] [a]) h
theorem ae8(h:tE DA t0 (out v)):Ds F.tE [t0] v:=aU 1 (aB (aX [.slot 0])) func140 h
def Fx(C:CC)(a c d:V):zj:=λl h q=>
 aF h a λa=>
 ak C h F.xC [ge l 0,a] λa h=>
 aj .neq (ge l 0) (I 2) λe=>
 jn (λe h=>
 ak C h F.gy [a,ge l 1] λa h=>
 ak C h F.gy [ge e 0,ge l 1] λe h=>
 ak C h F.kL [ge l 1] λf h=>
 aj .lss f (I 0) λf=>
 jn (λa h=>
 aF h c λe=>
 ak C h F.ji [e,ge a 0] λe h=>
 aF h d λf=>
 ak C h F.ji [f,ge a 1] λa h=>
 aS h 1 c e λ_ h=>
 aS h 1 d a λ_ h=>
 q .normal h) λc=>
 aQ f (
 c [e,a] h) (
 c [a,e] h)) λc=>
 aQ e (
 ak C h F.ji [a,(.d (.str [49]))] λa h=>
 c [a] h) (
 c [a] h)
def xA(C:CC)(a c:V)(q:kQ):=let h:Hp:=.replicate 4 ah
 cC 0 a h λa h=>cC 1 c h λc h=>cr 2 [.d (.str [])] h λd h=>cr 3 [.d (.str [])] h λe h=>aS h 1 d (.d (.str [48])) λ_ h=>aS h 1 e (.d (.str [48])) λ_ h=>bnd (aG h 3 a) λa=>ak C h F.tE [a] λa h=>xN (Cs Y.seq a) 2 (Fx C c d e) [] h (λex h=>aV [(.normal,λ_ h=>aF h d λa=>aF h e λc=>sp h d [e]<|aS h 1 d a λ_ h=>aS h 1 e c λ_ h=>aF h d λa=>aF h e λc=>q (.tup [a,c]) h)] ex [] h)
theorem ae7(h:xA DA t0 t1 (out v)):Ds F.xA [t0,t1] v:=aU 4 (bN (aX [.slot 0,.slot 1,.slot 2,.slot 3]) (aP (aB (aP (aB (.n (.l [] [3,4,5] [(.normal,[],[4,5])] []) .o (aB (cN (bN (aP (gZ [9] [4,5,7,8])) (aP (aB (aP (gZ [8,9] [4,5]))))))))))))) func106 h
def vp(C:CC)(a c d e:V):zj:=λl h q=>
 ak C h F.uP [ge l 1] λf h=>
 ext f 0 λg=>
 ext f 1 λf=>
 bnd (f9 .not f) λf=>
 bL f SM h g λi h=>
 aM f SM h (ld1 h a) λj h=>
 aM f SM h (aD .gtr i j) λi h=>
 cF f (B Th) i λf=>
 bL f SM h g λi h=>
 aM f SM h (ld1 h a) λa h=>
 aM f SM h (f9 .neg a) λa h=>
 aM f SM h (aD .lss i a) λa h=>
 cF f (B Th) a λa=>
 aQ a (
 aS h 1 c (I 0) λ_ h=>
 aS h 1 d (I 0) λ_ h=>
 aS h 1 e (B SM) λ_ h=>
 q .ret h) (
 ak C h F.Ae [ge l 0] λa h=>
 ext a 0 λf=>
 ext a 1 λa=>
 bnd (f9 .not a) λa=>
 aQ a (
 aS h 1 c (I 0) λ_ h=>
 aS h 1 d (I 0) λ_ h=>
 aS h 1 e (B SM) λ_ h=>
 q .ret h) (
 aj .add f (I 1) λa=>
 aj .eql (ge l 0) (I 2) λe=>
 jn (λa h=>
 aF h c λe=>
 aj .mul g f λi=>
 aj .mul g (ge a 0) λj=>
 bnd (gk SM [i,j]) λi=>
 aj .add e i λe=>
 aF h d λi=>
 aj .mul g f λf=>
 aj .mul g (ge a 0) λa=>
 bnd (gk Th [f,a]) λa=>
 aj .add i a λa=>
 sp h c [d]<|aS h 1 c e λ_ h=>
 aS h 1 d a λ_ h=>
 q .normal h) λc=>
 aQ e (
 c [f] h) (
 c [a] h)))
def vq(C:CC)(a c:V)(q:kQ):=let h:Hp:=.replicate 5 ah
 cC 0 a h λa h=>cC 1 c h λc h=>cr 2 [.d (.int .i64 0)] h λd h=>cr 3 [.d (.int .i64 0)] h λe h=>cr 4 [.d (.bool SM)] h λf h=>bnd (aG h 3 a) λa=>ak C h F.tE [a] λa h=>xN (Cs Y.seq a) 2 (vp C c d e f) [] h (λex h=>aV [(.ret,λ_ h=>aF h d λa=>aF h e λc=>aF h f λd=>q (.tup [a,c,d]) h),(.normal,λ_ h=>aF h d λa=>aF h e λc=>sp h d [e]<|aS h 1 d a λ_ h=>aS h 1 e c λ_ h=>aS h 1 f (B Th) λ_ h=>aF h d λa=>aF h e λc=>aF h f λd=>q (.tup [a,c,d]) h)] ex [] h)
def Kg:cn:=(bN (aX [.slot 0,.slot 1,.slot 2,.slot 3,.slot 4]) (aB (aP (aB (.n (.l [] [3,4,5,6] [(.ret,[],[4,5,6]),(.normal,[],[4,5,6])] []) .o (aB (Lz (aB (aP (gZ [13] [4,5,9,11]))))))))))
theorem ae6(C:CC)(t0:V)(t1:V)(q:bH):k9 Y C Tryz.f139 5 Kg [t0,t1] q=vq C t0 t1 q:=by kernel_rfl
theorem ae4:okB Tryz.prog Tryz.f139 Kg=Th:=du
theorem ae5(h:vq DA t0 t1 (out v)):Ds F.vq [t0,t1] v:=
 CP.of (fn:=Tryz.f139) (m:=5) (a:=Kg) rfl (λ_=>rfl) func139 ae4 (by rw[ae6];exact h)
def vn(C:CC)(a:V)(q:kQ):=let h:Hp:=.replicate 1 ah
 cC 0 a h λa h=>bnd (aG h 3 a) λa=>ak C h F.vq [a,I 10000000] λa h=>kw a λa c d=>bnd (f9 .not d) λd=>aQ d (q (I 0) h) (aY .geq a (I 0) (q (I 1) h) (aY .leq c (I 0) (q (I (-1)) h) (q (I 0) h)))
theorem ae3(h:vn DA t0 (out v)):Ds F.vn [t0] v:=aU 1 (aB (aX [.slot 0])) func105 h
def Kf(C:CC)(a:V):bJ:=λl h q=>bnd (aG h 3 a) λa=>ak C h F.xA [a,ge l 0] λa h=>bX a λa c=>ak C h F.kL [a] λa h=>aY .geq a (I 0) (q .ret [I 1] h) (ak C h F.kL [c] λa h=>aY .leq a (I 0) (q .ret [I (-1)] h) (aj .mul (ge l 0) (I 2) λa=>q .normal [a] h))
def oN(C:CC)(a:V)(q:kQ):=let h:Hp:=.replicate 1 ah
 cC 0 a h λa h=>bi 0 a λc=>aF h c λc=>ba c λc=>aY .eql c (I 0) (q (I 0) h) (bnd (aG h 3 a) λc=>ak C h F.vn [c] λc h=>dM c (q c h) (lp (Kf C a) [] h [I 64] h (aV [(.ret,λa h=>q (ge a 0) h)])))
theorem QT(h:oN DA t0 (out v)):Ds F.oN [t0] v:=aU 1 (bN (aX [.slot 0]) (aB (yb (aB (.n (.l [4] [1] [(.ret,[2],[])] []) .o .o))))) func72 h
def FA(C:CC):bJ:=λl h q=>aY .lss (ge l 3) (I 26) (jn (λa h=>aj .add (ge l 3) (I 1) λc=>q .normal [ge a 0,ge a 1,ge a 2,c] h) λa=>ak C h F.qM [ge l 0,ge l 0] λc h=>bX c λc d=>aj .shl c (.d (.int .u64 2)) λc=>aj .shr d (.d (.int .u64 62)) λd=>aj .or c d λc=>ak C h F.qM [ge l 1,ge l 1] λd h=>bX d λd e=>aj .shl d (.d (.int .u64 2)) λd=>aj .shr e (.d (.int .u64 62)) λe=>aj .or d e λd=>aj .add d (.d (.int .u64 1)) λd=>aj .mul (ge l 2) (I 2) λe=>aj .geq c (.d (.int .u64 9223372036854775808)) λf=>jn (λc h=>a [ge c 1,ge c 2,ge c 0] h) λa=>aQ f (aj .add e (I 1) λe=>aj .shr c (.d (.int .u64 1)) λc=>aj .shr d (.d (.int .u64 1)) λd=>aj .add d (.d (.int .u64 1)) λd=>a [e,c,d] h) (aY .geq d (.d (.int .u64 9223372036854775808)) (q .ret [I 0,B SM] h) (a [e,c,d] h))) (q (.exit 0) [ge l 2] h)
def Ae(C:CC)(a:V)(q:kQ):=let h:Hp:=[]
 bnd (fq .u64 a) λc=>ak C h F.yg [c] λc h=>aj .sub c (I 1) λc=>bnd (fq .u64 a) λa=>aj .sub (I 62) c λd=>aj .shl a d λa=>lp (FA C) [] h [a,a,c,I 0] h (aV [((.exit 0),λa h=>q (.tup [ge a 0,B Th]) h),(.ret,λa h=>q (.tup [ge a 0,ge a 1]) h)])
theorem afk(h:Ae DA t0 (out v)):Ds F.Ae [t0] v:=aU 0 (Lz (aB (aP (aB (.n (.l [5,6,7,21] [] [((.exit 0),[7],[]),(.ret,[2,3],[])] []) (cN (aB (.n (.j [5,6,7] [21]) (Lx (gZ [7,5,6] [21])) .o))) .o))))) func171 h
def QU(C:CC)(a c:V):bJ:=λl h q=>ak C h F.size_digits [a,c,ge l 0] λa h=>bX a λa c=>aQ c (q .ret [a] h) (aj .mul (ge l 0) (I 2) λa=>q .normal [a] h)
def xC(C:CC)(a c:V)(q:kQ):=let h:Hp:=[]
 aY .eql a (I 2) (ak C h F.uQ [(.d (.str [50])),c] λa h=>bX a λa c=>q a h) (aj .add c (I 64) λd=>lp (QU C a c) [] h [d] h (aV [(.ret,λa h=>q (ge a 0) h)]))
theorem afj(h:xC DA t0 t1 (out v)):Ds F.xC [t0,t1] v:=aU 0 (nm (aB (.n (.l [7] [0,1] [(.ret,[4],[])] []) .o .o))) func141 h
def FB(C:CC)(a c d:V):bJ:=λl h q=>aY .lss (ge l 3) d (jn (λa h=>aj .add (ge l 3) (I 1) λc=>q .normal [ge a 0,ge a 1,ge a 2,c] h) λd=>ak C h F.gy [ge l 0,ge l 0] λe h=>ak C h F.jh [e,a] λe h=>kw e λe f g=>ak C h F.gy [ge l 1,ge l 1] λf h=>ak C h F.jh [f,a] λa h=>kw a λa f g=>ak C h F.ji [a,(.d (.str [49]))] λa h=>ak C h F.ji [ge l 2,ge l 2] λf h=>jn (λa h=>d [ge a 1,ge a 2,ge a 0] h) λd=>ak C h F.uS [e,c] λg h=>aj .geq g (I 0) λg=>jn (λa h=>d [ge a 0,ge a 1,ge a 2] h) λd=>aQ g (ak C h F.ji [f,(.d (.str [49]))] λc h=>ak C h F.jh [e,(.d (.str [50]))] λe h=>kw e λe f g=>ak C h F.jh [a,(.d (.str [50]))] λa h=>kw a λa f g=>ak C h F.ji [a,(.d (.str [49]))] λa h=>d [c,e,a] h) (ak C h F.uS [a,c] λc h=>aY .geq c (I 0) (q .ret [(.d (.str [])),B SM] h) (d [f,e,a] h))) (q (.exit 0) [ge l 2] h)
def size_digits(C:CC)(a c d:V)(q:kQ):=let h:Hp:=[]
 bnd (fq .u64 a) λe=>ak C h F.yg [e] λe h=>aj .sub e (I 1) λe=>ak C h F.uQ [(.d (.str [50])),d] λf h=>bX f λf g=>ak C h F.ji [f,f] λg h=>aj .sub d e λd=>ak C h F.uQ [(.d (.str [50])),d] λd h=>bX d λd i=>ak C h F.iW [a] λa h=>ak C h F.gy [a,d] λa h=>ak C h F.iW [e] λd h=>lp (FB C f g c) [] h [a,a,d,I 0] h (aV [((.exit 0),λa h=>q (.tup [ge a 0,B Th]) h),(.ret,λa h=>q (.tup [ge a 0,ge a 1]) h)])
theorem afl(h:size_digits DA t0 t1 t2 (out v)):Ds F.size_digits [t0,t1,t2] v:=aU 0 (aio (aP (aB (aP (aB (.n (.l [14,15,16,50] [9,11,49] [((.exit 0),[16],[]),(.ret,[6,7],[])] []) (cN (aB (.n (.j [14,15,16] [9,11,49,50]) (yb (.n (.j [16,14,15] [9,11,49,50]) (aP (gZ [16,14,15] [9,11,49,50])) .o)) .o))) .o)))))) func174 h
def Fs(C:CC)(a c d:V):bJ:=λl h q=>aY .lss (ge l 0) d (aT h 2 a (ge l 0) λa=>bnd (aG h 2 a) λa=>bp C.p h c [a] λa h=>aQ a (q .ret [ge l 0] h) (aj .add (ge l 0) (I 1) λa=>q .normal [a] h)) (q (.exit 0) [] h)
def Cz(C:CC)(a c:V)(q:kQ):=let h:Hp:=[]
 ba a λd=>lp (Fs C a c d) [] h [I 0] h (aV [((.exit 0),λa h=>q (I (-1)) h),(.ret,λa h=>q (ge a 0) h)])
theorem aeD(h:Cz DA t0 t1 (out v)):Ds F.Cz [t0,t1] v:=aU 0 (aP (aB (aP (aB (.n (.l [8] [0,1,7] [((.exit 0),[],[]),(.ret,[4],[])] []) .o .o))))) func116 h
def z8(C:CC)(a c:V)(q:kQ):=let h:Hp:=[]
 ak C h F.Cz [a,c] λa h=>aj .geq a (I 0) λa=>q a h
theorem aeM(h:z8 DA t0 t1 (out v)):Ds F.z8 [t0,t1] v:=aU 0 .o func81 h
def Fp(C:CC)(a c d:V):bJ:=λl h q=>aY .lss (ge l 0) d (aT h 2 a (ge l 0) λa=>bnd (aG h 2 a) λa=>bp C.p h c [a] λa h=>aQ a (q .ret [ge l 0] h) (aj .add (ge l 0) (I 1) λa=>q .normal [a] h)) (q (.exit 0) [] h)
def Cy(C:CC)(a c:V)(q:kQ):=let h:Hp:=[]
 ba a λd=>lp (Fp C a c d) [] h [I 0] h (aV [((.exit 0),λa h=>q (I (-1)) h),(.ret,λa h=>q (ge a 0) h)])
theorem aeB(h:Cy DA t0 t1 (out v)):Ds F.Cy [t0,t1] v:=aU 0 (aP (aB (aP (aB (.n (.l [8] [0,1,7] [((.exit 0),[],[]),(.ret,[4],[])] []) .o .o))))) func58 h
def xv(C:CC)(a c:V)(q:kQ):=let h:Hp:=[]
 ak C h F.Cy [a,c] λa h=>aj .geq a (I 0) λa=>q a h
theorem aeK(h:xv DA t0 t1 (out v)):Ds F.xv [t0,t1] v:=aU 0 .o func33 h
def CB(C:CC)(a c d:V):bJ:=λl h q=>aY .lss (ge l 0) d (aT h 2 a (ge l 0) λa=>bnd (aG h 2 a) λa=>aT h 2 c (ge l 0) λc=>bnd (aG h 2 c) λc=>bnd (pz [.str [],.str []] .neq a c) λa=>aQ a (q .ret [B SM] h) (aj .add (ge l 0) (I 1) λa=>q .normal [a] h)) (q (.exit 0) [] h)
def xr(C:CC)(a c:V)(q:kQ):=let h:Hp:=[]
 ba a λd=>ba c λe=>aY .neq d e (q (B SM) h) (ba a λd=>lp (CB C a c d) [] h [I 0] h (aV [((.exit 0),λa h=>q (B Th) h),(.ret,λa h=>q (ge a 0) h)]))
theorem aeG(h:xr DA t0 t1 (out v)):Ds F.xr [t0,t1] v:=aU 0 (cN (aB (aP (aB (.n (.l [13] [0,1,12] [((.exit 0),[],[]),(.ret,[4],[])] []) .o .o))))) func57 h
def tF(C:CC)(a:V)(q:kQ):=let h:Hp:=.replicate 1 ah
 cr 0 [.d (.str []),.d (.str [])] h λc h=>ak C h F.iW [a] λa h=>bnd (fG [(0,1),(1,1)] [.str [],.str []] [(0,a),(1,(.d (.str [49])))]) λa=>aS h 2 c a λ_ h=>bnd (aG h 2 c) λa=>q a h
theorem afi(h:tF DA t0 (out v)):Ds F.tF [t0] v:=aU 1 (aB (aX [.slot 0])) func52 h
def Fv(C:CC)(b:Nat)(a c:V):bJ:=λl h q=>aY .lss (ge l 0) c (ak C h F.tF [I 0] λc h=>aT h 2 a (ge l 0) λa=>aS h 2 a c λ_ h=>aj .add (ge l 0) (I 1) λa=>q .normal [a] h) (q (.exit 0) [] h)
def xz(C:CC)(b:Nat)(h:Hp)(a:V)(q:kQ):=let h:Hp:=h++So 1 ah
 fS (b+0) 32 [.str [],.str []] h a a λa h=>ba a λc=>lp (Fv C b a c) [] h [I 0] h (aV [((.exit 0),λc h=>q a h)])
def Ke(b:Nat):cn:=(.n .x .o (.n .x (.n (.r [.slot (b+0)]) .o .o) (.n .x (.n .x .o (.n .x (.n (.l [9] [3,8] [((.exit 0),[],[3])] []) .o .o) .o)) .o)))
theorem ae2(C:CC)(h:Hp)(t0:V)(q:bH):iA Y C Tryz.f79 1 Ke [t0] h q=xz C (RW h) h t0 q:=by rfl
theorem ae0(b:Nat):okB Tryz.prog Tryz.f79 (Ke b)=Th:=by rfl
theorem ae1(hh:xz DA (RW h) h t0 (fx (RW h) v h2)):CI Y F.xz [t0] h v h2:=
 CI.of (fn:=Tryz.f79) (m:=1) (a:=Ke) rfl (λ_=>rfl) func79 (ae0 _) (by rw[ae2];exact hh)
def CG(C:CC)(a c d e f:V):bJ:=λl h q=>aY .lss (ge l 0) f (aT h 2 e (ge l 0) λe=>bnd (aG h 2 e) λe=>cr 1 [.d (.str []),.d (.str [])] h λf h=>aS h 2 f e λ_ h=>aT h 2 c (ge l 0) λe=>bnd (aG h 2 e) λe=>bnd (aG h 2 f) λf=>aT h 2 a d λa=>bnd (aG h 2 a) λa=>ak C h F.wI [f,a] λa h=>ak C h F.qf [e,a] λa h=>aT h 2 c (ge l 0) λc=>aS h 2 c a λ_ h=>aj .add (ge l 0) (I 1) λa=>q .normal [a] h) (q (.exit 2) [] h)
def Fz(C:CC)(a c d e:V):bJ:=λl h q=>aY .lss (ge l 0) e (aT h 1 d (ge l 0) λd=>aF h d λd=>ba d λe=>lp (CG C a c (ge l 0) d e) [1] h [I 0] h (aV [((.exit 2),λa h=>aj .add (ge l 0) (I 1) λa=>q .normal [a] h)])) (q (.exit 0) [] h)
def rT(C:CC)(a c d:V)(q:kQ):=let h:Hp:=.replicate 2 ah
 dX C h F.xz [a] 0 λa h=>ba c λe=>lp (Fz C d a c e) [1] h [I 0] h (aV [((.exit 0),λc h=>q a h)])
def Ki:cn:=(aP (bN (aX [.inl 0]) (aB (aP (aB (.n (.l [16] [2,7,14,15] [((.exit 0),[],[7])] [1]) (cN (aB (aB (cN (aB (.n (.l [23] [2,7,8,14,15,16,21,22] [((.exit 2),[],[2,7,14,15,16])] [1]) (cN (aB (aB (aB (aX [.slot 1]))))) .o)))))) .o))))))
theorem afe(C:CC)(t0:V)(t1:V)(t2:V)(q:bH):k9 Y C Tryz.f51 2 Ki [t0,t1,t2] q=rT C t0 t1 t2 q:=by kernel_rfl
theorem afc:okB Tryz.prog Tryz.f51 Ki=Th:=du
theorem afd(h:rT DA t0 t1 t2 (out v)):Ds F.rT [t0,t1,t2] v:=
 CP.of (fn:=Tryz.f51) (m:=2) (a:=Ki) rfl (λ_=>rfl) func51 afc (by rw[afe];exact h)
def FD(C:CC)(a c d:V):bJ:=λl h q=>aY .lss (ge l 0) d (aT h 1 c (ge l 0) λc=>aF h c λc=>ak C h F.tG [a,c] λa h=>dM a (q .ret [a] h) (aj .add (ge l 0) (I 1) λa=>q .normal [a] h)) (q (.exit 0) [] h)
def vv(C:CC)(a c:V)(q:kQ):=let h:Hp:=[]
 ak C h F.oT [a] λd h=>dM d (q d h) (ba c λd=>lp (FD C a c d) [] h [I 0] h (aV [((.exit 0),λa h=>q (I 0) h),(.ret,λa h=>q (ge a 0) h)]))
theorem afw(h:vv DA t0 t1 (out v)):Ds F.vv [t0,t1] v:=aU 0 (cN (aB (aP (aB (.n (.l [16] [0,14,15] [((.exit 0),[],[]),(.ret,[4],[])] []) .o .o))))) func42 h
def Ac(C:CC)(a:V)(q:kQ):=let h:Hp:=[]
 ak C h F.xv [a,(.fn F.xB [] [])] λc h=>aQ c (q (.tup [d6,I 4]) h) (q (.tup [a,I 0]) h)
theorem afg(h:Ac DA t0 (out v)):Ds F.Ac [t0] v:=aU 0 .o func84 h
def xB(C:CC)(a:V)(q:kQ):=let h:Hp:=.replicate 1 ah
 cC 0 a h λa h=>bnd (aG h 2 a) λa=>ak C h F.vt [a] λa h=>bnd (f9 .not a) λa=>q a h
theorem afh(h:xB DA t0 (out v)):Ds F.xB [t0] v:=aU 1 (aB (aX [.slot 0])) func119 h
def Ai(C:CC)(a c d:V)(q:kQ):=let h:Hp:=[]
 ak C h F.vv [a,c] λe h=>dM e (q (.tup [d6,e]) h) (ba d λe=>ba c λf=>aY .neq e f (q (.tup [d6,I 5]) h) (ak C h F.z8 [d,(.fn F.xD [] [])] λe h=>aQ e (q (.tup [d6,I 2]) h) (ba a λa=>ak C h F.rT [a,c,d] λa h=>ak C h F.Ac [a] λa h=>bX a λa c=>q (.tup [a,c]) h)))
theorem afs(h:Ai DA t0 t1 t2 (out v)):Ds F.Ai [t0,t1,t2] v:=aU 0 .o func53 h
def xD(C:CC)(a:V)(q:kQ):=let h:Hp:=.replicate 1 ah
 cC 0 a h λa h=>bnd (aG h 2 a) λa=>ak C h F.ut [a] λa h=>aj .neq a (I 0) λa=>q a h
theorem afu(h:xD DA t0 (out v)):Ds F.xD [t0] v:=aU 1 (aB (aX [.slot 0])) func82 h
def vu(C:CC)(a c d:V)(q:kQ):=let h:Hp:=.replicate 1 ah
 cC 0 d h λd h=>cu 1 [aR] [(0,c)] h λc h=>bnd (aG h 2 d) λd=>cu 1 [.str [],.str []] [(0,d)] h λd h=>ak C h F.Ai [a,c,d] λa h=>bX a λa c=>q (.tup [a,c]) h
theorem afp(h:vu DA t0 t1 t2 (out v)):Ds F.vu [t0,t1,t2] v:=aU 1 (aB (aX [.slot 0])) func29 h
def Ah(C:CC)(a c:V)(q:kQ):=let h:Hp:=[]
 ak C h F.xr [a,c] q
theorem afq(h:Ah DA t0 t1 (out v)):Ds F.Ah [t0,t1] v:=aU 0 .o func32 h
def CE(C:CC)(a c d:V):bJ:=λl h q=>aY .lss (ge l 0) d (aT h 1 a (ge l 0) λa=>aF h a λa=>aT h 1 c (ge l 0) λc=>aF h c λc=>aY .neq a c (q .ret [B SM] h) (aj .add (ge l 0) (I 1) λa=>q .normal [a] h)) (q (.exit 0) [] h)
def vk(C:CC)(a c:V)(q:kQ):=let h:Hp:=[]
 ba a λd=>ba c λe=>aY .neq d e (q (B SM) h) (ba a λd=>lp (CE C a c d) [] h [I 0] h (aV [((.exit 0),λa h=>q (B Th) h),(.ret,λa h=>q (ge a 0) h)]))
theorem aeH(h:vk DA t0 t1 (out v)):Ds F.vk [t0,t1] v:=aU 0 (cN (aB (aP (aB (.n (.l [13] [0,1,12] [((.exit 0),[],[]),(.ret,[4],[])] []) .o .o))))) func98 h
def yd(C:CC)(a c:V)(q:kQ):=let h:Hp:=[]
 cu 1 [aR] [(0,c)] h λc h=>ak C h F.AW [a,c] q
theorem aiA(h:yd DA t0 t1 (out v)):Ds F.yd [t0,t1] v:=aU 0 .o func73 h
def GX(C:CC)(a c:V):bJ:=λl h q=>aY .lss (ge l 0) c (aT h 1 a (ge l 0) λa=>aF h a λa=>aj .gtr a (I 1000) λc=>bL c SM h a λa h=>aM c SM h (aD .lss a (I (-1000))) λa h=>cF c (B Th) a λa=>aQ a (q .ret [I 4] h) (aj .add (ge l 0) (I 1) λa=>q .normal [a] h)) (q (.exit 2) [] h)
def Dl(C:CC)(a c d:V):bJ:=λl h q=>aY .lss (ge l 0) d (aT h 1 c (ge l 0) λc=>aF h c λc=>ba c λd=>ba a λa=>aY .neq d a (q .ret [I 5] h) (ba c λa=>lp (GX C c a) [] h [I 0] h (aV [((.exit 2),λa h=>aj .add (ge l 0) (I 1) λa=>q .normal [a] h),(.ret,λa h=>q .ret [ge a 0] h)]))) (q (.exit 0) [] h)
def AW(C:CC)(a c:V)(q:kQ):=let h:Hp:=[]
 ak C h F.oT [a] λd h=>dM d (q d h) (ba c λd=>lp (Dl C a c d) [] h [I 0] h (aV [((.exit 0),λa h=>q (I 0) h),(.ret,λa h=>q (ge a 0) h)]))
theorem aiB(h:AW DA t0 t1 (out v)):Ds F.AW [t0,t1] v:=aU 0 (cN (aB (aP (aB (.n (.l [17] [0,15,16] [((.exit 0),[],[]),(.ret,[4],[])] []) (cN (aB (aB (nm (aB (.n (.l [28] [0,15,16,17,26,27] [((.exit 2),[],[0,15,16,17]),(.ret,[4],[])] []) .o .o)))))) .o))))) func107 h
def FN(C:CC)(a c:V):bJ:=λl h q=>ba a λd=>aY .lss (ge l 0) d (aT h 1 a (ge l 0) λa=>aF h a λa=>aT h 1 c (ge l 0) λc=>aF h c λc=>aY .neq a c (q .ret [B SM] h) (aj .add (ge l 0) (I 1) λa=>q .normal [a] h)) (q (.exit 0) [] h)
def Av(C:CC)(a c:V)(q:kQ):=let h:Hp:=[]
 ba a λd=>ba c λe=>aY .neq d e (q (B SM) h) (lp (FN C a c) [] h [I 0] h (aV [((.exit 0),λa h=>q (B Th) h),(.ret,λa h=>q (ge a 0) h)]))
theorem age(h:Av DA t0 t1 (out v)):Ds F.Av [t0,t1] v:=aU 0 (cN (aB (aP (aB (.n (.l [5] [0,1] [((.exit 0),[],[]),(.ret,[4],[])] []) .o .o))))) func10 h
def xg(C:CC)(b:Nat)(h:Hp)(a c:V)(q:kQ):=let h:Hp:=h++So 2 ah
 cC (b+0) a h λa h=>bnd (aG h 4 a) λd=>ak C h F.pI [d] λd h=>dM d (q (.tup [d6,d]) h) (bi 0 a λd=>bi 0 d λd=>aF h d λd=>ak C h F.yd [d,c] λe h=>dM e (q (.tup [d6,e]) h) (bi 0 a λe=>bnd (aG h 3 e) λe=>ak C h F.zN [e,c] λc h=>bX c λc e=>dM e (q (.tup [d6,e]) h) (bi 3 a λa=>aF h a λa=>ak C h F.xh [c] λc h=>dX C h F.xi [d,a,c] (b+1) λa h=>q (.tup [a,I 0]) h)))
def Js(b:Nat):cn:=(.n .x (.n (.r [.slot (b+0)]) .o .o) (.n .x .o (.n .x .o (.n .x .o (.n .x .o (.n .x .o (.n .x (.n (.r [.o,.inl (b+1)]) .o .o) .o)))))))
theorem acQ(C:CC)(h:Hp)(t0:V)(t1:V)(q:bH):iA Y C Tryz.f46 2 Js [t0,t1] h q=xg C (RW h) h t0 t1 q:=by rfl
theorem acN(b:Nat):okB Tryz.prog Tryz.f46 (Js b)=Th:=by rfl
theorem acO(hh:xg DA (RW h) h t0 t1 (fx (RW h) v h2)):CI Y F.xg [t0,t1] h v h2:=
 CI.of (fn:=Tryz.f46) (m:=2) (a:=Js) rfl (λ_=>rfl) func46 (acN _) (by rw[acQ];exact hh)
def EV(C:CC)(a c d:V):bJ:=λl h q=>aY .lss (ge l 0) d (aT h 2 c (ge l 0) λc=>bnd (aG h 2 c) λc=>cr 2 [.d (.str []),.d (.str [])] h λd h=>aS h 2 d c λ_ h=>aT h 2 a (ge l 0) λc=>bnd (aG h 2 c) λc=>bnd (aG h 2 d) λd=>ak C h F.Bw [c,d] λc h=>aT h 2 a (ge l 0) λa=>aS h 2 a c λ_ h=>aj .add (ge l 0) (I 1) λa=>q .normal [a] h) (q (.exit 0) [] h)
def uV(C:CC)(a c:V)(q:kQ):=let h:Hp:=.replicate 3 ah
 cC 0 a h λa h=>bnd (aG h 4 a) λd=>dX C h F.xg [d,c] 1 λd h=>bX d λd e=>dM e (q (.tup [d6,e]) h) (ak C h F.xh [c] λc h=>ba c λe=>lp (EV C d c e) [2] h [I 0] h (aV [((.exit 0),λc h=>bi 0 a λa=>bi 0 a λa=>aF h a λa=>ak C h F.zE [a,d] λa h=>bX a λa c=>q (.tup [a,c]) h)]))
theorem acX(h:uV DA t0 t1 (out v)):Ds F.uV [t0,t1] v:=aU 3 (bN (aX [.slot 0]) (bN (aX [.inl 1]) (aP (aB (aP (aB (.n (.l [22] [2,6,20,21] [((.exit 0),[],[2,6])] [2]) (cN (aB (aB (aB (aX [.slot 2]))))) .o))))))) func27 h
def pI(C:CC)(a:V)(q:kQ):=let h:Hp:=.replicate 1 ah
 cC 0 a h λa h=>bi 0 a λc=>bnd (aG h 3 c) λc=>ak C h F.uX [c] λc h=>dM c (q c h) (bi 3 a λc=>aF h c λc=>ba c λc=>bi 0 a λd=>bi 2 d λd=>aF h d λd=>ba d λd=>aY .neq c d (q (I 5) h) (bi 0 a λc=>bi 0 c λc=>aF h c λc=>bi 3 a λa=>aF h a λa=>ak C h F.vv [c,a] q))
theorem acY(h:pI DA t0 (out v)):Ds F.pI [t0] v:=aU 1 (aB (aX [.slot 0])) func23 h
def zE(C:CC)(a c:V)(q:kQ):=let h:Hp:=[]
 ak C h F.vw [a,c] λa h=>dM a (q (.tup [d6,I 4]) h) (q (.tup [c,I 0]) h)
theorem acR(h:zE DA t0 t1 (out v)):Ds F.zE [t0,t1] v:=aU 0 .o func49 h
def ES(C:CC)(a c:V):bJ:=λl h q=>aY .lss (ge l 1) c (aT h 1 a (ge l 1) λa=>aF h a λa=>ak C h F.sL [a,I 1] λa h=>bX a λa c=>cr 0 [.d (.str []),.d (.str [])] h λc h=>aS h 2 c a λ_ h=>bnd (aG h 2 c) λa=>cu 1 [.str [],.str []] [(0,a)] h λa h=>cX SM 1 2 32 (ge l 0) a h λa h=>aj .add (ge l 1) (I 1) λc=>q .normal [a,c] h) (q (.exit 0) [ge l 0] h)
def xh(C:CC)(a:V)(q:kQ):=let h:Hp:=.replicate 2 ah
 ba a λc=>lp (ES C a c) [0] h [d6,I 0] h (aV [((.exit 0),λa h=>q (ge a 0) h)])
theorem acS(h:xh DA t0 (out v)):Ds F.xh [t0] v:=aU 2 (cN (aB (aP (aB (.n (.l [3,10] [8,9] [((.exit 0),[3],[])] [0]) (cN (aB (aB (aP (bN (aX [.o,.slot 0]) (aX [.o,.slot 1])))))) .o))))) func47 h
def Cx(C:CC)(b:Nat)(a:V):bJ:=λl h q=>ba a λc=>aY .lss (ge l 0) c (bnd (gU h 2 a (Wf (ge l 0)) Vc) λc=>bnd (gU h 2 a Vc (Wf (ge l 0))) λa=>sS h 2 c a λa h=>aj .add (ge l 0) a λa=>q .normal [a] h) (q (.exit 0) [] h)
def xq(C:CC)(b:Nat)(h:Hp)(a c:V)(q:kQ):=let h:Hp:=h++So 1 ah
 aj .lss c (I 0) λd=>jn (λd h=>ba a λd=>bnd (fq .u64 d) λd=>bnd (fq .u64 c) λc=>ak C h F.AZ [d,c] λc h=>bX c λc d=>aj .gtr c (.d (.int .u64 0)) λc=>bL c SM h d λe h=>aM c SM h (aD .gtr e (.d (.int .u64 9223372036854775807))) λe h=>cF c (B Th) e λc=>jn (λc h=>bnd (fq .i64 d) λc=>fS (b+0) 32 [.str [],.str []] h c c λc h=>sS h 2 c a λa h=>lp (Cx C b c) [] h [a] h (aV [((.exit 0),λa h=>q c h)])) λa=>aQ c (False /- makeInterface -/) (a [] h)) λa=>aQ d (False /- makeInterface -/) (a [] h)
def Ka(b:Nat):cn:=(.n .x .o (.n .x (.n .x .o (.n (.j [] [0,1]) .o .o)) (.n .x .o (.n .x (.n .x .o (.n (.j [] [0,6]) .o .o)) (.n .x (.n (.r [.slot (b+0)]) .o .o) (.n .x .o (.n .x (.n .x (.n (.l [8] [7] [((.exit 0),[],[7])] []) .o .o) .o) .o)))))))
theorem aey(C:CC)(h:Hp)(t0:V)(t1:V)(q:bH):iA Y C Tryz.f111 1 Ka [t0,t1] h q=xq C (RW h) h t0 t1 q:=by rfl
theorem aew(b:Nat):okB Tryz.prog Tryz.f111 (Ka b)=Th:=by rfl
theorem aex(hh:xq DA (RW h) h t0 t1 (fx (RW h) v h2)):CI Y F.xq [t0,t1] h v h2:=
 CI.of (fn:=Tryz.f111) (m:=1) (a:=Ka) rfl (λ_=>rfl) func111 (aew _) (by rw[aey];exact hh)
def ET(C:CC)(b:Nat)(a c d e f:V):bJ:=λl h q=>aY .lss (ge l 0) f (aT h 2 c (ge l 0) λf=>bnd (aG h 2 f) λf=>aT h 2 e (ge l 0) λe=>bnd (aG h 2 e) λe=>aT h 2 a d λa=>bnd (aG h 2 a) λa=>ak C h F.wI [e,a] λa h=>ak C h F.qf [f,a] λa h=>aT h 2 c (ge l 0) λc=>aS h 2 c a λ_ h=>aj .add (ge l 0) (I 1) λa=>q .normal [a] h) (q (.exit 2) [] h)
def EU(C:CC)(b:Nat)(a c d e:V):bJ:=λl h q=>aY .lss (ge l 0) e (aT h 1 d (ge l 0) λd=>aF h d λd=>ba c λe=>lp (ET C b a c (ge l 0) d e) [] h [I 0] h (aV [((.exit 2),λa h=>aj .add (ge l 0) (I 1) λa=>q .normal [a] h)])) (q (.exit 0) [] h)
def xi(C:CC)(b:Nat)(h:Hp)(a c d:V)(q:kQ):=let h:Hp:=h++So 1 ah
 bnd (fG [(0,1),(1,1)] [.str [],.str []] [(0,(.d (.str [48]))),(1,(.d (.str [49])))]) λe=>cu 1 [.str [],.str []] [(0,e)] h λe h=>ba a λa=>dX C h F.xq [e,a] (b+0) λa h=>ba c λe=>lp (EU C b d a c e) [] h [I 0] h (aV [((.exit 0),λc h=>q a h)])
def Jt(b:Nat):cn:=(.n .x .o (.n .x (.n (.r [.o,.inl (b+0)]) .o .o) (.n .x (.n .x .o (.n .x (.n (.l [18] [2,7,16,17] [((.exit 0),[],[7])] []) (.n .x .o (.n .x .o (.n .x (.n .x (.n .x .o (.n .x .o (.n .x (.n (.l [25] [2,7,8,9,16,17,18,24] [((.exit 2),[],[2,7,16,17,18])] []) .o .o) .o))) .o) .o))) .o) .o)) .o)))
theorem acW(C:CC)(h:Hp)(t0:V)(t1:V)(t2:V)(q:bH):iA Y C Tryz.f75 1 Jt [t0,t1,t2] h q=xi C (RW h) h t0 t1 t2 q:=by rfl
theorem acT(b:Nat):okB Tryz.prog Tryz.f75 (Jt b)=Th:=by rfl
theorem acV(hh:xi DA (RW h) h t0 t1 t2 (fx (RW h) v h2)):CI Y F.xi [t0,t1,t2] h v h2:=
 CI.of (fn:=Tryz.f75) (m:=1) (a:=Jt) rfl (λ_=>rfl) func75 (acT _) (by rw[acW];exact hh)
def Bu(C:CC)(a:V)(q:kQ):=let h:Hp:=[]
 ak C h F.zP [a] λc h=>dM c (q (.tup [B SM,c]) h) (ak C h F.Bt [a] λa h=>q (.tup [a,I 0]) h)
theorem ak0(h:Bu DA t0 (out v)):Ds F.Bu [t0] v:=aU 0 .o func94 h
def HQ(C:CC)(a c d:V):bJ:=λl h q=>aY .lss (ge l 1) d (aT h 1 c (ge l 1) λc=>aF h c λc=>cr 0 [.d aR] h λd h=>aS h 1 d c λ_ h=>aF h d λc=>ak C h F.Bs [c] λc h=>cr 1 [.d (.int .i64 0)] h λe h=>aS h 1 e c λ_ h=>aF h e λc=>aj .leq c (ge l 0) λc=>aM c SM h (ld1 h d) λf h=>aM c SM h (ld1 h e) λg h=>aM c SM h (bq h 1 f g) λf h=>aM c SM h (ld1 h f) λf h=>aM c SM h (aD .lss f (I 0)) λf h=>cF c (B Th) f λc=>aQ c (q .ret [B SM] h) (bnd (gU h 1 a Vc (Wf (ge l 1))) λa=>ak C h F.Ab [a,(.fn F.wE [] [e,d])] λa h=>aQ a (q .ret [B SM] h) (aF h e λa=>aj .add (ge l 1) (I 1) λc=>q .normal [a,c] h))) (q (.exit 0) [] h)
def Bt(C:CC)(a:V)(q:kQ):=let h:Hp:=.replicate 2 ah
 ba a λc=>lp (HQ C a a c) [0,1] h [I (-1),I 0] h (aV [((.exit 0),λa h=>q (B Th) h),(.ret,λa h=>q (ge a 0) h)])
theorem akY(h:Bt DA t0 (out v)):Ds F.Bt [t0] v:=aU 2 (cN (aB (aP (aB (.n (.l [3,9] [0,7,8] [((.exit 0),[],[]),(.ret,[2],[])] [0,1]) (cN (aB (aB (bN (aX [.slot 0]) (aB (aX [.o,.slot 1])))))) .o))))) func130 h
def wE(C:CC)(a c d:V)(q:kQ):=let h:Hp:=[]
 aF h c λe=>aT h 1 a e λe=>aF h e λe=>aj .lss e (I 0) λe=>bL e SM h a λa h=>aM e SM h (ld1 h c) λf h=>aM e SM h (bq h 1 a f) λa h=>aM e SM h (ld1 h a) λa h=>aM e SM h (ld1 h d) λd h=>aM e SM h (ld1 h c) λc h=>aM e SM h (bq h 1 d c) λc h=>aM e SM h (ld1 h c) λc h=>aM e SM h (aD .geq a c) λa h=>cF e (B Th) a λa=>q a h
theorem akZ(h:wE DA t0 t1 t2 (out v)):Ds F.wE [t0,t1,t2] v:=aU 0 .o func157 h
def Bs(C:CC)(a:V)(q:kQ):=let h:Hp:=[]
 ak C h F.vj [a,(.fn F.Br [] [])] q
theorem akW(h:Bs DA t0 (out v)):Ds F.Bs [t0] v:=aU 0 .o func155 h
def Br(C:CC)(a:V)(q:kQ):=let h:Hp:=[]
 aj .neq a (I 0) λa=>q a h
theorem akX(h:Br DA t0 (out v)):Ds F.Br [t0] v:=aU 0 .o func189 h
def E4(C:CC)(a c d:V):bJ:=λl h q=>aY .lss (ge l 0) d (aT h 1 c (ge l 0) λc=>aF h c λc=>ba c λd=>aY .gtr d (I 12) (q .ret [I 4] h) (ba c λd=>aT h 1 a (I 0) λa=>aF h a λa=>ba a λa=>aY .neq d a (q .ret [I 5] h) (ak C h F.xw [c,(.fn F.zO [] [])] λa h=>aQ a (q .ret [I 4] h) (aj .add (ge l 0) (I 1) λa=>q .normal [a] h)))) (q (.exit 0) [] h)
def zP(C:CC)(a:V)(q:kQ):=let h:Hp:=[]
 ba a λc=>aY .gtr c (I 12) (q (I 4) h) (ba a λc=>lp (E4 C a a c) [] h [I 0] h (aV [((.exit 0),λa h=>q (I 0) h),(.ret,λa h=>q (ge a 0) h)]))
theorem adF(h:zP DA t0 (out v)):Ds F.zP [t0] v:=aU 0 (cN (aB (aP (aB (.n (.l [10] [0,8,9] [((.exit 0),[],[]),(.ret,[2],[])] []) .o .o))))) func129 h
def zO(C:CC)(a:V)(q:kQ):=let h:Hp:=[]
 aj .gtr a (I 1000000000) λc=>bL c SM h a λa h=>aM c SM h (aD .lss a (I (-1000000000))) λa h=>cF c (B Th) a λa=>q a h
theorem adE(h:zO DA t0 (out v)):Ds F.zO [t0] v:=aU 0 .o func154 h
def FU(C:CC)(a c d:V):bJ:=λl h q=>aY .lss (ge l 0) d (aT h 1 c (ge l 0) λc=>aF h c λc=>ak C h F.vI [c] λd h=>dM d (q .ret [d] h) (ba c λc=>aY .neq c a (q .ret [I 5] h) (aj .add (ge l 0) (I 1) λa=>q .normal [a] h))) (q (.exit 0) [] h)
def Az(C:CC)(a c:V)(q:kQ):=let h:Hp:=[]
 ba a λd=>lp (FU C c a d) [] h [I 0] h (aV [((.exit 0),λa h=>q (I 0) h),(.ret,λa h=>q (ge a 0) h)])
theorem agv(h:Az DA t0 t1 (out v)):Ds F.Az [t0,t1] v:=aU 0 (aP (aB (aP (aB (.n (.l [10] [1,8,9] [((.exit 0),[],[]),(.ret,[4],[])] []) .o .o))))) func121 h
def zt(C:CC)(a c:V)(q:kQ):=let h:Hp:=[]
 ak C h F.rH [c] λc h=>ak C h F.ji [a,c] q
theorem abM(h:zt DA t0 t1 (out v)):Ds F.zt [t0,t1] v:=aU 0 .o func151 h
def Hu(C:CC)(b:Nat)(a c:V):bJ:=λl h q=>aY .lss (ge l 1) c (aT h 1 a (ge l 1) λa=>aF h a λa=>ak C h F.iW [a] λa h=>cu 1 [.str []] [(0,a)] h λa h=>cX SM (b+1) 1 16 (ge l 0) a h λa h=>aj .add (ge l 1) (I 1) λc=>q .normal [a,c] h) (q (.exit 0) [ge l 0] h)
def ug(C:CC)(b:Nat)(h:Hp)(a:V)(q:kQ):=let h:Hp:=h++So 2 ah
 ba a λc=>fS (b+0) 16 [.str []] h (I 0) c λc h=>ba a λd=>lp (Hu C b a d) [] h [c,I 0] h (aV [((.exit 0),λa h=>q (ge a 0) h)])
def Me(b:Nat):cn:=(.n .x .o (.n .x (.n (.r [.slot (b+0)]) .o .o) (.n .x (.n .x .o (.n .x (.n (.l [3,11] [9,10] [((.exit 0),[3],[])] []) (.n .x .o (.n .x .o (.n .x (.n .x (.n .x .o (.n (.r [.o,.o,.slot (b+1)]) .o .o)) .o) .o))) .o) .o)) .o)))
theorem aj0(C:CC)(h:Hp)(t0:V)(q:bH):iA Y C Tryz.f122 2 Me [t0] h q=ug C (RW h) h t0 q:=by rfl
theorem ajY(b:Nat):okB Tryz.prog Tryz.f122 (Me b)=Th:=by rfl
theorem ajZ(hh:ug DA (RW h) h t0 (fx (RW h) v h2)):CI Y F.ug [t0] h v h2:=
 CI.of (fn:=Tryz.f122) (m:=2) (a:=Me) rfl (λ_=>rfl) func122 (ajY _) (by rw[aj0];exact hh)
def yp(C:CC)(b:Nat)(h:Hp)(a:V)(q:kQ):=let h:Hp:=h++So 2 ah
 fS (b+0) 8 [.int .i64 0] h a a λa h=>dX C h F.ug [a] (b+1) q
def L6(b:Nat):cn:=(.n .x .o (.n .x (.n (.r [.slot (b+0),.inl (b+1)]) .o .o) .o))
theorem ajE(C:CC)(h:Hp)(t0:V)(q:bH):iA Y C Tryz.f127 2 L6 [t0] h q=yp C (RW h) h t0 q:=by rfl
theorem ajC(b:Nat):okB Tryz.prog Tryz.f127 (L6 b)=Th:=by rfl
theorem ajD(hh:yp DA (RW h) h t0 (fx (RW h) v h2)):CI Y F.yp [t0] h v h2:=
 CI.of (fn:=Tryz.f127) (m:=2) (a:=L6) rfl (λ_=>rfl) func127 (ajC _) (by rw[ajE];exact hh)
def Ht(C:CC)(b:Nat)(a c d e:V):bJ:=λl h q=>aY .lss (ge l 0) e (aT h 1 d (ge l 0) λd=>aF h d λd=>aT h 1 a (ge l 0) λe=>aF h e λe=>ak C h F.gy [c,d] λc h=>ak C h F.zt [e,c] λc h=>aT h 1 a (ge l 0) λa=>aS h 1 a c λ_ h=>aj .add (ge l 0) (I 1) λa=>q .normal [a] h) (q (.exit 0) [] h)
def wn(C:CC)(b:Nat)(h:Hp)(a c d:V)(q:kQ):=let h:Hp:=h++So 0 ah
 mE .eql c (.d (.str [48])) λe=>aQ e (q (.tup []) h) (ba d λe=>lp (Ht C b a c d e) [] h [I 0] h (aV [((.exit 0),λa h=>q (.tup []) h)]))
def Md(b:Nat):cn:=(.n .x .o (.n .x .o (.n .x (.n (.l [12] [0,1,10,11] [((.exit 0),[],[])] []) .o .o) .o)))
theorem ajV(C:CC)(h:Hp)(t0:V)(t1:V)(t2:V)(q:bH):iA Y C Tryz.f124 0 Md [t0,t1,t2] h q=wn C (RW h) h t0 t1 t2 q:=by rfl
theorem ajT(b:Nat):okB Tryz.prog Tryz.f124 (Md b)=Th:=by rfl
theorem ajU(hh:wn DA (RW h) h t0 t1 t2 (fx (RW h) v h2)):CI Y F.wn [t0,t1,t2] h v h2:=
 CI.of (fn:=Tryz.f124) (m:=0) (a:=Md) rfl (λ_=>rfl) func124 (ajT _) (by rw[ajV];exact hh)
def Hs(C:CC)(b:Nat)(a c d:V):bJ:=λl h q=>aY .lss (ge l 0) d (aT h 1 c (ge l 0) λc=>aF h c λc=>ak C h F.rH [c] λc h=>aT h 1 a (ge l 0) λa=>aS h 1 a c λ_ h=>aj .add (ge l 0) (I 1) λa=>q .normal [a] h) (q (.exit 0) [] h)
def yq(C:CC)(b:Nat)(h:Hp)(a:V)(q:kQ):=let h:Hp:=h++So 0 ah
 ba a λc=>lp (Hs C b a a c) [] h [I 0] h (aV [((.exit 0),λa h=>q (.tup []) h)])
def Mc(b:Nat):cn:=(.n .x .o (.n .x (.n (.l [6] [0,4,5] [((.exit 0),[],[])] []) .o .o) .o))
theorem ajS(C:CC)(h:Hp)(t0:V)(q:bH):iA Y C Tryz.f125 0 Mc [t0] h q=yq C (RW h) h t0 q:=by rfl
theorem ajQ(b:Nat):okB Tryz.prog Tryz.f125 (Mc b)=Th:=by rfl
theorem ajR(hh:yq DA (RW h) h t0 (fx (RW h) v h2)):CI Y F.yq [t0] h v h2:=
 CI.of (fn:=Tryz.f125) (m:=0) (a:=Mc) rfl (λ_=>rfl) func125 (ajQ _) (by rw[ajS];exact hh)
def Dv(C:CC)(b:Nat)(a c:V):bJ:=λl h q=>ba a λd=>aY .lss (ge l 1) d (jn (λa h=>aj .add (ge l 1) (I 1) λc=>q .normal [ge a 0,c] h) λd=>aT h 1 a (ge l 1) λe=>aF h e λe=>aT h 1 e c λe=>aF h e λe=>mE .neq e (.d (.str [48])) λe=>bL e Th h (ge l 0) λf h=>aM e Th h (aD .lss f (I 0)) λf h=>bL e Th h f λf h=>bL f SM h a λg h=>bL f SM h (ge l 1) λi h=>aM f SM h (bq h 1 g i) λg h=>aM f SM h (ld1 h g) λg h=>bL f SM h c λi h=>aM f SM h (bq h 1 g i) λg h=>aM f SM h (ld1 h g) λg h=>gd f SM h (λq=>ak C h F.lE [g] q) λg h=>bL f SM h a λa h=>bL f SM h (ge l 0) λi h=>aM f SM h (bq h 1 a i) λa h=>aM f SM h (ld1 h a) λa h=>bL f SM h c λc h=>aM f SM h (bq h 1 a c) λa h=>aM f SM h (ld1 h a) λa h=>gd f SM h (λq=>ak C h F.lE [a] q) λa h=>gd f SM h (λq=>ak C h F.uS [g,a] q) λa h=>aM f SM h (aD .lss a (I 0)) λa h=>aM e Th h (kP f (B Th) a) λa h=>cF e a (B SM) λa=>jn (λa h=>d [ge a 0] h) λc=>aQ a (c [ge l 1] h) (c [ge l 0] h)) (q (.exit 4) [ge l 0] h)
def Hl(C:CC)(b:Nat)(a c d:V):bJ:=λl h q=>ba a λe=>aY .lss (ge l 1) e (aT h 1 a (ge l 1) λe=>aF h e λe=>aT h 1 e d λe=>aF h e λe=>aT h 1 a c λf=>aF h f λf=>aT h 1 f d λd=>aF h d λd=>ak C h F.jh [e,d] λd h=>kw d λd e f=>aT h 1 a (ge l 1) λf=>aF h f λf=>aT h 1 a c λa=>aF h a λa=>dX C h F.wn [f,d,a] (b+0) λa h=>bL (ge l 0) SM h e λa h=>aM (ge l 0) SM h (jY .neq a (.d (.str [48]))) λa h=>cF (ge l 0) (B Th) a λa=>aj .add (ge l 1) (I 1) λc=>q .normal [a,c] h) (q (.exit 6) [ge l 0] h)
def Du(C:CC)(b:Nat)(a c d e:V):bJ:=λl h q=>aY .lss (ge l 0) e (aT h 1 a (ge l 0) λe=>aF h e λe=>aT h 1 e d λe=>aF h e λe=>aT h 1 a c λf=>aF h f λf=>aT h 1 f d λd=>aF h d λd=>ak C h F.jh [e,d] λd h=>kw d λd e f=>aT h 1 a (ge l 0) λe=>aF h e λe=>aT h 1 a c λa=>aF h a λa=>dX C h F.wn [e,d,a] (b+2) λa h=>aj .add (ge l 0) (I 1) λa=>q .normal [a] h) (q (.exit 8) [] h)
def L8(C:CC)(b:Nat)(a c:V):bJ:=λl h q=>lp (Dv C b a c) [] h [I (-1),ge l 0] h (aV [((.exit 4),λd h=>aY .lss (ge d 0) (I 0) (q (.exit 2) [ge l 0] h) (aT h 1 a (ge d 0) λe=>aF h e λe=>aT h 1 a (ge l 0) λf=>aF h f λf=>aT h 1 a (ge l 0) λg=>aS h 1 g e λ_ h=>aT h 1 a (ge d 0) λd=>aS h 1 d f λ_ h=>aj .add (ge l 0) (I 1) λd=>lp (Hl C b a (ge l 0) c) [(b+0)] h [B SM,d] h (aV [((.exit 6),λd h=>aQ (ge d 0) (q .normal [ge l 0] h) (aT h 1 a (ge l 0) λd=>aF h d λd=>aT h 1 d c λd=>aF h d λd=>ak C h F.kL [d] λd h=>aj .lss d (I 0) λd=>jn (λd h=>lp (Du C b a (ge l 0) c (ge l 0)) [(b+2)] h [I 0] h (aV [((.exit 8),λa h=>aj .add (ge l 0) (I 1) λa=>q (.exit 2) [a] h)])) λc=>aQ d (aT h 1 a (ge l 0) λa=>aF h a λa=>dX C h F.yq [a] (b+1) λa h=>c [] h) (c [] h)))])))])
def Dw(C:CC)(b:Nat)(a c:V):bJ:=λl h q=>aj .lss (ge l 1) c λc=>bL c Th h (ge l 0) λd h=>bL c Th h a λe h=>aM c Th h (bf e) λe h=>aM c Th h (aD .lss d e) λd h=>cF c d (B SM) λc=>aQ c (lp (L8 C b a (ge l 1)) [(b+0),(b+1),(b+2)] h [ge l 0] h (aV [((.exit 2),λa h=>aj .add (ge l 1) (I 1) λc=>q .normal [ge a 0,c] h)])) (q (.exit 0) [ge l 0] h)
def qO(C:CC)(b:Nat)(h:Hp)(a c:V)(q:kQ):=let h:Hp:=h++So 3 ah
 lp (Dw C b a c) [(b+0),(b+1),(b+2)] h [I 0,I 0] h (aV [((.exit 0),λc h=>bnd (gU h 1 a Vc (Wf (ge c 0))) λa=>q a h)])
def L9(b:Nat):cn:=(.n .x .o (.n .x .o (.n .x (.n .x .o (.n .x (.n (.l [5,6] [0,1] [((.exit 0),[5],[0])] [(b+0),(b+1),(b+2)]) (.n .x .o (.n .x (.n .x (.n .x (.n (.l [5] [0,1,6] [((.exit 2),[5],[0,1,6])] [(b+0),(b+1),(b+2)]) (.n .x (.n .x .o (.n .x (.n .x .o (.n .x (.n (.l [7,8] [0,1,5,6] [((.exit 4),[7],[0,1,5,6])] []) (.n .x .o (.n .x (.n (.j [7] [0,1,5,6,8]) (.n .x .o (.n (.j [7] [0,1,5,6,8]) .o .o)) .o) .o)) .o) .o)) (.n .x .o (.n .x .o (.n .x .o (.n .x (.n .x .o (.n .x (.n (.l [9,10] [0,1,5,6] [((.exit 6),[9],[0,1,5,6])] [(b+0)]) (.n .x .o (.n .x (.n .x (.n .x .o (.n .x (.n (.r [.inl (b+0)]) .o .o) .o)) .o) .o)) .o) .o)) (.n .x .o (.n .x (.n .x .o (.n (.j [] [0,1,5,6]) (.n (.r [.inl (b+1)]) .o .o) .o)) (.n .x (.n .x .o (.n .x (.n (.l [143] [0,1,5,6,142] [((.exit 8),[],[0,1,5,6])] [(b+2)]) (.n .x .o (.n .x .o (.n .x (.n .x (.n .x .o (.n .x .o (.n (.r [.inl (b+2)]) .o .o))) .o) .o))) .o) .o)) .o))))))))) .o) .o) .o) .o) .o)) .o) .o)) .o)))
theorem ajI(C:CC)(h:Hp)(t0:V)(t1:V)(q:bH):iA Y C Tryz.f90 3 L9 [t0,t1] h q=qO C (RW h) h t0 t1 q:=by rfl
theorem ajH(b:Nat):okB Tryz.prog Tryz.f90 (L9 b)=Th:=by rfl
theorem U0(hh:qO DA (RW h) h t0 t1 (fx (RW h) v h2)):CI Y F.qO [t0,t1] h v h2:=
 CI.of (fn:=Tryz.f90) (m:=3) (a:=L9) rfl (λ_=>rfl) func90 (ajH _) (by rw[ajI];exact hh)
def Hq(C:CC)(b:Nat)(a c:V):bJ:=λl h q=>aY .lss (ge l 1) c (aT h 1 a (ge l 1) λa=>aF h a λa=>anyS λs4=>dX C h F.ug [a] s4 λa h=>anyS λs6=>pZ s6 1 [aR] [(0,a)] h λa h=>anyS λs8=>mY SM s8 1 24 (ge l 0) a h λa h=>aj .add (ge l 1) (I 1) λc=>q .normal [a,c] h) (q (.exit 0) [ge l 0] h)
def p6(C:CC)(b:Nat)(h:Hp)(a:V)(q:kQ):=let h:Hp:=h++So 14 ah
 ba a λc=>lp (Hq C b a c) [] h [d6,I 0] h (aV [((.exit 0),λa h=>q (ge a 0) h)])
def Mb(b:Nat):cn:=(.n .x .o (.n .x .o (.n .x (.n .x .o (.n .x (.n (.l [3,8] [6,7] [((.exit 0),[3],[])] []) (.n .x .o (.n .x .o (.n .x (.n .x (.n .x .o (.n (.r [.anyI,.anyV,.anyV]) .o .o)) .o) .o))) .o) .o)) .o)))
theorem ajO(C:CC)(h:Hp)(t0:V)(q:bH):iA Y C Tryz.f89 14 Mb [t0] h q=p6 C (RW h) h t0 q:=by rfl
theorem ajM(b:Nat):okB Tryz.prog Tryz.f89 (Mb b)=Th:=by rfl
theorem ajN(hh:p6 DA (RW h) h t0 (fx (RW h) v h2)):CI Y F.p6 [t0] h v h2:=
 CI.of (fn:=Tryz.f89) (m:=14) (a:=Mb) rfl (λ_=>rfl) func89 (ajM _) (by rw[ajO];exact hh)
def Hn(C:CC)(a c:V):bJ:=λl h q=>aY .lss (ge l 1) c (aT h 1 a (ge l 1) λa=>aF h a λa=>anyS λs4=>dX C h F.ug [a] s4 λa h=>anyS λs6=>pZ s6 1 [aR] [(0,a)] h λa h=>anyS λs8=>mY SM s8 1 24 (ge l 0) a h λa h=>aj .add (ge l 1) (I 1) λc=>q .normal [a,c] h) (q (.exit 0) [ge l 0] h)
def U2(C:CC)(a:V)(q:kQ):=let h:Hp:=.replicate 14 ah
 ba a λc=>lp (Hn C a c) [] h [d6,I 0] h (aV [((.exit 0),λa h=>q (ge a 0) h)])
theorem ajL(h:U2 DA t0 (out v)):Ds F.p6 [t0] v:=aU 14 (cN (aB (aP (aB (.n (.l [3,8] [6,7] [((.exit 0),[3],[])] []) (cN (aB (aB (aP (aX [.anyI,.anyV,.anyV]))))) .o))))) func89 h
def Dx(C:CC)(b:Nat)(a c d:V):bJ:=λl h q=>aY .lss (ge l 1) d (jn (λa h=>aj .add (ge l 1) (I 1) λc=>q .normal [ge a 0,c] h) λd=>aT h 1 c (ge l 1) λc=>aF h c λc=>ak C h F.Bh [c] λe h=>aj .geq e a λe=>jn (λa h=>d [ge a 0] h) λd=>aQ e (bnd (gU h 1 c (Wf a) Vc) λa=>anyS λs12=>pZ s12 1 [aR] [(0,a)] h λa h=>anyS λs14=>mY SM s14 1 24 (ge l 0) a h λa h=>d [a] h) (d [ge l 0] h)) (q (.exit 0) [ge l 0] h)
def uf(C:CC)(b:Nat)(h:Hp)(a c d:V)(q:kQ):=let h:Hp:=h++So 2 ah
 ba a λe=>lp (Dx C b c a e) [] h [d6,I 0] h (aV [((.exit 0),λa h=>dX C h F.qO [ge a 0,d] (b+0) q)])
def Ma(b:Nat):cn:=(.n .x .o (.n .x .o (.n .x (.n .x .o (.n .x (.n (.l [7,12] [1,2,10,11] [((.exit 0),[7],[2])] []) (.n .x .o (.n .x .o (.n .x (.n (.j [7] [1,2,10,11,12]) (.n .x .o (.n .x .o (.n (.j [7] [1,2,10,11,12]) (.n (.r [.anyV,.anyV]) .o .o) .o))) .o) .o))) .o) .o)) (.n .x (.n (.r [.inl (b+0)]) .o .o) .o))))
theorem ajK(C:CC)(h:Hp)(t0:V)(t1:V)(t2:V)(q:bH):iA Y C Tryz.f128 2 Ma [t0,t1,t2] h q=uf C (RW h) h t0 t1 t2 q:=by rfl
theorem ajJ(b:Nat):okB Tryz.prog Tryz.f128 (Ma b)=Th:=by rfl
theorem U1(hh:uf DA (RW h) h t0 t1 t2 (fx (RW h) v h2)):CI Y F.uf [t0,t1,t2] h v h2:=
 CI.of (fn:=Tryz.f128) (m:=2) (a:=Ma) rfl (λ_=>rfl) func128 (ajJ _) (by rw[ajK];exact hh)
def Hj(C:CC)(a c d:V):bJ:=λl h q=>aY .lss (ge l 1) d (aT h 1 c (ge l 1) λc=>aF h c λc=>aT h 1 c a λa=>aF h a λa=>cu 1 [.str []] [(0,a)] h λa h=>anyS λs7=>cX SM s7 1 16 (ge l 0) a h λa h=>aj .add (ge l 1) (I 1) λc=>q .normal [a,c] h) (q (.exit 2) [ge l 0] h)
def Hk(C:CC)(a c d:V):bJ:=λl h q=>aY .lss (ge l 1) d (ba a λd=>lp (Hj C (ge l 1) a d) [] h [d6,I 0] h (aV [((.exit 2),λa h=>dX C h F.yp [c] 0 λc h=>aT h 1 c (ge l 1) λd=>aS h 1 d (.d (.str [49])) λ_ h=>anyS λs7=>cX SM s7 1 16 (ge a 0) c h λa h=>anyS λs9=>pZ s9 1 [aR] [(0,a)] h λa h=>anyS λs11=>mY SM s11 1 24 (ge l 0) a h λa h=>aj .add (ge l 1) (I 1) λc=>q .normal [a,c] h)])) (q (.exit 0) [ge l 0] h)
def wm(C:CC)(a c:V)(q:kQ):=let h:Hp:=.replicate 19 ah
 lp (Hk C a c c) [0] h [d6,I 0] h (aV [((.exit 0),λd h=>ba a λe=>aj .add e c λe=>dX C h F.qO [ge d 0,e] 1 λd h=>ba a λa=>dX C h F.uf [d,a,c] 2 q)])
theorem ajG(h:wm DA t0 t1 (out v)):Ds F.wm [t0,t1] v:=aU 19 (cN (bN (aP (aB (.n (.l [5,12] [0,1,11] [((.exit 0),[5],[0,1])] [0]) (cN (aB (aB (cN (bN (aP (aB (.n (.l [7,17] [0,1,5,6,11,12,15,16] [((.exit 2),[7],[0,1,5,6,11,12])] []) (cN (aB (aB (aP (aX [.o,.anyS]))))) .o))) (bN (aX [.inl 0]) (aP (aX [.anyS,.anyV,.anyV])))))))) .o))) (aB (aX [.inl 1,.inl 2])))) func92 h
def Bh(C:CC)(a:V)(q:kQ):=let h:Hp:=[]
 ak C h F.Fo [a,(.fn F.yr [] [])] q
theorem ajW(h:Bh DA t0 (out v)):Ds F.Bh [t0] v:=aU 0 .o func152 h
def yr(C:CC)(a:V)(q:kQ):=let h:Hp:=[]
 mE .neq a (.d (.str [48])) λa=>q a h
theorem ajX(h:yr DA t0 (out v)):Ds F.yr [t0] v:=aU 0 .o func187 h
def aez(C:CC)(a c d:V):bJ:=λl h q=>aY .lss (ge l 0) d (aT h 1 a (ge l 0) λa=>aF h a λa=>bp C.p h c [a] λa h=>aQ a (q .ret [ge l 0] h) (aj .add (ge l 0) (I 1) λa=>q .normal [a] h)) (q (.exit 0) [] h)
def Fo(C:CC)(a c:V)(q:kQ):=let h:Hp:=[]
 ba a λd=>lp (aez C a c d) [] h [I 0] h (aV [((.exit 0),λa h=>q (I (-1)) h),(.ret,λa h=>q (ge a 0) h)])
theorem aeA(h:Fo DA t0 t1 (out v)):Ds F.Fo [t0,t1] v:=aU 0 (aP (aB (aP (aB (.n (.l [8] [0,1,7] [((.exit 0),[],[]),(.ret,[4],[])] []) .o .o))))) func186 h
def Hr(C:CC)(a c:V):bJ:=λl h q=>aY .lss (ge l 1) c (aT h 1 a (ge l 1) λa=>aF h a λa=>ak C h F.uP [a] λa h=>bX a λa c=>bnd (f9 .not c) λc=>bL c SM h a λd h=>aM c SM h (aD .gtr d (I 1000000000)) λd h=>cF c (B Th) d λc=>bL c SM h a λd h=>aM c SM h (aD .lss d (I (-1000000000))) λd h=>cF c (B Th) d λc=>aQ c (q .ret [d6,I 4] h) (Ex 1 (ge l 0) a h λa h=>aj .add (ge l 1) (I 1) λc=>q .normal [a,c] h)) (q (.exit 0) [ge l 0] h)
def Bg(C:CC)(a:V)(q:kQ):=let h:Hp:=.replicate 2 ah
 ba a λc=>fS 0 8 [.int .i64 0] h (I 0) c λc h=>ba a λd=>lp (Hr C a d) [] h [c,I 0] h (aV [((.exit 0),λa h=>q (.tup [ge a 0,I 0]) h),(.ret,λa h=>q (.tup [ge a 0,ge a 1]) h)])
theorem ajP(h:Bg DA t0 (out v)):Ds F.Bg [t0] v:=aU 2 (aP (bN (aX [.slot 0]) (aB (aP (aB (.n (.l [4,14] [12,13] [((.exit 0),[4],[]),(.ret,[2,3],[])] []) (cN (aB (aB (nm (aX [.o,.slot 1]))))) .o)))))) func126 h
def Hh(C:CC)(a c d e:V):bJ:=λl h q=>aY .lss (ge l 0) e (aT h 1 d (ge l 0) λd=>aF h d λd=>ak C h F.Bg [d] λd h=>bX d λd e=>dM e (bnd (fG [(0,1),(1,1)] [.int .i64 0,aR] []) λc=>aS h 2 a c λ_ h=>q .ret [e] h) (bi 1 c λa=>aF h a λa=>cu 1 [aR] [(0,d)] h λd h=>cX SM 2 1 24 a d h λa h=>bi 1 c λc=>aS h 1 c a λ_ h=>aj .add (ge l 0) (I 1) λa=>q .normal [a] h)) (q (.exit 0) [] h)
def wj(C:CC)(a c:V)(q:kQ):=let h:Hp:=.replicate 3 ah
 cr 0 [.d (.int .i64 0),.d aR] h λd h=>bnd (fG [(0,1),(1,1)] [.int .i64 0,aR] [(0,c)]) λc=>cr 1 [.d (.int .i64 0),.d aR] h λe h=>aS h 2 e c λ_ h=>ba a λc=>lp (Hh C d e a c) [] h [I 0] h (aV [((.exit 0),λa h=>bnd (aG h 2 e) λa=>aS h 2 d a λ_ h=>bnd (aG h 2 d) λa=>q (.tup [a,I 0]) h),(.ret,λa h=>bnd (aG h 2 d) λc=>q (.tup [c,ge a 0]) h)])
theorem ajF(h:wj DA t0 t1 (out v)):Ds F.wj [t0,t1] v:=aU 3 (bN (aX [.slot 0]) (bN (aX [.slot 1]) (aB (aP (aB (.n (.l [15] [4,6,13,14] [((.exit 0),[],[4,6]),(.ret,[5],[4])] []) (cN (aB (aB (nm (aX [.o,.slot 2]))))) .o)))))) func91 h
def yv(C:CC)(a:V)(q:kQ):=let h:Hp:=.replicate 2 ah
 cC 0 a h λa h=>cr 1 [.d (.int .i64 0),.d aR] h λc h=>bnd (aG h 2 a) λd=>ak C h F.wq [d] λd h=>dM d (bnd (fG [(0,1),(1,1)] [.int .i64 0,aR] []) λa=>aS h 2 c a λ_ h=>bnd (aG h 2 c) λa=>q (.tup [a,d]) h) (bi 1 a λd=>aF h d λd=>ak C h F.p6 [d] λd h=>bi 0 a λe=>aF h e λe=>ak C h F.wm [d,e] λd h=>bi 0 a λe=>aF h e λe=>ak C h F.wm [d,e] λd h=>bi 0 a λa=>aF h a λa=>ak C h F.wj [d,a] λa h=>bX a λa d=>aS h 2 c a λ_ h=>bnd (aG h 2 c) λa=>q (.tup [a,d]) h)
theorem aj2(h:yv DA t0 (out v)):Ds F.yv [t0] v:=aU 2 (aB (aX [.slot 0,.slot 1])) func61 h
def yx(C:CC)(a:V)(q:kQ):=let h:Hp:=.replicate 2 ah
 cC 0 a h λa h=>cr 1 [.d (.int .i64 0),.d aR] h λc h=>bnd (aG h 2 a) λd=>ak C h F.wq [d] λd h=>dM d (bnd (fG [(0,1),(1,1)] [.int .i64 0,aR] []) λa=>aS h 2 c a λ_ h=>bnd (aG h 2 c) λa=>q (.tup [a,d]) h) (bi 1 a λd=>aF h d λd=>ak C h F.p6 [d] λd h=>bi 0 a λe=>aF h e λe=>ak C h F.wm [d,e] λd h=>bi 0 a λa=>aF h a λa=>ak C h F.wj [d,a] λa h=>bX a λa d=>aS h 2 c a λ_ h=>bnd (aG h 2 c) λa=>q (.tup [a,d]) h)
theorem aj6(h:yx DA t0 (out v)):Ds F.yx [t0] v:=aU 2 (aB (aX [.slot 0,.slot 1])) func62 h
def Bi(C:CC)(a c:V)(q:kQ):=let h:Hp:=.replicate 16 ah
 cr 0 [.d (.int .i64 0),.d aR] h λd h=>ak C h F.yu [a,c] λe h=>dM e (bnd (fG [(0,1),(1,1)] [.int .i64 0,aR] []) λa=>aS h 2 d a λ_ h=>bnd (aG h 2 d) λa=>q (.tup [a,e]) h) (dX C h F.p6 [c] 1 λc h=>dX C h F.qO [c,a] 2 λc h=>ak C h F.wj [c,a] λa h=>bX a λa c=>aS h 2 d a λ_ h=>bnd (aG h 2 d) λa=>q (.tup [a,c]) h)
theorem aj3(h:Bi DA t0 t1 (out v)):Ds F.Bi [t0,t1] v:=aU 16 (bN (aX [.slot 0]) (aP (aB (aX [.inl 1,.inl 2])))) func60 h
def yu(C:CC)(a c:V)(q:kQ):=let h:Hp:=[]
 aj .lss a (I 0) λd=>bL d SM h a λe h=>aM d SM h (aD .gtr e (I 12)) λe h=>cF d (B Th) e λd=>aQ d (q (I 3) h) (ba c λd=>aY .gtr d (I 12) (q (I 4) h) (ak C h F.Az [c,a] q))
theorem aj1(h:yu DA t0 t1 (out v)):Ds F.yu [t0,t1] v:=aU 0 .o func88 h
def wq(C:CC)(a:V)(q:kQ):=let h:Hp:=.replicate 1 ah
 cC 0 a h λa h=>bi 0 a λc=>aF h c λc=>bi 1 a λd=>aF h d λd=>ak C h F.yu [c,d] λc h=>dM c (q c h) (bi 1 a λa=>aF h a λa=>ak C h F.Bu [a] λa h=>bX a λa c=>aj .neq c (I 0) λc=>bL c SM h a λa h=>aM c SM h (f9 .not a) λa h=>cF c (B Th) a λa=>aQ a (q (I 7) h) (q (I 0) h))
theorem aj5(h:wq DA t0 (out v)):Ds F.wq [t0] v:=aU 1 (aB (aX [.slot 0])) func66 h
def yw(C:CC)(a c:V)(q:kQ):=let h:Hp:=.replicate 2 ah
 cC 0 a h λa h=>cC 1 c h λc h=>bi 0 a λd=>aF h d λd=>bi 0 c λe=>aF h e λe=>aj .eql d e λd=>aM d Th h (ii 1 a) λa h=>aM d Th h (ld1 h a) λa h=>aM d Th h (ii 1 c) λc h=>aM d Th h (ld1 h c) λc h=>gd d Th h (λq=>ak C h F.xu [a,c,(.fn F.xM [] [])] q) λa h=>cF d a (B SM) λa=>q a h
theorem aj4(h:yw DA t0 t1 (out v)):Ds F.yw [t0,t1] v:=aU 2 (aB (aX [.slot 0,.slot 1])) func67 h
def Fu(C:CC)(a c d e:V):bJ:=λl h q=>aY .lss (ge l 0) e (aT h 1 d (ge l 0) λd=>aF h d λd=>aT h 1 a (ge l 0) λa=>aF h a λa=>bp C.p h c [d,a] λa h=>bnd (f9 .not a) λa=>aQ a (q .ret [B SM] h) (aj .add (ge l 0) (I 1) λa=>q .normal [a] h)) (q (.exit 0) [] h)
def xu(C:CC)(a c d:V)(q:kQ):=let h:Hp:=[]
 ba a λe=>ba c λf=>aY .neq e f (q (B SM) h) (ba a λe=>lp (Fu C c d a e) [] h [I 0] h (aV [((.exit 0),λa h=>q (B Th) h),(.ret,λa h=>q (ge a 0) h)]))
theorem aeJ(h:xu DA t0 t1 t2 (out v)):Ds F.xu [t0,t1,t2] v:=aU 0 (cN (aB (aP (aB (.n (.l [17] [1,2,15,16] [((.exit 0),[],[]),(.ret,[6],[])] []) .o .o))))) func95 h
def vH(C:CC)(a:V)(q:kQ):=let h:Hp:=[]
 aj .geq a (I (-1000000000)) λc=>bL c Th h a λa h=>aM c Th h (aD .leq a (I 1000000000)) λa h=>cF c a (B SM) λa=>q a h
theorem agr(h:vH DA t0 (out v)):Ds F.vH [t0] v:=aU 0 .o func176 h
def Ay(C:CC)(a:V)(q:kQ):=let h:Hp:=[]
 ak C h F.vH [a] λa h=>bnd (f9 .not a) λa=>q a h
theorem agu(h:Ay DA t0 (out v)):Ds F.Ay [t0] v:=aU 0 .o func175 h
def vI(C:CC)(a:V)(q:kQ):=let h:Hp:=[]
 ba a λc=>aj .gtr c (I 64) λc=>bL c SM h a λa h=>gd c SM h (λq=>ak C h F.xw [a,(.fn F.Ay [] [])] q) λa h=>cF c (B Th) a λa=>aQ a (q (I 4) h) (q (I 0) h)
theorem agt(h:vI DA t0 (out v)):Ds F.vI [t0] v:=aU 0 .o func142 h
def xM(C:CC)(a c:V)(q:kQ):=let h:Hp:=[]
 ak C h F.vk [a,c] q
theorem ags(h:xM DA t0 t1 (out v)):Ds F.xM [t0,t1] v:=aU 0 .o func96 h
def Ag(C:CC)(a c:V)(q:kQ):=let h:Hp:=[]
 ak C h F.vw [a,c] λd h=>dM d (q (.tup [I 0,d]) h) (ak C h F.vr [a,c] λa h=>ak C h F.oN [a] λa h=>q (.tup [a,I 0]) h)
theorem afo(h:Ag DA t0 t1 (out v)):Ds F.Ag [t0,t1] v:=aU 0 .o func50 h
def vy(C:CC)(a c:V)(q:kQ):=let h:Hp:=[]
 ak C h F.Ag [a,c] λd h=>bX d λd e=>dM e (q (.tup [d6,e]) h) (ba a λa=>cu 1 [aR] [(0,c)] h λc h=>bnd (f9 .neg d) λe=>bnd (gk Th [d,e]) λe=>bnd (gk Th [d,I 0]) λd=>aj .mul (I 2) d λd=>aj .sub d (I 1) λd=>aj .mul e d λd=>ak C h F.tF [d] λd h=>cu 1 [.str [],.str []] [(0,d)] h λd h=>ak C h F.rT [a,c,d] λa h=>q (.tup [a,I 0]) h)
theorem afx(h:vy DA t0 t1 (out v)):Ds F.vy [t0,t1] v:=aU 0 .o func28 h
def Af(C:CC)(a c d:V)(q:kQ):=let h:Hp:=[]
 ba a λe=>cu 2 [aR] [(0,c),(1,d)] h λc h=>ak C h F.tF [I 1] λd h=>ak C h F.tF [I (-1)] λf h=>cu 2 [.str [],.str []] [(0,d),(1,f)] h λd h=>ak C h F.rT [e,c,d] λc h=>ak C h F.vr [a,c] λa h=>ak C h F.oN [a] q
theorem afm(h:Af DA t0 t1 t2 (out v)):Ds F.Af [t0,t1,t2] v:=aU 0 .o func45 h
def iM(C:CC)(a c d:V)(q:kQ):=let h:Hp:=[]
 cu 2 [aR] [(0,c),(1,d)] h λe h=>ak C h F.vv [a,e] λe h=>dM e (q (.tup [I 0,e]) h) (ak C h F.Af [a,c,d] λa h=>q (.tup [a,I 0]) h)
theorem afr(h:iM DA t0 t1 t2 (out v)):Ds F.iM [t0,t1,t2] v:=aU 0 .o func26 h
def xK(C:CC)(a:V)(q:kQ):=let h:Hp:=[]
 cu 3 [.int .i64 0] [(0,(I 2)),(1,(I 3)),(2,(I 5))] h λc h=>cu 4 [.int .i64 0] [(0,(I 2)),(1,(I 3)),(2,(I 5)),(3,(I 7))] h λd h=>cu 2 [.int .i64 0] [(0,(I 2)),(1,(I 3))] h λe h=>cu 3 [.int .i64 0] [(0,(I 2)),(1,(I 3)),(2,(I 7))] h λf h=>cu 3 [.int .i64 0] [(0,(I 2)),(1,(I 5)),(2,(I 7))] h λg h=>cu 3 [.int .i64 0] [(0,(I 3)),(1,(I 5)),(2,(I 7))] h λi h=>cu 4 [.int .i64 0] [(0,(I 2)),(1,(I 3)),(2,(I 5)),(3,(I 11))] h λj h=>cu 1 [.int .i64 0] [(0,(I 2))] h λk h=>cu 4 [.int .i64 0] [(0,(I 2)),(1,(I 3)),(2,(I 7)),(3,(I 13))] h λl h=>cu 4 [.int .i64 0] [(0,(I 3)),(1,(I 5)),(2,(I 7)),(3,(I 13))] h λm h=>cu 10 [aR] [(0,c),(1,d),(2,e),(3,f),(4,g),(5,i),(6,j),(7,k),(8,l),(9,m)] h λc h=>bnd (fq .i64 a) λa=>ba c λd=>aj .rem a d λa=>aT h 1 c a λa=>aF h a λa=>q a h
def Kt:cn:=.o
theorem agi(C:CC)(t0:V)(q:bH):k9 Y C Tryz.f35 0 Kt [t0] q=xK C t0 q:=by kernel_rfl
theorem agf:okB Tryz.prog Tryz.f35 Kt=Th:=du
theorem agh(h:xK DA t0 (out v)):Ds F.xK [t0] v:=
 CP.of (fn:=Tryz.f35) (m:=0) (a:=Kt) rfl (λ_=>rfl) func35 agf (by rw[agi];exact h)
def FO(C:CC)(a c:V):bJ:=λl h q=>ba a λa=>aj .lss (ge l 1) a λa=>bL a Th h (ge l 1) λd h=>aM a Th h (aD .lss d (I 4)) λd h=>cF a d (B SM) λa=>aQ a (bnd (mT 4 1 c (ge l 1)) λa=>aF h a λa=>bnd (fq .i64 a) λa=>aj .rem a (I 10) λa=>Ex 1 (ge l 0) a h λa h=>aj .add (ge l 1) (I 1) λc=>q .normal [a,c] h) (q (.exit 0) [ge l 0] h)
def tP(C:CC)(a c:V)(q:kQ):=let h:Hp:=.replicate 2 ah
 cC 0 c h λc h=>lp (FO C a c) [] h [d6,I 0] h (aV [((.exit 0),λa h=>q (ge a 0) h)])
theorem agj(h:tP DA t0 t1 (out v)):Ds F.tP [t0,t1] v:=aU 2 (bN (aX [.slot 0]) (aP (aB (aP (aB (.n (.l [5,6] [0,3] [((.exit 0),[5],[])] []) (aP (aB (aB (aX [.o,.slot 1])))) .o)))))) func36 h
def zL(C:CC)(a c:V)(q:kQ):=let h:Hp:=[]
 ak C h F.xu [a,c,(.fn F.xk [] [])] q
theorem adu(h:zL DA t0 t1 (out v)):Ds F.zL [t0,t1] v:=aU 0 .o func68 h
def xk(C:CC)(a c:V)(q:kQ):=let h:Hp:=[]
 ak C h F.vk [a,c] q
theorem adv(h:xk DA t0 t1 (out v)):Ds F.xk [t0,t1] v:=aU 0 .o func97 h
def uX(C:CC)(a:V)(q:kQ):=let h:Hp:=.replicate 4 ah
 cC 0 a h λa h=>bi 0 a λc=>aF h c λc=>ak C h F.oT [c] λc h=>dM c (q c h) (bi 0 a λc=>aF h c λc=>ba c λc=>bi 1 a λd=>aF h d λd=>bnd (fG [(0,1),(1,1)] [.int .i64 0,aR] [(0,c),(1,d)]) λc=>cr 1 [.d (.int .i64 0),.d aR] h λd h=>aS h 2 d c λ_ h=>bnd (aG h 2 d) λc=>ak C h F.wq [c] λc h=>dM c (q c h) (bnd (aG h 2 d) λc=>ak C h F.yv [c] λc h=>bX c λc e=>cr 2 [.d (.int .i64 0),.d aR] h λf h=>aS h 2 f c λ_ h=>aj .neq e (I 0) λc=>aM c SM h (aG h 2 f) λe h=>aM c SM h (aG h 2 d) λf h=>gd c SM h (λq=>ak C h F.yw [e,f] q) λe h=>aM c SM h (f9 .not e) λe h=>cF c (B Th) e λc=>aQ c (q (I 7) h) (bnd (aG h 2 d) λc=>ak C h F.yx [c] λc h=>bX c λc d=>cr 3 [.d (.int .i64 0),.d aR] h λe h=>aS h 2 e c λ_ h=>aj .neq d (I 0) λc=>aM c SM h (ii 1 e) λd h=>aM c SM h (ld1 h d) λd h=>aM c SM h (ii 2 a) λa h=>aM c SM h (ld1 h a) λa h=>gd c SM h (λq=>ak C h F.zL [d,a] q) λa h=>aM c SM h (f9 .not a) λa h=>cF c (B Th) a λa=>aQ a (q (I 14) h) (q (I 0) h))))
theorem ady(h:uX DA t0 (out v)):Ds F.uX [t0] v:=aU 4 (bN (aX [.slot 0]) (aP (bN (aX [.slot 1]) (aP (bN (aX [.o,.slot 2]) (aP (aB (aX [.o,.slot 3])))))))) func41 h
def E0(C:CC)(a c d:V):bJ:=λl h q=>aY .lss (ge l 0) d (aT h 1 c (ge l 0) λc=>aF h c λc=>ak C h F.vI [c] λd h=>dM d (q .ret [d] h) (ba c λc=>bi 0 a λa=>aF h a λa=>ba a λa=>aY .neq c a (q .ret [I 5] h) (aj .add (ge l 0) (I 1) λa=>q .normal [a] h))) (q (.exit 0) [] h)
def zM(C:CC)(a c:V)(q:kQ):=let h:Hp:=.replicate 1 ah
 cC 0 a h λa h=>bnd (aG h 3 a) λd=>ak C h F.uX [d] λd h=>dM d (q d h) (ba c λd=>lp (E0 C a c d) [] h [I 0] h (aV [((.exit 0),λa h=>q (I 0) h),(.ret,λa h=>q (ge a 0) h)]))
theorem adw(h:zM DA t0 t1 (out v)):Ds F.zM [t0,t1] v:=aU 1 (bN (aX [.slot 0]) (aP (aB (aP (aB (.n (.l [16] [2,14,15] [((.exit 0),[],[]),(.ret,[4],[])] []) .o .o)))))) func108 h
def EY(C:CC)(a c d:V):bJ:=λl h q=>aY .lss (ge l 1) d (aT h 1 c (ge l 1) λc=>aF h c λc=>ak C h F.iW [c] λc h=>aT h 1 a (ge l 1) λa=>aF h a λa=>ak C h F.iW [a] λa h=>ak C h F.gy [c,a] λa h=>ak C h F.ji [ge l 0,a] λa h=>aj .add (ge l 1) (I 1) λc=>q .normal [a,c] h) (q (.exit 2) [ge l 0] h)
def EZ(C:CC)(a c d:V):bJ:=λl h q=>aY .lss (ge l 1) d (aT h 1 c (ge l 1) λc=>aF h c λc=>ba a λd=>lp (EY C c a d) [] h [(.d (.str [48])),I 0] h (aV [((.exit 2),λa h=>cu 1 [.str []] [(0,(ge a 0))] h λa h=>cX SM 1 1 16 (ge l 0) a h λa h=>aj .add (ge l 1) (I 1) λc=>q .normal [a,c] h)])) (q (.exit 0) [ge l 0] h)
def zK(C:CC)(a c:V)(q:kQ):=let h:Hp:=.replicate 2 ah
 cC 0 a h λa h=>bi 2 a λa=>aF h a λa=>ba a λd=>lp (EZ C c a d) [] h [d6,I 0] h (aV [((.exit 0),λa h=>q (ge a 0) h)])
theorem adt(h:zK DA t0 t1 (out v)):Ds F.zK [t0,t1] v:=aU 2 (bN (aX [.slot 0]) (aP (aB (aP (aB (.n (.l [5,14] [1,12,13] [((.exit 0),[5],[])] []) (cN (aB (aB (cN (bN (aP (aB (.n (.l [8,20] [1,5,7,12,13,14,18,19] [((.exit 2),[8],[1,5,12,13,14])] []) .o .o))) (aX [.o,.slot 1])))))) .o)))))) func109 h
def E3(C:CC)(a c:V):bJ:=λl h q=>aY .lss (ge l 1) c (aT h 1 a (ge l 1) λa=>aF h a λa=>ak C h F.uP [a] λa h=>bX a λa c=>bnd (f9 .not c) λc=>bL c SM h a λd h=>aM c SM h (aD .gtr d (I 1000000000)) λd h=>cF c (B Th) d λc=>bL c SM h a λd h=>aM c SM h (aD .lss d (I (-1000000000))) λd h=>cF c (B Th) d λc=>aQ c (q .ret [d6,I 4] h) (Ex 1 (ge l 0) a h λa h=>aj .add (ge l 1) (I 1) λc=>q .normal [a,c] h)) (q (.exit 0) [ge l 0] h)
def zN(C:CC)(a c:V)(q:kQ):=let h:Hp:=.replicate 2 ah
 cC 0 a h λa h=>bnd (aG h 3 a) λd=>cu 1 [aR] [(0,c)] h λe h=>ak C h F.zM [d,e] λd h=>dM d (q (.tup [d6,d]) h) (bnd (aG h 3 a) λa=>ak C h F.zK [a,c] λa h=>ba a λc=>lp (E3 C a c) [] h [d6,I 0] h (aV [((.exit 0),λa h=>q (.tup [ge a 0,I 0]) h),(.ret,λa h=>q (.tup [ge a 0,ge a 1]) h)]))
theorem adx(h:zN DA t0 t1 (out v)):Ds F.zN [t0,t1] v:=aU 2 (bN (aX [.slot 0]) (cN (aB (aP (aB (.n (.l [7,23] [21,22] [((.exit 0),[7],[]),(.ret,[4,5],[])] []) (cN (aB (aB (nm (aX [.o,.slot 1]))))) .o)))))) func74 h
def Bz(C:CC)(a:V)(q:kQ):=let h:Hp:=.replicate 2 ah
 cC 0 a h λa h=>cr 1 [.d (.str []),.d (.str [])] h λc h=>bi 0 a λd=>aF h d λd=>ak C h F.rH [d] λd h=>bi 1 a λa=>aF h a λa=>bnd (fG [(0,1),(1,1)] [.str [],.str []] [(0,d),(1,a)]) λa=>aS h 2 c a λ_ h=>bnd (aG h 2 c) λa=>q a h
theorem alw(h:Bz DA t0 (out v)):Ds F.Bz [t0] v:=aU 2 (aB (aX [.slot 0,.slot 1])) func77 h
def Bw(C:CC)(a c:V)(q:kQ):=let h:Hp:=.replicate 3 ah
 cC 0 a h λa h=>cC 1 c h λc h=>cr 2 [.d (.str []),.d (.str [])] h λd h=>bnd (aG h 2 a) λa=>bnd (aG h 2 c) λc=>ak C h F.Bz [c] λc h=>ak C h F.qf [a,c] λa h=>aS h 2 d a λ_ h=>bnd (aG h 2 d) λa=>q a h
theorem als(h:Bw DA t0 t1 (out v)):Ds F.Bw [t0,t1] v:=aU 3 (aB (aX [.slot 0,.slot 1,.slot 2])) func48 h
def xJ(C:CC)(a c:V)(q:kQ):=let h:Hp:=.replicate 2 ah
 cr 0 [.d (.str []),.d (.str [])] h λd h=>ak C h F.sL [a,c] λa h=>bX a λa c=>cr 1 [.d (.str []),.d (.str [])] h λc h=>aS h 2 c a λ_ h=>bnd (aG h 2 c) λa=>aS h 2 d a λ_ h=>bnd (aG h 2 d) λa=>q a h
theorem agb(h:xJ DA t0 t1 (out v)):Ds F.xJ [t0,t1] v:=aU 2 (bN (aX [.slot 0]) (aB (aX [.o,.slot 1]))) func63 h
def vG(C:CC)(a:V)(q:kQ):=let h:Hp:=.replicate 2 ah
 cC 0 a h λa h=>cr 1 [.d (.str []),.d (.str [])] h λc h=>bi 0 a λd=>aF h d λd=>aj .rem d (.d (.int .i8 41)) λd=>bnd (fq .i64 d) λd=>cu 6 [.int .i64 0] [(0,(I 1)),(1,(I 2)),(2,(I 3)),(3,(I 4)),(4,(I 6)),(5,(I 12))] h λe h=>bi 1 a λa=>aF h a λa=>aj .rem a (.d (.int .u8 6)) λa=>aT h 1 e a λa=>aF h a λa=>ak C h F.xJ [d,a] λa h=>aS h 2 c a λ_ h=>bnd (aG h 2 c) λa=>q a h
theorem agd(h:vG DA t0 (out v)):Ds F.vG [t0] v:=aU 2 (aB (aX [.slot 0,.slot 1])) func38 h
def FM(C:CC)(a c:V):bJ:=λl h q=>ba a λa=>aY .lss (ge l 1) a (aj .rem (ge l 1) (I 4) λa=>bnd (mT 4 2 c a) λa=>bnd (aG h 2 a) λa=>ak C h F.vG [a] λa h=>cu 1 [.str [],.str []] [(0,a)] h λa h=>cX SM 2 2 32 (ge l 0) a h λa h=>aj .add (ge l 1) (I 1) λc=>q .normal [a,c] h) (q (.exit 0) [ge l 0] h)
def As(C:CC)(a c:V)(q:kQ):=let h:Hp:=.replicate 3 ah
 cC 0 c h λc h=>kt 1 0 [.str [],.str []] [] h λd h=>lp (FM C a c) [] h [d,I 0] h (aV [((.exit 0),λa h=>q (ge a 0) h)])
theorem agc(h:As DA t0 t1 (out v)):Ds F.As [t0,t1] v:=aU 3 (bN (aX [.slot 0]) (bN (aX [.slot 1]) (aB (aP (aB (.n (.l [5,6] [0,3] [((.exit 0),[5],[])] []) (aP (aB (aB (aX [.o,.o,.slot 2])))) .o)))))) func21 h
def BA(C:CC)(a:V)(q:kQ):=let h:Hp:=.replicate 2 ah
 cC 0 a h λa h=>cr 1 [.d (.str []),.d (.str [])] h λc h=>bi 0 a λd=>aF h d λd=>ak C h F.lE [d] λd h=>bi 1 a λa=>aF h a λa=>bnd (fG [(0,1),(1,1)] [.str [],.str []] [(0,d),(1,a)]) λa=>aS h 2 c a λ_ h=>bnd (aG h 2 c) λa=>q a h
theorem alC(h:BA DA t0 (out v)):Ds F.BA [t0] v:=aU 2 (aB (aX [.slot 0,.slot 1])) func39 h
def Ef(C:CC)(a c:V):bJ:=λl h q=>aY .lss (ge l 0) c (aT h 4 a (ge l 0) λa=>bnd (aG h 4 a) λa=>cr 2 [.d aR,.d aR,.d aR,.d aR] h λc h=>aS h 4 c a λ_ h=>bnd (aG h 4 c) λa=>ak C h F.pI [a] λa h=>dM a (q .ret [I 0,a] h) (aj .add (ge l 0) (I 1) λa=>q .normal [a] h)) (q (.exit 0) [] h)
def II(C:CC)(a c d e:V):bJ:=λl h q=>aY .lss (ge l 0) e (aT h 5 c (ge l 0) λc=>bi 3 c λc=>aF h c λc=>aT h 5 d (ge l 0) λd=>bi 3 d λd=>aF h d λd=>ak C h F.iM [a,c,d] λa h=>bX a λa c=>aj .neq c (I 0) λd=>bL d SM h a λe h=>aM d SM h (aD .neq e (I 0)) λe h=>cF d (B Th) e λd=>aQ d (q .ret [a,c] h) (aj .add (ge l 0) (I 1) λa=>q .normal [a] h)) (q (.exit 2) [] h)
def yZ(C:CC)(a c d:V)(q:kQ):=let h:Hp:=.replicate 3 ah
 cC 0 a h λa h=>cC 1 c h λc h=>bnd (aG h 4 a) λe=>bnd (aG h 4 c) λf=>cu 2 [aR,aR,aR,aR] [(0,e),(1,f)] h λe h=>ba e λf=>lp (Ef C e f) [2] h [I 0] h (aV [((.exit 0),λe h=>bi 0 a λe=>bi 0 e λe=>aF h e λe=>bi 0 c λf=>bi 0 f λf=>aF h f λf=>ak C h F.xt [e,f] λf h=>bnd (f9 .not f) λf=>aQ f (q (.tup [I 0,I 14]) h) (bnd (aG h 4 a) λa=>ak C h F.sO [a,d] λa h=>bX a λa f=>dM f (q (.tup [I 0,f]) h) (bnd (aG h 4 c) λc=>ak C h F.sO [c,d] λc h=>bX c λc d=>dM d (q (.tup [I 0,d]) h) (ba a λd=>lp (II C e a c d) [] h [I 0] h (aV [((.exit 2),λa h=>q (.tup [I 0,I 0]) h),(.ret,λa h=>q (.tup [ge a 0,ge a 1]) h)]))))),(.ret,λa h=>q (.tup [ge a 0,ge a 1]) h)])
theorem anR(h:yZ DA t0 t1 t2 (out v)):Ds F.yZ [t0,t1,t2] v:=aU 3 (bN (aX [.slot 0,.slot 1]) (bN (aP (aB (.n (.l [22] [2,3,4,20,21] [((.exit 0),[],[2,3,4]),(.ret,[6,7],[])] [2]) (cN (aB (aB (aB (aX [.slot 2]))))) .o))) (Lx (aB (aP (aB (.n (.l [61] [11,12,14,60] [((.exit 2),[],[]),(.ret,[6,7],[])] []) .o .o))))))) func9 h
def QK(C:CC)(a c d:V):bJ:=λl h q=>aY .lss (ge l 0) d (aT h 1 a (ge l 0) λa=>aF h a λa=>aT h 1 c (ge l 0) λc=>aF h c λc=>aY .neq a c (q .ret [B SM] h) (aj .add (ge l 0) (I 1) λa=>q .normal [a] h)) (q (.exit 0) [] h)
def xt(C:CC)(a c:V)(q:kQ):=let h:Hp:=[]
 ba a λd=>ba c λe=>aY .neq d e (q (B SM) h) (ba a λd=>lp (QK C a c d) [] h [I 0] h (aV [((.exit 0),λa h=>q (B Th) h),(.ret,λa h=>q (ge a 0) h)]))
theorem aeI(h:xt DA t0 t1 (out v)):Ds F.xt [t0,t1] v:=aU 0 (cN (aB (aP (aB (.n (.l [13] [0,1,12] [((.exit 0),[],[]),(.ret,[4],[])] []) .o .o))))) func24 h
def An(C:CC)(a c:V)(q:kQ):=let h:Hp:=.replicate 3 ah
 cC 0 c h λc h=>cr 1 [.d aR,.d (.str []),.d (.str [])] h λd h=>bi 4 c λe=>bnd (aG h 2 e) λe=>ak C h F.vG [e] λe h=>ak C h F.BA [e] λe h=>cr 2 [.d (.str []),.d (.str [])] h λf h=>aS h 2 f e λ_ h=>bnd (aG h 2 f) λe=>ak C h F.wH [e] λe h=>aj .eql e (I 0) λe=>jn (λe h=>bi 0 c λc=>bnd (aG h 4 c) λc=>ak C h F.tP [a,c] λa h=>bnd (aG h 2 f) λc=>bnd (fG [(0,1),(1,2)] [aR,.str [],.str []] [(0,a),(1,c)]) λa=>aS h 3 d a λ_ h=>bnd (aG h 3 d) λa=>q a h) λa=>aQ e (ak C h F.jK [I 1,I 1] λc h=>aS h 2 f c λ_ h=>a [] h) (a [] h)
theorem af1(h:An DA t0 t1 (out v)):Ds F.An [t0,t1] v:=aU 3 (bN (aX [.slot 0,.slot 1]) (bN (aX [.o,.o,.slot 2]) (aB (aP (gZ [] [0,3,4,5]))))) func22 h
def FJ(C:CC)(a c:V):bJ:=λl h q=>ba c λd=>aj .lss (ge l 1) d λd=>bL d Th h (ge l 1) λe h=>aM d Th h (aD .lss e (I 8)) λe h=>cF d e (B SM) λd=>aQ d (aT h 6 c (ge l 1) λc=>bnd (aG h 6 c) λc=>ak C h F.An [a,c] λa h=>cu 1 [aR,.str [],.str []] [(0,a)] h λa h=>cX SM 0 3 56 (ge l 0) a h λa h=>aj .add (ge l 1) (I 1) λc=>q .normal [a,c] h) (q (.exit 0) [ge l 0] h)
def xG(C:CC)(a c:V)(q:kQ):=let h:Hp:=.replicate 1 ah
 lp (FJ C a c) [] h [d6,I 0] h (aV [((.exit 0),λa h=>q (ge a 0) h)])
theorem af2(h:xG DA t0 t1 (out v)):Ds F.xG [t0,t1] v:=aU 1 (cN (aB (aP (aB (.n (.l [5,6] [0,1] [((.exit 0),[5],[])] []) (aP (aB (aB (aX [.o,.o,.slot 0])))) .o))))) func8 h
def Al(C:CC)(a c:V)(q:kQ):=let h:Hp:=.replicate 1 ah
 cC 0 a h λa h=>bnd (aG h 35 a) λa=>ak C h F.xH [a] λa h=>bL a Th h c λc h=>aM a Th h (bf c) λc h=>aM a Th h (aD .leq c (I 8)) λc h=>cF a c (B SM) λa=>q a h
theorem afZ(h:Al DA t0 t1 (out v)):Ds F.Al [t0,t1] v:=aU 1 (aB (aX [.slot 0])) func5 h
def jK(C:CC)(a c:V)(q:kQ):=let h:Hp:=.replicate 2 ah
 cr 0 [.d (.str []),.d (.str [])] h λd h=>ak C h F.sL [a,c] λa h=>bX a λa c=>cr 1 [.d (.str []),.d (.str [])] h λc h=>aS h 2 c a λ_ h=>bnd (aG h 2 c) λa=>aS h 2 d a λ_ h=>bnd (aG h 2 d) λa=>q a h
theorem afS(h:jK DA t0 t1 (out v)):Ds F.jK [t0,t1] v:=aU 2 (bN (aX [.slot 0]) (aB (aX [.o,.slot 1]))) func14 h
def vC(C:CC)(q:kQ):=let h:Hp:=.replicate 3 ah
 cr 0 [.d aR,.d aR,.d aR,.d aR] h λa h=>ak C h F.jK [I 0,I 1] λc h=>ak C h F.jK [I 1,I 1] λd h=>cr 1 [.d (.str []),.d (.str [])] h λe h=>cr 2 [.d (.str []),.d (.str [])] h λf h=>aS h 2 e c λ_ h=>aS h 2 f d λ_ h=>cu 3 [.int .i64 0] [(0,(I 2)),(1,(I 3)),(2,(I 5))] h λc h=>cu 3 [.int .i64 0] [(0,(I 4)),(1,(I (-4))),(2,(I 1))] h λd h=>cu 1 [aR] [(0,d)] h λd h=>cu 3 [.int .i64 0] [(0,(I 1)),(1,(I 0)),(2,(I (-4)))] h λg h=>cu 3 [.int .i64 0] [(0,(I 0)),(1,(I 1)),(2,(I 4))] h λi h=>cu 2 [aR] [(0,g),(1,i)] h λg h=>bnd (fG [(0,1),(1,1),(2,1)] [aR,aR,aR] [(0,c),(1,d),(2,g)]) λc=>bnd (aG h 2 f) λd=>bnd (aG h 2 e) λg=>bnd (aG h 2 e) λi=>cu 3 [.str [],.str []] [(0,d),(1,g),(2,i)] h λd h=>bnd (aG h 2 f) λf=>bnd (aG h 2 e) λe=>vf C.p h (.fn F.jK [] []) [I 1,I 4] λg h=>cu 3 [.str [],.str []] [(0,f),(1,e),(2,g)] h λe h=>cu 2 [aR] [(0,d),(1,e)] h λd h=>bnd (fG [(0,3),(3,1)] [aR,aR,aR,aR] [(0,c),(1,d)]) λc=>aS h 4 a c λ_ h=>bnd (aG h 4 a) λa=>q a h
theorem afV(h:vC DA (out v)):Ds F.vC [] v:=aU 3 (bN (aX [.slot 0]) (aB (aX [.o,.o,.slot 1,.slot 2]))) func16 h
def vE(C:CC)(q:kQ):=let h:Hp:=[]
 cu 3 [.int .i64 0] [(0,(I (-1))),(1,(I 1)),(2,(I 0))] h λa h=>ak C h F.jK [I 1,I 1] λc h=>bnd (fG [(0,1),(1,2)] [aR,.str [],.str []] [(0,a),(1,c)]) λa=>cu 3 [.int .i64 0] [(0,(I 1)),(1,(I 1)),(2,(I (-1)))] h λc h=>ak C h F.jK [I 2,I 1] λd h=>bnd (fG [(0,1),(1,2)] [aR,.str [],.str []] [(0,c),(1,d)]) λc=>cu 3 [.int .i64 0] [(0,(I (-2))),(1,(I 0)),(2,(I 1))] h λd h=>ak C h F.jK [I 1,I 1] λe h=>bnd (fG [(0,1),(1,2)] [aR,.str [],.str []] [(0,d),(1,e)]) λd=>cu 3 [aR,.str [],.str []] [(0,a),(1,c),(2,d)] h λa h=>ak C h F.vC [] λc h=>aT h 3 a (I 0) λd=>bnd (aG h 3 d) λd=>ak C h F.yX [c,d] λc h=>bX c λc d=>ak C h F.vC [] λe h=>ak C h F.yY [e,a] λe h=>kw e λe f g=>ak C h F.vC [] λi h=>ak C h F.yW [i,a] λa h=>bX a λa i=>aj .eql d (I 0) λd=>bL d Th h c λj h=>aM d Th h (bf j) λj h=>aM d Th h (aD .eql j (I 3)) λj h=>cF d j (B SM) λd=>bL d Th h c λj h=>aM d Th h (bq h 2 j (I 0)) λj h=>aM d Th h (aG h 2 j) λj h=>gd d Th h (λq=>ak C h F.jK [I (-1),I 1] q) λk h=>aM d Th h (pz [.str [],.str []] .eql j k) λj h=>cF d j (B SM) λd=>bL d Th h c λj h=>aM d Th h (bq h 2 j (I 1)) λj h=>aM d Th h (aG h 2 j) λj h=>gd d Th h (λq=>ak C h F.jK [I 1,I 1] q) λk h=>aM d Th h (pz [.str [],.str []] .eql j k) λj h=>cF d j (B SM) λd=>bL d Th h c λc h=>aM d Th h (bq h 2 c (I 2)) λc h=>aM d Th h (aG h 2 c) λc h=>gd d Th h (λq=>ak C h F.jK [I (-1),I 4] q) λj h=>aM d Th h (pz [.str [],.str []] .eql c j) λc h=>cF d c (B SM) λc=>bL c Th h g λd h=>aM c Th h (aD .eql d (I 0)) λd h=>cF c d (B SM) λc=>bL c Th h e λd h=>aM c Th h (bf d) λd h=>aM c Th h (aD .eql d (I 3)) λd h=>cF c d (B SM) λc=>bL c Th h e λd h=>aM c Th h (bq h 2 d (I 0)) λd h=>aM c Th h (aG h 2 d) λd h=>gd c Th h (λq=>ak C h F.jK [I (-2),I 1] q) λe h=>aM c Th h (pz [.str [],.str []] .eql d e) λd h=>cF c d (B SM) λc=>bL c Th h f λd h=>aM c Th h (bf d) λd h=>aM c Th h (aD .eql d (I 1)) λd h=>cF c d (B SM) λc=>bL c Th h f λd h=>aM c Th h (bq h 1 d (I 0)) λd h=>aM c Th h (ld1 h d) λd h=>aM c Th h (aD .eql d (I 1)) λd h=>cF c d (B SM) λc=>bL c Th h i λd h=>aM c Th h (aD .eql d (I 0)) λd h=>cF c d (B SM) λc=>bL c Th h a λd h=>aM c Th h (bf d) λd h=>aM c Th h (aD .eql d (I 1)) λd h=>cF c d (B SM) λc=>bL c Th h a λa h=>aM c Th h (bq h 1 a (I 0)) λa h=>aM c Th h (ld1 h a) λa h=>aM c Th h (aD .eql a (I 2)) λa h=>cF c a (B SM) λa=>q a h
def Kq:cn:=.o
attribute [local irreducible] bnd gd bp aQ ext cu kt aS cr mF cC jn lp aV fS cX eO pW in
theorem afY(C:CC)(q:bH):k9 Y C Tryz.f4 0 Kq [] q=vE C q:=Cq
theorem afW:okB Tryz.prog Tryz.f4 Kq=Th:=du
theorem afX(h:vE DA (out v)):Ds F.vE [] v:=
 CP.of (fn:=Tryz.f4) (m:=0) (a:=Kq) rfl (λ_=>rfl) func4 afW (by rw[afY];exact h)
def xI(C:CC)(a:V)(q:kQ):=let h:Hp:=.replicate 1 ah
 cC 0 a h λa h=>bi 1 a λa=>aF h a λa=>ba a λa=>aj .leq a (I 3) λa=>q a h
theorem aga(h:xI DA t0 (out v)):Ds F.xI [t0] v:=aU 1 (aB (aX [.slot 0])) func19 h
def Aq(C:CC)(a c d:V)(q:kQ):=let h:Hp:=.replicate 4 ah
 cr 0 [.d aR,.d aR,.d aR] h λe h=>ak C h F.oT [a] λf h=>dM f (bnd (fG [(0,1),(1,1),(2,1)] [aR,aR,aR] []) λa=>aS h 3 e a λ_ h=>bnd (aG h 3 e) λa=>q (.tup [a,f]) h) (ba a λf=>ak C h F.Bi [f,c] λc h=>bX c λc f=>cr 1 [.d (.int .i64 0),.d aR] h λg h=>aS h 2 g c λ_ h=>dM f (bnd (fG [(0,1),(1,1),(2,1)] [aR,aR,aR] []) λa=>aS h 3 e a λ_ h=>bnd (aG h 3 e) λa=>q (.tup [a,f]) h) (bnd (aG h 2 g) λc=>ak C h F.yv [c] λc h=>bX c λc f=>cr 2 [.d (.int .i64 0),.d aR] h λi h=>aS h 2 i c λ_ h=>bnd (aG h 2 g) λc=>ak C h F.yx [c] λc h=>bX c λc g=>cr 3 [.d (.int .i64 0),.d aR] h λj h=>aS h 2 j c λ_ h=>aj .neq f (I 0) λc=>bL c SM h g λf h=>aM c SM h (aD .neq f (I 0)) λf h=>cF c (B Th) f λc=>aQ c (bnd (fG [(0,1),(1,1),(2,1)] [aR,aR,aR] []) λa=>aS h 3 e a λ_ h=>bnd (aG h 3 e) λa=>q (.tup [a,I 4]) h) (jn (λc h=>bi 1 i λc=>aF h c λc=>bi 1 j λd=>aF h d λd=>bnd (fG [(0,1),(1,1),(2,1)] [aR,aR,aR] [(0,a),(1,c),(2,d)]) λa=>aS h 3 e a λ_ h=>bnd (aG h 3 e) λa=>q (.tup [a,I 0]) h) λa=>aQ d (bnd (aG h 2 j) λc=>bnd (aG h 2 i) λd=>aS h 2 i c λ_ h=>aS h 2 j d λ_ h=>a [] h) (a [] h))))
theorem af8(h:Aq DA t0 t1 t2 (out v)):Ds F.Aq [t0,t1,t2] v:=aU 4 (bN (aX [.slot 0]) (aP (bN (aX [.o,.slot 1]) (aP (bN (aX [.o,.slot 2]) (bN (aX [.o,.slot 3]) (aP (aB (aP (gZ [] [0,6,11,12])))))))))) func37 h
def FL(C:CC)(a c:V):bJ:=λl h q=>bi 1 a λd=>aF h d λd=>ba d λd=>aj .lss (ge l 1) d λd=>bL d Th h (ge l 1) λe h=>aM d Th h (aD .lss e (I 3)) λe h=>cF d e (B SM) λd=>aQ d (bi 1 a λa=>aF h a λa=>aT h 4 a (ge l 1) λa=>bnd (aG h 4 a) λa=>ak C h F.tP [c,a] λa h=>cu 1 [aR] [(0,a)] h λa h=>cX SM 2 1 24 (ge l 0) a h λa h=>aj .add (ge l 1) (I 1) λc=>q .normal [a,c] h) (q (.exit 0) [ge l 0] h)
def tO(C:CC)(a:V)(q:kQ):=let h:Hp:=.replicate 4 ah
 cC 0 a h λa h=>cr 1 [.d aR,.d aR,.d aR] h λc h=>bi 0 a λd=>aF h d λd=>ak C h F.xK [d] λd h=>lp (FL C a d) [] h [d6,I 0] h (aV [((.exit 0),λe h=>bi 2 a λa=>aF h a λa=>ak C h F.Aq [d,ge e 0,a] λa h=>bX a λa d=>cr 3 [.d aR,.d aR,.d aR] h λd h=>aS h 3 d a λ_ h=>bnd (aG h 3 d) λa=>aS h 3 c a λ_ h=>bnd (aG h 3 c) λa=>q a h)])
theorem af9(h:tO DA t0 (out v)):Ds F.tO [t0] v:=aU 4 (bN (aX [.slot 0,.slot 1]) (cN (bN (aP (aB (.n (.l [4,5] [1,2,3] [((.exit 0),[4],[1,2,3])] []) (aP (aB (aB (aX [.o,.o,.slot 2])))) .o))) (aB (aX [.o,.slot 3]))))) func20 h
def xH(C:CC)(a:V)(q:kQ):=let h:Hp:=.replicate 1 ah
 cC 0 a h λa h=>bi 0 a λa=>bnd (aG h 3 a) λa=>ak C h F.xI [a] q
theorem af7(h:xH DA t0 (out v)):Ds F.xH [t0] v:=aU 1 (aB (aX [.slot 0])) func6 h
def FK(C:CC)(a c d:V):bJ:=λl h q=>bi 2 c λe=>aF h e λe=>ba e λe=>aY .lss (ge l 0) e (bi 3 d λe=>aF h e λe=>bi 0 c λc=>aF h c λc=>aj .rem (ge l 0) (I 4) λf=>bi 3 a λa=>bnd (mT 4 8 a f) λa=>bnd (aG h 8 a) λa=>ak C h F.As [c,a] λa h=>cu 1 [aR] [(0,a)] h λa h=>cX SM 4 1 24 e a h λa h=>bi 3 d λc=>aS h 1 c a λ_ h=>aj .add (ge l 0) (I 1) λa=>q .normal [a] h) (q (.exit 0) [] h)
def vF(C:CC)(a:V)(q:kQ):=let h:Hp:=.replicate 5 ah
 cC 0 a h λa h=>cr 1 [.d aR,.d aR,.d aR,.d aR] h λc h=>bi 0 a λd=>bnd (aG h 3 d) λd=>ak C h F.tO [d] λd h=>cr 2 [.d aR,.d aR,.d aR] h λe h=>aS h 3 e d λ_ h=>bnd (aG h 3 e) λd=>bnd (fG [(0,3),(3,1)] [aR,aR,aR,aR] [(0,d)]) λd=>cr 3 [.d aR,.d aR,.d aR,.d aR] h λf h=>aS h 4 f d λ_ h=>lp (FK C a e f) [] h [I 0] h (aV [((.exit 0),λa h=>bnd (aG h 4 f) λa=>aS h 4 c a λ_ h=>bnd (aG h 4 c) λa=>q a h)])
theorem af6(h:vF DA t0 (out v)):Ds F.vF [t0] v:=aU 5 (bN (aX [.slot 0,.slot 1]) (bN (aX [.o,.slot 2]) (bN (aX [.slot 3]) (aB (aP (aB (.n (.l [5] [1,2,3,4] [((.exit 0),[],[2,4])] []) (aP (aB (aB (aX [.o,.o,.slot 4])))) .o))))))) func7 h
def tN(C:CC)(a c:V)(q:kQ):=let h:Hp:=.replicate 2 ah
 cC 0 a h λa h=>cC 1 c h λc h=>bnd (aG h 4 a) λd=>bi 0 c λe=>aF h e λe=>ak C h F.uV [d,e] λd h=>bX d λd e=>bi 0 a λe=>bi 0 e λe=>aF h e λe=>ak C h F.vy [e,d] λd h=>bX d λd e=>bi 0 a λa=>bi 0 a λa=>aF h a λa=>bi 1 c λc=>bnd (aG h 2 c) λc=>ak C h F.vu [a,d,c] λa h=>bX a λa c=>q a h
theorem afU(h:tN DA t0 t1 (out v)):Ds F.tN [t0,t1] v:=aU 2 (aB (aX [.slot 0,.slot 1])) func13 h
def xF(C:CC)(a c d:V)(q:kQ):=let h:Hp:=.replicate 1 ah
 cC 0 a h λa h=>bi 0 a λa=>bi 0 a λa=>aF h a λa=>ak C h F.iM [a,c,d] λa h=>bX a λa c=>q a h
theorem af0(h:xF DA t0 t1 t2 (out v)):Ds F.xF [t0,t1,t2] v:=aU 1 (aB (aX [.slot 0])) func12 h
def FH(C:CC)(a c d e:V):bJ:=λl h q=>aj .gtr (ge l 0) (I 0) λf=>aM f Th h (aG h 4 c) λg h=>aM f Th h (aG h 4 c) λi h=>bL f Th h a λj h=>bL f Th h e λe h=>aM f Th h (bq h 3 j e) λe h=>aM f Th h (aG h 3 e) λe h=>gd f Th h (λq=>ak C h F.tN [i,e] q) λe h=>aM f Th h (aG h 4 c) λc h=>bL f Th h a λa h=>bL f Th h d λd h=>bL f Th h (ge l 0) λi h=>aM f Th h (aD .sub i (I 1)) λi h=>aM f Th h (bq h 1 d i) λd h=>aM f Th h (ld1 h d) λd h=>aM f Th h (bq h 3 a d) λa h=>aM f Th h (aG h 3 a) λa h=>gd f Th h (λq=>ak C h F.tN [c,a] q) λa h=>gd f Th h (λq=>ak C h F.xF [g,e,a] q) λa h=>aM f Th h (aD .gtr a (I 0)) λa h=>cF f a (B SM) λa=>aQ a (aj .sub (ge l 0) (I 1) λa=>q .normal [a] h) (q (.exit 2) [ge l 0] h)
def FI(C:CC)(a c:V):bJ:=λl h q=>ba a λd=>aY .lss (ge l 1) d (ba (ge l 0) λd=>lp (FH C a c (ge l 0) (ge l 1)) [] h [d] h (aV [((.exit 2),λa h=>bnd (xx h 1 (ge l 0) Vc (Wf (ge a 0)) (ge a 0)) λc=>kt 1 1 [.int .i64 0] [(0,(ge l 1))] h λd h=>bnd (gU h 1 (ge l 0) (Wf (ge a 0)) Vc) λa=>cX SM 2 1 8 d a h λa h=>cX SM 3 1 8 c a h λa h=>aj .add (ge l 1) (I 1) λc=>q .normal [a,c] h)])) (q (.exit 0) [ge l 0] h)
def tM(C:CC)(a c:V)(q:kQ):=let h:Hp:=.replicate 4 ah
 cC 0 a h λa h=>lp (FI C c a) [1,2] h [d6,I 0] h (aV [((.exit 0),λa h=>q (ge a 0) h)])
theorem afT(h:tM DA t0 t1 (out v)):Ds F.tM [t0,t1] v:=aU 4 (bN (aX [.slot 0]) (aP (aB (aP (aB (.n (.l [5,6] [1,2] [((.exit 0),[5],[])] [1,2]) (aP (aB (aB (aP (bN (aB (.n (.l [7] [1,2,5,6] [((.exit 2),[7],[1,2,5,6])] []) .o .o)) (aX [.slot 1,.slot 2,.slot 3])))))) .o)))))) func11 h
def CM(C:CC)(a c d e f g i:V):bJ:=λl h q=>ba d λj=>aY .lss (ge l 0) j (bnd (aG h 4 a) λj=>bnd (aG h 4 a) λa=>aT h 1 g (ge l 0) λg=>aF h g λg=>aT h 3 d g λg=>bnd (aG h 3 g) λg=>ak C h F.tN [a,g] λa h=>bnd (aG h 4 c) λc=>aT h 1 i (ge l 0) λg=>aF h g λg=>aT h 3 d g λd=>bnd (aG h 3 d) λd=>ak C h F.tN [c,d] λc h=>ak C h F.xF [j,a,c] λa h=>dM a (aj .eql e a λa=>bL a Th h f λc h=>aM a Th h (aD .eql c (I 0)) λc h=>cF a c (B SM) λa=>q .ret [a] h) (aj .add (ge l 0) (I 1) λa=>q .normal [a] h)) (q (.exit 0) [] h)
def Ap(C:CC)(a c d:V)(q:kQ):=let h:Hp:=.replicate 4 ah
 cC 0 a h λa h=>cC 1 c h λc h=>ak C h F.vE [] λe h=>bnd (f9 .not e) λe=>aM e SM h (aG h 35 a) λf h=>bL e SM h d λg h=>gd e SM h (λq=>ak C h F.Al [f,g] q) λf h=>aM e SM h (f9 .not f) λf h=>cF e (B Th) f λe=>aM e SM h (aG h 35 c) λf h=>gd e SM h (λq=>ak C h F.xH [f] q) λf h=>aM e SM h (f9 .not f) λf h=>cF e (B Th) f λe=>aQ e (ak C h F.vE [] q) (bnd (aG h 35 a) λa=>ak C h F.vF [a] λa h=>bnd (aG h 35 c) λc=>ak C h F.vF [c] λc h=>cr 2 [.d aR,.d aR,.d aR,.d aR] h λe h=>cr 3 [.d aR,.d aR,.d aR,.d aR] h λf h=>aS h 4 e a λ_ h=>aS h 4 f c λ_ h=>bi 0 e λa=>bi 0 a λa=>aF h a λa=>ak C h F.xG [a,d] λa h=>bnd (aG h 4 e) λc=>bnd (aG h 4 f) λd=>ak C h F.yZ [c,d,a] λc h=>bX c λc d=>bi 0 e λg=>bi 0 g λg=>aF h g λg=>bi 0 f λi=>bi 0 i λi=>aF h i λi=>ak C h F.Av [g,i] λg h=>bnd (f9 .not g) λg=>aQ g (aj .eql c (I 0) λa=>bL a Th h d λc h=>aM a Th h (aD .eql c (I 14)) λc h=>cF a c (B SM) λa=>q a h) (bnd (aG h 4 e) λg=>ak C h F.tM [g,a] λg h=>bnd (aG h 4 f) λi=>ak C h F.tM [i,a] λi h=>lp (CM C e f a c d g i) [] h [I 0] h (aV [((.exit 0),λa h=>aj .eql c (I 0) λa=>bL a Th h d λc h=>aM a Th h (aD .eql c (I 0)) λc h=>cF a c (B SM) λa=>q a h),(.ret,λa h=>q (ge a 0) h)])))
def Kr:cn:=(bN (aX [.slot 0,.slot 1]) (aP (bN (aX [.o,.o,.slot 2,.slot 3]) (yb (aB (aP (aB (.n (.l [14] [7,8,9,10,11,12,13] [((.exit 0),[],[10,11]),(.ret,[6],[])] []) .o .o))))))))
attribute [local irreducible] bnd gd bp aQ ext cu kt aS cr mF cC jn lp aV fS cX eO pW in
theorem af5(C:CC)(t0:V)(t1:V)(t2:V)(q:bH):k9 Y C Tryz.f3 4 Kr [t0,t1,t2] q=Ap C t0 t1 t2 q:=Cq
theorem af3:okB Tryz.prog Tryz.f3 Kr=Th:=du
theorem af4(h:Ap DA t0 t1 t2 (out v)):Ds F.Ap [t0,t1,t2] v:=
 CP.of (fn:=Tryz.f3) (m:=4) (a:=Kr) rfl (λ_=>rfl) func3 af3 (by rw[af5];exact h)
end Go.Vm
