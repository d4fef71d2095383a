/- Lemmas. -/
import Derived.Test.YthjogmhfdpaaaabGreatDoorQAm
import Derived.ChangeKeysEq
set_option linter.unusedVariables false
set_option linter.unusedSimpArgs false
open Option renaming some->Wf,none->Vc
open Bool renaming true->Th,false->SM
open Go renaming Value->vl,FuncId->fI,IntKind->iK,Program->pG,TypeId->tI,Oper->oR,Operand->oP,Exit->eX,BinOp->bO
open List renaming replicate->So,length->RW
namespace Go.Vm
open Go Go.Am
noncomputable section
variable{s e m c r n off len tot top:Nat}{α β:Type}{φ' l:ax}{q ex fr:Bool}{o lo' DE:Option vl}{op:bO}{c' x' y' p cv i' w p' v':vl}{P:pG}{t:tI}{ox oy:oP}{d:TypeDesc}{l' ws:au}
inductive D where
 |int (k:iK) (n:Int)
 |bool (b:Bool)
 |str (s:bA)
 |pl (v:vl)
 |sl (len:Nat) (cells:List D)
variable{cs z xs:List D}
inductive V where
 |junk
 |d (x:D)
 |ref (s e off len cap tot:Nat)
 |ptr (s e off tot:Nat)
 |dptr (cells:List D) (pos:Nat)
 |cut (n:Nat)
 |agg (vs:List V)
 |tup (vs:List V)
 |fn (g:fI) (fs cs:List V)
 |ifc (t:tI) (x:V)
 /-- A slice that lies alone in a new block:what an inner call hands back. -/
 |new (n:Nat) (cells:List D) (ex:Bool) (len cap:Nat)
variable{v x y:V}
inductive Bk where
 |none
 |vars (cells:List V)
 |data (n:Nat) (cells:List D) (exact frozen:Bool)
abbrev Hp:=List (Nat×Bk)
variable{h':Hp}{k:V->Hp->Prop}
inductive Ty where
 |i (k:iK)|b|s|p|f|it
 |sl (e:tI)
 |ar (len:Nat) (e:tI)
 |st (fs:List (Nat×Nat))
 |o
structure c8 where
 k:Ty
 sz:Nat
 bytes:Nat
 z:List D
 /-- may values of it be compared cell by cell? -/
 eq:Bool
structure eu where
 X:dh
 ty:tI->c8
 glob:Nat->Option (List D)
 /-- what an iterator yields -/
 seq:fI->List V->Option (List au)
def ge:List V->Nat->V
 |[],_=>.junk
 |x::_,0=>x
 |_::l,t+1=>ge l t
abbrev Env:=List (Nat×V)
abbrev K:=eX->Env->Hp->Prop
abbrev KL:=eX->List V->Hp->Prop
def lk:Env->Nat->V
 |[],_=>.junk
 | (i,v)::l,t=>match Nat.beq i t with
  |true=>v
  |false=>lk l t
def Bl(l:Env)(t:Nat)(k:V->Prop):Prop:=match l with
 |[]=>k .junk
 | (i,v)::l=>match Nat.beq i t with
  |true=>k v
  |false=>Bl l t k
def Gn(l:Env)(t:Option Nat)(v:V):Env:=match t with
 |some t=>(t,v)::l
 |none=>l
def wC(l:Env):ax->(Env->Prop)->Prop
 |[],k=>k []
 |t::ts,k=>Bl l t λv=>wC l ts λe=>k ((t,v)::e)
def ya(l:Env):ax->Nat->List V->(Env->Prop)->Prop
 |[],_,_,k=>k l
 |t::ts,i,vs,k=>ya ((t,ge vs i)::l) ts (i+1) vs k
def cut{α:Type}(l:List α)(off n:Nat):Option (List α):=if off+n<=RW l then Wf ((l.drop off).take n)else Vc
def dL:vl->D
 |.int k n=>.int k n
 |.bool b=>.bool b
 |.string s=>.str s.data.toList
 |v=>.pl v
def lit:vl->V
 |.agg cs=>.agg (cs.toList.map λc=>.d (dL c))
 |.tuple cs=>.tup (cs.toList.map λc=>.d (dL c))
 |v=>.d (dL v)
def norm:D->D
 |.pl (.slice Vc 0 0)=>.sl 0 []
 |x=>x
def okV:V->Bool
 |.junk|.agg _|.tup _|.ifc .. |.new ..=>SM
 |_=>Th
mutual
def fk:V->Bool
 |.d (.sl ..)=>SM
 |.d _=>Th
 |.agg l|.tup l=>p6 l
 |.ifc _ x=>fk x
 |_=>SM
def p6:List V->Bool
 |[]=>Th
 |x::l=>fk x&&p6 l
end
def aH(h:Hp)(s e:Nat):Bk:=match h[s]? with
 |some (e',b)=>if e'=e then b else .none
 |none=>.none
def bP(h:Hp)(s e:Nat)(b:Bk):Hp:=h.set s (e,b)
def wT:List V->Option (List D)
 |[]=>Wf []
 | .d x::l=>match wT l with
  |some xs=>Wf (x::xs)
  |none=>Vc
 |_=>Vc
def dX(h:Hp):V->Option (D×Hp)
 |.d x=>Wf (norm x,h)
 | .ref s e off len cap tot=>match aH h s e with
  |.data n cs ex _=>if tot=RW cs∧len<=cap∧off+len*n<=RW cs then Wf (.sl len ((cs.drop off).take (len*n)),bP h s e (.data n cs ex Th))else Vc
  | .vars l=>match wT l with
   |some cs=>if tot=RW cs∧len<=cap∧off+len*1<=RW cs then Wf (.sl len ((cs.drop off).take (len*1)),bP h s e (.data 1 cs SM Th))else Vc
   |none=>Vc
  |_=>Vc
 |_=>Vc
def d8(h:Hp):List V->Option (List D×Hp)
 |[]=>Wf ([],h)
 | v::l=>match dX h v with
  | some (x,h)=>match d8 h l with
   |some (xs,h)=>Wf (x::xs,h)
   |none=>Vc
  |none=>Vc
def xq(h:Hp):V->Option (D×Hp)
 | .ref s e off len cap tot=>match aH h s e with
  | .vars l=>match d8 h l with
   | some (cs,h1)=>match aH h1 s e with
    |.vars l1=>if tot=RW cs∧l1.length=RW cs∧len<=cap∧off+len*1<=RW cs then Wf (.sl len ((cs.drop off).take (len*1)),bP h1 s e (.data 1 cs SM Th))else Vc
    |_=>Vc
   |none=>Vc
  |_=>Vc
 |_=>Vc
mutual
/-- A value without the slots. -/
def bQ(h:Hp):V->Option (V×Hp)
 |.d x=>Wf (.d (norm x),h)
 | .ref s e off len cap tot=>match dX h (.ref s e off len cap tot)with
  |some (x,h)=>Wf (.d x,h)
  | none=>match xq h (.ref s e off len cap tot)with
   |some (x,h)=>Wf (.d x,h)
   |none=>Vc
 | .agg l=>match bY h l with
  |some (l,h)=>Wf (.agg l,h)
  |none=>Vc
 | .tup l=>match bY h l with
  |some (l,h)=>Wf (.tup l,h)
  |none=>Vc
 | .fn g fs cs=>match bY h fs with
  | some (fs,h)=>match bY h cs with
   |some (cs,h)=>Wf (.fn g fs cs,h)
   |none=>Vc
  |none=>Vc
 | .ifc t x=>match bQ h x with
  |some (x,h)=>Wf (.ifc t x,h)
  |none=>Vc
 | .ptr s e off tot=>match aH h s e with
  | .vars l=>match wT l with
   |some cs=>if tot=RW l then Wf (.dptr cs off,bP h s e (.data 1 cs SM Th))else Vc
   |none=>Vc
  |.data n cs ex _=>if tot=RW cs then Wf (.dptr cs off,bP h s e (.data n cs ex Th))else Vc
  |_=>Vc
 |.dptr cs pos=>Wf (.dptr cs pos,h)
 |_=>Vc
def bY(h:Hp):List V->Option (List V×Hp)
 |[]=>Wf ([],h)
 | v::l=>match bQ h v with
  | some (x,h)=>match bY h l with
   |some (xs,h)=>Wf (x::xs,h)
   |none=>Vc
  |none=>Vc
end
def bnd(o:Option V)(k:V->Prop):Prop:=match o with
 |some v=>k v
 |none=>False
def aQ(c:V)(A B:Prop):Prop:=match c with
 |.d (.bool b)=>if b then A else B
 |_=>False
def gd(c:V)(w:Bool)(h:Hp)(T:(V->Hp->Prop)->Prop)(k:V->Hp->Prop):Prop:=match c with
 |.d (.bool b)=>if b=w then T k else k (.tup []) h
 |.tup []=>k (.tup []) h
 |_=>False
def ext(x:V)(i:Nat)(k:V->Prop):Prop:=match x with
 |.tup vs=>bnd vs[i]? k
 |_=>False
def kU:V->V->V->Option V
 |.d (.bool t),x,y=>Wf (if t then x else y)
 |_,_,_=>Vc
def jt(o:Option vl):Option V:=match o with
 |some v=>Wf (.d (dL v))
 |none=>Vc
def aD(op:bO):V->V->Option V
 |.d (.int k a),.d (.int k' b)=>jt (iR op k a k' b)
 |_,_=>Vc
def jE(op:bO):V->V->Option V
 | .d (.bool a),.d (.bool b)=>match op with
  |.eql=>Wf (.d (.bool (a == b)))
  |.neq=>Wf (.d (.bool (a !=b)))
  |_=>Vc
 |_,_=>Vc
def J4(op:bO)(a b:bA):Option D:=
 match op with
 |.add=>if RW a+RW b<=9223372036854775807 then Wf (.str (a++b))else Vc
 |.eql=>Wf (.bool (a == b))
 |.neq=>Wf (.bool (!(a == b)))
 |.lss=>Wf (.bool (Op.bytesLess a b))
 |.leq=>Wf (.bool (Op.bytesLess a b||a == b))
 |.gtr=>Wf (.bool (!(Op.bytesLess a b||a == b)))
 |.geq=>Wf (.bool (!(Op.bytesLess a b)))
 |_=>Vc
def j7(op:bO):V->V->Option V
 | .d (.str a),.d (.str b)=>match J4 op a b with
  |some x=>Wf (.d x)
  |none=>Vc
 |_,_=>Vc
def yZ(q:Bool):D->D->D->Option Bool
 |.int _ _,.int k a,.int k' b=>if k=k' then Wf (a == b&&q)else Vc
 |.bool _,.bool a,.bool b=>Wf (a == b&&q)
 |.str _,.str a,.str b=>Wf (a == b&&q)
 |_,_,_=>Vc
def pB:List D->List V->List V->Option Bool
 |[],[],[]=>Wf Th
 | z::zs,.d x::l,.d y::m=>match pB zs l m with
  |some q=>yZ q z x y
  |none=>Vc
 |_,_,_=>Vc
def pJ(z:List D)(op:bO):V->V->Option V
 | .agg xs,.agg ys=>match op,pB z xs ys with
  |.eql,Wf p=>Wf (.d (.bool p))
  |.neq,Wf p=>Wf (.d (.bool !p))
  |_,_=>Vc
 |_,_=>Vc
def yk(h:Hp):V->Option Bool
 |.d (.pl (.slice Vc _ _))=>Wf Th
 |.d (.sl (_+1) _)=>Wf SM
 |.cut _=>Wf SM
 | .ref s e _ _ _ tot=>match aH h s e with
  |.data n cs _ _=>if tot=RW cs then Wf SM else Vc
  |_=>Vc
 |_=>Vc
def OD(h:Hp)(op:bO)(x y:V):Option V:=
 match op,yk h x,yk h y with
 |.eql,Wf Th,Wf q=>Wf (.d (.bool q))
 |.eql,Wf q,Wf Th=>Wf (.d (.bool q))
 |.neq,Wf Th,Wf q=>Wf (.d (.bool !q))
 |.neq,Wf q,Wf Th=>Wf (.d (.bool !q))
 |_,_,_=>Vc
def ML:V->Bool
 |.d (.sl 0 _)=>Th
 |_=>SM
def qe(h:Hp)(op:bO)(x y:V)(k:V->Prop):Prop:=match OD h op x y with
 |some v=>k v
 | none=>match op,ML x,yk h y with
  |.eql,true,Wf Th=>∀b,k (.d (.bool b))
  |.neq,true,Wf Th=>∀b,k (.d (.bool b))
  |_,_,_=>False
def gL(op:UnOp):V->Option V
 | .d (.bool b)=>match op with
  |.not=>Wf (.d (.bool !b))
  |_=>Vc
 | .d (.int k n)=>match op with
  |.neg=>jt (iR .sub k 0 k n)
  |.xor=>jt (iR .xor k (if k.signed then -1 else k.max) k n)
  |_=>Vc
 |_=>Vc
def ft(k:iK):V->Option V
 |.d (.int _ n)=>Wf (.d (.int k (k.wrap n)))
 |_=>Vc
def N8:V->Option V
 |.d (.str s)=>Wf (.d (.str s))
 |_=>Vc
def bytesD:List D->Option bA
 |[]=>Wf []
 | .int .u8 n::l=>if 0<=n∧n<256 then match bytesD l with
  |some r=>Wf (UInt8.ofNat n.toNat::r)
  |none=>Vc else Vc
 |_=>Vc
def cellsOf(h:Hp):V->Option (Nat×List D)
 |.d (.sl len cs)=>Wf (len,cs)
 |.d (.pl (.slice Vc 0 0))=>Wf (0,[])
 |.cut _=>Wf (0,[])
 | .ref s e off len cap tot=>match aH h s e with
  |.data n cs _ _=>if tot=RW cs∧off+len*n<=RW cs then Wf (len,(cs.drop off).take (len*n))else Vc
  |_=>Vc
 |_=>Vc
def nP(h:Hp)(x:V):Option V:=match cellsOf h x with
 | some (len,cs)=>if RW cs=len then match bytesD cs with
  |some s=>Wf (.d (.str s))
  |none=>Vc else Vc
 |none=>Vc
def oG(x:V)(h:Hp)(k:V->Hp->Prop):Prop:=match x with
 |.d (.str s)=>k (.d (.sl (RW s) (s.map λb=>.int .u8 b.toNat))) h
 |_=>False
def jQ(g:Bool)(a b:Int):Int:=if g then(if b>a then b else a)else(if b<a then b else a)
def gk(g:Bool):List V->Option V
 |[.d (.int k a)]=>Wf (.d (.int k a))
 | .d (.int k a) :: .d (.int k' b)::l=>match l with
  |[]=>Wf (.d (.int k (jQ g a b)))
  |[.d (.int _ c)]=>Wf (.d (.int k (jQ g (jQ g a b) c)))
  |_=>Vc
 |_=>Vc
def pI(op:bO):V->V->Option V
 | .d (.pl .nilIface),.d (.pl .nilIface)=>match op with
  |.eql=>Wf (.d (.bool Th))
  |.neq=>Wf (.d (.bool SM))
  |_=>Vc
 |_,_=>Vc
def fv:V->Option V
 |.d (.str s)=>Wf (.d (.int .i64 (RW s)))
 |_=>Vc
def bh:V->Option V
 |.d (.sl n _)=>Wf (.d (.int .i64 n))
 |.d (.pl (.slice Vc n _))=>Wf (.d (.int .i64 n))
 |.ref _ _ _ len _ _=>Wf (.d (.int .i64 len))
 |.cut _=>Wf (.d (.int .i64 0))
 |_=>Vc
def ik(off:Nat):V->Option V
 |.ptr s e o tot=>Wf (.ptr s e (o+off) tot)
 |.dptr cs o=>Wf (.dptr cs (o+off))
 |_=>Vc
def D5(off n:Nat)(one:Bool):V->Option V
 | .agg vs=>if one then vs[off]? else match cut vs off n with
  |some l=>Wf (.agg l)
  |none=>Vc
 |_=>Vc
def bC(h:Hp)(n:Nat):V->V->Option V
 |.d (.sl len cs),.d (.int _ i)=>if 0<=i∧i<len∧RW cs=len*n then Wf (.dptr cs (i.toNat*n))else Vc
 | .ref s e off len cap tot,.d (.int _ i)=>match aH h s e with
  |.data m cs _ _=>if tot=RW cs∧0<=i∧i<len then Wf (.ptr s e (off+i.toNat*n) tot)else Vc
  |.vars cs=>if tot=RW cs∧0<=i∧i<len then Wf (.ptr s e (off+i.toNat*n) tot)else Vc
  |_=>Vc
 |_,_=>Vc
def m5(len n:Nat):V->V->Option V
 |.ptr s e off tot,.d (.int _ i)=>if 0<=i∧i<len then Wf (.ptr s e (off+i.toNat*n) tot)else Vc
 |.dptr cs off,.d (.int _ i)=>if 0<=i∧i<len then Wf (.dptr cs (off+i.toNat*n))else Vc
 |_,_=>Vc
def fF:V->V->Option V
 | .d (.str s),.d (.int _ i)=>if 0<=i then match s[i.toNat]? with
  |some b=>Wf (.d (.int .u8 b.toNat))
  |none=>Vc else Vc
 |_,_=>Vc
def MI(len n:Nat)(one:Bool):V->V->Option V
 |.agg vs,.d (.int _ i)=>if 0<=i∧i<len then D5 (i.toNat*n) n one (.agg vs)else Vc
 |_,_=>Vc
def ld1(h:Hp):V->Option V
 | .ptr s e off tot=>match aH h s e with
  |.vars cs=>if tot=RW cs then cs[off]? else Vc
  | .data _ cs _ _=>if tot=RW cs then match cs[off]? with
   |some x=>Wf (.d x)
   |none=>Vc else Vc
  |.none=>Vc
 | .dptr cs pos=>match cs[pos]? with
  |some x=>Wf (.d x)
  |none=>Vc
 |_=>Vc
def aG(h:Hp)(n:Nat):V->Option V
 | .ptr s e off tot=>match aH h s e with
  | .vars cs=>if tot=RW cs then match cut cs off n with
   |some l=>Wf (.agg l)
   |none=>Vc else Vc
  | .data _ cs _ _=>if tot=RW cs then match cut cs off n with
   |some l=>Wf (.agg (l.map .d))
   |none=>Vc else Vc
  |.none=>Vc
 | .dptr cs pos=>match cut cs pos n with
  |some l=>Wf (.agg (l.map .d))
  |none=>Vc
 |_=>Vc
def jk(h:Hp)(s e off tot:Nat)(vs:List V):Option Hp:=match aH h s e with
 |.vars cs=>if tot=RW cs∧off+RW vs<=RW cs∧vs.all okV=Th then Wf (bP h s e (.vars (cs.take off++vs++cs.drop (off+RW vs))))else Vc
 | .data _ _ _ _=>match d8 h vs with
  | some (xs,h')=>match aH h' s e with
   |.data n cs ex fr=>if fr=SM∧tot=RW cs∧off+RW xs<=RW cs then Wf (bP h' s e (.data n (cs.take off++xs++cs.drop (off+RW xs)) ex SM))else Vc
   |_=>Vc
  |none=>Vc
 |.none=>Vc
def st(h:Hp)(n:Nat)(p v:V):Option Hp:=match p,v with
 |.ptr s e off tot,.agg vs=>if RW vs=n then jk h s e off tot vs else Vc
 |.ptr s e off tot,v=>if n=1 then jk h s e off tot [v]else Vc
 |_,_=>Vc
def aS(h:Hp)(n:Nat)(p v:V)(k:V->Hp->Prop):Prop:=match st h n p v with
 |some h'=>k .junk h'
 |none=>False
def new(h:Hp)(s:Nat)(b:Bk)(k:Nat->Hp->Prop):Prop:=match h[s]? with
 |some (e,_)=>k (e+1) (h.set s (e+1,b))
 |none=>False
def w9:V->Option (List V)
 |.agg vs=>Wf vs
 |.junk|.tup _|.ifc .. |.new ..=>Vc
 |v=>Wf [v]
def kz(KK:Nat->Option (Nat×Nat))(cs:List V):List (Nat×V)->Option (List V)
 |[]=>Wf cs
 | (i,v)::r=>match KK i with
  |none=>Vc
  | some (off,sz)=>match w9 v with
   |none=>Vc
   |some vs=>if RW vs=sz∧off+RW vs<=RW cs then kz KK (cs.take off++vs++cs.drop (off+RW vs)) r else Vc
def fG(fs:List (Nat×Nat))(z:List D)(ps:List (Nat×V)):Option V:=match kz (λi=>fs[i]?) (z.map .d) ps with
 |some l=>Wf (.agg l)
 |none=>Vc
def OC(n:Nat)(z:List D)(ps:List (Nat×V)):Option V:=match kz (λi=>Wf (i*n,n)) (z.map .d) ps with
 |some l=>Wf (.agg l)
 |none=>Vc
def dI(n:Nat)(z:List D):List D:=match n with
 |0=>[]
 |n+1=>z++dI n z
def cu(s:Nat)(cs:List V)(h:Hp)(k:V->Hp->Prop):Prop:=new h s (.vars cs) λe h=>k (.ptr s e 0 (RW cs)) h
def mN(s n:Nat)(cs:List D)(h:Hp)(k:V->Hp->Prop):Prop:=new h s (.data n cs Th SM) λe h=>k (.ptr s e 0 (RW cs)) h
def cD(s:Nat)(v:V)(h:Hp)(k:V->Hp->Prop):Prop:=match w9 v with
 |some cs=>cu s cs h k
 |none=>False
def cx(len:Nat)(z:List D)(ps:List (Nat×V))(h:Hp)(k:V->Hp->Prop):Prop:=
 match kz (λi=>Wf (i*RW z,RW z)) ((dI len z).map .d) ps with
 | some vs=>if 0<RW z∧len*RW z<=16777216 then match d8 h vs with
  |some (xs,h)=>k (.d (.sl len xs)) h
  |none=>False else False
 |none=>False
def kx(s len:Nat)(z:List D)(ps:List (Nat×V))(h:Hp)(k:V->Hp->Prop):Prop:=
 match kz (λi=>Wf (i*RW z,RW z)) ((dI len z).map .d) ps with
 | some vs=>if 0<RW z∧len*RW z<=16777216 then match d8 h vs with
  |some (xs,h)=>new h s (.data (RW z) xs Th SM) λe h=>k (.ref s e 0 len len (RW xs)) h
  |none=>False else False
 |none=>False
def qh(s len:Nat)(z:List D)(ps:List (Nat×V))(h:Hp)(k:V->Hp->Prop):Prop:=
 match kz (λi=>Wf (i*RW z,RW z)) ((dI len z).map .d) ps with
 |some vs=>if(0<RW z∧len*RW z<=16777216)∧RW vs=len then new h s (.vars vs) λe h=>k (.ref s e 0 len len (RW vs)) h else False
 |none=>False
def fS(s bytes:Nat)(z:List D)(h:Hp)(l c:V)(k:V->Hp->Prop):Prop:=match l,c with
 | .d (.int _ l),.d (.int _ c)=>
  if 0<=l∧l<=c∧0<RW z∧(bytes:Int)*c<=281474976710656∧c<=9223372036854775807 then
   new h s (.data (RW z) (dI c.toNat z) Th SM) λe h=>k (.ref s e 0 l.toNat c.toNat (RW (dI c.toNat z))) h
  else False
 |_,_=>False
def eG(d top:Nat):Option V->Option Nat
 |none=>Wf d
 |some (.d (.int _ i))=>if 0<=i∧i<=top then Wf i.toNat else Vc
 |some _=>Vc
def nB(x:V)(lo hi:Option V):Option V:=match x with
 | .d (.str s)=>match eG (RW s) (RW s) hi with
  | some j=>match eG 0 j lo with
   |some i=>Wf (.d (.str ((s.drop i).take (j-i))))
   |none=>Vc
  |none=>Vc
 |_=>Vc
def gU(h:Hp)(n:Nat)(x:V)(lo hi:Option V):Option V:=match x with
 | .d (.sl len cs)=>match eG len len hi with
  | some j=>match eG 0 j lo with
   |some i=>if RW cs=len*n∧0<len then Wf (.d (.sl (j-i) ((cs.drop (i*n)).take ((j-i)*n))))else Vc
   |none=>Vc
  |none=>Vc
 | .ref s e off len cap tot=>match aH h s e with
  | .data m cs _ _=>match eG len cap hi with
   | some j=>match eG 0 j lo with
    |some i=>if tot=RW cs∧len<=cap∧m=n then Wf (.ref s e (off+i*n) (j-i) (cap-i) tot)else Vc
    |none=>Vc
   |none=>Vc
  | .vars cs=>match eG len cap hi with
   | some j=>match eG 0 j lo with
    |some i=>if tot=RW cs∧len<=cap∧n=1 then Wf (.ref s e (off+i*n) (j-i) (cap-i) tot)else Vc
    |none=>Vc
   |none=>Vc
  |_=>Vc
 | .d (.pl (.slice Vc 0 0))=>match eG 0 0 hi with
  | some j=>match eG 0 j lo with
   |some _=>Wf (.d (.pl (.slice Vc 0 0)))
   |none=>Vc
  |none=>Vc
 |_=>Vc
def On:V->Option V
 |.d (.pl (.slice Vc 0 0))=>Wf (.d (.int .i64 0))
 |_=>Vc
def Kq(n:Nat)(x:V):Option V:=match x with
 |.d (.sl 0 cs)=>Wf (.d (.sl 0 []))
 |.d (.sl (len+1) cs)=>if RW cs=(len+1)*n then Wf (.cut n)else Vc
 |_=>Vc
def xH(h:Hp)(n:Nat)(x:V)(lo hi:Option V)(mx:V):Option V:=match x with
 | .ref s e off len cap tot=>match aH h s e with
  | .data m cs _ _=>match eG cap cap (Wf mx)with
   | some mm=>match eG len mm hi with
    | some j=>match eG 0 j lo with
     |some i=>if tot=RW cs∧len<=cap∧m=n∧hi.isSome=Th then Wf (.ref s e (off+i*n) (j-i) (mm-i) tot)else Vc
     |none=>Vc
    |none=>Vc
   |none=>Vc
  |_=>Vc
 | .d (.pl (.slice Vc 0 0))=>match eG 0 0 (Wf mx)with
  | some mm=>match eG 0 mm hi with
   | some j=>match eG 0 j lo with
    |some _=>if hi.isSome=Th then Wf (.d (.pl (.slice Vc 0 0)))else Vc
    |none=>Vc
   |none=>Vc
  |none=>Vc
 |_=>Vc
def Ob(h:Hp)(z:List D)(x:V)(k:V->Hp->Prop):Prop:=match x with
 | .ref s e off len cap tot=>match aH h s e with
  | .data n cs ex fr=>if 0<len∧RW z=n∧0<n∧fr=SM∧tot=RW cs∧off+RW (dI len z)<=RW cs then
    k (.tup []) (bP h s e (.data n (cs.take off++dI len z++cs.drop (off+RW (dI len z))) ex SM))else False
  |_=>False
 |_=>False
def tf(h:Hp)(n:Nat)(x y:V)(k:V->Hp->Prop):Prop:=match x with
 | .ref s e off len cap tot=>match aH h s e with
  | .data m cs ex fr=>match cellsOf h y with
   | some (j,ys)=>if(0<min j len∧m=n∧0<n∧fr=SM)∧tot=RW cs∧RW ys=j*n∧off+min j len*n<=RW cs then
     k (.d (.int .i64 (min j len:Nat))) (bP h s e (.data n (cs.take off++ys.take (min j len*n)++cs.drop (off+min j len*n)) ex SM))else False
   |none=>False
  |_=>False
 |_=>False
def nC(len n:Nat)(h:Hp)(x:V)(lo hi:Option V):Option V:=match x with
 | .ptr s e off tot=>match aH h s e with
  | .data m cs _ _=>match eG len len hi with
   | some j=>match eG 0 j lo with
    |some i=>if m=n∧tot=RW cs∧off+len*n<=RW cs then Wf (.ref s e (off+i*n) (j-i) (len-i) tot)else Vc
    |none=>Vc
   |none=>Vc
  |_=>Vc
 |_=>Vc
def kK(dr:Bool)(s n bytes:Nat)(x:V)(k:Nat)(cs:List D)(h:Hp)(q:V->Hp->Prop):Prop:=
 if k=0 then(match x with
  |.d (.sl ..)=>q x h
  |.d (.pl (.slice Vc 0 0))=>q x h
  |.cut _=>q x h
  |.ref _ _ _ len cap _=>if len<=cap then q x h else False
  |_=>False)
 else match x with
 |.d (.pl (.slice Vc 0 0))=>if k*bytes<=140737488355328 then new h s (.data n cs SM SM) λe h=>q (.ref s e 0 k k (RW cs)) h else False
 |.cut m=>if m=n∧k*bytes<=140737488355328 then new h s (.data n cs SM SM) λe h=>q (.ref s e 0 k k (RW cs)) h else False
 | .ref s' e off len cap tot=>match aH h s' e with
  | .data m old ex fr=>if m=n∧tot=RW old∧len<=cap∧off+cap*n<=RW old∧RW cs=k*n then
   if len+k<=cap then
    if fr||dr then False else q (.ref s' e off (len+k) cap tot) (bP h s' e (.data n (old.take (off+len*n)++cs++old.drop (off+(len+k)*n)) ex SM))
   else if(len+k)*bytes<=140737488355328 then
    if ex then new h s (.data n ((old.drop off).take (len*n)++cs) SM SM) λe h=>q (.ref s e 0 (len+k) (len+k) (len*n+RW cs)) h
    else if fr||dr then False
    else if off+cap*n=RW old∧RW old<len*n+RW cs then q (.ref s' e 0 (len+k) (len+k) (len*n+RW cs)) (bP h s' e (.data n ((old.drop off).take (len*n)++cs) SM SM))
    else if off+cap*n<RW old then new h s (.data n ((old.drop off).take (len*n)++cs) SM SM) λe h=>q (.ref s e 0 (len+k) (len+k) (len*n+RW cs)) h
    else False
   else False
   else False
  |_=>False
 |_=>False
def cV(dr:Bool)(s n bytes:Nat)(x y:V)(h:Hp)(q:V->Hp->Prop):Prop:=match y with
 |.d (.str t)=>if n=1 then kK dr s n bytes x (RW t) (t.map λb=>.int .u8 b.toNat) h q else False
 | y=>match cellsOf h y with
  |some (k,cs)=>if RW cs=k*n then kK dr s n bytes x k cs h q else False
  |none=>False
def qC(h:Hp):V->Option (Nat×List V)
 | .ref s e off len cap tot=>match aH h s e with
  |.vars cs=>if tot=RW cs∧off+len<=RW cs then Wf (len,(cs.drop off).take len)else Vc
  |_=>Vc
 |_=>Vc
def nf(dr:Bool)(s n bytes:Nat)(x y:V)(h:Hp)(q:V->Hp->Prop):Prop:=match qC h y with
 | some (k,vs)=>if vs.all okV=Th∧0<k∧n=1 then(match x with
  |.d (.pl (.slice Vc 0 0))=>if k*bytes<=140737488355328 then new h s (.vars vs) λe h=>q (.ref s e 0 k k (RW vs)) h else False
  | .ref s' e off len cap tot=>match aH h s' e with
   | .vars old=>if dr=SM∧tot=RW old∧len<=cap∧off+cap<=RW old then
     (if len+k<=cap then q (.ref s' e off (len+k) cap tot) (bP h s' e (.vars (old.take (off+len)++vs++old.drop (off+len+k))))
     else if(len+k)*bytes<=140737488355328∧off+cap=RW old∧RW old<len+k then q (.ref s' (e+1) 0 (len+k) (len+k) (len+k)) (h.set s' (e+1,.vars ((old.drop off).take len++vs)))
     else False)else False
   |_=>False
  |_=>False)else False
 |none=>False
def qw(dr:Bool)(s n bytes:Nat)(z:List D)(x y:V)(h:Hp)(q:V->Hp->Prop):Prop:=match y with
 |.d (.int _ k)=>if 0<=k∧k*bytes<=140737488355328 then kK dr s n bytes x k.toNat (dI k.toNat z) h q else False
 |_=>False
abbrev rM:=fI->List V->V->Prop
abbrev rL:=fI->List V->Hp->V->Hp->Prop
structure CC where
 p:rM
 i:rL
def bp(C:rM)(h:Hp)(c:V)(args:List V)(k:V->Hp->Prop):Prop:=match c with
 | .fn g fs cs=>match bY h (fs++args++cs)with
  |some (ds,h')=>∃v,C g ds v∧k v (if fk v then h else h')
  |none=>False
 |_=>False
def eQ(D:rL)(h:Hp)(c:V)(args:List V)(s:Nat)(k:V->Hp->Prop):Prop:=match c with
 | .fn g fs cs=>∃v h',D g (fs++args++cs) h v h'∧(match v with
  |.new n cells ex len cap=>new h' s (.data n cells ex SM) λe h=>k (.ref s e 0 len cap (RW cells)) h
  |.cut _=>False
  |.tup [.new n cells ex len cap,.d y]=>new h' s (.data n cells ex SM) λe h=>k (.tup [.ref s e 0 len cap (RW cells),.d y]) h
  |.tup [.new n cells ex len cap]=>new h' s (.vars (cells.map .d)) λe h=>k (.ptr s e 0 (RW cells)) h
  |.tup [.tup [.new n cells ex len cap],.d y]=>new h' s (.vars (cells.map .d)) λe h=>k (.tup [.ptr s e 0 (RW cells),.d y]) h
  |v=>k v h')
 |_=>False
def Oq(D:rL)(h:Hp)(c:V)(args:List V)(s:Nat)(k:V->Hp->Prop):Prop:=match c with
 | .fn g fs cs=>match bY h (fs++args++cs)with
  | some (ds,h1)=>∃v,D g ds [] v []∧(match v with
   |.new n cells ex len cap=>new h1 s (.data n cells ex SM) λe h=>k (.ref s e 0 len cap (RW cells)) h
   |.cut n=>k (.d (.pl (.slice Vc 0 0))) h1∧new h1 s (.data n [] Th SM) λe h=>k (.ref s e 0 0 0 0) h
   |.d x=>k (.d x) h1
   |_=>False)
  |none=>False
 |_=>False
inductive Act where
 |o
 |slot (s:Nat)
 |inl (s:Nat)
 /-- values in a slot,slices among them -/
 |val (s:Nat)
 /-- in Wf slot -/
 |anyS
 |anyI
 |anyV
abbrev OT(a:Act)(f:Act->Prop):Prop:=match a with
 |.anyS=>∃s,f (.slot s)
 |.anyI=>∃s,f (.inl s)
 |.anyV=>∃s,f (.val s)
 |a=>f a
theorem aqm{a:Act}{f:Act->Prop}(h:OT a f):∃b,f b:=by
 unfold OT at h;split at h
 .obtain⟨s,h⟩:=h;exact⟨_,h⟩
 .obtain⟨s,h⟩:=h;exact⟨_,h⟩
 .obtain⟨s,h⟩:=h;exact⟨_,h⟩
 .exact⟨_,h⟩
def anyS(f:Nat->Prop):Prop:=∃s,f s
inductive Gh where
 |opn (s:Nat)
 |cls (s:Nat)
inductive nY where
 |x
 |g (l:List Gh)
 /-- a temporary becomes data -/
 |f (t:Nat)
 |j (outs keep:ax)
 |l (ins inv:ax) (exs:List (eX×ax×ax)) (Pc:ax)
 |r (acts:List Act)
 |d
inductive cr where
 |o
 |n (i:nY) (l r:cr)
def cr.i:cr->nY
 |.o=>.x
 |.n i _ _=>i
def cr.a:cr->cr
 |.o=>.o
 |.n _ x _=>x
def cr.b:cr->cr
 |.o=>.o
 |.n _ _ x=>x
def nY.acts:nY->List Act
 |.r acts=>acts
 |_=>[]
def ev(Y:eu)(RK:Env):oP->V
 |.tmp t=>lk RK t
 |.const v=>lit v
 | .global g=>match Y.glob g with
  |some cs=>.dptr cs 0
  |none=>.junk
 |.func f=>.fn f [] []
def D9(Y:eu)(RK:Env)(x:oP)(k:V->Prop):Prop:=match x with
 |.tmp t=>Bl RK t k
 |x=>k (ev Y RK x)
def D8(Y:eu)(RK:Env):List oP->(List V->Prop)->Prop
 |[],k=>k []
 |x::l,k=>D9 Y RK x λv=>D8 Y RK l λvs=>k (v::vs)
def sR:Ty->Option Bool
 |.st _|.ar ..=>Wf Th
 |.o=>Vc
 |_=>Wf SM
def HQ:Ty->Bool
 |.sl _|.s=>Th
 |_=>SM
def isInt:Ty->Bool
 |.i _=>Th
 |_=>SM
def yd(Y:eu)(C:CC)(dr:Bool)(LT:Act)(o:oR)(RK:Env)(h:Hp)(k:V->Hp->Prop):Prop:=
 match o.op with
 |.move x=>D9 Y RK x λv=>k v h
 |.assign x=>D9 Y RK x λv=>k v h
 |.pick c x y=>bnd (kU (ev Y RK c) (ev Y RK x) (ev Y RK y)) λv=>k v h
 | .alloc t=>match LT with
  | .slot s=>match(Y.ty t).k with
   |.ar _ e=>mN s (Y.ty e).sz (Y.ty t).z h k
   |_=>cu s ((Y.ty t).z.map .d) h k
  |_=>False
 | .box _ x=>match LT with
  |.slot s=>cD s (ev Y RK x) h k
  |_=>False
 | .build t ps=>match(Y.ty t).k with
  |.st fs=>bnd (fG fs (Y.ty t).z (ps.toList.map λp=>(p.1,ev Y RK p.2))) λv=>k v h
  |.ar _ e=>bnd (OC (Y.ty e).sz (Y.ty t).z (ps.toList.map λp=>(p.1,ev Y RK p.2))) λv=>k v h
  |_=>False
 | .buildSlice t len ps=>match(Y.ty t).k with
  | .sl e=>match LT with
   |.slot s=>kx s len (Y.ty e).z (ps.toList.map λp=>(p.1,ev Y RK p.2)) h k
   |.val s=>qh s len (Y.ty e).z (ps.toList.map λp=>(p.1,ev Y RK p.2)) h k
   |_=>cx len (Y.ty e).z (ps.toList.map λp=>(p.1,ev Y RK p.2)) h k
  |_=>False
 | .load t x=>match sR (Y.ty t).k with
  |some Th=>bnd (aG h (Y.ty t).sz (ev Y RK x)) λv=>k v h
  |some SM=>bnd (ld1 h (ev Y RK x)) λv=>k v h
  |none=>False
 |.store t x y=>aS h (Y.ty t).sz (ev Y RK x) (ev Y RK y) k
 |.nilCheck x=>bnd (ik 0 (ev Y RK x)) λv=>k v h
 | .binOp op t x y _=>match(Y.ty t).k with
  |.i _=>bnd (aD op (ev Y RK x) (ev Y RK y)) λv=>k v h
  |.b=>bnd (jE op (ev Y RK x) (ev Y RK y)) λv=>k v h
  |.s=>bnd (j7 op (ev Y RK x) (ev Y RK y)) λv=>k v h
  |.sl _=>qe h op (ev Y RK x) (ev Y RK y) λv=>k v h
  | .it=>match y with
   |.const _=>bnd (pI op (ev Y RK x) (ev Y RK y)) λv=>k v h
   |_=>False
  | .st _=>match(Y.ty t).eq with
   |true=>bnd (pJ (Y.ty t).z op (ev Y RK x) (ev Y RK y)) λv=>k v h
   |false=>False
  |_=>False
 |.unOp op _ x=>bnd (gL op (ev Y RK x)) λv=>k v h
 | .convert s d x=>match(Y.ty s).k,(Y.ty d).k with
  |.i _,.i kd=>bnd (ft kd (ev Y RK x)) λv=>k v h
  |.s,.s=>bnd (N8 (ev Y RK x)) λv=>k v h
  |.sl _,.s=>bnd (nP h (ev Y RK x)) λv=>k v h
  |.s,.sl _=>oG (ev Y RK x) h k
  |_,_=>False
 |.makeFunc (.func f) x y=>D8 Y RK x.toList λx=>D8 Y RK y.toList λy=>k (.fn f x y) h
 | .makeSlice t l c=>match(Y.ty t).k,LT with
  |.sl e,.slot s=>fS s (Y.ty e).bytes (Y.ty e).z h (ev Y RK l) (ev Y RK c) k
  |_,_=>False
 | .slice t x lo hi mx=>match(Y.ty t).k with
  | .s=>match mx with
   |none=>bnd (nB (ev Y RK x) (lo.map (ev Y RK)) (hi.map (ev Y RK))) λv=>k v h
   |_=>False
  | .sl e=>match mx with
   |none=>bnd (gU h (Y.ty e).sz (ev Y RK x) (lo.map (ev Y RK)) (hi.map (ev Y RK))) λv=>k v h
   | some (.const (.int .i64 0))=>match lo,hi with
    |none,Wf (.const (.int .i64 0))=>bnd (Kq (Y.ty e).sz (ev Y RK x)) λv=>k v h
    |_,_=>False
   |some mx=>bnd (xH h (Y.ty e).sz (ev Y RK x) (lo.map (ev Y RK)) (hi.map (ev Y RK)) (ev Y RK mx)) λv=>k v h
  | .ar len e=>match mx with
   |none=>bnd (nC len (Y.ty e).sz h (ev Y RK x) (lo.map (ev Y RK)) (hi.map (ev Y RK))) λv=>k v h
   |_=>False
  |_=>False
 | .fieldAddr t x f=>match(Y.ty t).k with
  | .st fs=>match fs[f]? with
   |some (off,_)=>bnd (ik off (ev Y RK x)) λv=>k v h
   |none=>False
  |_=>False
 | .field t x f=>match(Y.ty t).k with
  | .st fs=>match fs[f]? with
   |some (off,sz)=>bnd (D5 off sz (Nat.beq sz 1) (ev Y RK x)) λv=>k v h
   |none=>False
  |_=>False
 | .indexAddr t x i=>match(Y.ty t).k with
  |.sl e=>bnd (bC h (Y.ty e).sz (ev Y RK x) (ev Y RK i)) λv=>k v h
  |.ar len e=>bnd (m5 len (Y.ty e).sz (ev Y RK x) (ev Y RK i)) λv=>k v h
  |_=>False
 | .index t x i=>match(Y.ty t).k with
  |.s=>bnd (fF (ev Y RK x) (ev Y RK i)) λv=>k v h
  |.ar len e=>bnd (MI len (Y.ty e).sz (Nat.beq (Y.ty e).sz 1) (ev Y RK x) (ev Y RK i)) λv=>k v h
  |_=>False
 |.extract x i=>ext (ev Y RK x) i λv=>k v h
 | .call c=>match c.callee with
  | .value f=>match LT with
   | .inl s=>match dr with
    |true=>Oq C.i h (ev Y RK f) (c.args.toList.map (ev Y RK)) s k
    |false=>eQ C.i h (ev Y RK f) (c.args.toList.map (ev Y RK)) s k
   |_=>bp C.p h (ev Y RK f) (c.args.toList.map (ev Y RK)) k
  | .builtin .len=>match(Y.ty (c.argTypes.getD 0 0)).k with
   |.s=>bnd (fv (ev Y RK (c.args.getD 0 (.tmp 0)))) λv=>k v h
   |.sl _=>bnd (bh (ev Y RK (c.args.getD 0 (.tmp 0)))) λv=>k v h
   |.ar n _=>k (.d (.int .i64 n)) h
   |_=>False
  | .builtin .cap=>match(Y.ty (c.argTypes.getD 0 0)).k with
   |.sl _=>bnd (On (ev Y RK (c.args.getD 0 (.tmp 0)))) λv=>k v h
   |_=>False
  | .builtin .clear=>match(Y.ty (c.argTypes.getD 0 0)).k,dr with
   | .sl e,SM=>match sR (Y.ty e).k with
    |none=>False
    |some _=>Ob h (Y.ty e).z (ev Y RK (c.args.getD 0 (.tmp 0))) k
   |_,_=>False
  | .builtin .copy=>match(Y.ty (c.argTypes.getD 0 0)).k,dr with
   | .sl e,SM=>match sR (Y.ty e).k with
    |none=>False
    |some _=>tf h (Y.ty e).sz (ev Y RK (c.args.getD 0 (.tmp 0))) (ev Y RK (c.args.getD 1 (.tmp 0))) k
   |_,_=>False
  |.builtin .max=>bnd (gk Th (c.args.toList.map (ev Y RK))) λv=>k v h
  |.builtin .min=>bnd (gk SM (c.args.toList.map (ev Y RK))) λv=>k v h
  | .builtin .append=>match(Y.ty (c.argTypes.getD 0 0)).k,LT with
   | .sl e,.slot s=>match HQ (Y.ty (c.argTypes.getD 1 0)).k with
    | false=>match isInt (Y.ty (c.argTypes.getD 1 0)).k with
     |false=>False
     |true=>qw dr s (Y.ty e).sz (Y.ty e).bytes (Y.ty e).z (ev Y RK (c.args.getD 0 (.tmp 0))) (ev Y RK (c.args.getD 1 (.tmp 0))) h k
    |true=>cV dr s (Y.ty e).sz (Y.ty e).bytes (ev Y RK (c.args.getD 0 (.tmp 0))) (ev Y RK (c.args.getD 1 (.tmp 0))) h k
   | .sl e,.val s=>match HQ (Y.ty (c.argTypes.getD 1 0)).k with
    |false=>False
    |true=>nf dr s (Y.ty e).sz (Y.ty e).bytes (ev Y RK (c.args.getD 0 (.tmp 0))) (ev Y RK (c.args.getD 1 (.tmp 0))) h k
   |_,_=>False
  |_=>False
 |_=>False
def Em(RM:List oR)(RK:Env)(j:Nat):V:=match RM[j]? with
 | some o=>match o.dst with
  |some t=>lk RK t
  |none=>.junk
 |none=>.junk
def takes:Op->Bool
 |.alloc _|.box .. |.buildSlice .. |.makeSlice ..=>Th
 | .call c=>match c.callee with
  |.builtin .append=>Th
  |.value _=>Th
  |_=>SM
 |_=>SM
def ic:Bool->List Act->Act
 |true,a::_=>a
 |_,_=>.o
def OS:Bool->List Act->List Act
 |true,_::l=>l
 |_,l=>l
abbrev tk(t:Bool)(acts:List Act)(k:Act->List Act->Prop):Prop:=match t with
 | true=>(match acts with
  |a::l=>k a l
  |[]=>k .o [])
 |false=>k .o acts
theorem adA(t:Bool)(acts:List Act)(k:Act->List Act->Prop):tk t acts k=k (ic t acts) (OS t acts):=by cases t<;>cases acts<;>rfl
def xk(P:pG)(RM:Array oR)(i:Nat):List (oR×Nat)->List Tmp
 |[]=>[]
 | (x,j)::l=>match iz P x.op&&oT RM i j with
  | true=>match x.op with
   | .load _ (.tmp p)=>(match qK RM p with
    |some b=>b::xk P RM i l
    |none=>xk P RM i l)
   |_=>xk P RM i l
  |false=>xk P RM i l
def GI(P:pG)(RM:Array oR)(i:Nat)(op:Op):Bool:=match zG RM op with
 | true=>RM.toList.zipIdx.all λ(x,j)=>!(iz P x.op&&oT RM i j)||match x.op with
  |.load _ (.tmp p)=>(qK RM p).isSome
  |_=>SM
 |false=>SM
def Nw(P:pG)(dr:Bool)(RM:Array oR)(o:oR)(r:List oR):Bool:=dr&&oI P RM (RM.size-(RW r+1)) o && !GI P RM (RM.size-(RW r+1)) o.op
def Nv(P:pG)(dr:Bool)(RM:Array oR)(o:oR)(r:List oR):List Tmp:=match dr&&zG RM o.op with
 |true=>xk P RM (RM.size-(RW r+1)) RM.toList.zipIdx
 |false=>[]
def CG(o:oR)(RK:Env):V:=match o.op with
 |.store _ (.tmp p) _=>lk RK p
 | .call c=>match c.args.toList with
  |.tmp p::_=>lk RK p
  |_=>.junk
 |_=>.junk
def ownB(h:Hp)(s e tot:Nat):Bool:=match aH h s e with
 |.vars cs=>Nat.beq (RW cs) tot
 |_=>SM
def AU(h:Hp)(s e tot:Nat):Bool:=match aH h s e with
 |.data _ cs _ SM=>Nat.beq (RW cs) tot
 |_=>SM
def Ey(h:Hp):V->V->Bool
 |.ptr s e _ tot,.ptr s' e' _ tot'=>!(Nat.beq s s')&&ownB h s e tot&&ownB h s' e' tot'
 |.ref s e _ _ _ tot,.ptr s' e' _ tot'=>!(Nat.beq s s')&&AU h s e tot&&ownB h s' e' tot'
 |.d (.pl (.slice Vc _ _)),.ptr s' e' _ tot'=>ownB h s' e' tot'
 |_,_=>SM
def sp(h:Hp)(x:V):List V->Prop->Prop
 |[],k=>k
 | y::l,k=>match Ey h x y with
  |true=>sp h x l k
  |false=>False
def Fq(h:Hp):V->V->Bool
 |.ptr s e _ tot,.ptr s' e' _ tot'=>Nat.beq s s'&&Nat.beq e e'&&Nat.beq tot tot'&&ownB h s e tot
 |_,_=>SM
def sm(h:Hp)(x y:V)(k:Prop):Prop:=match Fq h x y with
 |true=>k
 |false=>False
def gt(P:pG)(dr:Bool)(RM:Array oR)(o:oR)(RK:Env)(h:Hp)(k:Prop):Prop:=match dr with
 | true=>(match o.op with
  | .load _ (.tmp p)=>(match nK RM p with
   | true=>(match qK RM p with
    | some b=>(match uh P RM with
     |true=>sm h (lk RK b) (lk RK p) k
     |false=>k)
    |none=>k)
   |false=>k)
  |_=>k)
 |false=>k
def vn(C:rM)(h:Hp)(c:V)(args:List V)(k:V->Hp->Prop):Prop:=match c with
 | .fn g [] []=>(match p6 args with
  |true=>∃v,C g args v∧k v h
  |false=>False)
 |_=>False
def J9(Y:eu)(C:CC)(o:oR)(RK:Env)(h:Hp)(k:V->Hp->Prop):Prop:=match o.op with
 | .call c=>(match c.callee with
  |.value f=>vn C.p h (ev Y RK f) (c.args.toList.map (ev Y RK)) k
  |_=>False)
 |_=>False
def GF(Y:eu)(C:CC)(dr:Bool)(RM:Array oR)(LT:Act)(o:oR)(r:List oR)(RK:Env)(h:Hp)(k:V->Hp->Prop):Prop:=
 gt Y.X.P dr RM o RK h (sp h (CG o RK) ((Nv Y.X.P dr RM o r).map (lk RK)) (match dr&&od RM (RM.size-(RW r+1)) o.op with
  |true=>J9 Y C o RK h k
  |false=>OT LT λLT=>yd Y C (Nw Y.X.P dr RM o r) LT o RK h k))
def tZ(Y:eu)(C:CC)(dr:Bool)(RM:Array oR):List Act->List oR->Env->Hp->(Env->Hp->Prop)->Prop
 |_,[],RK,h,k=>k RK h
 | acts,o::r,RK,h,k=>tk (takes o.op) acts λa acts=>
  match o.guard with
  |none=>GF Y C dr RM a o r RK h λv h=>tZ Y C dr RM acts r (Gn RK o.dst v) h k
  |some (j,w)=>gd (Em RM.toList RK j) w h (GF Y C dr RM a o r RK h) λv h=>tZ Y C dr RM acts r (Gn RK o.dst v) h k
def zu:List oR->ax
 |[]=>[]
 | o::l=>match o.dst with
  |some t=>t::zu l
  |none=>zu l
def kJ:Code->ax
 |.region _ RM _=>zu RM.toList
 |.seq a b=>kJ a++kJ b
 |.cond _ a b=>kJ a++kJ b
 |.block _ a|.loop a|.scope a=>kJ a
 |_=>[]
def wi(asF:ax):ax->Bool
 |[]=>Th
 |t::l=>!(asF.any (Nat.beq t))&&wi asF l
def AX(asF:ax):nY->Bool
 |.j _ keep=>wi asF keep
 |.l _ inv exs _=>wi asF inv&&exs.all λe=>wi asF e.2.2
 |_=>Th
def yP:Op->Bool
 |.call c=>!py c.callee
 |_=>SM
def lh:Op->Bool
 | .call c=>match c.callee with
  |.builtin .append=>Th
  |_=>SM
 |_=>SM
def GK(P:pG)(RM:Array oR):Bool:=RM.toList.zipIdx.all λ(o,i)=>!oI P RM i o||lh o.op||yP o.op||GI P RM i o.op
def MM:nY->Bool
 |.d=>Th
 |_=>SM
def js(P:pG):Code->cr->Bool
 |.region _ RM draw,a=>!draw||MM a.i||GK P RM
 |.seq x y,a=>js P x a.a&&js P y a.b
 |.cond c x y,a=>AX (kJ (.cond c x y)) a.i&&js P x a.a&&js P y a.b
 |.block _ c,a=>AX (kJ c) a.i&&js P c a.a
 |.loop c,a=>AX (kJ c) a.i&&js P c a.a
 |.rangeFunc _ _ x y,a=>js P x a.a&&js P y a.b
 |.scope c,a=>js P c a.a
 |_,_=>Th
def jn(k:List V->Hp->Prop)(T:(List V->Hp->Prop)->Prop):Prop:=T k
def D7:eX->eX->Bool
 |.exit i,.exit j=>Nat.beq i j
 |.ret,.ret=>Th
 |.normal,.normal=>Th
 |_,_=>SM
def aU:List (eX×(List V->Hp->Prop))->KL
 |[],_,_,_=>False
 | (e,q)::r,ex,l,h=>match D7 e ex with
  |true=>q l h
  |false=>aU r ex l h
def De:List (eX×ax×ax)->eX->ax
 |[],_=>[]
 | (e,o,_)::r,ex=>match D7 e ex with
  |true=>o
  |false=>De r ex
def fC:ax->Nat->Bool
 |[],_=>Th
 |t::l,s=>!(Nat.beq t s)&&fC l s
mutual
def gZ(Pc:ax):V->Bool
 |.ref s ..=>fC Pc s
 |.ptr s ..=>fC Pc s
 |.agg l|.tup l=>fK Pc l
 |.fn _ x y=>fK Pc x&&fK Pc y
 |.ifc _ x=>gZ Pc x
 |_=>Th
def fK(Pc:ax):List V->Bool
 |[]=>Th
 |x::l=>gZ Pc x&&fK Pc l
end
def offB(Pc:ax):Bk->Bool
 |.vars l=>fK Pc l
 |_=>Th
def dl(Pc:ax):Nat->Hp->Hp->Hp
 |_,[],h=>h
 |_,_,[]=>[]
 |i,(e0,_)::h0,(e,b)::h=>(if fC Pc i then(e,b)else(e0,.none))::dl Pc (i+1) h0 h
def iq(Pc:ax):Nat->Hp->Bool
 |_,[]=>Th
 |i,(_,b)::h=>(!fC Pc i||offB Pc b)&&iq Pc (i+1) h
def clean(Pc:ax)(l:List V)(h:Hp):Bool:=fK Pc l&&iq Pc 0 h
abbrev bK:=List V->Hp->KL->Prop
def Dt(Pc:ax)(h0:Hp)(I:List V->Hp->Prop)(k:KL):KL:=λex l h=>match ex with
 |.normal=>clean Pc l h=Th∧I l (dl Pc 0 h0 h)
 |ex=>k ex l h
def lp(step:bK)(Pc:ax)(h0:Hp)(l:List V)(h:Hp)(k:KL):Prop:=
 ∀I:List V->Hp->Prop,(∀l h,(∃q:KL,step l h q∧∀ex l' h',q ex l' h'->Dt Pc h0 I k ex l' h')->I l h)->I l h
abbrev zy:=List V->Hp->(eX->Hp->Prop)->Prop
def rg(n:Nat)(step:zy)(Pc:ax)(h0:Hp)(k:eX->Hp->Prop):List au->Hp->Prop
 |[],h=>k .normal h
 | x::xs,h=>RW x=n∧step (x.map λv=>.d (dL v)) h λex h'=>match ex with
  |.normal=>iq Pc 0 h'=Th∧rg n step Pc h0 k xs (dl Pc 0 h0 h')
  |ex=>k ex h'
def xY(o:Option (List au))(n:Nat)(step:zy)(Pc:ax)(h:Hp)(k:eX->Hp->Prop):Prop:=match o with
 |some xs=>rg n step Pc h k xs h
 |none=>False
def CH(sq:fI->List V->Option (List au)):V->Option (List au)
 |.fn g [] cs=>sq g cs
 |_=>Vc
def seqK(k:K)(n:Env->Hp->Prop):K:=λex RK h=>match ex with
 |.normal=>n RK h
 |ex=>k ex RK h
def aaR(id:Nat)(k:K):K:=λex RK h=>match ex with
 | .exit j=>match Nat.beq j id with
  |true=>k .normal RK h
  |false=>k (.exit j) RK h
 |ex=>k ex RK h
def wE:nY->ax
 |.l i _ _ _=>i
 |_=>[]
def yQ:nY->ax
 |.l _ i _ _=>i
 |_=>[]
def uF:nY->List (eX×ax×ax)
 |.l _ _ e _=>e
 |_=>[]
def Ep:nY->ax
 |.l _ _ _ c=>c
 |_=>[]
def ad8(i:nY)(k:KL):K:=λex RK h=>match ex with
 |.normal=>k .normal ((wE i).map (lk RK)) h
 |ex=>k ex ((De (uF i) ex).map (lk RK)) h
def M0(g:Gh)(h:Hp):Option Hp:=match g with
 | .opn s=>match h[s]? with
  |some (e,.data n cs ex SM)=>if(ex||Nat.beq n 1)=Th then Wf (bP h s e (.vars (cs.map .d)))else Vc
  |_=>Vc
 | .cls s=>match h[s]? with
  | some (e,.vars vs)=>match d8 h vs with
   | some (ds,h1)=>match aH h1 s e with
    |.vars _=>Wf (bP h1 s e (.vars (ds.map .d)))
    |_=>Vc
   |none=>Vc
  |_=>Vc
def H7:List Gh->Hp->(Hp->Prop)->Prop
 |[],h,k=>k h
 | g::l,h,k=>match M0 g h with
  |some h'=>H7 l h' k
  |none=>False
def WW(v:V)(h:Hp)(k:V->Hp->Prop):Prop:=match dX h v with
 |some (x,h')=>k (.d x) h'
 |none=>False
def H6(i:nY)(RK:Env)(h:Hp)(k:Env->Hp->Prop):Prop:=match i with
 |.g l=>H7 l h λh=>k RK h
 |.f t=>Bl RK t λv=>WW v h λv h=>k ((t,v)::RK) h
 |_=>k RK h
def wrap(i:nY)(RK:Env)(k:K)(T:K->Prop):Prop:=match i with
 | .j outs keep=>jn (λl h=>wC RK keep λe=>ya e outs 0 l λe=>k .normal e h) λq=>T λex JT h=>match ex with
  |.normal=>q (outs.map (lk JT)) h
  |ex=>k ex JT h
 |_=>T k
def den(Y:eu)(C:CC):Code->cr->Env->Hp->K->Prop
 |.skip,_,RK,h,k=>k .normal RK h
 |.label _,_,RK,h,k=>k .normal RK h
 | .region _ RM draw,a,RK,h,k=>match a.i with
  |.d=>False
  |i=>tZ Y C draw RM i.acts RM.toList RK h (k .normal)
 |.seq x y,a,RK,h,k=>den Y C x a.a RK h (seqK k λRK h=>H6 a.i RK h λRK h=>den Y C y a.b RK h k)
 |.cond c x y,a,RK,h,k=>wrap a.i RK k λk=>aQ (ev Y RK c) (den Y C x a.a RK h k) (den Y C y a.b RK h k)
 |.block id c,a,RK,h,k=>wrap a.i RK k λk=>den Y C c a.a RK h (aaR id k)
 | .loop c,a,RK,h,k=>wC RK (yQ a.i) λe0=>lp (λl h q=>ya e0 (wE a.i) 0 l λe=>den Y C c a.a e h (ad8 a.i q)) (Ep a.i) h ((wE a.i).map (lk RK)) h
   (aU ((uF a.i).map λx=>(x.1,λl h=>wC RK x.2.2 λe=>ya e x.2.1 0 l λe=>k x.1 e h)))
 |.exit id,_,RK,h,k=>k (.exit id) RK h
 |.ret,_,RK,h,k=>k .ret RK h
 |.scope c,a,RK,h,k=>den Y C c a.a RK h k
 | .rangeFunc g ps x y,a,RK,h,k=>wC RK (yQ a.i) λe0=>xY (CH Y.seq (ev Y RK g)) (RW ps.toList) (λl h q=>ya e0 ps.toList 0 l λe=>den Y C x a.a e h λex RK h=>match ex with
   |.normal=>den Y C y a.b RK h λex _ h=>q ex h
   |_=>False) (Ep a.i) h λex h=>aU ((uF a.i).map λx=>(x.1,λ_ h=>wC RK x.2.2 λe=>k x.1 e h)) ex [] h
 |_,_,_,_,_=>False
def vT(Y:eu)(RK:Env)(h:Hp):ResultVar->Option V
 |.tmp t=>Wf (lk RK t)
 | .cell x t=>match sR (Y.ty t).k with
  |some Th=>aG h (Y.ty t).sz (lk RK x)
  |some SM=>ld1 h (lk RK x)
  |none=>Vc
def xZ:List (Option V)->(List V->Prop)->Prop
 |[],k=>k []
 |o::l,k=>bnd o λv=>xZ l λvs=>k (v::vs)
def qD:List V->V
 |[v]=>v
 |l=>.tup l
def tA:Nat->List V->Env
 |_,[]=>[]
 |i,x::l=>(i,x)::tA (i+1) l
def lu(Y:eu)(C:CC)(fn:Func)(m:Nat)(a:cr)(args:List V)(q:V->Hp->Prop):Prop:=match fn.body with
 | some c=>den Y C c a (tA 0 args) (So m (0,.none)) λex RK h=>match ex with
  |.normal|.ret=>xZ (fn.results.toList.map (vT Y RK h)) λl=>q (qD l) h
  |_=>False
 |none=>False
mutual
/-- No name of a slot from b on. -/
def under(b:Nat):V->Bool
 |.ref s ..=>Nat.blt s b
 |.ptr s ..=>Nat.blt s b
 |.agg l|.tup l=>jI b l
 |.fn _ x y=>jI b x&&jI b y
 |.ifc _ x=>under b x
 |.new ..=>SM
 |.junk|.d _|.dptr ..=>Th
 |.cut _=>SM
def jI(b:Nat):List V->Bool
 |[]=>Th
 |x::l=>under b x&&jI b l
end
def cj(b:Nat):Bk->Bool
 |.vars l=>jI b l
 |_=>Th
def iB(Y:eu)(C:CC)(fn:Func)(m:Nat)(a:Nat->cr)(args:List V)(h:Hp)(q:V->Hp->Prop):Prop:=match fn.body with
 | some c=>den Y C c (a (RW h)) (tA 0 args) (h++So m (0,.none)) λex RK h=>match ex with
  |.normal|.ret=>xZ (fn.results.toList.map (vT Y RK h)) λl=>q (qD l) h
  |_=>False
 |none=>False
def SA(b:Nat)(v r:V)(h:Hp):Prop:=∃s e vs ds h1,b<=s∧aH h s e=.vars vs∧d8 h vs=Wf (ds,h1)∧aH h1 s e=.vars vs∧h1.take b=h.take b ∧
 ((r=.ptr s e 0 (RW vs)∧v=.tup [.new 1 ds Th 0 0])∨∃y,r=.tup [.ptr s e 0 (RW vs),.d y]∧v=.tup [.tup [.new 1 ds Th 0 0],.d y])
def fA(b:Nat)(v:V)(h2:Hp):V->Hp->Prop:=λr h=>h2=h.take b∧(h2.all λx=>cj b x.2)=Th ∧
 ((v=r∧under b r=Th)∨(v=.d (.sl 0 [])∧∃x h',dX h r=Wf (.sl 0 x,h'))∨(∃s e len cap n cs ex,r=.ref s e 0 len cap (RW cs)∧b<=s∧aH h s e=.data n cs ex SM∧v=.new n cs ex len cap) ∨
 (∃n,v=.cut n∧(r=.d (.pl (.slice Vc 0 0))∨∃s e,r=.ref s e 0 0 0 0∧b<=s∧aH h s e=.data n [] Th SM)) ∨
 (∃s e len cap n cs ex y,r=.tup [.ref s e 0 len cap (RW cs),.d y]∧b<=s∧aH h s e=.data n cs ex SM∧v=.tup [.new n cs ex len cap,.d y]) ∨
 SA b v r h)
def ep(h:Hp)(s:Nat):Nat:=match h[s]? with
 |some (e,_)=>e
 |none=>0
def jD:Bk->Option Nat
 |.none=>Vc
 |.vars cs=>Wf (RW cs)
 |.data _ cs _ _=>Wf (RW cs)
theorem lj{h:Hp}{b:Bk}(hb:b≠.none)(hh:aH h s e=b):h[s]?=Wf (e,b):=by grind[aH]
theorem ij{h:Hp}{b:Bk}(hh:h[s]?=Wf (e,b)):aH h s e=b:=by simp[aH,hh]
theorem ald{h:Hp}(hh:aH h s e≠.none):ep h s=e:=by
 have:=lj hh rfl
 grind[ep]
theorem apr{b:Bk}(h:jD b=Wf m):b≠.none:=by rintro rfl;cases h
theorem uy{h:Hp}{b:Bk}{i:Nat}(hs:s<RW h):(bP h s e b)[i]?=if i=s then Wf (e,b)else h[i]?:=by
 unfold bP;by_cases hi:i=s
 .grind
 .rw[List.getElem?_set_ne aa,iN hi]
theorem wI(h:Hp)(s e:Nat)(b:Bk):RW (bP h s e b)=RW h:=by simp[bP]
theorem gD{α:Type}{l:List α}{i:Nat}{x:α}(h:l[i]?=Wf x):i<RW l:=by grind
def EH(H:AH)(v:vl):Prop:=v=.slice Vc 0 0∨∃c o cap,v=.slice (Wf ⟨c,o,Vc⟩) 0 cap∧∃x,H.get c=Wf x∧x.st≠0
def Fit(H:AH)(c n:Nat):Prop:=∃x,H.get c=Wf x∧(x.exact=Th∨x.esz=n)
mutual
def RD(F:Nat->Prop)(H:AH):D->vl->Prop
 |.int k n,v=>v=.int k n
 |.bool b,v=>v=.bool b
 |.str s,v=>v=.string ⟨⟨s⟩⟩
 |.pl w,v=>v=w∧plain w=Th∧okCell w=Th
 | .sl len cells,v=>(len=0∧cells=[]∧EH H v)∨(∃c o cap vs n,v=.slice (Wf ⟨c,o,Vc⟩) len cap∧0<len∧len<=cap∧0<n∧RW cells=len*n ∧
   F c∧cX H c o (RW cells)=Wf vs∧bj F H cells vs∧Fit H c n)
def bj(F:Nat->Prop)(H:AH):List D->au->Prop
 |[],l=>l=[]
 |x::xs,l=>∃v vs,l=v::vs∧RD F H x v∧bj F H xs vs
end
structure gK(F F':Nat->Prop)(H H':AH):Prop where
 fm:∀c,F c->F' c
 keep:∀c,F c->H'.get c=H.get c
 born:∀c x,H.get c=Wf x->x.st≠0->∃x',H'.get c=Wf x'∧x'.st≠0
theorem EH.mono{F F':Nat->Prop}{H H':AH}(h:gK F F' H H'){v:vl}:EH H v->EH H' v:=by
 rintro(e|⟨c,o,cap,e,x,hx,hs⟩)
 .exact .inl e
 .exact .inr ⟨c,o,cap,e,h.born c x hx hs⟩
theorem x9{H H':AH}(h:H'.get c=H.get c)(o n:Nat):cX H' c o n=cX H c o n:=by simp[cX,h]
mutual
theorem RD.mono{F F':Nat->Prop}{H H':AH}(h:gK F F' H H'):∀(x:D)(v:vl),RD F H x v->RD F' H' x v
 |.int k n,v,hv=>by trivial
 |.bool b,v,hv=>by trivial
 |.str s,v,hv=>by trivial
 |.pl w,v,hv=>by trivial
 | .sl len cells,v,hv=>by
  simp only[RD]at hv ⊢;rcases hv with⟨h1,h2,h3⟩|⟨c,o,cap,vs,n,e,hl,hc,hn,Rg,hF,hr,hd,x,hx,hf⟩
  .grind[EH.mono]
  .exact .inr ⟨c,o,cap,vs,n,e,hl,hc,hn,Rg,h.fm c hF,by grind[x9,gK.keep],bj.mono h cells vs hd,x,by grind[gK.keep],hf⟩
theorem bj.mono{F F':Nat->Prop}{H H':AH}(h:gK F F' H H'):∀(xs:List D)(vs:au),bj F H xs vs->bj F' H' xs vs
 |[],vs,hv=>by trivial
 | x::xs,vs,hv=>by
  simp[bj]at hv ⊢;obtain⟨v,us,e,h1,h2⟩:=hv;exact⟨v,us,e,RD.mono h x v h1,bj.mono h xs us h2⟩
end
mutual
def RV(φ:ax)(F:Nat->Prop)(H:AH)(h:Hp):V->vl->Prop
 |.junk,_=>True
 |.d x,v=>RD F H x v
 |.ref s e off len cap tot,v=>(∃b o,v=.slice (Wf ⟨b,o,Vc⟩) len cap)∧e<=ep h s∧∀m,jD (aH h s e)=Wf m->tot<=m∧(tot=m->v=.slice (Wf ⟨φ.getD s 0,off,Vc⟩) len cap)
 |.ptr s e off tot,v=>(∃b o,v=.pointer (Wf ⟨b,o,Vc⟩))∧e<=ep h s∧∀m,jD (aH h s e)=Wf m->tot<=m∧(tot=m->v=.pointer (Wf ⟨φ.getD s 0,off,Vc⟩))
 |.dptr cs pos,v=>∃c o vs,v=.pointer (Wf ⟨c,o+pos,Vc⟩)∧F c∧cX H c o (RW cs)=Wf vs∧bj F H cs vs
 |.cut n,v=>∃c o x,v=.slice (Wf ⟨c,o,Vc⟩) 0 0∧F c∧H.get c=Wf x∧x.st=1∧o<RW x.cells∧(x.exact=Th∨x.esz=n)
 |.agg l,v=>∃ws,v=.agg ⟨ws⟩∧aK φ F H h l ws
 |.tup l,v=>∃ws,v=.tuple ⟨ws⟩∧aK φ F H h l ws
 |.fn g fs cs,v=>∃a b,v=.func (.func g) ⟨a⟩ ⟨b⟩∧aK φ F H h fs a∧aK φ F H h cs b
 |.ifc t x,v=>∃w,v=.iface t w∧RV φ F H h x w
 |.new ..,_=>False
def aK(φ:ax)(F:Nat->Prop)(H:AH)(h:Hp):List V->au->Prop
 |[],l=>l=[]
 |x::xs,l=>∃v vs,l=v::vs∧RV φ F H h x v∧aK φ F H h xs vs
end
def fw(φ:ax)(h:Hp)(φ':ax)(h':Hp):Prop:=
 ∀s,ep h s<=ep h' s∧(ep h' s=ep h s->∀m',jD (aH h' s (ep h s))=Wf m'->∃m,jD (aH h s (ep h s))=Wf m∧m<=m'∧(m=m'->φ'.getD s 0=φ.getD s 0))
theorem fw.refl(φ:ax)(h:Hp):fw φ h φ h:=λs=>⟨Z8 _,λ_ m' hm=>⟨m',hm,Z8 _,λ_=>rfl⟩⟩
theorem fw.trans{φ φ'':ax}{h h'':Hp}(a:fw φ h φ' h')(b:fw φ' h' φ'' h''):fw φ h φ'' h'':=λs=>by
 obtain⟨a1,a2⟩:=a s;obtain⟨b1,b2⟩:=b s;refine⟨Z1 a1 b1,λhe m' hm=>?_⟩;have e1:ep h' s=ep h s:=aa;have e2:ep h'' s=ep h' s:=aa;obtain⟨m1,hm1,l1,k1⟩:=b2 e2 m' ae;obtain⟨m0,hm0,l0,k0⟩:=a2 e1 m1 ae;exact⟨m0,hm0,aa,λe=>by rw[k1 aa,k0 aa]⟩
theorem fw.use{φ φ':ax}{h h':Hp}(a:fw φ h φ' h'){s e tot:Nat}(P:Nat->Prop)
  (hv:e<=ep h s∧∀m,jD (aH h s e)=Wf m->tot<=m∧(tot=m->P (φ.getD s 0))) :
  e<=ep h' s∧∀m,jD (aH h' s e)=Wf m->tot<=m∧(tot=m->P (φ'.getD s 0)):=by obtain⟨h1,h2⟩:=hv;obtain⟨a1,a2⟩:=a s;refine⟨Z1 h1 a1,λm hm=>?_⟩;have he:ep h' s=e:=ald (apr hm);have he':ep h s=e:=aa;obtain⟨m0,hm0,l0,k0⟩:=a2 aa m ae;obtain⟨t1,t2⟩:=h2 m0 ae;exact⟨aa,λe=>by rw[k0 aa];exact t2 aa⟩
mutual
theorem RV.mono{φ φ':ax}{F F':Nat->Prop}{H H':AH}{h h':Hp}(hl:gK F F' H H')(hs:fw φ h φ' h'):∀(x:V)(v:vl),RV φ F H h x v->RV φ' F' H' h' x v
 |.junk,v,_=>by trivial
 |.d x,v,hv=>by grind[RV,RD.mono]
 | .ref s e off len cap tot,v,hv=>by
  simp only[RV]at hv ⊢;exact⟨hv.1,hs.use (λb=>v=.slice (Wf ⟨b,off,Vc⟩) len cap) hv.2⟩
 | .ptr s e off tot,v,hv=>by
  simp only[RV]at hv ⊢;exact⟨hv.1,hs.use (λb=>v=.pointer (Wf ⟨b,off,Vc⟩)) hv.2⟩
 | .dptr cs pos,v,hv=>by
  simp only[RV]at hv ⊢;obtain⟨c,o,vs,e,hF,hr,hd⟩:=hv;exact⟨c,o,vs,e,hl.fm c hF,by grind[x9,gK.keep],bj.mono hl cs vs hd⟩
 | .cut n,v,hv=>by
  simp only[RV]at hv ⊢;obtain⟨c,o,x,e,hF,hx,r⟩:=hv;exact⟨c,o,x,e,hl.fm c hF,by grind[gK.keep],r⟩
 | .agg l,v,hv=>by
  simp[RV]at hv ⊢;obtain⟨ws,e,r⟩:=hv;exact⟨ws,e,aK.mono hl hs l ws r⟩
 | .tup l,v,hv=>by
  simp[RV]at hv ⊢;obtain⟨ws,e,r⟩:=hv;exact⟨ws,e,aK.mono hl hs l ws r⟩
 | .fn g fs cs,v,hv=>by
  simp[RV]at hv ⊢;obtain⟨a,b,e,r,q⟩:=hv;exact⟨a,b,e,aK.mono hl hs fs a r,aK.mono hl hs cs b q⟩
 | .ifc t x,v,hv=>by
  simp[RV]at hv ⊢;obtain⟨w,e,r⟩:=hv;exact⟨w,e,RV.mono hl hs x w r⟩
 |.new ..,v,hv=>by trivial
theorem aK.mono{φ φ':ax}{F F':Nat->Prop}{H H':AH}{h h':Hp}(hl:gK F F' H H')(hs:fw φ h φ' h'):∀(xs:List V)(vs:au),aK φ F H h xs vs->aK φ' F' H' h' xs vs
 |[],vs,hv=>by trivial
 | x::xs,vs,hv=>by
  simp[aK]at hv ⊢;obtain⟨v,us,e,h1,h2⟩:=hv;exact⟨v,us,e,RV.mono hl hs x v h1,aK.mono hl hs xs us h2⟩
end
section
variable{φ:ax}{F:Nat->Prop}{H:AH}{h:Hp}
theorem bj.length:∀{xs:List D}{vs:au},bj F H xs vs->RW vs=RW xs
 |[],_,r=>by grind[bj]
 | x::xs,_,r=>by
  simp[bj]at r;obtain⟨v,us,rfl,_,r2⟩:=r;simp[r2.length]
theorem bj.append:∀{xs ys:List D}{vs us:au},bj F H xs vs->bj F H ys us->bj F H (xs++ys) (vs++us)
 |[],_,_,_,r,q=>by grind[bj]
 | x::xs,ys,_,us,r,q=>by
  simp[bj]at r;obtain⟨v,ws,rfl,r1,r2⟩:=r;simp only[List.cons_append,bj];exact⟨v,ws++us,rfl,r1,r2.append q⟩
theorem bj.take:∀{xs:List D}{vs:au}(n:Nat),bj F H xs vs->bj F H (xs.take n) (vs.take n)
 |[],_,n,r=>by grind[bj]
 |x::xs,_,0,r=>by rfl
 | x::xs,_,n+1,r=>by
  simp[bj]at r;obtain⟨v,us,rfl,r1,r2⟩:=r;simp only[List.take_succ_cons,bj];exact⟨v,_,rfl,r1,r2.take n⟩
theorem bj.drop:∀{xs:List D}{vs:au}(n:Nat),bj F H xs vs->bj F H (xs.drop n) (vs.drop n)
 |[],_,n,r=>by grind[bj]
 |x::xs,_,0,r=>by trivial
 | x::xs,_,n+1,r=>by
  simp[bj]at r;obtain⟨v,us,rfl,r1,r2⟩:=r;simpa using r2.drop n
theorem bj.get:∀{xs:List D}{vs:au}{i:Nat}{x:D},bj F H xs vs->xs[i]?=Wf x->∃v,vs[i]?=Wf v∧RD F H x v
 |[],_,_,_,_,e=>by simp at e
 | x::xs,_,0,y,r,e=>by
  grind[bj]
 | x::xs,_,i+1,y,r,e=>by
  simp[bj]at r;obtain⟨v,us,rfl,r1,r2⟩:=r;simp[List.getElem?_cons_succ]at e ⊢;exact r2.get e
theorem bj.okCells:∀{xs:List D}{vs:au},bj F H xs vs->vs.all okCell=Th
 |[],_,r=>by grind[bj]
 | x::xs,_,r=>by
  simp[bj]at r;obtain⟨v,us,rfl,r1,r2⟩:=r
  have:okCell v=Th:=by
   cases x<;>simp only[RD]at r1
   case pl=>grind
   case sl=>rcases r1 with⟨_,_,e|⟨c,o,cap,e,_⟩⟩|⟨c,o,cap,vs,n,e,_⟩<;>subst e<;>rfl
   all_goals(subst r1;rfl)
  simp[this,r2.okCells]
theorem aK.length:∀{xs:List V}{vs:au},aK φ F H h xs vs->RW vs=RW xs
 |[],_,r=>by grind[aK]
 | x::xs,_,r=>by
  simp[aK]at r;obtain⟨v,us,rfl,_,r2⟩:=r;simp[r2.length]
theorem aK.append:∀{xs ys:List V}{vs us:au},aK φ F H h xs vs->aK φ F H h ys us->aK φ F H h (xs++ys) (vs++us)
 |[],_,_,_,r,q=>by grind[aK]
 | x::xs,ys,_,us,r,q=>by
  simp[aK]at r;obtain⟨v,ws,rfl,r1,r2⟩:=r;simp only[List.cons_append,aK];exact⟨v,ws++us,rfl,r1,r2.append q⟩
theorem aK.take:∀{xs:List V}{vs:au}(n:Nat),aK φ F H h xs vs->aK φ F H h (xs.take n) (vs.take n)
 |[],_,n,r=>by grind[aK]
 |x::xs,_,0,r=>by rfl
 | x::xs,_,n+1,r=>by
  simp[aK]at r;obtain⟨v,us,rfl,r1,r2⟩:=r;simp only[List.take_succ_cons,aK];exact⟨v,_,rfl,r1,r2.take n⟩
theorem aK.drop:∀{xs:List V}{vs:au}(n:Nat),aK φ F H h xs vs->aK φ F H h (xs.drop n) (vs.drop n)
 |[],_,n,r=>by grind[aK]
 |x::xs,_,0,r=>by trivial
 | x::xs,_,n+1,r=>by
  simp[aK]at r;obtain⟨v,us,rfl,r1,r2⟩:=r;simpa using r2.drop n
theorem aK.get:∀{xs:List V}{vs:au}{i:Nat}{x:V},aK φ F H h xs vs->xs[i]?=Wf x->∃v,vs[i]?=Wf v∧RV φ F H h x v
 |[],_,_,_,_,e=>by simp at e
 | x::xs,_,0,y,r,e=>by
  grind[aK]
 | x::xs,_,i+1,y,r,e=>by
  simp[aK]at r;obtain⟨v,us,rfl,r1,r2⟩:=r;simp[List.getElem?_cons_succ]at e ⊢;exact r2.get e
theorem aK.ofD:∀{xs:List D}{vs:au},bj F H xs vs->aK φ F H h (xs.map .d) vs
 |[],_,r=>by trivial
 | x::xs,_,r=>by
  simp[bj]at r;obtain⟨v,us,rfl,r1,r2⟩:=r;simp only[Zv,aK];exact⟨v,us,rfl,cU,aK.ofD r2⟩
end
def Own:Bk->Prop
 |.none=>False
 |.vars _=>True
 |.data _ _ _ fr=>fr=SM
def RB(φ:ax)(F:Nat->Prop)(H:AH)(h:Hp)(b:Nat):Bk->Prop
 |.none=>True
 |.vars cs=>∃x,H.get b=Wf x∧x.st=1∧x.wr=Th∧(x.exact=Th∨x.esz=1)∧aK φ F H h cs x.cells
 |.data n cs ex fr=>∃x,H.get b=Wf x∧x.st=1∧bj F H cs x.cells∧(fr=SM∨ex=Th->x.exact=ex)∧(ex=SM->x.exact=Th∨x.esz=n)∧0<n∧(fr=Th->F b)∧(fr=SM->x.wr=Th)
def jf(H:AH)(r:Nat):Prop:=∀c x,H.get c=Wf x->x.st≠0->c≠r->x.fam≠r
structure WF(H:AH):Prop where
 len:RW H.l=H.n
 fam:∀c x,H.get c=Wf x->x.fam<=c
def OZ(G:Nat->Prop)(H:AH):Prop:=∀c x g y,H.get c=Wf x->x.st≠0->¬G c->G g->H.get g=Wf y->y.st≠0->x.fam≠y.fam
structure Inv(φ:ax)(F G:Nat->Prop)(H:AH)(h:Hp):Prop where
 len:RW φ=RW h
 blk:∀i e b,h[i]?=Wf (e,b)->RB φ F H h (φ.getD i 0) b
 lt:∀c,F c∨G c->c<H.n
 fb:∀c,F c->∃x,H.get c=Wf x∧x.st=1
 priv:∀i e b,h[i]?=Wf (e,b)->Own b->∀c,F c∨G c->c≠φ.getD i 0∧∀x y,H.get c=Wf x->H.get (φ.getD i 0)=Wf y->x.st=1->x.fam≠y.fam
 inj:∀i e b j e' b',h[i]?=Wf (e,b)->Own b->h[j]?=Wf (e',b')->Own b'->i≠j->φ.getD i 0≠φ.getD j 0∧∀x y,H.get (φ.getD i 0)=Wf x->H.get (φ.getD j 0)=Wf y->x.fam≠y.fam
 sep:OZ G H
 wf:WF H
structure Stp(G:Nat->Prop)(φ:ax)(F:Nat->Prop)(H:AH)(h:Hp)(φ':ax)(F':Nat->Prop)(H':AH)(h':Hp):Prop where
 n:H.n<=H'.n
 keep:∀c,F c∨G c->H'.get c=H.get c
 fm:∀c,F c->F' c
 fn:∀c,F' c->F c∨¬G c
 born:∀c x,H.get c=Wf x->x.st≠0->∃x',H'.get c=Wf x'∧x'.st≠0
 nokin:∀r,G r->jf H r->jf H' r
 hl:h'.length=RW h
 sl:fw φ h φ' h'
theorem Stp.refl(G:Nat->Prop)(φ:ax)(F:Nat->Prop)(H:AH)(h:Hp):Stp G φ F H h φ F H h:=
 ⟨Z8 _,λ_ _=>rfl,λ_ hc=>hc,λ_ hc=>.inl hc,λc x hx hs=>⟨x,hx,hs⟩,λ_ _ hr=>hr,rfl,fw.refl φ h⟩
theorem Stp.trans{G:Nat->Prop}{φ φ' φ'':ax}{F F' F'':Nat->Prop}{H H' H'':AH}{h h' h'':Hp}(a:Stp G φ F H h φ' F' H' h')(b:Stp G φ' F' H' h' φ'' F'' H'' h'') :
  Stp G φ F H h φ'' F'' H'' h'' where
 n:=Z1 a.n b.n
 keep c hc:=by
  rw[b.keep c (hc.imp (a.fm c) id),a.keep c hc]
 fm c hc:=b.fm c (a.fm c hc)
 fn c hc:=by
  rcases b.fn c hc with hc|hc
  .exact a.fn c hc
  grind
 born c x hx hs:=by
  grind[born]
 nokin r hr hk:=b.nokin r hr (a.nokin r hr hk)
 hl:=b.hl.trans a.hl
 sl:=a.sl.trans b.sl
theorem Stp.leF{G:Nat->Prop}{φ:ax}{F F':Nat->Prop}{H H':AH}{h:Hp}(a:Stp G φ F H h φ' F' H' h'):gK F F' H H':=
 ⟨a.fm,λc hc=>a.keep c (.inl hc),a.born⟩
section
variable{φ:ax}{F G:Nat->Prop}{H H':AH}{h:Hp}
theorem iP{i:Nat}(hs:s<RW l):(l.set s r).getD i 0=if i=s then r else l.getD i 0:=by
 by_cases hi:i=s
 .grind
 .rw[Z6,List.getElem?_set_ne aa,iN hi,Z6]
theorem set_self(hs:s<RW l):l.set s (l.getD s 0)=l:=by
 apply Ye;intro i;by_cases hi:i=s
 .grind
 .rw[List.getElem?_set_ne aa]
theorem WF.get_some(w:WF H)(hc:c<H.n):∃x,H.get c=Wf x:=by
 rw[AH.get_pos hc];have:H.n-1-c<RW H.l:=by rw[w.len];omega
 simp_all
theorem WF.push(w:WF H){x:bv}(hx:x.fam<=H.n):WF (H.push x) where
 len:=by show(x::H.l).length=H.n+1;simp[w.len]
 fam c y hy:=by
  by_cases hc:c=H.n
  .grind[AH.get_push_new]
  .rw[AH.get_push hc]at hy;exact w.fam c y hy
theorem WF.set(w:WF H){b:Nat}{x y:bv}(hy:H.get b=Wf y)(hx:x.fam<=b):WF (H.set b x) where
 len:=by show(H.l.set _ x).length=H.n;simp[w.len]
 fam c z hz:=by
  rw[AH.get_set hy]at hz;split at hz
  .grind
  .exact w.fam c z hz
theorem Vv(p:Nat->bv->Bool):∀(l:List bv)(n:Nat),RW (qj p n l)=RW l
 |[],_=>rfl
 |x::l,n=>by simp[qj,Vv p l]
theorem WF.kill(w:WF H)(p:Nat->bv->Bool):WF (H.kill p) where
 len:=by show(qj p H.n H.l).length=H.n;rw[Vv,w.len]
 fam c z hz:=by
  rw[AH.get_kill]at hz;cases hc:H.get c with
  |none=>grind
  | some y=>
   rw[hc]at hz;simp[Option.map_some,Z9]at hz;subst hz;split<;>exact w.fam c y hc
structure dS(φ:ax)(F G:Nat->Prop)(h:Hp)(H H':AH)(r:Nat)(x:bv):Prop where
 n:H.n<=H'.n
 get:H'.get r=Wf x
 st:x.st=1
 fam:x.fam=r
 old:∀c,c<H.n->c≠r->H'.get c=H.get c
 nw:∀c,H.n<=c->c≠r->H'.get c=Vc
 notF:¬F r
 notG:¬G r
 notS:∀i e b,h[i]?=Wf (e,b)->Own b->φ.getD i 0≠r
 nokin:jf H r
 un:∀y,H.get r=Wf y->y.st=0∨y=x
 wf:WF H'
theorem Inv.own_get(I:Inv φ F G H h){i:Nat}{b:Bk}(hi:h[i]?=Wf (e,b))(ho:Own b):∃x,H.get (φ.getD i 0)=Wf x∧x.st=1:=by
 have:=I.blk i e b hi;cases b with
 |none=>trivial
 |vars cs=>obtain⟨x,hx,hs,_⟩:=this;grind
 |data n cs ex fr=>obtain⟨x,hx,hs,_⟩:=this;grind
theorem dS.keep(I:Inv φ F G H h){x:bv}(N:dS φ F G h H H' r x)(hc:F c∨G c):H'.get c=H.get c:=
 N.old c (I.lt c hc) (by grind[notF,notG])
theorem dS.born{x:bv}(N:dS φ F G h H H' r x):∀c y,H.get c=Wf y->y.st≠0->∃y',H'.get c=Wf y'∧y'.st≠0:=by grind[un,absurd,get,old,AH.get_lt]
theorem dS.kin{x:bv}(N:dS φ F G h H H' r x){q:Nat}(hk:jf H q):jf H' q:=by
 intro c y hy hs hc;by_cases hr:c=r
 .subst hr;rw[N.get]at hy;grind[fam]
 .by_cases hn:c<H.n
  .rw[N.old c hn hr]at hy;exact hk c y hy hs hc
  .rw[N.nw c aa hr]at hy;cases hy
theorem dS.sep(I:Inv φ F G H h){r:Nat}{x:bv}(N:dS φ F G h H H' r x):OZ G H':=by
 intro c y g z hy hy0 hc hg hz hz0;have hgr:g≠r:=by rintro rfl;exact N.notG hg
 rw[N.keep I (.inr hg)]at hz;by_cases hcr:c=r
 .subst hcr;rw[N.get]at hy;cases hy;rw[N.fam];exact λe=>N.nokin g z hz hz0 hgr e.symm
 .by_cases hcn:c<H.n
  .rw[N.old c hcn hcr]at hy;exact I.sep c y g z hy hy0 hc hg hz hz0
  .rw[N.nw c aa hcr]at hy;cases hy
theorem RB.mono{F':Nat->Prop}{φ':ax}{h':Hp}(hl:gK F F' H H')(hs:fw φ h φ' h'){b:Nat}{k:Bk}(hb:H'.get b=H.get b)(r:RB φ F H h b k):RB φ' F' H' h' b k:=by
 cases k with
 |none=>trivial
 | vars cs=>
  obtain⟨x,hx,h1,h2,h2e,h3⟩:=r;exact⟨x,ae,h1,h2,h2e,aK.mono hl hs _ _ h3⟩
 | data n cs ex fr=>
  obtain⟨x,hx,h1,h2,h3,h4,h5,h6,h7⟩:=r;exact⟨x,ae,h1,bj.mono hl _ _ h2,h3,h4,h5,λe=>hl.fm b (h6 e),h7⟩
theorem H9(I:Inv φ F G H h){i:Nat}(hi:h[i]?=Wf (e,.data n cs ex Th)):F (φ.getD i 0):=by
 obtain⟨_,_,_,_,_,_,_,hf,_⟩:=I.blk i e _ hi
 grind
theorem dS.blk_old(I:Inv φ F G H h){x:bv}(N:dS φ F G h H H' r x){i:Nat}{b:Bk}(hi:h[i]?=Wf (e,b))(hb:b≠.none):H'.get (φ.getD i 0)=H.get (φ.getD i 0):=by
 by_cases ho:Own b
 .grind[Inv.own_get,old,AH.get_lt,notS]
 .cases b with
  |none=>trivial
  |vars cs=>exact absurd trivial ho
  | data n cs ex fr=>
   cases fr with
   |false=>trivial
   |true=>grind[keep,H9]
theorem Inv.new(I:Inv φ F G H h){s e0:Nat}{b0:Bk}(hs:h[s]?=Wf (e0,b0)){r:Nat}{x:bv}(N:dS φ F G h H H' r x){b:Bk}
  (hb:gK F F H H'->fw φ h (φ.set s r) (h.set s (e0+1,b))->RB (φ.set s r) F H' (h.set s (e0+1,b)) r b) :
  Inv (φ.set s r) F G H' (h.set s (e0+1,b))∧Stp G φ F H h (φ.set s r) F H' (h.set s (e0+1,b)):=by
 have hsl:s<RW h:=gD hs;have hsφ:s<RW φ:=by rw[I.len];exact hsl
 have aH:∀i,(h.set s (e0+1,b))[i]?=if i=s then Wf (e0+1,b)else h[i]?:=λi=>uy hsl
 have Fm:gK F F H H':=⟨λ_ hc=>hc,λc hc=>N.keep I (.inl hc),N.born⟩
 have hslle:fw φ h (φ.set s r) (h.set s (e0+1,b)):=by
  intro i;by_cases hi:i=s
  .subst hi;have e1:ep h i=e0:=by simp[ep,hs]
   have e2:ep (h.set i (e0+1,b)) i=e0+1:=by simp[ep,hsl]
   exact⟨aa,λe=>by omega⟩
  .have e2:ep (h.set s (e0+1,b)) i=ep h i:=by unfold ep;rw[aH,iN hi]
   refine⟨aa,λ_ m hm=>⟨m,?_,Z8 _,λ_=>by rw[iP hsφ,iN hi]⟩⟩
   grind[aH]
 have DB:Stp G φ F H h (φ.set s r) F H' (h.set s (e0+1,b)):=
  ⟨N.n,λc hc=>N.keep I hc,λ_ hc=>hc,λ_ hc=>.inl hc,N.born,λq _ hq=>N.kin hq,ac,hslle⟩
 refine⟨⟨by simp[I.len],?_,λc hc=>Z0 (I.lt c hc) N.n,λc hc=>by rw[N.keep I (.inl hc)];exact I.fb c hc,?_,?_,N.sep I,N.wf⟩,DB⟩
 .intro i e k hi;rw[aH]at hi;rw[iP hsφ];split at hi
  .grind
  .rename_i DE;rw[iN DE];by_cases hk:k=.none
   .subst hk;trivial
   grind[RB.mono,blk,dS.blk_old]
 .intro i e k hi ho c hc;rw[aH]at hi;rw[iP hsφ];have hcr:c≠r:=by rintro rfl;exact hc.elim N.notF N.notG
  split at hi
  .rename_i DE;subst DE;cases hi;rw[ip rfl];refine⟨hcr,λy z hy hz h1=>?_⟩;rw[N.get]at hz;cases hz;rw[N.keep I hc]at hy;rw[N.fam];exact N.nokin c y hy aa hcr
  .rename_i DE;rw[iN DE];obtain⟨p1,p2⟩:=I.priv i e k hi ho c hc;refine⟨p1,λy z hy hz h1=>?_⟩;rw[N.keep I hc]at hy;rw[N.blk_old I hi (by rintro rfl;exact ho)]at hz
   grind
 ·have key:∀j e' k',h[j]?=Wf (e',k')->Own k'->j≠s->r≠φ.getD j 0∧∀y,H'.get (φ.getD j 0)=Wf y->r≠y.fam:=by
   intro j e' k' hj ho hjs;have h1:=N.notS j e' k' hj ho;refine⟨λe=>h1 e.symm,λy hy=>?_⟩;rw[N.blk_old I hj (by rintro rfl;exact ho)]at hy;obtain⟨z,hz,hz1⟩:=I.own_get hj ho;rw[hz]at hy;cases hy;exact λe=>N.nokin _ _ hz aa h1 e.symm
  intro i e k j e' k' hi ho hj ho' hij;rw[aH]at hi hj;rw[iP hsφ,iP hsφ];split at hi
  .rename_i DE;subst DE;cases hi;rw[iN (Ne.symm hij)]at hj;rw[ip rfl,iN (Ne.symm hij)];obtain⟨a1,a2⟩:=key j e' k' hj ho' (Ne.symm hij);refine⟨a1,λy z hy hz=>?_⟩;rw[N.get]at hy;grind[dS.fam]
  .rename_i DE;rw[iN DE];split at hj
   .rename_i hj';subst hj';cases hj;rw[ip rfl];obtain⟨a1,a2⟩:=key i e k hi ho DE;refine⟨λe=>a1 e.symm,λy z hy hz=>?_⟩;rw[N.get]at hz;grind[dS.fam]
   .rename_i hj';rw[iN hj'];obtain⟨p1,p2⟩:=I.inj i e k j e' k' hi ho hj ho' hij;refine⟨p1,λy z hy hz=>?_⟩;rw[N.blk_old I hi (by rintro rfl;exact ho)]at hy;rw[N.blk_old I hj (by rintro rfl;exact ho')]at hz
    grind
theorem Inv.newData(I:Inv φ F G H h){x:bv}(N:dS φ F G h H H' r x):
  Inv φ (λc=>F c∨c=r) G H' h∧Stp G φ F H h φ (λc=>F c∨c=r) H' h:=by
 have Fm:gK F (λc=>F c∨c=r) H H':=⟨λ_ hc=>.inl hc,λc hc=>N.keep I (.inl hc),N.born⟩;have hrn:r<H'.n:=AH.get_lt N.get;refine⟨⟨I.len,?_,?_,?_,?_,?_,N.sep I,N.wf⟩,⟨N.n,λc hc=>N.keep I hc,λ_ hc=>.inl hc,?_,N.born,λq _ hq=>N.kin hq,rfl,fw.refl φ h⟩⟩
 .intro i e k hi;by_cases hk:k=.none
  .subst hk;trivial
  .exact(I.blk i e k hi).mono Fm (fw.refl φ h) (N.blk_old I hi hk)
 .rintro c ((hc|rfl)|hc)
  .exact Z0 (I.lt c (.inl hc)) N.n
  .omega
  .exact Z0 (I.lt c (.inr hc)) N.n
 .rintro c (hc|rfl)
  .rw[N.keep I (.inl hc)];exact I.fb c hc
  .exact⟨x,N.get,N.st⟩
 .intro i e k hi ho c hc;have hk:k≠.none:=by rintro rfl;exact ho
  have old:(F c∨G c)->_:=λhc=>I.priv i e k hi ho c hc
  rcases hc with(hc|rfl)|hc
  .grind[dS.keep,dS.blk_old]
  .have h1:=N.notS i e k hi ho;refine⟨λe=>h1 e.symm,λy z hy hz _=>?_⟩;rw[N.get]at hy;cases hy;rw[N.blk_old I hi hk]at hz;obtain⟨w,hw,hw1⟩:=I.own_get hi ho;rw[hw]at hz;cases hz;rw[N.fam];exact λe=>N.nokin _ _ hw aa h1 e.symm
  grind[dS.keep,dS.blk_old]
 .intro i e k j e' k' hi ho hj ho' hij;obtain⟨p1,p2⟩:=I.inj i e k j e' k' hi ho hj ho' hij;refine⟨p1,λy z hy hz=>?_⟩;rw[N.blk_old I hi (by rintro rfl;exact ho)]at hy;rw[N.blk_old I hj (by rintro rfl;exact ho')]at hz
  grind
 .rintro c (hc|rfl)
  .grind
  .exact .inr N.notG
structure pM(H H':AH)(x:bv)(r:Nat)(x2:bv):Prop where
 n:H.n<=H'.n
 old:∀c y,H.get c=Wf y->∃y',H'.get c=Wf y'∧(y'=y∨(y.fam=x.fam∧y.st=1∧y'.st≠0∧y'.fam=y.fam))
 nw:∀c y,H.n<=c->H'.get c=Wf y->c=r
 get:H'.get r=Wf x2
 st:x2.st=1
 fam:x2.fam=x.fam
 wf:WF H'
theorem pM.keep{x:bv}{x2:bv}(T:pM H H' x r x2)(w:WF H)(hc:c<H.n)(hx:∀y,H.get c=Wf y->y.st=1->y.fam≠x.fam):H'.get c=H.get c:=by
 obtain⟨y,hy⟩:=w.get_some hc;obtain⟨y',hy',rfl|⟨h1,h2,_⟩⟩:=T.old c y hy
 .rw[hy,hy']
 grind
theorem Inv.touch(I:Inv φ F G H h){s e:Nat}{b:Bk}(hs:h[s]?=Wf (e,b))(ho:Own b){x:bv}(hx:H.get (φ.getD s 0)=Wf x)(hx1:x.st=1){r:Nat}{x2:bv}(T:pM H H' x r x2)
  (hr:r=φ.getD s 0∨H.n<=r) {b':Bk} {m m':Nat} (hm:jD b=Wf m) (hm':jD b'=Wf m') (hmm:m<=m') (hmr:m=m'->r=φ.getD s 0)
  (hb:gK F F H H'->fw φ h (φ.set s r) (bP h s e b')->RB (φ.set s r) F H' (bP h s e b') r b') :
  Inv (φ.set s r) F G H' (bP h s e b')∧Stp G φ F H h (φ.set s r) F H' (bP h s e b'):=by
 have hsl:s<RW h:=gD hs;have hsφ:s<RW φ:=by rw[I.len];exact hsl
 have aH:∀i,(bP h s e b')[i]?=if i=s then Wf (e,b')else h[i]?:=λi=>uy hsl
 have kF:∀c,F c∨G c->H'.get c=H.get c:=λc hc=>T.keep I.wf (I.lt c hc) λy hy h1=>(I.priv s e b hs ho c hc).2 y x hy hx h1
 have kO:∀i e1 k,h[i]?=Wf (e1,k)->Own k->i≠s->H'.get (φ.getD i 0)=H.get (φ.getD i 0):=λi e1 k hi hk his=>by
  obtain⟨z,hz,hz1⟩:=I.own_get hi hk;exact T.keep I.wf (AH.get_lt hz) λy hy h1=>(I.inj i e1 k s e b hi hk hs ho his).2 y x hy hx
 have kB:∀i e1 k,h[i]?=Wf (e1,k)->k≠.none->i≠s->H'.get (φ.getD i 0)=H.get (φ.getD i 0):=λi e1 k hi hk his=>by
  by_cases Is:Own k
  .grind
  .cases k with
   |none=>trivial
   |vars cs=>exact absurd trivial Is
   | data n cs ex fr=>
    cases fr with
    |false=>trivial
    |true=>grind[H9]
 have hborn:∀c y,H.get c=Wf y->y.st≠0->∃y',H'.get c=Wf y'∧y'.st≠0:=λc y hy h0=>by
  grind[pM.old]
 have Fm:gK F F H H':=⟨λ_ hc=>hc,λc hc=>kF c (.inl hc),hborn⟩
 have hslle:fw φ h (φ.set s r) (bP h s e b'):=by
  intro i;by_cases hi:i=s
  .subst hi;have e1:ep h i=e:=by simp[ep,hs]
   have e2:ep (bP h i e b') i=e:=by simp[ep,aH]
   refine⟨aa,λ_ k hk=>⟨m,?_,?_,λe=>?_⟩⟩
   .grind[ij]
   .rw[e1,ij (by rw[aH,ip rfl])]at hk
    grind
   .rw[e1,ij (by rw[aH,ip rfl]),hm']at hk
    grind
  .have e2:ep (bP h s e b') i=ep h i:=by unfold ep;rw[aH,iN hi]
   refine⟨aa,λ_ m hm=>⟨m,?_,Z8 _,λ_=>by rw[iP hsφ,iN hi]⟩⟩
   grind[aH]
 have hnk:∀q,G q->jf H q->jf H' q:=by
  intro q hq hk c y hy h0 hc;have MT:φ.getD s 0≠q:=λe1=>(I.priv s e b hs ho q (.inr hq)).1 e1.symm
  have hxq:x.fam≠q:=hk _ x hx aa MT;by_cases hcn:c<H.n
  .obtain⟨z,hz⟩:=I.wf.get_some hcn;obtain⟨z',hz',e|⟨h1,h2,_,h3⟩⟩:=T.old c z hz
   .rw[hz']at hy;cases hy;subst e;exact hk c _ hz h0 hc
   .rw[hz']at hy;cases hy;rw[h3];exact hk c z hz aa hc
  .have:=T.nw c y aa hy;subst this;rw[T.get]at hy;grind[pM.fam]
 have DB:Stp G φ F H h (φ.set s r) F H' (bP h s e b'):=
  ⟨T.n,kF,λ_ hc=>hc,λ_ hc=>.inl hc,hborn,hnk,wI h s e b',hslle⟩
 have hob:∀c,F c∨G c->c≠r:=λc hc er=>by
  rcases hr with hr|hr
  .exact(I.priv s e b hs ho c hc).1 aa
  .exact absurd (I.lt c hc) aa
 have hfam:∀c,F c∨G c->∀y,H'.get c=Wf y->y.st=1->y.fam≠x2.fam:=λc hc y hy h1=>by
  rw[kF c hc]at hy;rw[T.fam];exact(I.priv s e b hs ho c hc).2 y x hy hx h1
 have hoth:∀i e1 k,h[i]?=Wf (e1,k)->Own k->i≠s->φ.getD i 0≠r∧∀y,H'.get (φ.getD i 0)=Wf y->y.fam≠x2.fam:=λi e1 k hi hk his=>by
  obtain⟨p1,p2⟩:=I.inj i e1 k s e b hi hk hs ho his;refine⟨λe=>?_,λy hy=>?_⟩
  .rcases hr with hr|hr
   .exact p1 aa
   .obtain⟨z,hz,_⟩:=I.own_get hi hk;have:=AH.get_lt hz;omega
  grind[pM.fam]
 have hsG:¬G (φ.getD s 0):=λhG=>(I.priv s e b hs ho _ (.inr hG)).1 rfl
 have hsep:OZ G H':=by
  intro c y g z hy hy0 hc hg hz hz0;rw[kF g (.inr hg)]at hz;have hxz:=I.sep _ x g z hx aa hsG hg hz hz0;by_cases hcn:c<H.n
  .obtain⟨u,hu⟩:=I.wf.get_some hcn;obtain⟨u',hu',rfl|⟨h1,h2,_,h3⟩⟩:=T.old c u hu
   .rw[hu']at hy;cases hy;exact I.sep c _ g z hu hy0 hc hg hz hz0
   grind
  .have:=T.nw c y aa hy
   grind[pM.get,pM.fam]
 refine⟨⟨by simp[I.len,wI],?_,λc hc=>Z0 (I.lt c hc) T.n,λc hc=>by rw[kF c (.inl hc)];exact I.fb c hc,?_,?_,hsep,T.wf⟩,DB⟩
 .intro i e1 k hi;rw[aH]at hi;rw[iP hsφ];split at hi
  .grind
  .rename_i DE;rw[iN DE];by_cases hk:k=.none
   .subst hk;trivial
   grind[RB.mono,blk]
 .intro i e1 k hi hk c hc;rw[aH]at hi;rw[iP hsφ];split at hi
  .grind[pM.get]
  .rename_i DE;rw[iN DE];obtain⟨p1,p2⟩:=I.priv i e1 k hi hk c hc
   grind
 .intro i e1 k j e2 k2 hi hk hj hk2 hij;rw[aH]at hi hj;rw[iP hsφ,iP hsφ];split at hi
  .grind[pM.get]
  .rename_i DE;rw[iN DE];split at hj
   .grind[pM.get]
   .rename_i hj';rw[iN hj'];obtain⟨p1,p2⟩:=I.inj i e1 k j e2 k2 hi hk hj hk2 hij
    grind
theorem Inv.freeze(I:Inv φ F G H h)(hs:h[s]?=Wf (e,.data n cs ex fr)):
  ∃F',F' (φ.getD s 0)∧Inv φ F' G H (bP h s e (.data n cs ex Th))∧Stp G φ F H h φ F' H (bP h s e (.data n cs ex Th)):=by
 have hsl:s<RW h:=gD hs;have aH:∀i,(bP h s e (.data n cs ex Th))[i]?=if i=s then Wf (e,.data n cs ex Th)else h[i]?:=λi=>uy hsl
 obtain⟨x,hx,hx1,hd,hex,hesz,hn,hff,hwr⟩:=I.blk s e _ hs;refine⟨λc=>F c∨c=φ.getD s 0,.inr rfl,?_⟩;have Fm:gK F (λc=>F c∨c=φ.getD s 0) H H:=⟨λ_ hc=>.inl hc,λ_ _=>rfl,λc y hy h0=>⟨y,hy,h0⟩⟩
 have hslle:fw φ h φ (bP h s e (.data n cs ex Th)):=by
  intro i;by_cases hi:i=s
  .subst hi;have e1:ep h i=e:=by simp[ep,hs]
   have e2:ep (bP h i e (.data n cs ex Th)) i=e:=by simp[ep,aH]
   refine⟨aa,λ_ k hk=>⟨k,?_,Z8 _,λ_=>rfl⟩⟩;rw[e1,ij (by rw[aH,ip rfl])]at hk;rw[e1,ij hs];exact hk
  .have e2:ep (bP h s e (.data n cs ex Th)) i=ep h i:=by unfold ep;rw[aH,iN hi]
   refine⟨aa,λ_ m hm=>⟨m,?_,Z8 _,λ_=>rfl⟩⟩
   grind[aH]
 -- what is not frozen yet stays apart from the block
 have hap:∀i e1 k,h[i]?=Wf (e1,k)->Own k->i≠s->φ.getD s 0≠φ.getD i 0∧∀y z,H.get (φ.getD s 0)=Wf y->H.get (φ.getD i 0)=Wf z->y.fam≠z.fam:=by
  intro i e1 k hi hk his;cases fr with
  |false=>exact I.inj s e _ i e1 k hs rfl hi hk (Ne.symm his)
  | true=>
   obtain⟨p1,p2⟩:=I.priv i e1 k hi hk _ (.inl (hff rfl))
   grind
 have hown:∀i e1 k,(bP h s e (.data n cs ex Th))[i]?=Wf (e1,k)->Own k->i≠s∧h[i]?=Wf (e1,k):=by
  intro i e1 k hi hk;rw[aH]at hi;split at hi
  .grind[absurd,Own]
  .trivial
 refine⟨⟨by grind[wI,len],?_,?_,?_,?_,?_,I.sep,I.wf⟩,⟨Z8 _,λ_ _=>rfl,λ_ hc=>.inl hc,?_,λc y hy h0=>⟨y,hy,h0⟩,λ_ _ hq=>hq,wI h s e _,hslle⟩⟩
 .intro i e1 k hi;rw[aH]at hi;split at hi
  .rename_i DE;subst DE;cases hi;exact⟨x,hx,hx1,bj.mono Fm _ _ hd,λh=>hex (.inr (h.resolve_left ac)),hesz,hn,λ_=>.inr rfl,λe=>absurd e ac⟩
  grind[RB.mono,blk]
 .rintro c ((hc|rfl)|hc)
  .exact I.lt c (.inl hc)
  .exact AH.get_lt hx
  .exact I.lt c (.inr hc)
 .rintro c (hc|rfl)
  .exact I.fb c hc
  grind
 .intro i e1 k hi hk c hc;obtain⟨his,hi⟩:=hown i e1 k hi hk;rcases hc with(hc|rfl)|hc
  .exact I.priv i e1 k hi hk c (.inl hc)
  .grind
  .exact I.priv i e1 k hi hk c (.inr hc)
 .intro i e1 k j e2 k2 hi hk hj hk2 hij;obtain⟨_,hi⟩:=hown i e1 k hi hk;obtain⟨_,hj⟩:=hown j e2 k2 hj hk2;exact I.inj i e1 k j e2 k2 hi hk hj hk2 hij
 .rintro c (hc|rfl)
  .grind
  .cases fr with
   |false=>exact .inr λhg=>(I.priv s e _ hs rfl _ (.inr hg)).1 rfl
   |true=>grind
theorem FX:∀{cs:List D}{ws:au},aK φ F H h (cs.map V.d) ws->bj F H cs ws
 |[],ws,hv=>by trivial
 | c::cs,ws,hv=>by
  simp[Zv,aK]at hv;obtain⟨w,us,rfl,r1,r2⟩:=hv;simp only[bj];simp[RV]at r1;exact⟨w,us,rfl,r1,FX r2⟩
theorem Inv.giveUp(I:Inv φ F G H h)(hs:h[s]?=Wf (e,.vars (cs.map .d))):
  ∃F',F' (φ.getD s 0)∧Inv φ F' G H (bP h s e (.data 1 cs SM Th))∧Stp G φ F H h φ F' H (bP h s e (.data 1 cs SM Th)):=by
 have hsl:s<RW h:=gD hs;have aH:∀i,(bP h s e (.data 1 cs SM Th))[i]?=if i=s then Wf (e,.data 1 cs SM Th)else h[i]?:=λi=>uy hsl
 obtain⟨x,hx,hx1,hwr,hxe,hd⟩:=I.blk s e _ hs;refine⟨λc=>F c∨c=φ.getD s 0,.inr rfl,?_⟩;have Fm:gK F (λc=>F c∨c=φ.getD s 0) H H:=⟨λ_ hc=>.inl hc,λ_ _=>rfl,λc y hy h0=>⟨y,hy,h0⟩⟩
 have hslle:fw φ h φ (bP h s e (.data 1 cs SM Th)):=by
  intro i;by_cases hi:i=s
  .subst hi;have e1:ep h i=e:=by simp[ep,hs]
   have e2:ep (bP h i e (.data 1 cs SM Th)) i=e:=by simp[ep,aH]
   refine⟨aa,λ_ k hk=>⟨k,?_,Z8 _,λ_=>rfl⟩⟩;rw[e1,ij (by rw[aH,ip rfl])]at hk
   grind[ij,jD]
  .have e2:ep (bP h s e (.data 1 cs SM Th)) i=ep h i:=by unfold ep;rw[aH,iN hi]
   refine⟨aa,λ_ m hm=>⟨m,?_,Z8 _,λ_=>rfl⟩⟩
   grind[aH]
 -- what is not frozen yet stays apart from the block
 have hap:∀i e1 k,h[i]?=Wf (e1,k)->Own k->i≠s->φ.getD s 0≠φ.getD i 0∧∀y z,H.get (φ.getD s 0)=Wf y->H.get (φ.getD i 0)=Wf z->y.fam≠z.fam:=by
  intro i e1 k hi hk his;exact I.inj s e _ i e1 k hs trivial hi hk (Ne.symm his)
 have hown:∀i e1 k,(bP h s e (.data 1 cs SM Th))[i]?=Wf (e1,k)->Own k->i≠s∧h[i]?=Wf (e1,k):=by
  intro i e1 k hi hk;rw[aH]at hi;split at hi
  .grind[absurd,Own]
  .trivial
 refine⟨⟨by grind[wI,len],?_,?_,?_,?_,?_,I.sep,I.wf⟩,⟨Z8 _,λ_ _=>rfl,λ_ hc=>.inl hc,?_,λc y hy h0=>⟨y,hy,h0⟩,λ_ _ hq=>hq,wI h s e _,hslle⟩⟩
 .intro i e1 k hi;rw[aH]at hi;split at hi
  .rename_i DE;subst DE;cases hi;exact⟨x,hx,hx1,bj.mono Fm _ _ (FX hd),λe=>absurd e ac,λ_=>hxe,am,λ_=>.inr rfl,λe=>absurd e ac⟩
  grind[RB.mono,blk]
 .rintro c ((hc|rfl)|hc)
  .exact I.lt c (.inl hc)
  .exact AH.get_lt hx
  .exact I.lt c (.inr hc)
 .rintro c (hc|rfl)
  .exact I.fb c hc
  grind
 .intro i e1 k hi hk c hc;obtain⟨his,hi⟩:=hown i e1 k hi hk;rcases hc with(hc|rfl)|hc
  .exact I.priv i e1 k hi hk c (.inl hc)
  .grind
  .exact I.priv i e1 k hi hk c (.inr hc)
 .intro i e1 k j e2 k2 hi hk hj hk2 hij;obtain⟨_,hi⟩:=hown i e1 k hi hk;obtain⟨_,hj⟩:=hown j e2 k2 hj hk2;exact I.inj i e1 k j e2 k2 hi hk hj hk2 hij
 .rintro c (hc|rfl)
  .grind
  .exact .inr λhg=>(I.priv s e _ hs trivial _ (.inr hg)).1 rfl
theorem Inv.swap(I:Inv φ F G H h){b b':Bk}(hs:h[s]?=Wf (e,b))(ho:Own b)(hm:jD b=Wf m)(hm':jD b'=Wf m)(hb:RB φ F H (bP h s e b') (φ.getD s 0) b'):
  Inv φ F G H (bP h s e b')∧Stp G φ F H h φ F H (bP h s e b'):=by
 have hsl:s<RW h:=gD hs;have aH:∀i,(bP h s e b')[i]?=if i=s then Wf (e,b')else h[i]?:=λi=>uy hsl
 have Fm:gK F F H H:=⟨λ_ hc=>hc,λ_ _=>rfl,λc y hy h0=>⟨y,hy,h0⟩⟩
 have hslle:fw φ h φ (bP h s e b'):=by
  intro i;by_cases hi:i=s
  .subst hi;have e1:ep h i=e:=by simp[ep,hs]
   have e2:ep (bP h i e b') i=e:=by simp[ep,aH]
   refine⟨aa,λ_ k hk=>⟨k,?_,Z8 _,λ_=>rfl⟩⟩;rw[e1,ij (by rw[aH,ip rfl])]at hk;rw[e1,ij hs,hm,<-hm'];exact hk
  .have e2:ep (bP h s e b') i=ep h i:=by unfold ep;rw[aH,iN hi]
   refine⟨aa,λ_ m hm=>⟨m,?_,Z8 _,λ_=>rfl⟩⟩
   grind[aH]
 have hown:∀(i e1:Nat)(k:Bk),(bP h s e b')[i]?=Wf (e1,k)->Own k->∃k0:Bk,h[i]?=Wf (e1,k0)∧Own k0:=by
  intro i e1 k hi hk;rw[aH]at hi;split at hi
  .rename_i DE;subst DE;cases hi;exact⟨b,hs,ho⟩
  .exact⟨k,hi,hk⟩
 refine⟨⟨by grind[wI,Inv.len],?_,I.lt,I.fb,?_,?_,I.sep,I.wf⟩,⟨Z8 _,λ_ _=>rfl,λ_ hc=>hc,λ_ hc=>.inl hc,λc y hy h0=>⟨y,hy,h0⟩,λ_ _ hq=>hq,wI h s e b',hslle⟩⟩
 .intro i e1 k hi;rw[aH]at hi;split at hi
  .rename_i DE;subst DE;cases hi;exact hb
  .exact(I.blk i e1 k hi).mono Fm hslle rfl
 .intro i e1 k hi hk c hc;obtain⟨k0,h0,o0⟩:=hown i e1 k hi hk;exact I.priv i e1 k0 h0 o0 c hc
 .intro i e1 k j e2 k2 hi hk hj hk2 hij;obtain⟨k0,h0,o0⟩:=hown i e1 k hi hk;obtain⟨k3,h3,o3⟩:=hown j e2 k2 hj hk2;exact I.inj i e1 k0 j e2 k3 h0 o0 h3 o3 hij
theorem Inv.renew(I:Inv φ F G H h){b:Bk}(hs:h[s]?=Wf (e,b)):Inv φ F G H (h.set s (e+1,b))∧Stp G φ F H h φ F H (h.set s (e+1,b)):=by
 have hsl:s<RW h:=gD hs
 have aH:∀i,(h.set s (e+1,b))[i]?=if i=s then Wf (e+1,b)else h[i]?:=λi=>by
  by_cases hi:i=s
  .subst hi;simp[hsl]
  .rw[iN hi,List.getElem?_set_ne aa]
 have Fm:gK F F H H:=⟨λ_ hc=>hc,λ_ _=>rfl,λc y hy h0=>⟨y,hy,h0⟩⟩
 have hslle:fw φ h φ (h.set s (e+1,b)):=by
  intro i;by_cases hi:i=s
  .subst hi;have e1:ep h i=e:=by simp[ep,hs]
   have e2:ep (h.set i (e+1,b)) i=e+1:=by simp[ep,aH]
   exact⟨aa,λhc=>by omega⟩
  .have e2:ep (h.set s (e+1,b)) i=ep h i:=by unfold ep;rw[aH,iN hi]
   refine⟨aa,λ_ m hm=>⟨m,?_,Z8 _,λ_=>rfl⟩⟩
   grind[aH]
 have hown:∀(i e1:Nat)(k:Bk),(h.set s (e+1,b))[i]?=Wf (e1,k)->∃e0:Nat,h[i]?=Wf (e0,k):=by
  intro i e1 k hi;rw[aH]at hi;split at hi
  .rename_i DE;subst DE;cases hi;exact⟨e,hs⟩
  .exact⟨e1,hi⟩
 refine⟨⟨by grind[Inv.len],?_,I.lt,I.fb,?_,?_,I.sep,I.wf⟩,⟨Z8 _,λ_ _=>rfl,λ_ hc=>hc,λ_ hc=>.inl hc,λc y hy h0=>⟨y,hy,h0⟩,λ_ _ hq=>hq,ac,hslle⟩⟩
 .intro i e1 k hi;obtain⟨e0,h0⟩:=hown i e1 k hi;exact(I.blk i e0 k h0).mono Fm hslle rfl
 .intro i e1 k hi hk c hc;obtain⟨e0,h0⟩:=hown i e1 k hi;exact I.priv i e0 k h0 hk c hc
 .intro i e1 k j e2 k2 hi hk hj hk2 hij;obtain⟨e0,h0⟩:=hown i e1 k hi;obtain⟨e3,h3⟩:=hown j e2 k2 hj;exact I.inj i e0 k j e3 k2 h0 hk h3 hk2 hij
end
def iH(v:vl):Prop:=plain v=Th∧okCell v=Th
def HG(P:pG)(t:tI):D->Prop
 |.int _ _=>∃k,P.underlying t=Wf (.int k)
 |.bool _=>P.underlying t=Wf .bool
 |.str _=>P.underlying t=Wf .string
 |_=>False
def Jp(P:pG)(t:tI)(z:List D):Prop:=∃gs:Array Field,P.underlying t=Wf (.struct gs)∧P.stoodInHeld t=SM∧P.eqGuardType P.depth t=SM∧gs.size=RW z ∧
 ∀(i:Nat) (f:Field) (d:D),gs.toList[i]?=Wf f→z[i]?=Wf d→f.offset=i∧f.name ≠ "_" ∧ HG P f.type d
structure zx(P:pG)(t:tI)(i:c8):Prop where
 kind:match i.k with
  |.i k=>P.underlying t=Wf (.int k)
  |.b=>P.underlying t=Wf .bool
  |.s=>P.underlying t=Wf .string
  |.p=>∃e,P.underlying t=Wf (.pointer e)
  |.f=>∃a b c,P.underlying t=Wf (.func a b c)
  |.it=>∃ms,P.underlying t=Wf (.interface ms)
  |.sl e=>P.underlying t=Wf (.slice e)
  |.ar n e=>P.underlying t=Wf (.array n e)
  |.st fs=>∃gs,P.underlying t=Wf (.struct gs)∧gs.toList.map (λf=>(f.offset,cn P f.type))=fs.map λp=>(p.1,Wf p.2)
  |.o=>True
 sz:i.k≠.o->cn P t=Wf i.sz
 bytes:i.k≠.o->qu P t=Wf i.bytes
 zero:i.k≠.o->∃z,fX P t=Wf z∧plain z=Th∧z.cells.toList.map dL=i.z∧z.cells.size=i.sz∧∀c∈z.cells.toList,iH c
 eq:i.eq=Th->Jp P t i.z
section
variable{φ:ax}{F G:Nat->Prop}{H:AH}{h:Hp}
theorem Hf{v:vl}(hv:iH v):RD F H (dL v) v:=by obtain⟨h1,h2⟩:=hv;cases v<;>simp only[dL,RD]<;>first|trivial|exact⟨trivial,h1,h2⟩|exact⟨rfl,h1,h2⟩
theorem yy:∀{l:au},(∀c∈l,iH c)->bj F H (l.map dL) l
 |[],_=>by rfl
 | v::l,hl=>by
  simp only[Zv,bj];exact⟨v,l,rfl,Hf (hl v ac),yy λc hc=>hl c ae⟩
def sL:vl->Bool
 |.agg cs=>cs.toList.all λc=>plain c&&okCell c
 |.tuple cs=>cs.toList.all λc=>plain c&&okCell c
 |v=>plain v
theorem UR{v:vl}(hv:sL v=Th):RV φ F H h (lit v) v:=by
 cases v<;>simp only[lit,sL]at hv ⊢
 case agg cs=>
  obtain⟨l⟩:=cs;simp only[RV];refine⟨l,rfl,?_⟩
  have:=aK.ofD (φ:=φ) (h:=h) (yy (F:=F) (H:=H) (l:=l) λc hc=>by
   grind[iH])
  rw[Wa]at this;exact this
 case tuple cs=>
  obtain⟨l⟩:=cs;simp only[RV];refine⟨l,rfl,?_⟩
  have:=aK.ofD (φ:=φ) (h:=h) (yy (F:=F) (H:=H) (l:=l) λc hc=>by
   grind[iH])
  rw[Wa]at this;exact this
 all_goals(simp[RV];exact Hf ⟨hv,rfl⟩)
theorem ig{k:iK}{n:Int}{v:vl}:RV φ F H h (.d (.int k n)) v↔v=.int k n:=by rfl
theorem mT{b:Bool}{v:vl}:RV φ F H h (.d (.bool b)) v↔v=.bool b:=by rfl
theorem sj{s:bA}{v:vl}:RV φ F H h (.d (.str s)) v↔v=.string ⟨⟨s⟩⟩:=by rfl
theorem KM(hv:jt o=Wf v)(ho:∀x,o=Wf x->iH x):∃w,o=Wf w∧RV φ F H h v w:=by
 cases o with
 |none=>cases hv
 | some x=>
  grind[jt,RV,Hf]
theorem MN{k k':iK}{a b:Int}{x:vl}(hx:iR op k a k' b=Wf x):iH x:=by
 unfold iR at hx
 repeat' (first|split at hx|cases hx)
 all_goals first|exact⟨rfl,rfl⟩|(simp at hx;try(obtain⟨_,hx⟩:=hx);subst hx;exact⟨rfl,rfl⟩)
theorem ahM{c:V}(hv:kU c x y=Wf v)(hc:RV φ F H h c c')(hx:RV φ F H h x x')(hy:RV φ F H h y y'):
  ∃t:Bool,c'=.bool t∧RV φ F H h v (if t then x' else y'):=by
 unfold kU at hv;split at hv
 .rename_i t;rw[mT]at hc;cases hv;exact⟨t,hc,by cases t<;>simpa⟩
 trivial
theorem apB(hv:aD op x y=Wf v)(hx:RV φ F H h x x')(hy:RV φ F H h y y'):
  ∃w,kI P op t ox oy x' y'=Wf w∧RV φ F H h v w:=by
 unfold aD at hv;split at hv
 .rw[ig]at hx hy;subst hx;subst hy;rw[apx];exact KM hv λx hx=>MN hx
 trivial
theorem zp{a b r:vl}(ha:plain a=Th)(hb:plain b=Th)(hg:eqGuard op t ox oy a b=pure ())(h:pv P (binOp op t a b)=Wf r)(hr:plain r=Th):
  kI P op t ox oy a b=Wf r:=by grind[kI]
theorem gW(P:pG):∀(s:Sem α)(f:α->Sem β)(a:α),pv P s=Wf a->pv P (s >>= f)=pv P (f a):=by
 intro s f a
 induction s with
 |pure x=>intro hs;simp[pv,Z9]at hs;subst hs;rfl
 |program k ih=>intro hs;exact ih P hs
 |_=>intro hs;cases hs
theorem pY(hd:P.underlying t=Wf d):pv P (underlying t)=Wf d:=by
 show pv P (match P.underlying t with|some d=>pure d|none=>stuck "no such type")=Wf d
 rw[hd];rfl
theorem SN(hd:P.underlying t=Wf .bool)(a b:Bool):pv P (Op.equal t (.bool a) (.bool b))=Wf (a == b):=by
 have hg:∀n,pv P (Op.equalIn (n+1) t (.bool a) (.bool b))=Wf (a == b):=λn=>by
  rw[Op.equalIn,gW P _ _ _ (pY hd)];rfl
 exact hg 9999
theorem WK(op:bO)(t:tI)(x y:oP)(a b:Bool):eqGuard op t x y (.bool a) (.bool b)=pure ():=by cases op<;>rfl
theorem alm(op:bO)(t:tI)(x y:oP)(a b:ByteArray):eqGuard op t x y (.string a) (.string b)=pure ():=by cases op<;>rfl
theorem apE(ht:P.underlying t=Wf .bool)(hv:jE op x y=Wf v)(hx:RV φ F H h x x')(hy:RV φ F H h y y'):
  ∃w,kI P op t ox oy x' y'=Wf w∧RV φ F H h v w:=by
 unfold jE at hv;split at hv
 .rename_i a b;rw[mT]at hx hy;subst hx;subst hy;split at hv
  .cases hv;refine⟨.bool (a == b),zp rfl rfl (WK _ _ _ _ _ _) ?_ rfl,mT.2 rfl⟩
   show pv P (do pure (vl.bool (<-Op.equal t (vl.bool a) (vl.bool b))))=_
   rw[gW P _ _ _ (SN ht a b)];rfl
  .cases hv;refine⟨.bool (a !=b),zp rfl rfl (WK _ _ _ _ _ _) ?_ rfl,mT.2 rfl⟩
   show pv P (do pure (vl.bool (!(<-Op.equal t (vl.bool a) (vl.bool b)))))=_
   rw[gW P _ _ _ (SN ht a b)];rfl
  trivial
 trivial
theorem ahl{d x y:D}(hk:HG P t d)(hx:RD F H x x')(hy:RD F H y y'){r:Bool}(h:yZ q d x y=Wf r):∃p,r=(p&&q)∧(∀n,pv P (Op.equalIn (n+1) t x' y')=Wf p)∧∀(cs:Array vl)(o:Nat)(v:vl),cs[o]?=Wf v->pv P (part t cs o)=Wf v:=by
 have pt:(∀fs,P.underlying t≠Wf (.struct fs))->(∀n e,P.underlying t≠Wf (.array n e))->(∃d,P.underlying t=Wf d)->∀(cs:Array vl)(o:Nat)(v:vl),cs[o]?=Wf v->pv P (part t cs o)=Wf v:=by
  rintro h1 h2 ⟨d,hd⟩ cs o v hv
  have hagg:pv P (isAgg t)=Wf SM:=by
   unfold isAgg;rw[gW P _ _ _ (pY hd)];cases d<;>first|rfl|exact absurd hd (h1 _)|grind
  unfold part;rw[gW P _ _ _ hagg];simp[Zg,iF,hv];rfl
 unfold yZ at h;split at h
 .rename_i k a k' b;split at h
  .rename_i hkk;subst hkk;simp[Z9]at h;simp[RD]at hx hy;subst hx;subst hy;obtain⟨k2,hk⟩:=hk;refine⟨a == b,h.symm,λn=>?_,pt (λ_ e=>by grind) (λ_ _ e=>by grind) ⟨_,hk⟩⟩;rw[Op.equalIn,gW P _ _ _ (pY hk)];simp[iT];rfl
  .cases h
 .rename_i a b;simp[Z9]at h;simp[RD]at hx hy;subst hx;subst hy;have hk:P.underlying t=Wf .bool:=hk;refine⟨a == b,h.symm,λn=>?_,pt (λ_ e=>by grind) (λ_ _ e=>by grind) ⟨_,hk⟩⟩;rw[Op.equalIn,gW P _ _ _ (pY hk)];rfl
 .rename_i a b;simp[Z9]at h;simp[RD]at hx hy;subst hx;subst hy;have hk:P.underlying t=Wf .string:=hk;refine⟨a == b,h.symm,λn=>?_,pt (λ_ e=>by grind) (λ_ _ e=>by grind) ⟨_,hk⟩⟩;rw[Op.equalIn,gW P _ _ _ (pY hk)]
  show pv P (pure (ByteArray.mk ⟨a⟩ == ByteArray.mk ⟨b⟩))=_
  have:(ByteArray.mk ⟨a⟩ == ByteArray.mk ⟨b⟩)=(a == b):=by
   first
    |(rfl;done)
    |(rw[Yh];change (Array.mk a == Array.mk b)=Th↔_;simp)
  rw[this];rfl
 .cases h
theorem YE{d:D}{us vs:List V}{p:Bool}(h:pB (d::z) us vs=Wf p):∃x l y m q,us=.d x::l∧vs=.d y::m∧pB z l m=Wf q∧yZ q d x y=Wf p:=by
 match us,vs,h with
 | .d x::l,.d y::m,h=>
  grind[pB]
theorem SJ{P:pG}(xs ys:Array vl)(n:Nat):∀(gs:List Field)(z:List D)(i:Nat)(us vs:List V)(us' vs':au)(p:Bool),pB z us vs=Wf p→aK φ F H h us us'→aK φ F H h vs vs' →
  (∀j v,us'[j]?=Wf v→xs[i+j]?=Wf v)→(∀j v,vs'[j]?=Wf v→ys[i+j]?=Wf v)→RW gs=RW z →
  (∀j f d,gs[j]?=Wf f→z[j]?=Wf d→f.offset=i+j∧f.name ≠ "_" ∧ HG P f.type d) →
  pv P (forIn gs (Vc,()) λf (__s:Option Bool×Unit)=>
        if f.name ≠ "_" then do
         let __do_lift ← part f.type xs f.offset
         let __do_lift_1 ← part f.type ys f.offset
         let __do_lift ← Op.equalIn (n+1) f.type __do_lift __do_lift_1
         if (!__do_lift)=Th then pure (ForInStep.done (Wf SM,()))
          else pure (ForInStep.yield (Vc,()))
        else pure (ForInStep.yield (Vc,())))=Wf (if p then Vc else Wf SM,())
 | [],z,i,us,vs,us',vs',p,he,_,_,_,_,hl,_=>by
  have hz:z=[]:=Yd.1 hl.symm;subst hz;cases us with
  | nil=>cases vs with
   |nil=>simp only[pB,Z9]at he;subst he;rfl
   |cons=>trivial
  |cons=>trivial
 |f::gs,[],i,us,vs,us',vs',p,he,_,_,_,_,hl,_=>by simp at hl
 | f::gs,d::z,i,us,vs,us',vs',p,he,hu,hv,hx,hy,hl,hg=>by
  obtain⟨x,l,y,m,q,rfl,rfl,hq,he⟩:=YE he;simp[aK,RV]at hu hv;obtain⟨x',l',rfl,rx,rl⟩:=hu;obtain⟨y',m',rfl,ry,rm⟩:=hv;obtain⟨g1,g2,g3⟩:=hg 0 f d rfl rfl
  .obtain⟨b,rfl,hb,hpart⟩:=ahl g3 rx ry he;rw[List.forIn_cons];simp only[ne_eq,g2,not_false_eq_true,iT];have e1:pv P (part f.type xs f.offset)=Wf x':=hpart _ _ _ (by rw[g1];exact hx 0 x' rfl);have e2:pv P (part f.type ys f.offset)=Wf y':=hpart _ _ _ (by rw[g1];exact hy 0 y' rfl)
   have e3:pv P (do
         let __do_lift ← part f.type xs f.offset
         let __do_lift_1 ← part f.type ys f.offset
         let __do_lift ← Op.equalIn (n+1) f.type __do_lift __do_lift_1
         if (!__do_lift)=Th then pure (ForInStep.done (Wf SM,()))
          else pure (ForInStep.yield (Vc,())))=Wf (if b then ForInStep.yield (Vc,())else ForInStep.done (Wf SM,())):=by
    rw[gW P _ _ _ e1,gW P _ _ _ e2,gW P _ _ _ (hb n)];cases b<;>rfl
   rw[gW P _ _ _ e3];cases b with
   |false=>rfl
   | true=>
    have:=SJ xs ys n gs z (i+1) l m l' m' q hq rl rm (λj v hj=>by rw[show i+1+j=i+(j+1) by omega];simp_all)
     (λj v hj=>by rw[show i+1+j=i+(j+1) by omega];simp_all) ae (λj f' d' hf hd=>by
      have:=hg (j+1) f' d' cU cU;rw[show i+1+j=i+(j+1) by omega];omega)
    trivial
theorem apG(ht:Jp P t z)(hv:pJ z op x y=Wf v)(hx:RV φ F H h x x')(hy:RV φ F H h y y'):
  ∃w,kI P op t ox oy x' y'=Wf w∧RV φ F H h v w:=by
 obtain⟨gs,hd,hs,hgd,hn,hf⟩:=ht;unfold pJ at hv;split at hv
 case h_2=>cases hv
 rename_i us vs;simp[RV]at hx hy;obtain⟨us',rfl,ru⟩:=hx;obtain⟨vs',rfl,rv⟩:=hy
 have key:∀p,pB z us vs=Wf p→pv P (Op.equal t (.agg ⟨us'⟩) (.agg ⟨vs'⟩))=Wf p:=by
  intro p hp
  have hg:∀n,pv P (Op.equalIn (n+2) t (.agg ⟨us'⟩) (.agg ⟨vs'⟩))=Wf p:=λn=>by
   rw[Op.equalIn,gW P _ _ _ (pY hd)];dsimp only;rw[gW P _ _ P aM];rw[hs];simp only[Zg,iF]
   have:=SJ (φ:=φ) (F:=F) (H:=H) (h:=h) ⟨us'⟩ ⟨vs'⟩ n gs.toList z 0 us vs us' vs' p hp ru rv (λj v hj=>by grind) (λj v hj=>by grind) aa (λj f d h1 h2=>by
    have:=hf j f d h1 h2;simpa using this)
   rw[← Array.forIn_toList];rw[gW P _ _ _ this];cases p<;>rfl
  exact hg 9998
 have guard:pv P (eqGuard op t ox oy (.agg ⟨us'⟩) (.agg ⟨vs'⟩))=Wf ():=by
  unfold eqGuard
  have:pv P (do
    let __do_lift ← program
    let __do_lift_1 ← program
    if (!__do_lift.eqGuardType __do_lift_1.depth t)=Th then pure ()else do
     if ← Op.eqGuardIn Op.maxDepth t (.agg ⟨us'⟩) (.agg ⟨vs'⟩)then unsupported (.noEntry "binop/eql: two nil values of an interface type with methods, in a part of a struct or an array"):Sem Unit)=Wf ():=by
   rw[gW P _ _ P aM,gW P _ _ P aM,hgd];rfl
  cases op<;>first|rfl|exact this
 have pl:∀{p:Bool},pB z us vs=Wf p→eH us'=Th∧eH vs'=Th:=by
  have:∀(z:List D)(us vs:List V)(us' vs':au)(p:Bool),pB z us vs=Wf p→aK φ F H h us us'→aK φ F H h vs vs'→eH us'=Th∧eH vs'=Th:=by
   intro z
   induction z with
   | nil=>
    intro us vs us' vs' p he hu hv;cases us with
    | nil=>cases vs with
     |nil=>simp[aK]at hu hv;subst hu;subst hv;trivial
     |cons=>trivial
    |cons=>trivial
   | cons d z ih=>
    intro us vs us' vs' p he hu hv;obtain⟨x,l,y,m,q,rfl,rfl,hq,he⟩:=YE he;simp[aK,RV]at hu hv;obtain⟨x',l',rfl,rx,rl⟩:=hu;obtain⟨y',m',rfl,ry,rm⟩:=hv
    .obtain⟨h1,h2⟩:=ih _ _ _ _ _ hq rl rm
     have:plain x'=Th∧plain y'=Th:=by
      unfold yZ at he;split at he
      .simp[RD]at rx ry;subst rx;subst ry;trivial
      .simp[RD]at rx ry;subst rx;subst ry;trivial
      .simp[RD]at rx ry;subst rx;subst ry;trivial
      .cases he
     grind[eH]
  intro p hp;exact this z us vs us' vs' p hp ru rv
 have fin:∀(p q:Bool),pB z us vs=Wf p→pv P (binOp op t (.agg ⟨us'⟩) (.agg ⟨vs'⟩))=Wf (.bool q)→∃w,kI P op t ox oy (.agg ⟨us'⟩) (.agg ⟨vs'⟩)=Wf w∧RV φ F H h (.d (.bool q)) w:=by
  intro p q hp hq;refine⟨.bool q,?_,mT.2 rfl⟩;obtain⟨h1,h2⟩:=pl hp;unfold kI;have a1:plain (.agg ⟨us'⟩)=Th:=by simp[plain,h1]
  have a2:plain (.agg ⟨vs'⟩)=Th:=by simp[plain,h2]
  rw[a1,a2];simp[Ws,iT];rw[gW P _ _ _ guard,hq];rfl
 split at hv
 .rename_i p hp;cases hv;refine fin p p hp ?_
  show pv P (do pure (vl.bool (← Op.equal t _ _)))=_
  rw[gW P _ _ _ (key p hp)];rfl
 .rename_i p hp;cases hv;refine fin p (!p) hp ?_
  show pv P (do pure (vl.bool (!(← Op.equal t _ _))))=_
  rw[gW P _ _ _ (key p hp)];rfl
 trivial
theorem SL{ms:_}(hd:P.underlying t=Wf (.interface ms)):pv P (Op.equal t .nilIface .nilIface)=Wf Th:=by
 have hg:∀n,pv P (Op.equalIn (n+1) t .nilIface .nilIface)=Wf Th:=λn=>by
  rw[Op.equalIn,gW P _ _ _ (pY hd)];rfl
 exact hg 9999
theorem apD(ht:∃ms,P.underlying t=Wf (.interface ms))(hv:pI op x y=Wf v)(hx:RV φ F H h x x')(hy:RV φ F H h y y'):
  ∃w,kI P op t ox (.const cv) x' y'=Wf w∧RV φ F H h v w:=by
 obtain⟨ms,ht⟩:=ht;unfold pI at hv;split at hv
 .have e1:x'=.nilIface:=by simp[RV,RD]at hx;exact hx.1
  have e2:y'=.nilIface:=by simp[RV,RD]at hy;exact hy.1
  subst e1;subst e2
  have hg:∀op:bO,eqGuard op t ox (.const cv) .nilIface .nilIface=pure ():=λop=>by
   cases op<;>cases ox<;>rfl
  split at hv
  .cases hv;refine⟨.bool Th,zp rfl rfl (hg _) ?_ rfl,mT.2 rfl⟩
   show pv P (do pure (vl.bool (<-Op.equal t .nilIface .nilIface)))=_
   rw[gW P _ _ _ (SL ht)];rfl
  .cases hv;refine⟨.bool SM,zp rfl rfl (hg _) ?_ rfl,mT.2 rfl⟩
   show pv P (do pure (vl.bool (!(<-Op.equal t .nilIface .nilIface))))=_
   rw[gW P _ _ _ (SL ht)];rfl
  trivial
 trivial
theorem TZ{ts:Array tI}{l:List V}(g:Bool)(hv:gk g l=Wf v)(hl:aK φ F H h l l'):
  ∃w,fM P H (if g then .max else .min) ts t l'=Wf (w,H)∧RV φ F H h v w:=by
 unfold gk at hv;split at hv
 .rename_i k a;cases hv;obtain⟨x,xs,rfl,hx,hxs⟩:=hl;simp[aK]at hxs;subst hxs;rw[ig]at hx;subst hx;refine⟨.int k a,?_,ig.2 rfl⟩;cases g<;>rfl
 .rename_i k a k' b l;obtain⟨x,xs,rfl,hx,y,ys,rfl,hy,hys⟩:=hl;rw[ig]at hx hy;subst hx;subst hy;split at hv
  .cases hv;simp[aK]at hys;subst hys;refine⟨.int k (jQ g a b),?_,ig.2 rfl⟩;cases g<;>rfl
  .rename_i k2 c;cases hv;obtain⟨z,zs,rfl,hz,hzs⟩:=hys;simp[aK]at hzs;subst hzs;rw[ig]at hz;subst hz;refine⟨.int k (jQ g (jQ g a b) c),?_,ig.2 rfl⟩;cases g<;>rfl
  trivial
 trivial
theorem apy(hv:j7 op x y=Wf v)(hx:RV φ F H h x x')(hy:RV φ F H h y y'):
    ∃w,kI P op t ox oy x' y'=Wf w∧RV φ F H h v w:=by
  unfold j7 at hv;split at hv
  · rename_i a b
    rw[sj]at hx hy;subst hx;subst hy;have hl:∀l:bA,(ByteArray.mk ⟨l⟩).toList=l:=λl=>by rw[ByteArray.toList_eq]
    have hb:binOp op t (.string ⟨⟨a⟩⟩) (.string ⟨⟨b⟩⟩)=Op.stringOp op ⟨⟨a⟩⟩ ⟨⟨b⟩⟩:=by cases op<;>rfl
    split at hv
    · rename_i d hd
      cases hv;unfold J4 at hd
      have fin:∀w,pv P (Op.stringOp op ⟨⟨a⟩⟩ ⟨⟨b⟩⟩)=Wf w->plain w=Th->RV φ F H h (.d d) w->∃w,kI P op t ox oy (.string ⟨⟨a⟩⟩) (.string ⟨⟨b⟩⟩)=Wf w∧RV φ F H h (.d d) w:=
        λw h1 h2 h3=>⟨w,zp rfl rfl (alm _ _ _ _ _ _) ae h2,h3⟩
      split at hd
      · split at hd
        · rename_i Fm
          cases hd;refine fin (.string (⟨⟨a⟩⟩++⟨⟨b⟩⟩)) ?_ rfl ?_
          · have:¬(((ByteArray.mk ⟨a⟩).size+(ByteArray.mk ⟨b⟩).size:Nat):Int)>iK.i64.max:=by
              show ¬((RW a+RW b:Nat):Int)>9223372036854775807
              omega
            simp only[Op.stringOp,this,iF];rfl
          rfl
        trivial
      all_goals first
        | (cases hd
           refine fin _ (by simp only[Op.stringOp,hl];rfl) rfl ?_;rw[mT])
        |cases hd
    trivial
  trivial
theorem GT{H':AH}(I:Inv φ F G H h)(hq:yk h x=Wf q)(hx:RV φ F H h x x'):∃a b c,x'=.slice a b c∧q=a.isNone:=by
 unfold yk at hq;split at hq
 .grind[RV,RD]
 .cases hq;simp only[RV,RD]at hx;rcases hx with⟨h0,_⟩|⟨c,o,cap,vs,n,rfl,_⟩
  .omega
  simp
 .grind[RV]
 .rename_i s e off len cap tot;split at hq
  .rename_i n cs ex fr hg;split at hq
   .rename_i ht;cases hq;simp only[RV]at hx;have:=(hx.2.2 (RW cs) (by rw[hg];rfl)).2 ht
    grind
   trivial
  trivial
 trivial
theorem SK{e:tI}(hd:P.underlying t=Wf (.slice e))(a b c d:Nat):pv P (Op.equal t (.slice Vc a b) (.slice Vc c d))=Wf Th:=by
 have hg:∀n,pv P (Op.equalIn (n+1) t (.slice Vc a b) (.slice Vc c d))=Wf Th:=λn=>by
  rw[Op.equalIn,gW P _ _ _ (pY hd)];rfl
 exact hg 9999
theorem GV{e:tI}(hd:P.underlying t=Wf (.slice e))(ox oy:oP)(a b:Option Addr)(n m c d:Nat)(hab:a=Vc∨b=Vc):
  kI P .eql t ox oy (.slice a n m) (.slice b c d)=Wf (.bool (a.isNone&&b.isNone))∧kI P .neq t ox oy (.slice a n m) (.slice b c d)=Wf (.bool !(a.isNone&&b.isNone)):=by
 cases a with
 | none=>
  cases b with
  | none=>
   constructor
   .refine zp rfl rfl rfl ?_ rfl
    show pv P (do pure (vl.bool (<-Op.equal t (.slice Vc n m) (.slice Vc c d))))=_
    rw[gW P _ _ _ (SK hd n m c d)];rfl
   .refine zp rfl rfl rfl ?_ rfl
    show pv P (do pure (vl.bool (!(<-Op.equal t (.slice Vc n m) (.slice Vc c d)))))=_
    rw[gW P _ _ _ (SK hd n m c d)];rfl
  |some b=>simp[kI,plain,Dn,kV,hd,isNil]
 | some a=>
  cases b with
  |none=>simp[kI,plain,Dn,kV,hd,isNil]
  |some b=>rcases hab with h|h<;>cases h
theorem apA(hv:OD h op x y=Wf v):∃p q,yk h x=Wf p∧yk h y=Wf q∧(p=Th∨q=Th) ∧
  ((op=.eql∧v=.d (.bool (p&&q)))∨(op=.neq∧v=.d (.bool !(p&&q)))):=by
 unfold OD at hv
 grind
theorem aiv(I:Inv φ F G H h){e:tI}(hd:P.underlying t=Wf (.slice e)){k:V->Prop}(hk:qe h op x y k)(hx:RV φ F H h x x')(hy:RV φ F H h y y'):
  ∃v w,k v∧kI P op t ox oy x' y'=Wf w∧RV φ F H h v w:=by
 unfold qe at hk;split at hk
 .rename_i v hv;obtain⟨p,q,h1,h2,hpq,ho⟩:=apA hv;obtain⟨a,n,m,rfl,q1⟩:=GT (H':=H) I h1 hx;obtain⟨b,c,d,rfl,q2⟩:=GT (H':=H) I h2 hy
  have hn:a=Vc∨b=Vc:=by
   rcases hpq with e|e
   .left;rw[e]at q1;cases a
    .rfl
    trivial
   .right;rw[e]at q2;cases b
    .rfl
    trivial
  subst q1 q2;rcases ho with⟨rfl,rfl⟩|⟨rfl,rfl⟩
  .grind[GV,mT]
  .exact⟨_,_,hk,(GV hd ox oy a b n m c d hn).2,mT.2 rfl⟩
 ·have emp:ML x=Th->∃a n m,x'=.slice a n m:=by
   intro he;unfold ML at he;split at he
   .simp only[RV,RD]at hx;rcases hx with⟨_,_,e|⟨c,o,cap,e,_⟩⟩|⟨c,o,cap,vs,n,e,_⟩<;>exact⟨_,_,_,e⟩
   .cases he
  split at hk
  .rename_i h1 h2 _;obtain⟨a,n,m,rfl⟩:=emp h1;obtain⟨b,c,d,rfl,q2⟩:=GT (H':=H) I h2 hy
   have hb:b=Vc:=by
    cases b
    .rfl
    .cases q2
   exact⟨_,_,hk _,(GV hd ox oy a b n m c d (.inr hb)).1,mT.2 rfl⟩
  .rename_i h1 h2 _;obtain⟨a,n,m,rfl⟩:=emp h1;obtain⟨b,c,d,rfl,q2⟩:=GT (H':=H) I h2 hy
   have hb:b=Vc:=by
    cases b
    .rfl
    .cases q2
   exact⟨_,_,hk _,(GV hd ox oy a b n m c d (.inr hb)).2,mT.2 rfl⟩
  trivial
theorem acy{op:UnOp}(hv:gL op x=Wf v)(hx:RV φ F H h x x'):
  plain x'=Th∧∃w,sE (pv P (Op.unary op x'))=Wf w∧RV φ F H h v w:=by
 unfold gL at hv;split at hv
 .rw[mT]at hx;subst hx;split at hv
  .cases hv;exact⟨rfl,_,rfl,mT.2 rfl⟩
  trivial
 .rename_i k n;rw[ig]at hx;subst hx;refine⟨rfl,?_⟩;split at hv
  .obtain⟨w,hw,hr⟩:=KM (φ:=φ) (F:=F) (H:=H) (h:=h) hv λx hx=>MN hx
   refine⟨w,?_,hr⟩;simp only[iR,ne_eq,not_true_eq_false,iF,Z9]at hw;subst hw;rfl
  .obtain⟨w,hw,hr⟩:=KM (φ:=φ) (F:=F) (H:=H) (h:=h) hv λx hx=>MN hx
   refine⟨w,?_,hr⟩;simp only[iR,ne_eq,not_true_eq_false,iF,Z9]at hw;subst hw;rfl
  trivial
 trivial
end
section
variable{φ:ax}{F G:Nat->Prop}{H:AH}{h:Hp}
theorem aop{s d:tI}{k k0:iK}(hs:P.underlying s=Wf (.int k0))(hd:P.underlying d=Wf (.int k))(hv:ft k x=Wf v)(hx:RV φ F H h x x'):
  ∃w,oH P H s d x'=Wf (w,H)∧RV φ F H h v w:=by
 unfold ft at hv;split at hv
 .rename_i k1 n;cases hv;rw[ig]at hx;subst hx;refine⟨.int k (k.wrap n),?_,ig.2 rfl⟩;unfold oH;rw[hs,hd]
  have:pv P (convert s d (.int k1 n))=Wf (.int k (k.wrap n)):=by
   unfold convert;rw[gW P _ _ _ (pY hs),gW P _ _ _ (pY hd)];rfl
  grind[plain,sE]
 trivial
theorem aoo{s d:tI}(hs:P.underlying s=Wf .string)(hd:P.underlying d=Wf .string)(hv:N8 x=Wf v)(hx:RV φ F H h x x'):
  ∃w,oH P H s d x'=Wf (w,H)∧RV φ F H h v w:=by
 unfold N8 at hv;split at hv
 .rename_i t;cases hv;rw[sj]at hx;subst hx;refine⟨.string ⟨⟨t⟩⟩,?_,sj.2 rfl⟩;unfold oH;rw[hs,hd]
  have:pv P (convert s d (.string ⟨⟨t⟩⟩))=Wf (.string ⟨⟨t⟩⟩):=by
   unfold convert;rw[gW P _ _ _ (pY hs),gW P _ _ _ (pY hd)];rfl
  grind[plain,sE]
 trivial
theorem K5{b o:Nat}{vs:au}(hr:cX H b o n=Wf vs){i:Nat}(hi:i+m<=n):cX H b (o+i) m=Wf ((vs.drop i).take m):=by
 unfold cX at hr ⊢;split at hr
 .rename_i x hx;split at hr
  .rename_i hc;cases hr;rw[ip ⟨hc.1,aa⟩]
   grind[List.drop_take,List.drop_drop]
  trivial
 trivial
theorem ag6{b o:Nat}{vs:au}(hr:cX H b o n=Wf vs):RW vs=n:=by grind[cX]
theorem oY{b:Nat}{x:bv}(hx:H.get b=Wf x)(h1:x.st=1){o:Nat}(hn:o+n<=RW x.cells):cX H b o n=Wf ((x.cells.drop o).take n):=by grind[cX]
theorem sC(I:Inv φ F G H h){cap:Nat}{v:vl}(hx:RV φ F H h (.ref s e off len cap tot) v)(hg:aH h s e=.data n cs ex fr)(ht:tot=RW cs):
  v=.slice (Wf ⟨φ.getD s 0,off,Vc⟩) len cap∧∃x,H.get (φ.getD s 0)=Wf x∧x.st=1∧bj F H cs x.cells∧(fr=SM∨ex=Th->x.exact=ex)∧(ex=SM->x.exact=Th∨x.esz=n)∧0<n∧(fr=Th->F (φ.getD s 0))∧(fr=SM->x.wr=Th):=by simp only[RV]at hx;refine⟨(hx.2.2 (RW cs) (by rw[hg];rfl)).2 ht,?_⟩;exact I.blk s e _ (lj ac hg)
theorem C8(I:Inv φ F G H h){v:vl}(hx:RV φ F H h (.ptr s e off tot) v)(hg:aH h s e=.data n cs ex fr)(ht:tot=RW cs):
  v=.pointer (Wf ⟨φ.getD s 0,off,Vc⟩)∧∃x,H.get (φ.getD s 0)=Wf x∧x.st=1∧bj F H cs x.cells∧(fr=SM∨ex=Th->x.exact=ex)∧(ex=SM->x.exact=Th∨x.esz=n)∧0<n∧(fr=Th->F (φ.getD s 0))∧(fr=SM->x.wr=Th):=by simp only[RV]at hx;refine⟨(hx.2.2 (RW cs) (by rw[hg];rfl)).2 ht,?_⟩;exact I.blk s e _ (lj ac hg)
theorem Gu(I:Inv φ F G H h){cs:List V}{v:vl}(hx:RV φ F H h (.ptr s e off tot) v)(hg:aH h s e=.vars cs)(ht:tot=RW cs):
  v=.pointer (Wf ⟨φ.getD s 0,off,Vc⟩)∧∃x,H.get (φ.getD s 0)=Wf x∧x.st=1∧x.wr=Th∧(x.exact=Th∨x.esz=1)∧aK φ F H h cs x.cells:=by simp only[RV]at hx;refine⟨(hx.2.2 (RW cs) (by rw[hg];rfl)).2 ht,?_⟩;exact I.blk s e _ (lj ac hg)
theorem Oj(I:Inv φ F G H h)(hc:cellsOf h x=Wf (len,cs))(hx:RV φ F H h x x')(n:Nat)(hn:RW cs=len*n):
  ∃vs,fH H n x'=Wf (len,vs)∧bj F H cs vs:=by
 have nilc:cs=[]->len=0->(∃c o cap,x'=.slice (Wf ⟨c,o,Vc⟩) 0 cap)∨x'=.slice Vc 0 0->∃vs,fH H n x'=Wf (len,vs)∧bj F H cs vs:=by
  rintro rfl rfl (⟨c,o,cap,rfl⟩|rfl)
  .simp[fH,bj]
  .simp[fH,bj]
 unfold cellsOf at hc;split at hc
 .rename_i l ds;cases hc;simp only[RV,RD]at hx;rcases hx with⟨rfl,rfl,e|⟨c,o,cap,e,_⟩⟩|⟨c,o,cap,vs,m,rfl,hl,_,hm,Rg,hF,hr,hd,_⟩
  .grind
  .simp_all
  .refine⟨vs,?_,hd⟩;simp[fH];rw[iN aa,<-hn,hr];rfl
 .grind[RV,RD]
 .cases hc;simp only[RV]at hx;obtain⟨c,o,x,rfl,_⟩:=hx
  simp_all
 .rename_i s e off l2 cap tot;split at hc
  .rename_i m ds ex fr hg;split at hc
   .rename_i ht;cases hc;obtain⟨rfl,y,hy,hy1,hd,_⟩:=sC I hx hg ht.1;by_cases h0:len=0
    .subst h0;exact nilc ac rfl (.inl ⟨_,_,_,rfl⟩)
    ·have e1:len*m=len*n:=by
      rw[<-hn,Zp,Yl];omega
     refine⟨(y.cells.drop off).take (len*m),?_,(hd.drop off).take _⟩
     grind[fH,oY,bj.length]
   trivial
  trivial
 trivial
theorem aaJ:∀{cs:List D}{vs:au}{t:bA},bytesD cs=Wf t->bj F H cs vs->bytesOf vs=Wf t
 |[],_,t,ht,r=>by grind[bj,bytesD,bytesOf]
 | x::cs,_,t,ht,r=>by
  simp[bj]at r;obtain⟨v,vs,rfl,r1,r2⟩:=r;unfold bytesD at ht;split at ht
  .trivial
  .rename_i n l e;cases e;split at ht
   .rename_i hn;split at ht
    .rename_i q hq;cases ht;simp[RD]at r1;subst r1;simp[bytesOf,Oz,hn,and_self,iT,aaJ hq r2]
    trivial
   trivial
  trivial
theorem aom(I:Inv φ F G H h){s d e:tI}(hs:P.underlying s=Wf (.slice e))(he:P.underlying e=Wf (.int .u8))(hd:P.underlying d=Wf .string)(hv:nP h x=Wf v)(hx:RV φ F H h x x'):
  ∃w,oH P H s d x'=Wf (w,H)∧RV φ F H h v w:=by
 unfold nP at hv;split at hv
 .rename_i len cs hc;split at hv
  case isFalse=>cases hv
  rename_i Rg;split at hv
  .rename_i t ht;cases hv;obtain⟨vs,hsrc,hr⟩:=Oj I hc hx 1 aa;have hb:=aaJ ht hr;refine⟨.string ⟨⟨t⟩⟩,?_,sj.2 rfl⟩
   have hsh:(∃c o cap,x'=.slice (Wf ⟨c,o,Vc⟩) len cap∧(len=0->there H (Wf ⟨c,o,Vc⟩)=Th))∨x'=.slice Vc 0 0:=by
    have thr:∀{c o y},H.get c=Wf y->y.st≠0->there H (Wf ⟨c,o,Vc⟩)=Th:=λhy h0=>by grind[there]
    unfold cellsOf at hc;split at hc
    .cases hc;simp only[RV,RD]at hx;rcases hx with⟨rfl,rfl,e|⟨c,o,cap,e,y,hy,h0⟩⟩|⟨c,o,cap,vs,m,rfl,hl,_⟩
     .grind
     .grind
     .exact .inl ⟨c,o,cap,rfl,λe=>by omega⟩
    .grind[RV,RD]
    .cases hc;simp only[RV]at hx;obtain⟨c,o,y,rfl,_,hy,h1,_⟩:=hx;exact .inl ⟨c,o,0,rfl,λ_=>thr hy aa⟩
    .split at hc
     .rename_i hg;split at hc
      .rename_i htt;cases hc;obtain⟨rfl,y,hy,hy1,_⟩:=sC I hx hg htt.1;exact .inl ⟨_,_,_,rfl,λ_=>thr hy aa⟩
      trivial
     trivial
    .cases hc
   unfold oH;rw[hs,hd];rcases hsh with⟨c,o,cap,rfl,hth⟩|rfl
   .simp[he];by_cases h0:len=0
    .subst h0
     have:t=[]:=by
      have:cs=[]:=Zn Rg;subst this;simpa[bytesD]using ht.symm
     grind[bytesOf]
    grind[fH]
   .simp only[he];simp only[fH,Z9,Z5]at hsrc;obtain⟨h0,h1⟩:=hsrc;subst h1;simp only[bytesOf,Z9]at hb;subst hb;rfl
  trivial
 trivial
theorem Lf{v:vl}(hx:RV φ F H h (.ptr s e off tot) v)(d:Nat):∃b o,v=.pointer (Wf ⟨b,o,Vc⟩)∧RV φ F H h (.ptr s e (off+d) tot) (.pointer (Wf ⟨b,o+d,Vc⟩)):=by
 simp only[RV]at hx ⊢
 grind
theorem Nh{P:pG}{gs:Array Field}{fs:List (Nat×Nat)}(hg:gs.toList.map (λf=>(f.offset,cn P f.type))=fs.map λp=>(p.1,Wf p.2))
  {f off sz:Nat} (hf:fs[f]?=Wf (off,sz)):∃fd,gs[f]?=Wf fd∧fd.offset=off∧cn P fd.type=Wf sz:=by
 have:=RT (·[f]?) hg
 grind
theorem amx{P:pG}{t:tI}{gs:Array Field}{fs:List (Nat×Nat)}(hu:P.underlying t=Wf (.struct gs))(hg:gs.toList.map (λf=>(f.offset,cn P f.type))=fs.map λp=>(p.1,Wf p.2))
  {f off sz:Nat} (hf:fs[f]?=Wf (off,sz)) (h0:sz≠0) {x v:V} {x':vl} (hv:ik off x=Wf v) (hx:RV φ F H h x x'):∃w,BO P t x' f=Wf w∧RV φ F H h v w:=by
 obtain⟨fd,hfd,rfl,hsz⟩:=Nh hg hf;obtain⟨m,rfl⟩:=Nat.exists_eq_succ_of_ne_zero h0;unfold ik at hv;split at hv
 .rename_i s e o tot;cases hv;obtain⟨b,q,rfl,hr⟩:=Lf hx fd.offset
  simp_all[BO]
 .rename_i cs o;cases hv;simp only[RV]at hx;obtain⟨c,q,vs,rfl,hF,hr,hd⟩:=hx;refine⟨_,by simp only[BO,hu,hfd,hsz];rfl,?_⟩
  grind[RV]
 trivial
theorem aix(hv:ik 0 x=Wf v)(hx:RV φ F H h x x'):∃p,x'=.pointer (Wf p)∧RV φ F H h v x':=by
 unfold ik at hv;split at hv
 .cases hv;obtain⟨b,q,rfl,hr⟩:=Lf hx 0
  grind
 .grind[RV]
 trivial
theorem akD{P:pG}(I:Inv φ F G H h){t e:tI}{n:Nat}(hu:P.underlying t=Wf (.slice e))(hn:cn P e=Wf n){x i v:V}{x' i':vl}(hv:bC h n x i=Wf v)
  (hx:RV φ F H h x x') (hi:RV φ F H h i i'):∃w,sS P t x' i'=Wf w∧RV φ F H h v w:=by
 unfold bC at hv;split at hv
 .rename_i len cs k i;split at hv
  .rename_i hc;cases hv;rw[ig]at hi;subst hi;simp only[RV,RD]at hx;rcases hx with⟨h0,_⟩|⟨c,o,cap,vs,m,rfl,hl,hcap,hm,Rg,hF,hr,hd,_⟩
   .omega
   .refine⟨_,by simp only[sS,hu,hn];rw[ip ⟨hc.1,hc.2.1⟩],?_⟩
    grind[RV]
  trivial
 .rename_i s e off len cap tot k i;split at hv
  .rename_i m cs ex fr hg;split at hv
   .rename_i hc;cases hv;rw[ig]at hi;subst hi;obtain⟨rfl,_⟩:=sC I hx hg hc.1;refine⟨_,by simp only[sS,hu,hn];rw[ip hc.2],?_⟩
    grind[RV]
   trivial
  .rename_i cs hg;split at hv
   .rename_i hc;cases hv;rw[ig]at hi;subst hi
    have hw:x'=.slice (Wf ⟨φ.getD s 0,off,Vc⟩) len cap:=by
     simp only[RV]at hx;exact(hx.2.2 (RW cs) (by rw[hg];rfl)).2 hc.1
    subst hw;refine⟨_,by simp only[sS,hu,hn];rw[ip hc.2],?_⟩
    grind[RV]
   trivial
  trivial
 trivial
theorem akH{P:pG}{t e:tI}{len n:Nat}(hu:P.underlying t=Wf (.array len e))(hn:cn P e=Wf n){x i v:V}{x' i':vl}(hv:m5 len n x i=Wf v)
  (hx:RV φ F H h x x') (hi:RV φ F H h i i'):∃w,sS P t x' i'=Wf w∧RV φ F H h v w:=by
 unfold m5 at hv;split at hv
 .split at hv
  .rename_i hc;cases hv;rw[ig]at hi;subst hi;obtain⟨b,q,rfl,hr⟩:=Lf hx (Int.toNat _*n);exact⟨_,by simp_all[sS],hr⟩
  trivial
 .split at hv
  .rename_i hc;cases hv;rw[ig]at hi;subst hi;simp only[RV]at hx;obtain⟨c,q,vs,rfl,hF,hr,hd⟩:=hx;refine⟨_,by simp only[sS,hu,hn];rw[ip hc],?_⟩;simp only[RV];exact⟨c,q,vs,by rw[Xl],hF,hr,hd⟩
  trivial
 trivial
theorem akG(hu:P.underlying t=Wf .string){i:V}(hv:fF x i=Wf v)(hx:RV φ F H h x x')(hi:RV φ F H h i i'):
  ∃w,yR P t x' i'=Wf w∧RV φ F H h v w:=by
 unfold fF at hv;split at hv
 .rename_i s k i;split at hv
  .rename_i h0;split at hv
   .rename_i b hb;cases hv;rw[ig]at hi;rw[sj]at hx;subst hi;subst hx;refine⟨.int .u8 b.toNat,?_,ig.2 rfl⟩;simp[yR,hu,h0,iT]
    have:(ByteArray.mk ⟨s⟩)[i.toNat]?=Wf b:=by
     rw[<-hb];by_cases hl:i.toNat<RW s
     .rw[getElem?_pos (ByteArray.mk ⟨s⟩) i.toNat hl,List.getElem?_eq_getElem hl];rfl
     .rw[getElem?_neg (ByteArray.mk ⟨s⟩) i.toNat hl,List.getElem?_eq_none aa]
    grind
   trivial
  trivial
 trivial
theorem ajL{o:Nat}{vs:au}(hr:cX H c o (RW cs)=Wf vs)(hd:bj F H cs vs){i:Nat}{x:D}(hx:cs[i]?=Wf x):∃w,cX H c (o+i) 1=Wf [w]∧RD F H x w:=by
 obtain⟨w,hw,hrd⟩:=hd.get hx;refine⟨w,?_,hrd⟩;have:=gD hx;rw[K5 hr aa]
 grind[Yw]
theorem Vb{b:Nat}{y:bv}(hy:H.get b=Wf y)(h1:y.st=1)(hw:y.cells[off]?=Wf w):cX H b off 1=Wf [w]:=by
 have hl:=gD hw;rw[oY hy h1 aa]
 grind[Yw]
theorem ajQ(I:Inv φ F G H h)(hv:ld1 h x=Wf v)(hx:RV φ F H h x x'):∃b off w,x'=.pointer (Wf ⟨b,off,Vc⟩)∧cX H b off 1=Wf [w]∧RV φ F H h v w:=by
 unfold ld1 at hv;split at hv
 .split at hv
  .rename_i cs hg;split at hv
   .rename_i ht;obtain⟨rfl,y,hy,h1,_,_,hr⟩:=Gu I hx hg ht
    grind[aK.get,Vb]
   trivial
  .rename_i hg;split at hv
   .rename_i ht;split at hv
    .rename_i x hx0;cases hv;obtain⟨rfl,y,hy,h1,hr,_⟩:=C8 I hx hg ht;obtain⟨w,hw,hrw⟩:=hr.get hx0;exact⟨_,_,w,rfl,Vb hy h1 hw,cU⟩
    trivial
   trivial
  trivial
 .grind[RV,ajL]
 trivial
theorem El{α:Type}{l r:List α}(h:cut l off n=Wf r):off+n<=RW l∧r=(l.drop off).take n:=by grind[cut]
theorem ajM(I:Inv φ F G H h)(hv:aG h n x=Wf v)(hx:RV φ F H h x x'):
  ∃b off ws l,x'=.pointer (Wf ⟨b,off,Vc⟩)∧cX H b off n=Wf ws∧v=.agg l∧aK φ F H h l ws:=by
 unfold aG at hv;split at hv
 .split at hv
  .rename_i cs hg;split at hv
   .rename_i ht;split at hv
    .rename_i l hl;cases hv;obtain⟨hb,rfl⟩:=El hl;obtain⟨rfl,y,hy,h1,_,_,hr⟩:=Gu I hx hg ht;exact⟨_,_,_,_,rfl,oY hy h1 (by grind[aK.length]),rfl,(hr.drop _).take _⟩
    trivial
   trivial
  .rename_i hg;split at hv
   .rename_i ht;split at hv
    .rename_i l hl;cases hv;obtain⟨hb,rfl⟩:=El hl;obtain⟨rfl,y,hy,h1,hr,_⟩:=C8 I hx hg ht;exact⟨_,_,_,_,rfl,oY hy h1 (by grind[bj.length]),rfl,aK.ofD ((hr.drop _).take _)⟩
    trivial
   trivial
  trivial
 .split at hv
  .rename_i l hl;cases hv;obtain⟨hb,rfl⟩:=El hl;simp only[RV]at hx;obtain⟨c,o,vs,rfl,hF,hr,hd⟩:=hx;exact⟨_,_,_,_,rfl,K5 hr hb,rfl,aK.ofD ((hd.drop _).take _)⟩
  trivial
 trivial
theorem UF(I:Inv φ F G H h)(hu:P.underlying t=Wf d)(hna:∀gs,d≠.struct gs)(hnb:∀n e,d≠.array n e)(hv:ld1 h x=Wf v)(hx:RV φ F H h x x'):
  ∃w,qg P H t x'=Wf w∧RV φ F H h v w:=by obtain⟨b,off,w,rfl,hr,hw⟩:=ajQ I hv hx;refine⟨w,?_,hw⟩;simp[qg,hu];cases d<;>first|exact absurd rfl (hna _)|exact absurd rfl (hnb _ _)|simp[hr]
theorem UE(I:Inv φ F G H h)(hu:(∃gs,P.underlying t=Wf (.struct gs))∨∃k e,P.underlying t=Wf (.array k e))(hn:cn P t=Wf n)(hv:aG h n x=Wf v)(hx:RV φ F H h x x'):
  ∃w,qg P H t x'=Wf w∧RV φ F H h v w:=by obtain⟨b,off,ws,l,rfl,hr,rfl,hw⟩:=ajM I hv hx;refine⟨.agg ws.toArray,?_,by grind[RV]⟩;rcases hu with⟨gs,hu⟩|⟨k,e,hu⟩<;>(simp only[qg,hu];rw[hn];show(do let cs <-cX H b off n;Wf (vl.agg cs.toArray))=_;rw[hr];rfl)
end
section
variable{φ:ax}{F G:Nat->Prop}{H:AH}{h:Hp}
theorem me{d:Nat}{x:Option V}{x':Option vl}{i:Nat}(hb:eG d top x=Wf i)(hx:∀v,x=Wf v->∃w,x'=Wf w∧RV φ F H h v w)(hn:x=Vc->x'=Vc):fe d top x'=Wf i:=by
 unfold eG at hb;split at hb
 .cases hb;rw[hn rfl];rfl
 .rename_i k n;obtain⟨w,rfl,hw⟩:=hx _ rfl;rw[ig]at hw;subst hw;exact hb
 trivial
theorem uQ{d:Nat}{x:Option V}{i:Nat}(hb:eG d top x=Wf i)(hd:d<=top):i<=top:=by
 unfold eG at hb
 grind
structure rN(φ:ax)(F:Nat->Prop)(H:AH)(h:Hp)(x:Option V)(x':Option vl):Prop where
 some:∀v,x=Wf v->∃w,x'=Wf w∧RV φ F H h v w
 none:x=Vc->x'=Vc
theorem afg(hu:P.underlying t=Wf .string){lo hi:Option V}(hv:nB x lo hi=Wf v)(hx:RV φ F H h x x')(hl:rN φ F H h lo lo')(hh:rN φ F H h hi DE):
  ∃w,kq P H t x' lo' DE Vc=Wf w∧RV φ F H h v w:=by
 unfold nB at hv;split at hv
 .rename_i s;split at hv
  .rename_i j hj;split at hv
   .rename_i i hi0;cases hv;rw[sj]at hx;subst hx;have e1:=me hj hh.some hh.none;have e2:=me hi0 hl.some hl.none;have hij:i<=j:=uQ hi0 (Zb _);have hjs:j<=RW s:=uQ hj (Z8 _);refine⟨.string ((ByteArray.mk ⟨s⟩).extract i j),?_,?_⟩
    .simp only[kq,hu,Option.isSome_none,Zg,iF]
     show(do let h <-fe (RW s) (RW s) DE;let l <-fe 0 h lo';Wf (vl.string ((ByteArray.mk ⟨s⟩).extract l h)))=_
     grind
    .rw[sj];congr 1;apply ByteArray.ext;simp
   trivial
  trivial
 trivial
theorem aff{P:pG}(I:Inv φ F G H h){t e:tI}{n:Nat}(hu:P.underlying t=Wf (.slice e))(hn:cn P e=Wf n){x v:V}{lo hi:Option V}{x':vl}{lo' DE:Option vl}
  (hv:gU h n x lo hi=Wf v) (hx:RV φ F H h x x') (hl:rN φ F H h lo lo') (hh:rN φ F H h hi DE):∃w,kq P H t x' lo' DE Vc=Wf w∧RV φ F H h v w:=by
 have run:∀{b off len cap i j:Nat},len<=cap->(there H (Wf ⟨b,off,Vc⟩)&&sZ H n (Wf ⟨b,off,Vc⟩))=Th->(fe len cap DE=Wf j)->fe 0 j lo'=Wf i ->
   kq P H t (.slice (Wf ⟨b,off,Vc⟩) len cap) lo' DE Vc=Wf (.slice (Wf ⟨b,off+i*n,Vc⟩) (j-i) (cap-i)):=by
  intro b off len cap i j hlc hf e1 e2;simp only[kq,hu];simp only[show fe cap cap Vc=Wf cap from rfl,Option.isSome_none,V8,Zg,iF,Option.bind_eq_bind,Option.bind_some,e1,e2,hn];rw[ip]
  .rfl
  .trivial
 unfold gU at hv;split at hv
 .rename_i len cs;split at hv
  .rename_i j hj;split at hv
   .rename_i i hi0;split at hv
    .rename_i hc;cases hv;have hij:i<=j:=uQ hi0 (Zb _);have hjl:j<=len:=uQ hj (Z8 _);simp only[RV,RD]at hx;rcases hx with⟨h0,_⟩|⟨c,o,cap,vs,m,rfl,hl0,hcap,hm,Rg,hF,hr,hd,y,hy,hfit⟩
     .omega
     .have hmn:m=n:=Xv hl0 aa;subst hmn
      have e1:fe len cap DE=Wf j:=by
       have:=me hj hh.some hh.none;unfold fe at this ⊢;split at this
       .omega
       .split at this
        .rename_i hc2;rw[ip ⟨hc2.1,aa⟩];omega
        trivial
       .omega
      have DB:y.st=1:=by
       unfold cX at hr;rw[hy]at hr;simp only at hr;split at hr
       .omega
       .cases hr
      refine⟨_,run hcap (by simp_all[there,sZ]) e1 (me hi0 hl.some hl.none),?_⟩;simp only[RV,RD];by_cases hz:j-i=0
      .refine .inl ⟨hz,by simp[hz],.inr ⟨c,_,_,by rw[hz],y,hy,aa⟩⟩
      ·have hbd:i*m+(j-i)*m<=RW cs:=by
        rw[Rg,<-Nat.add_mul];exact Zu _ aa
       refine .inr ⟨c,_,_,_,m,rfl,aa,aa,hm,?_,hF,?_,(hd.drop _).take _,y,hy,hfit⟩
       .grind
       ·have el:RW ((cs.drop (i*m)).take ((j-i)*m))=(j-i)*m:=by
         rw[Zp,Yl];omega
        grind[K5]
    trivial
   trivial
  trivial
 .rename_i s e' off len cap tot;split at hv
  .rename_i m cs ex fr hg;split at hv
   .rename_i j hj;split at hv
    .rename_i i hi0;split at hv
     .rename_i hc;cases hv;obtain⟨ht,hlc,rfl⟩:=hc;obtain⟨rfl,y,hy,hy1,hd,hex,hesz,_⟩:=sC I hx hg ht;have hfit:y.exact=Th∨y.esz=m:=by cases ex<;>simp_all
      refine⟨_,run hlc ?_ (me hj hh.some hh.none) (me hi0 hl.some hl.none),?_⟩
      .simp only[there,sZ,hy,hy1]
       grind
      grind[RV]
     trivial
    trivial
   trivial
  .rename_i cs hg;split at hv
   .rename_i j hj;split at hv
    .rename_i i hi0;split at hv
     .rename_i hc;cases hv;obtain⟨ht,hlc,rfl⟩:=hc
      have hw:x'=.slice (Wf ⟨φ.getD s 0,off,Vc⟩) len cap:=by
       simp only[RV]at hx;exact(hx.2.2 (RW cs) (by rw[hg];rfl)).2 ht
      subst hw;obtain⟨y,hy,hy1,hwr,hfit,hd⟩:=I.blk s e' _ (lj ac hg);refine⟨_,run hlc ?_ (me hj hh.some hh.none) (me hi0 hl.some hl.none),?_⟩
      .simp only[there,sZ,hy,hy1]
       grind
      grind[RV]
     trivial
    trivial
   trivial
  trivial
 .split at hv
  .rename_i j hj;split at hv
   .rename_i i hi0;cases hv;simp[RV,RD]at hx;obtain⟨rfl,hp1,hp2⟩:=hx;refine⟨.slice Vc 0 0,?_,cU⟩;have hij:i<=j:=uQ hi0 (Zb _);have hjl:j<=0:=uQ hj (Z8 _);have e1:=me hj hh.some hh.none;have e2:=me hi0 hl.some hl.none;have hj0:j=0:=aa;have hi00:i=0:=aa;subst hj0;subst hi00;simp only[kq,hu]
    simp only[show fe 0 0 Vc=Wf 0 from rfl,Option.isSome_none,V8,Zg,iF,Option.bind_eq_bind,Option.bind_some,e1,e2,hn];rfl
   trivial
  trivial
 trivial
theorem ao0(hv:On x=Wf v)(hx:RV φ F H h x x'):x'=.slice Vc 0 0∧RV φ F H h v (.int .i64 0):=by grind[On,RV,RD]
theorem afe{P:pG}(I:Inv φ F G H h){t e:tI}{n:Nat}(hu:P.underlying t=Wf (.slice e))(hn:cn P e=Wf n){x v mx:V}{lo hi:Option V}{x' mx':vl}{lo' DE:Option vl}
  (hv:xH h n x lo hi mx=Wf v) (hx:RV φ F H h x x') (hl:rN φ F H h lo lo') (hh:rN φ F H h hi DE) (hm:RV φ F H h mx mx'):∃w,kq P H t x' lo' DE (Wf mx')=Wf w∧RV φ F H h v w:=by
 unfold xH at hv;split at hv
 .rename_i s e' off len cap tot;split at hv
  .rename_i m cs ex fr hg;split at hv
   .rename_i mm hmm;split at hv
    .rename_i j hj;split at hv
     .rename_i i hi0;split at hv
      .rename_i hc;cases hv;obtain⟨ht,hlc,rfl,hsm⟩:=hc;obtain⟨rfl,y,hy,hy1,hd,hex,hesz,_⟩:=sC I hx hg ht;have hfit:y.exact=Th∨y.esz=m:=by cases ex<;>simp_all
       have e1:=me hj hh.some hh.none;have e2:=me hi0 hl.some hl.none;have e3:=me (x:=some mx) (x':=Wf mx') hmm (λv hv=>by cases hv;exact⟨mx',rfl,hm⟩) (λe=>by cases e)
       have e4:DE.isNone=SM:=by
        cases DE with
        |some _=>rfl
        | none=>cases hi with
         |none=>cases hsm
         |some z=>grind[rN.some]
       refine⟨.slice (Wf ⟨φ.getD s 0,off+i*m,Vc⟩) (j-i) (mm-i),?_,?_⟩
       .simp only[kq,hu,e3,e4,Wy,Bool.false_and,Zg,iF,Option.bind_eq_bind,Option.bind_some,e1,e2,hn]
        grind[Cf,there]
       grind[RV]
      trivial
     trivial
    trivial
   trivial
  trivial
 .split at hv
  .rename_i mm hmm;split at hv
   .rename_i j hj;split at hv
    .rename_i i hi0;split at hv
     .rename_i hsm;cases hv;simp[RV,RD]at hx;obtain⟨rfl,hp1,hp2⟩:=hx;refine⟨.slice Vc 0 0,?_,cU⟩;have hmm0:mm<=0:=uQ hmm (Z8 _);have hmz:mm=0:=aa;subst hmz;have hij:i<=j:=uQ hi0 (Zb _);have hjl:j<=0:=uQ hj (Z8 _);have e1:=me hj hh.some hh.none;have e2:=me hi0 hl.some hl.none
      have e3:=me (x:=some mx) (x':=Wf mx') hmm (λv hv=>by cases hv;exact⟨mx',rfl,hm⟩) (λe=>by cases e)
      have e4:DE.isNone=SM:=by
       cases DE with
       |some _=>rfl
       | none=>cases hi with
        |none=>cases hsm
        |some z=>grind[rN.some]
      have hj0:j=0:=aa;have hi00:i=0:=aa;subst hj0;subst hi00;simp only[kq,hu,e3,e4,Wy,Bool.false_and,Zg,iF,Option.bind_eq_bind,Option.bind_some,e1,e2,hn];rfl
     trivial
    trivial
   trivial
  trivial
 trivial
theorem afd{P:pG}{t e:tI}{n:Nat}(hu:P.underlying t=Wf (.slice e))(hn:cn P e=Wf n){x v:V}{x':vl}{k:iK}
  (hv:Kq n x=Wf v) (hx:RV φ F H h x x'):∃w,kq P H t x' Vc (Wf (.int k 0)) (Wf (.int k 0))=Wf w∧RV φ F H h v w:=by
 have run:∀{a:Option Addr}{len cap:Nat},len<=cap->(a.map (·.spot)).getD Vc=Vc->there H a=Th ->
   kq P H t (.slice a len cap) Vc (Wf (.int k 0)) (Wf (.int k 0))=Wf (.slice (a.map λa=>Cf a (0*n)) (0-0) (0-0)):=by
  intro a len cap hlc hs ht;simp only[kq,hu,fe,Int.le_refl,true_and,Int.natCast_nonneg,iT,Option.isNone_some,Bool.false_and,Zg,iF,Option.bind_eq_bind,Option.bind_some,hn,Int.toNat_zero,Wy,Bool.true_or,X8];rw[ip ⟨hlc,hs,ht⟩]
 unfold Kq at hv;split at hv
 .rename_i cs;cases hv;simp only[RV,RD]at hx;rcases hx with⟨_,rfl,e|⟨c,o,cap,rfl,y,hy,h0⟩⟩|⟨c,o,cap,vs,m,_,h0,_⟩
  .subst e;refine⟨_,run (Z8 _) rfl rfl,?_⟩;simp only[RV,RD];exact .inl ⟨trivial,trivial,.inl rfl⟩
  .refine⟨_,run (Zb _) rfl (by grind[there]),?_⟩;simp only[RV,RD];exact .inl ⟨trivial,trivial,.inr ⟨c,_,0,rfl,y,hy,h0⟩⟩
  .omega
 .rename_i len cs;split at hv
  .rename_i Rg;cases hv;simp only[RV,RD]at hx;rcases hx with⟨h0,_⟩|⟨c,o,cap,vs,m,rfl,hl0,hcap,hm,hlen',hF,hr,hd,y,hy,hfit⟩
   .omega
   .have hmn:m=n:=Xv hl0 (hlen'.symm.trans Rg);subst hmn
    have DB:y.st=1∧o+RW cs<=RW y.cells:=by
     unfold cX at hr;rw[hy]at hr;simp only at hr;split at hr
     .omega
     .cases hr
    refine⟨_,run hcap rfl (by grind[there]),?_⟩;simp only[RV];refine⟨c,o,y,by simp[Cf],hF,hy,DB.1,?_,hfit⟩;have:0<RW cs:=by rw[hlen'];exact Yk hl0 hm
    omega
  trivial
 trivial
theorem afh{P:pG}(I:Inv φ F G H h){t e:tI}{len n:Nat}(hu:P.underlying t=Wf (.array len e))(hn:cn P e=Wf n){x v:V}{lo hi:Option V}{x':vl}{lo' DE:Option vl}
  (hv:nC len n h x lo hi=Wf v) (hx:RV φ F H h x x') (hl:rN φ F H h lo lo') (hh:rN φ F H h hi DE):∃w,kq P H t x' lo' DE Vc=Wf w∧RV φ F H h v w:=by
 unfold nC at hv;split at hv
 .rename_i s e' off tot;split at hv
  .rename_i m cs ex fr hg;split at hv
   .rename_i j hj;split at hv
    .rename_i i hi0;split at hv
     .rename_i hc;cases hv;obtain⟨rfl,ht,hb⟩:=hc;obtain⟨rfl,y,hy,_⟩:=C8 I hx hg ht;refine⟨.slice (Wf ⟨φ.getD s 0,off+i*m,Vc⟩) (j-i) (len-i),?_,?_⟩
      .simp only[kq,hu,fe,Option.isSome_none,V8,Zg,iF,Option.bind_eq_bind,Option.bind_some];have e1:=me hj hh.some hh.none;have e2:=me hi0 hl.some hl.none
       show((fe len len DE).bind λh=>(fe 0 h lo').bind λl=>(cn P e).bind λn=>_)=_
       grind
      grind[RV]
     trivial
    trivial
   trivial
  trivial
 trivial
theorem ajE(hv:fv x=Wf v)(hx:RV φ F H h x x'):∃s:ByteArray,x'=.string s∧RV φ F H h v (.int .i64 s.size):=by
 unfold fv at hv;split at hv
 .cases hv;rw[sj]at hx;exact⟨_,hx,ig.2 rfl⟩
 trivial
theorem ajC(hv:bh x=Wf v)(hx:RV φ F H h x x'):∃a n c,x'=.slice a n c∧RV φ F H h v (.int .i64 n):=by
 unfold bh at hv;split at hv
 .cases hv;simp only[RV,RD]at hx;rcases hx with⟨rfl,rfl,e|⟨c,o,cap,rfl,_⟩⟩|⟨c,o,cap,vs,m,rfl,_⟩
  .grind[ig]
  .simp[ig]
  grind[ig]
 .grind[RV,RD]
 .grind[RV,ig]
 .grind[RV,ig]
 trivial
theorem amA{i:Nat}{vs:List V}(hx0:x=.tup vs)(hv:vs[i]?=Wf v)(hx:RV φ F H h x x'):∃ws w,x'=.tuple ws∧ws[i]?=Wf w∧RV φ F H h v w:=by grind[RV,aK.get]
theorem amq{P:pG}{t:tI}{gs:Array Field}{fs:List (Nat×Nat)}(hu:P.underlying t=Wf (.struct gs))(hg:gs.toList.map (λf=>(f.offset,cn P f.type))=fs.map λp=>(p.1,Wf p.2))
  {f off sz:Nat} (hf:fs[f]?=Wf (off,sz)) {one:Bool}
  (hone:∀fd,gs[f]?=Wf fd->match P.underlying fd.type with|some (.struct _)|some (.array _ _)=>one=SM|some _=>one=Th|none=>False)
  {x v:V} {x':vl} (hv:D5 off sz one x=Wf v) (hx:RV φ F H h x x'):∃w,D4 P t x' f=Wf w∧RV φ F H h v w:=by
 obtain⟨fd,hfd,rfl,hsz⟩:=Nh hg hf;have hone:=hone fd hfd;unfold D5 at hv;split at hv
 .rename_i vs;simp[RV]at hx;obtain⟨ws,rfl,hr⟩:=hx;simp only[D4,hu,hfd,AS];split at hv
  .rename_i h1;subst h1;obtain⟨w,hw,hrw⟩:=hr.get hv;split at hone
   .cases hone
   .cases hone
   .rename_i d h1 h2 hd;refine⟨w,?_,hrw⟩;rw[hd];cases d<;>first|exact hw|exact absurd rfl (h1 _)|grind|exact absurd hd (h1 _)|exact absurd hd (h2 _ _)
   trivial
  .rename_i h1;split at hv
   .rename_i l hl;cases hv;obtain⟨hb,rfl⟩:=El hl
    have fin:∃w,(do let n <-cn P fd.type;Wf (vl.agg ((ws.drop fd.offset).take n).toArray))=Wf w∧RV φ F H h (.agg ((vs.drop fd.offset).take sz)) w:=
     ⟨_,by rw[hsz];rfl,by grind[RV,aK.take,aK.drop]⟩
    grind
   trivial
 trivial
theorem akI{P:pG}{t len e sz:Nat}(hu:P.underlying t=Wf (.array len e))(hsz:cn P e=Wf sz){one:Bool}
  (hone:match P.underlying e with|some (.struct _)|some (.array _ _)=>one=SM|some _=>one=Th|none=>False)
  {x i v:V} {x' i':vl} (hv:MI len sz one x i=Wf v) (hx:RV φ F H h x x') (hi:RV φ F H h i i'):∃w,yR P t x' i'=Wf w∧RV φ F H h v w:=by
 unfold MI at hv;split at hv
 .rename_i vs kd z;split at hv
  .rename_i hz;rw[ig]at hi;subst hi;simp[RV]at hx;obtain⟨ws,rfl,hr⟩:=hx;simp only[yR,hu,hsz,ip hz,AS];unfold D5 at hv;simp only at hv;split at hv
   .rename_i h1;subst h1;obtain⟨w,hw,hrw⟩:=hr.get hv;split at hone
    .cases hone
    .cases hone
    .rename_i d h1 h2 hd;refine⟨w,?_,hrw⟩;rw[hd];cases d<;>first|exact hw|exact absurd rfl (h1 _)|grind|exact absurd hd (h1 _)|exact absurd hd (h2 _ _)
    trivial
   .rename_i h1;split at hv
    .rename_i l hl;cases hv;obtain⟨hb,rfl⟩:=El hl
     have fin:∃w,(do let n <-cn P e;Wf (vl.agg ((ws.drop (z.toNat*sz)).take n).toArray))=Wf w∧RV φ F H h (.agg ((vs.drop (z.toNat*sz)).take sz)) w:=
      ⟨_,by rw[hsz];rfl,by grind[RV,aK.take,aK.drop]⟩
     grind
    trivial
  .cases hv
 trivial
theorem Ol{vs:List V}(hc:w9 v=Wf vs)(hv:RV φ F H h v w):aK φ F H h vs w.cells.toList:=by
 have one:∀u:V,RV φ F H h u w->(∀cs,w≠.agg cs)->aK φ F H h [u] w.cells.toList:=by
  intro u hu hw;have:w.cells.toList=[w]:=by cases w<;>first|rfl|grind
  rw[this];simp only[aK];exact⟨w,[],rfl,hu,rfl⟩
 unfold w9 at hc;split at hc
 .cases hc;simp[RV]at hv;obtain⟨ws,rfl,hr⟩:=hv;exact hr
 .cases hc
 .cases hc
 .cases hc
 .cases hc
 .cases hc;cases v with
  | d x=>
   refine one _ hv ?_;rintro cs rfl;simp[RV]at hv;cases x<;>simp only[RD]at hv
   case pl w=>obtain⟨rfl,_,h2⟩:=hv;cases h2
   case sl=>rcases hv with⟨_,_,e|⟨c,o,cap,e,_⟩⟩|⟨c,o,cap,vs,n,e,_⟩<;>cases e
   all_goals cases hv
  | dptr cs pos=>
   grind[RV]
  | cut n=>
   grind[RV]
  | fn g a b=>
   grind[RV]
  |agg l=>grind
  |junk=>trivial
  |tup l=>grind
  |ifc t x=>grind
  |new=>trivial
  | ref s e off len cap tot=>
   grind[RV]
  | ptr s e off tot=>
   grind[RV]
end
section
variable{φ:ax}{F G:Nat->Prop}{H:AH}{h:Hp}
theorem TM{x:D}(hx:RD F H x w):RD F H (norm x) w:=by
 unfold norm;split
 .simp only[RD]at hx ⊢;exact .inl ⟨trivial,trivial,.inl hx.1⟩
 omega
def tD(G:Nat->Prop)(φ:ax)(F:Nat->Prop)(H:AH)(h h':Hp)(F':Nat->Prop):Prop:=Inv φ F' G H h'∧Stp G φ F H h φ F' H h'
theorem tD.trans{F' F'':Nat->Prop}{h' h'':Hp}(a:tD G φ F H h h' F')(b:tD G φ F' H h' h'' F''):tD G φ F H h h'' F'':=⟨b.1,a.2.trans b.2⟩
theorem Nu:∀{l:List V}{cs:List D},wT l=Wf cs->l=cs.map V.d
 |[],cs,h=>by cases h;rfl
 | .d x::l,cs,h=>by
  simp[wT]at h;split at h
  .rename_i xs hx;cases h;rw[Zv,Nu hx]
  .cases h
 |.junk::_,_,h|.ref .. :: _,_,h|.ptr .. :: _,_,h|.dptr .. :: _,_,h|.cut .. :: _,_,h|.agg .. :: _,_,h|.tup .. :: _,_,h|.fn .. :: _,_,h|.ifc .. :: _,_,h|.new .. :: _,_,h=>by simp[wT]at h
theorem E3(I:Inv φ F G H h){x:D}(ht:dX h v=Wf (x,h'))(hv:RV φ F H h v w):∃F',tD G φ F H h h' F'∧RD F' H x w:=by
 unfold dX at ht;split at ht
 .cases ht;simp[RV]at hv;exact⟨F,⟨I,Stp.refl ..⟩,TM hv⟩
 .rename_i s e off len cap tot;split at ht
  .rename_i n cs ex fr hg;split at ht
   .rename_i hc;cases ht;obtain⟨rfl,y,hy,hy1,hd,hex,hesz,hn,hff,hwr⟩:=sC I hv hg hc.1;obtain⟨F',hF,hI,hS⟩:=I.freeze (lj ac hg);refine⟨F',⟨hI,hS⟩,?_⟩;simp only[RD];by_cases h0:len=0
    .exact .inl ⟨h0,by simp[h0],.inr ⟨_,_,_,by rw[h0],y,hy,aa⟩⟩
    ·have el:RW ((cs.drop off).take (len*n))=len*n:=by
      rw[Zp,Yl];omega
     refine .inr ⟨_,_,_,(y.cells.drop off).take (len*n),n,rfl,aa,hc.2.1,hn,el,hF,?_,?_,y,hy,?_⟩
     .grind[oY,bj.length]
     .exact bj.mono hS.leF _ _ ((hd.drop off).take _)
     .cases ex<;>simp_all
   trivial
  .rename_i l hg;split at ht
   .rename_i cs hcs;split at ht
    .rename_i hc;cases ht;have hl:=Nu hcs;subst hl;have hs:=lj ac hg
     have hw:w=.slice (Wf ⟨φ.getD s 0,off,Vc⟩) len cap:=by
      simp only[RV]at hv;exact(hv.2.2 _ (by rw[hg];rfl)).2 (by simpa using hc.1)
     subst hw;obtain⟨y,hy,hy1,hwr,hxe,hd⟩:=I.blk s e _ hs;obtain⟨F',hF,hI,hS⟩:=I.giveUp hs;have hd:=FX hd;refine⟨F',⟨hI,hS⟩,?_⟩;simp only[RD];by_cases h0:len=0
     .exact .inl ⟨h0,by simp[h0],.inr ⟨_,_,_,by rw[h0],y,hy,aa⟩⟩
     ·have el:RW ((cs.drop off).take (len*1))=len*1:=by
       rw[Zp,Yl];omega
      refine .inr ⟨_,_,_,(y.cells.drop off).take (len*1),1,rfl,aa,hc.2.1,aa,el,hF,?_,?_,y,hy,hxe⟩
      .grind[oY,bj.length]
      .exact bj.mono hS.leF _ _ ((hd.drop off).take _)
    trivial
   trivial
  trivial
 trivial
theorem zR:∀{vs:List V}{F:Nat->Prop}{h h':Hp}{ws:au}{xs:List D},Inv φ F G H h->d8 h vs=Wf (xs,h')->aK φ F H h vs ws->∃F',tD G φ F H h h' F'∧bj F' H xs ws
 | [],F,h,h',ws,xs,I,ht,hv=>by
  cases ht;simp[aK]at hv;subst hv;exact⟨F,⟨I,Stp.refl ..⟩,aM⟩
 | v::vs,F,h,h',ws,xs,I,ht,hv=>by
  simp[aK]at hv;obtain⟨w,us,rfl,h1,h2⟩:=hv;unfold d8 at ht;split at ht
  .rename_i x h1' hx;split at ht
   .rename_i ys h2' hys;cases ht;obtain⟨F1,S1,r1⟩:=E3 I hx h1;obtain⟨F2,S2,r2⟩:=zR S1.1 hys (aK.mono S1.2.leF S1.2.sl _ _ h2);refine⟨F2,S1.trans S2,?_⟩;simp only[bj];exact⟨w,us,rfl,RD.mono S2.2.leF _ _ r1,r2⟩
   trivial
  trivial
theorem adw(I:Inv φ F G H h){x:D}(ht:xq h v=Wf (x,h'))(hv:RV φ F H h v w):∃F',tD G φ F H h h' F'∧RD F' H x w:=by
 unfold xq at ht;split at ht
 .rename_i s e off len cap tot;split at ht
  .rename_i l hg;split at ht
   .rename_i cs h1 hcs;split at ht
    .rename_i l1 hg1;split at ht
     .rename_i hc;cases ht;have hs:=lj ac hg;obtain⟨x,hx,x1,x2,x3,x4⟩:=I.blk s e _ hs;have hl0:=x4.length;obtain⟨F1,⟨I1,S1⟩,r1⟩:=zR I hcs x4;have hs1:=lj ac hg1;have hl1:=r1.length;obtain⟨I2,S2⟩:=I1.swap (b':=.vars (cs.map .d)) hs1 trivial (m:=l1.length) rfl (by simp only[jD,List.length_map];congr 1;omega) ⟨x,hx,x1,x2,x3,aK.ofD r1⟩
      have hs2:(bP h1 s e (.vars (cs.map .d)))[s]?=Wf (e,.vars (cs.map .d)):=by rw[uy (gD hs1),ip rfl]
      obtain⟨F',hF,hI,hS⟩:=I2.giveUp hs2;have eh:bP (bP h1 s e (.vars (cs.map .d))) s e (.data 1 cs SM Th)=bP h1 s e (.data 1 cs SM Th):=by simp[bP]
      rw[eh]at hI hS;refine⟨F',⟨hI,(S1.trans S2).trans hS⟩,?_⟩
      have hw:w=.slice (Wf ⟨φ.getD s 0,off,Vc⟩) len cap:=by
       simp only[RV]at hv;exact(hv.2.2 _ (by rw[hg];rfl)).2 aa
      subst hw;have rd:=bj.mono (S2.trans hS).leF _ _ r1;simp only[RD];by_cases h0:len=0
      .exact .inl ⟨h0,by simp[h0],.inr ⟨_,_,_,by rw[h0],x,hx,aa⟩⟩
      ·have el:RW ((cs.drop off).take (len*1))=len*1:=by
        rw[Zp,Yl];omega
       refine .inr ⟨_,_,_,(x.cells.drop off).take (len*1),1,rfl,aa,hc.2.2.1,aa,el,hF,?_,?_,x,hx,x3⟩
       .rw[el];exact oY hx x1 aa
       .exact(rd.drop off).take _
     .cases ht
    .cases ht
   .cases ht
  .cases ht
 .cases ht
mutual
theorem Ka:∀{v:V}{F:Nat->Prop}{h h':Hp}{w:vl}{x:V},Inv φ F G H h->bQ h v=Wf (x,h')->RV φ F H h v w->∃F',tD G φ F H h h' F'∧∀φ0 h0,RV φ0 F' H h0 x w
 | .d x,F,h,h',w,y,I,ht,hv=>by
  simp[bQ,Z9,Z5]at ht;obtain⟨rfl,rfl⟩:=ht;simp[RV]at hv;exact⟨F,⟨I,Stp.refl ..⟩,λ_ _=>by grind[RV,TM]⟩
 | .ref s e off len cap tot,F,h,h',w,y,I,ht,hv=>by
  grind[bQ,E3,adw,RV]
 | .agg l,F,h,h',w,y,I,ht,hv=>by
  simp[RV]at hv;obtain⟨ws,rfl,hr⟩:=hv;unfold bQ at ht;split at ht
  .rename_i l' h1 hx;cases ht;obtain⟨F',S,r⟩:=xz I hx hr
   grind[RV]
  trivial
 | .tup l,F,h,h',w,y,I,ht,hv=>by
  simp[RV]at hv;obtain⟨ws,rfl,hr⟩:=hv;unfold bQ at ht;split at ht
  .rename_i l' h1 hx;cases ht;obtain⟨F',S,r⟩:=xz I hx hr
   grind[RV]
  trivial
 | .fn g fs cs,F,h,h',w,y,I,ht,hv=>by
  simp[RV]at hv;obtain⟨a,b,rfl,hr,hq⟩:=hv;unfold bQ at ht;split at ht
  .rename_i l' h1 hx;split at ht
   .rename_i l2 h2 hx2;cases ht;obtain⟨F1,S1,r1⟩:=xz I hx hr;obtain⟨F2,S2,r2⟩:=xz S1.1 hx2 (aK.mono S1.2.leF S1.2.sl _ _ hq);exact⟨F2,S1.trans S2,λφ0 h0=>by simp only[RV];exact⟨a,b,rfl,aK.mono S2.2.leF (fw.refl φ0 h0) _ _ (r1 φ0 h0),r2 _ _⟩⟩
   trivial
  trivial
 | .ifc t x,F,h,h',w,y,I,ht,hv=>by
  simp[RV]at hv;obtain⟨u,rfl,hr⟩:=hv;unfold bQ at ht;split at ht
  .rename_i l' h1 hx;cases ht;obtain⟨F',S,r⟩:=Ka I hx hr
   grind[RV]
  trivial
 |.junk,F,h,h',w,y,I,ht,hv=>by trivial
 | .ptr s e off tot,F,h,h',w,y,I,ht,hv=>by
  unfold bQ at ht;split at ht
  .rename_i l hg;split at ht
   .rename_i cs hcs;split at ht
    .rename_i htot;cases ht;have hl:=Nu hcs;subst hl;have hs:=lj ac hg;simp only[RV]at hv;have hw:=(hv.2.2 _ (by rw[hg];rfl)).2 htot;obtain⟨x,hx,hx1,hwr,hxe,hd⟩:=I.blk s e _ hs;obtain⟨F',hF,hI,hS⟩:=I.giveUp hs;have hd2:=FX hd;refine⟨F',⟨hI,hS⟩,λφ0 h0=>?_⟩;simp only[RV];refine⟨_,0,x.cells,by rw[hw,Zh],hF,?_,bj.mono hS.leF _ _ hd2⟩
     grind[oY,bj.length]
    trivial
   trivial
  .rename_i n cs ex fr hg;split at ht
   .rename_i htot;cases ht;obtain⟨rfl,x,hx,hx1,hd,_⟩:=C8 I hv hg htot;obtain⟨F',hF,hI,hS⟩:=I.freeze (lj ac hg);refine⟨F',⟨hI,hS⟩,λφ0 h0=>?_⟩;simp only[RV];refine⟨_,0,x.cells,by rw[Zh],hF,?_,bj.mono hS.leF _ _ hd⟩
    grind[oY,bj.length]
   trivial
  trivial
 | .dptr cs pos,F,h,h',w,y,I,ht,hv=>by
  simp[bQ,Z9,Z5]at ht;obtain⟨rfl,rfl⟩:=ht;exact⟨F,⟨I,Stp.refl ..⟩,λ_ _=>by trivial⟩
 |.cut _,F,h,h',w,y,I,ht,hv=>by trivial
 |.new ..,F,h,h',w,y,I,ht,hv=>by trivial
theorem xz:∀{vs:List V}{F:Nat->Prop}{h h':Hp}{ws:au}{xs:List V},Inv φ F G H h->bY h vs=Wf (xs,h')->aK φ F H h vs ws->∃F',tD G φ F H h h' F'∧∀φ0 h0,aK φ0 F' H h0 xs ws
 | [],F,h,h',ws,xs,I,ht,hv=>by
  simp only[bY,Z9,Z5]at ht;obtain⟨rfl,rfl⟩:=ht;simp[aK]at hv;subst hv;exact⟨F,⟨I,Stp.refl ..⟩,λ_ _=>by rfl⟩
 | v::vs,F,h,h',ws,xs,I,ht,hv=>by
  simp[aK]at hv;obtain⟨w,us,rfl,h1,h2⟩:=hv;unfold bY at ht;split at ht
  .rename_i x h1' hx;split at ht
   .rename_i ys h2' hys;cases ht;obtain⟨F1,S1,r1⟩:=Ka I hx h1;obtain⟨F2,S2,r2⟩:=xz S1.1 hys (aK.mono S1.2.leF S1.2.sl _ _ h2);refine⟨F2,S1.trans S2,λφ0 h0=>?_⟩;simp only[aK];exact⟨w,us,rfl,RV.mono S2.2.leF (fw.refl φ0 h0) _ _ (r1 φ0 h0),r2 _ _⟩
   trivial
  trivial
end
theorem lR:∀{x:V}{w:vl},fk x=Th->RV φ F H h x w->∀φ0 F0 H0 h0,RV φ0 F0 H0 h0 x w:=by
 intro x
 induction x using V.rec (motive_2:=λxs=>∀{ws:au},p6 xs=Th->aK φ F H h xs ws->∀φ0 F0 H0 h0,aK φ0 F0 H0 h0 xs ws)with
 |junk=>simp[fk]
 | d x=>
  intro w hp hx φ0 F0 H0 h0;simp[RV]at hx ⊢;cases x<;>simp only[RD]at hx ⊢
  case sl=>trivial
  all_goals exact hx
 |ref=>simp[fk]
 |ptr=>simp[fk]
 |dptr=>simp[fk]
 |cut=>simp[fk]
 | agg l ih=>
  grind[RV,fk]
 | tup l ih=>
  grind[RV,fk]
 |fn=>simp[fk]
 | ifc t x ih=>
  grind[RV,fk]
 |new=>simp[fk]
 |nil=>trivial
 | cons x xs ih ihs=>
  grind[aK,p6]
end
def ED(φ:ax)(F G:Nat->Prop)(H:AH)(h:Hp):Option Nat->Prop
 |none=>True
 |some r=>r<H.n∧¬F r∧¬G r∧(∀i e b,h[i]?=Wf (e,b)->Own b->φ.getD i 0≠r)∧jf H r
section
variable{φ:ax}{F G:Nat->Prop}{H:AH}{h:Hp}
theorem dS.push(I:Inv φ F G H h){x:bv}(h1:x.st=1)(h2:x.fam=H.n):dS φ F G h H (H.push x) H.n x where
 n:=ac
 get:=AH.get_push_new H x
 st:=h1
 fam:=h2
 old c hc _:=AH.get_push_old hc
 nw c hc MT:=by rw[AH.get_push MT,AH.get_neg aa]
 notF hF:=absurd (I.lt _ (.inl hF)) (Nat.lt_irrefl _)
 notG hG:=absurd (I.lt _ (.inr hG)) (Nat.lt_irrefl _)
 notS i e b hi ho:=by
  obtain⟨y,hy,_⟩:=I.own_get hi ho;have:=AH.get_lt hy;omega
 nokin c y hy _ _:=by
  have:=I.wf.fam c y hy;have:=AH.get_lt hy;omega
 un y hy:=by grind[AH.get_neg]
 wf:=I.wf.push aa
theorem dS.at(I:Inv φ F G H h)(R:ED φ F G H h (Wf r)){x y:bv}(hy:H.get r=Wf y)(h0:y.st=0)(h1:x.st=1)(h2:x.fam=r):dS φ F G h H (H.set r x) r x where
 n:=ac
 get:=by rw[AH.get_set hy,ip rfl]
 st:=h1
 fam:=h2
 old c _ MT:=by rw[AH.get_set hy,iN MT]
 nw c hc MT:=by rw[AH.get_set hy,iN MT,AH.get_neg aa]
 notF:=R.2.1
 notG:=R.2.2.1
 notS:=R.2.2.2.1
 nokin:=R.2.2.2.2
 un z hz:=by grind
 wf:=I.wf.set hy aa
theorem dS.laid(I:Inv φ F G H h)(R:ED φ F G H h (Wf r)){x:bv}(hx:H.get r=Wf x)(h1:x.st=1)(h2:x.fam=r):dS φ F G h H H r x where
 n:=Z8 _
 get:=hx
 st:=h1
 fam:=h2
 old _ _ _:=rfl
 nw c hc _:=AH.get_neg aa
 notF:=R.2.1
 notG:=R.2.2.1
 notS:=R.2.2.2.1
 nokin:=R.2.2.2.2
 un z hz:=by grind
 wf:=I.wf
theorem aiY(I:Inv φ F G H h){rid:Option Nat}(R:ED φ F G H h rid)(cells:au)(hun:∀r,rid=Wf r->∃x,H.get r=Wf x∧x.st=0∧x.ver=0):
  ∃r H',kX H rid cells=Wf (r,H')∧dS φ F G h H H' r (fresh r cells):=by
 cases rid with
 |none=>exact⟨H.n,H.push (fresh H.n cells),rfl,dS.push I rfl rfl⟩
 | some r=>
  obtain⟨x,hx,h0,hv⟩:=hun r rfl;exact⟨r,H.set r (fresh r cells),by grind[kX],dS.at I R hx h0 rfl rfl⟩
structure Unb(G:Nat->Prop)(H:AH)(r:Nat):Prop where
 un:∃x,H.get r=Wf x∧x.st=0∧x.ver=0
 ng:¬G r
 nk:jf H r
def tC(G:Nat->Prop)(H:AH)(rid:Option Nat):Prop:=∀r,rid=Wf r->Unb G H r
theorem tC.rid(I:Inv φ F G H h){rid:Option Nat}(U:tC G H rid):ED φ F G H h rid:=by
 cases rid with
 |none=>trivial
 | some r=>
  obtain⟨⟨x,hx,h0,_⟩,ng,nk⟩:=U r rfl;refine⟨AH.get_lt hx,λhF=>?_,ng,λi e b hi ho=>?_,nk⟩
  .obtain⟨y,hy,h1⟩:=I.fb r hF
   grind
  grind[Inv.own_get]
theorem G7(I:Inv φ F G H h){rid:Option Nat}(U:tC G H rid)(cells:au):∃r H',kX H rid cells=Wf (r,H')∧dS φ F G h H H' r (fresh r cells):=
 aiY I (U.rid I) cells λr hr=>(U r hr).un
def bN(U:Prop)(φ:ax)(F G:Nat->Prop)(H:AH)(h:Hp)(k:V->Hp->Prop)(r:Option (vl×AH)):Prop:=
 ∃v h' φ' F' w H',r=Wf (w,H')∧k v h'∧Inv φ' F' G H' h'∧Stp G φ F H h φ' F' H' h'∧RV φ' F' H' h' v w∧(U->∀c,c<H.n->H'.get c=H.get c)
theorem bN.pure(I:Inv φ F G H h)(hk:k v h)(hv:RV φ F H h v w){U:Prop}:bN U φ F G H h k (Wf (w,H)):=
 ⟨v,h,φ,F,w,H,rfl,hk,I,Stp.refl ..,hv,λ_ _ _=>rfl⟩
theorem bN.bnd(I:Inv φ F G H h){k:V->Hp->Prop}{o:Option V}{r:Option (vl×AH)}(hb:bnd o λv=>k v h)(hr:∀v,o=Wf v->∃w,r=Wf (w,H)∧RV φ F H h v w){U:Prop}:bN U φ F G H h k r:=by
 unfold Vm.bnd at hb
 grind[pure]
theorem pf{b:Bk}{k:Nat->Hp->Prop}(hn:new h s b k):∃e b0,h[s]?=Wf (e,b0)∧k (e+1) (h.set s (e+1,b)):=by grind[new]
theorem tO{b0 b:Bk}(hs:h[s]?=Wf (e,b0)):aH (h.set s (e+1,b)) s (e+1)=b∧ep (h.set s (e+1,b)) s=e+1:=by grind[aH,ep]
theorem TP(I:Inv φ F G H h){cs:List V}(hn:cu s cs h k)(hr:aK φ F H h cs ws){H':AH}{x:bv}(N:dS φ F G h H H' r x)(hw:x.wr=Th)(hx:x.cells=ws)(hxe:x.exact=Th):
  bN False φ F G H h k (Wf (.pointer (Wf ⟨r,0,Vc⟩),H')):=by
 obtain⟨e,b0,hs,hk⟩:=pf hn;obtain⟨I',S'⟩:=I.new hs N (b:=.vars cs) λhl hsl=>⟨_,N.get,N.st,hw,.inl hxe,by grind[aK.mono]⟩
 refine⟨_,_,_,_,_,_,rfl,hk,I',S',?_,False.elim⟩;obtain⟨g1,g2⟩:=tO (b:=.vars cs) hs;simp only[RV];refine⟨⟨_,_,rfl⟩,aa,λm hm=>?_⟩;rw[g1]at hm;cases hm
 grind[Inv.len]
theorem GX(I:Inv φ F G H h){s e0 n:Nat}{b0:Bk}(hs:h[s]?=Wf (e0,b0)){cs:List D}{ex:Bool}{ws:au}(hr:bj F H cs ws){r:Nat}{H':AH}{x:bv}(N:dS φ F G h H H' r x)(hw:x.wr=Th)(hx:x.cells=ws)
  (hex:x.exact=ex) (hez:ex=SM->x.esz=n) (hn:0<n) :
  Inv (φ.set s r) F G H' (h.set s (e0+1,.data n cs ex SM))∧Stp G φ F H h (φ.set s r) F H' (h.set s (e0+1,.data n cs ex SM)) ∧
  (∀off tot,tot=RW cs->RV (φ.set s r) F H' (h.set s (e0+1,.data n cs ex SM)) (.ptr s (e0+1) off tot) (.pointer (Wf ⟨r,off,Vc⟩))) ∧
  (∀off len cap tot,tot=RW cs->RV (φ.set s r) F H' (h.set s (e0+1,.data n cs ex SM)) (.ref s (e0+1) off len cap tot) (.slice (Wf ⟨r,off,Vc⟩) len cap)):=by
 obtain⟨I',S'⟩:=I.new hs N (b:=.data n cs ex SM) λhl hsl=>⟨_,N.get,N.st,by grind[bj.mono],λ_=>hex,λe=>.inr (hez e),hn,λe=>absurd e ac,λ_=>hw⟩
 obtain⟨g1,g2⟩:=tO (b:=.data n cs ex SM) hs;have gd:(φ.set s r).getD s 0=r:=by rw[iP (by grind[Inv.len]),ip rfl]
 refine⟨I',S',λoff tot ht=>?_,λoff len cap tot ht=>?_⟩
 all_goals
  simp only[RV];refine⟨⟨_,_,rfl⟩,by rw[g2];exact Z8 _,λm hm=>?_⟩;rw[g1]at hm;cases hm;exact⟨aa,λ_=>by rw[gd]⟩
theorem Pd(w:WF H){b:Nat}{vs:au}{x:bv}(hx:H.get b=Wf x)(h1:x.st=1)(hw:x.wr=Th)(hb:off+RW vs<=RW x.cells)(Is:vs.all okCell=Th):
  ∃H' x2,kf H b off vs=Wf H'∧pM H H' x b x2∧x2.cells=splice x.cells off vs∧x2.wr=Th∧x2.exact=x.exact∧x2.esz=x.esz:=by
 let x2:bv:={x with cells:=splice x.cells off vs,ver:=x.ver+1,shared:=SM}
 let H1:AH:=if x.shared then H.kill (kin b x.fam)else H
 have hk:∀c y,H.get c=Wf y->H1.get c=Wf (if x.shared&&kin b x.fam c y then{y with st:=2,ver:=y.ver+1}else y):=by
  intro c y hy
  show(if x.shared then H.kill (kin b x.fam)else H).get c=_
  cases hs:x.shared with
  |true=>grind[AH.get_kill]
  |false=>trivial
 have hkb:H1.get b=Wf x:=by
  rw[hk b x hx];simp[kin]
 have hn:H1.n=H.n:=by
  show(if x.shared then H.kill (kin b x.fam)else H).n=_
  split<;>rfl
 have hw1:WF H1:=by
  show WF (if x.shared then H.kill (kin b x.fam)else H)
  split
  .exact w.kill _
  .exact w
 refine⟨H1.set b x2,x2,?_,⟨by simp[hn],?_,?_,by rw[AH.get_set hkb,ip rfl],h1,rfl,hw1.set hkb (w.fam b x hx)⟩,rfl,hw,rfl,rfl⟩
 .grind[kf]
 .intro c y hy;by_cases hc:c=b
  .subst hc;rw[hx]at hy;cases hy;exact⟨x2,by rw[AH.get_set hkb,ip rfl],.inr ⟨rfl,h1,ae,rfl⟩⟩
  .rw[AH.get_set hkb,iN hc,hk c y hy];refine⟨_,rfl,?_⟩;split
   .rename_i hkk;simp only[kin,Z7,bne_iff_ne,beq_iff_eq]at hkk;exact .inr ⟨hkk.2.1.1.2,hkk.2.2,ac,rfl⟩
   simp
 .intro c y hc hy;have:=AH.get_lt hy;simp[hn]at this;omega
theorem QI(l:au)(off:Nat)(vs:au):splice l off vs=l.take off++vs++l.drop (off+RW vs):=rfl
theorem EN(I:Inv φ F G H h)(hg:aH h s e=.data n cs ex SM)(hr:bj F H xs ws)(hb:off+RW xs<=RW cs):
  ∃ H',kf H (φ.getD s 0) off ws=Wf H'∧Inv φ F G H' (bP h s e (.data n (cs.take off++xs++cs.drop (off+RW xs)) ex SM)) ∧
   Stp G φ F H h φ F H' (bP h s e (.data n (cs.take off++xs++cs.drop (off+RW xs)) ex SM)):=by
 have hs:=lj ac hg;obtain⟨x,hx,hx1,hd,hex,hez,hn,_,hwr⟩:=I.blk s e _ hs;have hlx:=hd.length;have hlw:=hr.length;obtain⟨H',x2,hw,T,hc2,hw2,he2,hz2⟩:=Pd I.wf hx hx1 (hwr rfl) (off:=off) (vs:=ws) aa hr.okCells
 have Rg:RW (cs.take off++xs++cs.drop (off+RW xs))=RW cs:=by
  simp only[List.length_append,Zp,Yl];omega
 have key:=I.touch hs rfl hx hx1 T (.inl rfl) (b':=.data n (cs.take off++xs++cs.drop (off+RW xs)) ex SM) (m:=RW cs) (m':=RW cs) rfl (by grind[jD]) (Z8 _) (λ_=>rfl)
  λhl hsl=>⟨x2,T.get,T.st,by
   grind[QI,bj.mono,bj.append,bj.take,bj.drop],ae,λe=>by grind,hn,λe=>absurd e ac,λ_=>hw2⟩
 grind[set_self,Inv.len]
theorem aib(ho:okV v=Th)(hv:RV φ F H h v w):okCell w=Th:=by
 cases v<;>simp only[okV]at ho
 case d x=>
  simp[RV]at hv;cases x<;>simp only[RD]at hv
  case pl=>grind
  case sl=>rcases hv with⟨_,_,e|⟨c,o,cap,e,_⟩⟩|⟨c,o,cap,vs,n,e,_⟩<;>subst e<;>rfl
  all_goals(subst hv;rfl)
 case ref=>simp only[RV]at hv;obtain⟨⟨b,o,rfl⟩,_⟩:=hv;rfl
 case ptr=>simp only[RV]at hv;obtain⟨⟨b,o,rfl⟩,_⟩:=hv;rfl
 case dptr=>simp only[RV]at hv;obtain⟨c,o,vs,rfl,_⟩:=hv;rfl
 case cut=>simp only[RV]at hv;obtain⟨c,o,x,rfl,_⟩:=hv;rfl
 case fn=>simp[RV]at hv;obtain⟨a,b,rfl,_⟩:=hv;rfl
 all_goals cases ho
theorem Lx:∀{vs:List V}{ws:au},vs.all okV=Th->aK φ F H h vs ws->ws.all okCell=Th
 |[],_,_,r=>by grind[aK]
 | v::vs,_,ho,r=>by
  simp[aK]at r;obtain⟨w,us,rfl,r1,r2⟩:=r;simp only[List.all_cons,Z7]at ho ⊢;exact⟨aib ho.1 r1,Lx ho.2 r2⟩
theorem Pb(I:Inv φ F G H h){cs xs:List V}(hg:aH h s e=.vars cs)(hr:aK φ F H h xs ws)(hb:off+RW xs<=RW cs)(Is:xs.all okV=Th):
  ∃ H',kf H (φ.getD s 0) off ws=Wf H'∧Inv φ F G H' (bP h s e (.vars (cs.take off++xs++cs.drop (off+RW xs)))) ∧
   Stp G φ F H h φ F H' (bP h s e (.vars (cs.take off++xs++cs.drop (off+RW xs)))):=by
 have hs:=lj ac hg;obtain⟨x,hx,hx1,hwr,hxe,hd⟩:=I.blk s e _ hs;have hlx:=hd.length;have hlw:=hr.length;obtain⟨H',x2,hw,T,hc2,hw2,he2,hz2⟩:=Pd I.wf hx hx1 hwr (off:=off) (vs:=ws) aa (Lx Is hr)
 have Rg:RW (cs.take off++xs++cs.drop (off+RW xs))=RW cs:=by
  simp only[List.length_append,Zp,Yl];omega
 have key:=I.touch hs trivial hx hx1 T (.inl rfl) (b':=.vars (cs.take off++xs++cs.drop (off+RW xs))) (m:=RW cs) (m':=RW cs) rfl (by grind[jD]) (Z8 _) (λ_=>rfl)
  λhl hsl=>⟨x2,T.get,T.st,hw2,ae,by
   grind[QI,aK.mono,aK.append,aK.take,aK.drop]⟩
 grind[set_self,Inv.len]
theorem ad5(I:Inv φ F G H h){vs:List V}(hs:jk h s e off tot vs=Wf h')(hp:RV φ F H h (.ptr s e off tot) p)(hr:aK φ F H h vs ws):
  ∃b H' F',p=.pointer (Wf ⟨b,off,Vc⟩)∧kf H b off ws=Wf H'∧Inv φ F' G H' h'∧Stp G φ F H h φ F' H' h':=by
 unfold jk at hs;split at hs
 .grind[Gu,Pb]
 .rename_i n0 cs0 ex0 fr0 hg0;split at hs
  .rename_i xs h1 hx;split at hs
   .rename_i n cs ex fr hg;split at hs
    .rename_i hc;cases hs;obtain⟨rfl,ht,hb⟩:=hc;obtain⟨F1,S1,r1⟩:=zR I hx hr;obtain⟨rfl,_⟩:=C8 S1.1 (RV.mono S1.2.leF S1.2.sl _ _ hp) hg ht;obtain⟨H',hw,I',S'⟩:=EN S1.1 hg r1 hb;exact⟨_,H',F1,rfl,hw,I',S1.2.trans S'⟩
    trivial
   trivial
  trivial
 trivial
theorem aea(I:Inv φ F G H h)(hn:cn P t=Wf n){p:V}(hk:aS h n p v k)(hp:RV φ F H h p p')(hv:RV φ F H h v v'):
  bN False φ F G H h k ((tK P H t p' v').map λH'=>(undef,H')):=by
 unfold aS at hk;split at hk
 .rename_i h1 hs
  have fin:∀{s e off tot:Nat}{vs:List V},p=.ptr s e off tot->jk h s e off tot vs=Wf h1->w9 v=Wf vs->RW vs=n->bN False φ F G H h k ((tK P H t p' v').map λH'=>(undef,H')):=by
   intro s e off tot vs hpe hs2 hc hl;subst hpe;have hr:=Ol hc hv;obtain⟨b,H',F',rfl,hw,I',S'⟩:=ad5 I hs2 hp hr;refine⟨.junk,h1,φ,F',undef,H',?_,hk,I',S',cU,False.elim⟩;have:v'.cells.size=n:=by rw[<-hl,<-hr.length];simp
   simp[tK,hn,this,iT,hw,Option.map_some]
  unfold st at hs;split at hs
  .rename_i s e off tot vs;split at hs
   .rename_i hl;exact fin rfl hs rfl hl
   trivial
  .rename_i s e off tot hna;split at hs
   .rename_i h1n
    have hc:w9 v=Wf [v]:=by
     have Is:okV v=Th∨∃x,dX h v=Wf x:=by
      unfold jk at hs;split at hs
      .grind
      .grind[d8]
      .cases hs
     cases v with
     |agg l=>grind
     |junk=>rcases Is with ho|⟨x,hx⟩<;>simp_all[okV,dX]
     |tup l=>rcases Is with ho|⟨x,hx⟩<;>simp_all[okV,dX]
     |ifc t x=>rcases Is with ho|⟨x,hx⟩<;>simp_all[okV,dX]
     |new=>rcases Is with ho|⟨x,hx⟩<;>simp_all[okV,dX]
     |_=>rfl
    grind
   trivial
  trivial
 trivial
end
