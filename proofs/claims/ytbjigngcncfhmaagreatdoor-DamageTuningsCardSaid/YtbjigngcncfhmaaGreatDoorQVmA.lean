/- Lemmas. -/
import Derived.Test.YtbjigngcncfhmaaGreatDoorQAm
import Derived.ChangeKeysEq
set_option linter.unusedVariables false
set_option linter.unusedSimpArgs false
namespace Go.Vm
open Go Go.Am
noncomputable section
variable{s e m c r n off len tot top:Nat}{α β:Type}{φ' l:LnQ}{q ex fr:Bool}{o lo' hi':Option Value}{op:BinOp}{c' x' y' p cv i' w p' v':Value}{P:Program}{t:TypeId}{ox oy:Operand}{d:TypeDesc}{l' ws:LvQ}
inductive D where
 |int (k:IntKind) (n:Int)
 |bool (b:Bool)
 |str (s:LuQ)
 |pl (v:Value)
 |sl (len:Nat) (cells:List D)
variable{cs z xs:List D}
inductive V where
 |junk
 |d (x:D)
 |ref (s e off len cap tot:Nat)
 |ptr (s e off tot:Nat)
 |dptr (cells:List D) (pos:Nat)
 |cut (n:Nat)
 |agg (vs:List V)
 |tup (vs:List V)
 |fn (g:FuncId) (fs cs:List V)
 |ifc (t:TypeId) (x:V)
 /-- A slice that lies alone in a new block:what an inner call hands back. -/
 |new (n:Nat) (cells:List D) (ex:Bool) (len cap:Nat)
variable{v x y:V}
inductive Bk where
 |none
 |vars (cells:List V)
 |data (n:Nat) (cells:List D) (exact frozen:Bool)
abbrev Hp:=List (Nat×Bk)
variable{h':Hp}{k:V->Hp->Prop}
inductive Ty where
 |i (k:IntKind)|b|s|p|f|it
 |sl (e:TypeId)
 |ar (len:Nat) (e:TypeId)
 |st (fs:List (Nat×Nat))
 |o
structure TyI where
 k:Ty
 sz:Nat
 bytes:Nat
 z:List D
 /-- may values of it be compared cell by cell? -/
 eq:Bool
structure kA where
 X:Cfg
 ty:TypeId->TyI
 glob:Nat->Option (List D)
 /-- what an iterator yields -/
 seq:FuncId->List V->Option (List LvQ)
def ge:List V->Nat->V
 |[],_=>.junk
 |x::_,0=>x
 |_::l,t+1=>ge l t
abbrev Env:=List (Nat×V)
abbrev K:=Exit->Env->Hp->Prop
abbrev KL:=Exit->List V->Hp->Prop
def lk:Env->Nat->V
 |[],_=>.junk
 | (i,v)::l,t=>match Nat.beq i t with
  |true=>v
  |false=>lk l t
def lkK(l:Env)(t:Nat)(k:V->Prop):Prop:=match l with
 |[]=>k .junk
 | (i,v)::l=>match Nat.beq i t with
  |true=>k v
  |false=>lkK l t k
def ZV(l:Env)(t:Option Nat)(v:V):Env:=match t with
 |some t=>(t,v)::l
 |none=>l
def Co(l:Env):LnQ->(Env->Prop)->Prop
 |[],k=>k []
 |t::ts,k=>lkK l t λv=>Co l ts λe=>k ((t,v)::e)
def Nz(l:Env):LnQ->Nat->List V->(Env->Prop)->Prop
 |[],_,_,k=>k l
 |t::ts,i,vs,k=>Nz ((t,ge vs i)::l) ts (i+1) vs k
def cut{α:Type}(l:List α)(off n:Nat):Option (List α):=if off+n<=l.length then some ((l.drop off).take n)else none
def jA:Value->D
 |.int k n=>.int k n
 |.bool b=>.bool b
 |.string s=>.str s.data.toList
 |v=>.pl v
def lit:Value->V
 |.agg cs=>.agg (cs.toList.map λc=>.d (jA c))
 |.tuple cs=>.tup (cs.toList.map λc=>.d (jA c))
 |v=>.d (jA v)
def norm:D->D
 |.pl (.slice none 0 0)=>.sl 0 []
 |x=>x
def okV:V->Bool
 |.junk|.agg _|.tup _|.ifc .. |.new ..=>false
 |_=>true
mutual
def cS:V->Bool
 |.d (.sl ..)=>false
 |.d _=>true
 |.agg l|.tup l=>oM l
 |.ifc _ x=>cS x
 |_=>false
def oM:List V->Bool
 |[]=>true
 |x::l=>cS x&&oM l
end
def ax(h:Hp)(s e:Nat):Bk:=match h[s]? with
 |some (e',b)=>if e'=e then b else .none
 |none=>.none
def bK(h:Hp)(s e:Nat)(b:Bk):Hp:=h.set s (e,b)
def Mo:List V->Option (List D)
 |[]=>some []
 | .d x::l=>match Mo l with
  |some xs=>some (x::xs)
  |none=>none
 |_=>none
def toD(h:Hp):V->Option (D×Hp)
 |.d x=>some (norm x,h)
 | .ref s e off len cap tot=>match ax h s e with
  |.data n cs ex _=>if tot=cs.length∧len<=cap∧off+len*n<=cs.length then some (.sl len ((cs.drop off).take (len*n)),bK h s e (.data n cs ex true))else none
  | .vars l=>match Mo l with
   |some cs=>if tot=cs.length∧len<=cap∧off+len*1<=cs.length then some (.sl len ((cs.drop off).take (len*1)),bK h s e (.data 1 cs false true))else none
   |none=>none
  |_=>none
 |_=>none
def jG(h:Hp):List V->Option (List D×Hp)
 |[]=>some ([],h)
 | v::l=>match toD h v with
  | some (x,h)=>match jG h l with
   |some (xs,h)=>some (x::xs,h)
   |none=>none
  |none=>none
def M9(h:Hp):V->Option (D×Hp)
 | .ref s e off len cap tot=>match ax h s e with
  | .vars l=>match jG h l with
   | some (cs,h1)=>match ax h1 s e with
    |.vars l1=>if tot=cs.length∧l1.length=cs.length∧len<=cap∧off+len*1<=cs.length then some (.sl len ((cs.drop off).take (len*1)),bK h1 s e (.data 1 cs false true))else none
    |_=>none
   |none=>none
  |_=>none
 |_=>none
mutual
/-- A value without the slots. -/
def bH(h:Hp):V->Option (V×Hp)
 |.d x=>some (.d (norm x),h)
 | .ref s e off len cap tot=>match toD h (.ref s e off len cap tot)with
  |some (x,h)=>some (.d x,h)
  | none=>match M9 h (.ref s e off len cap tot)with
   |some (x,h)=>some (.d x,h)
   |none=>none
 | .agg l=>match aH h l with
  |some (l,h)=>some (.agg l,h)
  |none=>none
 | .tup l=>match aH h l with
  |some (l,h)=>some (.tup l,h)
  |none=>none
 | .fn g fs cs=>match aH h fs with
  | some (fs,h)=>match aH h cs with
   |some (cs,h)=>some (.fn g fs cs,h)
   |none=>none
  |none=>none
 | .ifc t x=>match bH h x with
  |some (x,h)=>some (.ifc t x,h)
  |none=>none
 | .ptr s e off tot=>match ax h s e with
  | .vars l=>match Mo l with
   |some cs=>if tot=l.length then some (.dptr cs off,bK h s e (.data 1 cs false true))else none
   |none=>none
  |.data n cs ex _=>if tot=cs.length then some (.dptr cs off,bK h s e (.data n cs ex true))else none
  |_=>none
 |.dptr cs pos=>some (.dptr cs pos,h)
 |_=>none
def aH(h:Hp):List V->Option (List V×Hp)
 |[]=>some ([],h)
 | v::l=>match bH h v with
  | some (x,h)=>match aH h l with
   |some (xs,h)=>some (x::xs,h)
   |none=>none
  |none=>none
end
def bnd(o:Option V)(k:V->Prop):Prop:=match o with
 |some v=>k v
 |none=>False
def cnd(c:V)(A B:Prop):Prop:=match c with
 |.d (.bool b)=>if b then A else B
 |_=>False
def gd(c:V)(w:Bool)(h:Hp)(T:(V->Hp->Prop)->Prop)(k:V->Hp->Prop):Prop:=match c with
 |.d (.bool b)=>if b=w then T k else k (.tup []) h
 |.tup []=>k (.tup []) h
 |_=>False
def ext(x:V)(i:Nat)(k:V->Prop):Prop:=match x with
 |.tup vs=>bnd vs[i]? k
 |_=>False
def o9:V->V->V->Option V
 |.d (.bool t),x,y=>some (if t then x else y)
 |_,_,_=>none
def ot(o:Option Value):Option V:=match o with
 |some v=>some (.d (jA v))
 |none=>none
def biI(op:BinOp):V->V->Option V
 |.d (.int k a),.d (.int k' b)=>ot (iQ op k a k' b)
 |_,_=>none
def biB(op:BinOp):V->V->Option V
 | .d (.bool a),.d (.bool b)=>match op with
  |.eql=>some (.d (.bool (a == b)))
  |.neq=>some (.d (.bool (a !=b)))
  |_=>none
 |_,_=>none
def Ng(op:BinOp)(a b:LuQ):Option D:=
 match op with
 |.add=>if a.length+b.length<=9223372036854775807 then some (.str (a++b))else none
 |.eql=>some (.bool (a == b))
 |.neq=>some (.bool (!(a == b)))
 |.lss=>some (.bool (Op.bytesLess a b))
 |.leq=>some (.bool (Op.bytesLess a b||a == b))
 |.gtr=>some (.bool (!(Op.bytesLess a b||a == b)))
 |.geq=>some (.bool (!(Op.bytesLess a b)))
 |_=>none
def biS(op:BinOp):V->V->Option V
 | .d (.str a),.d (.str b)=>match Ng op a b with
  |some x=>some (.d x)
  |none=>none
 |_,_=>none
def eqC(q:Bool):D->D->D->Option Bool
 |.int _ _,.int k a,.int k' b=>if k=k' then some (a == b&&q)else none
 |.bool _,.bool a,.bool b=>some (a == b&&q)
 |.str _,.str a,.str b=>some (a == b&&q)
 |_,_,_=>none
def BN:List D->List V->List V->Option Bool
 |[],[],[]=>some true
 | z::zs,.d x::l,.d y::m=>match BN zs l m with
  |some q=>eqC q z x y
  |none=>none
 |_,_,_=>none
def biA(z:List D)(op:BinOp):V->V->Option V
 | .agg xs,.agg ys=>match op,BN z xs ys with
  |.eql,some p=>some (.d (.bool p))
  |.neq,some p=>some (.d (.bool !p))
  |_,_=>none
 |_,_=>none
def NG(h:Hp):V->Option Bool
 |.d (.pl (.slice none _ _))=>some true
 |.d (.sl (_+1) _)=>some false
 |.cut _=>some false
 | .ref s e _ _ _ tot=>match ax h s e with
  |.data n cs _ _=>if tot=cs.length then some false else none
  |_=>none
 |_=>none
def biN(h:Hp)(op:BinOp)(x y:V):Option V:=
 match op,NG h x,NG h y with
 |.eql,some true,some q=>some (.d (.bool q))
 |.eql,some q,some true=>some (.d (.bool q))
 |.neq,some true,some q=>some (.d (.bool !q))
 |.neq,some q,some true=>some (.d (.bool !q))
 |_,_,_=>none
def VQ:V->Bool
 |.d (.sl 0 _)=>true
 |_=>false
def Bj(h:Hp)(op:BinOp)(x y:V)(k:V->Prop):Prop:=match biN h op x y with
 |some v=>k v
 | none=>match op,VQ x,NG h y with
  |.eql,true,some true=>∀b,k (.d (.bool b))
  |.neq,true,some true=>∀b,k (.d (.bool b))
  |_,_,_=>False
def unV(op:UnOp):V->Option V
 | .d (.bool b)=>match op with
  |.not=>some (.d (.bool !b))
  |_=>none
 | .d (.int k n)=>match op with
  |.neg=>ot (iQ .sub k 0 k n)
  |.xor=>ot (iQ .xor k (if k.signed then -1 else k.max) k n)
  |_=>none
 |_=>none
def cvI(k:IntKind):V->Option V
 |.d (.int _ n)=>some (.d (.int k (k.wrap n)))
 |_=>none
def cvS:V->Option V
 |.d (.str s)=>some (.d (.str s))
 |_=>none
def bytesD:List D->Option LuQ
 |[]=>some []
 | .int .u8 n::l=>if 0<=n∧n<256 then match bytesD l with
  |some r=>some (UInt8.ofNat n.toNat::r)
  |none=>none else none
 |_=>none
def cellsOf(h:Hp):V->Option (Nat×List D)
 |.d (.sl len cs)=>some (len,cs)
 |.d (.pl (.slice none 0 0))=>some (0,[])
 |.cut _=>some (0,[])
 | .ref s e off len cap tot=>match ax h s e with
  |.data n cs _ _=>if tot=cs.length∧off+len*n<=cs.length then some (len,(cs.drop off).take (len*n))else none
  |_=>none
 |_=>none
def cvT(h:Hp)(x:V):Option V:=match cellsOf h x with
 | some (len,cs)=>if cs.length=len then match bytesD cs with
  |some s=>some (.d (.str s))
  |none=>none else none
 |none=>none
def cvB(x:V)(h:Hp)(k:V->Hp->Prop):Prop:=match x with
 |.d (.str s)=>k (.d (.sl s.length (s.map λb=>.int .u8 b.toNat))) h
 |_=>False
def mx2(g:Bool)(a b:Int):Int:=if g then(if b>a then b else a)else(if b<a then b else a)
def mxI(g:Bool):List V->Option V
 |[.d (.int k a)]=>some (.d (.int k a))
 | .d (.int k a) :: .d (.int k' b)::l=>match l with
  |[]=>some (.d (.int k (mx2 g a b)))
  |[.d (.int _ c)]=>some (.d (.int k (mx2 g (mx2 g a b) c)))
  |_=>none
 |_=>none
def biF(op:BinOp):V->V->Option V
 | .d (.pl .nilIface),.d (.pl .nilIface)=>match op with
  |.eql=>some (.d (.bool true))
  |.neq=>some (.d (.bool false))
  |_=>none
 |_,_=>none
def nH:V->Option V
 |.d (.str s)=>some (.d (.int .i64 s.length))
 |_=>none
def aX:V->Option V
 |.d (.sl n _)=>some (.d (.int .i64 n))
 |.d (.pl (.slice none n _))=>some (.d (.int .i64 n))
 |.ref _ _ _ len _ _=>some (.d (.int .i64 len))
 |.cut _=>some (.d (.int .i64 0))
 |_=>none
def faV(off:Nat):V->Option V
 |.ptr s e o tot=>some (.ptr s e (o+off) tot)
 |.dptr cs o=>some (.dptr cs (o+off))
 |_=>none
def fiV(off n:Nat)(one:Bool):V->Option V
 | .agg vs=>if one then vs[off]? else match cut vs off n with
  |some l=>some (.agg l)
  |none=>none
 |_=>none
def ixV(h:Hp)(n:Nat):V->V->Option V
 |.d (.sl len cs),.d (.int _ i)=>if 0<=i∧i<len∧cs.length=len*n then some (.dptr cs (i.toNat*n))else none
 | .ref s e off len cap tot,.d (.int _ i)=>match ax h s e with
  |.data m cs _ _=>if tot=cs.length∧0<=i∧i<len then some (.ptr s e (off+i.toNat*n) tot)else none
  |.vars cs=>if tot=cs.length∧0<=i∧i<len then some (.ptr s e (off+i.toNat*n) tot)else none
  |_=>none
 |_,_=>none
def ixP(len n:Nat):V->V->Option V
 |.ptr s e off tot,.d (.int _ i)=>if 0<=i∧i<len then some (.ptr s e (off+i.toNat*n) tot)else none
 |.dptr cs off,.d (.int _ i)=>if 0<=i∧i<len then some (.dptr cs (off+i.toNat*n))else none
 |_,_=>none
def ixS:V->V->Option V
 | .d (.str s),.d (.int _ i)=>if 0<=i then match s[i.toNat]? with
  |some b=>some (.d (.int .u8 b.toNat))
  |none=>none else none
 |_,_=>none
def ixA(len n:Nat)(one:Bool):V->V->Option V
 |.agg vs,.d (.int _ i)=>if 0<=i∧i<len then fiV (i.toNat*n) n one (.agg vs)else none
 |_,_=>none
def ld1(h:Hp):V->Option V
 | .ptr s e off tot=>match ax h s e with
  |.vars cs=>if tot=cs.length then cs[off]? else none
  | .data _ cs _ _=>if tot=cs.length then match cs[off]? with
   |some x=>some (.d x)
   |none=>none else none
  |.none=>none
 | .dptr cs pos=>match cs[pos]? with
  |some x=>some (.d x)
  |none=>none
 |_=>none
def ldA(h:Hp)(n:Nat):V->Option V
 | .ptr s e off tot=>match ax h s e with
  | .vars cs=>if tot=cs.length then match cut cs off n with
   |some l=>some (.agg l)
   |none=>none else none
  | .data _ cs _ _=>if tot=cs.length then match cut cs off n with
   |some l=>some (.agg (l.map .d))
   |none=>none else none
  |.none=>none
 | .dptr cs pos=>match cut cs pos n with
  |some l=>some (.agg (l.map .d))
  |none=>none
 |_=>none
def sto(h:Hp)(s e off tot:Nat)(vs:List V):Option Hp:=match ax h s e with
 |.vars cs=>if tot=cs.length∧off+vs.length<=cs.length∧vs.all okV=true then some (bK h s e (.vars (cs.take off++vs++cs.drop (off+vs.length))))else none
 | .data _ _ _ _=>match jG h vs with
  | some (xs,h')=>match ax h' s e with
   |.data n cs ex fr=>if fr=false∧tot=cs.length∧off+xs.length<=cs.length then some (bK h' s e (.data n (cs.take off++xs++cs.drop (off+xs.length)) ex false))else none
   |_=>none
  |none=>none
 |.none=>none
def st(h:Hp)(n:Nat)(p v:V):Option Hp:=match p,v with
 |.ptr s e off tot,.agg vs=>if vs.length=n then sto h s e off tot vs else none
 |.ptr s e off tot,v=>if n=1 then sto h s e off tot [v]else none
 |_,_=>none
def stD(h:Hp)(n:Nat)(p v:V)(k:V->Hp->Prop):Prop:=match st h n p v with
 |some h'=>k .junk h'
 |none=>False
def new(h:Hp)(s:Nat)(b:Bk)(k:Nat->Hp->Prop):Prop:=match h[s]? with
 |some (e,_)=>k (e+1) (h.set s (e+1,b))
 |none=>False
def wW:V->Option (List V)
 |.agg vs=>some vs
 |.junk|.tup _|.ifc .. |.new ..=>none
 |v=>some [v]
def pf(place:Nat->Option (Nat×Nat))(cs:List V):List (Nat×V)->Option (List V)
 |[]=>some cs
 | (i,v)::r=>match place i with
  |none=>none
  | some (off,sz)=>match wW v with
   |none=>none
   |some vs=>if vs.length=sz∧off+vs.length<=cs.length then pf place (cs.take off++vs++cs.drop (off+vs.length)) r else none
def bld(fs:List (Nat×Nat))(z:List D)(ps:List (Nat×V)):Option V:=match pf (λi=>fs[i]?) (z.map .d) ps with
 |some l=>some (.agg l)
 |none=>none
def aea(n:Nat)(z:List D)(ps:List (Nat×V)):Option V:=match pf (λi=>some (i*n,n)) (z.map .d) ps with
 |some l=>some (.agg l)
 |none=>none
def gK(n:Nat)(z:List D):List D:=match n with
 |0=>[]
 |n+1=>z++gK n z
def alV(s:Nat)(cs:List V)(h:Hp)(k:V->Hp->Prop):Prop:=new h s (.vars cs) λe h=>k (.ptr s e 0 cs.length) h
def alD(s n:Nat)(cs:List D)(h:Hp)(k:V->Hp->Prop):Prop:=new h s (.data n cs true false) λe h=>k (.ptr s e 0 cs.length) h
def d6(s:Nat)(v:V)(h:Hp)(k:V->Hp->Prop):Prop:=match wW v with
 |some cs=>alV s cs h k
 |none=>False
def dv(len:Nat)(z:List D)(ps:List (Nat×V))(h:Hp)(k:V->Hp->Prop):Prop:=
 match pf (λi=>some (i*z.length,z.length)) ((gK len z).map .d) ps with
 | some vs=>if 0<z.length∧len*z.length<=16777216 then match jG h vs with
  |some (xs,h)=>k (.d (.sl len xs)) h
  |none=>False else False
 |none=>False
def wI(s len:Nat)(z:List D)(ps:List (Nat×V))(h:Hp)(k:V->Hp->Prop):Prop:=
 match pf (λi=>some (i*z.length,z.length)) ((gK len z).map .d) ps with
 | some vs=>if 0<z.length∧len*z.length<=16777216 then match jG h vs with
  |some (xs,h)=>new h s (.data z.length xs true false) λe h=>k (.ref s e 0 len len xs.length) h
  |none=>False else False
 |none=>False
def CS(s len:Nat)(z:List D)(ps:List (Nat×V))(h:Hp)(k:V->Hp->Prop):Prop:=
 match pf (λi=>some (i*z.length,z.length)) ((gK len z).map .d) ps with
 |some vs=>if(0<z.length∧len*z.length<=16777216)∧vs.length=len then new h s (.vars vs) λe h=>k (.ref s e 0 len len vs.length) h else False
 |none=>False
def mkS(s bytes:Nat)(z:List D)(h:Hp)(l c:V)(k:V->Hp->Prop):Prop:=match l,c with
 | .d (.int _ l),.d (.int _ c)=>
  if 0<=l∧l<=c∧0<z.length∧(bytes:Int)*c<=281474976710656∧c<=9223372036854775807 then
   new h s (.data z.length (gK c.toNat z) true false) λe h=>k (.ref s e 0 l.toNat c.toNat (gK c.toNat z).length) h
  else False
 |_,_=>False
def boV(d top:Nat):Option V->Option Nat
 |none=>some d
 |some (.d (.int _ i))=>if 0<=i∧i<=top then some i.toNat else none
 |some _=>none
def slS(x:V)(lo hi:Option V):Option V:=match x with
 | .d (.str s)=>match boV s.length s.length hi with
  | some j=>match boV 0 j lo with
   |some i=>some (.d (.str ((s.drop i).take (j-i))))
   |none=>none
  |none=>none
 |_=>none
def slV(h:Hp)(n:Nat)(x:V)(lo hi:Option V):Option V:=match x with
 | .d (.sl len cs)=>match boV len len hi with
  | some j=>match boV 0 j lo with
   |some i=>if cs.length=len*n∧0<len then some (.d (.sl (j-i) ((cs.drop (i*n)).take ((j-i)*n))))else none
   |none=>none
  |none=>none
 | .ref s e off len cap tot=>match ax h s e with
  | .data m cs _ _=>match boV len cap hi with
   | some j=>match boV 0 j lo with
    |some i=>if tot=cs.length∧len<=cap∧m=n then some (.ref s e (off+i*n) (j-i) (cap-i) tot)else none
    |none=>none
   |none=>none
  | .vars cs=>match boV len cap hi with
   | some j=>match boV 0 j lo with
    |some i=>if tot=cs.length∧len<=cap∧n=1 then some (.ref s e (off+i*n) (j-i) (cap-i) tot)else none
    |none=>none
   |none=>none
  |_=>none
 | .d (.pl (.slice none 0 0))=>match boV 0 0 hi with
  | some j=>match boV 0 j lo with
   |some _=>some (.d (.pl (.slice none 0 0)))
   |none=>none
  |none=>none
 |_=>none
def ad7:V->Option V
 |.d (.pl (.slice none 0 0))=>some (.d (.int .i64 0))
 |_=>none
def slZ(n:Nat)(x:V):Option V:=match x with
 |.d (.sl 0 cs)=>some (.d (.sl 0 []))
 |.d (.sl (len+1) cs)=>if cs.length=(len+1)*n then some (.cut n)else none
 |_=>none
def slX(h:Hp)(n:Nat)(x:V)(lo hi:Option V)(mx:V):Option V:=match x with
 | .ref s e off len cap tot=>match ax h s e with
  | .data m cs _ _=>match boV cap cap (some mx)with
   | some mm=>match boV len mm hi with
    | some j=>match boV 0 j lo with
     |some i=>if tot=cs.length∧len<=cap∧m=n∧hi.isSome=true then some (.ref s e (off+i*n) (j-i) (mm-i) tot)else none
     |none=>none
    |none=>none
   |none=>none
  |_=>none
 |_=>none
def ad2(h:Hp)(z:List D)(x:V)(k:V->Hp->Prop):Prop:=match x with
 | .ref s e off len cap tot=>match ax h s e with
  | .data n cs ex fr=>if 0<len∧z.length=n∧0<n∧fr=false∧tot=cs.length∧off+(gK len z).length<=cs.length then
    k (.tup []) (bK h s e (.data n (cs.take off++gK len z++cs.drop (off+(gK len z).length)) ex false))else False
  |_=>False
 |_=>False
def cpD(h:Hp)(n:Nat)(x y:V)(k:V->Hp->Prop):Prop:=match x with
 | .ref s e off len cap tot=>match ax h s e with
  | .data m cs ex fr=>match cellsOf h y with
   | some (j,ys)=>if(0<min j len∧m=n∧0<n∧fr=false)∧tot=cs.length∧ys.length=j*n∧off+min j len*n<=cs.length then
     k (.d (.int .i64 (min j len:Nat))) (bK h s e (.data n (cs.take off++ys.take (min j len*n)++cs.drop (off+min j len*n)) ex false))else False
   |none=>False
  |_=>False
 |_=>False
def slP(len n:Nat)(h:Hp)(x:V)(lo hi:Option V):Option V:=match x with
 | .ptr s e off tot=>match ax h s e with
  | .data m cs _ _=>match boV len len hi with
   | some j=>match boV 0 j lo with
    |some i=>if m=n∧tot=cs.length∧off+len*n<=cs.length then some (.ref s e (off+i*n) (j-i) (len-i) tot)else none
    |none=>none
   |none=>none
  |_=>none
 |_=>none
def apC(dr:Bool)(s n bytes:Nat)(x:V)(k:Nat)(cs:List D)(h:Hp)(q:V->Hp->Prop):Prop:=
 if k=0 then(match x with
  |.d (.sl ..)=>q x h
  |.d (.pl (.slice none 0 0))=>q x h
  |.cut _=>q x h
  |.ref _ _ _ len cap _=>if len<=cap then q x h else False
  |_=>False)
 else match x with
 |.d (.pl (.slice none 0 0))=>if k*bytes<=140737488355328 then new h s (.data n cs false false) λe h=>q (.ref s e 0 k k cs.length) h else False
 |.cut m=>if m=n∧k*bytes<=140737488355328 then new h s (.data n cs false false) λe h=>q (.ref s e 0 k k cs.length) h else False
 | .ref s' e off len cap tot=>match ax h s' e with
  | .data m old ex fr=>if m=n∧tot=old.length∧len<=cap∧off+cap*n<=old.length∧cs.length=k*n then
   if len+k<=cap then
    if fr||dr then False else q (.ref s' e off (len+k) cap tot) (bK h s' e (.data n (old.take (off+len*n)++cs++old.drop (off+(len+k)*n)) ex false))
   else if(len+k)*bytes<=140737488355328 then
    if ex then new h s (.data n ((old.drop off).take (len*n)++cs) false false) λe h=>q (.ref s e 0 (len+k) (len+k) (len*n+cs.length)) h
    else if fr||dr then False
    else if off+cap*n=old.length∧old.length<len*n+cs.length then q (.ref s' e 0 (len+k) (len+k) (len*n+cs.length)) (bK h s' e (.data n ((old.drop off).take (len*n)++cs) false false))
    else False
   else False
   else False
  |_=>False
 |_=>False
def apV(dr:Bool)(s n bytes:Nat)(x y:V)(h:Hp)(q:V->Hp->Prop):Prop:=match y with
 |.d (.str t)=>if n=1 then apC dr s n bytes x t.length (t.map λb=>.int .u8 b.toNat) h q else False
 | y=>match cellsOf h y with
  |some (k,cs)=>if cs.length=k*n then apC dr s n bytes x k cs h q else False
  |none=>False
def rN(h:Hp):V->Option (Nat×List V)
 | .ref s e off len cap tot=>match ax h s e with
  |.vars cs=>if tot=cs.length∧off+len<=cs.length then some (len,(cs.drop off).take len)else none
  |_=>none
 |_=>none
def apW(dr:Bool)(s n bytes:Nat)(x y:V)(h:Hp)(q:V->Hp->Prop):Prop:=match rN h y with
 | some (k,vs)=>if vs.all okV=true∧0<k∧n=1 then(match x with
  |.d (.pl (.slice none 0 0))=>if k*bytes<=140737488355328 then new h s (.vars vs) λe h=>q (.ref s e 0 k k vs.length) h else False
  | .ref s' e off len cap tot=>match ax h s' e with
   | .vars old=>if dr=false∧tot=old.length∧len<=cap∧off+cap<=old.length then
     (if len+k<=cap then q (.ref s' e off (len+k) cap tot) (bK h s' e (.vars (old.take (off+len)++vs++old.drop (off+len+k))))
     else if(len+k)*bytes<=140737488355328∧off+cap=old.length∧old.length<len+k then q (.ref s' (e+1) 0 (len+k) (len+k) (len+k)) (h.set s' (e+1,.vars ((old.drop off).take len++vs)))
     else False)else False
   |_=>False
  |_=>False)else False
 |none=>False
def apZ(dr:Bool)(s n bytes:Nat)(z:List D)(x y:V)(h:Hp)(q:V->Hp->Prop):Prop:=match y with
 |.d (.int _ k)=>if 0<=k∧k*bytes<=140737488355328 then apC dr s n bytes x k.toNat (gK k.toNat z) h q else False
 |_=>False
abbrev sE:=FuncId->List V->V->Prop
abbrev sC:=FuncId->List V->Hp->V->Hp->Prop
structure CC where
 p:sE
 i:sC
def cal(C:sE)(h:Hp)(c:V)(args:List V)(k:V->Hp->Prop):Prop:=match c with
 | .fn g fs cs=>match aH h (fs++args++cs)with
  |some (ds,h')=>∃v,C g ds v∧k v (if cS v then h else h')
  |none=>False
 |_=>False
def cai(D:sC)(h:Hp)(c:V)(args:List V)(s:Nat)(k:V->Hp->Prop):Prop:=match c with
 | .fn g fs cs=>∃v h',D g (fs++args++cs) h v h'∧(match v with
  |.new n cells ex len cap=>new h' s (.data n cells ex false) λe h=>k (.ref s e 0 len cap cells.length) h
  |.cut _=>False
  |.tup [.new n cells ex len cap,.d y]=>new h' s (.data n cells ex false) λe h=>k (.tup [.ref s e 0 len cap cells.length,.d y]) h
  |.tup [.new n cells ex len cap]=>new h' s (.vars (cells.map .d)) λe h=>k (.ptr s e 0 cells.length) h
  |.tup [.tup [.new n cells ex len cap],.d y]=>new h' s (.vars (cells.map .d)) λe h=>k (.tup [.ptr s e 0 cells.length,.d y]) h
  |v=>k v h')
 |_=>False
def ad8(D:sC)(h:Hp)(c:V)(args:List V)(s:Nat)(k:V->Hp->Prop):Prop:=match c with
 | .fn g fs cs=>match aH h (fs++args++cs)with
  | some (ds,h1)=>∃v,D g ds [] v []∧(match v with
   |.new n cells ex len cap=>new h1 s (.data n cells ex false) λe h=>k (.ref s e 0 len cap cells.length) h
   |.cut n=>k (.d (.pl (.slice none 0 0))) h1∧new h1 s (.data n [] true false) λe h=>k (.ref s e 0 0 0 0) h
   |.d x=>k (.d x) h1
   |_=>False)
  |none=>False
 |_=>False
inductive Act where
 |o
 |slot (s:Nat)
 |inl (s:Nat)
 /-- values in a slot,slices among them -/
 |val (s:Nat)
 /-- in some slot -/
 |anyS
 |anyI
 |anyV
abbrev aeh(a:Act)(f:Act->Prop):Prop:=match a with
 |.anyS=>∃s,f (.slot s)
 |.anyI=>∃s,f (.inl s)
 |.anyV=>∃s,f (.val s)
 |a=>f a
theorem SC{a:Act}{f:Act->Prop}(h:aeh a f):∃b,f b:=by
 unfold aeh at h;split at h
 .obtain⟨s,h⟩:=h;exact⟨_,h⟩
 .obtain⟨s,h⟩:=h;exact⟨_,h⟩
 .obtain⟨s,h⟩:=h;exact⟨_,h⟩
 .exact⟨_,h⟩
def anyS(f:Nat->Prop):Prop:=∃s,f s
inductive Gh where
 |opn (s:Nat)
 |cls (s:Nat)
inductive yW where
 |x
 |g (l:List Gh)
 /-- a temporary becomes data -/
 |f (t:Nat)
 |j (outs keep:LnQ)
 |l (ins inv:LnQ) (exs:List (Exit×LnQ×LnQ)) (clr:LnQ)
 |r (acts:List Act)
 |d
inductive Ann where
 |o
 |n (i:yW) (l r:Ann)
def Ann.i:Ann->yW
 |.o=>.x
 |.n i _ _=>i
def Ann.a:Ann->Ann
 |.o=>.o
 |.n _ x _=>x
def Ann.b:Ann->Ann
 |.o=>.o
 |.n _ _ x=>x
def yW.acts:yW->List Act
 |.r acts=>acts
 |_=>[]
def ev(Y:kA)(env:Env):Operand->V
 |.tmp t=>lk env t
 |.const v=>lit v
 | .global g=>match Y.glob g with
  |some cs=>.dptr cs 0
  |none=>.junk
 |.func f=>.fn f [] []
def evK(Y:kA)(env:Env)(x:Operand)(k:V->Prop):Prop:=match x with
 |.tmp t=>lkK env t k
 |x=>k (ev Y env x)
def Wc(Y:kA)(env:Env):List Operand->(List V->Prop)->Prop
 |[],k=>k []
 |x::l,k=>evK Y env x λv=>Wc Y env l λvs=>k (v::vs)
def GA:Ty->Option Bool
 |.st _|.ar ..=>some true
 |.o=>none
 |_=>some false
def PP:Ty->Bool
 |.sl _|.s=>true
 |_=>false
def isInt:Ty->Bool
 |.i _=>true
 |_=>false
def opD(Y:kA)(C:CC)(dr:Bool)(act:Act)(o:Oper)(env:Env)(h:Hp)(k:V->Hp->Prop):Prop:=
 match o.op with
 |.move x=>evK Y env x λv=>k v h
 |.assign x=>evK Y env x λv=>k v h
 |.pick c x y=>bnd (o9 (ev Y env c) (ev Y env x) (ev Y env y)) λv=>k v h
 | .alloc t=>match act with
  | .slot s=>match(Y.ty t).k with
   |.ar _ e=>alD s (Y.ty e).sz (Y.ty t).z h k
   |_=>alV s ((Y.ty t).z.map .d) h k
  |_=>False
 | .box _ x=>match act with
  |.slot s=>d6 s (ev Y env x) h k
  |_=>False
 | .build t ps=>match(Y.ty t).k with
  |.st fs=>bnd (bld fs (Y.ty t).z (ps.toList.map λp=>(p.1,ev Y env p.2))) λv=>k v h
  |.ar _ e=>bnd (aea (Y.ty e).sz (Y.ty t).z (ps.toList.map λp=>(p.1,ev Y env p.2))) λv=>k v h
  |_=>False
 | .buildSlice t len ps=>match(Y.ty t).k with
  | .sl e=>match act with
   |.slot s=>wI s len (Y.ty e).z (ps.toList.map λp=>(p.1,ev Y env p.2)) h k
   |.val s=>CS s len (Y.ty e).z (ps.toList.map λp=>(p.1,ev Y env p.2)) h k
   |_=>dv len (Y.ty e).z (ps.toList.map λp=>(p.1,ev Y env p.2)) h k
  |_=>False
 | .load t x=>match GA (Y.ty t).k with
  |some true=>bnd (ldA h (Y.ty t).sz (ev Y env x)) λv=>k v h
  |some false=>bnd (ld1 h (ev Y env x)) λv=>k v h
  |none=>False
 |.store t x y=>stD h (Y.ty t).sz (ev Y env x) (ev Y env y) k
 |.nilCheck x=>bnd (faV 0 (ev Y env x)) λv=>k v h
 | .binOp op t x y _=>match(Y.ty t).k with
  |.i _=>bnd (biI op (ev Y env x) (ev Y env y)) λv=>k v h
  |.b=>bnd (biB op (ev Y env x) (ev Y env y)) λv=>k v h
  |.s=>bnd (biS op (ev Y env x) (ev Y env y)) λv=>k v h
  |.sl _=>Bj h op (ev Y env x) (ev Y env y) λv=>k v h
  | .it=>match y with
   |.const _=>bnd (biF op (ev Y env x) (ev Y env y)) λv=>k v h
   |_=>False
  | .st _=>match(Y.ty t).eq with
   |true=>bnd (biA (Y.ty t).z op (ev Y env x) (ev Y env y)) λv=>k v h
   |false=>False
  |_=>False
 |.unOp op _ x=>bnd (unV op (ev Y env x)) λv=>k v h
 | .convert s d x=>match(Y.ty s).k,(Y.ty d).k with
  |.i _,.i kd=>bnd (cvI kd (ev Y env x)) λv=>k v h
  |.s,.s=>bnd (cvS (ev Y env x)) λv=>k v h
  |.sl _,.s=>bnd (cvT h (ev Y env x)) λv=>k v h
  |.s,.sl _=>cvB (ev Y env x) h k
  |_,_=>False
 |.makeFunc (.func f) x y=>Wc Y env x.toList λx=>Wc Y env y.toList λy=>k (.fn f x y) h
 | .makeSlice t l c=>match(Y.ty t).k,act with
  |.sl e,.slot s=>mkS s (Y.ty e).bytes (Y.ty e).z h (ev Y env l) (ev Y env c) k
  |_,_=>False
 | .slice t x lo hi mx=>match(Y.ty t).k with
  | .s=>match mx with
   |none=>bnd (slS (ev Y env x) (lo.map (ev Y env)) (hi.map (ev Y env))) λv=>k v h
   |_=>False
  | .sl e=>match mx with
   |none=>bnd (slV h (Y.ty e).sz (ev Y env x) (lo.map (ev Y env)) (hi.map (ev Y env))) λv=>k v h
   | some (.const (.int .i64 0))=>match lo,hi with
    |none,some (.const (.int .i64 0))=>bnd (slZ (Y.ty e).sz (ev Y env x)) λv=>k v h
    |_,_=>False
   |some mx=>bnd (slX h (Y.ty e).sz (ev Y env x) (lo.map (ev Y env)) (hi.map (ev Y env)) (ev Y env mx)) λv=>k v h
  | .ar len e=>match mx with
   |none=>bnd (slP len (Y.ty e).sz h (ev Y env x) (lo.map (ev Y env)) (hi.map (ev Y env))) λv=>k v h
   |_=>False
  |_=>False
 | .fieldAddr t x f=>match(Y.ty t).k with
  | .st fs=>match fs[f]? with
   |some (off,_)=>bnd (faV off (ev Y env x)) λv=>k v h
   |none=>False
  |_=>False
 | .field t x f=>match(Y.ty t).k with
  | .st fs=>match fs[f]? with
   |some (off,sz)=>bnd (fiV off sz (Nat.beq sz 1) (ev Y env x)) λv=>k v h
   |none=>False
  |_=>False
 | .indexAddr t x i=>match(Y.ty t).k with
  |.sl e=>bnd (ixV h (Y.ty e).sz (ev Y env x) (ev Y env i)) λv=>k v h
  |.ar len e=>bnd (ixP len (Y.ty e).sz (ev Y env x) (ev Y env i)) λv=>k v h
  |_=>False
 | .index t x i=>match(Y.ty t).k with
  |.s=>bnd (ixS (ev Y env x) (ev Y env i)) λv=>k v h
  |.ar len e=>bnd (ixA len (Y.ty e).sz (Nat.beq (Y.ty e).sz 1) (ev Y env x) (ev Y env i)) λv=>k v h
  |_=>False
 |.extract x i=>ext (ev Y env x) i λv=>k v h
 | .call c=>match c.callee with
  | .value f=>match act with
   | .inl s=>match dr with
    |true=>ad8 C.i h (ev Y env f) (c.args.toList.map (ev Y env)) s k
    |false=>cai C.i h (ev Y env f) (c.args.toList.map (ev Y env)) s k
   |_=>cal C.p h (ev Y env f) (c.args.toList.map (ev Y env)) k
  | .builtin .len=>match(Y.ty (c.argTypes.getD 0 0)).k with
   |.s=>bnd (nH (ev Y env (c.args.getD 0 (.tmp 0)))) λv=>k v h
   |.sl _=>bnd (aX (ev Y env (c.args.getD 0 (.tmp 0)))) λv=>k v h
   |.ar n _=>k (.d (.int .i64 n)) h
   |_=>False
  | .builtin .cap=>match(Y.ty (c.argTypes.getD 0 0)).k with
   |.sl _=>bnd (ad7 (ev Y env (c.args.getD 0 (.tmp 0)))) λv=>k v h
   |_=>False
  | .builtin .clear=>match(Y.ty (c.argTypes.getD 0 0)).k,dr with
   | .sl e,false=>match GA (Y.ty e).k with
    |none=>False
    |some _=>ad2 h (Y.ty e).z (ev Y env (c.args.getD 0 (.tmp 0))) k
   |_,_=>False
  | .builtin .copy=>match(Y.ty (c.argTypes.getD 0 0)).k,dr with
   | .sl e,false=>match GA (Y.ty e).k with
    |none=>False
    |some _=>cpD h (Y.ty e).sz (ev Y env (c.args.getD 0 (.tmp 0))) (ev Y env (c.args.getD 1 (.tmp 0))) k
   |_,_=>False
  |.builtin .max=>bnd (mxI true (c.args.toList.map (ev Y env))) λv=>k v h
  |.builtin .min=>bnd (mxI false (c.args.toList.map (ev Y env))) λv=>k v h
  | .builtin .append=>match(Y.ty (c.argTypes.getD 0 0)).k,act with
   | .sl e,.slot s=>match PP (Y.ty (c.argTypes.getD 1 0)).k with
    | false=>match isInt (Y.ty (c.argTypes.getD 1 0)).k with
     |false=>False
     |true=>apZ dr s (Y.ty e).sz (Y.ty e).bytes (Y.ty e).z (ev Y env (c.args.getD 0 (.tmp 0))) (ev Y env (c.args.getD 1 (.tmp 0))) h k
    |true=>apV dr s (Y.ty e).sz (Y.ty e).bytes (ev Y env (c.args.getD 0 (.tmp 0))) (ev Y env (c.args.getD 1 (.tmp 0))) h k
   | .sl e,.val s=>match PP (Y.ty (c.argTypes.getD 1 0)).k with
    |false=>False
    |true=>apW dr s (Y.ty e).sz (Y.ty e).bytes (ev Y env (c.args.getD 0 (.tmp 0))) (ev Y env (c.args.getD 1 (.tmp 0))) h k
   |_,_=>False
  |_=>False
 |_=>False
def MB(ops:List Oper)(env:Env)(j:Nat):V:=match ops[j]? with
 | some o=>match o.dst with
  |some t=>lk env t
  |none=>.junk
 |none=>.junk
def takes:Op->Bool
 |.alloc _|.box .. |.buildSlice .. |.makeSlice ..=>true
 | .call c=>match c.callee with
  |.builtin .append=>true
  |.value _=>true
  |_=>false
 |_=>false
def pn:Bool->List Act->Act
 |true,a::_=>a
 |_,_=>.o
def aeg:Bool->List Act->List Act
 |true,_::l=>l
 |_,l=>l
abbrev tk(t:Bool)(acts:List Act)(k:Act->List Act->Prop):Prop:=match t with
 | true=>(match acts with
  |a::l=>k a l
  |[]=>k .o [])
 |false=>k .o acts
theorem aeR(t:Bool)(acts:List Act)(k:Act->List Act->Prop):tk t acts k=k (pn t acts) (aeg t acts):=by cases t<;>cases acts<;>rfl
def unL(P:Program)(ops:Array Oper)(i:Nat):List (Oper×Nat)->List Tmp
 |[]=>[]
 | (x,j)::l=>match gE P x.op&&unB ops i j with
  | true=>match x.op with
   | .load _ (.tmp p)=>(match wA ops p with
    |some b=>b::unL P ops i l
    |none=>unL P ops i l)
   |_=>unL P ops i l
  |false=>unL P ops i l
def aaj(P:Program)(ops:Array Oper)(i:Nat)(op:Op):Bool:=match G2 ops op with
 | true=>ops.toList.zipIdx.all λ(x,j)=>!(gE P x.op&&unB ops i j)||match x.op with
  |.load _ (.tmp p)=>(wA ops p).isSome
  |_=>false
 |false=>false
def drA(P:Program)(dr:Bool)(ops:Array Oper)(o:Oper)(r:List Oper):Bool:=dr&&chk P ops (ops.size-(r.length+1)) o && !aaj P ops (ops.size-(r.length+1)) o.op
def drS(P:Program)(dr:Bool)(ops:Array Oper)(o:Oper)(r:List Oper):List Tmp:=match dr&&G2 ops o.op with
 |true=>unL P ops (ops.size-(r.length+1)) ops.toList.zipIdx
 |false=>[]
def stP(o:Oper)(env:Env):V:=match o.op with
 |.store _ (.tmp p) _=>lk env p
 | .call c=>match c.args.toList with
  |.tmp p::_=>lk env p
  |_=>.junk
 |_=>.junk
def ownB(h:Hp)(s e tot:Nat):Bool:=match ax h s e with
 |.vars cs=>Nat.beq cs.length tot
 |_=>false
def Rn(h:Hp)(s e tot:Nat):Bool:=match ax h s e with
 |.data _ cs _ false=>Nat.beq cs.length tot
 |_=>false
def apt(h:Hp):V->V->Bool
 |.ptr s e _ tot,.ptr s' e' _ tot'=>!(Nat.beq s s')&&ownB h s e tot&&ownB h s' e' tot'
 |.ref s e _ _ _ tot,.ptr s' e' _ tot'=>!(Nat.beq s s')&&Rn h s e tot&&ownB h s' e' tot'
 |.d (.pl (.slice none _ _)),.ptr s' e' _ tot'=>ownB h s' e' tot'
 |_,_=>false
def sp(h:Hp)(x:V):List V->Prop->Prop
 |[],k=>k
 | y::l,k=>match apt h x y with
  |true=>sp h x l k
  |false=>False
def smB(h:Hp):V->V->Bool
 |.ptr s e _ tot,.ptr s' e' _ tot'=>Nat.beq s s'&&Nat.beq e e'&&Nat.beq tot tot'&&ownB h s e tot
 |_,_=>false
def sm(h:Hp)(x y:V)(k:Prop):Prop:=match smB h x y with
 |true=>k
 |false=>False
def gt(P:Program)(dr:Bool)(ops:Array Oper)(o:Oper)(env:Env)(h:Hp)(k:Prop):Prop:=match dr with
 | true=>(match o.op with
  | .load _ (.tmp p)=>(match yM ops p with
   | true=>(match wA ops p with
    | some b=>(match zI P ops with
     |true=>sm h (lk env b) (lk env p) k
     |false=>k)
    |none=>k)
   |false=>k)
  |_=>k)
 |false=>k
def soC(C:sE)(h:Hp)(c:V)(args:List V)(k:V->Hp->Prop):Prop:=match c with
 | .fn g [] []=>(match oM args with
  |true=>∃v,C g args v∧k v h
  |false=>False)
 |_=>False
def soE(Y:kA)(C:CC)(o:Oper)(env:Env)(h:Hp)(k:V->Hp->Prop):Prop:=match o.op with
 | .call c=>(match c.callee with
  |.value f=>soC C.p h (ev Y env f) (c.args.toList.map (ev Y env)) k
  |_=>False)
 |_=>False
def opE(Y:kA)(C:CC)(dr:Bool)(ops:Array Oper)(act:Act)(o:Oper)(r:List Oper)(env:Env)(h:Hp)(k:V->Hp->Prop):Prop:=
 gt Y.X.P dr ops o env h (sp h (stP o env) ((drS Y.X.P dr ops o r).map (lk env)) (match dr&&sH ops (ops.size-(r.length+1)) o.op with
  |true=>soE Y C o env h k
  |false=>aeh act λact=>opD Y C (drA Y.X.P dr ops o r) act o env h k))
def rgn(Y:kA)(C:CC)(dr:Bool)(ops:Array Oper):List Act->List Oper->Env->Hp->(Env->Hp->Prop)->Prop
 |_,[],env,h,k=>k env h
 | acts,o::r,env,h,k=>tk (takes o.op) acts λa acts=>
  match o.guard with
  |none=>opE Y C dr ops a o r env h λv h=>rgn Y C dr ops acts r (ZV env o.dst v) h k
  |some (j,w)=>gd (MB ops.toList env j) w h (opE Y C dr ops a o r env h) λv h=>rgn Y C dr ops acts r (ZV env o.dst v) h k
def Ow:List Oper->LnQ
 |[]=>[]
 | o::l=>match o.dst with
  |some t=>t::Ow l
  |none=>Ow l
def asg:Code->LnQ
 |.region _ ops _=>Ow ops.toList
 |.seq a b=>asg a++asg b
 |.cond _ a b=>asg a++asg b
 |.block _ a|.loop a|.scope a=>asg a
 |_=>[]
def wG(ahZ:LnQ):LnQ->Bool
 |[]=>true
 |t::l=>!(ahZ.any (Nat.beq t))&&wG ahZ l
def okI(ahZ:LnQ):yW->Bool
 |.j _ keep=>wG ahZ keep
 |.l _ inv exs _=>wG ahZ inv&&exs.all λe=>wG ahZ e.2.2
 |_=>true
def uW:Op->Bool
 |.call c=>!je c.callee
 |_=>false
def pD:Op->Bool
 | .call c=>match c.callee with
  |.builtin .append=>true
  |_=>false
 |_=>false
def aal(P:Program)(ops:Array Oper):Bool:=ops.toList.zipIdx.all λ(o,i)=>!chk P ops i o||pD o.op||uW o.op||aaj P ops i o.op
def NW:yW->Bool
 |.d=>true
 |_=>false
def nD(P:Program):Code->Ann->Bool
 |.region _ ops draw,a=>!draw||NW a.i||aal P ops
 |.seq x y,a=>nD P x a.a&&nD P y a.b
 |.cond c x y,a=>okI (asg (.cond c x y)) a.i&&nD P x a.a&&nD P y a.b
 |.block _ c,a=>okI (asg c) a.i&&nD P c a.a
 |.loop c,a=>okI (asg c) a.i&&nD P c a.a
 |.rangeFunc _ _ x y,a=>nD P x a.a&&nD P y a.b
 |.scope c,a=>nD P c a.a
 |_,_=>true
def jn(k:List V->Hp->Prop)(T:(List V->Hp->Prop)->Prop):Prop:=T k
def Wb:Exit->Exit->Bool
 |.exit i,.exit j=>Nat.beq i j
 |.ret,.ret=>true
 |.normal,.normal=>true
 |_,_=>false
def exK:List (Exit×(List V->Hp->Prop))->KL
 |[],_,_,_=>False
 | (e,q)::r,ex,l,h=>match Wb e ex with
  |true=>q l h
  |false=>exK r ex l h
def EO:List (Exit×LnQ×LnQ)->Exit->LnQ
 |[],_=>[]
 | (e,o,_)::r,ex=>match Wb e ex with
  |true=>o
  |false=>EO r ex
def gQ:LnQ->Nat->Bool
 |[],_=>true
 |t::l,s=>!(Nat.beq t s)&&gQ l s
mutual
def pz(clr:LnQ):V->Bool
 |.ref s ..=>gQ clr s
 |.ptr s ..=>gQ clr s
 |.agg l|.tup l=>ij clr l
 |.fn _ x y=>ij clr x&&ij clr y
 |.ifc _ x=>pz clr x
 |_=>true
def ij(clr:LnQ):List V->Bool
 |[]=>true
 |x::l=>pz clr x&&ij clr l
end
def offB(clr:LnQ):Bk->Bool
 |.vars l=>ij clr l
 |_=>true
def aP(clr:LnQ):Nat->Hp->Hp->Hp
 |_,[],h=>h
 |_,_,[]=>[]
 |i,(e0,_)::h0,(e,b)::h=>(if gQ clr i then(e,b)else(e0,.none))::aP clr (i+1) h0 h
def p6(clr:LnQ):Nat->Hp->Bool
 |_,[]=>true
 |i,(_,b)::h=>(!gQ clr i||offB clr b)&&p6 clr (i+1) h
def clean(clr:LnQ)(l:List V)(h:Hp):Bool:=ij clr l&&p6 clr 0 h
abbrev aM:=List V->Hp->KL->Prop
def lpK(clr:LnQ)(h0:Hp)(I:List V->Hp->Prop)(k:KL):KL:=λex l h=>match ex with
 |.normal=>clean clr l h=true∧I l (aP clr 0 h0 h)
 |ex=>k ex l h
def lp(step:aM)(clr:LnQ)(h0:Hp)(l:List V)(h:Hp)(k:KL):Prop:=
 ∀I:List V->Hp->Prop,(∀l h,(∃q:KL,step l h q∧∀ex l' h',q ex l' h'->lpK clr h0 I k ex l' h')->I l h)->I l h
abbrev Io:=List V->Hp->(Exit->Hp->Prop)->Prop
def rg(n:Nat)(step:Io)(clr:LnQ)(h0:Hp)(k:Exit->Hp->Prop):List LvQ->Hp->Prop
 |[],h=>k .normal h
 | x::xs,h=>x.length=n∧step (x.map λv=>.d (jA v)) h λex h'=>match ex with
  |.normal=>p6 clr 0 h'=true∧rg n step clr h0 k xs (aP clr 0 h0 h')
  |ex=>k ex h'
def rgO(o:Option (List LvQ))(n:Nat)(step:Io)(clr:LnQ)(h:Hp)(k:Exit->Hp->Prop):Prop:=match o with
 |some xs=>rg n step clr h k xs h
 |none=>False
def sqV(sq:FuncId->List V->Option (List LvQ)):V->Option (List LvQ)
 |.fn g [] cs=>sq g cs
 |_=>none
def seqK(k:K)(n:Env->Hp->Prop):K:=λex env h=>match ex with
 |.normal=>n env h
 |ex=>k ex env h
def afW(id:Nat)(k:K):K:=λex env h=>match ex with
 | .exit j=>match Nat.beq j id with
  |true=>k .normal env h
  |false=>k (.exit j) env h
 |ex=>k ex env h
def Cp:yW->LnQ
 |.l i _ _ _=>i
 |_=>[]
def Fl:yW->LnQ
 |.l _ i _ _=>i
 |_=>[]
def Ak:yW->List (Exit×LnQ×LnQ)
 |.l _ _ e _=>e
 |_=>[]
def MG:yW->LnQ
 |.l _ _ _ c=>c
 |_=>[]
def aeU(i:yW)(k:KL):K:=λex env h=>match ex with
 |.normal=>k .normal ((Cp i).map (lk env)) h
 |ex=>k ex ((EO (Ak i) ex).map (lk env)) h
def ghS(g:Gh)(h:Hp):Option Hp:=match g with
 | .opn s=>match h[s]? with
  |some (e,.data n cs ex false)=>if(ex||Nat.beq n 1)=true then some (bK h s e (.vars (cs.map .d)))else none
  |_=>none
 | .cls s=>match h[s]? with
  | some (e,.vars vs)=>match jG h vs with
   | some (ds,h1)=>match ax h1 s e with
    |.vars _=>some (bK h1 s e (.vars (ds.map .d)))
    |_=>none
   |none=>none
  |_=>none
def ghG:List Gh->Hp->(Hp->Prop)->Prop
 |[],h,k=>k h
 | g::l,h,k=>match ghS g h with
  |some h'=>ghG l h' k
  |none=>False
def fzD(v:V)(h:Hp)(k:V->Hp->Prop):Prop:=match toD h v with
 |some (x,h')=>k (.d x) h'
 |none=>False
def ghO(i:yW)(env:Env)(h:Hp)(k:Env->Hp->Prop):Prop:=match i with
 |.g l=>ghG l h λh=>k env h
 |.f t=>lkK env t λv=>fzD v h λv h=>k ((t,v)::env) h
 |_=>k env h
def wrap(i:yW)(env:Env)(k:K)(T:K->Prop):Prop:=match i with
 | .j outs keep=>jn (λl h=>Co env keep λe=>Nz e outs 0 l λe=>k .normal e h) λq=>T λex env' h=>match ex with
  |.normal=>q (outs.map (lk env')) h
  |ex=>k ex env' h
 |_=>T k
def den(Y:kA)(C:CC):Code->Ann->Env->Hp->K->Prop
 |.skip,_,env,h,k=>k .normal env h
 |.label _,_,env,h,k=>k .normal env h
 | .region _ ops draw,a,env,h,k=>match a.i with
  |.d=>False
  |i=>rgn Y C draw ops i.acts ops.toList env h (k .normal)
 |.seq x y,a,env,h,k=>den Y C x a.a env h (seqK k λenv h=>ghO a.i env h λenv h=>den Y C y a.b env h k)
 |.cond c x y,a,env,h,k=>wrap a.i env k λk=>cnd (ev Y env c) (den Y C x a.a env h k) (den Y C y a.b env h k)
 |.block id c,a,env,h,k=>wrap a.i env k λk=>den Y C c a.a env h (afW id k)
 | .loop c,a,env,h,k=>Co env (Fl a.i) λe0=>lp (λl h q=>Nz e0 (Cp a.i) 0 l λe=>den Y C c a.a e h (aeU a.i q)) (MG a.i) h ((Cp a.i).map (lk env)) h
   (exK ((Ak a.i).map λx=>(x.1,λl h=>Co env x.2.2 λe=>Nz e x.2.1 0 l λe=>k x.1 e h)))
 |.exit id,_,env,h,k=>k (.exit id) env h
 |.ret,_,env,h,k=>k .ret env h
 |.scope c,a,env,h,k=>den Y C c a.a env h k
 | .rangeFunc g ps x y,a,env,h,k=>Co env (Fl a.i) λe0=>rgO (sqV Y.seq (ev Y env g)) ps.toList.length (λl h q=>Nz e0 ps.toList 0 l λe=>den Y C x a.a e h λex env h=>match ex with
   |.normal=>den Y C y a.b env h λex _ h=>q ex h
   |_=>False) (MG a.i) h λex h=>exK ((Ak a.i).map λx=>(x.1,λ_ h=>Co env x.2.2 λe=>k x.1 e h)) ex [] h
 |_,_,_,_,_=>False
def K4(Y:kA)(env:Env)(h:Hp):ResultVar->Option V
 |.tmp t=>some (lk env t)
 | .cell x t=>match GA (Y.ty t).k with
  |some true=>ldA h (Y.ty t).sz (lk env x)
  |some false=>ld1 h (lk env x)
  |none=>none
def Nt:List (Option V)->(List V->Prop)->Prop
 |[],k=>k []
 |o::l,k=>bnd o λv=>Nt l λvs=>k (v::vs)
def D7:List V->V
 |[v]=>v
 |l=>.tup l
def GW:Nat->List V->Env
 |_,[]=>[]
 |i,x::l=>(i,x)::GW (i+1) l
def fnD(Y:kA)(C:CC)(fn:Func)(m:Nat)(a:Ann)(args:List V)(q:V->Hp->Prop):Prop:=match fn.body with
 | some c=>den Y C c a (GW 0 args) (List.replicate m (0,.none)) λex env h=>match ex with
  |.normal|.ret=>Nt (fn.results.toList.map (K4 Y env h)) λl=>q (D7 l) h
  |_=>False
 |none=>False
mutual
/-- No name of a slot from b on. -/
def under(b:Nat):V->Bool
 |.ref s ..=>Nat.blt s b
 |.ptr s ..=>Nat.blt s b
 |.agg l|.tup l=>jF b l
 |.fn _ x y=>jF b x&&jF b y
 |.ifc _ x=>under b x
 |.new ..=>false
 |.junk|.d _|.dptr ..=>true
 |.cut _=>false
def jF(b:Nat):List V->Bool
 |[]=>true
 |x::l=>under b x&&jF b l
end
def aF(b:Nat):Bk->Bool
 |.vars l=>jF b l
 |_=>true
def fnI(Y:kA)(C:CC)(fn:Func)(m:Nat)(a:Nat->Ann)(args:List V)(h:Hp)(q:V->Hp->Prop):Prop:=match fn.body with
 | some c=>den Y C c (a h.length) (GW 0 args) (h++List.replicate m (0,.none)) λex env h=>match ex with
  |.normal|.ret=>Nt (fn.results.toList.map (K4 Y env h)) λl=>q (D7 l) h
  |_=>False
 |none=>False
def ae4(b:Nat)(v r:V)(h:Hp):Prop:=∃s e vs ds h1,b<=s∧ax h s e=.vars vs∧jG h vs=some (ds,h1)∧ax h1 s e=.vars vs∧h1.take b=h.take b ∧
 ((r=.ptr s e 0 vs.length∧v=.tup [.new 1 ds true 0 0])∨∃y,r=.tup [.ptr s e 0 vs.length,.d y]∧v=.tup [.tup [.new 1 ds true 0 0],.d y])
def m7(b:Nat)(v:V)(h2:Hp):V->Hp->Prop:=λr h=>h2=h.take b∧(h2.all λx=>aF b x.2)=true ∧
 ((v=r∧under b r=true)∨(v=.d (.sl 0 [])∧∃x h',toD h r=some (.sl 0 x,h'))∨(∃s e len cap n cs ex,r=.ref s e 0 len cap cs.length∧b<=s∧ax h s e=.data n cs ex false∧v=.new n cs ex len cap) ∨
 (∃n,v=.cut n∧(r=.d (.pl (.slice none 0 0))∨∃s e,r=.ref s e 0 0 0 0∧b<=s∧ax h s e=.data n [] true false)) ∨
 (∃s e len cap n cs ex y,r=.tup [.ref s e 0 len cap cs.length,.d y]∧b<=s∧ax h s e=.data n cs ex false∧v=.tup [.new n cs ex len cap,.d y]) ∨
 ae4 b v r h)
def ep(h:Hp)(s:Nat):Nat:=match h[s]? with
 |some (e,_)=>e
 |none=>0
def sv:Bk->Option Nat
 |.none=>none
 |.vars cs=>some cs.length
 |.data _ cs _ _=>some cs.length
theorem eA{h:Hp}{b:Bk}(hb:b≠.none)(hh:ax h s e=b):h[s]?=some (e,b):=by grind[ax]
theorem dM{h:Hp}{b:Bk}(hh:h[s]?=some (e,b)):ax h s e=b:=by simp[ax,hh]
theorem aaK{h:Hp}(hh:ax h s e≠.none):ep h s=e:=by
 have:=eA hh rfl
 grind[ep]
theorem abh{b:Bk}(h:sv b=some m):b≠.none:=by rintro rfl;cases h
theorem pE{h:Hp}{b:Bk}{i:Nat}(hs:s<h.length):(bK h s e b)[i]?=if i=s then some (e,b)else h[i]?:=by
 unfold bK;by_cases hi:i=s
 .grind
 .rw[List.getElem?_set_ne aa,if_neg hi]
theorem lC(h:Hp)(s e:Nat)(b:Bk):(bK h s e b).length=h.length:=by simp[bK]
theorem bj{α:Type}{l:List α}{i:Nat}{x:α}(h:l[i]?=some x):i<l.length:=by grind
def EmS(H:AH)(v:Value):Prop:=v=.slice none 0 0∨∃c o cap,v=.slice (some ⟨c,o,none⟩) 0 cap∧∃x,H.get c=some x∧x.st≠0
def Fit(H:AH)(c n:Nat):Prop:=∃x,H.get c=some x∧(x.exact=true∨x.esz=n)
mutual
def RD(F:Nat->Prop)(H:AH):D->Value->Prop
 |.int k n,v=>v=.int k n
 |.bool b,v=>v=.bool b
 |.str s,v=>v=.string ⟨⟨s⟩⟩
 |.pl w,v=>v=w∧plain w=true∧okCell w=true
 | .sl len cells,v=>(len=0∧cells=[]∧EmS H v)∨(∃c o cap vs n,v=.slice (some ⟨c,o,none⟩) len cap∧0<len∧len<=cap∧0<n∧cells.length=len*n ∧
   F c∧cg H c o cells.length=some vs∧RDs F H cells vs∧Fit H c n)
def RDs(F:Nat->Prop)(H:AH):List D->LvQ->Prop
 |[],l=>l=[]
 |x::xs,l=>∃v vs,l=v::vs∧RD F H x v∧RDs F H xs vs
end
structure LeF(F F':Nat->Prop)(H H':AH):Prop where
 fm:∀c,F c->F' c
 keep:∀c,F c->H'.get c=H.get c
 born:∀c x,H.get c=some x->x.st≠0->∃x',H'.get c=some x'∧x'.st≠0
theorem EmS.mono{F F':Nat->Prop}{H H':AH}(h:LeF F F' H H'){v:Value}:EmS H v->EmS H' v:=by
 rintro(e|⟨c,o,cap,e,x,hx,hs⟩)
 .exact .inl e
 .exact .inr ⟨c,o,cap,e,h.born c x hx hs⟩
theorem nC{H H':AH}(h:H'.get c=H.get c)(o n:Nat):cg H' c o n=cg H c o n:=by simp[cg,h]
mutual
theorem RD.mono{F F':Nat->Prop}{H H':AH}(h:LeF F F' H H'):∀(x:D)(v:Value),RD F H x v->RD F' H' x v
 |.int k n,v,hv=>by trivial
 |.bool b,v,hv=>by trivial
 |.str s,v,hv=>by trivial
 |.pl w,v,hv=>by trivial
 | .sl len cells,v,hv=>by
  simp only[RD]at hv ⊢;rcases hv with⟨h1,h2,h3⟩|⟨c,o,cap,vs,n,e,hl,hc,hn,hlen,hF,hr,hd,x,hx,hf⟩
  .grind[EmS.mono]
  .exact .inr ⟨c,o,cap,vs,n,e,hl,hc,hn,hlen,h.fm c hF,by grind[nC,LeF.keep],RDs.mono h cells vs hd,x,by grind[LeF.keep],hf⟩
theorem RDs.mono{F F':Nat->Prop}{H H':AH}(h:LeF F F' H H'):∀(xs:List D)(vs:LvQ),RDs F H xs vs->RDs F' H' xs vs
 |[],vs,hv=>by trivial
 | x::xs,vs,hv=>by
  simp only[RDs]at hv ⊢;obtain⟨v,us,e,h1,h2⟩:=hv;exact⟨v,us,e,RD.mono h x v h1,RDs.mono h xs us h2⟩
end
mutual
def RV(φ:LnQ)(F:Nat->Prop)(H:AH)(h:Hp):V->Value->Prop
 |.junk,_=>True
 |.d x,v=>RD F H x v
 |.ref s e off len cap tot,v=>(∃b o,v=.slice (some ⟨b,o,none⟩) len cap)∧e<=ep h s∧∀m,sv (ax h s e)=some m->tot<=m∧(tot=m->v=.slice (some ⟨φ.getD s 0,off,none⟩) len cap)
 |.ptr s e off tot,v=>(∃b o,v=.pointer (some ⟨b,o,none⟩))∧e<=ep h s∧∀m,sv (ax h s e)=some m->tot<=m∧(tot=m->v=.pointer (some ⟨φ.getD s 0,off,none⟩))
 |.dptr cs pos,v=>∃c o vs,v=.pointer (some ⟨c,o+pos,none⟩)∧F c∧cg H c o cs.length=some vs∧RDs F H cs vs
 |.cut n,v=>∃c o x,v=.slice (some ⟨c,o,none⟩) 0 0∧F c∧H.get c=some x∧x.st=1∧o<x.cells.length∧(x.exact=true∨x.esz=n)
 |.agg l,v=>∃ws,v=.agg ⟨ws⟩∧RVs φ F H h l ws
 |.tup l,v=>∃ws,v=.tuple ⟨ws⟩∧RVs φ F H h l ws
 |.fn g fs cs,v=>∃a b,v=.func (.func g) ⟨a⟩ ⟨b⟩∧RVs φ F H h fs a∧RVs φ F H h cs b
 |.ifc t x,v=>∃w,v=.iface t w∧RV φ F H h x w
 |.new ..,_=>False
def RVs(φ:LnQ)(F:Nat->Prop)(H:AH)(h:Hp):List V->LvQ->Prop
 |[],l=>l=[]
 |x::xs,l=>∃v vs,l=v::vs∧RV φ F H h x v∧RVs φ F H h xs vs
end
def mP(φ:LnQ)(h:Hp)(φ':LnQ)(h':Hp):Prop:=
 ∀s,ep h s<=ep h' s∧(ep h' s=ep h s->∀m',sv (ax h' s (ep h s))=some m'->∃m,sv (ax h s (ep h s))=some m∧m<=m'∧(m=m'->φ'.getD s 0=φ.getD s 0))
theorem mP.refl(φ:LnQ)(h:Hp):mP φ h φ h:=λs=>⟨Z8 _,λ_ m' hm=>⟨m',hm,Z8 _,λ_=>rfl⟩⟩
theorem mP.trans{φ φ'':LnQ}{h h'':Hp}(a:mP φ h φ' h')(b:mP φ' h' φ'' h''):mP φ h φ'' h'':=λs=>by
 obtain⟨a1,a2⟩:=a s;obtain⟨b1,b2⟩:=b s;refine⟨Zy a1 b1,λhe m' hm=>?_⟩;have e1:ep h' s=ep h s:=aa;have e2:ep h'' s=ep h' s:=aa;obtain⟨m1,hm1,l1,k1⟩:=b2 e2 m' (by grind);obtain⟨m0,hm0,l0,k0⟩:=a2 e1 m1 (by grind);exact⟨m0,hm0,aa,λe=>by rw[k1 aa,k0 aa]⟩
theorem mP.use{φ φ':LnQ}{h h':Hp}(a:mP φ h φ' h'){s e tot:Nat}(P:Nat->Prop)
  (hv:e<=ep h s∧∀m,sv (ax h s e)=some m->tot<=m∧(tot=m->P (φ.getD s 0))) :
  e<=ep h' s∧∀m,sv (ax h' s e)=some m->tot<=m∧(tot=m->P (φ'.getD s 0)):=by obtain⟨h1,h2⟩:=hv;obtain⟨a1,a2⟩:=a s;refine⟨Zy h1 a1,λm hm=>?_⟩;have he:ep h' s=e:=aaK (abh hm);have he':ep h s=e:=aa;obtain⟨m0,hm0,l0,k0⟩:=a2 aa m (by grind);obtain⟨t1,t2⟩:=h2 m0 (by grind);exact⟨aa,λe=>by rw[k0 aa];exact t2 aa⟩
mutual
theorem RV.mono{φ φ':LnQ}{F F':Nat->Prop}{H H':AH}{h h':Hp}(hl:LeF F F' H H')(hs:mP φ h φ' h'):∀(x:V)(v:Value),RV φ F H h x v->RV φ' F' H' h' x v
 |.junk,v,_=>by trivial
 |.d x,v,hv=>by grind[RV,RD.mono]
 | .ref s e off len cap tot,v,hv=>by
  simp only[RV]at hv ⊢;exact⟨hv.1,hs.use (λb=>v=.slice (some ⟨b,off,none⟩) len cap) hv.2⟩
 | .ptr s e off tot,v,hv=>by
  simp only[RV]at hv ⊢;exact⟨hv.1,hs.use (λb=>v=.pointer (some ⟨b,off,none⟩)) hv.2⟩
 | .dptr cs pos,v,hv=>by
  simp only[RV]at hv ⊢;obtain⟨c,o,vs,e,hF,hr,hd⟩:=hv;exact⟨c,o,vs,e,hl.fm c hF,by grind[nC,LeF.keep],RDs.mono hl cs vs hd⟩
 | .cut n,v,hv=>by
  simp only[RV]at hv ⊢;obtain⟨c,o,x,e,hF,hx,r⟩:=hv;exact⟨c,o,x,e,hl.fm c hF,by grind[LeF.keep],r⟩
 | .agg l,v,hv=>by
  simp only[RV]at hv ⊢;obtain⟨ws,e,r⟩:=hv;exact⟨ws,e,RVs.mono hl hs l ws r⟩
 | .tup l,v,hv=>by
  simp only[RV]at hv ⊢;obtain⟨ws,e,r⟩:=hv;exact⟨ws,e,RVs.mono hl hs l ws r⟩
 | .fn g fs cs,v,hv=>by
  simp only[RV]at hv ⊢;obtain⟨a,b,e,r,q⟩:=hv;exact⟨a,b,e,RVs.mono hl hs fs a r,RVs.mono hl hs cs b q⟩
 | .ifc t x,v,hv=>by
  simp only[RV]at hv ⊢;obtain⟨w,e,r⟩:=hv;exact⟨w,e,RV.mono hl hs x w r⟩
 |.new ..,v,hv=>by trivial
theorem RVs.mono{φ φ':LnQ}{F F':Nat->Prop}{H H':AH}{h h':Hp}(hl:LeF F F' H H')(hs:mP φ h φ' h'):∀(xs:List V)(vs:LvQ),RVs φ F H h xs vs->RVs φ' F' H' h' xs vs
 |[],vs,hv=>by trivial
 | x::xs,vs,hv=>by
  simp only[RVs]at hv ⊢;obtain⟨v,us,e,h1,h2⟩:=hv;exact⟨v,us,e,RV.mono hl hs x v h1,RVs.mono hl hs xs us h2⟩
end
section
variable{φ:LnQ}{F:Nat->Prop}{H:AH}{h:Hp}
theorem RDs.length:∀{xs:List D}{vs:LvQ},RDs F H xs vs->vs.length=xs.length
 |[],_,r=>by grind[RDs]
 | x::xs,_,r=>by
  simp only[RDs]at r;obtain⟨v,us,rfl,_,r2⟩:=r;simp[r2.length]
theorem RDs.append:∀{xs ys:List D}{vs us:LvQ},RDs F H xs vs->RDs F H ys us->RDs F H (xs++ys) (vs++us)
 |[],_,_,_,r,q=>by grind[RDs]
 | x::xs,ys,_,us,r,q=>by
  simp only[RDs]at r;obtain⟨v,ws,rfl,r1,r2⟩:=r;simp only[List.cons_append,RDs];exact⟨v,ws++us,rfl,r1,r2.append q⟩
theorem RDs.take:∀{xs:List D}{vs:LvQ}(n:Nat),RDs F H xs vs->RDs F H (xs.take n) (vs.take n)
 |[],_,n,r=>by grind[RDs]
 |x::xs,_,0,r=>by rfl
 | x::xs,_,n+1,r=>by
  simp only[RDs]at r;obtain⟨v,us,rfl,r1,r2⟩:=r;simp only[List.take_succ_cons,RDs];exact⟨v,_,rfl,r1,r2.take n⟩
theorem RDs.drop:∀{xs:List D}{vs:LvQ}(n:Nat),RDs F H xs vs->RDs F H (xs.drop n) (vs.drop n)
 |[],_,n,r=>by grind[RDs]
 |x::xs,_,0,r=>by trivial
 | x::xs,_,n+1,r=>by
  simp only[RDs]at r;obtain⟨v,us,rfl,r1,r2⟩:=r;simpa using r2.drop n
theorem RDs.get:∀{xs:List D}{vs:LvQ}{i:Nat}{x:D},RDs F H xs vs->xs[i]?=some x->∃v,vs[i]?=some v∧RD F H x v
 |[],_,_,_,_,e=>by simp at e
 | x::xs,_,0,y,r,e=>by
  grind[RDs]
 | x::xs,_,i+1,y,r,e=>by
  simp only[RDs]at r;obtain⟨v,us,rfl,r1,r2⟩:=r;simp only[List.getElem?_cons_succ]at e ⊢;exact r2.get e
theorem RDs.okCells:∀{xs:List D}{vs:LvQ},RDs F H xs vs->vs.all okCell=true
 |[],_,r=>by grind[RDs]
 | x::xs,_,r=>by
  simp only[RDs]at r;obtain⟨v,us,rfl,r1,r2⟩:=r
  have:okCell v=true:=by
   cases x<;>simp only[RD]at r1
   case pl=>grind
   case sl=>rcases r1 with⟨_,_,e|⟨c,o,cap,e,_⟩⟩|⟨c,o,cap,vs,n,e,_⟩<;>subst e<;>rfl
   all_goals(subst r1;rfl)
  simp[this,r2.okCells]
theorem RVs.length:∀{xs:List V}{vs:LvQ},RVs φ F H h xs vs->vs.length=xs.length
 |[],_,r=>by grind[RVs]
 | x::xs,_,r=>by
  simp only[RVs]at r;obtain⟨v,us,rfl,_,r2⟩:=r;simp[r2.length]
theorem RVs.append:∀{xs ys:List V}{vs us:LvQ},RVs φ F H h xs vs->RVs φ F H h ys us->RVs φ F H h (xs++ys) (vs++us)
 |[],_,_,_,r,q=>by grind[RVs]
 | x::xs,ys,_,us,r,q=>by
  simp only[RVs]at r;obtain⟨v,ws,rfl,r1,r2⟩:=r;simp only[List.cons_append,RVs];exact⟨v,ws++us,rfl,r1,r2.append q⟩
theorem RVs.take:∀{xs:List V}{vs:LvQ}(n:Nat),RVs φ F H h xs vs->RVs φ F H h (xs.take n) (vs.take n)
 |[],_,n,r=>by grind[RVs]
 |x::xs,_,0,r=>by rfl
 | x::xs,_,n+1,r=>by
  simp only[RVs]at r;obtain⟨v,us,rfl,r1,r2⟩:=r;simp only[List.take_succ_cons,RVs];exact⟨v,_,rfl,r1,r2.take n⟩
theorem RVs.drop:∀{xs:List V}{vs:LvQ}(n:Nat),RVs φ F H h xs vs->RVs φ F H h (xs.drop n) (vs.drop n)
 |[],_,n,r=>by grind[RVs]
 |x::xs,_,0,r=>by trivial
 | x::xs,_,n+1,r=>by
  simp only[RVs]at r;obtain⟨v,us,rfl,r1,r2⟩:=r;simpa using r2.drop n
theorem RVs.get:∀{xs:List V}{vs:LvQ}{i:Nat}{x:V},RVs φ F H h xs vs->xs[i]?=some x->∃v,vs[i]?=some v∧RV φ F H h x v
 |[],_,_,_,_,e=>by simp at e
 | x::xs,_,0,y,r,e=>by
  grind[RVs]
 | x::xs,_,i+1,y,r,e=>by
  simp only[RVs]at r;obtain⟨v,us,rfl,r1,r2⟩:=r;simp only[List.getElem?_cons_succ]at e ⊢;exact r2.get e
theorem RVs.ofD:∀{xs:List D}{vs:LvQ},RDs F H xs vs->RVs φ F H h (xs.map .d) vs
 |[],_,r=>by trivial
 | x::xs,_,r=>by
  simp only[RDs]at r;obtain⟨v,us,rfl,r1,r2⟩:=r;simp only[Zv,RVs];exact⟨v,us,rfl,by trivial,RVs.ofD r2⟩
end
def Own:Bk->Prop
 |.none=>False
 |.vars _=>True
 |.data _ _ _ fr=>fr=false
def RB(φ:LnQ)(F:Nat->Prop)(H:AH)(h:Hp)(b:Nat):Bk->Prop
 |.none=>True
 |.vars cs=>∃x,H.get b=some x∧x.st=1∧x.wr=true∧(x.exact=true∨x.esz=1)∧RVs φ F H h cs x.cells
 |.data n cs ex fr=>∃x,H.get b=some x∧x.st=1∧RDs F H cs x.cells∧(fr=false∨ex=true->x.exact=ex)∧(ex=false->x.exact=true∨x.esz=n)∧0<n∧(fr=true->F b)∧(fr=false->x.wr=true)
def mY(H:AH)(r:Nat):Prop:=∀c x,H.get c=some x->x.st≠0->c≠r->x.fam≠r
structure WF(H:AH):Prop where
 len:H.l.length=H.n
 fam:∀c x,H.get c=some x->x.fam<=c
def Sep(G:Nat->Prop)(H:AH):Prop:=∀c x g y,H.get c=some x->x.st≠0->¬G c->G g->H.get g=some y->y.st≠0->x.fam≠y.fam
structure Inv(φ:LnQ)(F G:Nat->Prop)(H:AH)(h:Hp):Prop where
 len:φ.length=h.length
 blk:∀i e b,h[i]?=some (e,b)->RB φ F H h (φ.getD i 0) b
 lt:∀c,F c∨G c->c<H.n
 fb:∀c,F c->∃x,H.get c=some x∧x.st=1
 priv:∀i e b,h[i]?=some (e,b)->Own b->∀c,F c∨G c->c≠φ.getD i 0∧∀x y,H.get c=some x->H.get (φ.getD i 0)=some y->x.st=1->x.fam≠y.fam
 inj:∀i e b j e' b',h[i]?=some (e,b)->Own b->h[j]?=some (e',b')->Own b'->i≠j->φ.getD i 0≠φ.getD j 0∧∀x y,H.get (φ.getD i 0)=some x->H.get (φ.getD j 0)=some y->x.fam≠y.fam
 sep:Sep G H
 wf:WF H
structure Stp(G:Nat->Prop)(φ:LnQ)(F:Nat->Prop)(H:AH)(h:Hp)(φ':LnQ)(F':Nat->Prop)(H':AH)(h':Hp):Prop where
 n:H.n<=H'.n
 keep:∀c,F c∨G c->H'.get c=H.get c
 fm:∀c,F c->F' c
 fn:∀c,F' c->F c∨¬G c
 born:∀c x,H.get c=some x->x.st≠0->∃x',H'.get c=some x'∧x'.st≠0
 nokin:∀r,G r->mY H r->mY H' r
 hl:h'.length=h.length
 sl:mP φ h φ' h'
theorem Stp.refl(G:Nat->Prop)(φ:LnQ)(F:Nat->Prop)(H:AH)(h:Hp):Stp G φ F H h φ F H h:=
 ⟨Z8 _,λ_ _=>rfl,λ_ hc=>hc,λ_ hc=>.inl hc,λc x hx hs=>⟨x,hx,hs⟩,λ_ _ hr=>hr,rfl,mP.refl φ h⟩
theorem Stp.trans{G:Nat->Prop}{φ φ' φ'':LnQ}{F F' F'':Nat->Prop}{H H' H'':AH}{h h' h'':Hp}(a:Stp G φ F H h φ' F' H' h')(b:Stp G φ' F' H' h' φ'' F'' H'' h'') :
  Stp G φ F H h φ'' F'' H'' h'' where
 n:=Zy a.n b.n
 keep c hc:=by
  rw[b.keep c (hc.imp (a.fm c) id),a.keep c hc]
 fm c hc:=b.fm c (a.fm c hc)
 fn c hc:=by
  rcases b.fn c hc with hc|hc
  .exact a.fn c hc
  grind
 born c x hx hs:=by
  grind[born]
 nokin r hr hk:=b.nokin r hr (a.nokin r hr hk)
 hl:=b.hl.trans a.hl
 sl:=a.sl.trans b.sl
theorem Stp.leF{G:Nat->Prop}{φ:LnQ}{F F':Nat->Prop}{H H':AH}{h:Hp}(a:Stp G φ F H h φ' F' H' h'):LeF F F' H H':=
 ⟨a.fm,λc hc=>a.keep c (.inl hc),a.born⟩
section
variable{φ:LnQ}{F G:Nat->Prop}{H H':AH}{h:Hp}
theorem dh{i:Nat}(hs:s<l.length):(l.set s r).getD i 0=if i=s then r else l.getD i 0:=by
 by_cases hi:i=s
 .grind
 .rw[Z6,List.getElem?_set_ne aa,if_neg hi,Z6]
theorem set_self(hs:s<l.length):l.set s (l.getD s 0)=l:=by
 apply Yk;intro i;by_cases hi:i=s
 .grind
 .rw[List.getElem?_set_ne aa]
theorem WF.get_some(w:WF H)(hc:c<H.n):∃x,H.get c=some x:=by
 rw[AH.get_pos hc];have:H.n-1-c<H.l.length:=by rw[w.len];omega
 simp_all
theorem WF.push(w:WF H){x:Blk}(hx:x.fam<=H.n):WF (H.push x) where
 len:=by show(x::H.l).length=H.n+1;simp[w.len]
 fam c y hy:=by
  by_cases hc:c=H.n
  .grind[AH.get_push_new]
  .rw[AH.get_push hc]at hy;exact w.fam c y hy
theorem WF.set(w:WF H){b:Nat}{x y:Blk}(hy:H.get b=some y)(hx:x.fam<=b):WF (H.set b x) where
 len:=by show(H.l.set _ x).length=H.n;simp[w.len]
 fam c z hz:=by
  rw[AH.get_set hy]at hz;split at hz
  .grind
  .exact w.fam c z hz
theorem zR(p:Nat->Blk->Bool):∀(l:List Blk)(n:Nat),(vq p n l).length=l.length
 |[],_=>rfl
 |x::l,n=>by simp[vq,zR p l]
theorem WF.kill(w:WF H)(p:Nat->Blk->Bool):WF (H.kill p) where
 len:=by show(vq p H.n H.l).length=H.n;rw[zR,w.len]
 fam c z hz:=by
  rw[AH.get_kill]at hz;cases hc:H.get c with
  |none=>grind
  | some y=>
   rw[hc]at hz;simp only[Option.map_some,Z9]at hz;subst hz;split<;>exact w.fam c y hc
structure jC(φ:LnQ)(F G:Nat->Prop)(h:Hp)(H H':AH)(r:Nat)(x:Blk):Prop where
 n:H.n<=H'.n
 get:H'.get r=some x
 st:x.st=1
 fam:x.fam=r
 old:∀c,c<H.n->c≠r->H'.get c=H.get c
 nw:∀c,H.n<=c->c≠r->H'.get c=none
 notF:¬F r
 notG:¬G r
 notS:∀i e b,h[i]?=some (e,b)->Own b->φ.getD i 0≠r
 nokin:mY H r
 un:∀y,H.get r=some y->y.st=0∨y=x
 wf:WF H'
theorem Inv.own_get(I:Inv φ F G H h){i:Nat}{b:Bk}(hi:h[i]?=some (e,b))(ho:Own b):∃x,H.get (φ.getD i 0)=some x∧x.st=1:=by
 have:=I.blk i e b hi;cases b with
 |none=>trivial
 |vars cs=>obtain⟨x,hx,hs,_⟩:=this;grind
 |data n cs ex fr=>obtain⟨x,hx,hs,_⟩:=this;grind
theorem jC.keep(I:Inv φ F G H h){x:Blk}(N:jC φ F G h H H' r x)(hc:F c∨G c):H'.get c=H.get c:=
 N.old c (I.lt c hc) (by grind[notF,notG])
theorem jC.born{x:Blk}(N:jC φ F G h H H' r x):∀c y,H.get c=some y->y.st≠0->∃y',H'.get c=some y'∧y'.st≠0:=by grind[un,absurd,get,old,AH.get_lt]
theorem jC.kin{x:Blk}(N:jC φ F G h H H' r x){q:Nat}(hk:mY H q):mY H' q:=by
 intro c y hy hs hc;by_cases hr:c=r
 .subst hr;rw[N.get]at hy;grind[fam]
 .by_cases hn:c<H.n
  .rw[N.old c hn hr]at hy;exact hk c y hy hs hc
  .rw[N.nw c aa hr]at hy;cases hy
theorem jC.sep(I:Inv φ F G H h){r:Nat}{x:Blk}(N:jC φ F G h H H' r x):Sep G H':=by
 intro c y g z hy hy0 hc hg hz hz0;have hgr:g≠r:=by rintro rfl;exact N.notG hg
 rw[N.keep I (.inr hg)]at hz;by_cases hcr:c=r
 .subst hcr;rw[N.get]at hy;cases hy;rw[N.fam];exact λe=>N.nokin g z hz hz0 hgr e.symm
 .by_cases hcn:c<H.n
  .rw[N.old c hcn hcr]at hy;exact I.sep c y g z hy hy0 hc hg hz hz0
  .rw[N.nw c aa hcr]at hy;cases hy
theorem RB.mono{F':Nat->Prop}{φ':LnQ}{h':Hp}(hl:LeF F F' H H')(hs:mP φ h φ' h'){b:Nat}{k:Bk}(hb:H'.get b=H.get b)(r:RB φ F H h b k):RB φ' F' H' h' b k:=by
 cases k with
 |none=>trivial
 | vars cs=>
  obtain⟨x,hx,h1,h2,h2e,h3⟩:=r;exact⟨x,by grind,h1,h2,h2e,RVs.mono hl hs _ _ h3⟩
 | data n cs ex fr=>
  obtain⟨x,hx,h1,h2,h3,h4,h5,h6,h7⟩:=r;exact⟨x,by grind,h1,RDs.mono hl _ _ h2,h3,h4,h5,λe=>hl.fm b (h6 e),h7⟩
theorem Ab(I:Inv φ F G H h){i:Nat}(hi:h[i]?=some (e,.data n cs ex true)):F (φ.getD i 0):=by
 obtain⟨_,_,_,_,_,_,_,hf,_⟩:=I.blk i e _ hi
 grind
theorem jC.blk_old(I:Inv φ F G H h){x:Blk}(N:jC φ F G h H H' r x){i:Nat}{b:Bk}(hi:h[i]?=some (e,b))(hb:b≠.none):H'.get (φ.getD i 0)=H.get (φ.getD i 0):=by
 by_cases ho:Own b
 .grind[Inv.own_get,old,AH.get_lt,notS]
 .cases b with
  |none=>trivial
  |vars cs=>exact absurd trivial ho
  | data n cs ex fr=>
   cases fr with
   |false=>trivial
   |true=>grind[keep,Ab]
theorem Inv.new(I:Inv φ F G H h){s e0:Nat}{b0:Bk}(hs:h[s]?=some (e0,b0)){r:Nat}{x:Blk}(N:jC φ F G h H H' r x){b:Bk}
  (hb:LeF F F H H'->mP φ h (φ.set s r) (h.set s (e0+1,b))->RB (φ.set s r) F H' (h.set s (e0+1,b)) r b) :
  Inv (φ.set s r) F G H' (h.set s (e0+1,b))∧Stp G φ F H h (φ.set s r) F H' (h.set s (e0+1,b)):=by
 have hsl:s<h.length:=bj hs;have hsφ:s<φ.length:=by rw[I.len];exact hsl
 have ax:∀i,(h.set s (e0+1,b))[i]?=if i=s then some (e0+1,b)else h[i]?:=λi=>pE hsl
 have hle:LeF F F H H':=⟨λ_ hc=>hc,λc hc=>N.keep I (.inl hc),N.born⟩
 have hslle:mP φ h (φ.set s r) (h.set s (e0+1,b)):=by
  intro i;by_cases hi:i=s
  .subst hi;have e1:ep h i=e0:=by simp[ep,hs]
   have e2:ep (h.set i (e0+1,b)) i=e0+1:=by simp[ep,hsl]
   exact⟨aa,λe=>by omega⟩
  .have e2:ep (h.set s (e0+1,b)) i=ep h i:=by unfold ep;rw[ax,if_neg hi]
   refine⟨aa,λ_ m hm=>⟨m,?_,Z8 _,λ_=>by rw[dh hsφ,if_neg hi]⟩⟩
   grind[ax]
 have hst:Stp G φ F H h (φ.set s r) F H' (h.set s (e0+1,b)):=
  ⟨N.n,λc hc=>N.keep I hc,λ_ hc=>hc,λ_ hc=>.inl hc,N.born,λq _ hq=>N.kin hq,ac,hslle⟩
 refine⟨⟨by simp[I.len],?_,λc hc=>Z0 (I.lt c hc) N.n,λc hc=>by rw[N.keep I (.inl hc)];exact I.fb c hc,?_,?_,N.sep I,N.wf⟩,hst⟩
 .intro i e k hi;rw[ax]at hi;rw[dh hsφ];split at hi
  .grind
  .rename_i hi';rw[if_neg hi'];by_cases hk:k=.none
   .subst hk;trivial
   grind[RB.mono,blk,jC.blk_old]
 .intro i e k hi ho c hc;rw[ax]at hi;rw[dh hsφ];have hcr:c≠r:=by rintro rfl;exact hc.elim N.notF N.notG
  split at hi
  .rename_i hi';subst hi';cases hi;rw[if_pos rfl];refine⟨hcr,λy z hy hz h1=>?_⟩;rw[N.get]at hz;cases hz;rw[N.keep I hc]at hy;rw[N.fam];exact N.nokin c y hy aa hcr
  .rename_i hi';rw[if_neg hi'];obtain⟨p1,p2⟩:=I.priv i e k hi ho c hc;refine⟨p1,λy z hy hz h1=>?_⟩;rw[N.keep I hc]at hy;rw[N.blk_old I hi (by rintro rfl;exact ho)]at hz
   grind
 ·have key:∀j e' k',h[j]?=some (e',k')->Own k'->j≠s->r≠φ.getD j 0∧∀y,H'.get (φ.getD j 0)=some y->r≠y.fam:=by
   intro j e' k' hj ho hjs;have h1:=N.notS j e' k' hj ho;refine⟨λe=>h1 e.symm,λy hy=>?_⟩;rw[N.blk_old I hj (by rintro rfl;exact ho)]at hy;obtain⟨z,hz,hz1⟩:=I.own_get hj ho;rw[hz]at hy;cases hy;exact λe=>N.nokin _ _ hz aa h1 e.symm
  intro i e k j e' k' hi ho hj ho' hij;rw[ax]at hi hj;rw[dh hsφ,dh hsφ];split at hi
  .rename_i hi';subst hi';cases hi;rw[if_neg (Ne.symm hij)]at hj;rw[if_pos rfl,if_neg (Ne.symm hij)];obtain⟨a1,a2⟩:=key j e' k' hj ho' (Ne.symm hij);refine⟨a1,λy z hy hz=>?_⟩;rw[N.get]at hy;grind[jC.fam]
  .rename_i hi';rw[if_neg hi'];split at hj
   .rename_i hj';subst hj';cases hj;rw[if_pos rfl];obtain⟨a1,a2⟩:=key i e k hi ho hi';refine⟨λe=>a1 e.symm,λy z hy hz=>?_⟩;rw[N.get]at hz;grind[jC.fam]
   .rename_i hj';rw[if_neg hj'];obtain⟨p1,p2⟩:=I.inj i e k j e' k' hi ho hj ho' hij;refine⟨p1,λy z hy hz=>?_⟩;rw[N.blk_old I hi (by rintro rfl;exact ho)]at hy;rw[N.blk_old I hj (by rintro rfl;exact ho')]at hz
    grind
theorem Inv.newData(I:Inv φ F G H h){x:Blk}(N:jC φ F G h H H' r x):
  Inv φ (λc=>F c∨c=r) G H' h∧Stp G φ F H h φ (λc=>F c∨c=r) H' h:=by
 have hle:LeF F (λc=>F c∨c=r) H H':=⟨λ_ hc=>.inl hc,λc hc=>N.keep I (.inl hc),N.born⟩;have hrn:r<H'.n:=AH.get_lt N.get;refine⟨⟨I.len,?_,?_,?_,?_,?_,N.sep I,N.wf⟩,⟨N.n,λc hc=>N.keep I hc,λ_ hc=>.inl hc,?_,N.born,λq _ hq=>N.kin hq,rfl,mP.refl φ h⟩⟩
 .intro i e k hi;by_cases hk:k=.none
  .subst hk;trivial
  .exact(I.blk i e k hi).mono hle (mP.refl φ h) (N.blk_old I hi hk)
 .rintro c ((hc|rfl)|hc)
  .exact Z0 (I.lt c (.inl hc)) N.n
  .omega
  .exact Z0 (I.lt c (.inr hc)) N.n
 .rintro c (hc|rfl)
  .rw[N.keep I (.inl hc)];exact I.fb c hc
  .exact⟨x,N.get,N.st⟩
 .intro i e k hi ho c hc;have hk:k≠.none:=by rintro rfl;exact ho
  have old:(F c∨G c)->_:=λhc=>I.priv i e k hi ho c hc
  rcases hc with(hc|rfl)|hc
  .grind[jC.keep,jC.blk_old]
  .have h1:=N.notS i e k hi ho;refine⟨λe=>h1 e.symm,λy z hy hz _=>?_⟩;rw[N.get]at hy;cases hy;rw[N.blk_old I hi hk]at hz;obtain⟨w,hw,hw1⟩:=I.own_get hi ho;rw[hw]at hz;cases hz;rw[N.fam];exact λe=>N.nokin _ _ hw aa h1 e.symm
  grind[jC.keep,jC.blk_old]
 .intro i e k j e' k' hi ho hj ho' hij;obtain⟨p1,p2⟩:=I.inj i e k j e' k' hi ho hj ho' hij;refine⟨p1,λy z hy hz=>?_⟩;rw[N.blk_old I hi (by rintro rfl;exact ho)]at hy;rw[N.blk_old I hj (by rintro rfl;exact ho')]at hz
  grind
 .rintro c (hc|rfl)
  .grind
  .exact .inr N.notG
structure Tch(H H':AH)(x:Blk)(r:Nat)(x2:Blk):Prop where
 n:H.n<=H'.n
 old:∀c y,H.get c=some y->∃y',H'.get c=some y'∧(y'=y∨(y.fam=x.fam∧y.st=1∧y'.st≠0∧y'.fam=y.fam))
 nw:∀c y,H.n<=c->H'.get c=some y->c=r
 get:H'.get r=some x2
 st:x2.st=1
 fam:x2.fam=x.fam
 wf:WF H'
theorem Tch.keep{x:Blk}{x2:Blk}(T:Tch H H' x r x2)(w:WF H)(hc:c<H.n)(hx:∀y,H.get c=some y->y.st=1->y.fam≠x.fam):H'.get c=H.get c:=by
 obtain⟨y,hy⟩:=w.get_some hc;obtain⟨y',hy',rfl|⟨h1,h2,_⟩⟩:=T.old c y hy
 .rw[hy,hy']
 grind
theorem Inv.touch(I:Inv φ F G H h){s e:Nat}{b:Bk}(hs:h[s]?=some (e,b))(ho:Own b){x:Blk}(hx:H.get (φ.getD s 0)=some x)(hx1:x.st=1){r:Nat}{x2:Blk}(T:Tch H H' x r x2)
  (hr:r=φ.getD s 0∨H.n<=r) {b':Bk} {m m':Nat} (hm:sv b=some m) (hm':sv b'=some m') (hmm:m<=m') (hmr:m=m'->r=φ.getD s 0)
  (hb:LeF F F H H'->mP φ h (φ.set s r) (bK h s e b')->RB (φ.set s r) F H' (bK h s e b') r b') :
  Inv (φ.set s r) F G H' (bK h s e b')∧Stp G φ F H h (φ.set s r) F H' (bK h s e b'):=by
 have hsl:s<h.length:=bj hs;have hsφ:s<φ.length:=by rw[I.len];exact hsl
 have ax:∀i,(bK h s e b')[i]?=if i=s then some (e,b')else h[i]?:=λi=>pE hsl
 have kF:∀c,F c∨G c->H'.get c=H.get c:=λc hc=>T.keep I.wf (I.lt c hc) λy hy h1=>(I.priv s e b hs ho c hc).2 y x hy hx h1
 have kO:∀i e1 k,h[i]?=some (e1,k)->Own k->i≠s->H'.get (φ.getD i 0)=H.get (φ.getD i 0):=λi e1 k hi hk his=>by
  obtain⟨z,hz,hz1⟩:=I.own_get hi hk;exact T.keep I.wf (AH.get_lt hz) λy hy h1=>(I.inj i e1 k s e b hi hk hs ho his).2 y x hy hx
 have kB:∀i e1 k,h[i]?=some (e1,k)->k≠.none->i≠s->H'.get (φ.getD i 0)=H.get (φ.getD i 0):=λi e1 k hi hk his=>by
  by_cases hok:Own k
  .grind
  .cases k with
   |none=>trivial
   |vars cs=>exact absurd trivial hok
   | data n cs ex fr=>
    cases fr with
    |false=>trivial
    |true=>grind[Ab]
 have hborn:∀c y,H.get c=some y->y.st≠0->∃y',H'.get c=some y'∧y'.st≠0:=λc y hy h0=>by
  grind[Tch.old]
 have hle:LeF F F H H':=⟨λ_ hc=>hc,λc hc=>kF c (.inl hc),hborn⟩
 have hslle:mP φ h (φ.set s r) (bK h s e b'):=by
  intro i;by_cases hi:i=s
  .subst hi;have e1:ep h i=e:=by simp[ep,hs]
   have e2:ep (bK h i e b') i=e:=by simp[ep,ax]
   refine⟨aa,λ_ k hk=>⟨m,?_,?_,λe=>?_⟩⟩
   .grind[dM]
   .rw[e1,dM (by rw[ax,if_pos rfl])]at hk
    grind
   .rw[e1,dM (by rw[ax,if_pos rfl]),hm']at hk
    grind
  .have e2:ep (bK h s e b') i=ep h i:=by unfold ep;rw[ax,if_neg hi]
   refine⟨aa,λ_ m hm=>⟨m,?_,Z8 _,λ_=>by rw[dh hsφ,if_neg hi]⟩⟩
   grind[ax]
 have hnk:∀q,G q->mY H q->mY H' q:=by
  intro q hq hk c y hy h0 hc;have hne:φ.getD s 0≠q:=λe1=>(I.priv s e b hs ho q (.inr hq)).1 e1.symm
  have hxq:x.fam≠q:=hk _ x hx aa hne;by_cases hcn:c<H.n
  .obtain⟨z,hz⟩:=I.wf.get_some hcn;obtain⟨z',hz',e|⟨h1,h2,_,h3⟩⟩:=T.old c z hz
   .rw[hz']at hy;cases hy;subst e;exact hk c _ hz h0 hc
   .rw[hz']at hy;cases hy;rw[h3];exact hk c z hz aa hc
  .have:=T.nw c y aa hy;subst this;rw[T.get]at hy;grind[Tch.fam]
 have hst:Stp G φ F H h (φ.set s r) F H' (bK h s e b'):=
  ⟨T.n,kF,λ_ hc=>hc,λ_ hc=>.inl hc,hborn,hnk,lC h s e b',hslle⟩
 have hob:∀c,F c∨G c->c≠r:=λc hc er=>by
  rcases hr with hr|hr
  .exact(I.priv s e b hs ho c hc).1 aa
  .exact absurd (I.lt c hc) aa
 have hfam:∀c,F c∨G c->∀y,H'.get c=some y->y.st=1->y.fam≠x2.fam:=λc hc y hy h1=>by
  rw[kF c hc]at hy;rw[T.fam];exact(I.priv s e b hs ho c hc).2 y x hy hx h1
 have hoth:∀i e1 k,h[i]?=some (e1,k)->Own k->i≠s->φ.getD i 0≠r∧∀y,H'.get (φ.getD i 0)=some y->y.fam≠x2.fam:=λi e1 k hi hk his=>by
  obtain⟨p1,p2⟩:=I.inj i e1 k s e b hi hk hs ho his;refine⟨λe=>?_,λy hy=>?_⟩
  .rcases hr with hr|hr
   .exact p1 aa
   .obtain⟨z,hz,_⟩:=I.own_get hi hk;have:=AH.get_lt hz;omega
  grind[Tch.fam]
 have hsG:¬G (φ.getD s 0):=λhG=>(I.priv s e b hs ho _ (.inr hG)).1 rfl
 have hsep:Sep G H':=by
  intro c y g z hy hy0 hc hg hz hz0;rw[kF g (.inr hg)]at hz;have hxz:=I.sep _ x g z hx aa hsG hg hz hz0;by_cases hcn:c<H.n
  .obtain⟨u,hu⟩:=I.wf.get_some hcn;obtain⟨u',hu',rfl|⟨h1,h2,_,h3⟩⟩:=T.old c u hu
   .rw[hu']at hy;cases hy;exact I.sep c _ g z hu hy0 hc hg hz hz0
   grind
  .have:=T.nw c y aa hy
   grind[Tch.get,Tch.fam]
 refine⟨⟨by simp[I.len,lC],?_,λc hc=>Z0 (I.lt c hc) T.n,λc hc=>by rw[kF c (.inl hc)];exact I.fb c hc,?_,?_,hsep,T.wf⟩,hst⟩
 .intro i e1 k hi;rw[ax]at hi;rw[dh hsφ];split at hi
  .grind
  .rename_i hi';rw[if_neg hi'];by_cases hk:k=.none
   .subst hk;trivial
   grind[RB.mono,blk]
 .intro i e1 k hi hk c hc;rw[ax]at hi;rw[dh hsφ];split at hi
  .grind[Tch.get]
  .rename_i hi';rw[if_neg hi'];obtain⟨p1,p2⟩:=I.priv i e1 k hi hk c hc
   grind
 .intro i e1 k j e2 k2 hi hk hj hk2 hij;rw[ax]at hi hj;rw[dh hsφ,dh hsφ];split at hi
  .grind[Tch.get]
  .rename_i hi';rw[if_neg hi'];split at hj
   .grind[Tch.get]
   .rename_i hj';rw[if_neg hj'];obtain⟨p1,p2⟩:=I.inj i e1 k j e2 k2 hi hk hj hk2 hij
    grind
theorem Inv.freeze(I:Inv φ F G H h)(hs:h[s]?=some (e,.data n cs ex fr)):
  ∃F',F' (φ.getD s 0)∧Inv φ F' G H (bK h s e (.data n cs ex true))∧Stp G φ F H h φ F' H (bK h s e (.data n cs ex true)):=by
 have hsl:s<h.length:=bj hs;have ax:∀i,(bK h s e (.data n cs ex true))[i]?=if i=s then some (e,.data n cs ex true)else h[i]?:=λi=>pE hsl
 obtain⟨x,hx,hx1,hd,hex,hesz,hn,hff,hwr⟩:=I.blk s e _ hs;refine⟨λc=>F c∨c=φ.getD s 0,.inr rfl,?_⟩;have hle:LeF F (λc=>F c∨c=φ.getD s 0) H H:=⟨λ_ hc=>.inl hc,λ_ _=>rfl,λc y hy h0=>⟨y,hy,h0⟩⟩
 have hslle:mP φ h φ (bK h s e (.data n cs ex true)):=by
  intro i;by_cases hi:i=s
  .subst hi;have e1:ep h i=e:=by simp[ep,hs]
   have e2:ep (bK h i e (.data n cs ex true)) i=e:=by simp[ep,ax]
   refine⟨aa,λ_ k hk=>⟨k,?_,Z8 _,λ_=>rfl⟩⟩;rw[e1,dM (by rw[ax,if_pos rfl])]at hk;rw[e1,dM hs];exact hk
  .have e2:ep (bK h s e (.data n cs ex true)) i=ep h i:=by unfold ep;rw[ax,if_neg hi]
   refine⟨aa,λ_ m hm=>⟨m,?_,Z8 _,λ_=>rfl⟩⟩
   grind[ax]
 -- what is not frozen yet stays apart from the block
 have hap:∀i e1 k,h[i]?=some (e1,k)->Own k->i≠s->φ.getD s 0≠φ.getD i 0∧∀y z,H.get (φ.getD s 0)=some y->H.get (φ.getD i 0)=some z->y.fam≠z.fam:=by
  intro i e1 k hi hk his;cases fr with
  |false=>exact I.inj s e _ i e1 k hs rfl hi hk (Ne.symm his)
  | true=>
   obtain⟨p1,p2⟩:=I.priv i e1 k hi hk _ (.inl (hff rfl))
   grind
 have hown:∀i e1 k,(bK h s e (.data n cs ex true))[i]?=some (e1,k)->Own k->i≠s∧h[i]?=some (e1,k):=by
  intro i e1 k hi hk;rw[ax]at hi;split at hi
  .grind[absurd,Own]
  .trivial
 refine⟨⟨by grind[lC,len],?_,?_,?_,?_,?_,I.sep,I.wf⟩,⟨Z8 _,λ_ _=>rfl,λ_ hc=>.inl hc,?_,λc y hy h0=>⟨y,hy,h0⟩,λ_ _ hq=>hq,lC h s e _,hslle⟩⟩
 .intro i e1 k hi;rw[ax]at hi;split at hi
  .rename_i hi';subst hi';cases hi;exact⟨x,hx,hx1,RDs.mono hle _ _ hd,λh=>hex (.inr (h.resolve_left ac)),hesz,hn,λ_=>.inr rfl,λe=>absurd e ac⟩
  grind[RB.mono,blk]
 .rintro c ((hc|rfl)|hc)
  .exact I.lt c (.inl hc)
  .exact AH.get_lt hx
  .exact I.lt c (.inr hc)
 .rintro c (hc|rfl)
  .exact I.fb c hc
  grind
 .intro i e1 k hi hk c hc;obtain⟨his,hi⟩:=hown i e1 k hi hk;rcases hc with(hc|rfl)|hc
  .exact I.priv i e1 k hi hk c (.inl hc)
  .grind
  .exact I.priv i e1 k hi hk c (.inr hc)
 .intro i e1 k j e2 k2 hi hk hj hk2 hij;obtain⟨_,hi⟩:=hown i e1 k hi hk;obtain⟨_,hj⟩:=hown j e2 k2 hj hk2;exact I.inj i e1 k j e2 k2 hi hk hj hk2 hij
 .rintro c (hc|rfl)
  .grind
  .cases fr with
   |false=>exact .inr λhg=>(I.priv s e _ hs rfl _ (.inr hg)).1 rfl
   |true=>grind
theorem zp:∀{cs:List D}{ws:LvQ},RVs φ F H h (cs.map V.d) ws->RDs F H cs ws
 |[],ws,hv=>by trivial
 | c::cs,ws,hv=>by
  simp only[Zv,RVs]at hv;obtain⟨w,us,rfl,r1,r2⟩:=hv;simp only[RDs];simp only[RV]at r1;exact⟨w,us,rfl,r1,zp r2⟩
theorem Inv.giveUp(I:Inv φ F G H h)(hs:h[s]?=some (e,.vars (cs.map .d))):
  ∃F',F' (φ.getD s 0)∧Inv φ F' G H (bK h s e (.data 1 cs false true))∧Stp G φ F H h φ F' H (bK h s e (.data 1 cs false true)):=by
 have hsl:s<h.length:=bj hs;have ax:∀i,(bK h s e (.data 1 cs false true))[i]?=if i=s then some (e,.data 1 cs false true)else h[i]?:=λi=>pE hsl
 obtain⟨x,hx,hx1,hwr,hxe,hd⟩:=I.blk s e _ hs;refine⟨λc=>F c∨c=φ.getD s 0,.inr rfl,?_⟩;have hle:LeF F (λc=>F c∨c=φ.getD s 0) H H:=⟨λ_ hc=>.inl hc,λ_ _=>rfl,λc y hy h0=>⟨y,hy,h0⟩⟩
 have hslle:mP φ h φ (bK h s e (.data 1 cs false true)):=by
  intro i;by_cases hi:i=s
  .subst hi;have e1:ep h i=e:=by simp[ep,hs]
   have e2:ep (bK h i e (.data 1 cs false true)) i=e:=by simp[ep,ax]
   refine⟨aa,λ_ k hk=>⟨k,?_,Z8 _,λ_=>rfl⟩⟩;rw[e1,dM (by rw[ax,if_pos rfl])]at hk
   grind[dM,sv]
  .have e2:ep (bK h s e (.data 1 cs false true)) i=ep h i:=by unfold ep;rw[ax,if_neg hi]
   refine⟨aa,λ_ m hm=>⟨m,?_,Z8 _,λ_=>rfl⟩⟩
   grind[ax]
 -- what is not frozen yet stays apart from the block
 have hap:∀i e1 k,h[i]?=some (e1,k)->Own k->i≠s->φ.getD s 0≠φ.getD i 0∧∀y z,H.get (φ.getD s 0)=some y->H.get (φ.getD i 0)=some z->y.fam≠z.fam:=by
  intro i e1 k hi hk his;exact I.inj s e _ i e1 k hs trivial hi hk (Ne.symm his)
 have hown:∀i e1 k,(bK h s e (.data 1 cs false true))[i]?=some (e1,k)->Own k->i≠s∧h[i]?=some (e1,k):=by
  intro i e1 k hi hk;rw[ax]at hi;split at hi
  .grind[absurd,Own]
  .trivial
 refine⟨⟨by grind[lC,len],?_,?_,?_,?_,?_,I.sep,I.wf⟩,⟨Z8 _,λ_ _=>rfl,λ_ hc=>.inl hc,?_,λc y hy h0=>⟨y,hy,h0⟩,λ_ _ hq=>hq,lC h s e _,hslle⟩⟩
 .intro i e1 k hi;rw[ax]at hi;split at hi
  .rename_i hi';subst hi';cases hi;exact⟨x,hx,hx1,RDs.mono hle _ _ (zp hd),λe=>absurd e ac,λ_=>hxe,af,λ_=>.inr rfl,λe=>absurd e ac⟩
  grind[RB.mono,blk]
 .rintro c ((hc|rfl)|hc)
  .exact I.lt c (.inl hc)
  .exact AH.get_lt hx
  .exact I.lt c (.inr hc)
 .rintro c (hc|rfl)
  .exact I.fb c hc
  grind
 .intro i e1 k hi hk c hc;obtain⟨his,hi⟩:=hown i e1 k hi hk;rcases hc with(hc|rfl)|hc
  .exact I.priv i e1 k hi hk c (.inl hc)
  .grind
  .exact I.priv i e1 k hi hk c (.inr hc)
 .intro i e1 k j e2 k2 hi hk hj hk2 hij;obtain⟨_,hi⟩:=hown i e1 k hi hk;obtain⟨_,hj⟩:=hown j e2 k2 hj hk2;exact I.inj i e1 k j e2 k2 hi hk hj hk2 hij
 .rintro c (hc|rfl)
  .grind
  .exact .inr λhg=>(I.priv s e _ hs trivial _ (.inr hg)).1 rfl
theorem Inv.swap(I:Inv φ F G H h){b b':Bk}(hs:h[s]?=some (e,b))(ho:Own b)(hm:sv b=some m)(hm':sv b'=some m)(hb:RB φ F H (bK h s e b') (φ.getD s 0) b'):
  Inv φ F G H (bK h s e b')∧Stp G φ F H h φ F H (bK h s e b'):=by
 have hsl:s<h.length:=bj hs;have ax:∀i,(bK h s e b')[i]?=if i=s then some (e,b')else h[i]?:=λi=>pE hsl
 have hle:LeF F F H H:=⟨λ_ hc=>hc,λ_ _=>rfl,λc y hy h0=>⟨y,hy,h0⟩⟩
 have hslle:mP φ h φ (bK h s e b'):=by
  intro i;by_cases hi:i=s
  .subst hi;have e1:ep h i=e:=by simp[ep,hs]
   have e2:ep (bK h i e b') i=e:=by simp[ep,ax]
   refine⟨aa,λ_ k hk=>⟨k,?_,Z8 _,λ_=>rfl⟩⟩;rw[e1,dM (by rw[ax,if_pos rfl])]at hk;rw[e1,dM hs,hm,<-hm'];exact hk
  .have e2:ep (bK h s e b') i=ep h i:=by unfold ep;rw[ax,if_neg hi]
   refine⟨aa,λ_ m hm=>⟨m,?_,Z8 _,λ_=>rfl⟩⟩
   grind[ax]
 have hown:∀(i e1:Nat)(k:Bk),(bK h s e b')[i]?=some (e1,k)->Own k->∃k0:Bk,h[i]?=some (e1,k0)∧Own k0:=by
  intro i e1 k hi hk;rw[ax]at hi;split at hi
  .rename_i hi';subst hi';cases hi;exact⟨b,hs,ho⟩
  .exact⟨k,hi,hk⟩
 refine⟨⟨by grind[lC,Inv.len],?_,I.lt,I.fb,?_,?_,I.sep,I.wf⟩,⟨Z8 _,λ_ _=>rfl,λ_ hc=>hc,λ_ hc=>.inl hc,λc y hy h0=>⟨y,hy,h0⟩,λ_ _ hq=>hq,lC h s e b',hslle⟩⟩
 .intro i e1 k hi;rw[ax]at hi;split at hi
  .rename_i hi';subst hi';cases hi;exact hb
  .exact(I.blk i e1 k hi).mono hle hslle rfl
 .intro i e1 k hi hk c hc;obtain⟨k0,h0,o0⟩:=hown i e1 k hi hk;exact I.priv i e1 k0 h0 o0 c hc
 .intro i e1 k j e2 k2 hi hk hj hk2 hij;obtain⟨k0,h0,o0⟩:=hown i e1 k hi hk;obtain⟨k3,h3,o3⟩:=hown j e2 k2 hj hk2;exact I.inj i e1 k0 j e2 k3 h0 o0 h3 o3 hij
theorem Inv.renew(I:Inv φ F G H h){b:Bk}(hs:h[s]?=some (e,b)):Inv φ F G H (h.set s (e+1,b))∧Stp G φ F H h φ F H (h.set s (e+1,b)):=by
 have hsl:s<h.length:=bj hs
 have ax:∀i,(h.set s (e+1,b))[i]?=if i=s then some (e+1,b)else h[i]?:=λi=>by
  by_cases hi:i=s
  .subst hi;simp[hsl]
  .rw[if_neg hi,List.getElem?_set_ne aa]
 have hle:LeF F F H H:=⟨λ_ hc=>hc,λ_ _=>rfl,λc y hy h0=>⟨y,hy,h0⟩⟩
 have hslle:mP φ h φ (h.set s (e+1,b)):=by
  intro i;by_cases hi:i=s
  .subst hi;have e1:ep h i=e:=by simp[ep,hs]
   have e2:ep (h.set i (e+1,b)) i=e+1:=by simp[ep,ax]
   exact⟨aa,λhc=>by omega⟩
  .have e2:ep (h.set s (e+1,b)) i=ep h i:=by unfold ep;rw[ax,if_neg hi]
   refine⟨aa,λ_ m hm=>⟨m,?_,Z8 _,λ_=>rfl⟩⟩
   grind[ax]
 have hown:∀(i e1:Nat)(k:Bk),(h.set s (e+1,b))[i]?=some (e1,k)->∃e0:Nat,h[i]?=some (e0,k):=by
  intro i e1 k hi;rw[ax]at hi;split at hi
  .rename_i hi';subst hi';cases hi;exact⟨e,hs⟩
  .exact⟨e1,hi⟩
 refine⟨⟨by grind[Inv.len],?_,I.lt,I.fb,?_,?_,I.sep,I.wf⟩,⟨Z8 _,λ_ _=>rfl,λ_ hc=>hc,λ_ hc=>.inl hc,λc y hy h0=>⟨y,hy,h0⟩,λ_ _ hq=>hq,ac,hslle⟩⟩
 .intro i e1 k hi;obtain⟨e0,h0⟩:=hown i e1 k hi;exact(I.blk i e0 k h0).mono hle hslle rfl
 .intro i e1 k hi hk c hc;obtain⟨e0,h0⟩:=hown i e1 k hi;exact I.priv i e0 k h0 hk c hc
 .intro i e1 k j e2 k2 hi hk hj hk2 hij;obtain⟨e0,h0⟩:=hown i e1 k hi;obtain⟨e3,h3⟩:=hown j e2 k2 hj;exact I.inj i e0 k j e3 k2 h0 hk h3 hk2 hij
end
def okZ(v:Value):Prop:=plain v=true∧okCell v=true
def PN(P:Program)(t:TypeId):D->Prop
 |.int _ _=>∃k,P.underlying t=some (.int k)
 |.bool _=>P.underlying t=some .bool
 |.str _=>P.underlying t=some .string
 |_=>False
def J7(P:Program)(t:TypeId)(z:List D):Prop:=∃gs:Array Field,P.underlying t=some (.struct gs)∧P.stoodInHeld t=false∧P.eqGuardType P.depth t=false∧gs.size=z.length ∧
 ∀(i:Nat) (f:Field) (d:D),gs.toList[i]?=some f→z[i]?=some d→f.offset=i∧f.name ≠ "_" ∧ PN P f.type d
structure Gb(P:Program)(t:TypeId)(i:TyI):Prop where
 kind:match i.k with
  |.i k=>P.underlying t=some (.int k)
  |.b=>P.underlying t=some .bool
  |.s=>P.underlying t=some .string
  |.p=>∃e,P.underlying t=some (.pointer e)
  |.f=>∃a b c,P.underlying t=some (.func a b c)
  |.it=>∃ms,P.underlying t=some (.interface ms)
  |.sl e=>P.underlying t=some (.slice e)
  |.ar n e=>P.underlying t=some (.array n e)
  |.st fs=>∃gs,P.underlying t=some (.struct gs)∧gs.toList.map (λf=>(f.offset,szO P f.type))=fs.map λp=>(p.1,some p.2)
  |.o=>True
 sz:i.k≠.o->szO P t=some i.sz
 bytes:i.k≠.o->qS P t=some i.bytes
 zero:i.k≠.o->∃z,iH P t=some z∧plain z=true∧z.cells.toList.map jA=i.z∧z.cells.size=i.sz∧∀c∈z.cells.toList,okZ c
 eq:i.eq=true->J7 P t i.z
section
variable{φ:LnQ}{F G:Nat->Prop}{H:AH}{h:Hp}
theorem zM{v:Value}(hv:okZ v):RD F H (jA v) v:=by obtain⟨h1,h2⟩:=hv;cases v<;>simp only[jA,RD]<;>first|trivial|exact⟨trivial,h1,h2⟩|exact⟨rfl,h1,h2⟩
theorem p9:∀{l:LvQ},(∀c∈l,okZ c)->RDs F H (l.map jA) l
 |[],_=>by rfl
 | v::l,hl=>by
  simp only[Zv,RDs];exact⟨v,l,rfl,zM (hl v ac),p9 λc hc=>hl c (by grind)⟩
def xX:Value->Bool
 |.agg cs=>cs.toList.all λc=>plain c&&okCell c
 |.tuple cs=>cs.toList.all λc=>plain c&&okCell c
 |v=>plain v
theorem PF{v:Value}(hv:xX v=true):RV φ F H h (lit v) v:=by
 cases v<;>simp only[lit,xX]at hv ⊢
 case agg cs=>
  obtain⟨l⟩:=cs;simp only[RV];refine⟨l,rfl,?_⟩
  have:=RVs.ofD (φ:=φ) (h:=h) (p9 (F:=F) (H:=H) (l:=l) λc hc=>by
   grind[okZ])
  rw[Wp]at this;exact this
 case tuple cs=>
  obtain⟨l⟩:=cs;simp only[RV];refine⟨l,rfl,?_⟩
  have:=RVs.ofD (φ:=φ) (h:=h) (p9 (F:=F) (H:=H) (l:=l) λc hc=>by
   grind[okZ])
  rw[Wp]at this;exact this
 all_goals(simp only[RV];exact zM ⟨hv,rfl⟩)
theorem fL{k:IntKind}{n:Int}{v:Value}:RV φ F H h (.d (.int k n)) v↔v=.int k n:=by rfl
theorem kC{b:Bool}{v:Value}:RV φ F H h (.d (.bool b)) v↔v=.bool b:=by rfl
theorem ti{s:LuQ}{v:Value}:RV φ F H h (.d (.str s)) v↔v=.string ⟨⟨s⟩⟩:=by rfl
theorem Ey(hv:ot o=some v)(ho:∀x,o=some x->okZ x):∃w,o=some w∧RV φ F H h v w:=by
 cases o with
 |none=>cases hv
 | some x=>
  grind[ot,RV,zM]
theorem yF{k k':IntKind}{a b:Int}{x:Value}(hx:iQ op k a k' b=some x):okZ x:=by
 unfold iQ at hx
 repeat' (first|split at hx|cases hx)
 all_goals first|exact⟨rfl,rfl⟩|(simp at hx;try(obtain⟨_,hx⟩:=hx);subst hx;exact⟨rfl,rfl⟩)
theorem UM{c:V}(hv:o9 c x y=some v)(hc:RV φ F H h c c')(hx:RV φ F H h x x')(hy:RV φ F H h y y'):
  ∃t:Bool,c'=.bool t∧RV φ F H h v (if t then x' else y'):=by
 unfold o9 at hv;split at hv
 .rename_i t;rw[kC]at hc;cases hv;exact⟨t,hc,by cases t<;>simpa⟩
 trivial
theorem abm(hv:biI op x y=some v)(hx:RV φ F H h x x')(hy:RV φ F H h y y'):
  ∃w,k8 P op t ox oy x' y'=some w∧RV φ F H h v w:=by
 unfold biI at hv;split at hv
 .rw[fL]at hx hy;subst hx;subst hy;rw[Oo];exact Ey hv λx hx=>yF hx
 trivial
theorem qm{a b r:Value}(ha:plain a=true)(hb:plain b=true)(hg:eqGuard op t ox oy a b=pure ())(h:pv P (binOp op t a b)=some r)(hr:plain r=true):
  k8 P op t ox oy a b=some r:=by grind[k8]
theorem dp(P:Program):∀(s:Sem α)(f:α->Sem β)(a:α),pv P s=some a->pv P (s >>= f)=pv P (f a):=by
 intro s f a
 induction s with
 |pure x=>intro hs;simp only[pv,Z9]at hs;subst hs;rfl
 |program k ih=>intro hs;exact ih P hs
 |_=>intro hs;cases hs
theorem qQ(hd:P.underlying t=some d):pv P (underlying t)=some d:=by
 show pv P (match P.underlying t with|some d=>pure d|none=>stuck "no such type")=some d
 rw[hd];rfl
theorem UE(hd:P.underlying t=some .bool)(a b:Bool):pv P (Op.equal t (.bool a) (.bool b))=some (a == b):=by
 have hg:∀n,pv P (Op.equalIn (n+1) t (.bool a) (.bool b))=some (a == b):=λn=>by
  rw[Op.equalIn,dp P _ _ _ (qQ hd)];rfl
 exact hg 9999
theorem Fx(op:BinOp)(t:TypeId)(x y:Operand)(a b:Bool):eqGuard op t x y (.bool a) (.bool b)=pure ():=by cases op<;>rfl
theorem RS(op:BinOp)(t:TypeId)(x y:Operand)(a b:ByteArray):eqGuard op t x y (.string a) (.string b)=pure ():=by cases op<;>rfl
theorem abo(ht:P.underlying t=some .bool)(hv:biB op x y=some v)(hx:RV φ F H h x x')(hy:RV φ F H h y y'):
  ∃w,k8 P op t ox oy x' y'=some w∧RV φ F H h v w:=by
 unfold biB at hv;split at hv
 .rename_i a b;rw[kC]at hx hy;subst hx;subst hy;split at hv
  .cases hv;refine⟨.bool (a == b),qm rfl rfl (Fx _ _ _ _ _ _) ?_ rfl,kC.2 rfl⟩
   show pv P (do pure (Value.bool (<-Op.equal t (Value.bool a) (Value.bool b))))=_
   rw[dp P _ _ _ (UE ht a b)];rfl
  .cases hv;refine⟨.bool (a !=b),qm rfl rfl (Fx _ _ _ _ _ _) ?_ rfl,kC.2 rfl⟩
   show pv P (do pure (Value.bool (!(<-Op.equal t (Value.bool a) (Value.bool b)))))=_
   rw[dp P _ _ _ (UE ht a b)];rfl
  trivial
 trivial
theorem ZU{d x y:D}(hk:PN P t d)(hx:RD F H x x')(hy:RD F H y y'){r:Bool}(h:eqC q d x y=some r):∃p,r=(p&&q)∧(∀n,pv P (Op.equalIn (n+1) t x' y')=some p)∧∀(cs:Array Value)(o:Nat)(v:Value),cs[o]?=some v->pv P (part t cs o)=some v:=by
 have pt:(∀fs,P.underlying t≠some (.struct fs))->(∀n e,P.underlying t≠some (.array n e))->(∃d,P.underlying t=some d)->∀(cs:Array Value)(o:Nat)(v:Value),cs[o]?=some v->pv P (part t cs o)=some v:=by
  rintro h1 h2 ⟨d,hd⟩ cs o v hv
  have hagg:pv P (isAgg t)=some false:=by
   unfold isAgg;rw[dp P _ _ _ (qQ hd)];cases d<;>first|rfl|exact absurd hd (h1 _)|grind
  unfold part;rw[dp P _ _ _ hagg];simp only[Zh,if_false,hv];rfl
 unfold eqC at h;split at h
 .rename_i k a k' b;split at h
  .rename_i hkk;subst hkk;simp only[Z9]at h;simp only[RD]at hx hy;subst hx;subst hy;obtain⟨k2,hk⟩:=hk;refine⟨a == b,h.symm,λn=>?_,pt (λ_ e=>by grind) (λ_ _ e=>by grind) ⟨_,hk⟩⟩;rw[Op.equalIn,dp P _ _ _ (qQ hk)];simp only[if_true];rfl
  .cases h
 .rename_i a b;simp only[Z9]at h;simp only[RD]at hx hy;subst hx;subst hy;have hk:P.underlying t=some .bool:=hk;refine⟨a == b,h.symm,λn=>?_,pt (λ_ e=>by grind) (λ_ _ e=>by grind) ⟨_,hk⟩⟩;rw[Op.equalIn,dp P _ _ _ (qQ hk)];rfl
 .rename_i a b;simp only[Z9]at h;simp only[RD]at hx hy;subst hx;subst hy;have hk:P.underlying t=some .string:=hk;refine⟨a == b,h.symm,λn=>?_,pt (λ_ e=>by grind) (λ_ _ e=>by grind) ⟨_,hk⟩⟩;rw[Op.equalIn,dp P _ _ _ (qQ hk)]
  show pv P (pure (ByteArray.mk ⟨a⟩ == ByteArray.mk ⟨b⟩))=_
  have:(ByteArray.mk ⟨a⟩ == ByteArray.mk ⟨b⟩)=(a == b):=by
   first
    |(rfl;done)
    |(rw[Yn];change (Array.mk a == Array.mk b)=true↔_;simp)
  rw[this];rfl
 .cases h
theorem H6{d:D}{us vs:List V}{p:Bool}(h:BN (d::z) us vs=some p):∃x l y m q,us=.d x::l∧vs=.d y::m∧BN z l m=some q∧eqC q d x y=some p:=by
 match us,vs,h with
 | .d x::l,.d y::m,h=>
  grind[BN]
theorem Pb{P:Program}(xs ys:Array Value)(n:Nat):∀(gs:List Field)(z:List D)(i:Nat)(us vs:List V)(us' vs':LvQ)(p:Bool),BN z us vs=some p→RVs φ F H h us us'→RVs φ F H h vs vs' →
  (∀j v,us'[j]?=some v→xs[i+j]?=some v)→(∀j v,vs'[j]?=some v→ys[i+j]?=some v)→gs.length=z.length →
  (∀j f d,gs[j]?=some f→z[j]?=some d→f.offset=i+j∧f.name ≠ "_" ∧ PN P f.type d) →
  pv P (forIn gs (none,()) λf (__s:Option Bool×Unit)=>
        if f.name ≠ "_" then do
         let __do_lift ← part f.type xs f.offset
         let __do_lift_1 ← part f.type ys f.offset
         let __do_lift ← Op.equalIn (n+1) f.type __do_lift __do_lift_1
         if (!__do_lift)=true then pure (ForInStep.done (some false,()))
          else pure (ForInStep.yield (none,()))
        else pure (ForInStep.yield (none,())))=some (if p then none else some false,())
 | [],z,i,us,vs,us',vs',p,he,_,_,_,_,hl,_=>by
  have hz:z=[]:=Yj.1 hl.symm;subst hz;cases us with
  | nil=>cases vs with
   |nil=>simp only[BN,Z9]at he;subst he;rfl
   |cons=>trivial
  |cons=>trivial
 |f::gs,[],i,us,vs,us',vs',p,he,_,_,_,_,hl,_=>by simp at hl
 | f::gs,d::z,i,us,vs,us',vs',p,he,hu,hv,hx,hy,hl,hg=>by
  obtain⟨x,l,y,m,q,rfl,rfl,hq,he⟩:=H6 he;simp only[RVs,RV]at hu hv;obtain⟨x',l',rfl,rx,rl⟩:=hu;obtain⟨y',m',rfl,ry,rm⟩:=hv;obtain⟨g1,g2,g3⟩:=hg 0 f d rfl rfl
  .obtain⟨b,rfl,hb,hpart⟩:=ZU g3 rx ry he;rw[List.forIn_cons];simp only[ne_eq,g2,not_false_eq_true,if_true];have e1:pv P (part f.type xs f.offset)=some x':=hpart _ _ _ (by rw[g1];exact hx 0 x' rfl);have e2:pv P (part f.type ys f.offset)=some y':=hpart _ _ _ (by rw[g1];exact hy 0 y' rfl)
   have e3:pv P (do
         let __do_lift ← part f.type xs f.offset
         let __do_lift_1 ← part f.type ys f.offset
         let __do_lift ← Op.equalIn (n+1) f.type __do_lift __do_lift_1
         if (!__do_lift)=true then pure (ForInStep.done (some false,()))
          else pure (ForInStep.yield (none,())))=some (if b then ForInStep.yield (none,())else ForInStep.done (some false,())):=by
    rw[dp P _ _ _ e1,dp P _ _ _ e2,dp P _ _ _ (hb n)];cases b<;>rfl
   rw[dp P _ _ _ e3];cases b with
   |false=>rfl
   | true=>
    have:=Pb xs ys n gs z (i+1) l m l' m' q hq rl rm (λj v hj=>by rw[show i+1+j=i+(j+1) by omega];simp_all)
     (λj v hj=>by rw[show i+1+j=i+(j+1) by omega];simp_all) (by grind) (λj f' d' hf hd=>by
      have:=hg (j+1) f' d' (by trivial) (by trivial);rw[show i+1+j=i+(j+1) by omega];omega)
    trivial
theorem abq(ht:J7 P t z)(hv:biA z op x y=some v)(hx:RV φ F H h x x')(hy:RV φ F H h y y'):
  ∃w,k8 P op t ox oy x' y'=some w∧RV φ F H h v w:=by
 obtain⟨gs,hd,hs,hgd,hn,hf⟩:=ht;unfold biA at hv;split at hv
 case h_2=>cases hv
 rename_i us vs;simp only[RV]at hx hy;obtain⟨us',rfl,ru⟩:=hx;obtain⟨vs',rfl,rv⟩:=hy
 have key:∀p,BN z us vs=some p→pv P (Op.equal t (.agg ⟨us'⟩) (.agg ⟨vs'⟩))=some p:=by
  intro p hp
  have hg:∀n,pv P (Op.equalIn (n+2) t (.agg ⟨us'⟩) (.agg ⟨vs'⟩))=some p:=λn=>by
   rw[Op.equalIn,dp P _ _ _ (qQ hd)];dsimp only;rw[dp P _ _ P (by rfl)];rw[hs];simp only[Zh,if_false]
   have:=Pb (φ:=φ) (F:=F) (H:=H) (h:=h) ⟨us'⟩ ⟨vs'⟩ n gs.toList z 0 us vs us' vs' p hp ru rv (λj v hj=>by grind) (λj v hj=>by grind) aa (λj f d h1 h2=>by
    have:=hf j f d h1 h2;simpa using this)
   rw[← Array.forIn_toList];rw[dp P _ _ _ this];cases p<;>rfl
  exact hg 9998
 have guard:pv P (eqGuard op t ox oy (.agg ⟨us'⟩) (.agg ⟨vs'⟩))=some ():=by
  unfold eqGuard
  have:pv P (do
    let __do_lift ← program
    let __do_lift_1 ← program
    if (!__do_lift.eqGuardType __do_lift_1.depth t)=true then pure ()else do
     if ← Op.eqGuardIn Op.maxDepth t (.agg ⟨us'⟩) (.agg ⟨vs'⟩)then unsupported (.noEntry "binop/eql: two nil values of an interface type with methods, in a part of a struct or an array"):Sem Unit)=some ():=by
   rw[dp P _ _ P (by rfl),dp P _ _ P (by rfl),hgd];rfl
  cases op<;>first|rfl|exact this
 have pl:∀{p:Bool},BN z us vs=some p→cV us'=true∧cV vs'=true:=by
  have:∀(z:List D)(us vs:List V)(us' vs':LvQ)(p:Bool),BN z us vs=some p→RVs φ F H h us us'→RVs φ F H h vs vs'→cV us'=true∧cV vs'=true:=by
   intro z
   induction z with
   | nil=>
    intro us vs us' vs' p he hu hv;cases us with
    | nil=>cases vs with
     |nil=>simp only[RVs]at hu hv;subst hu;subst hv;trivial
     |cons=>trivial
    |cons=>trivial
   | cons d z ih=>
    intro us vs us' vs' p he hu hv;obtain⟨x,l,y,m,q,rfl,rfl,hq,he⟩:=H6 he;simp only[RVs,RV]at hu hv;obtain⟨x',l',rfl,rx,rl⟩:=hu;obtain⟨y',m',rfl,ry,rm⟩:=hv
    .obtain⟨h1,h2⟩:=ih _ _ _ _ _ hq rl rm
     have:plain x'=true∧plain y'=true:=by
      unfold eqC at he;split at he
      .simp only[RD]at rx ry;subst rx;subst ry;trivial
      .simp only[RD]at rx ry;subst rx;subst ry;trivial
      .simp only[RD]at rx ry;subst rx;subst ry;trivial
      .cases he
     grind[cV]
  intro p hp;exact this z us vs us' vs' p hp ru rv
 have fin:∀(p q:Bool),BN z us vs=some p→pv P (binOp op t (.agg ⟨us'⟩) (.agg ⟨vs'⟩))=some (.bool q)→∃w,k8 P op t ox oy (.agg ⟨us'⟩) (.agg ⟨vs'⟩)=some w∧RV φ F H h (.d (.bool q)) w:=by
  intro p q hp hq;refine⟨.bool q,?_,kC.2 rfl⟩;obtain⟨h1,h2⟩:=pl hp;unfold k8;have a1:plain (.agg ⟨us'⟩)=true:=by simp only[plain,h1]
  have a2:plain (.agg ⟨vs'⟩)=true:=by simp only[plain,h2]
  rw[a1,a2];simp only[Xd,if_true];rw[dp P _ _ _ guard,hq];rfl
 split at hv
 .rename_i p hp;cases hv;refine fin p p hp ?_
  show pv P (do pure (Value.bool (← Op.equal t _ _)))=_
  rw[dp P _ _ _ (key p hp)];rfl
 .rename_i p hp;cases hv;refine fin p (!p) hp ?_
  show pv P (do pure (Value.bool (!(← Op.equal t _ _))))=_
  rw[dp P _ _ _ (key p hp)];rfl
 trivial
theorem UD{ms:_}(hd:P.underlying t=some (.interface ms)):pv P (Op.equal t .nilIface .nilIface)=some true:=by
 have hg:∀n,pv P (Op.equalIn (n+1) t .nilIface .nilIface)=some true:=λn=>by
  rw[Op.equalIn,dp P _ _ _ (qQ hd)];rfl
 exact hg 9999
theorem abn(ht:∃ms,P.underlying t=some (.interface ms))(hv:biF op x y=some v)(hx:RV φ F H h x x')(hy:RV φ F H h y y'):
  ∃w,k8 P op t ox (.const cv) x' y'=some w∧RV φ F H h v w:=by
 obtain⟨ms,ht⟩:=ht;unfold biF at hv;split at hv
 .have e1:x'=.nilIface:=by simp only[RV,RD]at hx;exact hx.1
  have e2:y'=.nilIface:=by simp only[RV,RD]at hy;exact hy.1
  subst e1;subst e2
  have hg:∀op:BinOp,eqGuard op t ox (.const cv) .nilIface .nilIface=pure ():=λop=>by
   cases op<;>cases ox<;>rfl
  split at hv
  .cases hv;refine⟨.bool true,qm rfl rfl (hg _) ?_ rfl,kC.2 rfl⟩
   show pv P (do pure (Value.bool (<-Op.equal t .nilIface .nilIface)))=_
   rw[dp P _ _ _ (UD ht)];rfl
  .cases hv;refine⟨.bool false,qm rfl rfl (hg _) ?_ rfl,kC.2 rfl⟩
   show pv P (do pure (Value.bool (!(<-Op.equal t .nilIface .nilIface))))=_
   rw[dp P _ _ _ (UD ht)];rfl
  trivial
 trivial
theorem Pw{ts:Array TypeId}{l:List V}(g:Bool)(hv:mxI g l=some v)(hl:RVs φ F H h l l'):
  ∃w,bC P H (if g then .max else .min) ts t l'=some (w,H)∧RV φ F H h v w:=by
 unfold mxI at hv;split at hv
 .rename_i k a;cases hv;obtain⟨x,xs,rfl,hx,hxs⟩:=hl;simp only[RVs]at hxs;subst hxs;rw[fL]at hx;subst hx;refine⟨.int k a,?_,fL.2 rfl⟩;cases g<;>rfl
 .rename_i k a k' b l;obtain⟨x,xs,rfl,hx,y,ys,rfl,hy,hys⟩:=hl;rw[fL]at hx hy;subst hx;subst hy;split at hv
  .cases hv;simp only[RVs]at hys;subst hys;refine⟨.int k (mx2 g a b),?_,fL.2 rfl⟩;cases g<;>rfl
  .rename_i k2 c;cases hv;obtain⟨z,zs,rfl,hz,hzs⟩:=hys;simp only[RVs]at hzs;subst hzs;rw[fL]at hz;subst hz;refine⟨.int k (mx2 g (mx2 g a b) c),?_,fL.2 rfl⟩;cases g<;>rfl
  trivial
 trivial
theorem abj(hv:biS op x y=some v)(hx:RV φ F H h x x')(hy:RV φ F H h y y'):
    ∃w,k8 P op t ox oy x' y'=some w∧RV φ F H h v w:=by
  unfold biS at hv;split at hv
  · rename_i a b
    rw[ti]at hx hy;subst hx;subst hy;have hl:∀l:LuQ,(ByteArray.mk ⟨l⟩).toList=l:=λl=>by rw[ByteArray.toList_eq]
    have hb:binOp op t (.string ⟨⟨a⟩⟩) (.string ⟨⟨b⟩⟩)=Op.stringOp op ⟨⟨a⟩⟩ ⟨⟨b⟩⟩:=by cases op<;>rfl
    split at hv
    · rename_i d hd
      cases hv;unfold Ng at hd
      have fin:∀w,pv P (Op.stringOp op ⟨⟨a⟩⟩ ⟨⟨b⟩⟩)=some w->plain w=true->RV φ F H h (.d d) w->∃w,k8 P op t ox oy (.string ⟨⟨a⟩⟩) (.string ⟨⟨b⟩⟩)=some w∧RV φ F H h (.d d) w:=
        λw h1 h2 h3=>⟨w,qm rfl rfl (RS _ _ _ _ _ _) (by grind) h2,h3⟩
      split at hd
      · split at hd
        · rename_i hle
          cases hd;refine fin (.string (⟨⟨a⟩⟩++⟨⟨b⟩⟩)) ?_ rfl ?_
          · have:¬(((ByteArray.mk ⟨a⟩).size+(ByteArray.mk ⟨b⟩).size:Nat):Int)>IntKind.i64.max:=by
              show ¬((a.length+b.length:Nat):Int)>9223372036854775807
              omega
            simp only[Op.stringOp,this,if_false];rfl
          rfl
        trivial
      all_goals first
        | (cases hd
           refine fin _ (by simp only[Op.stringOp,hl];rfl) rfl ?_;rw[kC])
        |cases hd
    trivial
  trivial
theorem Dl{H':AH}(I:Inv φ F G H h)(hq:NG h x=some q)(hx:RV φ F H h x x'):∃a b c,x'=.slice a b c∧q=a.isNone:=by
 unfold NG at hq;split at hq
 .grind[RV,RD]
 .cases hq;simp only[RV,RD]at hx;rcases hx with⟨h0,_⟩|⟨c,o,cap,vs,n,rfl,_⟩
  .omega
  simp
 .grind[RV]
 .rename_i s e off len cap tot;split at hq
  .rename_i n cs ex fr hg;split at hq
   .rename_i ht;cases hq;simp only[RV]at hx;have:=(hx.2.2 cs.length (by rw[hg];rfl)).2 ht
    grind
   trivial
  trivial
 trivial
theorem UC{e:TypeId}(hd:P.underlying t=some (.slice e))(a b c d:Nat):pv P (Op.equal t (.slice none a b) (.slice none c d))=some true:=by
 have hg:∀n,pv P (Op.equalIn (n+1) t (.slice none a b) (.slice none c d))=some true:=λn=>by
  rw[Op.equalIn,dp P _ _ _ (qQ hd)];rfl
 exact hg 9999
theorem Dm{e:TypeId}(hd:P.underlying t=some (.slice e))(ox oy:Operand)(a b:Option Addr)(n m c d:Nat)(hab:a=none∨b=none):
  k8 P .eql t ox oy (.slice a n m) (.slice b c d)=some (.bool (a.isNone&&b.isNone))∧k8 P .neq t ox oy (.slice a n m) (.slice b c d)=some (.bool !(a.isNone&&b.isNone)):=by
 cases a with
 | none=>
  cases b with
  | none=>
   constructor
   .refine qm rfl rfl rfl ?_ rfl
    show pv P (do pure (Value.bool (<-Op.equal t (.slice none n m) (.slice none c d))))=_
    rw[dp P _ _ _ (UC hd n m c d)];rfl
   .refine qm rfl rfl rfl ?_ rfl
    show pv P (do pure (Value.bool (!(<-Op.equal t (.slice none n m) (.slice none c d)))))=_
    rw[dp P _ _ _ (UC hd n m c d)];rfl
  |some b=>simp[k8,plain,EW,iN,hd,isNil]
 | some a=>
  cases b with
  |none=>simp[k8,plain,EW,iN,hd,isNil]
  |some b=>rcases hab with h|h<;>cases h
theorem abl(hv:biN h op x y=some v):∃p q,NG h x=some p∧NG h y=some q∧(p=true∨q=true) ∧
  ((op=.eql∧v=.d (.bool (p&&q)))∨(op=.neq∧v=.d (.bool !(p&&q)))):=by
 unfold biN at hv
 grind
theorem U0(I:Inv φ F G H h){e:TypeId}(hd:P.underlying t=some (.slice e)){k:V->Prop}(hk:Bj h op x y k)(hx:RV φ F H h x x')(hy:RV φ F H h y y'):
  ∃v w,k v∧k8 P op t ox oy x' y'=some w∧RV φ F H h v w:=by
 unfold Bj at hk;split at hk
 .rename_i v hv;obtain⟨p,q,h1,h2,hpq,ho⟩:=abl hv;obtain⟨a,n,m,rfl,q1⟩:=Dl (H':=H) I h1 hx;obtain⟨b,c,d,rfl,q2⟩:=Dl (H':=H) I h2 hy
  have hn:a=none∨b=none:=by
   rcases hpq with e|e
   .left;rw[e]at q1;cases a
    .rfl
    trivial
   .right;rw[e]at q2;cases b
    .rfl
    trivial
  subst q1 q2;rcases ho with⟨rfl,rfl⟩|⟨rfl,rfl⟩
  .grind[Dm,kC]
  .exact⟨_,_,hk,(Dm hd ox oy a b n m c d hn).2,kC.2 rfl⟩
 ·have emp:VQ x=true->∃a n m,x'=.slice a n m:=by
   intro he;unfold VQ at he;split at he
   .simp only[RV,RD]at hx;rcases hx with⟨_,_,e|⟨c,o,cap,e,_⟩⟩|⟨c,o,cap,vs,n,e,_⟩<;>exact⟨_,_,_,e⟩
   .cases he
  split at hk
  .rename_i h1 h2 _;obtain⟨a,n,m,rfl⟩:=emp h1;obtain⟨b,c,d,rfl,q2⟩:=Dl (H':=H) I h2 hy
   have hb:b=none:=by
    cases b
    .rfl
    .cases q2
   exact⟨_,_,hk _,(Dm hd ox oy a b n m c d (.inr hb)).1,kC.2 rfl⟩
  .rename_i h1 h2 _;obtain⟨a,n,m,rfl⟩:=emp h1;obtain⟨b,c,d,rfl,q2⟩:=Dl (H':=H) I h2 hy
   have hb:b=none:=by
    cases b
    .rfl
    .cases q2
   exact⟨_,_,hk _,(Dm hd ox oy a b n m c d (.inr hb)).2,kC.2 rfl⟩
  trivial
theorem acE{op:UnOp}(hv:unV op x=some v)(hx:RV φ F H h x x'):
  plain x'=true∧∃w,tn (pv P (Op.unary op x'))=some w∧RV φ F H h v w:=by
 unfold unV at hv;split at hv
 .rw[kC]at hx;subst hx;split at hv
  .cases hv;exact⟨rfl,_,rfl,kC.2 rfl⟩
  trivial
 .rename_i k n;rw[fL]at hx;subst hx;refine⟨rfl,?_⟩;split at hv
  .obtain⟨w,hw,hr⟩:=Ey (φ:=φ) (F:=F) (H:=H) (h:=h) hv λx hx=>yF hx
   refine⟨w,?_,hr⟩;simp only[iQ,ne_eq,not_true_eq_false,if_false,Z9]at hw;subst hw;rfl
  .obtain⟨w,hw,hr⟩:=Ey (φ:=φ) (F:=F) (H:=H) (h:=h) hv λx hx=>yF hx
   refine⟨w,?_,hr⟩;simp only[iQ,ne_eq,not_true_eq_false,if_false,Z9]at hw;subst hw;rfl
  trivial
 trivial
end
section
variable{φ:LnQ}{F G:Nat->Prop}{H:AH}{h:Hp}
theorem aa5{s d:TypeId}{k k0:IntKind}(hs:P.underlying s=some (.int k0))(hd:P.underlying d=some (.int k))(hv:cvI k x=some v)(hx:RV φ F H h x x'):
  ∃w,j5 P H s d x'=some (w,H)∧RV φ F H h v w:=by
 unfold cvI at hv;split at hv
 .rename_i k1 n;cases hv;rw[fL]at hx;subst hx;refine⟨.int k (k.wrap n),?_,fL.2 rfl⟩;unfold j5;rw[hs,hd]
  have:pv P (convert s d (.int k1 n))=some (.int k (k.wrap n)):=by
   unfold convert;rw[dp P _ _ _ (qQ hs),dp P _ _ _ (qQ hd)];rfl
  grind[plain,tn]
 trivial
theorem aa4{s d:TypeId}(hs:P.underlying s=some .string)(hd:P.underlying d=some .string)(hv:cvS x=some v)(hx:RV φ F H h x x'):
  ∃w,j5 P H s d x'=some (w,H)∧RV φ F H h v w:=by
 unfold cvS at hv;split at hv
 .rename_i t;cases hv;rw[ti]at hx;subst hx;refine⟨.string ⟨⟨t⟩⟩,?_,ti.2 rfl⟩;unfold j5;rw[hs,hd]
  have:pv P (convert s d (.string ⟨⟨t⟩⟩))=some (.string ⟨⟨t⟩⟩):=by
   unfold convert;rw[dp P _ _ _ (qQ hs),dp P _ _ _ (qQ hd)];rfl
  grind[plain,tn]
 trivial
theorem yp{b o:Nat}{vs:LvQ}(hr:cg H b o n=some vs){i:Nat}(hi:i+m<=n):cg H b (o+i) m=some ((vs.drop i).take m):=by
 unfold cg at hr ⊢;split at hr
 .rename_i x hx;split at hr
  .rename_i hc;cases hr;rw[if_pos ⟨hc.1,aa⟩]
   grind[List.drop_take,List.drop_drop]
  trivial
 trivial
theorem Rc{b o:Nat}{vs:LvQ}(hr:cg H b o n=some vs):vs.length=n:=by grind[cg]
theorem kK{b:Nat}{x:Blk}(hx:H.get b=some x)(h1:x.st=1){o:Nat}(hn:o+n<=x.cells.length):cg H b o n=some ((x.cells.drop o).take n):=by grind[cg]
theorem tj(I:Inv φ F G H h){cap:Nat}{v:Value}(hx:RV φ F H h (.ref s e off len cap tot) v)(hg:ax h s e=.data n cs ex fr)(ht:tot=cs.length):
  v=.slice (some ⟨φ.getD s 0,off,none⟩) len cap∧∃x,H.get (φ.getD s 0)=some x∧x.st=1∧RDs F H cs x.cells∧(fr=false∨ex=true->x.exact=ex)∧(ex=false->x.exact=true∨x.esz=n)∧0<n∧(fr=true->F (φ.getD s 0))∧(fr=false->x.wr=true):=by simp only[RV]at hx;refine⟨(hx.2.2 cs.length (by rw[hg];rfl)).2 ht,?_⟩;exact I.blk s e _ (eA ac hg)
theorem zu(I:Inv φ F G H h){v:Value}(hx:RV φ F H h (.ptr s e off tot) v)(hg:ax h s e=.data n cs ex fr)(ht:tot=cs.length):
  v=.pointer (some ⟨φ.getD s 0,off,none⟩)∧∃x,H.get (φ.getD s 0)=some x∧x.st=1∧RDs F H cs x.cells∧(fr=false∨ex=true->x.exact=ex)∧(ex=false->x.exact=true∨x.esz=n)∧0<n∧(fr=true->F (φ.getD s 0))∧(fr=false->x.wr=true):=by simp only[RV]at hx;refine⟨(hx.2.2 cs.length (by rw[hg];rfl)).2 ht,?_⟩;exact I.blk s e _ (eA ac hg)
theorem Dh(I:Inv φ F G H h){cs:List V}{v:Value}(hx:RV φ F H h (.ptr s e off tot) v)(hg:ax h s e=.vars cs)(ht:tot=cs.length):
  v=.pointer (some ⟨φ.getD s 0,off,none⟩)∧∃x,H.get (φ.getD s 0)=some x∧x.st=1∧x.wr=true∧(x.exact=true∨x.esz=1)∧RVs φ F H h cs x.cells:=by simp only[RV]at hx;refine⟨(hx.2.2 cs.length (by rw[hg];rfl)).2 ht,?_⟩;exact I.blk s e _ (eA ac hg)
theorem BY(I:Inv φ F G H h)(hc:cellsOf h x=some (len,cs))(hx:RV φ F H h x x')(n:Nat)(hn:cs.length=len*n):
  ∃vs,nf H n x'=some (len,vs)∧RDs F H cs vs:=by
 have nilc:cs=[]->len=0->(∃c o cap,x'=.slice (some ⟨c,o,none⟩) 0 cap)∨x'=.slice none 0 0->∃vs,nf H n x'=some (len,vs)∧RDs F H cs vs:=by
  rintro rfl rfl (⟨c,o,cap,rfl⟩|rfl)
  .simp[nf,RDs]
  .simp[nf,RDs]
 unfold cellsOf at hc;split at hc
 .rename_i l ds;cases hc;simp only[RV,RD]at hx;rcases hx with⟨rfl,rfl,e|⟨c,o,cap,e,_⟩⟩|⟨c,o,cap,vs,m,rfl,hl,_,hm,hlen,hF,hr,hd,_⟩
  .grind
  .simp_all
  .refine⟨vs,?_,hd⟩;simp only[nf];rw[if_neg aa,<-hn,hr];rfl
 .grind[RV,RD]
 .cases hc;simp only[RV]at hx;obtain⟨c,o,x,rfl,_⟩:=hx
  simp_all
 .rename_i s e off l2 cap tot;split at hc
  .rename_i m ds ex fr hg;split at hc
   .rename_i ht;cases hc;obtain⟨rfl,y,hy,hy1,hd,_⟩:=tj I hx hg ht.1;by_cases h0:len=0
    .subst h0;exact nilc ac rfl (.inl ⟨_,_,_,rfl⟩)
    ·have e1:len*m=len*n:=by
      rw[<-hn,Zr,Yq];omega
     refine⟨(y.cells.drop off).take (len*m),?_,(hd.drop off).take _⟩
     grind[nf,kK,RDs.length]
   trivial
  trivial
 trivial
theorem Ih:∀{cs:List D}{vs:LvQ}{t:LuQ},bytesD cs=some t->RDs F H cs vs->bytesOf vs=some t
 |[],_,t,ht,r=>by grind[RDs,bytesD,bytesOf]
 | x::cs,_,t,ht,r=>by
  simp only[RDs]at r;obtain⟨v,vs,rfl,r1,r2⟩:=r;unfold bytesD at ht;split at ht
  .trivial
  .rename_i n l e;cases e;split at ht
   .rename_i hn;split at ht
    .rename_i q hq;cases ht;simp only[RD]at r1;subst r1;simp only[bytesOf,JW,hn,and_self,if_true,Ih hq r2]
    trivial
   trivial
  trivial
theorem aa3(I:Inv φ F G H h){s d e:TypeId}(hs:P.underlying s=some (.slice e))(he:P.underlying e=some (.int .u8))(hd:P.underlying d=some .string)(hv:cvT h x=some v)(hx:RV φ F H h x x'):
  ∃w,j5 P H s d x'=some (w,H)∧RV φ F H h v w:=by
 unfold cvT at hv;split at hv
 .rename_i len cs hc;split at hv
  case isFalse=>cases hv
  rename_i hlen;split at hv
  .rename_i t ht;cases hv;obtain⟨vs,hsrc,hr⟩:=BY I hc hx 1 aa;have hb:=Ih ht hr;refine⟨.string ⟨⟨t⟩⟩,?_,ti.2 rfl⟩
   have hsh:(∃c o cap,x'=.slice (some ⟨c,o,none⟩) len cap∧(len=0->there H (some ⟨c,o,none⟩)=true))∨x'=.slice none 0 0:=by
    have thr:∀{c o y},H.get c=some y->y.st≠0->there H (some ⟨c,o,none⟩)=true:=λhy h0=>by grind[there]
    unfold cellsOf at hc;split at hc
    .cases hc;simp only[RV,RD]at hx;rcases hx with⟨rfl,rfl,e|⟨c,o,cap,e,y,hy,h0⟩⟩|⟨c,o,cap,vs,m,rfl,hl,_⟩
     .grind
     .grind
     .exact .inl ⟨c,o,cap,rfl,λe=>by omega⟩
    .grind[RV,RD]
    .cases hc;simp only[RV]at hx;obtain⟨c,o,y,rfl,_,hy,h1,_⟩:=hx;exact .inl ⟨c,o,0,rfl,λ_=>thr hy aa⟩
    .split at hc
     .rename_i hg;split at hc
      .rename_i htt;cases hc;obtain⟨rfl,y,hy,hy1,_⟩:=tj I hx hg htt.1;exact .inl ⟨_,_,_,rfl,λ_=>thr hy aa⟩
      trivial
     trivial
    .cases hc
   unfold j5;rw[hs,hd];rcases hsh with⟨c,o,cap,rfl,hth⟩|rfl
   .simp only[he];by_cases h0:len=0
    .subst h0
     have:t=[]:=by
      have:cs=[]:=Zo hlen;subst this;simpa[bytesD]using ht.symm
     grind[bytesOf]
    grind[nf]
   .simp only[he];simp only[nf,Z9,Z5]at hsrc;obtain⟨h0,h1⟩:=hsrc;subst h1;simp only[bytesOf,Z9]at hb;subst hb;rfl
  trivial
 trivial
theorem EK{v:Value}(hx:RV φ F H h (.ptr s e off tot) v)(d:Nat):∃b o,v=.pointer (some ⟨b,o,none⟩)∧RV φ F H h (.ptr s e (off+d) tot) (.pointer (some ⟨b,o+d,none⟩)):=by
 simp only[RV]at hx ⊢
 grind
theorem FL{P:Program}{gs:Array Field}{fs:List (Nat×Nat)}(hg:gs.toList.map (λf=>(f.offset,szO P f.type))=fs.map λp=>(p.1,some p.2))
  {f off sz:Nat} (hf:fs[f]?=some (off,sz)):∃fd,gs[f]?=some fd∧fd.offset=off∧szO P fd.type=some sz:=by
 have:=congrArg (·[f]?) hg
 grind
theorem adO{P:Program}{t:TypeId}{gs:Array Field}{fs:List (Nat×Nat)}(hu:P.underlying t=some (.struct gs))(hg:gs.toList.map (λf=>(f.offset,szO P f.type))=fs.map λp=>(p.1,some p.2))
  {f off sz:Nat} (hf:fs[f]?=some (off,sz)) (h0:sz≠0) {x v:V} {x':Value} (hv:faV off x=some v) (hx:RV φ F H h x x'):∃w,qi P t x' f=some w∧RV φ F H h v w:=by
 obtain⟨fd,hfd,rfl,hsz⟩:=FL hg hf;obtain⟨m,rfl⟩:=Nat.exists_eq_succ_of_ne_zero h0;unfold faV at hv;split at hv
 .rename_i s e o tot;cases hv;obtain⟨b,q,rfl,hr⟩:=EK hx fd.offset
  simp_all[qi]
 .rename_i cs o;cases hv;simp only[RV]at hx;obtain⟨c,q,vs,rfl,hF,hr,hd⟩:=hx;refine⟨_,by simp only[qi,hu,hfd,hsz];rfl,?_⟩
  grind[RV]
 trivial
theorem Jb(hv:faV 0 x=some v)(hx:RV φ F H h x x'):∃p,x'=.pointer (some p)∧RV φ F H h v x':=by
 unfold faV at hv;split at hv
 .cases hv;obtain⟨b,q,rfl,hr⟩:=EK hx 0
  grind
 .grind[RV]
 trivial
theorem adz{P:Program}(I:Inv φ F G H h){t e:TypeId}{n:Nat}(hu:P.underlying t=some (.slice e))(hn:szO P e=some n){x i v:V}{x' i':Value}(hv:ixV h n x i=some v)
  (hx:RV φ F H h x x') (hi:RV φ F H h i i'):∃w,kh P t x' i'=some w∧RV φ F H h v w:=by
 unfold ixV at hv;split at hv
 .rename_i len cs k i;split at hv
  .rename_i hc;cases hv;rw[fL]at hi;subst hi;simp only[RV,RD]at hx;rcases hx with⟨h0,_⟩|⟨c,o,cap,vs,m,rfl,hl,hcap,hm,hlen,hF,hr,hd,_⟩
   .omega
   .refine⟨_,by simp only[kh,hu,hn];rw[if_pos ⟨hc.1,hc.2.1⟩],?_⟩
    grind[RV]
  trivial
 .rename_i s e off len cap tot k i;split at hv
  .rename_i m cs ex fr hg;split at hv
   .rename_i hc;cases hv;rw[fL]at hi;subst hi;obtain⟨rfl,_⟩:=tj I hx hg hc.1;refine⟨_,by simp only[kh,hu,hn];rw[if_pos hc.2],?_⟩
    grind[RV]
   trivial
  .rename_i cs hg;split at hv
   .rename_i hc;cases hv;rw[fL]at hi;subst hi
    have hw:x'=.slice (some ⟨φ.getD s 0,off,none⟩) len cap:=by
     simp only[RV]at hx;exact(hx.2.2 cs.length (by rw[hg];rfl)).2 hc.1
    subst hw;refine⟨_,by simp only[kh,hu,hn];rw[if_pos hc.2],?_⟩
    grind[RV]
   trivial
  trivial
 trivial
theorem aaD{P:Program}{t e:TypeId}{len n:Nat}(hu:P.underlying t=some (.array len e))(hn:szO P e=some n){x i v:V}{x' i':Value}(hv:ixP len n x i=some v)
  (hx:RV φ F H h x x') (hi:RV φ F H h i i'):∃w,kh P t x' i'=some w∧RV φ F H h v w:=by
 unfold ixP at hv;split at hv
 .split at hv
  .rename_i hc;cases hv;rw[fL]at hi;subst hi;obtain⟨b,q,rfl,hr⟩:=EK hx (Int.toNat _*n);exact⟨_,by simp_all[kh],hr⟩
  trivial
 .split at hv
  .rename_i hc;cases hv;rw[fL]at hi;subst hi;simp only[RV]at hx;obtain⟨c,q,vs,rfl,hF,hr,hd⟩:=hx;refine⟨_,by simp only[kh,hu,hn];rw[if_pos hc],?_⟩;simp only[RV];exact⟨c,q,vs,by rw[Xt],hF,hr,hd⟩
  trivial
 trivial
theorem aaC(hu:P.underlying t=some .string){i:V}(hv:ixS x i=some v)(hx:RV φ F H h x x')(hi:RV φ F H h i i'):
  ∃w,yG P t x' i'=some w∧RV φ F H h v w:=by
 unfold ixS at hv;split at hv
 .rename_i s k i;split at hv
  .rename_i h0;split at hv
   .rename_i b hb;cases hv;rw[fL]at hi;rw[ti]at hx;subst hi;subst hx;refine⟨.int .u8 b.toNat,?_,fL.2 rfl⟩;simp only[yG,hu,h0,if_true]
    have:(ByteArray.mk ⟨s⟩)[i.toNat]?=some b:=by
     rw[<-hb];by_cases hl:i.toNat<s.length
     .rw[getElem?_pos (ByteArray.mk ⟨s⟩) i.toNat hl,List.getElem?_eq_getElem hl];rfl
     .rw[getElem?_neg (ByteArray.mk ⟨s⟩) i.toNat hl,List.getElem?_eq_none aa]
    grind
   trivial
  trivial
 trivial
theorem aay{o:Nat}{vs:LvQ}(hr:cg H c o cs.length=some vs)(hd:RDs F H cs vs){i:Nat}{x:D}(hx:cs[i]?=some x):∃w,cg H c (o+i) 1=some [w]∧RD F H x w:=by
 obtain⟨w,hw,hrd⟩:=hd.get hx;refine⟨w,?_,hrd⟩;have:=bj hx;rw[yp hr aa]
 grind[Yz]
theorem L0{b:Nat}{y:Blk}(hy:H.get b=some y)(h1:y.st=1)(hw:y.cells[off]?=some w):cg H b off 1=some [w]:=by
 have hl:=bj hw;rw[kK hy h1 aa]
 grind[Yz]
theorem VE(I:Inv φ F G H h)(hv:ld1 h x=some v)(hx:RV φ F H h x x'):∃b off w,x'=.pointer (some ⟨b,off,none⟩)∧cg H b off 1=some [w]∧RV φ F H h v w:=by
 unfold ld1 at hv;split at hv
 .split at hv
  .rename_i cs hg;split at hv
   .rename_i ht;obtain⟨rfl,y,hy,h1,_,_,hr⟩:=Dh I hx hg ht
    grind[RVs.get,L0]
   trivial
  .rename_i hg;split at hv
   .rename_i ht;split at hv
    .rename_i x hx0;cases hv;obtain⟨rfl,y,hy,h1,hr,_⟩:=zu I hx hg ht;obtain⟨w,hw,hrw⟩:=hr.get hx0;exact⟨_,_,w,rfl,L0 hy h1 hw,by trivial⟩
    trivial
   trivial
  trivial
 .grind[RV,aay]
 trivial
theorem wT{α:Type}{l r:List α}(h:cut l off n=some r):off+n<=l.length∧r=(l.drop off).take n:=by grind[cut]
theorem VD(I:Inv φ F G H h)(hv:ldA h n x=some v)(hx:RV φ F H h x x'):
  ∃b off ws l,x'=.pointer (some ⟨b,off,none⟩)∧cg H b off n=some ws∧v=.agg l∧RVs φ F H h l ws:=by
 unfold ldA at hv;split at hv
 .split at hv
  .rename_i cs hg;split at hv
   .rename_i ht;split at hv
    .rename_i l hl;cases hv;obtain⟨hb,rfl⟩:=wT hl;obtain⟨rfl,y,hy,h1,_,_,hr⟩:=Dh I hx hg ht;exact⟨_,_,_,_,rfl,kK hy h1 (by grind[RVs.length]),rfl,(hr.drop _).take _⟩
    trivial
   trivial
  .rename_i hg;split at hv
   .rename_i ht;split at hv
    .rename_i l hl;cases hv;obtain⟨hb,rfl⟩:=wT hl;obtain⟨rfl,y,hy,h1,hr,_⟩:=zu I hx hg ht;exact⟨_,_,_,_,rfl,kK hy h1 (by grind[RDs.length]),rfl,RVs.ofD ((hr.drop _).take _)⟩
    trivial
   trivial
  trivial
 .split at hv
  .rename_i l hl;cases hv;obtain⟨hb,rfl⟩:=wT hl;simp only[RV]at hx;obtain⟨c,o,vs,rfl,hF,hr,hd⟩:=hx;exact⟨_,_,_,_,rfl,yp hr hb,rfl,RVs.ofD ((hd.drop _).take _)⟩
  trivial
 trivial
theorem HO(I:Inv φ F G H h)(hu:P.underlying t=some d)(hna:∀gs,d≠.struct gs)(hnb:∀n e,d≠.array n e)(hv:ld1 h x=some v)(hx:RV φ F H h x x'):
  ∃w,vp P H t x'=some w∧RV φ F H h v w:=by obtain⟨b,off,w,rfl,hr,hw⟩:=VE I hv hx;refine⟨w,?_,hw⟩;simp only[vp,hu];cases d<;>first|exact absurd rfl (hna _)|exact absurd rfl (hnb _ _)|simp only[hr]
theorem HN(I:Inv φ F G H h)(hu:(∃gs,P.underlying t=some (.struct gs))∨∃k e,P.underlying t=some (.array k e))(hn:szO P t=some n)(hv:ldA h n x=some v)(hx:RV φ F H h x x'):
  ∃w,vp P H t x'=some w∧RV φ F H h v w:=by obtain⟨b,off,ws,l,rfl,hr,rfl,hw⟩:=VD I hv hx;refine⟨.agg ws.toArray,?_,by grind[RV]⟩;rcases hu with⟨gs,hu⟩|⟨k,e,hu⟩<;>(simp only[vp,hu];rw[hn];show(do let cs <-cg H b off n;some (Value.agg cs.toArray))=_;rw[hr];rfl)
end
section
variable{φ:LnQ}{F G:Nat->Prop}{H:AH}{h:Hp}
theorem lX{d:Nat}{x:Option V}{x':Option Value}{i:Nat}(hb:boV d top x=some i)(hx:∀v,x=some v->∃w,x'=some w∧RV φ F H h v w)(hn:x=none->x'=none):de d top x'=some i:=by
 unfold boV at hb;split at hb
 .cases hb;rw[hn rfl];rfl
 .rename_i k n;obtain⟨w,rfl,hw⟩:=hx _ rfl;rw[fL]at hw;subst hw;exact hb
 trivial
theorem B4{d:Nat}{x:Option V}{i:Nat}(hb:boV d top x=some i)(hd:d<=top):i<=top:=by
 unfold boV at hb
 grind
structure BoR(φ:LnQ)(F:Nat->Prop)(H:AH)(h:Hp)(x:Option V)(x':Option Value):Prop where
 some:∀v,x=some v->∃w,x'=some w∧RV φ F H h v w
 none:x=none->x'=none
theorem ZI(hu:P.underlying t=some .string){lo hi:Option V}(hv:slS x lo hi=some v)(hx:RV φ F H h x x')(hl:BoR φ F H h lo lo')(hh:BoR φ F H h hi hi'):
  ∃w,lI P H t x' lo' hi' none=some w∧RV φ F H h v w:=by
 unfold slS at hv;split at hv
 .rename_i s;split at hv
  .rename_i j hj;split at hv
   .rename_i i hi0;cases hv;rw[ti]at hx;subst hx;have e1:=lX hj hh.some hh.none;have e2:=lX hi0 hl.some hl.none;have hij:i<=j:=B4 hi0 (Zc _);have hjs:j<=s.length:=B4 hj (Z8 _);refine⟨.string ((ByteArray.mk ⟨s⟩).extract i j),?_,?_⟩
    .simp only[lI,hu,Option.isSome_none,Zh,if_false]
     show(do let h <-de s.length s.length hi';let l <-de 0 h lo';some (Value.string ((ByteArray.mk ⟨s⟩).extract l h)))=_
     grind
    .rw[ti];congr 1;apply ByteArray.ext;simp
   trivial
  trivial
 trivial
theorem ZH{P:Program}(I:Inv φ F G H h){t e:TypeId}{n:Nat}(hu:P.underlying t=some (.slice e))(hn:szO P e=some n){x v:V}{lo hi:Option V}{x':Value}{lo' hi':Option Value}
  (hv:slV h n x lo hi=some v) (hx:RV φ F H h x x') (hl:BoR φ F H h lo lo') (hh:BoR φ F H h hi hi'):∃w,lI P H t x' lo' hi' none=some w∧RV φ F H h v w:=by
 have run:∀{b off len cap i j:Nat},len<=cap->(there H (some ⟨b,off,none⟩)&&x9 H n (some ⟨b,off,none⟩))=true->(de len cap hi'=some j)->de 0 j lo'=some i ->
   lI P H t (.slice (some ⟨b,off,none⟩) len cap) lo' hi' none=some (.slice (some ⟨b,off+i*n,none⟩) (j-i) (cap-i)):=by
  intro b off len cap i j hlc hf e1 e2;simp only[lI,hu];simp only[show de cap cap none=some cap from rfl,Option.isSome_none,Wo,Zh,if_false,Option.bind_eq_bind,Option.bind_some,e1,e2,hn];rw[if_pos]
  .rfl
  .trivial
 unfold slV at hv;split at hv
 .rename_i len cs;split at hv
  .rename_i j hj;split at hv
   .rename_i i hi0;split at hv
    .rename_i hc;cases hv;have hij:i<=j:=B4 hi0 (Zc _);have hjl:j<=len:=B4 hj (Z8 _);simp only[RV,RD]at hx;rcases hx with⟨h0,_⟩|⟨c,o,cap,vs,m,rfl,hl0,hcap,hm,hlen,hF,hr,hd,y,hy,hfit⟩
     .omega
     .have hmn:m=n:=X5 hl0 aa;subst hmn
      have e1:de len cap hi'=some j:=by
       have:=lX hj hh.some hh.none;unfold de at this ⊢;split at this
       .omega
       .split at this
        .rename_i hc2;rw[if_pos ⟨hc2.1,aa⟩];omega
        trivial
       .omega
      have hst:y.st=1:=by
       unfold cg at hr;rw[hy]at hr;simp only at hr;split at hr
       .omega
       .cases hr
      refine⟨_,run hcap (by simp_all[there,x9]) e1 (lX hi0 hl.some hl.none),?_⟩;simp only[RV,RD];by_cases hz:j-i=0
      .refine .inl ⟨hz,by simp[hz],.inr ⟨c,_,_,by rw[hz],y,hy,aa⟩⟩
      ·have hbd:i*m+(j-i)*m<=cs.length:=by
        rw[hlen,<-Nat.add_mul];exact Zs _ aa
       refine .inr ⟨c,_,_,_,m,rfl,aa,aa,hm,?_,hF,?_,(hd.drop _).take _,y,hy,hfit⟩
       .grind
       ·have el:((cs.drop (i*m)).take ((j-i)*m)).length=(j-i)*m:=by
         rw[Zr,Yq];omega
        grind[yp]
    trivial
   trivial
  trivial
 .rename_i s e' off len cap tot;split at hv
  .rename_i m cs ex fr hg;split at hv
   .rename_i j hj;split at hv
    .rename_i i hi0;split at hv
     .rename_i hc;cases hv;obtain⟨ht,hlc,rfl⟩:=hc;obtain⟨rfl,y,hy,hy1,hd,hex,hesz,_⟩:=tj I hx hg ht;have hfit:y.exact=true∨y.esz=m:=by cases ex<;>simp_all
      refine⟨_,run hlc ?_ (lX hj hh.some hh.none) (lX hi0 hl.some hl.none),?_⟩
      .simp only[there,x9,hy,hy1]
       grind
      grind[RV]
     trivial
    trivial
   trivial
  .rename_i cs hg;split at hv
   .rename_i j hj;split at hv
    .rename_i i hi0;split at hv
     .rename_i hc;cases hv;obtain⟨ht,hlc,rfl⟩:=hc
      have hw:x'=.slice (some ⟨φ.getD s 0,off,none⟩) len cap:=by
       simp only[RV]at hx;exact(hx.2.2 cs.length (by rw[hg];rfl)).2 ht
      subst hw;obtain⟨y,hy,hy1,hwr,hfit,hd⟩:=I.blk s e' _ (eA ac hg);refine⟨_,run hlc ?_ (lX hj hh.some hh.none) (lX hi0 hl.some hl.none),?_⟩
      .simp only[there,x9,hy,hy1]
       grind
      grind[RV]
     trivial
    trivial
   trivial
  trivial
 .split at hv
  .rename_i j hj;split at hv
   .rename_i i hi0;cases hv;simp only[RV,RD]at hx;obtain⟨rfl,hp1,hp2⟩:=hx;refine⟨.slice none 0 0,?_,by trivial⟩;have hij:i<=j:=B4 hi0 (Zc _);have hjl:j<=0:=B4 hj (Z8 _);have e1:=lX hj hh.some hh.none;have e2:=lX hi0 hl.some hl.none;have hj0:j=0:=aa;have hi00:i=0:=aa;subst hj0;subst hi00;simp only[lI,hu]
    simp only[show de 0 0 none=some 0 from rfl,Option.isSome_none,Wo,Zh,if_false,Option.bind_eq_bind,Option.bind_some,e1,e2,hn];rfl
   trivial
  trivial
 trivial
theorem XK(hv:ad7 x=some v)(hx:RV φ F H h x x'):x'=.slice none 0 0∧RV φ F H h v (.int .i64 0):=by grind[ad7,RV,RD]
theorem ZG{P:Program}(I:Inv φ F G H h){t e:TypeId}{n:Nat}(hu:P.underlying t=some (.slice e))(hn:szO P e=some n){x v mx:V}{lo hi:Option V}{x' mx':Value}{lo' hi':Option Value}
  (hv:slX h n x lo hi mx=some v) (hx:RV φ F H h x x') (hl:BoR φ F H h lo lo') (hh:BoR φ F H h hi hi') (hm:RV φ F H h mx mx'):∃w,lI P H t x' lo' hi' (some mx')=some w∧RV φ F H h v w:=by
 unfold slX at hv;split at hv
 .rename_i s e' off len cap tot;split at hv
  .rename_i m cs ex fr hg;split at hv
   .rename_i mm hmm;split at hv
    .rename_i j hj;split at hv
     .rename_i i hi0;split at hv
      .rename_i hc;cases hv;obtain⟨ht,hlc,rfl,hsm⟩:=hc;obtain⟨rfl,y,hy,hy1,hd,hex,hesz,_⟩:=tj I hx hg ht;have hfit:y.exact=true∨y.esz=m:=by cases ex<;>simp_all
       have e1:=lX hj hh.some hh.none;have e2:=lX hi0 hl.some hl.none;have e3:=lX (x:=some mx) (x':=some mx') hmm (λv hv=>by cases hv;exact⟨mx',rfl,hm⟩) (λe=>by cases e)
       have e4:hi'.isNone=false:=by
        cases hi' with
        |some _=>rfl
        | none=>cases hi with
         |none=>cases hsm
         |some z=>grind[BoR.some]
       refine⟨.slice (some ⟨φ.getD s 0,off+i*m,none⟩) (j-i) (mm-i),?_,?_⟩
       .simp only[lI,hu,e3,e4,Ws,Bool.false_and,Zh,if_false,Option.bind_eq_bind,Option.bind_some,e1,e2,hn]
        grind[SB,there]
       grind[RV]
      trivial
     trivial
    trivial
   trivial
  trivial
 trivial
theorem ZF{P:Program}{t e:TypeId}{n:Nat}(hu:P.underlying t=some (.slice e))(hn:szO P e=some n){x v:V}{x':Value}{k:IntKind}
  (hv:slZ n x=some v) (hx:RV φ F H h x x'):∃w,lI P H t x' none (some (.int k 0)) (some (.int k 0))=some w∧RV φ F H h v w:=by
 have run:∀{a:Option Addr}{len cap:Nat},len<=cap->(a.map (·.spot)).getD none=none->there H a=true ->
   lI P H t (.slice a len cap) none (some (.int k 0)) (some (.int k 0))=some (.slice (a.map λa=>SB a (0*n)) (0-0) (0-0)):=by
  intro a len cap hlc hs ht;simp only[lI,hu,de,Int.le_refl,true_and,Int.natCast_nonneg,if_true,Option.isNone_some,Bool.false_and,Zh,if_false,Option.bind_eq_bind,Option.bind_some,hn,Int.toNat_zero,Ws,Bool.true_or,Yf];rw[if_pos ⟨hlc,hs,ht⟩]
 unfold slZ at hv;split at hv
 .rename_i cs;cases hv;simp only[RV,RD]at hx;rcases hx with⟨_,rfl,e|⟨c,o,cap,rfl,y,hy,h0⟩⟩|⟨c,o,cap,vs,m,_,h0,_⟩
  .subst e;refine⟨_,run (Z8 _) rfl rfl,?_⟩;simp only[RV,RD];exact .inl ⟨trivial,trivial,.inl rfl⟩
  .refine⟨_,run (Zc _) rfl (by grind[there]),?_⟩;simp only[RV,RD];exact .inl ⟨trivial,trivial,.inr ⟨c,_,0,rfl,y,hy,h0⟩⟩
  .omega
 .rename_i len cs;split at hv
  .rename_i hlen;cases hv;simp only[RV,RD]at hx;rcases hx with⟨h0,_⟩|⟨c,o,cap,vs,m,rfl,hl0,hcap,hm,hlen',hF,hr,hd,y,hy,hfit⟩
   .omega
   .have hmn:m=n:=X5 hl0 (hlen'.symm.trans hlen);subst hmn
    have hst:y.st=1∧o+cs.length<=y.cells.length:=by
     unfold cg at hr;rw[hy]at hr;simp only at hr;split at hr
     .omega
     .cases hr
    refine⟨_,run hcap rfl (by grind[there]),?_⟩;simp only[RV];refine⟨c,o,y,by simp[SB],hF,hy,hst.1,?_,hfit⟩;have:0<cs.length:=by rw[hlen'];exact X0 hl0 hm
    omega
  trivial
 trivial
theorem ZJ{P:Program}(I:Inv φ F G H h){t e:TypeId}{len n:Nat}(hu:P.underlying t=some (.array len e))(hn:szO P e=some n){x v:V}{lo hi:Option V}{x':Value}{lo' hi':Option Value}
  (hv:slP len n h x lo hi=some v) (hx:RV φ F H h x x') (hl:BoR φ F H h lo lo') (hh:BoR φ F H h hi hi'):∃w,lI P H t x' lo' hi' none=some w∧RV φ F H h v w:=by
 unfold slP at hv;split at hv
 .rename_i s e' off tot;split at hv
  .rename_i m cs ex fr hg;split at hv
   .rename_i j hj;split at hv
    .rename_i i hi0;split at hv
     .rename_i hc;cases hv;obtain⟨rfl,ht,hb⟩:=hc;obtain⟨rfl,y,hy,_⟩:=zu I hx hg ht;refine⟨.slice (some ⟨φ.getD s 0,off+i*m,none⟩) (j-i) (len-i),?_,?_⟩
      .simp only[lI,hu,de,Option.isSome_none,Wo,Zh,if_false,Option.bind_eq_bind,Option.bind_some];have e1:=lX hj hh.some hh.none;have e2:=lX hi0 hl.some hl.none
       show((de len len hi').bind λh=>(de 0 h lo').bind λl=>(szO P e).bind λn=>_)=_
       grind
      grind[RV]
     trivial
    trivial
   trivial
  trivial
 trivial
theorem Vy(hv:nH x=some v)(hx:RV φ F H h x x'):∃s:ByteArray,x'=.string s∧RV φ F H h v (.int .i64 s.size):=by
 unfold nH at hv;split at hv
 .cases hv;rw[ti]at hx;exact⟨_,hx,fL.2 rfl⟩
 trivial
theorem Vx(hv:aX x=some v)(hx:RV φ F H h x x'):∃a n c,x'=.slice a n c∧RV φ F H h v (.int .i64 n):=by
 unfold aX at hv;split at hv
 .cases hv;simp only[RV,RD]at hx;rcases hx with⟨rfl,rfl,e|⟨c,o,cap,rfl,_⟩⟩|⟨c,o,cap,vs,m,rfl,_⟩
  .grind[fL]
  .simp[fL]
  grind[fL]
 .grind[RV,RD]
 .grind[RV,fL]
 .grind[RV,fL]
 trivial
theorem aaU{i:Nat}{vs:List V}(hx0:x=.tup vs)(hv:vs[i]?=some v)(hx:RV φ F H h x x'):∃ws w,x'=.tuple ws∧ws[i]?=some w∧RV φ F H h v w:=by grind[RV,RVs.get]
theorem adM{P:Program}{t:TypeId}{gs:Array Field}{fs:List (Nat×Nat)}(hu:P.underlying t=some (.struct gs))(hg:gs.toList.map (λf=>(f.offset,szO P f.type))=fs.map λp=>(p.1,some p.2))
  {f off sz:Nat} (hf:fs[f]?=some (off,sz)) {one:Bool}
  (hone:∀fd,gs[f]?=some fd->match P.underlying fd.type with|some (.struct _)|some (.array _ _)=>one=false|some _=>one=true|none=>False)
  {x v:V} {x':Value} (hv:fiV off sz one x=some v) (hx:RV φ F H h x x'):∃w,FM P t x' f=some w∧RV φ F H h v w:=by
 obtain⟨fd,hfd,rfl,hsz⟩:=FL hg hf;have hone:=hone fd hfd;unfold fiV at hv;split at hv
 .rename_i vs;simp only[RV]at hx;obtain⟨ws,rfl,hr⟩:=hx;simp only[FM,hu,hfd,HC];split at hv
  .rename_i h1;subst h1;obtain⟨w,hw,hrw⟩:=hr.get hv;split at hone
   .cases hone
   .cases hone
   .rename_i d h1 h2 hd;refine⟨w,?_,hrw⟩;rw[hd];cases d<;>first|exact hw|exact absurd rfl (h1 _)|grind|exact absurd hd (h1 _)|exact absurd hd (h2 _ _)
   trivial
  .rename_i h1;split at hv
   .rename_i l hl;cases hv;obtain⟨hb,rfl⟩:=wT hl
    have fin:∃w,(do let n <-szO P fd.type;some (Value.agg ((ws.drop fd.offset).take n).toArray))=some w∧RV φ F H h (.agg ((vs.drop fd.offset).take sz)) w:=
     ⟨_,by rw[hsz];rfl,by grind[RV,RVs.take,RVs.drop]⟩
    grind
   trivial
 trivial
theorem aaE{P:Program}{t len e sz:Nat}(hu:P.underlying t=some (.array len e))(hsz:szO P e=some sz){one:Bool}
  (hone:match P.underlying e with|some (.struct _)|some (.array _ _)=>one=false|some _=>one=true|none=>False)
  {x i v:V} {x' i':Value} (hv:ixA len sz one x i=some v) (hx:RV φ F H h x x') (hi:RV φ F H h i i'):∃w,yG P t x' i'=some w∧RV φ F H h v w:=by
 unfold ixA at hv;split at hv
 .rename_i vs kd z;split at hv
  .rename_i hz;rw[fL]at hi;subst hi;simp only[RV]at hx;obtain⟨ws,rfl,hr⟩:=hx;simp only[yG,hu,hsz,if_pos hz,HC];unfold fiV at hv;simp only at hv;split at hv
   .rename_i h1;subst h1;obtain⟨w,hw,hrw⟩:=hr.get hv;split at hone
    .cases hone
    .cases hone
    .rename_i d h1 h2 hd;refine⟨w,?_,hrw⟩;rw[hd];cases d<;>first|exact hw|exact absurd rfl (h1 _)|grind|exact absurd hd (h1 _)|exact absurd hd (h2 _ _)
    trivial
   .rename_i h1;split at hv
    .rename_i l hl;cases hv;obtain⟨hb,rfl⟩:=wT hl
     have fin:∃w,(do let n <-szO P e;some (Value.agg ((ws.drop (z.toNat*sz)).take n).toArray))=some w∧RV φ F H h (.agg ((vs.drop (z.toNat*sz)).take sz)) w:=
      ⟨_,by rw[hsz];rfl,by grind[RV,RVs.take,RVs.drop]⟩
     grind
    trivial
  .cases hv
 trivial
theorem yR{vs:List V}(hc:wW v=some vs)(hv:RV φ F H h v w):RVs φ F H h vs w.cells.toList:=by
 have one:∀u:V,RV φ F H h u w->(∀cs,w≠.agg cs)->RVs φ F H h [u] w.cells.toList:=by
  intro u hu hw;have:w.cells.toList=[w]:=by cases w<;>first|rfl|grind
  rw[this];simp only[RVs];exact⟨w,[],rfl,hu,rfl⟩
 unfold wW at hc;split at hc
 .cases hc;simp only[RV]at hv;obtain⟨ws,rfl,hr⟩:=hv;exact hr
 .cases hc
 .cases hc
 .cases hc
 .cases hc
 .cases hc;cases v with
  | d x=>
   refine one _ hv ?_;rintro cs rfl;simp only[RV]at hv;cases x<;>simp only[RD]at hv
   case pl w=>obtain⟨rfl,_,h2⟩:=hv;cases h2
   case sl=>rcases hv with⟨_,_,e|⟨c,o,cap,e,_⟩⟩|⟨c,o,cap,vs,n,e,_⟩<;>cases e
   all_goals cases hv
  | dptr cs pos=>
   grind[RV]
  | cut n=>
   grind[RV]
  | fn g a b=>
   grind[RV]
  |agg l=>grind
  |junk=>trivial
  |tup l=>grind
  |ifc t x=>grind
  |new=>trivial
  | ref s e off len cap tot=>
   grind[RV]
  | ptr s e off tot=>
   grind[RV]
end
section
variable{φ:LnQ}{F G:Nat->Prop}{H:AH}{h:Hp}
theorem Lu{x:D}(hx:RD F H x w):RD F H (norm x) w:=by
 unfold norm;split
 .simp only[RD]at hx ⊢;exact .inl ⟨trivial,trivial,.inl hx.1⟩
 omega
def tK(G:Nat->Prop)(φ:LnQ)(F:Nat->Prop)(H:AH)(h h':Hp)(F':Nat->Prop):Prop:=Inv φ F' G H h'∧Stp G φ F H h φ F' H h'
theorem tK.trans{F' F'':Nat->Prop}{h' h'':Hp}(a:tK G φ F H h h' F')(b:tK G φ F' H h' h'' F''):tK G φ F H h h'' F'':=⟨b.1,a.2.trans b.2⟩
theorem JJ:∀{l:List V}{cs:List D},Mo l=some cs->l=cs.map V.d
 |[],cs,h=>by cases h;rfl
 | .d x::l,cs,h=>by
  simp only[Mo]at h;split at h
  .rename_i xs hx;cases h;rw[Zv,JJ hx]
  .cases h
 |.junk::_,_,h|.ref .. :: _,_,h|.ptr .. :: _,_,h|.dptr .. :: _,_,h|.cut .. :: _,_,h|.agg .. :: _,_,h|.tup .. :: _,_,h|.fn .. :: _,_,h|.ifc .. :: _,_,h|.new .. :: _,_,h=>by simp[Mo]at h
theorem Dc(I:Inv φ F G H h){x:D}(ht:toD h v=some (x,h'))(hv:RV φ F H h v w):∃F',tK G φ F H h h' F'∧RD F' H x w:=by
 unfold toD at ht;split at ht
 .cases ht;simp only[RV]at hv;exact⟨F,⟨I,Stp.refl ..⟩,Lu hv⟩
 .rename_i s e off len cap tot;split at ht
  .rename_i n cs ex fr hg;split at ht
   .rename_i hc;cases ht;obtain⟨rfl,y,hy,hy1,hd,hex,hesz,hn,hff,hwr⟩:=tj I hv hg hc.1;obtain⟨F',hF,hI,hS⟩:=I.freeze (eA ac hg);refine⟨F',⟨hI,hS⟩,?_⟩;simp only[RD];by_cases h0:len=0
    .exact .inl ⟨h0,by simp[h0],.inr ⟨_,_,_,by rw[h0],y,hy,aa⟩⟩
    ·have el:((cs.drop off).take (len*n)).length=len*n:=by
      rw[Zr,Yq];omega
     refine .inr ⟨_,_,_,(y.cells.drop off).take (len*n),n,rfl,aa,hc.2.1,hn,el,hF,?_,?_,y,hy,?_⟩
     .grind[kK,RDs.length]
     .exact RDs.mono hS.leF _ _ ((hd.drop off).take _)
     .cases ex<;>simp_all
   trivial
  .rename_i l hg;split at ht
   .rename_i cs hcs;split at ht
    .rename_i hc;cases ht;have hl:=JJ hcs;subst hl;have hs:=eA ac hg
     have hw:w=.slice (some ⟨φ.getD s 0,off,none⟩) len cap:=by
      simp only[RV]at hv;exact(hv.2.2 _ (by rw[hg];rfl)).2 (by simpa using hc.1)
     subst hw;obtain⟨y,hy,hy1,hwr,hxe,hd⟩:=I.blk s e _ hs;obtain⟨F',hF,hI,hS⟩:=I.giveUp hs;have hd:=zp hd;refine⟨F',⟨hI,hS⟩,?_⟩;simp only[RD];by_cases h0:len=0
     .exact .inl ⟨h0,by simp[h0],.inr ⟨_,_,_,by rw[h0],y,hy,aa⟩⟩
     ·have el:((cs.drop off).take (len*1)).length=len*1:=by
       rw[Zr,Yq];omega
      refine .inr ⟨_,_,_,(y.cells.drop off).take (len*1),1,rfl,aa,hc.2.1,aa,el,hF,?_,?_,y,hy,hxe⟩
      .grind[kK,RDs.length]
      .exact RDs.mono hS.leF _ _ ((hd.drop off).take _)
    trivial
   trivial
  trivial
 trivial
theorem tS:∀{vs:List V}{F:Nat->Prop}{h h':Hp}{ws:LvQ}{xs:List D},Inv φ F G H h->jG h vs=some (xs,h')->RVs φ F H h vs ws->∃F',tK G φ F H h h' F'∧RDs F' H xs ws
 | [],F,h,h',ws,xs,I,ht,hv=>by
  cases ht;simp only[RVs]at hv;subst hv;exact⟨F,⟨I,Stp.refl ..⟩,by rfl⟩
 | v::vs,F,h,h',ws,xs,I,ht,hv=>by
  simp only[RVs]at hv;obtain⟨w,us,rfl,h1,h2⟩:=hv;unfold jG at ht;split at ht
  .rename_i x h1' hx;split at ht
   .rename_i ys h2' hys;cases ht;obtain⟨F1,S1,r1⟩:=Dc I hx h1;obtain⟨F2,S2,r2⟩:=tS S1.1 hys (RVs.mono S1.2.leF S1.2.sl _ _ h2);refine⟨F2,S1.trans S2,?_⟩;simp only[RDs];exact⟨w,us,rfl,RD.mono S2.2.leF _ _ r1,r2⟩
   trivial
  trivial
theorem SY(I:Inv φ F G H h){x:D}(ht:M9 h v=some (x,h'))(hv:RV φ F H h v w):∃F',tK G φ F H h h' F'∧RD F' H x w:=by
 unfold M9 at ht;split at ht
 .rename_i s e off len cap tot;split at ht
  .rename_i l hg;split at ht
   .rename_i cs h1 hcs;split at ht
    .rename_i l1 hg1;split at ht
     .rename_i hc;cases ht;have hs:=eA ac hg;obtain⟨x,hx,x1,x2,x3,x4⟩:=I.blk s e _ hs;have hl0:=x4.length;obtain⟨F1,⟨I1,S1⟩,r1⟩:=tS I hcs x4;have hs1:=eA ac hg1;have hl1:=r1.length;obtain⟨I2,S2⟩:=I1.swap (b':=.vars (cs.map .d)) hs1 trivial (m:=l1.length) rfl (by simp only[sv,List.length_map];congr 1;omega) ⟨x,hx,x1,x2,x3,RVs.ofD r1⟩
      have hs2:(bK h1 s e (.vars (cs.map .d)))[s]?=some (e,.vars (cs.map .d)):=by rw[pE (bj hs1),if_pos rfl]
      obtain⟨F',hF,hI,hS⟩:=I2.giveUp hs2;have eh:bK (bK h1 s e (.vars (cs.map .d))) s e (.data 1 cs false true)=bK h1 s e (.data 1 cs false true):=by simp[bK]
      rw[eh]at hI hS;refine⟨F',⟨hI,(S1.trans S2).trans hS⟩,?_⟩
      have hw:w=.slice (some ⟨φ.getD s 0,off,none⟩) len cap:=by
       simp only[RV]at hv;exact(hv.2.2 _ (by rw[hg];rfl)).2 aa
      subst hw;have rd:=RDs.mono (S2.trans hS).leF _ _ r1;simp only[RD];by_cases h0:len=0
      .exact .inl ⟨h0,by simp[h0],.inr ⟨_,_,_,by rw[h0],x,hx,aa⟩⟩
      ·have el:((cs.drop off).take (len*1)).length=len*1:=by
        rw[Zr,Yq];omega
       refine .inr ⟨_,_,_,(x.cells.drop off).take (len*1),1,rfl,aa,hc.2.2.1,aa,el,hF,?_,?_,x,hx,x3⟩
       .rw[el];exact kK hx x1 aa
       .exact(rd.drop off).take _
     .cases ht
    .cases ht
   .cases ht
  .cases ht
 .cases ht
mutual
theorem En:∀{v:V}{F:Nat->Prop}{h h':Hp}{w:Value}{x:V},Inv φ F G H h->bH h v=some (x,h')->RV φ F H h v w->∃F',tK G φ F H h h' F'∧∀φ0 h0,RV φ0 F' H h0 x w
 | .d x,F,h,h',w,y,I,ht,hv=>by
  simp only[bH,Z9,Z5]at ht;obtain⟨rfl,rfl⟩:=ht;simp only[RV]at hv;exact⟨F,⟨I,Stp.refl ..⟩,λ_ _=>by grind[RV,Lu]⟩
 | .ref s e off len cap tot,F,h,h',w,y,I,ht,hv=>by
  grind[bH,Dc,SY,RV]
 | .agg l,F,h,h',w,y,I,ht,hv=>by
  simp only[RV]at hv;obtain⟨ws,rfl,hr⟩:=hv;unfold bH at ht;split at ht
  .rename_i l' h1 hx;cases ht;obtain⟨F',S,r⟩:=pS I hx hr
   grind[RV]
  trivial
 | .tup l,F,h,h',w,y,I,ht,hv=>by
  simp only[RV]at hv;obtain⟨ws,rfl,hr⟩:=hv;unfold bH at ht;split at ht
  .rename_i l' h1 hx;cases ht;obtain⟨F',S,r⟩:=pS I hx hr
   grind[RV]
  trivial
 | .fn g fs cs,F,h,h',w,y,I,ht,hv=>by
  simp only[RV]at hv;obtain⟨a,b,rfl,hr,hq⟩:=hv;unfold bH at ht;split at ht
  .rename_i l' h1 hx;split at ht
   .rename_i l2 h2 hx2;cases ht;obtain⟨F1,S1,r1⟩:=pS I hx hr;obtain⟨F2,S2,r2⟩:=pS S1.1 hx2 (RVs.mono S1.2.leF S1.2.sl _ _ hq);exact⟨F2,S1.trans S2,λφ0 h0=>by simp only[RV];exact⟨a,b,rfl,RVs.mono S2.2.leF (mP.refl φ0 h0) _ _ (r1 φ0 h0),r2 _ _⟩⟩
   trivial
  trivial
 | .ifc t x,F,h,h',w,y,I,ht,hv=>by
  simp only[RV]at hv;obtain⟨u,rfl,hr⟩:=hv;unfold bH at ht;split at ht
  .rename_i l' h1 hx;cases ht;obtain⟨F',S,r⟩:=En I hx hr
   grind[RV]
  trivial
 |.junk,F,h,h',w,y,I,ht,hv=>by trivial
 | .ptr s e off tot,F,h,h',w,y,I,ht,hv=>by
  unfold bH at ht;split at ht
  .rename_i l hg;split at ht
   .rename_i cs hcs;split at ht
    .rename_i htot;cases ht;have hl:=JJ hcs;subst hl;have hs:=eA ac hg;simp only[RV]at hv;have hw:=(hv.2.2 _ (by rw[hg];rfl)).2 htot;obtain⟨x,hx,hx1,hwr,hxe,hd⟩:=I.blk s e _ hs;obtain⟨F',hF,hI,hS⟩:=I.giveUp hs;have hd2:=zp hd;refine⟨F',⟨hI,hS⟩,λφ0 h0=>?_⟩;simp only[RV];refine⟨_,0,x.cells,by rw[hw,Zk],hF,?_,RDs.mono hS.leF _ _ hd2⟩
     grind[kK,RDs.length]
    trivial
   trivial
  .rename_i n cs ex fr hg;split at ht
   .rename_i htot;cases ht;obtain⟨rfl,x,hx,hx1,hd,_⟩:=zu I hv hg htot;obtain⟨F',hF,hI,hS⟩:=I.freeze (eA ac hg);refine⟨F',⟨hI,hS⟩,λφ0 h0=>?_⟩;simp only[RV];refine⟨_,0,x.cells,by rw[Zk],hF,?_,RDs.mono hS.leF _ _ hd⟩
    grind[kK,RDs.length]
   trivial
  trivial
 | .dptr cs pos,F,h,h',w,y,I,ht,hv=>by
  simp only[bH,Z9,Z5]at ht;obtain⟨rfl,rfl⟩:=ht;exact⟨F,⟨I,Stp.refl ..⟩,λ_ _=>by trivial⟩
 |.cut _,F,h,h',w,y,I,ht,hv=>by trivial
 |.new ..,F,h,h',w,y,I,ht,hv=>by trivial
theorem pS:∀{vs:List V}{F:Nat->Prop}{h h':Hp}{ws:LvQ}{xs:List V},Inv φ F G H h->aH h vs=some (xs,h')->RVs φ F H h vs ws->∃F',tK G φ F H h h' F'∧∀φ0 h0,RVs φ0 F' H h0 xs ws
 | [],F,h,h',ws,xs,I,ht,hv=>by
  simp only[aH,Z9,Z5]at ht;obtain⟨rfl,rfl⟩:=ht;simp only[RVs]at hv;subst hv;exact⟨F,⟨I,Stp.refl ..⟩,λ_ _=>by rfl⟩
 | v::vs,F,h,h',ws,xs,I,ht,hv=>by
  simp only[RVs]at hv;obtain⟨w,us,rfl,h1,h2⟩:=hv;unfold aH at ht;split at ht
  .rename_i x h1' hx;split at ht
   .rename_i ys h2' hys;cases ht;obtain⟨F1,S1,r1⟩:=En I hx h1;obtain⟨F2,S2,r2⟩:=pS S1.1 hys (RVs.mono S1.2.leF S1.2.sl _ _ h2);refine⟨F2,S1.trans S2,λφ0 h0=>?_⟩;simp only[RVs];exact⟨w,us,rfl,RV.mono S2.2.leF (mP.refl φ0 h0) _ _ (r1 φ0 h0),r2 _ _⟩
   trivial
  trivial
end
theorem eT:∀{x:V}{w:Value},cS x=true->RV φ F H h x w->∀φ0 F0 H0 h0,RV φ0 F0 H0 h0 x w:=by
 intro x
 induction x using V.rec (motive_2:=λxs=>∀{ws:LvQ},oM xs=true->RVs φ F H h xs ws->∀φ0 F0 H0 h0,RVs φ0 F0 H0 h0 xs ws)with
 |junk=>simp[cS]
 | d x=>
  intro w hp hx φ0 F0 H0 h0;simp only[RV]at hx ⊢;cases x<;>simp only[RD]at hx ⊢
  case sl=>trivial
  all_goals exact hx
 |ref=>simp[cS]
 |ptr=>simp[cS]
 |dptr=>simp[cS]
 |cut=>simp[cS]
 | agg l ih=>
  grind[RV,cS]
 | tup l ih=>
  grind[RV,cS]
 |fn=>simp[cS]
 | ifc t x ih=>
  grind[RV,cS]
 |new=>simp[cS]
 |nil=>trivial
 | cons x xs ih ihs=>
  grind[RVs,oM]
end
def Rid(φ:LnQ)(F G:Nat->Prop)(H:AH)(h:Hp):Option Nat->Prop
 |none=>True
 |some r=>r<H.n∧¬F r∧¬G r∧(∀i e b,h[i]?=some (e,b)->Own b->φ.getD i 0≠r)∧mY H r
section
variable{φ:LnQ}{F G:Nat->Prop}{H:AH}{h:Hp}
theorem jC.push(I:Inv φ F G H h){x:Blk}(h1:x.st=1)(h2:x.fam=H.n):jC φ F G h H (H.push x) H.n x where
 n:=ac
 get:=AH.get_push_new H x
 st:=h1
 fam:=h2
 old c hc _:=AH.get_push_old hc
 nw c hc hne:=by rw[AH.get_push hne,AH.get_neg aa]
 notF hF:=absurd (I.lt _ (.inl hF)) (Nat.lt_irrefl _)
 notG hG:=absurd (I.lt _ (.inr hG)) (Nat.lt_irrefl _)
 notS i e b hi ho:=by
  obtain⟨y,hy,_⟩:=I.own_get hi ho;have:=AH.get_lt hy;omega
 nokin c y hy _ _:=by
  have:=I.wf.fam c y hy;have:=AH.get_lt hy;omega
 un y hy:=by grind[AH.get_neg]
 wf:=I.wf.push aa
theorem jC.at(I:Inv φ F G H h)(R:Rid φ F G H h (some r)){x y:Blk}(hy:H.get r=some y)(h0:y.st=0)(h1:x.st=1)(h2:x.fam=r):jC φ F G h H (H.set r x) r x where
 n:=ac
 get:=by rw[AH.get_set hy,if_pos rfl]
 st:=h1
 fam:=h2
 old c _ hne:=by rw[AH.get_set hy,if_neg hne]
 nw c hc hne:=by rw[AH.get_set hy,if_neg hne,AH.get_neg aa]
 notF:=R.2.1
 notG:=R.2.2.1
 notS:=R.2.2.2.1
 nokin:=R.2.2.2.2
 un z hz:=by grind
 wf:=I.wf.set hy aa
theorem jC.laid(I:Inv φ F G H h)(R:Rid φ F G H h (some r)){x:Blk}(hx:H.get r=some x)(h1:x.st=1)(h2:x.fam=r):jC φ F G h H H r x where
 n:=Z8 _
 get:=hx
 st:=h1
 fam:=h2
 old _ _ _:=rfl
 nw c hc _:=AH.get_neg aa
 notF:=R.2.1
 notG:=R.2.2.1
 notS:=R.2.2.2.1
 nokin:=R.2.2.2.2
 un z hz:=by grind
 wf:=I.wf
theorem aaq(I:Inv φ F G H h){rid:Option Nat}(R:Rid φ F G H h rid)(cells:LvQ)(hun:∀r,rid=some r->∃x,H.get r=some x∧x.st=0∧x.ver=0):
  ∃r H',mkB H rid cells=some (r,H')∧jC φ F G h H H' r (fresh r cells):=by
 cases rid with
 |none=>exact⟨H.n,H.push (fresh H.n cells),rfl,jC.push I rfl rfl⟩
 | some r=>
  obtain⟨x,hx,h0,hv⟩:=hun r rfl;exact⟨r,H.set r (fresh r cells),by grind[mkB],jC.at I R hx h0 rfl rfl⟩
structure Unb(G:Nat->Prop)(H:AH)(r:Nat):Prop where
 un:∃x,H.get r=some x∧x.st=0∧x.ver=0
 ng:¬G r
 nk:mY H r
def GY(G:Nat->Prop)(H:AH)(rid:Option Nat):Prop:=∀r,rid=some r->Unb G H r
theorem GY.rid(I:Inv φ F G H h){rid:Option Nat}(U:GY G H rid):Rid φ F G H h rid:=by
 cases rid with
 |none=>trivial
 | some r=>
  obtain⟨⟨x,hx,h0,_⟩,ng,nk⟩:=U r rfl;refine⟨AH.get_lt hx,λhF=>?_,ng,λi e b hi ho=>?_,nk⟩
  .obtain⟨y,hy,h1⟩:=I.fb r hF
   grind
  grind[Inv.own_get]
theorem Jg(I:Inv φ F G H h){rid:Option Nat}(U:GY G H rid)(cells:LvQ):∃r H',mkB H rid cells=some (r,H')∧jC φ F G h H H' r (fresh r cells):=
 aaq I (U.rid I) cells λr hr=>(U r hr).un
def bV(U:Prop)(φ:LnQ)(F G:Nat->Prop)(H:AH)(h:Hp)(k:V->Hp->Prop)(r:Option (Value×AH)):Prop:=
 ∃v h' φ' F' w H',r=some (w,H')∧k v h'∧Inv φ' F' G H' h'∧Stp G φ F H h φ' F' H' h'∧RV φ' F' H' h' v w∧(U->∀c,c<H.n->H'.get c=H.get c)
theorem bV.pure(I:Inv φ F G H h)(hk:k v h)(hv:RV φ F H h v w){U:Prop}:bV U φ F G H h k (some (w,H)):=
 ⟨v,h,φ,F,w,H,rfl,hk,I,Stp.refl ..,hv,λ_ _ _=>rfl⟩
theorem bV.bnd(I:Inv φ F G H h){k:V->Hp->Prop}{o:Option V}{r:Option (Value×AH)}(hb:bnd o λv=>k v h)(hr:∀v,o=some v->∃w,r=some (w,H)∧RV φ F H h v w){U:Prop}:bV U φ F G H h k r:=by
 unfold Vm.bnd at hb
 grind[pure]
theorem kP{b:Bk}{k:Nat->Hp->Prop}(hn:new h s b k):∃e b0,h[s]?=some (e,b0)∧k (e+1) (h.set s (e+1,b)):=by grind[new]
theorem pu{b0 b:Bk}(hs:h[s]?=some (e,b0)):ax (h.set s (e+1,b)) s (e+1)=b∧ep (h.set s (e+1,b)) s=e+1:=by grind[ax,ep]
theorem Lz(I:Inv φ F G H h){cs:List V}(hn:alV s cs h k)(hr:RVs φ F H h cs ws){H':AH}{x:Blk}(N:jC φ F G h H H' r x)(hw:x.wr=true)(hx:x.cells=ws)(hxe:x.exact=true):
  bV False φ F G H h k (some (.pointer (some ⟨r,0,none⟩),H')):=by
 obtain⟨e,b0,hs,hk⟩:=kP hn;obtain⟨I',S'⟩:=I.new hs N (b:=.vars cs) λhl hsl=>⟨_,N.get,N.st,hw,.inl hxe,by grind[RVs.mono]⟩
 refine⟨_,_,_,_,_,_,rfl,hk,I',S',?_,False.elim⟩;obtain⟨g1,g2⟩:=pu (b:=.vars cs) hs;simp only[RV];refine⟨⟨_,_,rfl⟩,aa,λm hm=>?_⟩;rw[g1]at hm;cases hm
 grind[Inv.len]
theorem Do(I:Inv φ F G H h){s e0 n:Nat}{b0:Bk}(hs:h[s]?=some (e0,b0)){cs:List D}{ex:Bool}{ws:LvQ}(hr:RDs F H cs ws){r:Nat}{H':AH}{x:Blk}(N:jC φ F G h H H' r x)(hw:x.wr=true)(hx:x.cells=ws)
  (hex:x.exact=ex) (hez:ex=false->x.esz=n) (hn:0<n) :
  Inv (φ.set s r) F G H' (h.set s (e0+1,.data n cs ex false))∧Stp G φ F H h (φ.set s r) F H' (h.set s (e0+1,.data n cs ex false)) ∧
  (∀off tot,tot=cs.length->RV (φ.set s r) F H' (h.set s (e0+1,.data n cs ex false)) (.ptr s (e0+1) off tot) (.pointer (some ⟨r,off,none⟩))) ∧
  (∀off len cap tot,tot=cs.length->RV (φ.set s r) F H' (h.set s (e0+1,.data n cs ex false)) (.ref s (e0+1) off len cap tot) (.slice (some ⟨r,off,none⟩) len cap)):=by
 obtain⟨I',S'⟩:=I.new hs N (b:=.data n cs ex false) λhl hsl=>⟨_,N.get,N.st,by grind[RDs.mono],λ_=>hex,λe=>.inr (hez e),hn,λe=>absurd e ac,λ_=>hw⟩
 obtain⟨g1,g2⟩:=pu (b:=.data n cs ex false) hs;have gd:(φ.set s r).getD s 0=r:=by rw[dh (by grind[Inv.len]),if_pos rfl]
 refine⟨I',S',λoff tot ht=>?_,λoff len cap tot ht=>?_⟩
 all_goals
  simp only[RV];refine⟨⟨_,_,rfl⟩,by rw[g2];exact Z8 _,λm hm=>?_⟩;rw[g1]at hm;cases hm;exact⟨aa,λ_=>by rw[gd]⟩
theorem DY(w:WF H){b:Nat}{vs:LvQ}{x:Blk}(hx:H.get b=some x)(h1:x.st=1)(hw:x.wr=true)(hb:off+vs.length<=x.cells.length)(hok:vs.all okCell=true):
  ∃H' x2,kE H b off vs=some H'∧Tch H H' x b x2∧x2.cells=splice x.cells off vs∧x2.wr=true∧x2.exact=x.exact∧x2.esz=x.esz:=by
 let x2:Blk:={x with cells:=splice x.cells off vs,ver:=x.ver+1,shared:=false}
 let H1:AH:=if x.shared then H.kill (kin b x.fam)else H
 have hk:∀c y,H.get c=some y->H1.get c=some (if x.shared&&kin b x.fam c y then{y with st:=2,ver:=y.ver+1}else y):=by
  intro c y hy
  show(if x.shared then H.kill (kin b x.fam)else H).get c=_
  cases hs:x.shared with
  |true=>grind[AH.get_kill]
  |false=>trivial
 have hkb:H1.get b=some x:=by
  rw[hk b x hx];simp[kin]
 have hn:H1.n=H.n:=by
  show(if x.shared then H.kill (kin b x.fam)else H).n=_
  split<;>rfl
 have hw1:WF H1:=by
  show WF (if x.shared then H.kill (kin b x.fam)else H)
  split
  .exact w.kill _
  .exact w
 refine⟨H1.set b x2,x2,?_,⟨by simp[hn],?_,?_,by rw[AH.get_set hkb,if_pos rfl],h1,rfl,hw1.set hkb (w.fam b x hx)⟩,rfl,hw,rfl,rfl⟩
 .grind[kE]
 .intro c y hy;by_cases hc:c=b
  .subst hc;rw[hx]at hy;cases hy;exact⟨x2,by rw[AH.get_set hkb,if_pos rfl],.inr ⟨rfl,h1,by grind,rfl⟩⟩
  .rw[AH.get_set hkb,if_neg hc,hk c y hy];refine⟨_,rfl,?_⟩;split
   .rename_i hkk;simp only[kin,Z7,bne_iff_ne,beq_iff_eq]at hkk;exact .inr ⟨hkk.2.1.1.2,hkk.2.2,ac,rfl⟩
   simp
 .intro c y hc hy;have:=AH.get_lt hy;simp[hn]at this;omega
theorem Hk(l:LvQ)(off:Nat)(vs:LvQ):splice l off vs=l.take off++vs++l.drop (off+vs.length):=rfl
theorem Iu(I:Inv φ F G H h)(hg:ax h s e=.data n cs ex false)(hr:RDs F H xs ws)(hb:off+xs.length<=cs.length):
  ∃ H',kE H (φ.getD s 0) off ws=some H'∧Inv φ F G H' (bK h s e (.data n (cs.take off++xs++cs.drop (off+xs.length)) ex false)) ∧
   Stp G φ F H h φ F H' (bK h s e (.data n (cs.take off++xs++cs.drop (off+xs.length)) ex false)):=by
 have hs:=eA ac hg;obtain⟨x,hx,hx1,hd,hex,hez,hn,_,hwr⟩:=I.blk s e _ hs;have hlx:=hd.length;have hlw:=hr.length;obtain⟨H',x2,hw,T,hc2,hw2,he2,hz2⟩:=DY I.wf hx hx1 (hwr rfl) (off:=off) (vs:=ws) aa hr.okCells
 have hlen:(cs.take off++xs++cs.drop (off+xs.length)).length=cs.length:=by
  simp only[List.length_append,Zr,Yq];omega
 have key:=I.touch hs rfl hx hx1 T (.inl rfl) (b':=.data n (cs.take off++xs++cs.drop (off+xs.length)) ex false) (m:=cs.length) (m':=cs.length) rfl (by grind[sv]) (Z8 _) (λ_=>rfl)
  λhl hsl=>⟨x2,T.get,T.st,by
   grind[Hk,RDs.mono,RDs.append,RDs.take,RDs.drop],by grind,λe=>by grind,hn,λe=>absurd e ac,λ_=>hw2⟩
 grind[set_self,Inv.len]
theorem aai(ho:okV v=true)(hv:RV φ F H h v w):okCell w=true:=by
 cases v<;>simp only[okV]at ho
 case d x=>
  simp only[RV]at hv;cases x<;>simp only[RD]at hv
  case pl=>grind
  case sl=>rcases hv with⟨_,_,e|⟨c,o,cap,e,_⟩⟩|⟨c,o,cap,vs,n,e,_⟩<;>subst e<;>rfl
  all_goals(subst hv;rfl)
 case ref=>simp only[RV]at hv;obtain⟨⟨b,o,rfl⟩,_⟩:=hv;rfl
 case ptr=>simp only[RV]at hv;obtain⟨⟨b,o,rfl⟩,_⟩:=hv;rfl
 case dptr=>simp only[RV]at hv;obtain⟨c,o,vs,rfl,_⟩:=hv;rfl
 case cut=>simp only[RV]at hv;obtain⟨c,o,x,rfl,_⟩:=hv;rfl
 case fn=>simp only[RV]at hv;obtain⟨a,b,rfl,_⟩:=hv;rfl
 all_goals cases ho
theorem EQ:∀{vs:List V}{ws:LvQ},vs.all okV=true->RVs φ F H h vs ws->ws.all okCell=true
 |[],_,_,r=>by grind[RVs]
 | v::vs,_,ho,r=>by
  simp only[RVs]at r;obtain⟨w,us,rfl,r1,r2⟩:=r;simp only[List.all_cons,Z7]at ho ⊢;exact⟨aai ho.1 r1,EQ ho.2 r2⟩
theorem SH(I:Inv φ F G H h){cs xs:List V}(hg:ax h s e=.vars cs)(hr:RVs φ F H h xs ws)(hb:off+xs.length<=cs.length)(hok:xs.all okV=true):
  ∃ H',kE H (φ.getD s 0) off ws=some H'∧Inv φ F G H' (bK h s e (.vars (cs.take off++xs++cs.drop (off+xs.length)))) ∧
   Stp G φ F H h φ F H' (bK h s e (.vars (cs.take off++xs++cs.drop (off+xs.length)))):=by
 have hs:=eA ac hg;obtain⟨x,hx,hx1,hwr,hxe,hd⟩:=I.blk s e _ hs;have hlx:=hd.length;have hlw:=hr.length;obtain⟨H',x2,hw,T,hc2,hw2,he2,hz2⟩:=DY I.wf hx hx1 hwr (off:=off) (vs:=ws) aa (EQ hok hr)
 have hlen:(cs.take off++xs++cs.drop (off+xs.length)).length=cs.length:=by
  simp only[List.length_append,Zr,Yq];omega
 have key:=I.touch hs trivial hx hx1 T (.inl rfl) (b':=.vars (cs.take off++xs++cs.drop (off+xs.length))) (m:=cs.length) (m':=cs.length) rfl (by grind[sv]) (Z8 _) (λ_=>rfl)
  λhl hsl=>⟨x2,T.get,T.st,hw2,by grind,by
   grind[Hk,RVs.mono,RVs.append,RVs.take,RVs.drop]⟩
 grind[set_self,Inv.len]
theorem ZB(I:Inv φ F G H h){vs:List V}(hs:sto h s e off tot vs=some h')(hp:RV φ F H h (.ptr s e off tot) p)(hr:RVs φ F H h vs ws):
  ∃b H' F',p=.pointer (some ⟨b,off,none⟩)∧kE H b off ws=some H'∧Inv φ F' G H' h'∧Stp G φ F H h φ F' H' h':=by
 unfold sto at hs;split at hs
 .grind[Dh,SH]
 .rename_i n0 cs0 ex0 fr0 hg0;split at hs
  .rename_i xs h1 hx;split at hs
   .rename_i n cs ex fr hg;split at hs
    .rename_i hc;cases hs;obtain⟨rfl,ht,hb⟩:=hc;obtain⟨F1,S1,r1⟩:=tS I hx hr;obtain⟨rfl,_⟩:=zu S1.1 (RV.mono S1.2.leF S1.2.sl _ _ hp) hg ht;obtain⟨H',hw,I',S'⟩:=Iu S1.1 hg r1 hb;exact⟨_,H',F1,rfl,hw,I',S1.2.trans S'⟩
    trivial
   trivial
  trivial
 trivial
theorem acQ(I:Inv φ F G H h)(hn:szO P t=some n){p:V}(hk:stD h n p v k)(hp:RV φ F H h p p')(hv:RV φ F H h v v'):
  bV False φ F G H h k ((uD P H t p' v').map λH'=>(undef,H')):=by
 unfold stD at hk;split at hk
 .rename_i h1 hs
  have fin:∀{s e off tot:Nat}{vs:List V},p=.ptr s e off tot->sto h s e off tot vs=some h1->wW v=some vs->vs.length=n->bV False φ F G H h k ((uD P H t p' v').map λH'=>(undef,H')):=by
   intro s e off tot vs hpe hs2 hc hl;subst hpe;have hr:=yR hc hv;obtain⟨b,H',F',rfl,hw,I',S'⟩:=ZB I hs2 hp hr;refine⟨.junk,h1,φ,F',undef,H',?_,hk,I',S',by trivial,False.elim⟩;have:v'.cells.size=n:=by rw[<-hl,<-hr.length];simp
   simp only[uD,hn,this,if_true,hw,Option.map_some]
  unfold st at hs;split at hs
  .rename_i s e off tot vs;split at hs
   .rename_i hl;exact fin rfl hs rfl hl
   trivial
  .rename_i s e off tot hna;split at hs
   .rename_i h1n
    have hc:wW v=some [v]:=by
     have hok:okV v=true∨∃x,toD h v=some x:=by
      unfold sto at hs;split at hs
      .grind
      .grind[jG]
      .cases hs
     cases v with
     |agg l=>grind
     |junk=>rcases hok with ho|⟨x,hx⟩<;>simp_all[okV,toD]
     |tup l=>rcases hok with ho|⟨x,hx⟩<;>simp_all[okV,toD]
     |ifc t x=>rcases hok with ho|⟨x,hx⟩<;>simp_all[okV,toD]
     |new=>rcases hok with ho|⟨x,hx⟩<;>simp_all[okV,toD]
     |_=>rfl
    grind
   trivial
  trivial
 trivial
end
