/- Lemmas. -/
import Derived.Test.YtbjigngcncfhmaaGreatDoorQZ
import Derived.Orders
import Derived.Laws.IdiomCopy
import Derived.Laws.MakeOwn
import Derived.LoopN
import Derived.Scope
import Derived.RangeFuncLeaves
import Derived.RangeFuncRecord
import Derived.RangeFuncSeq
import Derived.RangeFuncOwn
import Derived.LoopNIn
import Derived.TacticsIn
import Derived.OrdersIn
set_option linter.unusedVariables false
set_option linter.unusedSimpArgs false
namespace Go.Am
open Go
noncomputable section
variable{b n c l i L L' off k len cap by_ j:Nat}{x c' l' u v' x' i' y':Value}{w' w1 w2 w0:World}{cs cs' tmps:Array Value}{e t ty:TypeId}{fz:Nat×Nat}{act:Act}{s:ByteArray}{P:Program}{d:Option TypeDesc}{f o' hi mx:Option Value}{op:BinOp}{ox oy:Operand}{ts:Array TypeId}{args args' a2:LvQ}{base:Option Nat}{dst:Option Tmp}{listed:Array Bool}
structure Blk where
 cells:LvQ
 st:Nat
 wr:Bool
 fam:Nat
 start:Nat
 shared:Bool
 exact:Bool
 esz:Nat
 ver:Nat
structure AH where
 n:Nat
 l:List Blk
variable{H2 H1:AH}
def AH.get(H:AH)(b:Nat):Option Blk:=if b<H.n then H.l[H.n-1-b]? else none
def AH.push(H:AH)(x:Blk):AH:=⟨H.n+1,x::H.l⟩
def AH.set(H:AH)(b:Nat)(x:Blk):AH:=⟨H.n,H.l.set (H.n-1-b) x⟩
def vq(p:Nat->Blk->Bool):Nat->List Blk->List Blk
 |_,[]=>[]
 |n,x::l=>(if p (n-1) x then{x with st:=2,ver:=x.ver+1}else x)::vq p (n-1) l
def AH.kill(H:AH)(p:Nat->Blk->Bool):AH:=⟨H.n,vq p H.n H.l⟩
def okCell:Value->Bool
 |.agg _|.tuple _=>false
 |_=>true
def fresh(b:Nat)(cells:LvQ):Blk:={cells,st:=1,wr:=true,fam:=b,start:=0,shared:=false,exact:=true,esz:=1,ver:=1}
def qJ:Blk:={cells:=[],st:=0,wr:=false,fam:=0,start:=0,shared:=false,exact:=true,esz:=1,ver:=0}
def mkB(H:AH)(rid:Option Nat)(cells:LvQ):Option (Nat×AH):=
 match rid with
 |none=>some (H.n,H.push (fresh H.n cells))
 | some r=>match H.get r with
  |some x=>if x.st=0∧x.ver=0 then some (r,H.set r (fresh r cells))else none
  |none=>none
def cg(H:AH)(b off n:Nat):Option LvQ:=
 match H.get b with
 |some x=>if x.st=1∧off+n<=x.cells.length then some ((x.cells.drop off).take n)else none
 |none=>none
def kin(b:Nat)(f:Nat)(i:Nat)(x:Blk):Bool:=i !=b&&x.fam == f&&x.shared&&x.st == 1
def splice(l:LvQ)(off:Nat)(vs:LvQ):LvQ:=l.take off++vs++l.drop (off+vs.length)
def kE(H:AH)(b off:Nat)(vs:LvQ):Option AH:=
 match H.get b with
 | some x=>
  if x.st=1∧x.wr=true∧off+vs.length<=x.cells.length∧vs.all okCell=true then
   some ((if x.shared then H.kill (kin b x.fam)else H).set b {x with cells:=splice x.cells off vs,ver:=x.ver+1,shared:=false})
  else none
 |none=>none
def pv{α:Type}(P:Program):Sem α->Option α
 |.pure a=>some a
 |.program k=>pv P (k P)
 |_=>none
mutual
/-- No address in a value. -/
def plain:Value->Bool
 |.pointer (some _)|.slice (some _) _ _|.map (some _)|.chan (some _)=>false
 |.agg ⟨cs⟩|.tuple ⟨cs⟩=>cV cs
 |.iface _ v=>plain v
 |.func fn ⟨x⟩ ⟨y⟩=>(match fn with|.yield _=>false|_=>true)&&cV x&&cV y
 |_=>true
def cV:LvQ->Bool
 |[]=>true
 |v::l=>plain v&&cV l
end
def szO(P:Program)(t:TypeId):Option Nat:=(P.info? t).map (·.size)
def iH(P:Program)(t:TypeId):Option Value:=(P.info? t).bind (·.zero)
def qS(P:Program)(t:TypeId):Option Nat:=(P.info? t).map (·.bytes)
def YJ:Value:=.chan (some 0)
structure Cfg where
 P:Program
 allow:FuncId->Bool
 glob:Nat->Bool
 orc:FuncId->LvQ->Option Value
 /-- what an iterator yields:its function,what it has captured,the heap -/
 seq:FuncId->LvQ->AH->Option (List LvQ)
 seqK:FuncId->LvQ->AH->LvQ
def kq(l:LvQ)(i:Nat):Value:=List.rec (motive:=λ_=>Nat->Value) (λ_=>undef) (λx _ ih i=>Nat.rec x (λj _=>ih j) i) l i
theorem oO:∀(l:LvQ)(i:Nat),kq l i=l.getD i undef
 |[],_=>rfl
 |_::_,0=>rfl
 | x::l,i+1=>by
  have:=oO l i;trivial
def ev(X:Cfg)(a:LvQ):Operand->Value
 |.tmp t=>kq a t
 |.const v=>v
 |.global g=>if X.glob g then .pointer (some ⟨g,0,none⟩)else YJ
 |.func f=>.func (.func f) #[] #[]
def vp(P:Program)(H:AH)(t:TypeId)(x:Value):Option Value:=
 match x with
 | .pointer (some ⟨b,off,none⟩)=>
  match P.underlying t with
  | some (.struct _)|some (.array _ _)=>do
   let n <-szO P t
   let cs <-cg H b off n
   some (.agg cs.toArray)
  | some _=>match cg H b off 1 with
   |some [v]=>some v
   |_=>none
  |none=>none
 |_=>none
def uD(P:Program)(H:AH)(t:TypeId)(x v:Value):Option AH:=
 match x,szO P t with
 |.pointer (some ⟨b,off,none⟩),some n=>if v.cells.size=n then kE H b off v.cells.toList else none
 |_,_=>none
def SB(a:Addr)(n:Nat):Addr:=⟨a.block,a.off+n,none⟩
def qi(P:Program)(t:TypeId)(x:Value)(f:Nat):Option Value:=
 match P.underlying t,x with
 | some (.struct fs),.pointer (some ⟨b,off,none⟩)=>match fs[f]? with
  | some fd=>match szO P fd.type with
   |some (_+1)=>some (.pointer (some ⟨b,off+fd.offset,none⟩))
   |_=>none
  |none=>none
 |_,_=>none
def kh(P:Program)(t:TypeId)(x i:Value):Option Value:=
 match P.underlying t,x,i with
 | some (.slice e),.slice (some ⟨b,off,none⟩) len _,.int _ k=>match szO P e with
  |some n=>if 0<=k∧k<len then some (.pointer (some ⟨b,off+k.toNat*n,none⟩))else none
  |none=>none
 | some (.array len e),.pointer (some ⟨b,off,none⟩),.int _ k=>match szO P e with
  |some n=>if 0<=k∧k<len then some (.pointer (some ⟨b,off+k.toNat*n,none⟩))else none
  |none=>none
 |_,_,_=>none
def HC(P:Program)(t:TypeId)(cs:LvQ)(off:Nat):Option Value:=
 match P.underlying t with
 | some (.struct _)|some (.array _ _)=>do
  let n <-szO P t
  some (.agg ((cs.drop off).take n).toArray)
 |some _=>cs[off]?
 |none=>none
def FM(P:Program)(t:TypeId)(x:Value)(f:Nat):Option Value:=
 match P.underlying t,x with
 | some (.struct fs),.agg cs=>match fs[f]? with
  |some fd=>HC P fd.type cs.toList fd.offset
  |none=>none
 |_,_=>none
def yG(P:Program)(t:TypeId)(x i:Value):Option Value:=
 match P.underlying t,x,i with
 | some (.array len e),.agg cs,.int _ k=>match szO P e with
  |some n=>if 0<=k∧k<len then HC P e cs.toList (k.toNat*n)else none
  |none=>none
 | some .string,.string s,.int _ k=>if 0<=k then match s[k.toNat]? with
  |some b=>some (.int .u8 b.toNat)
  |none=>none else none
 |_,_,_=>none
def de(d:Nat)(top:Nat):Option Value->Option Nat
 |none=>some d
 |some (.int _ i)=>if 0<=i∧i<=top then some i.toNat else none
 |some _=>none
def there(H:AH):Option Addr->Bool
 |none=>true
 | some a=>match H.get a.block with
  |some x=>x.st !=0
  |none=>false
def x9(H:AH)(n:Nat):Option Addr->Bool
 |none=>true
 | some a=>match H.get a.block with
  |some x=>x.st !=0&&(x.exact||x.esz == n)
  |none=>false
def lI(P:Program)(H:AH)(t:TypeId)(x:Value)(lo hi mx:Option Value):Option Value:=
 match P.underlying t,x with
 | some .string,.string s=>
  if mx.isSome then none else do
   let h <-de s.size s.size hi
   let l <-de 0 h lo
   some (.string (s.extract l h))
 | some (.slice e),.slice a len cap=>do
  let m <-de cap cap mx
  let h <-(if hi.isNone&&mx.isSome then none else de len m hi)
  let l <-de 0 h lo
  let n <-szO P e
  if len<=cap∧(a.map (·.spot)).getD none=none∧(there H a&&(mx.isSome||x9 H n a))=true then some (.slice (a.map λa=>SB a (l*n)) (h-l) (m-l))else none
 | some (.array k e),.pointer (some ⟨b,off,none⟩)=>do
  let m <-de k k mx
  let h <-(if hi.isNone&&mx.isSome then none else de k m hi)
  let l <-de 0 h lo
  let n <-szO P e
  some (.slice (some ⟨b,off+l*n,none⟩) (h-l) (m-l))
 |_,_=>none
def yT(P:Program)(t:TypeId)(parts:Array (Nat×Value)):Option Value:=
 match iH P t,P.underlying t with
 | some z,some (.struct fs)=>
  if plain z&&fs.all (λf=>(szO P f.type).isSome)then
   (Instr.fill ((fs.map λf=>(f.offset,(szO P f.type).getD 0))[·]?) z.cells parts.toList).map .agg
  else none
 | some z,some (.array _ e)=>match szO P e with
  |some n=>if plain z then(Instr.fill (λi=>some (i*n,n)) z.cells parts.toList).map .agg else none
  |none=>none
 |_,_=>none
def df(z:LvQ)(n:Nat):LvQ:=(List.range n).map λi=>z.getD (i%z.length) undef
def gW(P:Program)(H:AH)(rid:Option Nat)(t:TypeId)(len:Nat)(parts:Array (Nat×Value)):Option (Value×AH):=
 match P.underlying t with
 | some (.slice e)=>match szO P e,iH P e with
  | some n,some z=>
   if plain z∧z.cells.size=n∧0<n∧len*n<=16777216 then
    match Instr.fill (λi=>some (i*n,n)) (df z.cells.toList (len*n)).toArray parts.toList with
    | some cs=>match mkB H rid cs.toList with
     |some (b,H')=>some (.slice (some ⟨b,0,none⟩) len len,H')
     |none=>none
    |none=>none
   else none
  |_,_=>none
 |_=>none
def oU(P:Program)(H:AH)(rid:Option Nat)(t:TypeId)(l c:Value):Option (Value×AH):=
 match P.underlying t,l,c with
 | some (.slice e),.int _ l,.int _ c=>match szO P e,iH P e,qS P e with
  | some n,some z,some by_=>
   if plain z∧z.cells.size=n∧0<n∧0<=l∧l<=c∧(by_:Int)*c<=281474976710656∧c<=9223372036854775807 then
    match mkB H rid (df z.cells.toList (c.toNat*n))with
    |some (b,H')=>some (.slice (some ⟨b,0,none⟩) l.toNat c.toNat,H')
    |none=>none
   else none
  |_,_,_=>none
 |_,_,_=>none
def nf(H:AH)(n:Nat):Value->Option (Nat×LvQ)
 |.slice none 0 _=>some (0,[])
 |.slice (some ⟨b,off,none⟩) len _=>if len=0 then some (0,[])else(cg H b off (len*n)).map λcs=>(len,cs)
 |.string s=>if n=1 then some (s.size,s.data.toList.map λb=>.int .u8 b.toNat)else none
 |_=>none
def mL(x:Blk)(off n:Nat)(cells:LvQ):Blk:=
 {cells,st:=1,wr:=true,fam:=x.fam,start:=x.start+off,shared:=true,exact:=false,esz:=n,ver:=1}
def jp(b n:Nat)(cells:LvQ):Blk:=
 {cells,st:=1,wr:=true,fam:=b,start:=0,shared:=false,exact:=false,esz:=n,ver:=1}
def beyond(b f pos:Nat)(i:Nat)(x:Blk):Bool:=x.fam == f&&(x.shared||i == b)&&x.st == 1&&decide (pos<x.start+x.cells.length)
def bU(P:Program)(H:AH)(n by_:Nat)(s:Value)(k:Nat)(cs:LvQ):Option (Value×AH):=
 match s with
 | .slice none 0 0=>
  if k=0 then some (s,H)
  else if k*by_<=140737488355328 then some (.slice (some ⟨H.n,0,none⟩) k k,H.push (jp H.n n cs))else none
 | .slice (some ⟨b,off,none⟩) len cap=>
  if cap<len then none else
  if k=0 then some (s,H)else
  if len+k<=cap then match kE H b (off+len*n) cs with
   |some H'=>some (.slice (some ⟨b,off,none⟩) (len+k) cap,H')
   |none=>none
  else if(len+k)*by_<=140737488355328 then
   match H.get b with
   | some x=>
    if x.st=1∧off+len*n<=x.cells.length then
     let cells:=(x.cells.drop off).take (len*n)++cs
     if x.exact=true∨(x.esz=n∧off+cap*n<x.cells.length)then some (.slice (some ⟨H.n,0,none⟩) (len+k) (len+k),H.push (jp H.n n cells))
     else if x.wr=true∧x.esz=n∧off+cap*n=x.cells.length∧cs.all okCell=true then
      some (.slice (some ⟨H.n,0,none⟩) (len+k) (len+k),
       (((H.set b {x with shared:=true,ver:=x.ver+1}).kill (beyond b x.fam (x.start+off+len*n))).push (mL x off n cells)))
     else none
    else none
   |none=>none
  else none
 |_=>none
def XJ(H:AH):Value->Option Nat
 |.slice none _ c=>some c
 | .slice (some ⟨b,off,none⟩) _ c=>match H.get b with
  |some x=>if x.st≠0∧(x.exact=true∨off+c*x.esz<x.cells.length)then some c else none
  |none=>none
 |_=>none
def isNil:Value->Option Bool
 |.slice a _ _=>some a.isNone
 |.pointer a=>some a.isNone
 |.func ..=>some false
 |.nilFunc=>some true
 |_=>none
def iN(d:Option TypeDesc)(x y:Value):Bool:=
 match d,x,y with
 |some (.slice _),.slice ..,.slice ..=>true
 |some (.pointer _),.pointer _,.pointer _=>true
 |some (.func ..),.func ..,.nilFunc|some (.func ..),.nilFunc,.func .. |some (.func ..),.nilFunc,.nilFunc=>true
 |_,_,_=>false
def EW(P:Program)(op:BinOp)(t:TypeId)(x y:Value):Option Value:=
 if iN (P.underlying t) x y then
  match op,isNil x,isNil y with
  |.eql,some true,some q=>some (.bool q)
  |.eql,some q,some true=>some (.bool q)
  |.neq,some true,some q=>some (.bool !q)
  |.neq,some q,some true=>some (.bool !q)
  |_,_,_=>none
 else none
def k8(P:Program)(op:BinOp)(t:TypeId)(ox oy:Operand)(x y:Value):Option Value:=
 if plain x&&plain y then
  match pv P (do eqGuard op t ox oy x y;binOp op t x y)with
  |some r=>if plain r then some r else none
  |none=>none
 else EW P op t x y
def tn(o:Option Value):Option Value:=match o with
 |some r=>if plain r then some r else none
 |none=>none
def JW:Value->Option UInt8
 |.int .u8 n=>if 0<=n∧n<256 then some (UInt8.ofNat n.toNat)else none
 |_=>none
def bytesOf:LvQ->Option LuQ
 |[]=>some []
 | v::l=>match JW v,bytesOf l with
  |some b,some r=>some (b::r)
  |_,_=>none
def j5(P:Program)(H:AH)(s d:TypeId)(x:Value):Option (Value×AH):=
 match P.underlying s,P.underlying d,x with
 | some _,some (.slice e),.string str=>match P.underlying e with
  |some (.int .u8)=>some (.slice (some ⟨H.n,0,none⟩) str.size str.size,H.push (jp H.n 1 (str.data.toList.map λb=>.int .u8 b.toNat)))
  |_=>none
 | some (.slice e),some .string,.slice a len _=>match P.underlying e with
  | some (.int .u8)=>match a with
   |none=>some (.string .empty,H)
   | some ⟨b,off,none⟩=>match(if len=0 then(if there H (some ⟨b,off,none⟩)then some []else none)else cg H b off len)with
    |some cs=>(bytesOf cs).map λl=>(.string ⟨l.toArray⟩,H)
    |none=>none
   |_=>none
  |_=>none
 |_,_,_=>if plain x then(tn (pv P (convert s d x))).map λr=>(r,H)else none
def yC(P:Program)(t:TypeId)(x:Value):Option Value:=
 match P.underlying t with
 |some (.interface _)|none=>none
 |some _=>some (.iface t x)
def bC(P:Program)(H:AH)(b:Builtin)(ts:Array TypeId)(t:TypeId)(args:LvQ):Option (Value×AH):=
 match b,args with
 | .len,[x]=>match(ts[0]?).bind P.underlying,x with
  |some .string,.string s=>some (.int .i64 s.size,H)
  |some (.slice _),.slice _ n _=>some (.int .i64 n,H)
  |some (.array n _),_=>some (.int .i64 n,H)
  |_,_=>none
 | .cap,[x]=>match(ts[0]?).bind P.underlying with
  |some (.slice _)=>(XJ H x).map λ(n:Nat)=>(.int .i64 n,H)
  |_=>none
 | .append,[s,x]=>match(ts[0]?).bind P.underlying,(ts[1]?).bind P.underlying with
  | some (.slice e),some d=>match szO P e,qS P e,iH P e with
   | some n,some by_,some z=>
    if n=0∨by_=0∨z.cells.size≠n then none else
    match d,x with
    | .int _,.int _ k=>
     if plain z∧z.cells.size=n∧0<=k∧k*by_<=140737488355328 then bU P H n by_ s k.toNat (df z.cells.toList (k.toNat*n))else none
    |.int _,_=>none
    | _,_=>match nf H n x with
     |some (k,cs)=>bU P H n by_ s k cs
     |none=>none
   |_,_,_=>none
  |_,_=>none
 | .copy,[.slice base dLen _,src]=>match(ts[0]?).bind P.underlying with
  | some (.slice e)=>match szO P e with
   | some n=>match nf H n src with
    | some (k,cs)=>
     let m:=min k dLen
     match base with
     |none=>some (.int .i64 m,H)
     |some ⟨b,off,none⟩=>if m=0 then some (.int .i64 m,H)else(kE H b off (cs.take (m*n))).map λH'=>(.int .i64 m,H')
     |_=>none
    |none=>none
   |none=>none
  |_=>none
 | .clear,[.slice base len _]=>match(ts[0]?).bind P.underlying with
  | some (.slice e)=>match szO P e,iH P e with
   | some n,some z=>match base with
    |none=>some (.tuple #[],H)
    |some ⟨b,off,none⟩=>if plain z∧z.cells.size=n∧0<n then if len=0 then some (.tuple #[],H)else(kE H b off (df z.cells.toList (len*n))).map λH'=>(.tuple #[],H')else none
    |_=>none
   |_,_=>none
  |_=>none
 |.min,_=>if cV args then(tn (pv P (Builtin.min_ ts t args.toArray))).map λr=>(r,H)else none
 |.max,_=>if cV args then(tn (pv P (Builtin.max_ ts t args.toArray))).map λr=>(r,H)else none
 |_,_=>none
def opV(X:Cfg)(rid:Option Nat)(H:AH)(a:LvQ)(o:Oper):Option (Value×AH):=
 let P:=X.P
 let e:=ev X a
 match o.op with
 |.move x|.assign x=>some (e x,H)
 | .pick c x y=>match e c with
  |.bool t=>some (if t then e x else e y,H)
  |_=>none
 | .alloc t=>match iH P t with
  | some z=>if plain z then match rid with
   |none=>some (.pointer (some ⟨H.n,0,none⟩),H.push (fresh H.n z.cells.toList))
   |some r=>some (.pointer (some ⟨r,0,none⟩),H)
   else none
  |none=>none
 |.box _ x=>(mkB H rid (e x).cells.toList).map λ(b,H')=>(.pointer (some ⟨b,0,none⟩),H')
 |.build t ps=>(yT P t (ps.map λ(i,x)=>(i,e x))).map λv=>(v,H)
 |.buildSlice t len ps=>gW P H rid t len (ps.map λ(i,x)=>(i,e x))
 |.load t x=>(vp P H t (e x)).map λv=>(v,H)
 |.store t x y=>(uD P H t (e x) (e y)).map λH'=>(undef,H')
 | .nilCheck x=>match e x with
  |.pointer (some p)=>some (.pointer (some p),H)
  |_=>none
 |.binOp op t x y _=>(k8 P op t x y (e x) (e y)).map λv=>(v,H)
 |.unOp op _ x=>if plain (e x)then(tn (pv P (Op.unary op (e x)))).map λv=>(v,H)else none
 |.convert s d x=>j5 P H s d (e x)
 |.makeInterface t x=>(yC P t (e x)).map λv=>(v,H)
 |.makeFunc (.func f) x y=>some (.func (.func f) (x.map e) (y.map e),H)
 |.makeSlice t l c=>oU P H rid t (e l) (e c)
 |.slice t x lo hi mx=>(lI P H t (e x) (lo.map e) (hi.map e) (mx.map e)).map λv=>(v,H)
 |.fieldAddr t x f=>(qi P t (e x) f).map λv=>(v,H)
 |.field t x f=>(FM P t (e x) f).map λv=>(v,H)
 |.indexAddr t x i=>(kh P t (e x) (e i)).map λv=>(v,H)
 |.index t x i=>(yG P t (e x) (e i)).map λv=>(v,H)
 | .extract x i=>match e x with
  |.tuple vs=>(vs[i]?).map λv=>(v,H)
  |_=>none
 |.call {callee:=.builtin b,args,argTypes}=>bC P H b argTypes o.type ((args.map e).toList)
 |_=>none
def om(e:Operand->Value)(c:Call):Option (FuncId×LvQ):=
 match c.callee with
 | .value f=>match e f with
  |.func (.func g) first captured=>some (g,first.toList++(c.args.map e).toList++captured.toList)
  |_=>none
 |_=>none
abbrev iA:=FuncId->LvQ->AH->Option (Value×AH)
def je:Callee->Bool
 |.builtin _=>true
 |_=>false
def qj(X:Cfg)(cf:iA)(rid:Option Nat)(H:AH)(a:LvQ)(o:Oper):Option (Value×AH):=
 match o.op with
 | .call c=>if je c.callee then opV X rid H a o else
  match om (ev X a) c with
  |some (g,args)=>cf g args H
  |none=>none
 |_=>opV X rid H a o
def jB(a:LvQ)(dst:Option Tmp)(v:Value):LvQ:=
 match dst with
 |some d=>a.set d v
 |none=>a
def eU(ops:Array Oper)(a:LvQ)(j:Nat):Option Bool:=
 match((ops[j]?).bind (·.dst)).bind (λt=>a[t]?)with
 |some (.bool b)=>some b
 |_=>none
def gE(P:Program):Op->Bool
 |.load ..=>true
 |.convert s _ _=>(match P.underlying s with|some (.slice _)=>true|_=>false)
 |_=>false
def qe:Op->Bool
 |.slice ..=>true
 |.call {callee:=.builtin .cap,.. }=>true
 |_=>false
def pd:Op->Bool
 |.box .. |.buildSlice .. |.makeSlice ..=>true
 |_=>false
def fF(P:Program):Op->Bool
 |.store ..=>true
 |.convert _ d _=>(match P.underlying d with|some (.slice _)=>true|_=>false)
 |.call {callee:=.builtin b,.. }=>(match b with|.append|.copy|.clear=>true|_=>false)
 |.call _=>true
 |_=>false
def chk(P:Program)(ops:Array Oper)(i:Nat)(o:Oper):Bool:=
 fF P o.op&&ops.toList.zipIdx.any λ(x,j)=>gE P x.op&&j !=i && !((Region.before ops).toList.getD i 0).testBit j && !((Region.before ops).toList.getD j 0).testBit i
def tY:List Blk->List Blk->Bool
 |x::l,y::m=>x.ver == y.ver&&tY l m
 |[],[]=>true
 |_,_=>false
def preB(H H':AH):Bool:=tY H.l (H'.l.drop (H'.n-H.n))
def iL:Value->Option Nat
 |.pointer (some a)=>some a.block
 |.slice (some a) _ _=>some a.block
 |_=>none
def unB(ops:Array Oper)(i j:Nat):Bool:=j !=i && !((Region.before ops).toList.getD i 0).testBit j && !((Region.before ops).toList.getD j 0).testBit i
def yM(ops:Array Oper)(t:Tmp):Bool:=ops.toList.any λo=>match o.dst with
 |some d=>Nat.beq d t
 |none=>false
def sameAt(H H':AH)(v:Value):Bool:=match iL v with
 | some b=>match H.get b,H'.get b with
  |some x,some y=>x.ver == y.ver
  |_,_=>false
 |none=>true
def Cf(ops:Array Oper):Nat->Tmp->Option Tmp
 | 0,p=>(match yM ops p with
  |true=>none
  |false=>some p)
 | n+1,p=>(match yM ops p with
  | true=>(match ops.toList.find? λo=>match o.dst with
    |some d=>Nat.beq d p
    |none=>false with
   | some o=>(match o.op with
    |.fieldAddr _ (.tmp b) _=>Cf ops n b
    |.nilCheck (.tmp b)=>Cf ops n b
    |.move (.tmp b)=>Cf ops n b
    |_=>none)
   |none=>none)
  |false=>some p)
def wA(ops:Array Oper)(p:Tmp):Option Tmp:=Cf ops 4 p
def offB(P:Program)(ops:Array Oper)(i:Nat)(a:LvQ)(H H':AH):Bool:=
 ops.toList.zipIdx.all λ(x,j)=>!(gE P x.op&&unB ops i j)||match x.op with
  | .load _ (.tmp p)=>(match wA ops p with
   |some b=>sameAt H H' (kq a b)
   |none=>false)
  |_=>false
def G2(ops:Array Oper):Op->Bool
 |.store ..=>true
 | .call c=>match c.callee with
  | .builtin .append=>match c.args.toList with
   |.tmp p::_=>yM ops p
   |_=>false
  |_=>false
 |_=>false
def zI(P:Program)(ops:Array Oper):Bool:=ops.toList.zipIdx.any λ(o,i)=>G2 ops o.op&&chk P ops i o
def sW(P:Program)(ops:Array Oper)(o:Oper)(a:LvQ):Bool:=match o.op with
 | .load _ (.tmp p)=>!zI P ops||(match wA ops p with
  |some b=>decide (iL (kq a p)=iL (kq a b))
  |none=>true)
 |_=>true
def yc:Op->Bool
 |.call c=>!je c.callee
 |_=>false
def sH(ops:Array Oper)(i:Nat)(o:Op):Bool:=yc o&&ops.toList.zipIdx.any λ(x,j)=>pd x.op&&unB ops i j
def w6(X:Cfg)(B:Nat):Nat->List Blk->List Blk
 |_,[]=>[]
 |n,x::l=>(if n-1<B∧X.glob (n-1)=true then{x with wr:=false,st:=if cV x.cells=true then x.st else x.st+x.st}else qJ)::w6 X B (n-1) l
def AH.bare(X:Cfg)(B:Nat)(H:AH):AH:=⟨H.n,w6 X B H.n H.l⟩
def AH.graft(H H':AH):AH:=⟨H'.n,(List.range (H'.n-H.n)).map (λi=>H'.l.getD i qJ)++H.l⟩
def oo(X:Cfg)(cf:iA)(B:Nat)(H:AH)(a:LvQ)(o:Oper):Option (Value×AH):=match o.op with
 | .call c=>match om (ev X a) c with
  | some (g,args)=>if cV args=true then match cf g args (H.bare X B)with
   |some (v,H')=>some (v,H.graft H')
   |none=>none else none
  |none=>none
 |_=>none
def yO(X:Cfg)(cf:iA)(ops:Array Oper)(base:Option Nat)(i:Nat)(o:Oper)(a:LvQ)(H:AH):Option (Value×AH):=
 if base.isSome&&sH ops i o.op then oo X cf (base.getD 0) H a o else qj X cf (base.map (· + i)) H a o
def dop(X:Cfg)(cf:iA)(ops:Array Oper)(base:Option Nat)(i:Nat)(o:Oper)(a:LvQ)(H:AH):Option (Value×AH):=
 match yO X cf ops base i o a H with
 |some (v,H')=>if base.isSome&&(!sW X.P ops o a||chk X.P ops i o && !preB H H' && !(zI X.P ops&&offB X.P ops i a H H'))then none else some (v,H')
 |none=>none
def eE(X:Cfg)(cf:iA)(ops:Array Oper)(base:Option Nat)(i:Nat)(o:Oper)(a:LvQ)(H:AH):Option (LvQ×AH):=
 if Region.wanted o (eU ops a)then
  match dop X cf ops base i o a H with
  |some (v,H')=>some (jB a o.dst v,H')
  |none=>none
 else some (jB a o.dst undef,H)
def sF(X:Cfg)(cf:iA)(ops:Array Oper)(base:Option Nat):Nat->List Oper->LvQ->AH->Option (LvQ×AH)
 |_,[],a,H=>some (a,H)
 | i,o::rest,a,H=>match eE X cf ops base i o a H with
  |some (a',H')=>sF X cf ops base (i+1) rest a' H'
  |none=>none
def sh(P:Program)(b:Nat)(o:Oper):Blk:=
 match o.op with
 | .alloc t=>match iH P t with
  |some z=>fresh b z.cells.toList
  |none=>qJ
 |_=>qJ
def kv(P:Program):List Oper->AH->AH
 |[],H=>H
 |o::l,H=>kv P l (H.push (sh P H.n o))
def jH(X:Cfg)(cf:iA)(ops:Array Oper)(draw:Bool)(a:LvQ)(H:AH):Option (LvQ×AH):=
 if draw then sF X cf ops (some H.n) 0 ops.toList a (kv X.P ops.toList H)else sF X cf ops none 0 ops.toList a H
abbrev ExR:=Option (Exit×LvQ×AH)
def putP:List Tmp->LvQ->LvQ->LvQ
 |p::ps,x::xs,a=>putP ps xs (a.set p x)
 |_,_,a=>a
open Classical in
/-- The rounds of a loop over an iterator:what it yields must stay the same. -/
def oD(pre run:LvQ->AH->ExR)(sq:AH->Prop)(ps:List Tmp)(a:LvQ):List LvQ->AH->ExR
 |[],H=>some (.normal,a,H)
 | x::xs,H=>if x.length=ps.length then match pre (putP ps x a) H with
  | some (.normal,a1,H1)=>match run a1 H1 with
   |some (.normal,_,H')=>if sq H' then oD pre run sq ps a xs H' else none
   |some (e,_,H')=>some (e,a,H')
   |none=>none
  |_=>none
  else none
def fh(X:Cfg)(cf:iA):Nat->Code->LvQ->AH->ExR
 |0,_,_,_=>none
 | n+1,c,a,H=>match c with
  |.skip=>some (.normal,a,H)
  |.label _=>some (.normal,a,H)
  | .region _ ops draw=>match jH X cf ops draw a H with
   |some (a',H')=>some (.normal,a',H')
   |none=>none
  | .seq x y=>match fh X cf n x a H with
   |some (.normal,a',H')=>fh X cf n y a' H'
   |r=>r
  | .cond x t e=>match ev X a x with
   |.bool true=>fh X cf n t a H
   |.bool false=>fh X cf n e a H
   |_=>none
  | .block id c=>match fh X cf n c a H with
   |some (.exit j,a',H')=>some (if j=id then .normal else .exit j,a',H')
   |r=>r
  | .loop c=>match fh X cf n c a H with
   |some (.normal,a',H')=>fh X cf n (.loop c) a' H'
   |r=>r
  |.exit id=>some (.exit id,a,H)
  |.ret=>some (.ret,a,H)
  |.scope c=>fh X cf n c a H
  | .rangeFunc g ps ahZ body=>match ev X a g with
   | .func (.func gf) ⟨[]⟩ ⟨lb⟩=>match X.seq gf lb H with
    |some xs=>oD (λa H=>fh X cf n ahZ a H) (λa H=>fh X cf n body a H) (λH'=>X.seq gf lb H'=some xs∧X.seqK gf lb H'=X.seqK gf lb H) ps.toList a xs H
    |none=>none
   |_=>none
  |_=>none
def Gu(P:Program)(H:AH)(a:LvQ):ResultVar->Option Value
 |.tmp t=>some (a.getD t undef)
 |.cell x t=>vp P H t (a.getD x undef)
def qy(P:Program)(fn:Func)(a:LvQ)(H:AH):Option Value:=
 match fn.results.toList.mapM (Gu P H a)with
 |some [v]=>some v
 |some vs=>some (.tuple vs.toArray)
 |none=>none
def d8(X:Cfg):Nat->iA
 |0,_,_,_=>none
 | n+1,f,args,H=>match X.orc f args with
  |some v=>some (v,H)
  | none=>if X.allow f then
   match X.P.funcs[f]? with
   | some fn=>match fn.body with
    | some c=>match fh X (d8 X n) n c (args++List.replicate (fn.ntmps-args.length) undef) H with
     |some (.normal,a,H')|some (.ret,a,H')=>(qy X.P fn a H').map λv=>(v,H')
     |_=>none
    |none=>none
   |none=>none
  else none
def iQ(op:BinOp)(k:IntKind)(a:Int)(k':IntKind)(b:Int):Option Value:=
 match op with
 |.shl=>if b<0 then none else some (.int k (k.wrap (a*2^(min b.toNat k.bits))))
 |.shr=>if b<0 then none else some (.int k (a.fdiv (2^(min b.toNat k.bits))))
 | op=>if k≠k' then none else match op with
  |.add=>some (.int k (k.wrap (a+b)))
  |.sub=>some (.int k (k.wrap (a-b)))
  |.mul=>some (.int k (k.wrap (a*b)))
  |.quo=>if b=0 then none else some (.int k (k.wrap (a.tdiv b)))
  |.rem=>if b=0 then none else some (.int k (a.tmod b))
  |.and=>some (.int k (k.wrap (BitVec.ofInt k.bits a&&&BitVec.ofInt k.bits b).toNat))
  |.or=>some (.int k (k.wrap (BitVec.ofInt k.bits a|||BitVec.ofInt k.bits b).toNat))
  |.xor=>some (.int k (k.wrap (BitVec.ofInt k.bits a ^^^ BitVec.ofInt k.bits b).toNat))
  |.andNot=>some (.int k (k.wrap (BitVec.ofInt k.bits a &&& ~~~ BitVec.ofInt k.bits b).toNat))
  |.eql=>some (.bool (a == b))
  |.neq=>some (.bool (a !=b))
  |.lss=>some (.bool (a<b))
  |.leq=>some (.bool (a<=b))
  |.gtr=>some (.bool (a>b))
  |.geq=>some (.bool (a≥b))
  |_=>none
theorem Oo(P:Program)(op:BinOp)(t:TypeId)(ox oy:Operand)(k:IntKind)(a:Int)(k':IntKind)(b:Int):
  k8 P op t ox oy (.int k a) (.int k' b)=iQ op k a k' b:=by
 unfold k8;simp only[plain,Xd,if_true]
 have hg:∀op:BinOp,eqGuard op t ox oy (.int k a) (.int k' b)=pure ():=λop=>by
  cases op<;>rfl
 rw[hg];cases op<;>simp only[iQ,binOp,Op.shift,Op.intArith,Op.intDiv,Op.intBits,Op.intCmp,pure_bind]
 case shl=>by_cases hb:b<0<;>simp only[hb,if_true,if_false]<;>rfl
 case shr=>by_cases hb:b<0<;>simp only[hb,if_true,if_false]<;>rfl
 all_goals by_cases hk:k=k'
 all_goals simp only[hk,ne_eq,not_true_eq_false,not_false_eq_true,if_true,if_false]
 all_goals first
  |rfl
  |(by_cases hb:b=0<;>simp only[hb,if_true,if_false]<;>rfl)
theorem AH.get_pos{H:AH}(h:b<H.n):H.get b=H.l[H.n-1-b]?:=if_pos h
theorem AH.get_neg{H:AH}(h:¬b<H.n):H.get b=none:=if_neg h
theorem AH.get_lt{H:AH}{x:Blk}(h:H.get b=some x):b<H.n:=by grind[get_neg]
@[simp]theorem AH.n_push(H:AH)(x:Blk):(H.push x).n=H.n+1:=rfl
@[simp]theorem AH.n_set(H:AH)(b:Nat)(x:Blk):(H.set b x).n=H.n:=rfl
@[simp]theorem AH.n_kill(H:AH)(p:Nat->Blk->Bool):(H.kill p).n=H.n:=rfl
theorem AH.get_push_new(H:AH)(x:Blk):(H.push x).get H.n=some x:=by
 rw[AH.get_pos ac]
 show(x::H.l)[H.n+1-1-H.n]?=_
 simp
theorem AH.get_push_old{H:AH}{x:Blk}(h:b<H.n):(H.push x).get b=H.get b:=by
 rw[AH.get_pos (H:=H.push x) aN,AH.get_pos h]
 show(x::H.l)[H.n+1-1-b]?=_
 rw[show H.n+1-1-b=(H.n-1-b)+1 by omega,List.getElem?_cons_succ]
theorem AH.get_push{H:AH}{x:Blk}(h:b≠H.n):(H.push x).get b=H.get b:=by
 by_cases hb:b<H.n
 .grind[get_push_old]
 .rw[AH.get_neg hb,AH.get_neg aN]
theorem AH.get_set{H:AH}{x y:Blk}(h:H.get b=some y)(b':Nat):(H.set b x).get b'=if b'=b then some x else H.get b':=by
 have hl:=AH.get_lt h;rw[AH.get_pos hl]at h
 have hlen:H.n-1-b<H.l.length:=by
  rcases Zi (H.n-1-b) H.l.length with h'|h'
  .exact h'
  .grind
 by_cases hb:b'=b
 .subst hb;rw[if_pos rfl,AH.get_pos (by trivial)]
  show(H.l.set (H.n-1-b') x)[H.n-1-b']?=_
  grind
 .rw[if_neg hb];by_cases hb':b'<H.n
  .rw[AH.get_pos (H:=H.set b x) (by trivial),AH.get_pos hb']
   show(H.l.set (H.n-1-b) x)[H.n-1-b']?=_
   rw[List.getElem?_set_ne aa]
  .rw[AH.get_neg (by trivial),AH.get_neg hb']
theorem HU(p:Nat->Blk->Bool):∀(l:List Blk)(n i:Nat),(vq p n l)[i]?=(l[i]?).map λx=>if p (n-1-i) x then{x with st:=2,ver:=x.ver+1}else x
 |[],n,i=>by rfl
 |x::l,n,0=>by rfl
 | x::l,n,i+1=>by
  simp only[vq,List.getElem?_cons_succ];rw[HU p l (n-1) i,show n-1-1-i=n-1-(i+1) by omega]
theorem AH.get_kill(H:AH)(p:Nat->Blk->Bool)(b:Nat):(H.kill p).get b=(H.get b).map λx=>if p b x then{x with st:=2,ver:=x.ver+1}else x:=by
 by_cases h:b<H.n
 .rw[AH.get_pos (H:=H.kill p) (by trivial),AH.get_pos h]
  show(vq p H.n H.l)[H.n-1-b]?=_
  rw[HU,show H.n-1-(H.n-1-b)=b by omega]
 .rw[AH.get_neg (by trivial),AH.get_neg h];rfl
structure Pl where
 c:Nat
 s:Nat
 nc:Nat
 esz:Nat
 top:Nat
 exact:Bool
variable{p:Pl}
abbrev bJ:=Nat->Option Pl
variable{φ' φ'' φ1 φ2 φ0:bJ}
def acs(p:Pl)(off cap cap':Nat):Prop:=
 cap'=cap∨(p.exact=false∧off+cap*p.esz=p.nc∧cap<=cap'∧p.s+off+cap'*p.esz<=p.top)
def YR(φ:bJ)(a a':Addr):Prop:=a.spot=none∧a'.spot=none∧∃p,φ a.block=some p∧a'.block=p.c∧a'.off=p.s+a.off
def SF(φ:bJ)(a:Addr)(n c:Nat)(a':Addr)(c':Nat):Prop:=
 (a.spot=none∧a'.spot=none∧∃p,φ a.block=some p∧a'.block=p.c∧a'.off=p.s+a.off∧acs p a.off c c')∨(a.spot=none∧n=0∧c=0∧c'=0∧∃p,φ a.block=some p)
mutual
def am(φ:bJ):Value->Value->Prop
 |.pointer (some a),v'=>∃a',v'=.pointer (some a')∧YR φ a a'
 |.slice (some a) n c,v'=>∃a' c',v'=.slice (some a') n c'∧SF φ a n c a' c'
 |.agg ⟨cs⟩,v'=>∃cs',v'=.agg ⟨cs'⟩∧au φ cs cs'
 |.tuple ⟨cs⟩,v'=>∃cs',v'=.tuple ⟨cs'⟩∧au φ cs cs'
 |.iface t v,v'=>∃u,v'=.iface t u∧am φ v u
 |.func fn ⟨x⟩ ⟨y⟩,v'=>(match fn with|.yield _=>False|_=>True)∧∃x' y',v'=.func fn ⟨x'⟩ ⟨y'⟩∧au φ x x'∧au φ y y'
 |.chan (some _),v'=>∃a,v'=.pointer a
 |.map (some _),_=>False
 |v,v'=>v'=v
def au(φ:bJ):LvQ->LvQ->Prop
 |[],l'=>l'=[]
 |v::l,l'=>∃u r,l'=u::r∧am φ v u∧au φ l r
end
def PLe(φ φ':bJ):Prop:=∀b p,φ b=some p->φ' b=some p
theorem PLe.refl(φ:bJ):PLe φ φ:=λ_ _ h=>h
theorem PLe.trans{φ:bJ}(h:PLe φ φ')(h':PLe φ' φ''):PLe φ φ'':=λb p hb=>h' b p (h b p hb)
theorem YR.mono{φ:bJ}(h:PLe φ φ'){a a':Addr}:YR φ a a'->YR φ' a a':=by rintro⟨h1,h2,p,hp,h3,h4⟩;exact⟨h1,h2,p,h _ _ hp,h3,h4⟩
theorem SF.mono{φ:bJ}(h:PLe φ φ'){a a':Addr}{c':Nat}:SF φ a n c a' c'->SF φ' a n c a' c':=by
 rintro(⟨h1,h2,p,hp,h3,h4⟩|⟨h1,h3,h4,h5,p,hp⟩)
 .exact .inl ⟨h1,h2,p,h _ _ hp,h3,h4⟩
 .exact .inr ⟨h1,h3,h4,h5,p,h _ _ hp⟩
mutual
theorem am.mono{φ φ':bJ}(h:PLe φ φ'):∀(v v':Value),am φ v v'->am φ' v v'
 | .pointer (some a),v',hv=>by
  grind[am,YR.mono]
 | .slice (some a) n c,v',hv=>by
  grind[am,SF.mono]
 | .agg ⟨cs⟩,v',hv=>by
  simp only[am]at hv ⊢;obtain⟨cs',e,r⟩:=hv;exact⟨cs',e,au.mono h cs cs' r⟩
 | .tuple ⟨cs⟩,v',hv=>by
  simp only[am]at hv ⊢;obtain⟨cs',e,r⟩:=hv;exact⟨cs',e,au.mono h cs cs' r⟩
 | .iface t v,v',hv=>by
  simp only[am]at hv ⊢;obtain⟨u,e,r⟩:=hv;exact⟨u,e,am.mono h v u r⟩
 | .func fn ⟨x⟩ ⟨y⟩,v',hv=>by
  simp only[am]at hv ⊢;obtain⟨h0,x',y',e,r,q⟩:=hv;exact⟨h0,x',y',e,au.mono h x x' r,au.mono h y y' q⟩
 |.chan (some _),v',hv=>by trivial
 |.map (some _),_,hv=>by trivial
 |.bool _,_,hv=>by trivial
 |.int _ _,_,hv=>by trivial
 |.float _ _,_,hv=>by trivial
 |.complex _ _ _,_,hv=>by trivial
 |.string _,_,hv=>by trivial
 |.pointer none,_,hv=>by trivial
 |.slice none _ _,_,hv=>by trivial
 |.map none,_,hv=>by trivial
 |.chan none,_,hv=>by trivial
 |.nilFunc,_,hv=>by trivial
 |.nilIface,_,hv=>by trivial
theorem au.mono{φ φ':bJ}(h:PLe φ φ'):∀(l l':LvQ),au φ l l'->au φ' l l'
 |[],l',hl=>by trivial
 | v::l,l',hl=>by
  simp only[au]at hl ⊢;obtain⟨u,r,e,hv,hr⟩:=hl;exact⟨u,r,e,am.mono h v u hv,au.mono h l r hr⟩
end
mutual
theorem am.of_plain{φ:bJ}:∀(v:Value),plain v=true->∀v',am φ v v'↔v'=v
 |.pointer (some a),h,_=>by trivial
 |.slice (some a) n c,h,_=>by trivial
 | .agg ⟨cs⟩,h,v'=>by
  simp only[plain]at h;simp only[am];constructor
  .rintro⟨cs',rfl,r⟩;rw[(au.of_plain cs h cs').1 r]
  .rintro rfl;exact⟨cs,rfl,(au.of_plain cs h cs).2 rfl⟩
 | .tuple ⟨cs⟩,h,v'=>by
  simp only[plain]at h;simp only[am];constructor
  .rintro⟨cs',rfl,r⟩;rw[(au.of_plain cs h cs').1 r]
  .rintro rfl;exact⟨cs,rfl,(au.of_plain cs h cs).2 rfl⟩
 | .iface t v,h,v'=>by
  simp only[plain]at h;simp only[am];constructor
  .rintro⟨u,rfl,r⟩;rw[(am.of_plain v h u).1 r]
  .rintro rfl;exact⟨v,rfl,(am.of_plain v h v).2 rfl⟩
 | .func fn ⟨x⟩ ⟨y⟩,h,v'=>by
  simp only[plain,Z7]at h;simp only[am];constructor
  .rintro⟨_,x',y',rfl,r,q⟩;rw[(au.of_plain x h.1.2 x').1 r,(au.of_plain y h.2 y').1 q]
  .rintro rfl;refine⟨?_,x,y,rfl,(au.of_plain x h.1.2 x).2 rfl,(au.of_plain y h.2 y).2 rfl⟩
   grind
 |.chan (some _),h,_=>by trivial
 |.map (some _),h,_=>by trivial
 |.bool _,_,_=>by rfl
 |.int _ _,_,_=>by rfl
 |.float _ _,_,_=>by rfl
 |.complex _ _ _,_,_=>by rfl
 |.string _,_,_=>by rfl
 |.pointer none,_,_=>by rfl
 |.slice none _ _,_,_=>by rfl
 |.map none,_,_=>by rfl
 |.chan none,_,_=>by rfl
 |.nilFunc,_,_=>by rfl
 |.nilIface,_,_=>by rfl
theorem au.of_plain{φ:bJ}:∀(l:LvQ),cV l=true->∀l',au φ l l'↔l'=l
 |[],_,l'=>by rfl
 | v::l,h,l'=>by
  simp only[cV,Z7]at h;simp only[au];constructor
  .rintro⟨u,r,rfl,hv,hr⟩;rw[(am.of_plain v h.1 u).1 hv,(au.of_plain l h.2 r).1 hr]
  .rintro rfl;exact⟨v,l,rfl,(am.of_plain v h.1 v).2 rfl,(au.of_plain l h.2 l).2 rfl⟩
end
theorem mf{φ:bJ}:∀(l l':LvQ),au φ l l'↔l.length=l'.length∧∀(i:Nat)(v v':Value),l[i]?=some v->l'[i]?=some v'->am φ v v'
 | [],l'=>by
  grind[au]
 |v::l,[]=>by simp[au]
 | v::l,u::r=>by
  simp only[au,List.length_cons,Nat.add_right_cancel_iff];constructor
  .rintro⟨u',r',e,hv,hr⟩;obtain⟨rfl,rfl⟩:=List.cons.inj e;obtain⟨h1,h2⟩:=(mf l r).1 hr
   grind
  .rintro⟨h1,h2⟩;exact⟨u,r,rfl,h2 0 v u ac ac,(mf l r).2 ⟨h1,λi x x' hx hx'=>h2 (i+1) x x' (by trivial) (by trivial)⟩⟩
theorem au.length{φ:bJ}{l l':LvQ}(h:au φ l l'):l.length=l'.length:=((mf l l').1 h).1
theorem au.at{φ:bJ}{l l':LvQ}(h:au φ l l'){v:Value}(hi:l[i]?=some v):∃v',l'[i]?=some v'∧am φ v v':=by
 obtain⟨h1,h2⟩:=(mf l l').1 h
 have hlt:i<l.length:=by
  rcases Zi i l.length with h'|h'
  .exact h'
  .grind
 have:l'[i]?=some l'[i]:=List.getElem?_eq_getElem aa
 grind
theorem au.none{φ:bJ}{l l':LvQ}(h:au φ l l'){i:Nat}(hi:l[i]?=none):l'[i]?=none:=by grind[length]
theorem au.nil(φ:bJ):au φ [] []:=by rfl
theorem au.cons{φ:bJ}{v:Value}{l r:LvQ}(hv:am φ v u)(h:au φ l r):au φ (v::l) (u::r):=by grind[au]
theorem au.append{φ:bJ}:∀{l l' m m':LvQ},au φ l l'->au φ m m'->au φ (l++m) (l'++m')
 |[],l',m,m',h,hm=>by grind[au]
 | v::l,l',m,m',h,hm=>by
  simp only[au]at h;obtain⟨u,r,rfl,hv,hr⟩:=h;exact au.cons hv (au.append hr hm)
theorem au.take{φ:bJ}(n:Nat){l l':LvQ}(h:au φ l l'):au φ (l.take n) (l'.take n):=by grind[mf]
theorem au.drop{φ:bJ}(n:Nat){l l':LvQ}(h:au φ l l'):au φ (l.drop n) (l'.drop n):=by grind[mf]
theorem au.set{φ:bJ}{l l':LvQ}(h:au φ l l')(i:Nat){v v':Value}(hv:am φ v v'):au φ (l.set i v) (l'.set i v'):=by
 rw[mf]at h ⊢;refine⟨by grind,λj u u' hu hu'=>?_⟩;rw[List.getElem?_set]at hu hu';by_cases hij:i=j
 .subst hij;simp only[if_true]at hu hu';split at hu
  .rw[if_pos aa]at hu'
   grind
  trivial
 grind
theorem am.undef(φ:bJ):am φ undef undef:=(am.of_plain _ rfl _).2 rfl
theorem au.getD{φ:bJ}{l l':LvQ}(h:au φ l l')(i:Nat):am φ (l.getD i Go.undef) (l'.getD i Go.undef):=by
 simp only[List.getD];cases hi:l[i]? with
 |none=>grind[none,am.undef]
 | some v=>
  obtain⟨v',h1,h2⟩:=h.at hi
  grind
theorem au.replicate{φ:bJ}(n:Nat){v v':Value}(h:am φ v v'):au φ (List.replicate n v) (List.replicate n v'):=by
 induction n with
 |zero=>rfl
 |succ n ih=>grind[cons]
theorem au.map{φ:bJ}{α:Type}{f g:α->Value}(h:∀x,am φ (f x) (g x)):∀(l:List α),au φ (l.map f) (l.map g)
 |[]=>au.nil φ
 |x::l=>au.cons (h x) (au.map h l)
theorem am.okCell{φ:bJ}{v v':Value}(h:am φ v v')(hv:okCell v=true):v'.oneCell'=true:=by
 cases v<;>first
  |(simp[Am.okCell]at hv;done)
  |skip
 case pointer a=>cases a<;>simp only[am]at h<;>(try obtain⟨_,rfl,_⟩:=h)<;>(try subst h)<;>rfl
 case slice a _ _=>cases a<;>simp only[am]at h<;>(try obtain⟨_,_,rfl,_⟩:=h)<;>(try subst h)<;>rfl
 case chan a=>cases a<;>simp only[am]at h<;>(try obtain⟨_,rfl⟩:=h)<;>(try subst h)<;>rfl
 case map a=>cases a<;>simp only[am]at h<;>(try subst h)<;>rfl
 case iface t v=>simp only[am]at h;obtain⟨_,rfl,_⟩:=h;rfl
 case func fn x y=>obtain⟨x⟩:=x;obtain⟨y⟩:=y;simp only[am]at h;obtain⟨_,_,_,rfl,_⟩:=h;rfl
 all_goals(simp only[am]at h;subst h;rfl)
theorem am.cells{φ:bJ}{v v':Value}(h:am φ v v'):au φ v.cells.toList v'.cells.toList:=by
 cases v with
 | agg cs=>
  obtain⟨cs⟩:=cs;simp only[am]at h;obtain⟨cs',rfl,h⟩:=h;exact h
 |pointer a=>cases a<;>simp only[am]at h<;>(try obtain⟨_,rfl,h⟩:=h)<;>(try subst h)<;>exact au.cons (by simp only[am]<;>exact⟨_,rfl,h⟩) (au.nil φ)
 |slice a _ _=>cases a<;>simp only[am]at h<;>(try obtain⟨_,_,rfl,h⟩:=h)<;>(try subst h)<;>exact au.cons (by simp only[am]<;>exact⟨_,_,rfl,h⟩) (au.nil φ)
 | chan a=>cases a with
  |none=>simp only[am]at h;subst h;exact au.cons (by rfl) (au.nil φ)
  |some n=>simp only[am]at h;obtain⟨a,rfl⟩:=h;exact au.cons (by simp[am]) (au.nil φ)
 |map a=>cases a<;>simp only[am]at h<;>(try subst h)<;>exact au.cons (by rfl) (au.nil φ)
 |iface t x=>simp only[am]at h;obtain⟨_,rfl,h⟩:=h;exact au.cons (by grind[am]) (au.nil φ)
 |func fn x y=>obtain⟨x⟩:=x;obtain⟨y⟩:=y;simp only[am]at h;obtain⟨h0,_,_,rfl,h⟩:=h;exact au.cons (by grind[am]) (au.nil φ)
 |tuple x=>obtain⟨x⟩:=x;simp only[am]at h;obtain⟨_,rfl,h⟩:=h;exact au.cons (by grind[am]) (au.nil φ)
 |_=>simp only[am]at h;subst h;exact au.cons (by simp only[am]) (au.nil φ)
structure bp(X:Cfg)(φ:bJ)(H:AH)(w:World):Prop where
 glob:∀g,X.glob g=true->∃p,φ g=some p∧p.c=g∧p.s=0
 dom:∀b p,φ b=some p->∃x cs e fz,H.get b=some x∧x.st≠0∧x.cells.length=p.nc∧x.exact=p.exact∧x.esz=p.esz∧w.heap[p.c]?=some (.cells cs e fz)∧cs.size=p.top∧p.s+p.nc<=p.top
 cell:∀b p x (i:Nat) (v:Value),φ b=some p->H.get b=some x->x.st=1->x.cells[i]?=some v->∃v',w.cell? ⟨p.c,p.s+i,none⟩=some v'∧am φ v v'
 frz:∀b p x (i:Nat),φ b=some p->H.get b=some x->x.wr=true->i<p.top->w.frozen? ⟨p.c,i,none⟩=false
 sep:∀b b' p p' x x',φ b=some p->φ b'=some p'->H.get b=some x->H.get b'=some x'->x.st=1->x'.st=1->b≠b'->p.c=p'.c ->
  (x.wr=false∧x'.wr=false)∨(x.fam=x'.fam∧x.shared=true∧x'.shared=true∧p.s+x'.start=p'.s+x.start)
def Over(φ:bJ)(H:AH)(c:Nat):Prop:=∃b p x,φ b=some p∧p.c=c∧H.get b=some x∧x.st=1∧x.wr=true
structure Ext(φ:bJ)(H:AH)(w:World)(φ':bJ)(H':AH)(w':World):Prop where
 le:PLe φ φ'
 size:w.heap.size<=w'.heap.size
 frame:∀c,c<w.heap.size->¬Over φ H c->w'.heap[c]?=w.heap[c]?
 new:∀b p,φ' b=some p->φ b=none->w.heap.size<=p.c∨Over φ H p.c
 back:∀b p x',φ b=some p->H'.get b=some x'->x'.st=1->x'.wr=true->∃x,H.get b=some x∧x.st=1∧x.wr=true
 abs:∀b x,φ' b=none->H.get b=some x->x.shared=false->x.st≠0->H'.get b=some x
 os:w'.os=w.os
 out:w'.output=w.output
def fu(L:Nat)(r:Option Nat)(φ φ':bJ):Prop:=∀b p,φ' b=some p->φ b=none->L<=b∨r=some b
theorem fu.refl(L:Nat)(r:Option Nat)(φ:bJ):fu L r φ φ:=λb p h h'=>(by grind)
theorem fu.trans{φ:bJ}(h:fu L none φ φ')(h':fu L' none φ' φ'')(hl:L<=L'):fu L none φ φ'':=λb p hb hn=>by
  cases hb':φ' b with
  | none => rcases h' b p hb hb' with g|g
            · omega
            · cases g
  |some q=>exact h b q hb' hn
theorem Ext.refl(φ:bJ)(H:AH)(w:World):Ext φ H w φ H w:=
 ⟨PLe.refl φ,Z8 _,λ_ _ _=>rfl,λb p h h'=>(by grind),λ_ _ x' _ h h1 h2=>⟨x',h,h1,h2⟩,λ_ _ _ h _ _=>h,rfl,rfl⟩
theorem Ext.over{φ:bJ}{H:AH}{w:World}{H':AH}(h:Ext φ H w φ' H' w')(hc:c<w.heap.size):Over φ' H' c->Over φ H c:=by
 rintro⟨b,p,x,hp,rfl,hx,h1,h2⟩;cases hb:φ b with
 | none=>
  rcases h.new b p hp hb with hs|ho
  .omega
  omega
 | some q=>
  have:=h.le b q hb;rw[hp]at this;cases this;obtain⟨y,hy,y1,y2⟩:=h.back b p x hb hx h1 h2;exact⟨b,p,y,hb,rfl,hy,y1,y2⟩
theorem Ext.trans{φ:bJ}{H:AH}{w:World}{φ':bJ}{H':AH}{w':World}{φ'':bJ}{H'':AH}{w'':World}
  (h:Ext φ H w φ' H' w') (h':Ext φ' H' w' φ'' H'' w''):Ext φ H w φ'' H'' w'' where
 os:=h'.os.trans h.os
 out:=h'.out.trans h.out
 le:=h.le.trans h'.le
 size:=Zy h.size h'.size
 frame c hc ho:=by
  rw[h'.frame c (Z0 hc h.size) (λo=>ho (h.over hc o)),h.frame c hc ho]
 new b p hp hn:=by
  cases hb:φ' b with
  | none=>
   rcases h'.new b p hp hb with hs|ho
   .exact .inl (Zy h.size hs)
   .by_cases hc:p.c<w.heap.size
    .grind[over]
    .exact .inl aa
  | some q=>
   have:=h'.le b q hb;rw[hp]at this;cases this;exact h.new b p hb hn
 back b p x' hp hx h1 h2:=by
  obtain⟨y,hy,y1,y2⟩:=h'.back b p x' (h.le b p hp) hx h1 h2
  grind[back]
 abs b x hn hx h1 h2:=by
  have:φ' b=none:=by
   cases hb:φ' b with
   |none=>rfl
   |some q=>rw[h'.le b q hb]at hn;cases hn
  grind[abs]
theorem bp.same_heap{X:Cfg}{φ:bJ}{H:AH}{w:World}(h:bp X φ H w)(e:w'.heap=w.heap):bp X φ H w' where
 glob:=h.glob
 dom b p hp:=by rw[e];exact h.dom b p hp
 cell b p x i v hp hx h1 hv:=by
  have:w'.cell?=w.cell?:=by funext a;simp only[World.cell?,e]
  rw[this];grind[cell]
 frz b p x i hp hx h1 hi:=by
  have:w'.frozen?=w.frozen?:=by funext a;simp only[World.frozen?,e]
  rw[this];grind[frz]
 sep:=h.sep
theorem Ext.same_heap{φ:bJ}{H:AH}{w:World}(e:w'.heap=w.heap)(e1:w'.os=w.os:=by rfl)(e2:w'.output=w.output:=by rfl):Ext φ H w φ H w' where
 os:=e1
 out:=e2
 le:=PLe.refl φ
 size:=by grind
 frame _ _ _:=by rw[e]
 new b p h h':=by grind
 back _ _ x' _ h h1 h2:=⟨x',h,h1,h2⟩
 abs _ _ _ h _ _:=h
structure Wk(H H':AH):Prop where
 to:∀b x,H.get b=some x->∃x',H'.get b=some x'∧x'.cells=x.cells∧x'.wr=x.wr∧x'.fam=x.fam∧x'.start=x.start∧x'.exact=x.exact∧x'.esz=x.esz∧(x'.st=x.st∨(x.st=1∧x'.st=2))∧(x.shared=true->x'.shared=true)
theorem Wk.trans{H H' H'':AH}(h:Wk H H')(h':Wk H' H''):Wk H H'':=⟨λb x hx=>by
 obtain⟨y,hy,e1,e2,e3,e4,e5,e6,e7,e8⟩:=h.to b x hx;obtain⟨z,hz,f1,f2,f3,f4,f5,f6,f7,f8⟩:=h'.to b y hy;refine⟨z,hz,f1.trans e1,f2.trans e2,f3.trans e3,f4.trans e4,f5.trans e5,f6.trans e6,?_,λhs=>f8 (e8 hs)⟩;rcases e7 with e|⟨e,e'⟩<;>rcases f7 with f|⟨f,f'⟩
 .omega
 .omega
 .omega
 .omega⟩
theorem Wk.kill(H:AH)(p:Nat->Blk->Bool)(hp:∀b x,p b x=true->x.st=1):Wk H (H.kill p):=⟨λb x hx=>by
 grind[AH.get_kill]⟩
theorem bp.weaken{X:Cfg}{φ:bJ}{H H':AH}{w:World}(h:bp X φ H w)(k:Wk H H'):bp X φ H' w:=by
 have key:∀b p x',φ b=some p->H'.get b=some x'->∃x,H.get b=some x∧x'.cells=x.cells∧x'.wr=x.wr∧x'.fam=x.fam∧x'.start=x.start∧(x'.st=1->x.st=1)∧(x.shared=true->x'.shared=true):=by
  intro b p x' hp hx';obtain⟨x,_,_,_,hx,_⟩:=h.dom b p hp;obtain⟨y,hy,e1,e2,e3,e4,e5,e6,e7,e8⟩:=k.to b x hx;rw[hx']at hy;cases hy;exact⟨x,hx,e1,e2,e3,e4,λh1=>by rcases e7 with e|⟨e,_⟩<;>omega,e8⟩
 refine⟨h.glob,?_,?_,?_,?_⟩
 .intro b p hp;obtain⟨x,cs,e,fz,hx,h1,h2,h3,h4,h5⟩:=h.dom b p hp;obtain⟨y,hy,e1,e2,e3,e4,e5,e6,e7,e8⟩:=k.to b x hx;exact⟨y,cs,e,fz,hy,by rcases e7 with e'|⟨_,e'⟩<;>omega,by grind,by grind,aa,h5⟩
 .grind[cell]
 .grind[frz]
 .intro b b' p p' x x' hp hp' hx hx' h1 h1' hne hc;obtain⟨y,hy,e1,e2,e3,e4,e5,e6⟩:=key b p x hp hx;obtain⟨y',hy',f1,f2,f3,f4,f5,f6⟩:=key b' p' x' hp' hx';rcases h.sep b b' p p' y y' hp hp' hy hy' (e5 h1) (f5 h1') hne hc with⟨g1,g2⟩|⟨g1,g2,g3,g4⟩
  .grind
  grind
theorem Ext.weaken{φ:bJ}{H H':AH}{w:World}(hd:∀b p,φ b=some p->∃x,H.get b=some x)(k:Wk H H')(ka:∀b x,φ b=none->H.get b=some x->x.shared=false->H'.get b=some x):Ext φ H w φ H' w where
 os:=rfl
 out:=rfl
 le:=PLe.refl φ
 size:=Z8 _
 frame _ _ _:=rfl
 new b p h h':=by grind
 back b p x' hp hx' h1 h2:=by
  obtain⟨x,hx⟩:=hd b p hp;obtain⟨y,hy,e1,e2,e3,e4,e5,e6,e7,e8⟩:=k.to b x hx;rw[hx']at hy;cases hy;exact⟨x,hx,by rcases e7 with e|⟨e,_⟩<;>omega,e2▸h2⟩
 abs b x hn hx h1 _:=ka b x hn hx h1
def yV(φ:bJ)(b:Nat)(p:Pl):bJ:=λi=>if i=b then some p else φ i
theorem dO(φ:bJ)(b:Nat)(p:Pl):yV φ b p b=some p:=by simp[yV]
theorem fU{φ:bJ}(h:i≠b):yV φ b p i=φ i:=by simp[yV,h]
theorem PLe.add{φ:bJ}(h:φ b=none):PLe φ (yV φ b p):=λi q hi=>by
 grind[fU]
theorem GV{w:World}(h:w.heap[c]?=some (.cells cs e fz)):w.cell? ⟨c,i,none⟩=cs[i]?:=by simp[World.cell?,h]
theorem heap_alloc_new(w:World)(o:Obj):(w.alloc o).heap[w.heap.size]?=some o:=by
 show(w.heap.push o)[w.heap.size]?=some o
 simp
theorem heap_alloc_old{w:World}{o:Obj}(h:c<w.heap.size):(w.alloc o).heap[c]?=w.heap[c]?:=by
 show(w.heap.push o)[c]?=w.heap[c]?
 grind
theorem lt_of_heap{w:World}{o:Obj}(h:w.heap[c]?=some o):c<w.heap.size:=by grind
theorem bp.lt{X:Cfg}{φ:bJ}{H:AH}{w:World}(h:bp X φ H w)(hp:φ b=some p):p.c<w.heap.size:=by
 obtain⟨_,_,_,_,_,_,_,_,_,h5,_⟩:=h.dom b p hp
 grind
theorem bp.newF{X:Cfg}{φ:bJ}{H H':AH}{w:World}(h:bp X φ H w){b:Nat}{x:Blk}(hb:φ b=none)
  (hx:H'.get b=some x) (ho:∀i,i≠b->H'.get i=H.get i) (hst:x.st=1) {cs:Array Value} {e:TypeId} (fz:Nat×Nat) (hfz:∀i,i<cs.size->¬(fz.1<=i∧i<fz.2))
  (hl:x.cells.length<=cs.size) (hr:∀(i:Nat)(v:Value),x.cells[i]?=some v->∃v',cs[i]?=some v'∧am φ v v') :
  bp X (yV φ b ⟨w.heap.size,0,x.cells.length,x.esz,cs.size,x.exact⟩) H' (w.alloc (.cells cs e fz)) ∧
  Ext φ H w (yV φ b ⟨w.heap.size,0,x.cells.length,x.esz,cs.size,x.exact⟩) H' (w.alloc (.cells cs e fz)):=by
 have hle:PLe φ (yV φ b ⟨w.heap.size,0,x.cells.length,x.esz,cs.size,x.exact⟩):=PLe.add hb;have hne:∀{i p},φ i=some p->i≠b:=λhi e=>by grind
 refine⟨⟨?_,?_,?_,?_,?_⟩,⟨hle,ac,?_,?_,?_,?_,rfl,rfl⟩⟩
 .intro g hg;obtain⟨p,hp,h1⟩:=h.glob g hg;exact⟨p,hle g p hp,h1⟩
 .intro i p hp;by_cases e':i=b
  .subst e';rw[dO]at hp;cases hp;exact⟨x,cs,e,fz,hx,aa,rfl,rfl,rfl,heap_alloc_new w _,rfl,by grind⟩
  .rw[fU e']at hp;obtain⟨y,cs',e2,fz,h0,h1,h2,h3,h4,h5,h6⟩:=h.dom i p hp
   grind[heap_alloc_old]
 .intro i p y k v hp hy h1 hv;by_cases e':i=b
  .subst e';rw[dO]at hp;cases hp
   grind[GV,heap_alloc_new,am.mono]
  .rw[fU e']at hp;rw[ho i e']at hy;obtain⟨v',hv',hr'⟩:=h.cell i p y k v hp hy h1 hv;exact⟨v',by rw[World.cell?_alloc_lt _ _ _ (h.lt hp)];omega,am.mono hle v v' hr'⟩
 .intro i p y k hp hy h1 hk;by_cases e':i=b
  .grind[dO,World.frozen?,heap_alloc_new]
  .rw[fU e']at hp;rw[ho i e']at hy;rw[World.frozen?_alloc_old _ _ _ (Nat.ne_of_lt (h.lt hp))]
   grind[frz]
 .intro i i' p p' y y' hp hp' hy hy' h1 h1' hne' hc;by_cases e1:i=b
  .subst e1;rw[dO]at hp;cases hp;have e2:i'≠i:=λe=>hne' e.symm
   rw[fU e2]at hp';have:=h.lt hp'
   grind
  .by_cases e2:i'=b
   .subst e2;rw[dO]at hp';cases hp';rw[fU e1]at hp;have:=h.lt hp
    grind
   grind[fU,sep]
 .grind[heap_alloc_old]
 .grind[dO,fU]
 .grind
 grind[dO]
theorem bp.new{X:Cfg}{φ:bJ}{H H':AH}{w:World}(h:bp X φ H w){b:Nat}{x:Blk}(hb:φ b=none)
  (hx:H'.get b=some x) (ho:∀i,i≠b->H'.get i=H.get i) (hst:x.st=1) {cs:Array Value} {e:TypeId}
  (hl:x.cells.length<=cs.size) (hr:∀(i:Nat)(v:Value),x.cells[i]?=some v->∃v',cs[i]?=some v'∧am φ v v') :
  bp X (yV φ b ⟨w.heap.size,0,x.cells.length,x.esz,cs.size,x.exact⟩) H' (w.alloc (.cells cs e)) ∧
  Ext φ H w (yV φ b ⟨w.heap.size,0,x.cells.length,x.esz,cs.size,x.exact⟩) H' (w.alloc (.cells cs e)):=
 h.newF hb hx ho hst (0,0) (λ_ _=>by simp) hl hr
theorem heap_setCell_other{w:World}{a:Addr}{v:Value}(h:c≠a.block):(w.setCell a v).heap[c]?=w.heap[c]?:=by grind[World.setCell]
theorem heap_setCell_same{w:World}{o:Nat}{v:Value}(h:w.heap[b]?=some (.cells cs e fz)):
  (w.setCell ⟨b,o,none⟩ v).heap[b]?=some (.cells (cs.setIfInBounds o v) e fz):=by grind[World.setCell]
theorem heap_setCells_other{b c:Nat}(h:c≠b):∀(vs:LvQ)(o:Nat)(w:World),(w.setCells b o vs).heap[c]?=w.heap[c]?
 |[],_,_=>rfl
 |v::r,o,w=>by rw[World.setCells,heap_setCells_other h r,heap_setCell_other aa]
theorem jq{b:Nat}{e:TypeId}{fz:Nat×Nat}:∀(vs:LvQ)(o:Nat)(w:World)(cs:Array Value),w.heap[b]?=some (.cells cs e fz) ->
  ∃cs',(w.setCells b o vs).heap[b]?=some (.cells cs' e fz)∧cs'.size=cs.size
 |[],_,_,cs,h=>⟨cs,h,rfl⟩
 | v::r,o,w,cs,h=>by
  obtain⟨cs',h1,h2⟩:=jq r (o+1) _ _ (heap_setCell_same (o:=o) (v:=v) h);exact⟨cs',h1,by grind⟩
theorem size_setCells(b:Nat):∀(vs:LvQ)(o:Nat)(w:World),(w.setCells b o vs).heap.size=w.heap.size
 |[],_,_=>rfl
 |v::r,o,w=>by rw[World.setCells,size_setCells b r,World.size_setCell]
theorem os_setCells(b:Nat):∀(vs:LvQ)(o:Nat)(w:World),(w.setCells b o vs).os=w.os
 |[],_,_=>rfl
 |v::r,o,w=>by rw[World.setCells,os_setCells b r];rfl
theorem uJ(b:Nat):∀(vs:LvQ)(o:Nat)(w:World),(w.setCells b o vs).output=w.output
 |[],_,_=>rfl
 |v::r,o,w=>by rw[World.setCells,uJ b r];rfl
theorem cell_of_heap{w:World}(h:w.heap[c]?=some (.cells cs e fz)):w.cell? ⟨c,i,none⟩=cs[i]?:=by simp[World.cell?,h]
theorem Ni(l:LvQ)(off:Nat)(vs:LvQ)(h:off+vs.length<=l.length)(i:Nat):
  (splice l off vs)[i]?=if i<off then l[i]? else if i<off+vs.length then vs[i-off]? else l[i]?:=by
 unfold splice;rw[List.append_assoc,List.getElem?_append];have hlt:(l.take off).length=off:=by simp;omega
 rw[hlt];by_cases h1:i<off
 .rw[if_pos h1,if_pos h1,List.getElem?_take_of_lt h1]
 .rw[if_neg h1,if_neg h1,List.getElem?_append];by_cases h2:i<off+vs.length
  .rw[if_pos aa,if_pos h2]
  .rw[if_neg aa,if_neg h2,List.getElem?_drop]
   grind
theorem tf(l:LvQ)(off:Nat)(vs:LvQ)(h:off+vs.length<=l.length):(splice l off vs).length=l.length:=by grind[splice]
theorem bp.write{X:Cfg}{φ:bJ}{H H':AH}{w:World}(h:bp X φ H w){b off:Nat}{vs vs':LvQ}(hw:kE H b off vs=some H')
  {p:Pl} (hp:φ b=some p) (hv:au φ vs vs') :
  bp X φ H' (w.setCells p.c (p.s+off) vs')∧Ext φ H w φ H' (w.setCells p.c (p.s+off) vs') ∧
  (∀j,j<vs'.length->(w.cell? ⟨p.c,p.s+off+j,none⟩).isSome=true)∧(∀j,j<vs'.length->w.frozen? ⟨p.c,p.s+off+j,none⟩=false)∧(∀v∈vs',v.oneCell'=true):=by
 obtain⟨x,cs,e,fz,hx,h1,h2,h3,h4,h5,h6,h7⟩:=h.dom b p hp;unfold kE at hw;rw[hx]at hw;simp only at hw;split at hw
 case isFalse=>cases hw
 case isTrue hc=>
 obtain⟨c1,c2,c3,c4⟩:=hc;cases hw;have hlen:=hv.length
 have hsome:∀j,j<vs'.length->(w.cell? ⟨p.c,p.s+off+j,none⟩).isSome=true:=by
  intro j hj;rw[cell_of_heap h5,Array.getElem?_eq_getElem aa];rfl
 have hfz:∀j,j<vs'.length->w.frozen? ⟨p.c,p.s+off+j,none⟩=false:=λj hj=>h.frz b p x _ hp hx c2 aa
 have hone:∀v∈vs',v.oneCell'=true:=by
  intro v hvm;obtain⟨j,hj,rfl⟩:=List.getElem_of_mem hvm;have hj':j<vs.length:=aa;have hr:=((mf vs vs').1 hv).2 j vs[j] vs'[j] (List.getElem?_eq_getElem hj') (List.getElem?_eq_getElem hj);exact hr.okCell (Z1.1 c4 _ (Xs hj'))
 -- the heap behind the kill
 have hkill:∀(i:Nat),i≠b->((if x.shared then H.kill (kin b x.fam)else H).set b {x with cells:=splice x.cells off vs,ver:=x.ver+1,shared:=false}).get i =
   (H.get i).map λy=>if x.shared&&kin b x.fam i y then{y with st:=2,ver:=y.ver+1}else y:=by
  intro i hi;cases hs:x.shared with
  | false=>
   grind[AH.get_set,AH.get]
  | true=>
   simp only[if_true,Yp];have hxk:∃y,(H.kill (kin b x.fam)).get b=some y:=by rw[AH.get_kill,hx];exact⟨_,rfl⟩
   grind[AH.get_set,AH.get_kill]
 have hself:((if x.shared then H.kill (kin b x.fam)else H).set b {x with cells:=splice x.cells off vs,ver:=x.ver+1,shared:=false}).get b=some {x with cells:=splice x.cells off vs,ver:=x.ver+1,shared:=false}:=by
  have hxk:∃y,(if x.shared then H.kill (kin b x.fam)else H).get b=some y:=by
   split
   .grind[AH.get_kill]
   .grind
  obtain⟨y,hy⟩:=hxk;rw[AH.get_set hy,if_pos rfl]
 -- what another block is,in H
 have hother:∀i y',i≠b->((if x.shared then H.kill (kin b x.fam)else H).set b {x with cells:=splice x.cells off vs,ver:=x.ver+1,shared:=false}).get i=some y' ->
   ∃y,H.get i=some y∧y'.cells=y.cells∧y'.wr=y.wr∧y'.fam=y.fam∧y'.start=y.start∧y'.exact=y.exact∧y'.esz=y.esz∧y'.shared=y.shared∧(y'.st=1->y.st=1∧(x.shared&&kin b x.fam i y)=false)∧(y.st≠0->y'.st≠0):=by
  intro i y' hi hy';rw[hkill i hi]at hy';cases hy:H.get i with
  |none=>grind
  | some y=>
   rw[hy]at hy';simp only[Option.map_some,Z9]at hy';subst hy';by_cases hk:(x.shared&&kin b x.fam i y)=true
   .simp only[hk,if_true];exact⟨y,rfl,rfl,rfl,rfl,rfl,rfl,rfl,rfl,λh=>by omega,λ_=>by simp⟩
   grind
 -- a live block beside b lies over another block of the world
 have hapart:∀i q y,i≠b->φ i=some q->H.get i=some y->y.st=1->(x.shared&&kin b x.fam i y)=false->q.c≠p.c:=by
  intro i q y hi hq hy hy1 hk hc;rcases h.sep b i p q x y hp hq hx hy c1 hy1 (λe=>hi e.symm) hc.symm with⟨g,_⟩|⟨g1,g2,g3,_⟩
  .grind
  .grind[kin]
 refine⟨⟨h.glob,?_,?_,?_,?_⟩,⟨PLe.refl φ,by simp[size_setCells],?_,λi q hi hn=>(by grind),?_,?_,os_setCells ..,uJ ..⟩,hsome,hfz,hone⟩
 .intro i q hq;by_cases hi:i=b
  .subst hi;rw[hp]at hq;cases hq;obtain⟨cs',g1,g2⟩:=jq vs' (p.s+off) w cs h5;exact⟨_,cs',e,fz,hself,h1,by grind[tf],h3,h4,g1,aa,h7⟩
  .obtain⟨y,cs2,e2,fz2,y1,y2,y3,y4,y5,y6,y7,y8⟩:=h.dom i q hq;have hz:=hkill i hi;rw[y1]at hz;simp only[Option.map_some]at hz;generalize hy':(if(x.shared&&kin b x.fam i y)=true then{y with st:=2,ver:=y.ver+1}else y)=y' at hz
   have F:y'.st≠0∧y'.cells=y.cells∧y'.exact=y.exact∧y'.esz=y.esz:=by
    subst hy';by_cases hk:(x.shared&&kin b x.fam i y)=true
    .rw[if_pos hk];exact⟨ac,rfl,rfl,rfl⟩
    .grind
   obtain⟨F1,F2,F3,F4⟩:=F;by_cases hc:q.c=p.c
   .rw[hc]at y6;obtain⟨cs',g1,g2⟩:=jq vs' (p.s+off) w cs2 y6;exact⟨y',cs',e2,fz2,hz,F1,by grind,by grind,aa,by grind,aa,y8⟩
   grind[heap_setCells_other]
 .intro i q y' k v hq hy' hst hv';by_cases hi:i=b
  .subst hi;rw[hp]at hq;cases hq;rw[hself]at hy';cases hy';simp only at hv';rw[Ni _ _ _ c3]at hv';by_cases k1:k<off
   .grind[cell,World.cell?_setCells_out]
   .rw[if_neg k1]at hv';by_cases k2:k<off+vs.length
    .rw[if_pos k2]at hv';have hj:k-off<vs'.length:=aa
     grind[World.cell?_setCells_in,mf]
    grind[cell,World.cell?_setCells_out]
  grind[cell,World.cell?_setCells_out]
 .grind[World.frozen?_setCells,frz]
 .intro i i' q q' y y' hq hq' hy hy' hst hst' hne hc;by_cases hi:i=b
  .grind
  .by_cases hi':i'=b
   .grind
   .obtain⟨z,hz,_,a2,a3,a4,_,_,a7,a8,_⟩:=hother i y hi hy;obtain⟨z',hz',_,b2,b3,b4,_,_,b7,b8,_⟩:=hother i' y' hi' hy';rcases h.sep i i' q q' z z' hq hq' hz hz' (a8 hst).1 (b8 hst').1 hne hc with⟨g1,g2⟩|⟨g1,g2,g3,g4⟩
    .grind
    grind
 .intro c hc ho;refine heap_setCells_other (λe=>ho ⟨b,p,x,hp,e.symm,hx,c1,c2⟩) _ _ _
 .grind
 .intro i y hn hy hs _;have hi:i≠b:=λe=>by grind
  rw[hkill i hi,hy];have:(x.shared&&kin b x.fam i y)=false:=by simp[kin,hs]
  grind
theorem bp.read{X:Cfg}{φ:bJ}{H:AH}{w:World}(h:bp X φ H w){cs:LvQ}(hr:cg H b off n=some cs)(hp:φ b=some p):
  ∃cs',au φ cs cs'∧cs'.length=n∧cs.length=n∧∀(j:Nat)(v:Value),cs'[j]?=some v->w.cell? (Addr.add ⟨p.c,p.s+off,none⟩ j)=some v:=by
 obtain⟨x,cs0,e,fz,hx,h1,h2,h3,h4,h5,h6,h7⟩:=h.dom b p hp;unfold cg at hr;rw[hx]at hr;simp only at hr;split at hr
 case isFalse=>cases hr
 case isTrue hc=>
 obtain⟨c1,c2⟩:=hc;cases hr;refine⟨(cs0.toList.drop (p.s+off)).take n,?_,by grind,by grind,?_⟩
 .rw[mf];refine⟨by grind,λj v v' hv hv'=>?_⟩;rw[List.getElem?_take]at hv hv';split at hv
  .rw[if_pos aa]at hv';rw[List.getElem?_drop]at hv hv';obtain⟨u,g1,g2⟩:=h.cell b p x _ v hp hx c1 hv;rw[cell_of_heap h5]at g1;rw[show p.s+off+j=p.s+(off+j) by omega]at hv'
   grind
  trivial
 .intro j v hv;rw[List.getElem?_take]at hv;split at hv
  .rw[List.getElem?_drop,Array.getElem?_toList]at hv;have:Addr.add ⟨p.c,p.s+off,none⟩ j=⟨p.c,p.s+off+j,none⟩:=by unfold Addr.add;split<;>simp_all
   grind[cell_of_heap]
  trivial
theorem Bc{α:Type}(P:Program):∀(s:Sem α)(a:α),pv P s=some a->∀w:World,s.run P w=.ok a w
 |.pure a,b,h,w=>by simp_all[pv]
 |.program k,b,h,w=>by simp only[pv]at h;exact Bc P (k P) b h w
 |.load _ _ _,_,h,_=>by trivial
 |.store _ _ _ _,_,h,_=>by trivial
 |.new _ _,_,h,_=>by trivial
 |.shape _ _,_,h,_=>by trivial
 |.freeze _ _ _,_,h,_=>by trivial
 |.frozen _ _,_,h,_=>by trivial
 |.getObj _ _,_,h,_=>by trivial
 |.setObj _ _ _,_,h,_=>by trivial
 |.choose _ _,_,h,_=>by trivial
 |.sys _ _,_,h,_=>by trivial
 |.mark _ _,_,h,_=>by trivial
 |.halt _,_,h,_=>by trivial
def zE:Operand->Bool
 |.const v=>plain v
 |_=>true
variable{X:Cfg}{φ:bJ}{H:AH}{w:World}
theorem bN(h:bp X φ H w){a:LvQ}(ha:au φ a act.tmps.toList){x:Operand}(hx:zE x=true):am φ (ev X a x) (act.eval x):=by
 cases x with
 | tmp t=>
  have:=ha.getD t
  grind[ev,oO,Act.eval,Ze]
 |const v=>exact(am.of_plain v hx v).2 rfl
 | global g=>
  simp only[ev,Act.eval];split
  .rename_i hg;obtain⟨p,hp,h1,h2⟩:=h.glob g hg;simp only[am];exact⟨_,rfl,rfl,rfl,p,hp,h1.symm,aa⟩
  simp[YJ,am]
 | func f=>
  grind[ev,Act.eval,am,au.nil]
theorem sN(h:am φ (.pointer (some ⟨b,off,none⟩)) v'):∃p,φ b=some p∧v'=.pointer (some ⟨p.c,p.s+off,none⟩):=by
 simp only[am]at h;obtain⟨⟨b',o',s'⟩,rfl,_,h2,p,hp,h3,h4⟩:=h
 grind
theorem xg(hp:φ b=some p):am φ (.pointer (some ⟨b,off,none⟩)) (.pointer (some ⟨p.c,p.s+off,none⟩)):=by simp only[am];exact⟨_,rfl,rfl,rfl,p,hp,rfl,rfl⟩
theorem rr{k:IntKind}{n:Int}(h:am φ (.int k n) v'):v'=.int k n:=by trivial
theorem zt{b:Bool}(h:am φ (.bool b) v'):v'=.bool b:=by trivial
theorem pZ(h:am φ (.string s) v'):v'=.string s:=by trivial
theorem mV{k:IntKind}{n:Int}:am φ (.int k n) (.int k n):=by rfl
theorem yi:am φ (.string s) (.string s):=by rfl
theorem O7(h:am φ (.agg cs) v'):∃cs',v'=.agg cs'∧au φ cs.toList cs'.toList:=by
 obtain⟨cs⟩:=cs
 grind[am]
theorem DV(h:au φ cs.toList cs'.toList):am φ (.agg cs) (.agg cs'):=by
 obtain⟨cs⟩:=cs
 grind[am]
theorem iM(h:szO P t=some n)(w:World):(sizeOf t).run P w=.ok n w:=by
 unfold szO at h;cases hi:P.info? t with
 |none=>grind
 |some i=>simp_all[sizeOf,typeInfo]
theorem rE{z:Value}(h:iH P t=some z)(w:World):(zeroValue t).run P w=.ok z w:=by
 unfold iH at h;cases hi:P.info? t with
 |none=>grind
 |some i=>simp_all[zeroValue,typeInfo]
theorem Dz{z:Value}(h1:szO P t=some n)(h2:iH P t=some z)(h3:qS P t=some b):∃i,P.info? t=some i∧i.size=n∧i.zero=some z∧i.bytes=b:=by
 unfold szO at h1;unfold iH at h2;unfold qS at h3;cases hi:P.info? t with
 |none=>grind
 |some i=>grind
theorem aE{d:TypeDesc}(h:P.underlying t=some d)(w:World):(underlying t).run P w=.ok d w:=run_underlying h w
theorem oQ(b o n:Nat):Addr.add ⟨b,o,none⟩ n=⟨b,o+n,none⟩:=by simp[Addr.add]
theorem GE{f:Nat}{v:Value}(hv:qi X.P t x f=some v)(hx:am φ x x'):
  ∃v',(Instr.fieldAt t x' f).run X.P w=.ok v' w∧am φ v v':=by
 unfold qi at hv;split at hv
 .rename_i fs b off hu;split at hv
  .rename_i fd hf;split at hv
   .rename_i n hn;simp only[Z9]at hv;subst hv;obtain⟨p,hp,rfl⟩:=sN hx
    simp_all[xg,Instr.fieldAt,Instr.sureAddr,fieldPlace,oQ,Xt,aE,iM]
   trivial
  trivial
 trivial
theorem ii{a:Addr}(h:am φ (.slice (some a) n c) v'):∃a' c',v'=.slice (some a') n c'∧SF φ a n c a' c':=by trivial
theorem gM(h:am φ (.slice none n c) v'):v'=.slice none n c:=by trivial
theorem GB{i:Value}{v:Value}(hv:kh X.P t x i=some v)(hx:am φ x x')(hi:am φ i i'):
  ∃v',(Instr.indexAt t x' i').run X.P w=.ok v' w∧am φ v v':=by
 unfold kh at hv;split at hv
 .rename_i e b off len cap kd k hu;split at hv
  .rename_i n hn;split at hv
   .rename_i hk;simp only[Z9]at hv;subst hv;obtain rfl:=rr hi;obtain⟨⟨b',o',s'⟩,c',rfl,hs⟩:=ii hx;rcases hs with⟨_,h2,p,hp,h3,h4,_⟩|⟨_,_,h0,_⟩
    .simp only at h2 h3 h4;subst h2;subst h3;subst h4;refine⟨_,?_,xg hp⟩;simp[Instr.indexAt,asIntOf,aE hu,hk,iM hn,oQ,Xt]
    .omega
   trivial
  trivial
 .rename_i len e b off kd k hu;split at hv
  .rename_i n hn;split at hv
   .rename_i hk;simp only[Z9]at hv;subst hv;obtain rfl:=rr hi;obtain⟨p,hp,rfl⟩:=sN hx;refine⟨_,?_,xg hp⟩;simp[Instr.indexAt,asIntOf,aE hu,hk,iM hn,oQ,Xt,Instr.sureAddr]
   trivial
  trivial
 trivial
theorem Lf{v:Value}(hv:HC X.P t cs.toList off=some v)(hc:au φ cs.toList cs'.toList):
  ∃v',(part t cs' off).run X.P w=.ok v' w∧am φ v v':=by
 have agg:∀{d:TypeDesc}{n:Nat},X.P.underlying t=some d->(match d with|.struct _|.array _ _=>True|_=>False)->szO X.P t=some n ->
   ∃v',(part t cs' off).run X.P w=.ok v' w∧am φ (.agg ((cs.toList.drop off).take n).toArray) v':=by
  intro d n hu hd hn;refine⟨.agg (cs'.extract off (off+n)),?_,DV ?_⟩
  .cases d<;>simp at hd<;>simp[part,isAgg,aE hu,iM hn]
  .have:(cs'.extract off (off+n)).toList=(cs'.toList.drop off).take n:=by simp[List.extract_eq_take_drop]
   grind[au.take,au.drop]
 unfold HC at hv;split at hv
 .rename_i fs hu;cases hn:szO X.P t with
  |none=>grind
  |some n=>grind
 .rename_i len e hu;cases hn:szO X.P t with
  |none=>grind
  |some n=>grind
 .rename_i d hd1 hd2 hu;obtain⟨v',h1,h2⟩:=hc.at hv;refine⟨v',?_,h2⟩;rw[Array.getElem?_toList]at h1
  cases d<;>first
   |(exact absurd rfl (hd1 _);done)
   |(exact absurd rfl (hd2 _ _);done)
   |simp[part,isAgg,aE hu,h1]
 trivial
theorem Sd{f:Nat}{v:Value}(hv:FM X.P t x f=some v)(hx:am φ x x'):
  ∃v',(Instr.field t x' f).run X.P w=.ok v' w∧am φ v v':=by
 unfold FM at hv;split at hv
 .rename_i fs cs hu;split at hv
  .rename_i fd hf;obtain⟨cs',rfl,hc⟩:=O7 hx;obtain⟨v',h1,h2⟩:=Lf (w:=w) hv hc
   simp_all[Instr.field,asAgg,aE]
  trivial
 trivial
theorem RR{i:Value}{v:Value}(hv:yG X.P t x i=some v)(hx:am φ x x')(hi:am φ i i'):
  ∃v',(Instr.index t x' i').run X.P w=.ok v' w∧am φ v v':=by
 unfold yG at hv;split at hv
 .rename_i len e cs kd k hu;split at hv
  .rename_i n hn;split at hv
   .rename_i hk;obtain rfl:=rr hi;obtain⟨cs',rfl,hc⟩:=O7 hx;obtain⟨v',h1,h2⟩:=Lf (w:=w) hv hc
    simp_all[Instr.index,asIntOf,aE,iM]
   trivial
  trivial
 .rename_i s kd k hu;split at hv
  .rename_i hk;obtain rfl:=rr hi;obtain rfl:=pZ hx;cases hb:s[k.toNat]? with
   |none=>grind
   | some b=>
    simp[hb]at hv;subst hv
    simp_all[Instr.index,asIntOf,aE,mV]
  trivial
 trivial
theorem Ml{v:Value}{vs:Array Value}(hx0:x=.tuple vs)(hv:vs[i]?=some v)(hx:am φ x x'):
  ∃v',(Instr.extract x' i).run X.P w=.ok v' w∧am φ v v':=by subst hx0;obtain⟨vs⟩:=vs;simp only[am]at hx;obtain⟨vs',rfl,hl⟩:=hx;obtain⟨v',h1,h2⟩:=hl.at (by simpa using hv);exact⟨v',by simp[Instr.extract,h1],h2⟩
theorem x8(off:Nat):∀(l l':LvQ)(k:Nat)(cs cs':Array Value),au φ l l'->au φ cs.toList cs'.toList ->
  au φ ((l.zipIdx k).foldl (λ(cs:Array Value)(x:Value×Nat)=>cs.setIfInBounds (off+x.2) x.1) cs).toList
   ((l'.zipIdx k).foldl (λ(cs:Array Value)(x:Value×Nat)=>cs.setIfInBounds (off+x.2) x.1) cs').toList
 |[],l',k,cs,cs',hl,hc=>by simp_all[au]
 | v::l,l',k,cs,cs',hl,hc=>by
  simp only[au]at hl;obtain⟨u,r,rfl,hv,hr⟩:=hl;simp only[List.zipIdx_cons,List.foldl_cons];refine x8 off l r (k+1) _ _ hr ?_
  grind[au.set]
theorem Ai(place:Nat->Option (Nat×Nat)):∀(l l':List (Nat×Value))(cs cs' r:Array Value),l.map (·.1)=l'.map (·.1)->au φ (l.map (·.2)) (l'.map (·.2))->au φ cs.toList cs'.toList ->
  Instr.fill place cs l=some r->∃r',Instr.fill place cs' l'=some r'∧au φ r.toList r'.toList
 | [],l',cs,cs',r,h1,_,hc,h=>by
  simp_all[Instr.fill]
 |(i,v)::l,[],_,_,_,h1,_,_,_=>by simp at h1
 | (i,v)::l,(i',v')::l',cs,cs',r,h1,h2,hc,h=>by
  simp only[Zv,List.cons.injEq]at h1;obtain⟨rfl,h1⟩:=h1;simp only[Zv,au]at h2;obtain⟨u,q,e,hv,h2⟩:=h2;obtain⟨rfl,rfl⟩:=List.cons.inj e;have hcells:=hv.cells;have hsz:v.cells.size=v'.cells.size:=by simpa using hcells.length
  have hcs:cs.size=cs'.size:=by simpa using hc.length
  unfold Instr.fill at h ⊢;split at h
  .cases h
  .rename_i off size hp;split at h
   .cases h
   .rename_i hn;rw[<-hsz,<-hcs,if_neg hn]
    have hf:∀(z:Array Value)(c:Array Value),(z.zipIdx.foldl (λ(cs:Array Value)(x:Value×Nat)=>match x with|(c,j)=>cs.setIfInBounds (off+j) c) c)=(z.toList.zipIdx.foldl (λ(cs:Array Value)(x:Value×Nat)=>cs.setIfInBounds (off+x.2) x.1) c):=by
     intro z c;rw[<-Array.foldl_toList,Array.toList_zipIdx]
    rw[hf]at h ⊢;exact Ai place l l' _ _ r h1 h2 (x8 off _ _ 0 _ _ hcells hc) h
theorem LG{P:Program}(w:World):∀(fs:List Field),(∀f∈fs,(szO P f.type).isSome=true) ->
  (fs.mapM (λf=>Prod.mk f.offset <$> sizeOf f.type)).run P w=.ok (fs.map λf=>(f.offset,(szO P f.type).getD 0)) w
 |[],_=>by simp
 | f::fs,h=>by
  obtain⟨n,hn⟩:=Option.isSome_iff_exists.1 (h f ac);have ih:=LG (P:=P) w fs (λg hg=>h g (by grind))
  simp_all[iM]
theorem Sv{t:TypeId}{ps ps':Array (Nat×Value)}{v:Value}(hv:yT X.P t ps=some v)
  (h1:ps.toList.map (·.1)=ps'.toList.map (·.1)) (h2:au φ (ps.toList.map (·.2)) (ps'.toList.map (·.2))) :
  ∃v',(Instr.build t ps').run X.P w=.ok v' w∧am φ v v':=by
 unfold yT at hv;split at hv
 .rename_i z fs hz hu;split at hv
  .rename_i hc;simp only[Z7]at hc;obtain⟨hpl,hall⟩:=hc;simp only[Z4]at hv;obtain⟨r,hr,rfl⟩:=hv;have hzc:au φ z.cells.toList z.cells.toList:=((am.of_plain z hpl z).2 rfl).cells;obtain⟨r',hr',hl⟩:=Ai _ _ _ _ _ _ h1 h2 hzc hr;refine⟨.agg r',?_,DV hl⟩
   have hm:(fs.mapM (λf=>Prod.mk f.offset <$> sizeOf f.type)).run X.P w=.ok (fs.map λf=>(f.offset,(szO X.P f.type).getD 0)) w:=by
    rw[Array.mapM_eq_mapM_toList];have:=LG (P:=X.P) w fs.toList (λf hf=>X7.1 hall f (by grind));simp only[Sem.run_map,this,Result.andThen_ok];congr 1;apply Array.ext';simp
   simp_all[Instr.build,rE,aE]
  trivial
 .rename_i z len e hz hu;split at hv
  .rename_i n hn;split at hv
   .rename_i hpl;simp only[Z4]at hv;obtain⟨r,hr,rfl⟩:=hv;have hzc:au φ z.cells.toList z.cells.toList:=((am.of_plain z hpl z).2 rfl).cells;obtain⟨r',hr',hl⟩:=Ai _ _ _ _ _ _ h1 h2 hzc hr
    simp_all[DV,Instr.build,rE,aE,iM]
   trivial
  trivial
 trivial
theorem Dt(h:bp X φ H w){rid:Option Nat}{cells:LvQ}{b:Nat}{H':AH}(hm:mkB H rid cells=some (b,H')){cs:Array Value}(e:TypeId)
  (hr:au φ cells cs.toList) :
  ∃φ' p,bp X φ' H' (w.alloc (.cells cs e))∧Ext φ H w φ' H' (w.alloc (.cells cs e))∧φ' b=some p∧p.c=w.heap.size∧p.s=0∧p.exact=true∧fu H.n rid φ φ':=by
 have hlen:cells.length=cs.size:=by simpa using hr.length
 have core:∀{b:Nat}{H':AH},(H.n<=b∨rid=some b)->φ b=none->H'.get b=some (fresh b cells)->(∀i,i≠b->H'.get i=H.get i) ->
   ∃φ' p,bp X φ' H' (w.alloc (.cells cs e))∧Ext φ H w φ' H' (w.alloc (.cells cs e))∧φ' b=some p∧p.c=w.heap.size∧p.s=0∧p.exact=true∧fu H.n rid φ φ':=by
  intro b H' h0 h1 h2 h3
  obtain ⟨g1,g2⟩:=h.new (e:=e) (cs:=cs) h1 h2 h3 rfl (by grind[fresh]) (λi v hv=>by
   obtain⟨v',k1,k2⟩:=hr.at hv
   grind)
  refine⟨_,_,g1,g2,dO _ _ _,rfl,rfl,rfl,λi p hp hn=>?_⟩;by_cases e':i=b
  .grind
  .grind[fU]
 cases rid with
 | none=>
  simp only[mkB,Z9,Z5]at hm;obtain⟨rfl,rfl⟩:=hm;refine core (.inl (Z8 _)) ?_ (AH.get_push_new H _) (λi hi=>AH.get_push hi);cases hb:φ H.n with
  |none=>rfl
  | some p=>
   obtain⟨x,_,_,_,hx,_⟩:=h.dom _ _ hb;have:=AH.get_lt hx;omega
 | some r=>
  simp only[mkB]at hm;cases hx:H.get r with
  |none=>grind
  | some x=>
   simp only[hx]at hm;split at hm
   .rename_i hst;obtain⟨hst,_⟩:=hst;simp only[Z9,Z5]at hm;obtain⟨rfl,rfl⟩:=hm;refine core (.inr rfl) ?_ (by rw[AH.get_set hx,if_pos rfl]) (λi hi=>by rw[AH.get_set hx,if_neg hi]);cases hb:φ r with
    |none=>rfl
    | some p=>
     obtain⟨y,_,_,_,hy,h1,_⟩:=h.dom _ _ hb
     grind
   trivial
theorem EZ(h:bp X φ H w){cells:LvQ}{n:Nat}{cs:Array Value}(e:TypeId)(fz:Nat×Nat)(hfz:∀i,i<cs.size->¬(fz.1<=i∧i<fz.2))(hl:cells.length<=cs.size)
  (hr:∀(i:Nat)(v:Value),cells[i]?=some v->∃v',cs[i]?=some v'∧am φ v v') :
  ∃φ' p,bp X φ' (H.push (jp H.n n cells)) (w.alloc (.cells cs e fz))∧Ext φ H w φ' (H.push (jp H.n n cells)) (w.alloc (.cells cs e fz))∧φ' H.n=some p∧p.c=w.heap.size∧p.s=0∧p.exact=false∧p.nc=cells.length∧p.esz=n∧p.top=cs.size∧fu H.n none φ φ':=by
 have hn:φ H.n=none:=by
  cases hb:φ H.n with
  |none=>rfl
  | some p=>
   obtain⟨x,_,_,_,hx,_⟩:=h.dom _ _ hb;have:=AH.get_lt hx;omega
 obtain⟨g1,g2⟩:=h.newF (e:=e) (cs:=cs) hn (AH.get_push_new H (jp H.n n cells)) (λi hi=>AH.get_push hi) rfl fz hfz hl hr;refine⟨_,_,g1,g2,dO _ _ _,rfl,rfl,rfl,rfl,rfl,rfl,λi p hp hn'=>?_⟩
 grind[fU]
theorem RH(h:bp X φ H w){cells:LvQ}{n:Nat}{cs:Array Value}(e:TypeId)(hl:cells.length<=cs.size)
  (hr:∀(i:Nat)(v:Value),cells[i]?=some v->∃v',cs[i]?=some v'∧am φ v v') :
  ∃φ' p,bp X φ' (H.push (jp H.n n cells)) (w.alloc (.cells cs e))∧Ext φ H w φ' (H.push (jp H.n n cells)) (w.alloc (.cells cs e))∧φ' H.n=some p∧p.c=w.heap.size∧p.s=0∧p.exact=false∧p.nc=cells.length∧p.esz=n∧p.top=cs.size∧fu H.n none φ φ':=
 EZ h e (0,0) (λ_ _=>by simp) hl hr
theorem N3(w:World)(cs:Array Value)(e:TypeId):(w.alloc (.cells cs e)).freeze ⟨w.heap.size,cs.size,none⟩ 1=w.alloc (.cells cs e (cs.size,cs.size+1)):=by
 simp only[World.freeze,Nat.one_ne_zero,if_false]
 show({w.alloc (.cells cs e)with heap:=_}:World)=_
 have:∀(f:Obj->Obj),(w.heap.push (.cells cs e)).modify w.heap.size f=w.heap.push (f (.cells cs e)):=by
  intro f;apply Array.ext_getElem?;intro i;rw[Array.getElem?_modify,Array.getElem?_push,Array.getElem?_push];by_cases hi:i=w.heap.size
  .grind
  .rw[if_neg (λe=>hi e.symm),if_neg hi,if_neg hi]
 show({heap:=(w.heap.push (.cells cs e)).modify w.heap.size _,tape:=w.tape,drawn:=w.drawn,os:=w.os,output:=w.output}:World)=_
 simp_all
theorem E4(h:bp X φ H w){cs:LvQ}(hr:cg H b off n=some cs)(hp:φ b=some p):
  ∃cs',au φ cs cs'∧cs'.length=n∧(loadCells ⟨p.c,p.s+off,none⟩ n).run X.P w=.ok cs'.toArray w:=by grind[bp.read,run_loadCells_list]
theorem Vl(h:bp X φ H w){v:Value}(hr:cg H b off 1=some [v])(hp:φ b=some p):
  ∃v',am φ v v'∧w.cell? ⟨p.c,p.s+off,none⟩=some v':=by
 obtain⟨cs',h1,h2,h3,h4⟩:=h.read hr hp;obtain⟨v',g1,g2⟩:=h1.at (i:=0) (v:=v) rfl
 grind[Addr.add]
theorem LK(h:bp X φ H w){v:Value}(hv:vp X.P H t x=some v)(hx:am φ x x'):
  ∃v',(Instr.loadAt t x').run X.P w=.ok v' w∧am φ v v':=by
 have agg:∀{d:TypeDesc}{b off n:Nat}{cs:LvQ},X.P.underlying t=some d->(match d with|.struct _|.array _ _=>True|_=>False)->szO X.P t=some n->cg H b off n=some cs->am φ (.pointer (some ⟨b,off,none⟩)) x' ->
   ∃v',(Instr.loadAt t x').run X.P w=.ok v' w∧am φ (.agg cs.toArray) v':=by
  intro d b off n cs hu hd hn hc hx;obtain⟨p,hp,rfl⟩:=sN hx;obtain⟨cs',h1,h2,h3⟩:=E4 h hc hp;refine⟨.agg cs'.toArray,?_,DV aa⟩;cases d<;>simp at hd<;>simp[Instr.loadAt,Instr.sureAddr,loadVar,isAgg,aE hu,iM hn,h3]
 unfold vp at hv;split at hv
 .rename_i b off;split at hv
  .rename_i fs hu;cases hn:szO X.P t with
   |none=>grind
   | some n=>
    grind[cg]
  .rename_i len e hu;cases hn:szO X.P t with
   |none=>grind
   | some n=>
    grind[cg]
  .rename_i d hd1 hd2 hu;split at hv
   .rename_i u hc;simp only[Z9]at hv;subst hv;obtain⟨p,hp,rfl⟩:=sN hx;obtain⟨v',h1,h2⟩:=Vl h hc hp;refine⟨v',?_,h1⟩
    cases d<;>first
     |(exact absurd rfl (hd1 _);done)
     |(exact absurd rfl (hd2 _ _);done)
     |simp[Instr.loadAt,Instr.sureAddr,loadVar,isAgg,aE hu,h2]
   trivial
  trivial
 trivial
theorem QS(h:bp X φ H w){v:Value}{H':AH}(hs:uD X.P H t x v=some H')(hx:am φ x x')(hv:am φ v v'):
  ∃w',(Instr.storeAt t x' v').run X.P w=.ok () w'∧bp X φ H' w'∧Ext φ H w φ H' w':=by
 unfold uD at hs;split at hs
 .rename_i b off n hn;split at hs
  .rename_i hsz;obtain⟨p,hp,rfl⟩:=sN hx;have hc:=hv.cells;have hl:v.cells.size=v'.cells.size:=by simpa using hc.length
   obtain⟨g1,g2,g3,g4,g5⟩:=h.write hs hp hc
   simp_all[run_storeCells_cells,Instr.storeAt,Instr.sureAddr,storeVar,iM]
  trivial
 trivial
theorem fD{d top top':Nat}{o:Option Value}(hb:de d top o=some n)(ht:top<=top')(ho:o'=o∨∃v v',o=some v∧o'=some v'∧am φ v v')(code:BoundsCode):
  (o=none∧o'=none∧n=d)∨(∃k i,o=some (.int k i)∧o'=some (.int k i)∧0<=i∧i<=top∧n=i.toNat∧(Instr.sliceBound (.int k i) top' code).run X.P w=.ok n w):=by
 cases o with
 | none=>
  grind[de]
 | some v=>
  right
  cases v<;>simp only[de]at hb<;>first
   |(cases hb;done)
   |skip
  rename_i k i;split at hb
  .rename_i hi;simp at hb;subst hb;refine⟨k,i,rfl,?_,hi.1,hi.2,rfl,?_⟩
   .rcases ho with rfl|⟨v,v',h1,h2,h3⟩
    .rfl
    grind[rr]
   .have hle:i<=(top':Int):=by have:=hi.2;omega
    simp_all[Instr.sliceBound,asIntOf]
  trivial
def YQ(φ:bJ)(o o':Option Value):Prop:=o'=o∨∃v v',o=some v∧o'=some v'∧am φ v v'
theorem Q0(h:bp X φ H w){t:TypeId}{x:Value}{lo hi mx:Option Value}{v:Value}(hv:lI X.P H t x lo hi mx=some v)
  {x':Value} {lo' hi' mx':Option Value} (hx:am φ x x') (hlo:YQ φ lo lo') (hhi:YQ φ hi hi') (hmx:YQ φ mx mx') :
  ∃v',(Instr.sliceAt t x' lo' hi' mx').run X.P w=.ok v' w∧am φ v v':=by
 have hn:∀{o o':Option Value},YQ φ o o'->(o=none↔o'=none):=by
  rintro o o' (rfl|⟨v,v',rfl,rfl,_⟩)<;>simp
 unfold lI at hv;split at hv
 .rename_i s hu;split at hv
  .cases hv
  .rename_i hm;simp only[Option.isSome_iff_ne_none,ne_eq,Decidable.not_not]at hm;have hm':=(hn hmx).1 hm;subst hm;subst hm';cases hb:de s.size s.size hi with
   |none=>grind
   | some h1=>
    cases hb2:de 0 h1 lo with
    |none=>grind
    | some l1=>
     simp[hb,hb2]at hv;subst hv;obtain rfl:=pZ hx;refine⟨_,?_,yi⟩;rcases fD (X:=X) (w:=w) hb (Z8 _) hhi .sliceAlen with⟨rfl,rfl,rfl⟩|⟨k,i,rfl,rfl,_,_,_,hr⟩<;>
     rcases fD (X:=X) (w:=w) hb2 (Z8 _) hlo .sliceB with⟨rfl,rfl,rfl⟩|⟨k2,i2,rfl,rfl,_,_,_,hr2⟩<;>
     simp_all[Instr.sliceAt,Instr.slice,Instr.sliceBounds,aE hu]
 .rename_i e a len cap hu;cases hb0:de cap cap mx with
  |none=>grind
  |some m=>
  by_cases hmh:(hi.isNone&&mx.isSome)=true
  .grind
  .have hmh':(hi.isNone&&mx.isSome)=false:=by simpa using hmh
   cases hb:de len m hi with
   |none=>grind
   | some h1=>
    cases hb2:de 0 h1 lo with
    |none=>grind
    | some l1=>
     cases hs:szO X.P e with
     |none=>grind
     | some n=>
      simp[hb0,hmh',hb,hb2,hs]at hv;obtain⟨⟨hlc,hspot,_,hfit⟩,rfl⟩:=hv
      have hle1:m<=cap:=by
       rcases fD (X:=X) (w:=w) hb0 (Z8 _) hmx .slice3Acap with⟨rfl,rfl,rfl⟩|⟨k,i,rfl,rfl,g1,g2,rfl,_⟩<;>omega
      have hh1:h1<=m:=by
       rcases fD (X:=X) (w:=w) hb (Z8 _) hhi .slice3B with⟨rfl,rfl,rfl⟩|⟨k,i,rfl,rfl,g1,g2,rfl,_⟩
       .simp_all[de]
       .omega
      have hl1:l1<=h1:=by
       rcases fD (X:=X) (w:=w) hb2 (Z8 _) hlo .slice3B with⟨rfl,rfl,rfl⟩|⟨k,i,rfl,rfl,g1,g2,rfl,_⟩<;>omega
      -- the model's own bounds,at a capacity of at least cap
      have hrun:∀(a':Option Addr)(cap':Nat),cap<=cap'->(mx=none∨cap'=cap∨True)->∃m',((mx=none->m'=cap')∧(mx≠none->m'=m)) ∧
        (Instr.sliceAt t (.slice a' len cap') lo' hi' mx').run X.P w=.ok (.slice (if m'=l1 then a' else a'.map (·.add (l1*n))) (h1-l1) (m'-l1)) w:=by
       intro a' cap' hcap _;rcases fD (X:=X) (w:=w) hb0 hcap hmx .slice3Acap with⟨rfl,rfl,rfl⟩|⟨k,i,rfl,rfl,_,_,_,hr⟩
       .refine⟨cap',⟨λ_=>rfl,λh=>absurd rfl h⟩,?_⟩;rcases fD (X:=X) (w:=w) hb hcap hhi .sliceAcap with⟨rfl,rfl,rfl⟩|⟨k2,i2,rfl,rfl,_,_,_,hr2⟩<;>
        rcases fD (X:=X) (w:=w) hb2 (Z8 _) hlo .sliceB with⟨rfl,rfl,rfl⟩|⟨k3,i3,rfl,rfl,_,_,_,hr3⟩<;>
        simp_all[Instr.sliceAt,Instr.slice,Instr.sliceBounds,aE hu,iM hs]
       .refine⟨m,⟨λh=>by trivial,λ_=>rfl⟩,?_⟩;rcases fD (X:=X) (w:=w) hb (Z8 _) hhi .slice3B with⟨rfl,rfl,rfl⟩|⟨k2,i2,rfl,rfl,_,_,_,hr2⟩
        .trivial
        rcases fD (X:=X) (w:=w) hb2 (Z8 _) hlo .slice3C with⟨rfl,rfl,rfl⟩|⟨k3,i3,rfl,rfl,_,_,_,hr3⟩<;>
        simp_all[Instr.sliceAt,Instr.slice,Instr.sliceBounds,aE hu,iM hs]
      cases a with
      | none=>
       obtain rfl:=gM hx;obtain⟨m',⟨q1,q2⟩,hr⟩:=hrun none cap (Z8 _) (.inr (.inr trivial));refine⟨_,hr,?_⟩
       have:m'=m:=by
        by_cases hz:mx=none
        .grind[de]
        .grind
       grind[am]
      | some a=>
       simp at hspot;obtain⟨⟨ab,ao,ahZ⟩,rfl⟩:∃a2:Addr,a=a2:=⟨a,rfl⟩;simp at hspot;subst hspot;obtain⟨⟨b',o',s'⟩,c',rfl,hsr⟩:=ii hx;rcases hsr with⟨_,k2,p,hp,k3,k4,k5⟩|⟨_,k3,k4,k5,pp,hpp⟩
       .simp only at k2 k3 k4;subst k2;subst k3;subst k4;have hcap:cap<=c':=by rcases k5 with e|⟨_,_,e,_⟩<;>omega
        obtain⟨m',⟨q1,q2⟩,hr⟩:=hrun (some ⟨p.c,p.s+ao,none⟩) c' hcap (.inr (.inr trivial));refine⟨_,hr,?_⟩;simp only[Option.map_some,SB];by_cases hz:m'=l1
        .rw[if_pos hz];simp only[am];refine⟨_,_,rfl,.inr ⟨rfl,?_,?_,aa,p,hp⟩⟩
         .grind
         grind
        .rw[if_neg hz];simp only[Option.map_some,oQ,am];refine⟨_,_,rfl,.inl ⟨rfl,rfl,p,hp,rfl,by grind,?_⟩⟩;by_cases hmx0:mx=none
         .have hm':=q1 hmx0;have hm:m=cap:=by subst hmx0;simp[de]at hb0;omega
          subst hm' hm;rcases k5 with e|⟨e1,e2,e3,e4⟩
          .left;omega
          .simp only at e2 e4
           have hez:n=p.esz:=by
            obtain⟨y,_,_,_,y1,_,_,y4,y5,_⟩:=h.dom _ _ hp;rcases hfit with g|g
            .grind
            .grind[x9]
           subst hez;right;refine⟨e1,?_,aa,?_⟩
           .have:l1*p.esz+(m-l1)*p.esz=m*p.esz:=by rw[<-Nat.add_mul];congr 1;omega
            grind
           .have:l1*p.esz+(m'-l1)*p.esz=m'*p.esz:=by rw[<-Nat.add_mul];congr 1;omega
            grind
         .left;grind
       .subst k3;subst k4;subst k5;obtain⟨m',⟨q1,q2⟩,hr⟩:=hrun (some ⟨b',o',s'⟩) 0 (Z8 _) (.inr (.inr trivial));refine⟨_,hr,?_⟩
        have hm0:m'=0:=by
         by_cases hmx0:mx=none
         .grind
         .grind
        subst hm0;simp only[Option.map_some,SB,am];have:l1=0:=aa;subst this;exact⟨_,_,rfl,.inr ⟨rfl,aa,aa,aa,pp,hpp⟩⟩
 .rename_i k e b off hu;cases hb0:de k k mx with
  |none=>grind
  |some m=>
  by_cases hmh:(hi.isNone&&mx.isSome)=true
  .grind
  .have hmh':(hi.isNone&&mx.isSome)=false:=by simpa using hmh
   cases hb:de k m hi with
   |none=>grind
   | some h1=>
    cases hb2:de 0 h1 lo with
    |none=>grind
    | some l1=>
     cases hs:szO X.P e with
     |none=>grind
     | some n=>
      simp[hb0,hmh',hb,hb2,hs]at hv;subst hv;obtain⟨p,hp,rfl⟩:=sN hx
      have hr:(Instr.sliceAt t (.pointer (some ⟨p.c,p.s+off,none⟩)) lo' hi' mx').run X.P w=.ok (.slice (some (if m=l1 then⟨p.c,p.s+off,none⟩else⟨p.c,p.s+off+l1*n,none⟩)) (h1-l1) (m-l1)) w:=by
       rcases fD (X:=X) (w:=w) hb0 (Z8 _) hmx .slice3Alen with⟨rfl,rfl,rfl⟩|⟨k,i,rfl,rfl,_,_,_,hr⟩
       .rcases fD (X:=X) (w:=w) hb (Z8 _) hhi .sliceAlen with⟨rfl,rfl,rfl⟩|⟨k2,i2,rfl,rfl,_,_,_,hr2⟩<;>
        rcases fD (X:=X) (w:=w) hb2 (Z8 _) hlo .sliceB with⟨rfl,rfl,rfl⟩|⟨k3,i3,rfl,rfl,_,_,_,hr3⟩<;>
        simp_all[Instr.sliceAt,Instr.sureAddr,Instr.sliceBounds,aE hu,iM hs,oQ]
       .rcases fD (X:=X) (w:=w) hb (Z8 _) hhi .slice3B with⟨rfl,rfl,rfl⟩|⟨k2,i2,rfl,rfl,_,_,_,hr2⟩
        .trivial
        rcases fD (X:=X) (w:=w) hb2 (Z8 _) hlo .slice3C with⟨rfl,rfl,rfl⟩|⟨k3,i3,rfl,rfl,_,_,_,hr3⟩<;>
        simp_all[Instr.sliceAt,Instr.sureAddr,Instr.sliceBounds,aE hu,iM hs,oQ]
      refine⟨_,hr,?_⟩
      have hle1:h1<=m:=by
       rcases fD (X:=X) (w:=w) hb (Z8 _) hhi .slice3B with⟨rfl,rfl,rfl⟩|⟨k2,i2,rfl,rfl,g1,g2,rfl,_⟩
       .simp_all[de]
       .omega
      have hl1:l1<=h1:=by
       rcases fD (X:=X) (w:=w) hb2 (Z8 _) hlo .slice3B with⟨rfl,rfl,rfl⟩|⟨k2,i2,rfl,rfl,g1,g2,rfl,_⟩<;>omega
      by_cases hz:m=l1
      .rw[if_pos hz];simp only[am];exact⟨_,_,rfl,.inr ⟨rfl,aa,aa,aa,p,hp⟩⟩
      .rw[if_neg hz];simp only[am];exact⟨_,_,rfl,.inl ⟨rfl,rfl,p,hp,rfl,by grind,.inl rfl⟩⟩
 trivial
structure aei(P:Program)(n k:Nat)(cs':LvQ)(x':Value)(w:World):Prop where
 len:∀w':World,(Builtin.lenOf x').run P w'=.ok k w'
 cells:∀w':World,w'.heap=w.heap->(Builtin.firstCells n k x').run P w'=.ok cs'.toArray w'
theorem ZC(h:bp X φ H w){cs:LvQ}(hs:nf H n x=some (k,cs))(hx:am φ x x'):
  ∃cs',au φ cs cs'∧cs'.length=k*n∧aei X.P n k cs' x' w:=by
 unfold nf at hs;split at hs
 .simp only[Z9,Z5]at hs;obtain⟨rfl,rfl⟩:=hs;obtain rfl:=gM hx;refine⟨[],au.nil φ,ac,⟨λw'=>by rfl,λw' _=>by rfl⟩⟩
 .rename_i b off len cap;split at hs
  .rename_i h0;simp only[Z9,Z5]at hs;obtain⟨rfl,rfl⟩:=hs;subst h0;obtain⟨a',c',rfl,_⟩:=ii hx;exact⟨[],au.nil φ,ac,⟨λw'=>by rfl,λw' _=>by simp[Builtin.firstCells,loadCells,loadCellsFrom]⟩⟩
  .rename_i h0;simp only[Z4,Z5]at hs;obtain⟨cs0,hc,rfl,rfl⟩:=hs;obtain⟨⟨b',o',s'⟩,c',rfl,hsr⟩:=ii hx;rcases hsr with⟨_,k2,p,hp,k3,k4,k5⟩|⟨_,h00,_⟩
   .simp only at k2 k3 k4;subst k2;subst k3;subst k4;obtain⟨cs',h1,h2,h3,h4⟩:=h.read hc hp;refine⟨cs',h1,h2,⟨λw'=>by rfl,λw' hw=>?_⟩⟩
    grind[Builtin.firstCells,run_loadCells_list,World.cell?]
   .omega
 .rename_i s;split at hs
  .rename_i h1;simp only[Z9,Z5]at hs;obtain⟨rfl,rfl⟩:=hs;subst h1;obtain rfl:=pZ hx;refine⟨_,au.map (λ_=>mV) _,ac,⟨λw'=>by rfl,λw' _=>?_⟩⟩;simp only[Builtin.firstCells,Sem.run_pure];congr 1;apply Array.ext'
   have:(s.extract 0 s.size).data=s.data:=by
    have:=congrArg ByteArray.data (ByteArray.extract_zero_size (b:=s));exact this
   simp
  trivial
 trivial
theorem L9{P:Program}{t tx ty e:TypeId}{d:TypeDesc}(ht:P.underlying t=some (.slice e))(htx:P.underlying tx=some d)(hd:∀k,d≠.int k)
  {n:Nat} (hn:szO P e=some n) {k:Nat} {cs':LvQ} {x':Value} {w:World} (hs:aei P n k cs' x' w) {base:Option Addr} {sLen sCap:Nat} (hle:sLen+k<=sCap)
  {w':World} (hst:base=none∧w'=w∨∃a,base=some a∧(storeCells (a.add (sLen*n)) cs').run P w=.ok () w') :
  (Builtin.append_ #[t,tx] ty #[.slice base sLen sCap,x']).run P w=.ok (.slice base (sLen+k) sCap) w':=by
 have hz:(match d with|.int _=>true|_=>false)=false:=by cases d<;>first|rfl|grind
 have hc:=hs.cells w rfl;rcases hst with⟨rfl,rfl⟩|⟨a,rfl,h⟩
 .simp[Builtin.append_,aE ht,aE htx,iM hn,hs.len,hle,hc,hz]
 .simp[Builtin.append_,aE ht,aE htx,iM hn,hs.len,hle,hc,h,hz]
theorem sU(w:World)(need old:Nat)(e:TypeId):need<=grownCap w need old e:=Nat.le_add_right _ _
theorem VW{P:Program}{t tx ty e:TypeId}{d:TypeDesc}(ht:P.underlying t=some (.slice e))(htx:P.underlying tx=some d)(hd:∀k,d≠.int k)
  {n by_:Nat} {z:Value} (hn:szO P e=some n) (hz:iH P e=some z) (hby:qS P e=some by_) (hzs:z.cells.size=n) (hb0:0<by_) (hn0:0<n)
  {k:Nat} {cs':LvQ} {x':Value} {w:World} (hs:aei P n k cs' x' w) {base:Option Addr} {sLen sCap:Nat} (hgt:sCap<sLen+k)
  (hroom:(sLen+k)*by_<=140737488355328) {olds:LvQ}
  (hold:∀w':World,w'.heap=w.heap->(Builtin.firstCells n sLen (.slice base sLen sCap)).run P w'=.ok olds.toArray w') (hl:olds.length=sLen*n) (hl':cs'.length=k*n) :
  ∃ nc cells,(Builtin.append_ #[t,tx] ty #[.slice base sLen sCap,x']).run P w=.ok (.slice (some ⟨w.heap.size,0,none⟩) (sLen+k) nc) (w.drew.alloc (.cells cells e)) ∧
   sLen+k<=nc∧cells.size=nc*n∧∀(i:Nat)(v:Value),(olds++cs')[i]?=some v->cells[i]?=some v:=by
 obtain⟨i,hi,i1,i2,i3⟩:=Dz hn hz hby;subst i1;subst i3;have hne:¬(sLen+k<=sCap):=aa;have hfit:=growslice_fits hgt hroom;have hfit':¬(281474976710656<Builtin.nextslicecap (sLen+k) sCap*i.bytes):=aa;have h1:sLen+k<=(sLen+k)*i.bytes:=Za _ hb0;have h63:¬(9223372036854775807<((sLen:Int)+(k:Int))):=aa;have hbn:i.bytes≠0:=aa
 have hc:=hs.cells w.drew rfl;have ho:=hold w.drew rfl;refine⟨grownCap w (sLen+k) sCap e,olds.toArray++cs'.toArray++Builtin.zeroCells z.cells (grownCap w (sLen+k) sCap e-(sLen+k)),?_,?_,?_,?_⟩
 .have hz:(match d with|.int _=>true|_=>false)=false:=by cases d<;>first|rfl|grind
  simp[Builtin.append_,aE ht,aE htx,sizeOf,typeInfo,zeroValue,hi,i2,hs.len,hne,h63,hfit',hbn,Question.forced,hc,ho,newRow,grownCap,hz]
  grind
 .simp[sU]
 .have:=sU w (sLen+k) sCap e;simp only[Array.size_append,List.size_toArray,hl,hl',Builtin.zeroCells,Array.size_map,Array.size_range,hzs];rw[<-Nat.add_mul,<-Nat.add_mul];grind
 .intro j v hv;rw[Array.getElem?_append]
  have hj:j<(olds++cs').length:=by
   rcases Zi j (olds++cs').length with h'|h'
   .exact h'
   .grind
  have:(olds.toArray++cs'.toArray).size=(olds++cs').length:=ac;rw[if_pos aa]
  grind
theorem uy{z:Value}(hz:plain z=true)(n:Nat):au φ (df z.cells.toList n) (df z.cells.toList n):=by
 have hc:au φ z.cells.toList z.cells.toList:=((am.of_plain z hz z).2 rfl).cells
 grind[df,mf,au.getD]
theorem tM{z:Value}(hn:z.cells.size=n)(h0:0<n)(k:Nat):(df z.cells.toList k).toArray=(Array.range k).map λi=>z.cells[i%z.cells.size]!:=by
 apply Array.ext';simp only[df,Array.toList_map,Array.toList_range,Array.length_toList];apply List.map_congr_left;intro i _;have:i%z.cells.size<z.cells.size:=Y3 _ aa
 grind
theorem Iq{P:Program}{t tx ty e:TypeId}{kd kd':IntKind}(ht:P.underlying t=some (.slice e))(htx:P.underlying tx=some (.int kd))
  {n by_:Nat} {z:Value} (hn:szO P e=some n) (hz:iH P e=some z) (hby:qS P e=some by_) (hzs:z.cells.size=n) (hn0:0<n) (hb0:0<by_)
  {k:Nat} (hk:k*by_<=140737488355328) {w:World} {base:Option Addr} {sLen sCap:Nat} (hle:sLen+k<=sCap)
  {w':World} (hst:base=none∧w'=w∨∃a,base=some a∧(storeCells (a.add (sLen*n)) (df z.cells.toList (k*n))).run P w=.ok () w') :
  (Builtin.append_ #[t,tx] ty #[.slice base sLen sCap,.int kd' k]).run P w=.ok (.slice base (sLen+k) sCap) w':=by
 obtain⟨i,hi,i1,i2,i3⟩:=Dz hn hz hby;subst i1;subst i3;have h1:k<=k*i.bytes:=Za _ hb0;have hwr:IntKind.i64.wrap (k:Int)=k:=by rw[IntKind.wrap_i64];omega
 have hneg:¬((k:Int)<0):=aa
 have hbig:¬(281474976710656<(k:Int)*(i.bytes:Int)):=by
  have:((k*i.bytes:Nat):Int)<=140737488355328:=aa;rw[Int.natCast_mul]at this;omega
 have hin:i.size≠0:=aa;have hze:=tM hzs hn0 (k*i.size);by_cases hk0:k=0
 .subst hk0;have hw0:IntKind.i64.wrap 0=0:=by simpa using hwr
  have hle0:sLen<=sCap:=aa;rcases hst with⟨rfl,rfl⟩|⟨a,rfl,h⟩
  .simp[Builtin.append_,aE ht,aE htx,sizeOf,typeInfo,hi,asInt,asIntOf,hw0,hle0]
  .simp only[Wq,df,List.range_zero,Yv]at h;simp[Builtin.append_,aE ht,aE htx,sizeOf,typeInfo,hi,asInt,asIntOf,hw0,hle0,h]
 .rcases hst with⟨rfl,rfl⟩|⟨a,rfl,h⟩
  .simp[Builtin.append_,aE ht,aE htx,sizeOf,typeInfo,zeroValue,hi,i2,asInt,asIntOf,hwr,hneg,hbig,hle,hk0,hin]
  ·have hz2:(Builtin.zeroCells z.cells k).toList=df z.cells.toList (k*i.size):=by
    rw[hzs]at hze;rw[Builtin.zeroCells,hzs,<-hze]
   simp[Builtin.append_,aE ht,aE htx,sizeOf,typeInfo,zeroValue,hi,i2,asInt,asIntOf,hwr,hneg,hbig,hle,hk0,hin,hz2,h]
   grind[Nat.mul_ne_zero]
theorem QF{P:Program}{t tx ty e:TypeId}{kd kd':IntKind}(ht:P.underlying t=some (.slice e))(htx:P.underlying tx=some (.int kd))
  {n by_:Nat} {z:Value} (hn:szO P e=some n) (hz:iH P e=some z) (hby:qS P e=some by_) (hzs:z.cells.size=n) (hn0:0<n) (hb0:0<by_)
  {k:Nat} {w:World} {base:Option Addr} {sLen sCap:Nat} (hgt:sCap<sLen+k) (hk0:k≠0)
  (hroom:(sLen+k)*by_<=140737488355328) {olds:LvQ}
  (hold:∀w':World,w'.heap=w.heap->(Builtin.firstCells n sLen (.slice base sLen sCap)).run P w'=.ok olds.toArray w') (hl:olds.length=sLen*n) :
  ∃ nc cells,(Builtin.append_ #[t,tx] ty #[.slice base sLen sCap,.int kd' k]).run P w=.ok (.slice (some ⟨w.heap.size,0,none⟩) (sLen+k) nc) (w.drew.alloc (.cells cells e)) ∧
   sLen+k<=nc∧cells.size=nc*n∧∀(i:Nat)(v:Value),(olds++df z.cells.toList (k*n))[i]?=some v->cells[i]?=some v:=by
 obtain⟨i,hi,i1,i2,i3⟩:=Dz hn hz hby;subst i1;subst i3;have hroomk:k*i.bytes<=140737488355328:=Zy (Zs _ aa) hroom;have h1:k<=k*i.bytes:=Za _ hb0;have h2:sLen+k<=(sLen+k)*i.bytes:=Za _ hb0;have hwr:IntKind.i64.wrap (k:Int)=k:=by rw[IntKind.wrap_i64];omega
 have hneg:¬((k:Int)<0):=aa
 have hbig:¬(281474976710656<(k:Int)*(i.bytes:Int)):=by
  have:((k*i.bytes:Nat):Int)<=140737488355328:=aa;rw[Int.natCast_mul]at this;omega
 have hin:i.size≠0:=aa;have hze:=tM hzs hn0 (k*i.size);have hne:¬(sLen+k<=sCap):=aa;have hfit:=growslice_fits hgt hroom;have hfit':¬(281474976710656<Builtin.nextslicecap (sLen+k) sCap*i.bytes):=aa;have h63:¬(9223372036854775807<((sLen:Int)+(k:Int))):=aa;have hbn:i.bytes≠0:=aa;have ho:=hold w.drew rfl
 have hz2:Builtin.zeroCells z.cells k=(df z.cells.toList (k*i.size)).toArray:=by rw[hzs]at hze;rw[Builtin.zeroCells,hzs,<-hze]
 have hzl:(df z.cells.toList (k*i.size)).length=k*i.size:=by simp[df]
 refine⟨grownCap w (sLen+k) sCap e,olds.toArray++(df z.cells.toList (k*i.size)).toArray++Builtin.zeroCells z.cells (grownCap w (sLen+k) sCap e-(sLen+k)),?_,?_,?_,?_⟩
 .simp[Builtin.append_,aE ht,aE htx,sizeOf,typeInfo,zeroValue,hi,i2,asInt,asIntOf,hwr,hneg,hbig,hk0,hin,hne,h63,hfit',hbn,Question.forced,ho,newRow,grownCap,hz2]
  grind
 .simp[sU]
 .have:=sU w (sLen+k) sCap e;simp only[Array.size_append,List.size_toArray,hl,hzl,Builtin.zeroCells,Array.size_map,Array.size_range,hzs];rw[<-Nat.add_mul,<-Nat.add_mul];grind
 .intro j v hv;rw[Array.getElem?_append]
  have hj:j<(olds++df z.cells.toList (k*i.size)).length:=by
   rcases Zi j (olds++df z.cells.toList (k*i.size)).length with h'|h'
   .exact h'
   .grind
  have:(olds.toArray++(df z.cells.toList (k*i.size)).toArray).size=(olds++df z.cells.toList (k*i.size)).length:=ac;rw[if_pos aa]
  grind
theorem gL(h:am φ (.slice (some ⟨b,off,none⟩) n c) v'):
  (∃p c',φ b=some p∧v'=.slice (some ⟨p.c,p.s+off,none⟩) n c'∧acs p off c c')∨(∃a',v'=.slice (some a') 0 0∧n=0∧c=0):=by
 obtain⟨⟨b',o',s'⟩,c',rfl,hsr⟩:=ii h;rcases hsr with⟨_,k2,p,hp,k3,k4,k5⟩|⟨_,k3,k4,k5,_⟩
 .grind
 grind
theorem Q1(h:am φ (.slice (some ⟨b,off,none⟩) n c) v'):∃p,φ b=some p:=by obtain⟨_,_,_,hsr⟩:=ii h;rcases hsr with⟨_,_,p,hp,_⟩|⟨_,_,_,_,p,hp⟩<;>exact⟨p,hp⟩
theorem bp.extend{X:Cfg}{φ:bJ}{H:AH}{w:World}(h:bp X φ H w){b off n m:Nat}{p:Pl}{x x0:Blk}(hp:φ b=some p)(hx0:H.get b=some x0)
  (hwr:x0.wr=true) (hxc:x0.cells=x.cells) (hfam:x0.fam=x.fam) (hstart:x0.start=x.start) (hsh:x0.shared=true)
  {cs cs':LvQ} (hoff:off+m<=x.cells.length) (hl:au φ cs cs') (hroom:p.s+off+m+cs'.length<=p.top)
  (hold:au φ ((x.cells.drop off).take m) ((List.range m).map λj=>(w.cell? ⟨p.c,p.s+off+j,none⟩).getD undef))
  (hsome:∀j,j<m->(w.cell? ⟨p.c,p.s+off+j,none⟩).isSome=true)
  (hbelow:∀i q y,φ i=some q->H.get i=some y->y.st=1->q.c=p.c->y.fam=x.fam∧y.shared=true∧p.s+y.start=q.s+x.start∧q.s+y.cells.length<=p.s+off+m) :
  ∃ φ',bp X φ' (H.push (mL x off n ((x.cells.drop off).take m++cs))) (w.setCells p.c (p.s+off+m) cs') ∧
   (∀i q,φ i=some q->φ' i=some q)∧φ' H.n=some ⟨p.c,p.s+off,m+cs'.length,n,p.top,false⟩∧(∀i q,φ' i=some q->φ i=none->i=H.n) ∧
   (∀j,j<cs'.length->(w.cell? ⟨p.c,p.s+off+m+j,none⟩).isSome=true)∧(∀j,j<cs'.length->w.frozen? ⟨p.c,p.s+off+m+j,none⟩=false):=by
 obtain⟨z,cz,ez,fz,hz,z1,z2,z3,z4,z5,z6,z7⟩:=h.dom b p hp;rw[hx0]at hz;cases hz
 have hn:φ H.n=none:=by
  cases hb:φ H.n with
  |none=>rfl
  | some q=>
   obtain⟨y,_,_,_,hy,_⟩:=h.dom _ _ hb;have:=AH.get_lt hy;omega
 have hne:∀{i q},φ i=some q->i≠H.n:=λhi e=>by grind
 have hfz:∀i,i<p.top->w.frozen? ⟨p.c,i,none⟩=false:=λi hi=>h.frz b p x0 i hp hx0 hwr hi
 have hin:∀j,j<cs'.length->(w.cell? ⟨p.c,p.s+off+m+j,none⟩).isSome=true:=by
  intro j hj;rw[cell_of_heap z5,Array.getElem?_eq_getElem aa];rfl
 let P':Pl:=⟨p.c,p.s+off,m+cs'.length,n,p.top,false⟩
 have hle:PLe φ (yV φ H.n P'):=PLe.add hn
 have hcl:((x.cells.drop off).take m++cs).length=m+cs'.length:=by
  have:=hl.length;simp;omega
 have ax:∀{i},i≠H.n->(H.push (mL x off n ((x.cells.drop off).take m++cs))).get i=H.get i:=λhi=>AH.get_push hi
 refine⟨yV φ H.n P',⟨?_,?_,?_,?_,?_⟩,hle,dO _ _ _,?_,hin,λj hj=>hfz _ aa⟩
 .intro g hg;obtain⟨q,hq,h1⟩:=h.glob g hg;exact⟨q,hle g q hq,h1⟩
 .intro i q hq;by_cases e:i=H.n
  .subst e;rw[dO]at hq;cases hq;obtain⟨cs2,g1,g2⟩:=jq cs' (p.s+off+m) w cz z5;exact⟨_,cs2,ez,fz,AH.get_push_new H _,by simp[mL],by trivial,rfl,rfl,g1,by grind,by grind⟩
  .rw[fU e]at hq;obtain⟨y,cy,ey,fy,y1,y2,y3,y4,y5,y6,y7,y8⟩:=h.dom i q hq;by_cases hc:q.c=p.c
   .rw[hc]at y6;obtain⟨cs2,g1,g2⟩:=jq cs' (p.s+off+m) w cy y6;exact⟨y,cs2,ey,fy,by grind,y2,y3,y4,y5,by grind,aa,y8⟩
   grind[heap_setCells_other]
 .intro i q y k v hq hy hst hv;by_cases e:i=H.n
  .subst e;rw[dO]at hq;cases hq;rw[AH.get_push_new]at hy;cases hy;simp only[mL]at hv;rw[List.getElem?_append]at hv;have hlen:((x.cells.drop off).take m).length=m:=by simp;omega
   rw[hlen]at hv;by_cases hk:k<m
   .grind[au.at,List.getElem?_range,am.mono,Option.isSome_iff_exists,World.cell?_setCells_out]
   .rw[if_neg hk]at hv;obtain⟨v',g1,g2⟩:=hl.at hv
    have hj:k-m<cs'.length:=by
     rcases Zi (k-m) cs'.length with h'|h'
     .exact h'
     .grind
    have:=World.cell?_setCells_in p.c cs' (p.s+off+m) w hin (k-m) hj;refine⟨v',?_,am.mono hle _ _ g2⟩;rw[List.getElem?_eq_getElem hj]at g1;rw[<-g1,<-this];congr 2
    grind
  .rw[fU e]at hq;rw[ax e]at hy;obtain⟨v',g1,g2⟩:=h.cell i q y k v hq hy hst hv;refine⟨v',?_,am.mono hle _ _ g2⟩;rw[World.cell?_setCells_out _ _ _ _ _ (λhb _=>.inl ?_)]
   .exact g1
   .obtain⟨_,_,_,b4⟩:=hbelow i q y hq hy hst hb
    have hk:k<y.cells.length:=by
     rcases Zi k y.cells.length with h'|h'
     .exact h'
     .grind
    grind
 .grind[World.frozen?_setCells,dO,fU,frz]
 .intro i i' q q' y y' hq hq' hy hy' h1 h1' hne' hc;by_cases e1:i=H.n
  .grind[dO,AH.get_push_new,fU,mL]
  .by_cases e2:i'=H.n
   .grind[dO,AH.get_push_new,fU,mL]
   .rw[fU e1]at hq;rw[fU e2]at hq';rw[ax e1]at hy;rw[ax e2]at hy';exact h.sep i i' q q' y y' hq hq' hy hy' h1 h1' hne' hc
 grind[fU]
theorem F9(h:bp X φ H w){n by_ k:Nat}{s v:Value}{cs:LvQ}{H':AH}(hv:bU X.P H n by_ s k cs=some (v,H')){s':Value}(hs:am φ s s')
  {cs':LvQ} (hl:au φ cs cs') (hlen:cs'.length=k*n) {ts:Array TypeId} {ty:TypeId} {x':Value} (e:TypeId)
  (hin:∀(base:Option Addr)(sLen sCap:Nat)(w':World),sLen+k<=sCap->(base=none∧w'=w∨∃a,base=some a∧(storeCells (a.add (sLen*n)) cs').run X.P w=.ok () w') ->
   (Builtin.append_ ts ty #[.slice base sLen sCap,x']).run X.P w=.ok (.slice base (sLen+k) sCap) w')
  (hgr:∀(base:Option Addr)(sLen sCap:Nat)(olds:LvQ),sCap<sLen+k->k≠0->(sLen+k)*by_<=140737488355328 ->
   (∀w':World,w'.heap=w.heap->(Builtin.firstCells n sLen (.slice base sLen sCap)).run X.P w'=.ok olds.toArray w')->olds.length=sLen*n ->
   ∃ nc cells,(Builtin.append_ ts ty #[.slice base sLen sCap,x']).run X.P w=.ok (.slice (some ⟨w.heap.size,0,none⟩) (sLen+k) nc) (w.drew.alloc (.cells cells e)) ∧
    sLen+k<=nc∧cells.size=nc*n∧∀(i:Nat)(v:Value),(olds++cs')[i]?=some v->cells[i]?=some v) :
  ∃φ' v' w',(Builtin.append_ ts ty #[s',x']).run X.P w=.ok v' w'∧am φ' v v'∧bp X φ' H' w'∧Ext φ H w φ' H' w'∧fu H.n none φ φ':=by
 have hst0:∀(a:Addr),k=0->(storeCells a cs').run X.P w=.ok () w:=by
  intro a h0;subst h0;have:cs'=[]:=Yj.1 aa;subst this;rfl
 -- a new row of its own
 have loose:∀(base:Option Addr)(sLen sCap:Nat)(olds oldA:LvQ),sCap<sLen+k->k≠0->(sLen+k)*by_<=140737488355328 ->
   (∀w':World,w'.heap=w.heap->(Builtin.firstCells n sLen (.slice base sLen sCap)).run X.P w'=.ok olds.toArray w')->olds.length=sLen*n->au φ oldA olds ->
   ∃ φ' v' w',(Builtin.append_ ts ty #[.slice base sLen sCap,x']).run X.P w=.ok v' w'∧am φ' (.slice (some ⟨H.n,0,none⟩) (sLen+k) (sLen+k)) v' ∧
    bp X φ' (H.push (jp H.n n (oldA++cs))) w'∧Ext φ H w φ' (H.push (jp H.n n (oldA++cs))) w'∧fu H.n none φ φ':=by
  intro base sLen sCap olds oldA hgt hk0 hroom hold hol hor;obtain⟨nc,cells,hr,r1,r2,r3⟩:=hgr base sLen sCap olds hgt hk0 hroom hold hol;have hd:bp X φ H w.drew:=h.same_heap rfl;have hrel:=hor.append hl;have hlen2:(oldA++cs).length=(sLen+k)*n:=by rw[hrel.length,List.length_append,hol,hlen,Nat.add_mul]
  have hle:(sLen+k)*n<=nc*n:=Zs _ r1
  obtain ⟨φ',p,g1,g2,g3,g4,g5,g6,g7,g8,g9,g10⟩:=RH (w:=w.drew) hd (n:=n) (cells:=oldA++cs) (cs:=cells) e aa (λi u hu=>by
   grind[au.at])
  refine⟨φ',_,_,hr,?_,g1,(Ext.same_heap (w:=w) (w':=w.drew) rfl).trans g2,g10⟩;simp only[am];refine⟨_,_,rfl,.inl ⟨rfl,rfl,p,g3,g4.symm,by grind,.inr ⟨g6,?_,r1,?_⟩⟩⟩
  .grind
  .grind
 unfold bU at hv;split at hv
 ·-- a nil slice
  obtain rfl:=gM hs;split at hv
  .rename_i h0;simp only[Z9,Z5]at hv;obtain⟨rfl,rfl⟩:=hv;have:=hin none 0 0 w aa (.inl ⟨rfl,rfl⟩)
   grind[Ext.refl,fu.refl]
  .rename_i h0;split at hv
   .rename_i hroom;simp only[Z9,Z5]at hv;obtain⟨rfl,rfl⟩:=hv;have:=loose none 0 0 [] [] aa h0 (by grind) (λw' _=>by rfl) ac (au.nil φ)
    grind
   trivial
 .rename_i b off len cap;split at hv
  .cases hv
  rename_i hlc;split at hv
  ·-- nothing is appended
   rename_i h0;simp only[Z9,Z5]at hv;obtain⟨rfl,rfl⟩:=hv;rcases gL hs with⟨p,c',hp,rfl,hcap⟩|⟨a',rfl,rfl,rfl⟩
   .have hcc:cap<=c':=by rcases hcap with g|⟨_,_,g,_⟩<;>omega
    have:=hin (some ⟨p.c,p.s+off,none⟩) len c' w aa (.inr ⟨_,rfl,hst0 _ h0⟩)
    grind[Ext.refl,fu.refl]
   .have:=hin (some a') 0 0 w aa (.inr ⟨_,rfl,hst0 _ h0⟩)
    grind[Ext.refl,fu.refl]
  rename_i h0;split at hv
  ·-- within the capacity
   rename_i hfit;split at hv
   .rename_i H1 hw;simp only[Z9,Z5]at hv;obtain⟨rfl,rfl⟩:=hv;rcases gL hs with⟨p,c',hp,rfl,hcap⟩|⟨a',rfl,rfl,rfl⟩
    .have hcc:cap<=c':=by rcases hcap with g|⟨_,_,g,_⟩<;>omega
     obtain⟨g1,g2,g3,g4,g5⟩:=h.write hw hp hl;have hst:=run_storeCells_cells (P:=X.P) p.c (p.s+off+len*n) cs' 0 w (by grind) (by grind) g5;have:=hin (some ⟨p.c,p.s+off,none⟩) len c' _ aa (.inr ⟨_,rfl,by rw[oQ];omega⟩);rw[show p.s+off+len*n+0=p.s+(off+len*n) by omega]at this;refine⟨φ,_,_,this,?_,g1,g2,fu.refl _ _ _⟩;simp only[am]
     exact⟨_,_,rfl,.inl ⟨rfl,rfl,p,hp,rfl,rfl,hcap⟩⟩
    .omega
   trivial
  rename_i hnofit;split at hv
  case isFalse=>cases hv
  rename_i hroom;split at hv
  case h_2=>cases hv
  rename_i x hx;split at hv
  case isFalse=>cases hv
  rename_i hlive;obtain⟨hst1,hlenx⟩:=hlive;split at hv
  ·-- surely a new row
   rename_i hsure;simp only[Z9,Z5]at hv;obtain⟨rfl,rfl⟩:=hv;rcases gL hs with⟨p,c',hp,rfl,hcap⟩|⟨a',rfl,rfl,rfl⟩
   .obtain⟨y,cy,ey,fy,y1,y2,y3,y4,y5,y6,y7,y8⟩:=h.dom b p hp;rw[hx]at y1;cases y1
    have hcc:c'=cap:=by
     rcases hcap with g|⟨g1,g2,_⟩
     .exact g
     .grind
    subst hcc;have hrd:cg H b off (len*n)=some ((x.cells.drop off).take (len*n)):=by simp[cg,hx,hst1,hlenx]
    obtain⟨olds,o1,o2,o3,o4⟩:=h.read hrd hp;refine loose (some ⟨p.c,p.s+off,none⟩) len c' olds _ aa h0 hroom (λw' hw'=>?_) o2 o1
    grind[Builtin.firstCells,run_loadCells_list,World.cell?]
   .have:=loose (some a') 0 0 [] [] aa h0 aa (λw' _=>by simp[Builtin.firstCells,loadCells,loadCellsFrom]) ac (au.nil φ)
    grind
  rename_i hunsure;split at hv
  case isFalse=>cases hv
  rename_i hc;obtain⟨hwr,hesz,hend,hok⟩:=hc;simp only[Z9,Z5]at hv;obtain⟨rfl,rfl⟩:=hv
  -- the abstract heap is weakened
  have hxs:∀i,(H.set b {x with shared:=true,ver:=x.ver+1}).get i=if i=b then some {x with shared:=true,ver:=x.ver+1}else H.get i:=AH.get_set hx
  have hwk1:Wk H (H.set b {x with shared:=true,ver:=x.ver+1}):=⟨λi y hy=>by
   grind⟩
  have hwk:=hwk1.trans (Wk.kill _ (beyond b x.fam (x.start+off+len*n)) (λi y hb=>by grind[beyond]));have hdom:∀i q,φ i=some q->∃y,H.get i=some y:=λi q hq=>by obtain⟨y,_,_,_,hy,_⟩:=h.dom i q hq;grind
  have hW:=h.weaken hwk
  have hE:=Ext.weaken (w:=w) hdom hwk (λi y hn hy hsy=>by
   rw[AH.get_kill,hxs];rcases gL hs with⟨p,c',hp,_,_⟩|⟨a',_,_,_⟩
   .have hib:i≠b:=λe=>by grind
    rw[if_neg hib,hy];have:beyond b x.fam (x.start+off+len*n) i y=false:=by simp[beyond,hsy,hib]
    grind
   .have hib:i≠b:=λe=>by grind[Q1]
    rw[if_neg hib,hy];have:beyond b x.fam (x.start+off+len*n) i y=false:=by simp[beyond,hsy,hib]
    grind)
  generalize hH1:(H.set b {x with shared:=true,ver:=x.ver+1}).kill (beyond b x.fam (x.start+off+len*n))=H1 at hW hE hwk;have hn1:H1.n=H.n:=by rw[<-hH1];rfl
  have hget1:∀i,H1.get i=(if i=b then some {x with shared:=true,ver:=x.ver+1}else H.get i).map λy=>if beyond b x.fam (x.start+off+len*n) i y then{y with st:=2,ver:=y.ver+1}else y:=by
   intro i;rw[<-hH1,AH.get_kill,hxs]
  have reloc:∀(base:Option Addr)(sLen sCap:Nat)(olds oldA:LvQ),sCap<sLen+k->k≠0->(sLen+k)*by_<=140737488355328 ->
    (∀w':World,w'.heap=w.heap->(Builtin.firstCells n sLen (.slice base sLen sCap)).run X.P w'=.ok olds.toArray w')->olds.length=sLen*n->au φ oldA olds ->
    ∃ φ' v' w',(Builtin.append_ ts ty #[.slice base sLen sCap,x']).run X.P w=.ok v' w'∧am φ' (.slice (some ⟨H.n,0,none⟩) (sLen+k) (sLen+k)) v' ∧
     bp X φ' (H1.push (mL x off n (oldA++cs))) w'∧Ext φ H w φ' (H1.push (mL x off n (oldA++cs))) w'∧fu H.n none φ φ':=by
   intro base sLen sCap olds oldA hgt hk0 hroom hold hol hor;obtain⟨nc,cells,hr,r1,r2,r3⟩:=hgr base sLen sCap olds hgt hk0 hroom hold hol;have hd:bp X φ H1 w.drew:=hW.same_heap rfl;have hrel:=hor.append hl;have hlen2:(oldA++cs).length=(sLen+k)*n:=by rw[hrel.length,List.length_append,hol,hlen,Nat.add_mul]
   have hle:(sLen+k)*n<=nc*n:=Zs _ r1
   have hnone:φ H1.n=none:=by
    cases hb:φ H1.n with
    |none=>rfl
    | some q=>
     obtain⟨y,hy⟩:=hdom _ _ hb;have:=AH.get_lt hy;omega
   obtain ⟨g1,g2⟩:=hd.new (e:=e) (cs:=cells) hnone (AH.get_push_new H1 (mL x off n (oldA++cs))) (λi hi=>AH.get_push hi) rfl (by grind[mL]) (λi u hu=>by
    obtain⟨u',k1,k2⟩:=hrel.at hu
    grind)
   refine⟨_,_,_,hr,?_,g1,(hE.trans (Ext.same_heap (w':=w.drew) rfl)).trans g2,λi q hq hn=>?_⟩
   rotate_left
   .grind[fU]
   simp only[am];refine⟨_,_,rfl,.inl ⟨rfl,rfl,_,by rw[<-hn1];exact dO _ _ _,rfl,ac,.inr ⟨rfl,?_,r1,?_⟩⟩⟩
   .grind[mL]
   .grind[mL]
  rcases gL hs with⟨p,c',hp,rfl,hcap⟩|⟨a',rfl,rfl,rfl⟩
  .obtain⟨y,cy,ey,fy,y1,y2,y3,y4,y5,y6,y7,y8⟩:=h.dom b p hp;rw[hx]at y1;cases y1;have hrd:cg H b off (len*n)=some ((x.cells.drop off).take (len*n)):=by simp[cg,hx,hst1,hlenx]
   obtain⟨olds,o1,o2,o3,o4⟩:=h.read hrd hp;by_cases hinp:len+k<=c'
   ·-- in place
    have hroom2:p.s+off+len*n+cs'.length<=p.top:=by
     rcases hcap with g|⟨_,_,_,g⟩
     .omega
     .rw[hlen];have:len*n+k*n<=c'*p.esz:=by rw[<-Nat.add_mul,<-y5,hesz];exact Zs _ hinp
      omega
    obtain⟨xb,hxb,k1,k2,k3,k4,_⟩:=hwk.to b x hx
    have hxb2:xb.shared=true:=by
     have:=hget1 b;rw[hxb,if_pos rfl]at this;simp only[Option.map_some,Z9]at this;rw[this];split<;>rfl
    have holdw:olds=(List.range (len*n)).map λj=>(w.cell? ⟨p.c,p.s+off+j,none⟩).getD undef:=by
     apply Yk;intro j;by_cases hj:j<len*n
     .rw[List.getElem?_map,List.getElem?_range hj];have hj':j<olds.length:=aa
      grind[oQ]
     .rw[List.getElem?_eq_none aa,List.getElem?_eq_none (by grind)]
    have hsm:∀j,j<len*n->(w.cell? ⟨p.c,p.s+off+j,none⟩).isSome=true:=by
     intro j hj;have:=o4 j _ (List.getElem?_eq_getElem (by omega:j<olds.length));rw[oQ]at this;rw[this];rfl
    obtain ⟨φ',g1,g2,g3,g4,g5,g6⟩:=bp.extend hW (b:=b) (off:=off) (n:=n) (m:=len*n) (p:=p) (x:=x) (x0:=xb) hp hxb (k2.trans hwr) k1 k3 k4 hxb2 hlenx hl hroom2
     (by grind) hsm (λi q y hq hy hyst hqc=>by
      rw[hget1]at hy;by_cases ei:i=b
      .subst ei
       grind[beyond]
      .rw[if_neg ei]at hy;cases hyi:H.get i with
       |none=>grind
       | some y0=>
        rw[hyi]at hy;simp only[Option.map_some,Z9]at hy;by_cases hbe:beyond b x.fam (x.start+off+len*n) i y0=true
        .grind
        .rw[if_neg hbe]at hy;subst hy;rcases h.sep b i p q x y0 hp hq hx hyi hst1 hyst (λe=>ei e.symm) hqc.symm with⟨s1,_⟩|⟨s1,s2,s3,s4⟩
         .grind
         .simp[beyond,s1,s3,hyst]at hbe;exact⟨s1.symm,s3,s4,aa⟩)
    have hone:∀u∈cs',u.oneCell'=true:=by
     intro u hum;obtain⟨j,hj,rfl⟩:=List.getElem_of_mem hum;have hj':j<cs.length:=by have:=hl.length;omega
     exact(((mf cs cs').1 hl).2 j cs[j] cs'[j] (List.getElem?_eq_getElem hj') (List.getElem?_eq_getElem hj)).okCell (Z1.1 hok _ (Xs hj'))
    have hst:=run_storeCells_cells (P:=X.P) p.c (p.s+off+len*n) cs' 0 w aa aa hone;have hrun:=hin (some ⟨p.c,p.s+off,none⟩) len c' _ hinp (.inr ⟨_,rfl,by rw[oQ];omega⟩);rw[Nat.add_zero]at hrun;rw[hn1]at g3 g4;refine⟨φ',_,_,hrun,?_,g1,?_,λi q hq hn=>.inl (by grind)⟩
    .simp only[am];refine⟨_,_,rfl,.inl ⟨rfl,rfl,_,g3,rfl,ac,?_⟩⟩;rcases hcap with g|⟨e1,e2,e3,e4⟩
     .omega
     .refine .inr ⟨rfl,?_,hinp,?_⟩
      .grind
      grind
    .refine⟨g2,by simp[size_setCells],?_,?_,?_,?_,os_setCells ..,uJ ..⟩
     .intro c hc ho;exact heap_setCells_other (λe=>ho ⟨b,p,x,hp,e.symm,hx,hst1,hwr⟩) _ _ _
     .intro i q hq hnone;have:=g4 i q hq hnone;subst this;rw[g3]at hq;cases hq;exact .inr ⟨b,p,x,hp,rfl,hx,hst1,hwr⟩
     .intro i q y' hq hy' h1 h2
      have hi:i≠H1.n:=by
       rw[hn1];obtain⟨z,hz⟩:=hdom i q hq;have:=AH.get_lt hz;omega
      grind[AH.get_push]
     .intro i y hn hy h1 h2
      have hn':φ i=none:=by
       cases hb:φ i with
       |none=>rfl
       |some q=>grind
      have hi:i≠H1.n:=by rw[hn1];have:=AH.get_lt hy;omega
      grind[AH.get_push,Ext.abs]
   ·-- a new row
    exact reloc (some ⟨p.c,p.s+off,none⟩) len c' olds _ aa h0 hroom (λw' hw'=>by
     grind[Builtin.firstCells,run_loadCells_list,World.cell?]) o2 o1
  .have:=reloc (some a') 0 0 [] [] aa h0 aa (λw' _=>by simp[Builtin.firstCells,loadCells,loadCellsFrom]) ac (au.nil φ)
   grind
 trivial
def Sim(X:Cfg)(φ:bJ)(H:AH)(w:World)(rid:Option Nat)(v:Value)(H':AH)(r:Result Value):Prop:=
 ∃φ' v' w',r=.ok v' w'∧am φ' v v'∧bp X φ' H' w'∧Ext φ H w φ' H' w'∧fu H.n rid φ φ'
theorem Sim.same(h:bp X φ H w){rid:Option Nat}{v:Value}{r:Result Value}(hr:r=.ok v' w)(hv:am φ v v'):Sim X φ H w rid v H r:=
 ⟨φ,v',w,hr,hv,h,Ext.refl _ _ _,fu.refl _ _ _⟩
theorem sO{o:Option Value}{r:Value}(h:tn o=some r):o=some r∧plain r=true:=by
 unfold tn at h
 grind
theorem zA{v:Value}(h:am φ v v')(hp:plain v=true):v'=v:=(am.of_plain v hp v').1 h
theorem eT{v:Value}(hp:plain v=true):am φ v v:=(am.of_plain v hp v).2 rfl
theorem SA(h:bp X φ H w){rid:Option Nat}{z:Value}(hz:iH X.P t=some z)(hp:plain z=true){H':AH}(hm:mkB H rid z.cells.toList=some (b,H')):
  Sim X φ H w rid (.pointer (some ⟨b,0,none⟩)) H' ((Instr.alloc t true (.tuple #[])).run X.P w):=by
 obtain⟨φ',p,g1,g2,g3,g4,g5,_,g7⟩:=Dt h hm (cs:=z.cells) t (eT hp).cells;refine⟨φ',.pointer (some ⟨w.heap.size,0,none⟩),_,?_,?_,g1,g2,g7⟩
 .simp[Instr.alloc,rE hz,newVar,newRow]
 .have:=xg (off:=0) g3
  grind
theorem abf(h:bp X φ H w){rid:Option Nat}(hx:am φ x x'){H':AH}(hm:mkB H rid x.cells.toList=some (b,H')):
  Sim X φ H w rid (.pointer (some ⟨b,0,none⟩)) H' ((Instr.box t x').run X.P w):=by
 obtain⟨φ',p,g1,g2,g3,g4,g5,_,g7⟩:=Dt h hm (cs:=x'.cells) t hx.cells;refine⟨φ',.pointer (some ⟨w.heap.size,0,none⟩),_,?_,?_,g1,g2,g7⟩
 .rfl
 .have:=xg (off:=0) g3
  grind
theorem Ct{n:Nat}(g3:φ' b=some p)(g5:p.s=0):am φ' (.slice (some ⟨b,0,none⟩) l c) (.slice (some ⟨p.c,0,none⟩) l c):=by simp only[am];exact⟨_,_,rfl,.inl ⟨rfl,rfl,p,g3,rfl,by grind,.inl rfl⟩⟩
theorem Gx(h:bp X φ H w){rid:Option Nat}{l c v:Value}{H':AH}(hv:oU X.P H rid t l c=some (v,H'))(hl:am φ l l')(hc:am φ c c'):
  Sim X φ H w rid v H' ((Instr.makeSlice t l' c').run X.P w):=by
 unfold oU at hv;split at hv
 .rename_i e kl l kc c hu;split at hv
  .rename_i n z by_ hn hz hby;split at hv
   .rename_i hcnd;obtain⟨c1,c2,c3,c4,c5,c6,c7⟩:=hcnd;split at hv
    .rename_i b H1 hm;simp only[Z9,Z5]at hv;obtain⟨rfl,rfl⟩:=hv;obtain rfl:=rr hl;obtain rfl:=rr hc;obtain⟨i,hi,i1,i2,i3⟩:=Dz hn hz hby;subst i1;subst i3;have hrun:=run_make (P:=X.P) w t e i z hu hi i2 kl kc l c c4 c5 c6 c7
     have hcl:(madeCells z.cells (c.toNat*i.size)).toList=df z.cells.toList (c.toNat*i.size):=by
      have:=tM c2 c3 (c.toNat*i.size);unfold madeCells;rw[<-this]
     obtain⟨φ',p,g1,g2,g3,g4,g5,_,g7⟩:=Dt h hm (cs:=madeCells z.cells (c.toNat*i.size)) e (by grind[uy]);refine⟨φ',_,_,hrun,?_,g1,g2,g7⟩;rw[<-g4];exact Ct (n:=0) g3 g5
    trivial
   trivial
  trivial
 trivial
theorem F6(h:bp X φ H w){rid:Option Nat}{t:TypeId}{len:Nat}{ps ps':Array (Nat×Value)}{v:Value}{H':AH}(hv:gW X.P H rid t len ps=some (v,H'))
  (h1:ps.toList.map (·.1)=ps'.toList.map (·.1)) (h2:au φ (ps.toList.map (·.2)) (ps'.toList.map (·.2))) :
  Sim X φ H w rid v H' ((Instr.buildSlice t len ps').run X.P w):=by
 unfold gW at hv;split at hv
 .rename_i e hu;split at hv
  .rename_i n z hn hz;split at hv
   .rename_i hcnd;obtain⟨c1,c2,c3,c4⟩:=hcnd;split at hv
    .rename_i cs hf;split at hv
     .rename_i b H1 hm;simp only[Z9,Z5]at hv;obtain⟨rfl,rfl⟩:=hv;have hze:=tM c2 c3 (len*n);obtain⟨cs',hf',hl⟩:=Ai (φ:=φ) _ _ _ (df z.cells.toList (len*n)).toArray (df z.cells.toList (len*n)).toArray _ h1 h2 (by grind[uy]) hf;obtain⟨φ',p,g1,g2,g3,g4,g5,_,g7⟩:=Dt h hm (cs:=cs') e hl
      refine⟨φ',.slice (some ⟨w.heap.size,0,none⟩) len len,_,?_,?_,g1,g2,g7⟩
      .rw[hze]at hf';have c4':¬(2^24<len*n):=aa;by_cases h0:len*n=0
       .rw[h0]at hf';simp only[Array.range_zero',Array.map_empty]at hf';simp[Instr.buildSlice,aE hu,iM hn,h0,hf',newRow,Array.range_zero']
       .simp[Instr.buildSlice,aE hu,iM hn,rE hz,h0,hf',newRow];omega
      .rw[<-g4];exact Ct (n:=0) g3 g5
     trivial
    trivial
   trivial
  trivial
 trivial
theorem Lx{y:Value}(h:iN d x y=true)(hx:am φ x x')(hy:am φ y y'):
  iN d x' y'=true∧isNil x'=isNil x∧isNil y'=isNil y:=by
 unfold iN at h;split at h
 .rename_i e a n c b m k;cases a<;>cases b<;>simp only[am]at hx hy<;>(try obtain⟨_,_,rfl,_⟩:=hx)<;>(try subst hx)<;>(try obtain⟨_,_,rfl,_⟩:=hy)<;>(try subst hy)<;>simp[iN,isNil]
 .rename_i e a b;cases a<;>cases b<;>simp only[am]at hx hy<;>(try obtain⟨_,rfl,_⟩:=hx)<;>(try subst hx)<;>(try obtain⟨_,rfl,_⟩:=hy)<;>(try subst hy)<;>simp[iN,isNil]
 .rename_i fn x1 y1;obtain⟨x1⟩:=x1;obtain⟨y1⟩:=y1;simp only[am]at hx hy
  grind[iN,isNil]
 .rename_i fn x1 y1;obtain⟨x1⟩:=x1;obtain⟨y1⟩:=y1;simp only[am]at hx hy
  grind[iN,isNil]
 .grind[am,iN]
 .cases h
theorem Rt{y:Value}{p q:Bool}(hk:iN (P.underlying t) x y=true)(hx:isNil x=some p)(hy:isNil y=some q)(h:p=true∨q=true)(w:World):
  (Op.equal t x y).run P w=.ok (p&&q) w:=by
 obtain⟨d,hd⟩:∃d,Op.maxDepth=d+1:=⟨9999,rfl⟩;unfold Op.equal;rw[hd];unfold iN at hk;split at hk
 .rename_i e a n c b m k hu;simp only[isNil,Z9]at hx hy;subst hx;subst hy;cases a with
  |none=>cases b<;>simp[Op.equalIn,aE hu]
  | some a=>cases b with
   |none=>simp[Op.equalIn,aE hu]
   |some b=>grind
 .rename_i e a b hu;simp only[isNil,Z9]at hx hy;subst hx;subst hy;cases a with
  |none=>cases b<;>simp[Op.equalIn,aE hu]
  | some a=>cases b with
   |none=>simp[Op.equalIn,aE hu]
   |some b=>grind
 .rename_i hu;simp only[isNil,Z9]at hx hy;subst hx;subst hy;simp[Op.equalIn,aE hu]
 .rename_i hu;simp only[isNil,Z9]at hx hy;subst hx;subst hy;simp[Op.equalIn,aE hu]
 .rename_i hu;simp only[isNil,Z9]at hx hy;subst hx;subst hy;simp[Op.equalIn,aE hu]
 trivial
theorem Ja{y:Value}(hk:iN (P.underlying t) x y=true)(w:World):
  (eqGuard op t ox oy x y).run P w=.ok () w:=by unfold iN at hk;split at hk<;>first|(cases hk;done)|(unfold eqGuard;cases op<;>simp)
theorem NJ{y:Value}(hk:iN d x y=true):binOp .eql t x y=(do pure (.bool (<-Op.equal t x y))):=by unfold iN at hk;split at hk<;>first|(cases hk;done)|rfl
theorem NI{y:Value}(hk:iN d x y=true):binOp .neq t x y=(do pure (.bool (!(<-Op.equal t x y)))):=by unfold iN at hk;split at hk<;>first|(cases hk;done)|rfl
theorem NH{y v:Value}(hv:EW X.P op t x y=some v)(hx:am φ x x')(hy:am φ y y'):
  (do eqGuard op t ox oy x' y';binOp op t x' y').run X.P w=.ok v w∧plain v=true:=by
 unfold EW at hv;split at hv
 case isFalse=>cases hv
 case isTrue hk=>
 obtain⟨hk',nx,ny⟩:=Lx hk hx hy;split at hv
 all_goals first|(cases hv;done)|skip
 all_goals
  simp only[Z9]at hv;subst hv;rename_i e1 e2;rw[<-nx]at e1;rw[<-ny]at e2;refine⟨?_,rfl⟩;rw[Sem.run_bind,Ja hk',Result.andThen_ok]
  first|rw[NJ hk']|rw[NI hk']
  simp[Rt hk' e1 e2 ac]
theorem Sw{y v:Value}(hv:k8 X.P op t ox oy x y=some v)(hx:am φ x x')(hy:am φ y y'):
  ∃v',(do eqGuard op t ox oy x' y';binOp op t x' y').run X.P w=.ok v' w∧am φ v v':=by
 unfold k8 at hv;split at hv
 .rename_i hp;simp only[Z7]at hp;obtain rfl:=zA hx hp.1;obtain rfl:=zA hy hp.2;split at hv
  .rename_i r hr;split at hv
   .simp_all[Bc,eT]
   trivial
  trivial
 .obtain⟨h1,h2⟩:=NH (w:=w) (ox:=ox) (oy:=oy) hv hx hy
  grind[eT]
theorem Gy{v:Value}(hv:yC X.P t x=some v)(hx:am φ x x'):
  ∃v',(Instr.makeInterface t x').run X.P w=.ok v' w∧am φ v v':=by
 unfold yC at hv;split at hv
 .cases hv
 .cases hv
 .rename_i d hd _ hu;simp only[Z9]at hv;subst hv;refine⟨.iface t x',?_,by grind[am]⟩
  cases d<;>first
   |(exact absurd rfl (hd _);done)
   |simp[Instr.makeInterface,aE hu]
theorem Cx:∀{l l':LvQ}{bs:LuQ},bytesOf l=some bs→au φ l l'→l'=l∧∀(acc:ByteArray),
  (forIn (m:=Sem) l acc (λc (s:ByteArray)=>match c with
   |.int .u8 n=>pure (ForInStep.yield (s.push (UInt8.ofNat n.toNat)))
   | _=>do
    (stuck "bytesToString: byte expected" : Sem PUnit)
    pure (ForInStep.yield s))).run X.P w=.ok ⟨acc.data++bs.toArray⟩ w
 | [],l',bs,hb,hl=>by
  simp_all[bytesOf,au]
 | v::l,l',bs,hb,hl=>by
  simp only[au]at hl;obtain⟨u,r,rfl,hv,hr⟩:=hl;simp only[bytesOf]at hb;split at hb
  .rename_i b rs hb1 hb2;simp only[Z9]at hb;subst hb;obtain⟨rfl,ih⟩:=Cx hb2 hr;unfold JW at hb1;split at hb1
   .rename_i n;split at hb1
    .simp only[Z9]at hb1;subst hb1;obtain rfl:=rr hv
     simp_all
    trivial
   trivial
  trivial
theorem MA(h:bp X φ H w){rid:Option Nat}{s d:TypeId}{v:Value}{H':AH}(hv:j5 X.P H s d x=some (v,H'))(hx:am φ x x'):
  Sim X φ H w rid v H' ((convert s d x').run X.P w):=by
 have hplain:(if plain x then(tn (pv X.P (convert s d x))).map λr=>(r,H)else none)=some (v,H')->Sim X φ H w rid v H' ((convert s d x').run X.P w):=by
  intro hv;split at hv
  .rename_i hp;simp only[Z4,Z5]at hv;obtain⟨r,hr,rfl,rfl⟩:=hv;obtain⟨h1,h2⟩:=sO hr;obtain rfl:=zA hx hp
   simp_all[Sim.same,Bc,eT]
  .cases hv
 unfold j5 at hv;split at hv
 .rename_i ds e str hs hd;split at hv
  .rename_i he;simp only[Z9,Z5]at hv;obtain⟨rfl,rfl⟩:=hv;obtain rfl:=pZ hx;have hd1:bp X φ H w.drew:=h.same_heap rfl
   let bs:LvQ:=str.data.toList.map λb=>Value.int .u8 b.toNat
   let cap:=(Question.appendCap str.size 0 e).cut (w.tape w.drawn (.appendCap str.size 0 e))
   have hcap:str.size<=cap:=Nat.le_add_right _ _
   let cs:Array Value:=(str.data.map λb=>Value.int .u8 b.toNat)++Array.replicate (cap-str.size) (.int .u8 0)
   have hlb:bs.length=str.size:=by simp only[bs,List.length_map,Array.length_toList];rfl
   have hcs:cs.size=cap:=by
    have:(str.data.map λb=>Value.int .u8 b.toNat).size=str.size:=by rw[Array.size_map];rfl
    simp only[cs,Array.size_append,this,Array.size_replicate];omega
   obtain ⟨φ',p,g1,g2,g3,g4,g5,g6,g7,g8,g9,g10⟩:=EZ (w:=w.drew) hd1 (n:=1) (cells:=bs) (cs:=cs) e (cs.size,cs.size+1) (λi hi=>by omega) aa (λi u hu=>by
    refine⟨u,?_,?_⟩
    ·have hi:i<bs.length:=by
      rcases Zi i bs.length with h'|h'
      .exact h'
      .grind
     grind
    grind[mV])
   refine⟨φ',.slice (some ⟨w.heap.size,0,none⟩) str.size cap,_,?_,?_,g1,(Ext.same_heap (w:=w) (w':=w.drew) rfl).trans g2,λi p hp hn=>(g10 i p hp hn).imp id (λg=>by cases g)⟩
   .rw[<-N3];simp only[convert,Sem.run_bind,aE hs,aE hd,aE he,Result.andThen_ok,Conv.stringToBytes];have hfo:(Question.appendCap str.size 0 e).forced=false:=rfl
    have hsh:(w.drew.alloc (.cells cs e)).shape? w.heap.size=some (e,cs.size):=by
     have:=heap_alloc_new w.drew (.cells cs e);simp only[World.size_drew]at this;unfold World.shape?;rw[this]
    simp only[run_choose,hfo,Zh,if_false,Result.andThen_ok,newRow,Sem.run_bind,run_newObj,World.alloc_eq,World.drew_eq,Sem.run_pure,markStringish,run_shape,hsh,run_freeze,World.size_drew]
    grind[Result.andThen,Sem.run,freeze]
   .simp only[am];refine⟨_,_,rfl,.inl ⟨rfl,rfl,p,g3,g4.symm,by grind,.inr ⟨g6,?_,hcap,?_⟩⟩⟩
    .grind
    grind
  trivial
 .rename_i e a len cap hs hd;split at hv
  .rename_i he;split at hv
   .simp only[Z9,Z5]at hv;obtain⟨rfl,rfl⟩:=hv;obtain rfl:=gM hx;refine Sim.same h ?_ yi;simp[convert,aE hs,aE hd,aE he,Conv.bytesToString]
   .rename_i b off;split at hv
    .rename_i cs hc;simp only[Z4,Z5]at hv;obtain⟨bs,hb,rfl,rfl⟩:=hv;refine Sim.same h ?_ yi
     have fin:∀(a':Addr)(c':Nat)(cs':LvQ),(loadCells a' len).run X.P w=.ok cs'.toArray w->au φ cs cs'->(convert s d (.slice (some a') len c')).run X.P w=.ok (.string ⟨bs.toArray⟩) w:=by
      intro a' c' cs' hl hr;obtain⟨rfl,hf⟩:=Cx (X:=X) (w:=w) hb hr;have:=hf ByteArray.empty;simp only[convert,Sem.run_bind,aE hs,aE hd,aE he,Result.andThen_ok,Conv.bytesToString,hl];simp only[List.forIn_toArray];refine Eq.trans (congrArg (λr=>Result.andThen r λa w'=>Sem.run X.P (pure (Value.string a)) w') this) ?_;simp
     split at hc
     .rename_i h0;split at hc
      case isFalse=>cases hc
      simp only[Z9]at hc;subst hc;subst h0;obtain⟨a',c',rfl,_⟩:=ii hx
      simp_all[loadCells,loadCellsFrom,au.nil]
     grind[gL,E4]
    trivial
   trivial
  trivial
 grind
def oX(X:Cfg)(φ:bJ)(H:AH)(w:World)(rid:Option Nat)(v:Value)(H':AH)(r:Result Next):Prop:=
 ∃φ' v' w',(r=.ok (.value v') w'∨(r=.ok .skip w'∧v'=undef))∧am φ' v v'∧bp X φ' H' w'∧Ext φ H w φ' H' w'∧fu H.n rid φ φ'
theorem Sim.of_none{rid:Option Nat}{v:Value}{H':AH}{r:Result Value}(hs:Sim X φ H w none v H' r):Sim X φ H w rid v H' r:=by obtain⟨φ',v',w',hr,h1,h2,h3,h4⟩:=hs;exact⟨φ',v',w',hr,h1,h2,h3,λi p hp hn=>(h4 i p hp hn).imp id (λg=>by cases g)⟩
theorem oX.of_sim{rid:Option Nat}{v:Value}{H':AH}{s:Sem Value}(hs:Sim X φ H w rid v H' (s.run X.P w)):oX X φ H w rid v H' ((do pure (.value (<-s)):Sem Next).run X.P w):=by obtain⟨φ',v',w',hr,h1,h2,h3,h4⟩:=hs;exact⟨φ',v',w',.inl (by simp[hr]),h1,h2,h3,h4⟩
theorem oX.of_val(h:bp X φ H w){rid:Option Nat}{v:Value}{s:Sem Value}(hs:∃v',s.run X.P w=.ok v' w∧am φ v v'):oX X φ H w rid v H ((do pure (.value (<-s)):Sem Next).run X.P w):=by grind[of_sim,Sim.same]
theorem au.map_mem{α:Type}{f g:α->Value}:∀(l:List α),(∀x∈l,am φ (f x) (g x))->au φ (l.map f) (l.map g)
 |[],_=>au.nil φ
 |x::l,h=>au.cons (h x ac) (au.map_mem l (λy hy=>h y (by grind)))
theorem FY{P:Program}{t tx ty e:TypeId}(ht:P.underlying t=some (.slice e)){n:Nat}(hn:szO P e=some n){base:Option Addr}{dLen dCap:Nat}{x':Value}
  {k m:Nat} {cs':LvQ} {w w':World} (hlen:(Builtin.lenOf x').run P w=.ok k w) (hm:m=min k dLen) (hc:(Builtin.firstCells n m x').run P w=.ok cs'.toArray w)
  (hst:base=none∧w'=w∨∃a,base=some a∧(storeCells a cs').run P w=.ok () w') :
  (Builtin.copy_ #[t,tx] ty #[.slice base dLen dCap,x']).run P w=.ok (.int .i64 m) w':=by
 have hmn:Nat.min k dLen=m:=hm.symm;rcases hst with⟨rfl,rfl⟩|⟨a,rfl,h⟩
 .simp_all[Builtin.copy_,goInt,aE,iM]
 simp_all[Builtin.copy_,goInt,aE,iM]
theorem Te(h:bp X φ H w){cs:LvQ}(hs:nf H n x=some (k,cs))(hx:am φ x x')(m:Nat)(hm:m<=k):
  ∃cs',au φ (cs.take (m*n)) cs'∧cs'.length=m*n∧(Builtin.lenOf x').run X.P w=.ok k w∧(Builtin.firstCells n m x').run X.P w=.ok cs'.toArray w:=by
 unfold nf at hs;split at hs
 .simp only[Z9,Z5]at hs;obtain⟨rfl,rfl⟩:=hs;obtain rfl:=gM hx;have:m=0:=aa;subst this;exact⟨[],by simp[au.nil],ac,by rfl,by rfl⟩
 .rename_i b off len cap;split at hs
  .rename_i h0;simp only[Z9,Z5]at hs;obtain⟨rfl,rfl⟩:=hs;subst h0;obtain⟨a',c',rfl,_⟩:=ii hx;have:m=0:=aa;subst this;exact⟨[],by simp[au.nil],ac,by rfl,by simp[Builtin.firstCells,loadCells,loadCellsFrom]⟩
  .rename_i h0;simp only[Z4,Z5]at hs;obtain⟨cs0,hc,rfl,rfl⟩:=hs;rcases gL hx with⟨p,c',hp,rfl,_⟩|⟨a',rfl,h00,_⟩
   .have hmn:m*n<=len*n:=Zs _ hm;obtain⟨csf,h1,h2,h3,h4⟩:=h.read hc hp;refine⟨csf.take (m*n),h1.take _,by grind,by rfl,?_⟩;simp only[Builtin.firstCells];have hl:(csf.take (m*n)).length=m*n:=by simp;omega
    grind[run_loadCells_list]
   omega
 .rename_i s;split at hs
  .rename_i h1;simp only[Z9,Z5]at hs;obtain⟨rfl,rfl⟩:=hs;subst h1;obtain rfl:=pZ hx;have hsz:s.data.toList.length=s.size:=by rw[Array.length_toList];rfl
   refine⟨_,(au.map (λ_=>mV) s.data.toList).take (m*1),by grind,by rfl,?_⟩;simp only[Builtin.firstCells,Sem.run_pure];congr 1;apply Array.ext'
   have:(s.extract 0 m).data.toList=s.data.toList.take m:=by
    simp[ByteArray.data_extract,List.extract_eq_take_drop]
   simp
  trivial
 trivial
theorem Sp{P:Program}{t ty e:TypeId}(ht:P.underlying t=some (.slice e)){n:Nat}{z:Value}(hn:szO P e=some n)(hz:iH P e=some z)(hzs:z.cells.size=n)(h0:0<n)
  {a:Addr} {len cap:Nat} (hl:len≠0) {w w':World} (hst:(storeCells a (df z.cells.toList (len*n))).run P w=.ok () w') :
  (Builtin.clear_ #[t] ty #[.slice (some a) len cap]).run P w=.ok (.tuple #[]) w':=by
 have hz2:(Builtin.zeroCells z.cells len).toList=df z.cells.toList (len*n):=by
  have hze:=tM hzs h0 (len*n);rw[hzs]at hze;rw[Builtin.zeroCells,hzs,<-hze]
 simp_all[Builtin.clear_,aE,rE]
theorem Ol(ht:P.underlying t=some (.slice e)){w:World}:
  (Builtin.clear_ #[t] ty #[.slice none len cap]).run P w=.ok (.tuple #[]) w:=by simp[Builtin.clear_,aE ht]
theorem Oj(ht:P.underlying t=some (.slice e)){a:Option Addr}{w:World}:
  (Builtin.clear_ #[t] ty #[.slice a 0 cap]).run P w=.ok (.tuple #[]) w:=by cases a<;>simp[Builtin.clear_,aE ht]
theorem MM(h:bp X φ H w){rid:Option Nat}{b:Builtin}{v:Value}{H':AH}(hv:bC X.P H b ts t args=some (v,H'))(ha:au φ args args')(consts:Array Bool):
  oX X φ H w rid v H' ((builtin b ts t consts args'.toArray).run X.P w):=by
 unfold bC at hv;split at hv
 ·-- len
  rename_i x;simp only[au]at ha;obtain⟨x',_,rfl,hx,rfl⟩:=ha;refine oX.of_sim (s:=Builtin.len_ ts t [x'].toArray) ?_;split at hv
  .rename_i s hu;simp only[Z9,Z5]at hv;obtain⟨rfl,rfl⟩:=hv;obtain⟨t0,ht0,hu⟩:=Yr.1 hu;obtain rfl:=pZ hx
   simp_all[Sim.same,Builtin.len_,goInt,aE,mV]
  .rename_i e a n c hu;simp only[Z9,Z5]at hv;obtain⟨rfl,rfl⟩:=hv;obtain⟨t0,ht0,hu⟩:=Yr.1 hu;cases a with
   | none=>
    obtain rfl:=gM hx
    simp_all[Sim.same,Builtin.len_,goInt,aE,mV]
   | some a=>
    obtain⟨a',c',rfl,_⟩:=ii hx
    simp_all[Sim.same,Builtin.len_,goInt,aE,mV]
  .rename_i n e hu;simp only[Z9,Z5]at hv;obtain⟨rfl,rfl⟩:=hv;obtain⟨t0,ht0,hu⟩:=Yr.1 hu
   simp_all[Sim.same,Builtin.len_,goInt,aE,mV]
  trivial
 ·-- cap
  rename_i x;simp only[au]at ha;obtain⟨x',_,rfl,hx,rfl⟩:=ha;refine oX.of_sim (s:=Builtin.cap_ ts t [x'].toArray) ?_;split at hv
  .rename_i e hu;simp only[Z4,Z5]at hv;obtain⟨n,hc,rfl,rfl⟩:=hv;obtain⟨t0,ht0,hu⟩:=Yr.1 hu;unfold XJ at hc;split at hc
   .cases hc;obtain rfl:=gM hx
    simp_all[Sim.same,Builtin.cap_,goInt,aE,mV]
   .rename_i b off len c;split at hc
    .rename_i y hy;split at hc
     .rename_i hcond;obtain⟨_,hcond⟩:=hcond;cases hc;rcases gL hx with⟨p,c',hp,rfl,hcap⟩|⟨a',rfl,rfl,rfl⟩
      ·have:c'=n:=by
        obtain⟨z,_,_,_,z1,z2,z3,z4,z5,_⟩:=h.dom _ _ hp;rw[hy]at z1;cases z1;rcases hcap with g|⟨g1,g2,_⟩
        .exact g
        .grind
       simp_all[Sim.same,Builtin.cap_,goInt,aE,mV]
      simp_all[Sim.same,Builtin.cap_,goInt,aE,mV]
     trivial
    trivial
   trivial
  trivial
 ·-- append
  rename_i s x;simp only[au]at ha;obtain⟨s',_,rfl,hs,x',_,rfl,hx,rfl⟩:=ha;refine oX.of_sim (s:=Builtin.append_ ts t [s',x'].toArray) ?_;split at hv
  .rename_i e d hu hd;obtain⟨t0,ht0,hu⟩:=Yr.1 hu;obtain⟨t1,ht1,hd⟩:=Yr.1 hd
   have hts:Builtin.append_ ts t [s',x'].toArray=Builtin.append_ #[t0,t1] t #[s',x']:=by
    unfold Builtin.append_;simp only[ht0,ht1];rfl
   rw[hts];split at hv
   .rename_i n by_ z hn hby hz;split at hv
    .cases hv
    rename_i hcond;simp only[not_or,ne_eq,Decidable.not_not]at hcond;obtain⟨c1,c2,c3⟩:=hcond;have hn0:0<n:=aa;have hb0:0<by_:=aa;split at hv
    .rename_i kd kd' k;split at hv
     .rename_i hc;obtain⟨d1,d2,d3,d4⟩:=hc;obtain rfl:=rr hx;obtain⟨m,rfl⟩:=Int.eq_ofNat_of_zero_le d3;simp only[Int.toNat_natCast]at hv
      have hk:m*by_<=140737488355328:=by
       have:((m*by_:Nat):Int)<=140737488355328:=by rw[Int.natCast_mul];exact d4
       omega
      refine Sim.of_none (F9 h hv hs (uy d1 _) (by simp[df]) e
       (λbase sLen sCap w' hle hst=>Iq hu hd hn hz hby c3 hn0 hb0 hk hle hst)
       (λbase sLen sCap olds hgt hk0 hroom hold hl=>QF hu hd hn hz hby c3 hn0 hb0 hgt hk0 hroom hold hl))
     trivial
    .cases hv
    .rename_i hnot1 hnot2;split at hv
     .rename_i k cs hsrc;obtain⟨cs',r1,r2,r3⟩:=ZC h hsrc hx
      have hdi:∀k,d≠.int k:=by
       intro kd hd';subst hd'
       first|exact hnot2 _ rfl|grind|exact hnot2 _ _ rfl|exact hnot1 _ _ rfl
      refine Sim.of_none (F9 h hv hs r1 r2 e
       (λbase sLen sCap w' hle hst=>L9 hu hd hdi hn r3 hle hst)
       (λbase sLen sCap olds hgt hk0 hroom hold hl=>VW hu hd hdi hn hz hby c3 hb0 hn0 r3 hgt hroom hold hl r2))
     trivial
   trivial
  trivial
 ·-- copy
  rename_i base dLen dCap src;simp only[au]at ha;obtain⟨s',_,rfl,hs,x',_,rfl,hx,rfl⟩:=ha;refine oX.of_sim (s:=Builtin.copy_ ts t [s',x'].toArray) ?_;split at hv
  .rename_i e hu;obtain⟨t0,ht0,hu⟩:=Yr.1 hu
   have hts:Builtin.copy_ ts t [s',x'].toArray=Builtin.copy_ #[t0,t0] t #[s',x']:=by
    unfold Builtin.copy_;simp only[ht0];rfl
   rw[hts];split at hv
   .rename_i n hn;split at hv
    .rename_i k cs hsrc;simp only at hv;obtain⟨cs',r1,r2,r3,r4⟩:=Te h hsrc hx (min k dLen) aa;split at hv
     .simp only[Z9,Z5]at hv;obtain⟨rfl,rfl⟩:=hv;obtain rfl:=gM hs
      simp_all[Sim.same,FY,mV]
     .rename_i b off;split at hv
      .rename_i h0;simp only[Z9,Z5]at hv;obtain⟨rfl,rfl⟩:=hv;obtain⟨a',c',rfl,_⟩:=ii hs;have:cs'=[]:=Yj.1 (by grind);subst this;exact Sim.same h (FY hu hn r3 rfl r4 (.inr ⟨a',rfl,rfl⟩)) mV
      .rename_i h0;simp only[Z4,Z5]at hv;obtain⟨H1,hw,rfl,rfl⟩:=hv;rcases gL hs with⟨p,c',hp,rfl,_⟩|⟨a',rfl,h00,_⟩
       .obtain⟨g1,g2,g3,g4,g5⟩:=h.write hw hp r1;have hst:=run_storeCells_cells (P:=X.P) p.c (p.s+off) cs' 0 w aa aa g5;exact⟨φ,_,_,FY hu hn r3 rfl r4 (.inr ⟨_,rfl,hst⟩),mV,aa,aa,fu.refl _ _ _⟩
       .omega
     trivial
    trivial
   trivial
  trivial
 ·-- clear
  rename_i base len cap;simp only[au]at ha;obtain⟨s',_,rfl,hs,rfl⟩:=ha;refine oX.of_sim (s:=Builtin.clear_ ts t [s'].toArray) ?_;split at hv
  .rename_i e hu;obtain⟨t0,ht0,hu⟩:=Yr.1 hu
   have hts:Builtin.clear_ ts t [s'].toArray=Builtin.clear_ #[t0] t #[s']:=by
    unfold Builtin.clear_;simp only[ht0];rfl
   rw[hts];split at hv
   .rename_i n z hn hz;split at hv
    .simp only[Z9,Z5]at hv;obtain⟨rfl,rfl⟩:=hv;obtain rfl:=gM hs;exact Sim.same h (Ol hu) (eT rfl)
    .rename_i b off;split at hv
     .rename_i hc;obtain⟨c1,c2,c3⟩:=hc;split at hv
      .rename_i h0;simp only[Z9,Z5]at hv;obtain⟨rfl,rfl⟩:=hv;subst h0;obtain⟨a',c',rfl,_⟩:=ii hs;exact Sim.same h (Oj hu) (eT rfl)
      .rename_i h0;simp only[Z4,Z5]at hv;obtain⟨H1,hw,rfl,rfl⟩:=hv;rcases gL hs with⟨p,c',hp,rfl,_⟩|⟨a',rfl,h00,_⟩
       .obtain⟨g1,g2,g3,g4,g5⟩:=h.write hw hp (uy c1 (len*n));have hst:=run_storeCells_cells (P:=X.P) p.c (p.s+off) _ 0 w aa aa g5;exact⟨φ,_,_,Sp hu hn hz c2 c3 h0 hst,eT rfl,aa,aa,fu.refl _ _ _⟩
       omega
     trivial
    trivial
   trivial
  trivial
 ·-- min
  split at hv
  .rename_i hp;simp only[Z4,Z5]at hv;obtain⟨r,hr,rfl,rfl⟩:=hv;obtain⟨h1,h2⟩:=sO hr;obtain rfl:=(au.of_plain args hp args').1 ha;exact oX.of_sim (s:=Builtin.min_ ts t args'.toArray) (Sim.same h (Bc _ _ _ h1 w) (eT h2))
  trivial
 .split at hv
  .rename_i hp;simp only[Z4,Z5]at hv;obtain⟨r,hr,rfl,rfl⟩:=hv;obtain⟨h1,h2⟩:=sO hr;obtain rfl:=(au.of_plain args hp args').1 ha;exact oX.of_sim (s:=Builtin.max_ ts t args'.toArray) (Sim.same h (Bc _ _ _ h1 w) (eT h2))
  trivial
 trivial
def yv(o:Oper):Bool:=o.op.operands.all zE
theorem Di(h:bp X φ H w){a:LvQ}(ha:au φ a act.tmps.toList):∀{xs:Array Operand},(∀x∈xs,zE x=true)->au φ ((xs.map (ev X a)).toList) ((xs.map act.eval).toList):=by grind[Array.toList_map,au.map_mem,bN]
theorem NF(h:bp X φ H w){a:LvQ}{act:Act}(ha:au φ a act.tmps.toList){o:Oper}(ho:yv o=true){rid:Option Nat}{v:Value}{H':AH}
  (hal:∀t r z,o.op=.alloc t->rid=some r->iH X.P t=some z->φ r=none∧H.get r=some (fresh r z.cells.toList)) (hv:opV X rid H a o=some (v,H')) :
  oX X φ H w rid v H' ((execOp act.eval o).run X.P w):=by
 have hok:∀x∈o.op.operands,zE x=true:=λx hx=>X7.1 ho x hx
 have E:∀{x},x∈o.op.operands->am φ (ev X a x) (act.eval x):=λhx=>bN h ha (hok _ hx)
 unfold opV at hv;simp only at hv;unfold execOp
 have parts:∀{ps:Array (Nat×Operand)},(∀x∈ps.toList.map (·.2),zE x=true) ->
   (ps.map λ(x:Nat×Operand)=>(x.1,ev X a x.2)).toList.map (·.1)=(ps.map λ(x:Nat×Operand)=>(x.1,act.eval x.2)).toList.map (·.1) ∧
   au φ ((ps.map λ(x:Nat×Operand)=>(x.1,ev X a x.2)).toList.map (·.2)) ((ps.map λ(x:Nat×Operand)=>(x.1,act.eval x.2)).toList.map (·.2)):=by
  intro ps hps;constructor
  .simp
  .simp only[Array.toList_map,Wp];refine au.map_mem _ (λx hx=>bN h ha (hps x.2 (List.mem_map_of_mem hx)))
 split at hv
 ·-- move
  rename_i x hop;simp only[hop]at E ⊢;simp only[Z9,Z5]at hv;obtain⟨rfl,rfl⟩:=hv;exact⟨φ,_,w,.inl rfl,E aD,h,Ext.refl _ _ _,fu.refl _ _ _⟩
 .rename_i x hop;simp only[hop]at E ⊢;simp only[Z9,Z5]at hv;obtain⟨rfl,rfl⟩:=hv;exact⟨φ,_,w,.inl rfl,E aD,h,Ext.refl _ _ _,fu.refl _ _ _⟩
 ·-- pick
  rename_i c x y hop;simp only[hop]at E ⊢;split at hv
  .rename_i b hb;simp only[Z9,Z5]at hv;obtain⟨rfl,rfl⟩:=hv;have hc:=E (x:=c) aD;rw[hb]at hc;have hc':=zt hc;refine⟨φ,if b then act.eval x else act.eval y,w,.inl ?_,?_,h,Ext.refl _ _ _,fu.refl _ _ _⟩
   .simp_all[asBool]
   .cases b
    .exact E aD
    .exact E aD
  trivial
 ·-- alloc
  rename_i t hop;simp only[hop]at E ⊢;split at hv
  .rename_i z hz;split at hv
   .rename_i hp;cases rid with
    | none=>
     simp only[Z9,Z5]at hv;obtain⟨rfl,rfl⟩:=hv;exact oX.of_sim (SA (rid:=none) h hz hp rfl)
    | some r=>
     simp only[Z9,Z5]at hv;obtain⟨rfl,rfl⟩:=hv;obtain⟨hn,hg⟩:=hal t r z hop rfl hz
     obtain ⟨g1,g2⟩:=h.new (e:=t) (cs:=z.cells) hn hg (λi _=>rfl) rfl (by simp[fresh]) (λi u hu=>by
      simp only[fresh]at hu;rw[Array.getElem?_toList]at hu
      exact ⟨u,hu,by
       have:=((eT (φ:=φ) hp).cells).at (i:=i) (v:=u) (by grind)
       grind⟩)
     refine oX.of_sim (s:=Instr.alloc t true (.tuple #[])) ⟨_,.pointer (some ⟨w.heap.size,0,none⟩),_,?_,?_,g1,g2,λi q hq hn'=>?_⟩
     .simp[Instr.alloc,rE hz,newVar,newRow]
     .have:=xg (off:=0) (dO φ r ⟨w.heap.size,0,(fresh r z.cells.toList).cells.length,(fresh r z.cells.toList).esz,z.cells.size,(fresh r z.cells.toList).exact⟩);omega
     .by_cases e':i=r
      .exact .inr (by rw[e'])
      grind[fU]
   trivial
  trivial
 ·-- box
  rename_i t x hop;simp only[hop]at E ⊢;simp only[Z4,Z5]at hv;obtain⟨⟨b,H1⟩,hm,rfl,rfl⟩:=hv;exact oX.of_sim (abf h (E aD) hm)
 ·-- build
  rename_i t ps hop;simp only[hop]at hok ⊢;simp only[Z4,Z5]at hv;obtain⟨u,hu,rfl,rfl⟩:=hv;obtain⟨p1,p2⟩:=parts (ps:=ps) (λx hx=>hok x (by grind[Op.operands]));exact oX.of_val h (Sv hu p1 p2)
 ·-- buildSlice
  grind[Op.operands,oX.of_sim,F6]
 ·-- load
  rename_i t x hop;simp only[hop]at E ⊢;simp only[Z4,Z5]at hv;obtain⟨u,hu,rfl,rfl⟩:=hv;exact oX.of_val h (LK h hu (E aD))
 ·-- store
  rename_i t x y hop;simp only[hop]at E ⊢;simp only[Z4,Z5]at hv;obtain⟨H1,hu,rfl,rfl⟩:=hv;obtain⟨w',g1,g2,g3⟩:=QS h hu (E (x:=x) aD) (E (x:=y) aD);exact⟨φ,undef,w',.inr ⟨by simp[g1],rfl⟩,am.undef φ,g2,g3,fu.refl _ _ _⟩
 ·-- nilCheck
  rename_i x hop;simp only[hop]at E ⊢;split at hv
  .rename_i p hp;simp only[Z9,Z5]at hv;obtain⟨rfl,rfl⟩:=hv;have hx:=E (x:=x) aD;rw[hp]at hx;have hx':=hx;simp only[am]at hx';obtain⟨a',e,_⟩:=hx';exact⟨φ,_,w,.inl (by rw[e];rfl),by grind,h,Ext.refl _ _ _,fu.refl _ _ _⟩
  trivial
 ·-- binOp
  rename_i op t x y yt hop;simp only[hop]at E ⊢;simp only[Z4,Z5]at hv;obtain⟨u,hu,rfl,rfl⟩:=hv;exact oX.of_val h (Sw hu (E aD) (E aD))
 ·-- unOp
  rename_i op t x hop;simp only[hop]at E ⊢;split at hv
  .rename_i hp;simp only[Z4,Z5]at hv;obtain⟨r,hr,rfl,rfl⟩:=hv;obtain⟨h1,h2⟩:=sO hr;have hx:=zA (E (x:=x) aD) hp;rw[hx];exact oX.of_val h ⟨r,Bc _ _ _ h1 w,eT h2⟩
  trivial
 ·-- convert
  rename_i s d x hop;simp only[hop]at E ⊢;exact oX.of_sim (MA h hv (E aD))
 ·-- makeInterface
  rename_i t x hop;simp only[hop]at E ⊢;simp only[Z4,Z5]at hv;obtain⟨u,hu,rfl,rfl⟩:=hv;exact oX.of_val h (Gy hu (E aD))
 ·-- makeFunc
  rename_i f x y hop;simp only[hop]at hok ⊢;simp only[Z9,Z5]at hv;obtain⟨rfl,rfl⟩:=hv;refine oX.of_val h ⟨_,rfl,?_⟩;have l1:=Di h ha (xs:=x) (λz hz=>hok z (by simp[Op.operands,hz]));have l2:=Di h ha (xs:=y) (λz hz=>hok z (by simp[Op.operands,hz]));obtain⟨mx,hmx⟩:∃m:LvQ,x.map (ev X a)=⟨m⟩:=⟨_,rfl⟩
  obtain⟨my,hmy⟩:∃m:LvQ,y.map (ev X a)=⟨m⟩:=⟨_,rfl⟩
  grind[am]
 ·-- makeSlice
  rename_i t l c hop;simp only[hop]at E ⊢;exact oX.of_sim (Gx h hv (E aD) (E aD))
 ·-- slice
  rename_i t x lo hi mx hop;simp only[hop]at E ⊢;simp only[Z4,Z5]at hv;obtain⟨u,hu,rfl,rfl⟩:=hv
  have O:∀(o:Option Operand),(∀y,o=some y->am φ (ev X a y) (act.eval y))->YQ φ (o.map (ev X a)) (o.map act.eval):=by
   intro o ho';cases o with
   |none=>exact .inl rfl
   |some y=>exact .inr ⟨_,_,rfl,rfl,ho' y rfl⟩
  exact oX.of_val h (Q0 h hu (E aD) (O lo (λy hy=>E (by simp[Op.operands,hy]))) (O hi (λy hy=>E (by simp[Op.operands,hy]))) (O mx (λy hy=>E (by simp[Op.operands,hy]))))
 ·-- fieldAddr
  rename_i t x f hop;simp only[hop]at E ⊢;simp only[Z4,Z5]at hv;obtain⟨u,hu,rfl,rfl⟩:=hv;exact oX.of_val h (GE hu (E aD))
 .rename_i t x f hop;simp only[hop]at E ⊢;simp only[Z4,Z5]at hv;obtain⟨u,hu,rfl,rfl⟩:=hv;exact oX.of_val h (Sd hu (E aD))
 .rename_i t x i hop;simp only[hop]at E ⊢;simp only[Z4,Z5]at hv;obtain⟨u,hu,rfl,rfl⟩:=hv;exact oX.of_val h (GB hu (E aD) (E aD))
 .rename_i t x i hop;simp only[hop]at E ⊢;simp only[Z4,Z5]at hv;obtain⟨u,hu,rfl,rfl⟩:=hv;exact oX.of_val h (RR hu (E aD) (E aD))
 ·-- extract
  rename_i x i hop;simp only[hop]at E ⊢;split at hv
  .rename_i vs hvs;simp only[Z4,Z5]at hv;obtain⟨u,hu,rfl,rfl⟩:=hv;exact oX.of_val h (Ml hvs hu (E aD))
  trivial
 ·-- a builtin
  rename_i b args argTypes hop;simp only[hop]at hok ⊢;have l1:=Di h ha (xs:=args) (λz hz=>hok z (by simp[Op.operands,Call.operands,hz]));have:=MM (rid:=rid) h hv l1 (args.map λ|.const _=>true|_=>false);trivial
 trivial
structure Evo(H H':AH):Prop where
 n:H.n<=H'.n
 keep:∀b x,H.get b=some x->∃x',H'.get b=some x'∧x.ver<=x'.ver∧(x'.ver=x.ver->x'=x)∧(x.st≠0->x'.st≠0∧x'.exact=x.exact∧x'.esz=x.esz∧x'.cells.length=x.cells.length)
theorem Evo.refl(H:AH):Evo H H:=⟨Z8 _,λ_ x h=>⟨x,h,Z8 _,λ_=>rfl,λs=>⟨s,rfl,rfl,rfl⟩⟩⟩
theorem Evo.trans{H H' H'':AH}(h:Evo H H')(h':Evo H' H''):Evo H H'':=⟨Zy h.n h'.n,λb x hx=>by
 obtain⟨y,hy,y1,y2,y3⟩:=h.keep b x hx;obtain⟨z,hz,z1,z2,z3⟩:=h'.keep b y hy;refine⟨z,hz,Zy y1 z1,λe=>?_,λs=>?_⟩
 .have e1:y.ver=x.ver:=aa;have e2:z.ver=y.ver:=aa
  grind
 grind⟩
theorem Evo.push(H:AH)(x:Blk):Evo H (H.push x):=⟨ac,λb y hy=>⟨y,by grind[AH.get_push_old,AH.get_lt],Z8 _,λ_=>rfl,λs=>⟨s,rfl,rfl,rfl⟩⟩⟩
theorem Evo.set{H:AH}{b:Nat}{x y:Blk}(h:H.get b=some x)(hv:x.ver<y.ver)(hs:x.st≠0->y.st≠0∧y.exact=x.exact∧y.esz=x.esz∧y.cells.length=x.cells.length):Evo H (H.set b y):=⟨ac,λi z hz=>by
 rw[AH.get_set h];by_cases e:i=b
 .subst e;rw[h]at hz;cases hz;rw[if_pos rfl];exact⟨y,rfl,Nat.le_of_lt hv,λe=>by omega,hs⟩
 grind⟩
theorem Evo.kill(H:AH)(p:Nat->Blk->Bool):Evo H (H.kill p):=⟨ac,λi z hz=>by
 rw[AH.get_kill,hz];simp only[Option.map_some];by_cases h:p i z=true
 .rw[if_pos h];exact⟨_,rfl,ac,λe=>by grind,λ_=>⟨ac,rfl,rfl,rfl⟩⟩
 grind⟩
theorem Jh{H:AH}{rid:Option Nat}{cells:LvQ}{H':AH}(h:mkB H rid cells=some (b,H')):Evo H H':=by
 cases rid with
 | none=>
  grind[mkB,Evo.push]
 | some r=>
  grind[mkB,Evo.set,fresh]
theorem yd{H:AH}{vs:LvQ}{H':AH}(h:kE H b off vs=some H'):Evo H H':=by
 unfold kE at h;split at h
 .rename_i x hx;split at h
  .rename_i hc;simp only[Z9]at h;subst h;split
   .have hk:=Evo.kill H (kin b x.fam)
    have hxk:(H.kill (kin b x.fam)).get b=some x:=by
     rw[AH.get_kill,hx];simp[kin]
    exact hk.trans (Evo.set hxk ac (λs=>⟨s,rfl,rfl,tf _ _ _ hc.2.2.1⟩))
   .exact Evo.set hx ac (λs=>⟨s,rfl,rfl,tf _ _ _ hc.2.2.1⟩)
  .cases h
 .cases h
theorem MR{H:AH}{s v:Value}{cs:LvQ}{H':AH}(h:bU P H n by_ s k cs=some (v,H')):Evo H H':=by
 unfold bU at h
 grind[Evo.refl,Evo.push,yd,Evo.trans,Evo.set,Evo.kill]
noncomputable def touch(X:Cfg)(a:LvQ)(o:Oper):Option Nat:=
 match o.op with
 |.load _ x=>iL (ev X a x)
 |.slice _ x _ _ _=>(match ev X a x with|.slice (some p) _ _=>some p.block|_=>none)
 |.convert _ _ x=>(match ev X a x with|.slice (some p) _ _=>some p.block|_=>none)
 |.call {callee:=.builtin .cap,args,.. }=>(match args[0]? with|some x=>iL (ev X a x)|none=>none)
 |_=>none
variable{X:Cfg}{H H':AH}{a:LvQ}{o:Oper}{v:Value}{rid:Option Nat}
theorem NN(hf:(f.map λv=>(v,H))=some (v,H')):H'=H∧∀(H2:AH),(f.map λv=>(v,H2))=some (v,H2):=by grind[Z4]
theorem JX{b:Builtin}(hb:b=.len∨b=.min∨b=.max)(hv:bC X.P H b ts t args=some (v,H')):
  H'=H∧∀(H2:AH),bC X.P H2 b ts t args=some (v,H2):=by
 rcases hb with rfl|rfl|rfl
 .match args,hv with
  | [x],hv=>
   simp only[bC]at hv ⊢;split at hv
   all_goals first
    |(cases hv;done)
    |(simp only[Z9,Z5]at hv;obtain⟨rfl,rfl⟩:=hv;exact⟨rfl,λ_=>rfl⟩)
  |[],hv=>trivial
  |_::_::_,hv=>trivial
 .simp only[bC]at hv ⊢;split at hv
  .rename_i hp;obtain⟨e1,e2⟩:=NN hv;exact⟨e1,λH2=>by first|exact e2 H2|grind⟩
  trivial
 .simp only[bC]at hv ⊢;split at hv
  .rename_i hp;obtain⟨e1,e2⟩:=NN hv;exact⟨e1,λH2=>by first|exact e2 H2|grind⟩
  trivial
theorem t8{r:Nat}(hv:opV X (some r) H a o=some (v,H'))(h1:fF X.P o.op=false)(h2:pd o.op=false)(h3:gE X.P o.op=false)(h4:qe o.op=false):
  H'=H∧∀(H2:AH),opV X (some r) H2 a o=some (v,H2):=by
 obtain⟨dst,op,ty,pos,aft,grd⟩:=o;cases op
 case alloc t=>
  simp only[opV]at hv ⊢;split at hv
  .split at hv
   .simp only[Z9,Z5]at hv;obtain⟨rfl,rfl⟩:=hv;rename_i hp;exact⟨rfl,λ_=>by first|rfl|rw[if_pos hp]⟩
   trivial
  trivial
 case call c=>
  obtain⟨cal,args,ats⟩:=c;cases cal with
  |value f=>trivial
  |invoke r m=>trivial
  | builtin b=>
   simp only[opV]at hv ⊢
   have hb:b=.len∨b=.min∨b=.max:=by
    cases b<;>first
     |(simp[fF]at h1;done)
     |(simp[gE]at h3;done)
     |(simp[qe]at h4;done)
     |(simp[bC]at hv;done)
     |simp
   grind[JX]
 case makeFunc fn x y=>
  cases fn<;>simp only[opV]at hv ⊢ <;>first
   |(cases hv;done)
   |grind
 case convert s d x=>
  simp only[opV]at hv ⊢;simp only[fF,gE]at h1 h3;unfold j5 at hv ⊢;split at hv
  .grind
  .grind
  .split at hv
   .rename_i hp;obtain⟨e1,e2⟩:=NN hv;exact⟨e1,λH2=>by first|exact e2 H2|grind⟩
   trivial
 all_goals simp only[pd,fF,gE,qe]at h1 h2 h3 h4
 all_goals first|(cases h1;done)|(cases h2;done)|(cases h3;done)|(cases h4;done)|skip
 all_goals simp only[opV]at hv ⊢
 all_goals first
  |(cases hv;done)
  |(obtain⟨e1,e2⟩:=NN hv;exact⟨e1,λH2=>e2 H2⟩)
  |(simp only[Z9,Z5]at hv;obtain⟨rfl,rfl⟩:=hv;exact⟨rfl,λ_=>rfl⟩)
  |skip
 ·-- pick
  split at hv
  .grind
  trivial
 ·-- nilCheck
  split at hv
  .grind
  trivial
 ·-- unOp
  split at hv
  .rename_i hp;obtain⟨e1,e2⟩:=NN hv;exact⟨e1,λH2=>by first|exact e2 H2|grind⟩
  trivial
 ·-- extract
  split at hv
  .obtain⟨e1,e2⟩:=NN hv;trivial
  trivial
theorem EH(h:H2.get b=H.get b):cg H2 b off n=cg H b off n:=by grind[cg]
theorem Ck{cs:LvQ}(h:cg H b off n=some cs):∃y,H.get b=some y∧y.st≠0:=by
 unfold cg at h;split at h
 .rename_i x hx;split at h
  .rename_i hc;exact⟨x,hx,aa⟩
  .cases h
 .cases h
theorem LL(h:vp X.P H t x=some u):
  (∀b,iL x=some b->∃y,H.get b=some y∧y.st≠0)∧∀H2:AH,(∀b,iL x=some b->H2.get b=H.get b)->vp X.P H2 t x=some u:=by
 unfold vp at h ⊢;split at h
 .rename_i b off
  have K:∀{n cs},cg H b off n=some cs->(∀b',iL (.pointer (some ⟨b,off,none⟩))=some b'->∃y,H.get b'=some y∧y.st≠0):=by
   intro n cs hr b' hb';simp only[iL,Z9]at hb';subst hb';exact Ck hr
  have R:∀{H2:AH},(∀b',iL (.pointer (some ⟨b,off,none⟩))=some b'->H2.get b'=H.get b')->∀n,cg H2 b off n=cg H b off n:=λhh n=>EH (hh b rfl)
  split at h
  .cases hn:szO X.P t with
   |none=>grind
   | some n=>
    grind[cg]
  .cases hn:szO X.P t with
   |none=>grind
   | some n=>
    grind[cg]
  .grind
  .cases h
 .cases h
def B7(H H2:AH)(b:Nat):Prop:=∃y y2,H.get b=some y∧H2.get b=some y2∧y.st≠0∧y2.st≠0∧y2.exact=y.exact∧y2.esz=y.esz∧y2.cells.length=y.cells.length
theorem Nc{p:Addr}(h:H2.get p.block=H.get p.block):there H2 (some p)=there H (some p):=by grind[there]
theorem Nb{p:Addr}(h:B7 H H2 p.block):there H2 (some p)=there H (some p):=by
 obtain⟨y,y2,e1,e2,s1,s2,_⟩:=h;have b1:(y.st !=0)=true:=by simpa using s1
 have b2:(y2.st !=0)=true:=by simpa using s2
 grind[there]
theorem N5{p:Addr}(h:B7 H H2 p.block):x9 H2 n (some p)=x9 H n (some p):=by
 obtain⟨y,y2,e1,e2,s1,s2,s3,s4,_⟩:=h;have b1:(y.st !=0)=true:=by simpa using s1
 have b2:(y2.st !=0)=true:=by simpa using s2
 grind[x9]
theorem G8{p:Addr}(h:there H (some p)=true):∃y,H.get p.block=some y∧y.st≠0:=by grind[there]
theorem II{lo:Option Value}(h:lI X.P H t x lo hi mx=some u):
  (∀b,(match x with|.slice (some p) _ _=>some p.block|_=>none)=some b->∃y,H.get b=some y∧y.st≠0) ∧
  ∀H2:AH,(∀b,(match x with|.slice (some p) _ _=>some p.block|_=>none)=some b->B7 H H2 b)->lI X.P H2 t x lo hi mx=some u:=by
 unfold lI at h ⊢;split at h
 .grind
 .rename_i e a len cap hu;cases hb0:de cap cap mx with
  |none=>grind
  |some m=>
  by_cases hmh:(hi.isNone&&mx.isSome)=true
  .grind
  .have hmh':(hi.isNone&&mx.isSome)=false:=by simpa using hmh
   cases hb:de len m hi with
   |none=>grind
   | some h1=>
    cases hb2:de 0 h1 lo with
    |none=>grind
    | some l1=>
     cases hs:szO X.P e with
     |none=>grind
     | some n=>
      simp[hb0,hmh',hb,hb2,hs]at h ⊢;cases a with
      |none=>grind[there,x9]
      | some p=>
       grind[G8,Nb,N5]
 .grind
 .cases h
theorem Om(hc:XJ H x=some n):
  (∀b,iL x=some b->∃y,H.get b=some y∧y.st≠0)∧∀H2:AH,(∀b,iL x=some b->B7 H H2 b)->XJ H2 x=some n:=by
 unfold XJ at hc ⊢;split at hc
 .grind[iL]
 .rename_i b off len c;split at hc
  .rename_i y hy;refine⟨λb' hb'=>?_,λH2 hh=>?_⟩
   .grind[iL]
   .obtain⟨y0,y2,e1,e2,s1,s2,s3,s4,s5⟩:=hh b rfl
    grind
  trivial
 trivial
theorem wD(hv:opV X rid H a o=some (v,H'))(h1:fF X.P o.op=false)(h3:gE X.P o.op=true):
  H'=H∧(∀b,touch X a o=some b->∃y,H.get b=some y∧y.st≠0)∧∀(rid2:Option Nat)(H2:AH),(∀b,touch X a o=some b->H2.get b=H.get b)->opV X rid2 H2 a o=some (v,H2):=by
 obtain⟨dst,op,ty,pos,aft,grd⟩:=o;cases op
 case load t x=>
  grind[opV,touch,Z4,LL]
 case convert s d x=>
  simp only[gE]at h3;simp only[opV,touch]at hv ⊢;simp only[fF]at h1;unfold j5 at hv ⊢;split at hv
  .grind
  .rename_i e a0 len cap hs hd hx;split at hv
   case h_2=>cases hv
   split at hv
   .grind
   .rename_i b off;split at hv
    .rename_i cs hc;simp only[Z4,Z5]at hv;obtain⟨bs,hb,rfl,rfl⟩:=hv;refine⟨rfl,λb' hb'=>?_,λ_ H2 hh=>?_⟩
     .grind[G8,Ck]
     .have hg:=hh b (by rw[hx])
      have:(if len=0 then(if there H2 (some ⟨b,off,none⟩)=true then some []else none)else cg H2 b off len)=some cs:=by
       rw[Nc (p:=⟨b,off,none⟩) hg,EH hg];exact hc
      grind
    trivial
   trivial
  .split at hv
   .rename_i hp;obtain⟨e1,e2⟩:=NN hv;refine⟨e1,λb hb=>?_,λ_ H2 _=>by first|exact e2 H2|grind⟩
    grind[plain]
   trivial
 case call c=>trivial
 all_goals(simp only[gE]at h3;cases h3)
theorem wC(hv:opV X rid H a o=some (v,H'))(h3:qe o.op=true):
  H'=H∧(∀b,touch X a o=some b->∃y,H.get b=some y∧y.st≠0)∧∀(rid2:Option Nat)(H2:AH),(∀b,touch X a o=some b->B7 H H2 b)->opV X rid2 H2 a o=some (v,H2):=by
 obtain⟨dst,op,ty,pos,aft,grd⟩:=o;cases op
 case slice t x lo hi mx=>
  grind[opV,touch,Z4,II]
 case call c=>
  obtain⟨cal,args,ats⟩:=c;cases cal with
  |value f=>trivial
  |invoke r m=>trivial
  | builtin b=>
   cases b<;>first
    |(simp[qe]at h3;done)
    |skip
   simp only[opV,touch]at hv ⊢;obtain⟨args⟩:=args
   match args,hv with
   | [x],hv=>
    simp only[bC,List.map_toArray,Zv,Yv]at hv ⊢
    grind[Z4,Om]
   |[],hv=>simp[bC]at hv
   |_::_::_,hv=>simp[bC]at hv
 all_goals(simp only[qe]at h3;cases h3)
theorem xh{r:Nat}(hv:opV X (some r) H a o=some (v,H'))(h2:pd o.op=true):
  ∃cells,(∃y,H.get r=some y∧y.st=0∧y.ver=0)∧H'=H.set r (fresh r cells)∧∀(H2:AH),(∃y,H2.get r=some y∧y.st=0∧y.ver=0)->opV X (some r) H2 a o=some (v,H2.set r (fresh r cells)):=by
 have mk:∀{cells:LvQ}{b:Nat}{H':AH},mkB H (some r) cells=some (b,H')->b=r∧(∃y,H.get r=some y∧y.st=0∧y.ver=0)∧H'=H.set r (fresh r cells):=by
  intro cells b H' h;simp only[mkB]at h;split at h
  .grind
  .cases h
 have mk2:∀{cells:LvQ}{H2:AH},(∃y,H2.get r=some y∧y.st=0∧y.ver=0)->mkB H2 (some r) cells=some (r,H2.set r (fresh r cells)):=by
  rintro cells H2 ⟨y,hy,hc⟩;simp only[mkB,hy];rw[if_pos hc]
 obtain⟨dst,op,ty,pos,aft,grd⟩:=o;cases op<;>simp only[pd]at h2<;>first|(cases h2;done)|skip
 .grind[opV,Z4]
 .rename_i t len ps;simp only[opV]at hv ⊢;unfold gW at hv ⊢;split at hv
  .rename_i e hu;split at hv
   .grind
   trivial
  trivial
 .rename_i t l c;simp only[opV]at hv ⊢;unfold oU at hv ⊢;split at hv
  .rename_i e kl l0 kc c0 hu hl hc0;split at hv
   .rename_i n z by_ hn hz hby;split at hv
    .rename_i hc;split at hv
     .rename_i b H1 hm;simp only[Z9,Z5]at hv;obtain⟨rfl,rfl⟩:=hv;obtain⟨rfl,h3,h4⟩:=mk hm;refine⟨_,h3,h4,λH2 hr=>?_⟩
      first
       |rw[if_pos hc,mk2 hr]
       |(simp only[hu,hl,hc0,hn,hz,hby];rw[if_pos hc,mk2 hr])
     trivial
    trivial
   trivial
  trivial
theorem JY{b:Builtin}(hv:bC X.P H b ts t args=some (v,H')):Evo H H':=by
 unfold bC at hv
 repeat' (first|split at hv|(simp only at hv;split at hv))
 all_goals first
  |(cases hv;done)
  |(simp only[Z9,Z5]at hv;obtain⟨_,rfl⟩:=hv;exact Evo.refl _)
  |exact MR hv
  |(simp only[Z4,Z5]at hv;obtain⟨_,hw,_,rfl⟩:=hv;first|exact yd hw|exact Evo.refl _)
theorem Dj(hv:opV X rid H a o=some (v,H')):Evo H H':=by
 by_cases h1:fF X.P o.op=true
 .obtain⟨dst,op,ty,pos,aft,grd⟩:=o;cases op
  case store t x y=>
   simp only[opV,Z4,Z5]at hv;obtain⟨H1,hs,_,rfl⟩:=hv;unfold uD at hs
   grind[yd]
  case convert s d x=>
   simp only[opV]at hv;unfold j5 at hv
   repeat' (split at hv)
   all_goals first
    |(cases hv;done)
    |(simp only[Z9,Z5]at hv;obtain⟨_,rfl⟩:=hv;first|exact Evo.refl _|exact Evo.push _ _)
    |(simp only[Z4,Z5]at hv;obtain⟨_,_,_,rfl⟩:=hv;exact Evo.refl _)
  case call c=>
   grind[opV,JY]
  all_goals(simp[fF]at h1)
 .have h1':fF X.P o.op=false:=by simpa using h1
  by_cases h2:pd o.op=true
  .obtain⟨dst,op,ty,pos,aft,grd⟩:=o;cases op
   case box t x=>
    grind[opV,Z4,Jh]
   case buildSlice t len ps=>
    simp only[opV]at hv;unfold gW at hv
    repeat' (split at hv)
    all_goals first
     |(cases hv;done)
     |grind[Jh]
   case makeSlice t l c=>
    simp only[opV]at hv;unfold oU at hv
    repeat' (split at hv)
    all_goals first
     |(cases hv;done)
     |grind[Jh]
   all_goals(simp[pd]at h2)
  .have h2':pd o.op=false:=by simpa using h2
   by_cases h3:gE X.P o.op=true
   .grind[wD,Evo.refl]
   .by_cases h4:qe o.op=true
    .grind[wC,Evo.refl]
    .cases rid with
     |some r=>grind[t8,Evo.refl]
     | none=>
      -- with no kept number only a new variable's block is pushed
      by_cases ha:∃t,o.op=.alloc t
      .grind[opV,Evo.push]
      ·have hs:opV X (some 0) H a o=some (v,H'):=by
        obtain⟨dst,op,ty,pos,aft,grd⟩:=o;cases op
        case alloc t=>grind
        case box t x=>trivial
        case buildSlice t l ps=>trivial
        case makeSlice t l c=>trivial
        case makeFunc fn f c=>cases fn<;>exact hv
        case call c=>
         obtain⟨cal,args,ats⟩:=c;cases cal<;>exact hv
        all_goals exact hv
       grind[t8,Evo.refl]
theorem Evo.stat(h:Evo H H2)(hb:∃y,H.get b=some y∧y.st≠0):B7 H H2 b:=by obtain⟨y,hy,hy0⟩:=hb;obtain⟨y2,h2,_,_,h3⟩:=h.keep b y hy;obtain⟨s1,s2,s3,s4⟩:=h3 hy0;exact⟨y,y2,hy,h2,hy0,s1,s2,s3,s4⟩
def ou(cf:iA):Prop:=∀f args H v H',cf f args H=some (v,H')->Evo H H'
theorem WK{cf:iA}(hcf:ou cf)(hv:qj X cf rid H a o=some (v,H')):Evo H H':=by
 unfold qj at hv;split at hv
 .split at hv
  .exact Dj hv
  .split at hv
   .exact hcf _ _ _ _ _ hv
   trivial
 grind[Dj]
theorem xq{H H':AH}(hn:H.n<=H'.n)(hb:b<H.n):(H.graft H').get b=H.get b:=by
 rw[AH.get_pos (H:=H.graft H') (show b<H'.n by omega),AH.get_pos hb]
 show((List.range (H'.n-H.n)).map _++H.l)[H'.n-1-b]?=_
 rw[List.getElem?_append_right aN];congr 1;simp;omega
theorem HZ{H H':AH}{x:Blk}(hb:H.n<=b)(hx:H'.get b=some x):(H.graft H').get b=some x:=by
 have hl:=AH.get_lt hx;rw[AH.get_pos hl]at hx;rw[AH.get_pos (H:=H.graft H') (show b<H'.n by omega)]
 show((List.range (H'.n-H.n)).map _++H.l)[H'.n-1-b]?=_
 rw[List.getElem?_append_left aN,List.getElem?_map,List.getElem?_range aa];simp[hx]
theorem RY{H H':AH}(hn:H.n<=H'.n):Evo H (H.graft H'):=
 ⟨hn,λb x hx=>⟨x,by rw[xq hn (AH.get_lt hx),hx],Z8 _,λ_=>rfl,λs=>⟨s,rfl,rfl,rfl⟩⟩⟩
theorem xz(X:Cfg)(B:Nat):∀(l:List Blk)(n i:Nat),(w6 X B n l)[i]?=(l[i]?).map λx=>if n-1-i<B∧X.glob (n-1-i)=true then{x with wr:=false,st:=if cV x.cells=true then x.st else x.st+x.st}else qJ
 |[],n,i=>by simp[w6]
 |x::l,n,0=>by simp[w6]
 | x::l,n,i+1=>by
  simp only[w6,List.getElem?_cons_succ];rw[xz X B l (n-1) i,show n-1-1-i=n-1-(i+1) by omega]
theorem pM(X:Cfg)(B:Nat)(H:AH)(b:Nat):(H.bare X B).get b=(H.get b).map λx=>if b<B∧X.glob b=true then{x with wr:=false,st:=if cV x.cells=true then x.st else x.st+x.st}else qJ:=by
 by_cases h:b<H.n
 .rw[AH.get_pos (H:=H.bare X B) h,AH.get_pos h]
  show(w6 X B H.n H.l)[H.n-1-b]?=_
  rw[xz,show H.n-1-(H.n-1-b)=b by omega]
 .rw[AH.get_neg (H:=H.bare X B) h,AH.get_neg h];rfl
theorem MN{B r:Nat}{z:Blk}(hr:r<H.n)(hB:B<=r):(H.set r z).bare X B=H.bare X B:=by
 show AH.mk H.n (w6 X B H.n (H.l.set (H.n-1-r) z))=⟨H.n,w6 X B H.n H.l⟩
 congr 1;apply Yk;intro i;rw[xz,xz,List.getElem?_set];by_cases hi:H.n-1-r=i
 .subst hi;have:¬(H.n-1-(H.n-1-r)<B∧X.glob (H.n-1-(H.n-1-r))=true):=aa;by_cases hl:H.n-1-r<H.l.length
  .simp[this,hl]
  .simp[hl]
 .simp[hi]
theorem HY{H H':AH}{r:Nat}{z:Blk}(hr:r<H.n)(hn:H.n<=H'.n):(H.set r z).graft H'=(H.graft H').set r z:=by
 show AH.mk H'.n ((List.range (H'.n-H.n)).map _++H.l.set (H.n-1-r) z)=⟨H'.n,((List.range (H'.n-H.n)).map _++H.l).set (H'.n-1-r) z⟩
 rw[Y4 _ _ aN];congr 3;simp;omega
theorem QY{cf:iA}(hcf:ou cf){B:Nat}(hv:oo X cf B H a o=some (v,H')):Evo H H':=by
 unfold oo at hv;split at hv
 .split at hv
  .split at hv
   .split at hv
    .rename_i h;cases hv;exact RY (hcf _ _ _ _ _ h).n
    .cases hv
   .cases hv
  .cases hv
 .cases hv
theorem QX{cf:iA}(hcf:ou cf){B r:Nat}{z:Blk}(hr:r<H.n)(hB:B<=r)(hv:oo X cf B H a o=some (v,H')):oo X cf B (H.set r z) a o=some (v,H'.set r z):=by
 unfold oo at hv ⊢;split at hv
 .split at hv
  .split at hv
   .rename_i hp;split at hv
    .rename_i h;cases hv;simp only[*,if_true,MN hr hB];rw[HY hr (hcf _ _ _ _ _ h).n]
    .cases hv
   .cases hv
  .cases hv
 .cases hv
theorem KH{cf:iA}(hcf:ou cf){B r:Nat}{z:Blk}(hr:r<H.n)(hB:B<=r)(hv:oo X cf B (H.set r z) a o=some (v,H')):∃H1,oo X cf B H a o=some (v,H1)∧H'=H1.set r z:=by
 unfold oo at hv ⊢;split at hv
 .split at hv
  .split at hv
   .rename_i hp;split at hv
    .rename_i h;cases hv;rw[MN hr hB]at h;refine⟨_,by simp only[*,if_true],HY hr (hcf _ _ _ _ _ h).n⟩
    .cases hv
   .cases hv
  .cases hv
 .cases hv
theorem WJ{cf:iA}(hcf:ou cf){ops:Array Oper}(hv:yO X cf ops base i o a H=some (v,H')):Evo H H':=by
 unfold yO at hv;split at hv
 .exact QY hcf hv
 .exact WK hcf hv
theorem xu{cf:iA}(hcf:ou cf){ops:Array Oper}(hv:dop X cf ops base i o a H=some (v,H')):Evo H H':=by grind[dop,WJ]
theorem xa{cf:iA}(hcf:ou cf){ops:Array Oper}{a':LvQ}(hv:eE X cf ops base i o a H=some (a',H')):Evo H H':=by grind[eE,xu,Evo.refl]
theorem Hs:∀{l m:List Blk},tY l m=true->∀(i:Nat)(x:Blk),l[i]?=some x->∃y,m[i]?=some y∧y.ver=x.ver
 |[],_,_,i,x,hx=>by simp at hx
 |x::l,[],h,_,_,_=>by trivial
 | x::l,y::m,h,i,z,hz=>by
  simp only[tY,Z7,beq_iff_eq]at h;cases i with
  |zero=>grind
  |succ i=>exact Hs h.2 i z (by trivial)
theorem UH(h:preB H H'=true)(he:Evo H H'){x:Blk}(hx:H.get b=some x):H'.get b=some x:=by
 obtain⟨x',hx',h1,h2,_⟩:=he.keep b x hx;have hlt:=AH.get_lt hx;have hlt':=AH.get_lt hx';have hn:=he.n;rw[AH.get_pos hlt]at hx;obtain⟨y,hy,hv⟩:=Hs h _ _ hx;rw[List.getElem?_drop,show H'.n-H.n+(H.n-1-b)=H'.n-1-b by omega,<-AH.get_pos hlt',hx']at hy
 grind
theorem adP{a:LvQ}{v:Value}{x:Operand}(h:∀d,dst=some d->x≠.tmp d):ev X (jB a dst v) x=ev X a x:=by
 cases dst with
 |none=>rfl
 | some d=>
  cases x with
  | tmp t=>
   grind[ev,oO,jB]
  |_=>rfl
theorem JH{ops:Array Oper}{x:Oper}(h:∀d,dst=some d->d ∉ x.looksAt ops){v:Value}{y:Operand}(hy:y∈x.op.operands):ev X (jB a dst v) y=ev X a y:=
 adP λd hd hyd=>h d hd (by
  subst hyd;exact List.mem_append_left _ (List.mem_filterMap.2 ⟨.tmp d,by grind,rfl⟩))
theorem Rp{a:LvQ}(h:∀x∈o.op.operands,ev X a x=ev X a2 x):opV X rid H a o=opV X rid H a2 o:=by
 obtain⟨dst,op,ty,pos,aft,grd⟩:=o
 have pairs:∀ps:Array (Nat×Operand),(∀x∈ps.map (·.2),ev X a x=ev X a2 x) ->
   (ps.map λ(x:Nat×Operand)=>(x.1,ev X a x.2))=(ps.map λ(x:Nat×Operand)=>(x.1,ev X a2 x.2)):=λps hp=>
  Xa λp hm=>by
   grind
 cases op<;>simp only[Op.operands]at h<;>simp only[opV]
 case build t ps=>rw[pairs ps λx hx=>h x (by simp_all)]
 case buildSlice t n ps=>rw[pairs ps λx hx=>h x (by simp_all)]
 case makeFunc fn first captured=>
  cases fn<;>simp only[]
  simp_all
 case call c=>
  obtain⟨cal,args,ats⟩:=c;cases cal with
  |value f=>rfl
  |invoke r m=>rfl
  | builtin b=>
   grind[Xa,Call.operands]
 case slice t x lo hi mx=>cases lo<;>cases hi<;>cases mx<;>simp_all
 all_goals(first|rfl|(simp_all;done))
theorem N9{cf:iA}{a:LvQ}(h:∀x∈o.op.operands,ev X a x=ev X a2 x):qj X cf rid H a o=qj X cf rid H a2 o:=by
 have hop:=Rp (rid:=rid) (H:=H) h;unfold qj;split
 .rename_i c hc;rw[hop];split
  .rfl
  ·have:om (ev X a) c=om (ev X a2) c:=by
    rw[hc]at h;unfold om;split
    .grind[Op.operands,Call.operands,Xa]
    .rfl
   grind
 omega
theorem JV{a:LvQ}{c:Call}(h:∀x∈c.operands,ev X a x=ev X a2 x):om (ev X a) c=om (ev X a2) c:=by
 unfold om;split
 .grind[Call.operands,Xa]
 .rfl
theorem N8{cf:iA}{ops:Array Oper}{a:LvQ}(h:∀x∈o.op.operands,ev X a x=ev X a2 x):yO X cf ops base i o a H=yO X cf ops base i o a2 H:=by
 unfold yO;rw[N9 h];congr 1;unfold oo;split
 .rename_i c hc;rw[hc]at h;rw[JV (c:=c) (by simpa[Op.operands]using h)]
 .rfl
theorem vZ{ops:Array Oper}(h:∀d,dst=some d->d ∉ o.looksAt ops){v:Value}:
  Region.wanted o (eU ops (jB a dst v))=Region.wanted o (eU ops a):=by
 cases dst with
 |none=>rfl
 | some d=>
  unfold Region.wanted;cases hg:o.guard with
  |none=>rfl
  | some gw=>
   obtain⟨g,want⟩:=gw
   have hy:eU ops (jB a (some d) v) g=eU ops a g:=by
    unfold eU;cases ht:(ops[g]?).bind (·.dst)with
    |none=>rfl
    | some t=>
     grind[Oper.looksAt,jB]
   grind
theorem xd{ops:Array Oper}:∀(n:Nat){p b:Tmp},Cf ops n p=some b->yM ops b=false
 | 0,p,b,h=>by
  grind[Cf]
 | n+1,p,b,h=>by
  unfold Cf at h;split at h
  .split at h
   .split at h
    .exact xd n h
    .exact xd n h
    .exact xd n h
    .cases h
   .cases h
  grind
theorem Hv{ops:Array Oper}{p b:Tmp}(h:wA ops p=some b):yM ops b=false:=xd 4 h
theorem Mf{ops:Array Oper}(hd:∀d,dst=some d->yM ops d=true){v:Value}{p:Tmp}(hb:yM ops p=false):kq (jB a dst v) p=kq a p:=by
 cases dst with
 |none=>rfl
 | some d=>
  grind[oO,jB]
theorem UV{ops:Array Oper}(hd:∀d,dst=some d->yM ops d=true){v:Value}(H H':AH):offB X.P ops i (jB a dst v) H H'=offB X.P ops i a H H':=by
 unfold offB;congr 1;funext ⟨x,j⟩;simp only;congr 1;split
 .rename_i t p hp;split
  .grind[Mf,Hv]
  .rfl
 .rfl
theorem R3{ops:Array Oper}(h:∀d,dst=some d->d ∉ o.looksAt ops)(hd:∀d,dst=some d->yM ops d=true){v:Value}:sW X.P ops o (jB a dst v)=sW X.P ops o a:=by
 unfold sW;split
 .rename_i t p hp
  have e1:kq (jB a dst v) p=kq a p:=by
   have:=JH (X:=X) (a:=a) h (v:=v) (y:=.tmp p) (by grind[Op.operands]);simpa[ev]using this
  rw[e1];congr 1;split
  .grind[Mf,Hv]
  .rfl
 .rfl
theorem Qh{cf:iA}{ops:Array Oper}(h:∀d,dst=some d->d ∉ o.looksAt ops)(hd:∀d,dst=some d->yM ops d=true){v:Value}:
  dop X cf ops base i o (jB a dst v) H=dop X cf ops base i o a H:=by
 unfold dop;rw[N8 (a:=jB a dst v) (a2:=a) λx hx=>JH h hx]
 simp_all[UV,R3]
theorem QL{ops:Array Oper}(h:∀d,dst=some d->d ∉ o.looksAt ops){v:Value}:touch X (jB a dst v) o=touch X a o:=by
 have E:∀{y},y∈o.op.operands->ev X (jB a dst v) y=ev X a y:=λhy=>JH h hy
 obtain⟨d0,op,ty,pos,aft,grd⟩:=o;unfold touch;cases op
 case load t x=>simp only[E (y:=x) aD]
 case slice t x lo hi mx=>simp only[E (y:=x) aD]
 case convert s d x=>simp only[E (y:=x) aD]
 case call c=>
  obtain⟨cal,args,ats⟩:=c;cases cal with
  |value f=>rfl
  |invoke r m=>rfl
  | builtin b=>
   cases b<;>first|rfl|skip
   simp only;cases hx:args[0]? with
   |none=>rfl
   |some x=>grind[Op.operands,Call.operands]
 all_goals rfl
theorem qg(a:LvQ){x y:Option Tmp}(v u:Value)(h:∀d,x=some d->y≠some d):jB (jB a x v) y u=jB (jB a y u) x v:=by
 cases x with
 |none=>rfl
 | some d=>
  cases y with
  |none=>rfl
  | some e=>
   grind[jB,Wl]
theorem AH.set_push{H:AH}{r:Nat}{z x:Blk}(hr:r<H.n):(H.set r z).push x=(H.push x).set r z:=by
 simp only[AH.set,AH.push];have e:H.n+1-1-r=(H.n-1-r)+1:=aa
 grind
theorem HT(p:Nat->Blk->Bool){z:Blk}:∀(l:List Blk)(n i:Nat),p (n-1-i) z=false->vq p n (l.set i z)=(vq p n l).set i z
 |[],n,i,_=>rfl
 | x::l,n,0,h=>by
  grind[vq]
 | x::l,n,i+1,h=>by
  have:=HT p l (n-1) i (by rw[show n-1-1-i=n-1-(i+1) by omega];exact h)
  grind[vq]
theorem AH.kill_set{H:AH}{r:Nat}{z:Blk}(hr:r<H.n){p:Nat->Blk->Bool}(hp:p r z=false):(H.set r z).kill p=(H.kill p).set r z:=by simp only[AH.set,AH.kill];rw[HT];rw[show H.n-1-(H.n-1-r)=r by omega];exact hp
theorem AH.set_set'{H:AH}{r s:Nat}{x y:Blk}(hr:r<H.n)(hs:s<H.n)(hne:r≠s):(H.set r x).set s y=(H.set s y).set r x:=by simp only[AH.set];congr 1;exact Wl _ _ aa
theorem AH.n_set'(H:AH)(r:Nat)(z:Blk):(H.set r z).n=H.n:=rfl
theorem AH.n_kill'(H:AH)(p:Nat->Blk->Bool):(H.kill p).n=H.n:=rfl
section
variable{r:Nat}{y z:Blk}(hy:H.get r=some y)(hy0:y.st=0)(hz:z.shared=false)
include hy hy0
theorem BE{x:Blk}(hb:H.get b=some x)(hx:x.st=1):b≠r∧(H.set r z).get b=some x:=by
 have hne:b≠r:=by rintro rfl;rw[hy]at hb;cases hb;omega
 exact⟨hne,by rw[AH.get_set hy,if_neg hne,hb]⟩
theorem Rb{cs:LvQ}(h:cg H b off n=some cs):cg (H.set r z) b off n=some cs:=by grind[cg,BE]
theorem Tf{k:Nat×LvQ}(h:nf H n x=some k):nf (H.set r z) n x=some k:=by
 unfold nf at h ⊢;split at h
 .exact h
 .split at h
  .grind
  .rename_i hl;simp only[hl,if_false];cases hr:cg H _ _ _ with
   |none=>rw[hr]at h;cases h
   | some cs=>
    grind[Rb]
 .exact h
 omega
include hz
theorem M0{vs:LvQ}(h:kE H b off vs=some H1):kE (H.set r z) b off vs=some (H1.set r z):=by
 have hr:=AH.get_lt hy;unfold kE at h ⊢;cases hb:H.get b with
 |none=>grind
 | some x=>
  rw[hb]at h;simp only at h;split at h
  .rename_i hc;obtain⟨hne,hg⟩:=BE (z:=z) hy hy0 hb hc.1;have hbn:=AH.get_lt hb;rw[hg];simp only;rw[if_pos hc];cases h;congr 1;by_cases hs:x.shared=true
   .rw[if_pos hs,if_pos hs,AH.kill_set hr (by simp[kin,hz])];exact AH.set_set' hr hbn (Ne.symm hne)
   grind[AH.set_set']
  .cases h
theorem MQ{s v:Value}{cs:LvQ}(h:bU P H n by_ s k cs=some (v,H1)):bU P (H.set r z) n by_ s k cs=some (v,H1.set r z):=by
 have hr:=AH.get_lt hy;unfold bU at h ⊢;split at h
 .grind[AH.n_set',AH.set_push]
 .rename_i b off len cap;split at h
  .cases h
  .rename_i h1;split at h
   .grind
   .rename_i hk;split at h
    .grind[M0]
    .rename_i hc;split at h
     .rename_i hb;cases hg:H.get b with
      |none=>grind
      | some x=>
       rw[hg]at h;simp only at h;split at h
       .rename_i hx;obtain⟨hne,hg2⟩:=BE (z:=z) hy hy0 hg hx.1;have hbn:=AH.get_lt hg;simp only[h1,hk,hc,hb,if_false,if_true,hg2,hx,and_self]
        grind[AH.n_set',AH.set_push,AH.set_set',AH.kill_set,beyond,AH.n_kill']
       .cases h
     .cases h
 .cases h
end
def AF:Op->Bool
 | .call c=>match c.callee with
  |.builtin .append=>true
  |_=>false
 |_=>false
theorem Pj(ha:AF o.op=true)(hv:opV X rid H a o=some (v,H')):∃n by_ s k cs,bU X.P H n by_ s k cs=some (v,H')∧∀H2:AH,(∀m x kk,nf H m x=some kk->nf H2 m x=some kk)->opV X rid H2 a o=bU X.P H2 n by_ s k cs:=by
 obtain⟨dst,op,ty,pos,aft,grd⟩:=o;cases op<;>try(simp[AF]at ha;done)
 rename_i c;obtain⟨callee,args,ats⟩:=c;cases callee<;>try(simp[AF]at ha;done)
 rename_i b;cases b<;>try(simp[AF]at ha;done)
 ··change bC X.P H .append ats ty ((args.map (ev X a)).toList)=some (v,H')at hv
   change ∃n by_ s k cs,bU X.P H n by_ s k cs=some (v,H')∧∀H2:AH,(∀m x kk,nf H m x=some kk->nf H2 m x=some kk)->bC X.P H2 .append ats ty ((args.map (ev X a)).toList)=bU X.P H2 n by_ s k cs
   generalize(args.map (ev X a)).toList=l at hv ⊢
   match l,hv with
   |[],hv=>trivial
   |[_],hv=>trivial
   |_::_::_::_,hv=>trivial
   | [s,x],hv=>
    simp only[bC]at hv ⊢;split at hv
    .rename_i e d h1 h2;split at hv
     .rename_i n by_ z0 h3 h4 h5;split at hv
      .cases hv
      .rename_i hn;simp only[if_neg hn];split at hv
       .split at hv
        .rename_i hc;exact⟨_,_,_,_,_,hv,λH2 _=>by rw[if_pos hc]⟩
        trivial
       .cases hv
       grind
     trivial
    trivial
theorem Ll{r:Nat}{y z:Blk}(hy:H.get r=some y)(hy0:y.st=0)(hz:z.shared=false)(ha:AF o.op=true)(hv:opV X rid H a o=some (v,H')):opV X rid (H.set r z) a o=some (v,H'.set r z):=by grind[Pj,Tf,MQ]
theorem IR{H:AH}{r:Nat}{x x2 y:Blk}(hb:H.get b=some x)(h:(H.set b x2).get r=some y):∃y0,H.get r=some y0:=by grind[AH.get_set]
theorem L5{H:AH}{p:Nat->Blk->Bool}{r:Nat}{y:Blk}(h:(H.kill p).get r=some y):∃y0,H.get r=some y0:=by grind[AH.get_kill,AH.get]
theorem VL{H:AH}{p:Nat->Blk->Bool}{r:Nat}{y:Blk}(h:H.get r=some y):∃y0,(H.kill p).get r=some y0:=by grind[AH.get_kill]
theorem M2{H:AH}{vs:LvQ}(h:kE H b off vs=some H1){r:Nat}{y:Blk}(hy:H1.get r=some y):∃y0,H.get r=some y0:=by
 unfold kE at h;split at h
 .rename_i x hx;split at h
  .cases h;split at hy
   .obtain⟨x',hx'⟩:=VL (p:=kin b x.fam) hx
    grind[IR,L5]
   grind[IR]
  .cases h
 .cases h
theorem J2{s:Value}{cs:LvQ}(h:bU P H n by_ s k cs=some (v,H')){r:Nat}{y:Blk}(hy:H'.get r=some y)(hy0:y.st=0):∃y0,H.get r=some y0:=by
 have push:∀(K:AH)(x:Blk),x.st=1->(K.push x).get r=some y->K.get r=some y:=λK x hx hg=>by
  by_cases hr:r=K.n
  .grind[AH.get_push_new]
  .rwa [AH.get_push hr]at hg
 unfold bU at h;split at h
 .split at h
  .grind
  .split at h
   .cases h;exact⟨_,push _ _ rfl hy⟩
   .cases h
 .split at h
  .cases h
  .split at h
   .grind
   .split at h
    .grind[M2]
    .split at h
     .split at h
      .split at h
       .rename_i x hx hxc;simp only at h;split at h
        .cases h;exact⟨_,push _ _ rfl hy⟩
        .split at h
         .cases h;obtain⟨y0,h0⟩:=L5 (push _ _ rfl hy)
          grind[IR]
         .cases h
       .cases h
      .cases h
     .cases h
 .cases h
noncomputable section
variable{X:Cfg}{cf:iA}{ops:Array Oper}{B:Nat}
theorem yN{H:AH}{a:LvQ}{o:Oper}(h:yc o.op=false):yO X cf ops base i o a H=qj X cf (base.map (· + i)) H a o:=by unfold yO;simp[sH,h]
theorem WI{H:AH}{a:LvQ}{o:Oper}(h:(base.isSome&&sH ops i o.op)=false):yO X cf ops base i o a H=qj X cf (base.map (· + i)) H a o:=by unfold yO;simp[h]
theorem Cc{H H':AH}{a:LvQ}{o:Oper}{v:Value}(hcf:ou cf)(h:oo X cf B H a o=some (v,H')):∃H1,H.n<=H1.n∧H'=H.graft H1:=by
 unfold oo at h;split at h
 .split at h
  .split at h
   .split at h
    .rename_i h1;cases h;exact⟨_,(hcf _ _ _ _ _ h1).n,rfl⟩
    .cases h
   .cases h
  .cases h
 .cases h
theorem Ex:∀l:List Blk,tY l l=true
 |[]=>rfl
 |x::l=>by simp[tY,Ex l]
theorem NC{H:AH}(hn:H.n<=H1.n):preB H (H.graft H1)=true:=by
 unfold preB
 have e:(H.graft H1).l.drop ((H.graft H1).n-H.n)=H.l:=by
  show((List.range (H1.n-H.n)).map (λi=>H1.l.getD i qJ)++H.l).drop (H1.n-H.n)=H.l
  rw[List.drop_append_of_le_length ac,Zb ac,List.nil_append]
 rw[e];exact Ex _
theorem wQ{H:AH}{a:LvQ}{o:Oper}(hcf:ou cf)(hs:sH ops i o.op=true)(hg:sW X.P ops o a=true):dop X cf ops (some B) i o a H=oo X cf B H a o:=by
 unfold dop yO;simp only[hs,Ws,Xd,if_true,Option.getD_some];cases h:oo X cf B H a o with
 |none=>rfl
 | some r=>
  obtain⟨v,H'⟩:=r;obtain⟨H1,hn,rfl⟩:=Cc hcf h;simp[hg,NC hn]
theorem Hl{H H':AH}{a:LvQ}{o:Oper}{v:Value}{r:Nat}(hcf:ou cf)(h:oo X cf B H a o=some (v,H'))(hr:r<H.n):H'.get r=H.get r:=by obtain⟨H1,hn,rfl⟩:=Cc hcf h;exact xq hn hr
theorem Mq{H H':AH}{a:LvQ}{o:Oper}{v:Value}(h:dop X cf ops (some B) i o a H=some (v,H')):sW X.P ops o a=true:=by
 unfold dop at h;split at h
 .split at h
  .cases h
  .rename_i hn;cases hg:sW X.P ops o a with
   |true=>rfl
   |false=>grind
 .cases h
theorem iq{H:AH}{a:LvQ}{o:Oper}(h:fF X.P o.op=false)(hg:sW X.P ops o a=true):dop X cf ops base i o a H=opV X (base.map (· + i)) H a o:=by
 have h1:qj X cf (base.map (· + i)) H a o=opV X (base.map (· + i)) H a o:=by
  unfold qj;split
  .rename_i c hc;split
   .rfl
   .rename_i hb;rw[hc]at h;obtain⟨cal,args,ats⟩:=c;cases cal<;>simp[fF]at h<;>simp[je]at hb
  .rfl
 have h2:chk X.P ops i o=false:=by simp[chk,h]
 have h0:yc o.op=false:=by
  unfold yc;split
  .rename_i c hc;rw[hc]at h;obtain⟨cal,args,ats⟩:=c;cases cal<;>simp[fF]at h<;>simp[je]
  .rfl
 unfold dop;rw[yN h0,h1,h2,hg];cases opV X (base.map (· + i)) H a o with
 |none=>rfl
 |some r=>simp
theorem aaZ{H H':AH}{a:LvQ}{o:Oper}{v:Value}(h:dop X cf ops (some B) i o a H=some (v,H'))(hc:chk X.P ops i o=true):preB H H'=true∨(zI X.P ops=true∧offB X.P ops i a H H'=true):=by grind[dop]
theorem Mp{H H':AH}{a:LvQ}{i j:Nat}{o x:Oper}{v:Value}(hev:Evo H H')(h:dop X cf ops (some B) i o a H=some (v,H'))(hc:chk X.P ops i o=true)(hu:unB ops i j=true)
  (hm:(x,j)∈ops.toList.zipIdx) (hl:gE X.P x.op=true) (hg:sW X.P ops x a=true) {b:Nat} {y:Blk} (ht:touch X a x=some b) (hy:H.get b=some y):H'.get b=some y:=by
 rcases aaZ h hc with hp|⟨hmo,ho⟩
 .grind[UH]
 .have:=Z1.1 ho (x,j) hm;simp only[hl,hu,Xd,Wx,Ww]at this;split at this
  .rename_i t p hp;have e:touch X a x=iL (kq a p):=by unfold touch;rw[hp];rfl
   grind[sW,sameAt,Evo.keep]
  trivial
theorem Q3{H:AH}{r s:Nat}{x y:Blk}(hr:∃u,H.get r=some u)(hs:∃u,H.get s=some u)(hne:r≠s):(H.set r x).set s y=(H.set s y).set r x:=by obtain⟨u,hu⟩:=hr;obtain⟨w,hw⟩:=hs;have h1:=AH.get_lt hu;have h2:=AH.get_lt hw;simp only[AH.set];congr 1;exact Wl _ _ aa
theorem UG{H:AH}{r:Nat}{z:Blk}(hr:r<H.n)(hn:H.n<=H1.n)(h:preB H H1=true):preB (H.set r z) (H1.set r z)=true:=by
 have key:∀(l m:List Blk)(i:Nat),tY l m=true->tY (l.set i z) (m.set i z)=true:=by
  intro l
  induction l with
  | nil=>intro m i h;cases m with
   |nil=>rfl
   |cons y m=>trivial
  | cons x l ih=>
   intro m i h;cases m with
   |nil=>trivial
   | cons y m=>
    simp only[tY,Z7]at h;cases i with
    |zero=>grind[tY]
    |succ i=>grind[tY]
 unfold preB at h ⊢;simp only[AH.set]
 have e:(H1.l.set (H1.n-1-r) z).drop (H1.n-H.n)=(H1.l.drop (H1.n-H.n)).set (H.n-1-r) z:=by
  rw[List.drop_set,if_neg aa];congr 1;omega
 grind
theorem Rq{H:AH}{r:Nat}{y y1 z:Blk}(hy:H.get r=some y)(hy1:H1.get r=some y1){a:LvQ}(h:offB X.P ops i a H H1=true):offB X.P ops i a (H.set r z) (H1.set r z)=true:=by
 unfold offB at h ⊢;rw[Z1]at h ⊢;intro x hx;have:=h x hx;simp only[X9]at this ⊢;rcases this with h1|h1
 .grind
 .refine .inr ?_;split at h1
  .split at h1
   .grind[sameAt,AH.get_set]
   omega
  omega
theorem MS{H:AH}{a:LvQ}{rid:Option Nat}{x:Oper}(ap:AF x.op=true):qj X cf rid H a x=opV X rid H a x:=by grind[AF,qj,je]
theorem MU{x:Oper}(ap:AF x.op=true):yc x.op=false:=by
 unfold AF at ap;split at ap
 .rename_i c hc;rw[hc];split at ap
  .rename_i hb;simp[yc,je,hb]
  .cases ap
 .cases ap
theorem Mr{H:AH}{a:LvQ}{r:Nat}{x:Oper}{v:Value}{y z:Blk}(ap:AF x.op=true)(hy:H.get r=some y)(hy0:y.st=0)(hz:z.shared=false)(hx:dop X cf ops (some B) j x a H=some (v,H1)):
  dop X cf ops (some B) j x a (H.set r z)=some (v,H1.set r z):=by
 unfold dop at hx ⊢;rw[yN (MU ap),MS ap]at hx ⊢;cases hv:opV X ((some B).map (· + j)) H a x with
 |none=>grind
 | some p=>
  obtain⟨v',H'⟩:=p;rw[hv]at hx;rw[Ll hy hy0 hz ap hv];simp only at hx ⊢;split at hx
  .cases hx
  .rename_i hc;cases hx;rw[if_neg];have hev:=Dj hv;have hr:=AH.get_lt hy
   obtain ⟨y1,hy1⟩:∃y1,H1.get r=some y1:=by
    grind[Evo.keep]
   intro hbad;apply hc;simp only[Ws,Yp,X9,Y5,Z7]at hbad ⊢;rcases hbad with hb|⟨⟨hb1,hb2⟩,hb3⟩
   .grind
   .refine .inr ⟨⟨hb1,?_⟩,?_⟩
    .cases hp:preB H H1 with
     |false=>rfl
     |true=>grind[UG,Evo.n]
    .cases hm:zI X.P ops with
     |false=>rfl
     | true=>
      rw[hm,Yp]at hb3;cases ho:offB X.P ops j a H H1 with
      |false=>rfl
      |true=>grind[Rq]
theorem Ru{H:AH}{a:LvQ}{r:Nat}{x:Oper}{v:Value}{y:Blk}(hev:Evo H H1)(hx:dop X cf ops (some B) j x a H=some (v,H1))(ap:AF x.op=true)(hy:H1.get r=some y)(hy0:y.st=0)(hyv:y.ver=0):H.get r=some y:=by
 unfold dop at hx;rw[yN (MU ap),MS ap]at hx;cases hv:opV X ((some B).map (· + j)) H a x with
 |none=>grind
 | some p=>
  obtain⟨v',H'⟩:=p;rw[hv]at hx;simp only at hx;split at hx
  .cases hx
  .cases hx;obtain⟨n,by_,s,k,cs,h1,_⟩:=Pj ap hv;obtain⟨y0,hg⟩:=J2 h1 hy hy0;obtain⟨y1,q1,q2,q3,_⟩:=hev.keep r y0 hg;rw[hy]at q1;cases q1;have:=q3 aa
   grind
theorem WG(hcf:ou cf){H H1 H2:AH}{a:LvQ}{i j:Nat}{x o:Oper}{vx vo:Value}(hij:j≠i)
  (hx:dop X cf ops (some B) j x a H=some (vx,H1)) (ho:dop X cf ops (some B) i o a H1=some (vo,H2))
  (c1:¬(fF X.P x.op=true∧fF X.P o.op=true)) (c2:fF X.P x.op=true->pd o.op=true->AF x.op=true∨sH ops j x.op=true) (c3:pd x.op=true->fF X.P o.op=true->sH ops i o.op=true) (hBn:B+ops.size<=H.n)
  (mx:(x,j)∈ops.toList.zipIdx) (mo:(o,i)∈ops.toList.zipIdx)
  (k1:fF X.P x.op=true->gE X.P o.op=true->chk X.P ops j x=true∧unB ops j i=true) (k2:fF X.P o.op=true->gE X.P x.op=true->chk X.P ops i o=true∧unB ops i j=true)
  (good:fF X.P o.op=false->(gE X.P o.op=true∨qe o.op=true)->∀b,touch X a o=some b->∃y,H.get b=some y∧y.st≠0) :
  ∃H1',dop X cf ops (some B) i o a H=some (vo,H1')∧dop X cf ops (some B) j x a H1'=some (vx,H2):=by
 have gx:=Mq hx;have go:=Mq ho;by_cases ex:fF X.P x.op=true
 ·-- x writes
  have eo:fF X.P o.op=false:=by simpa using λh=>c1 ⟨ex,h⟩
  by_cases no':pd o.op=true
  ·-- an append and a new block
   rcases c2 ex no' with ap|sl
   case inr=>
    rw[wQ hcf sl gx]at hx;have eo2:=λH=>iq (cf:=cf) (ops:=ops) (H:=H) (a:=a) (base:=some B) (i:=i) eo go
    rw[eo2]at ho;obtain⟨cells,⟨y,hy,hy0,hyv⟩,u2,u3⟩:=xh (r:=B+i) ho no';have hi:i<ops.size:=by have:=Yi.1 mo;grind
    have hy':H.get (B+i)=some y:=by rw[<-Hl hcf hx aa,hy]
    refine⟨_,by rw[eo2];exact u3 H ⟨y,hy',hy0,hyv⟩,?_⟩;rw[wQ hcf sl gx,u2];exact QX hcf aa aa hx
   have eo2:=λH=>iq (cf:=cf) (ops:=ops) (H:=H) (a:=a) (base:=some B) (i:=i) eo go
   rw[eo2]at ho;obtain⟨cells,u1,u2,u3⟩:=xh (r:=B+i) ho no';obtain⟨y,hy,hy0,hyv⟩:=u1;have hev:=xu hcf hx
   grind[Ru,fresh,Mr]
  have no:pd o.op=false:=by simpa using no'
  rw[iq eo go]at ho ⊢;by_cases lo:gE X.P o.op=true
  .obtain⟨e1,_,e3⟩:=wD ho eo lo;subst e1;obtain⟨c1',c2'⟩:=k1 ex lo;refine⟨H,e3 _ H (λb hb=>?_),hx⟩;obtain⟨y,hy,_⟩:=good eo (.inl lo) b hb;rw[hy,Mp (xu hcf hx) hx c1' c2' mo lo go hb hy]
  .by_cases so:qe o.op=true
   .obtain⟨e1,e2,e3⟩:=wC ho so;subst e1;refine⟨H,e3 _ H (λb hb=>?_),hx⟩;obtain⟨y,y2,q1,q2,q3,q4,q5,q6,q7⟩:=(xu hcf hx).stat (good eo (.inr so) b hb);exact⟨y2,y,q2,q1,q4,q3,q5.symm,q6.symm,q7.symm⟩
   grind[t8]
 .have ex':fF X.P x.op=false:=by simpa using ex
  rw[iq ex' gx]at hx;by_cases nx:pd x.op=true
  ·-- x makes a block
   by_cases eo':fF X.P o.op=true
   .have sl:=c3 nx eo';rw[wQ hcf sl go]at ho;obtain⟨cells,⟨y,hy,hy0,hyv⟩,u2,u3⟩:=xh (r:=B+j) hx nx;subst u2;have hr:=AH.get_lt hy;obtain⟨H1',g1,g2⟩:=KH hcf hr aa ho;refine⟨H1',by rw[wQ hcf sl go];exact g1,?_⟩;rw[iq ex' gx,g2];exact u3 H1' ⟨y,by rw[Hl hcf g1 hr,hy],hy0,hyv⟩
   have eo:fF X.P o.op=false:=by simpa using eo'
   rw[iq eo go]at ho ⊢;obtain⟨cells,u1,u2,u3⟩:=xh (r:=B+j) hx nx;obtain⟨y,hy,hy0,hyv⟩:=u1;by_cases no:pd o.op=true
   .obtain⟨cells2,w1,w2,w3⟩:=xh (r:=B+i) ho no;have hne:B+i≠B+j:=aa
    have w1':∃y,H.get (B+i)=some y∧y.st=0∧y.ver=0:=by
     obtain⟨z,hz,hz2⟩:=w1;rw[u2,AH.get_set hy,if_neg hne]at hz;exact⟨z,hz,hz2⟩
    refine⟨_,w3 H w1',?_⟩;obtain⟨z,hz,hz2⟩:=w1';have u1':∃y,(H.set (B+i) (fresh (B+i) cells2)).get (B+j)=some y∧y.st=0∧y.ver=0:=⟨y,by grind[AH.get_set],hy0,hyv⟩;rw[iq ex' gx];have:=u3 _ u1';rw[w2,u2,Q3 ⟨y,hy⟩ ⟨z,hz⟩ (λe=>hne e.symm)];exact this
   .by_cases lo:gE X.P o.op=true
    .grind[wD,iq,AH.get_set]
    .by_cases so:qe o.op=true
     .obtain⟨e1,e2,e3⟩:=wC ho so;subst e1;refine⟨H,e3 _ H (λb hb=>?_),by grind[iq]⟩;obtain⟨y,y2,q1,q2,q3,q4,q5,q6,q7⟩:=(Dj hx).stat (good eo (.inr so) b hb);exact⟨y2,y,q2,q1,q4,q3,q5.symm,q6.symm,q7.symm⟩
     grind[t8,iq]
  .have nx':pd x.op=false:=by simpa using nx
   by_cases lx:gE X.P x.op=true
   ·-- x reads
    obtain⟨e1,e2,e3⟩:=wD hx ex' lx;subst e1;refine⟨H2,ho,?_⟩;rw[iq ex' gx];refine e3 _ H2 (λb hb=>?_);obtain⟨y,hy,hy0⟩:=e2 b hb;by_cases eo:fF X.P o.op=true
    .rw[hy,Mp (xu hcf ho) ho (k2 eo lx).1 (k2 eo lx).2 mx lx gx hb hy]
    .have eo':fF X.P o.op=false:=by simpa using eo
     rw[iq eo' go]at ho;by_cases no:pd o.op=true
     .grind[xh,AH.get_set]
     .by_cases lo:gE X.P o.op=true
      .rw[(wD ho eo' lo).1]
      .by_cases so:qe o.op=true
       .rw[(wC ho so).1]
       .rw[(t8 ho eo' (by grind) (by grind) (by grind)).1]
   .by_cases sx:qe x.op=true
    .grind[wC,iq,Evo.stat,xu]
    grind[t8,iq]
structure ael(X:Cfg)(ops:Array Oper)(j i:Nat)(x o:Oper):Prop where
 ne:j≠i
 apart:x.apart ops o=true
 c1:¬(fF X.P x.op=true∧fF X.P o.op=true)
 c2:fF X.P x.op=true->pd o.op=true->AF x.op=true∨sH ops j x.op=true
 c3:pd x.op=true->fF X.P o.op=true->sH ops i o.op=true
 mx:(x,j)∈ops.toList.zipIdx
 mo:(o,i)∈ops.toList.zipIdx
 k1:fF X.P x.op=true->gE X.P o.op=true->chk X.P ops j x=true∧unB ops j i=true
 k2:fF X.P o.op=true->gE X.P x.op=true->chk X.P ops i o=true∧unB ops i j=true
theorem Qg{x:Oper}(hm:(x,j)∈ops.toList.zipIdx):∀d,x.dst=some d->yM ops d=true:=λd hd=>by
 grind[yM,X2]
def Good(X:Cfg)(ops:Array Oper)(a:LvQ)(H:AH)(o:Oper):Prop:=
 Region.wanted o (eU ops a)=true->fF X.P o.op=false->(gE X.P o.op=true∨qe o.op=true)->∀b,touch X a o=some b->∃y,H.get b=some y∧y.st≠0
theorem QT(hcf:ou cf){H H1 H2:AH}{a a1 a2:LvQ}{i j:Nat}{x o:Oper}(F:ael X ops j i x o)
  (hx:eE X cf ops (some B) j x a H=some (a1,H1)) (ho:eE X cf ops (some B) i o a1 H1=some (a2,H2)) (good:Good X ops a H o) (hBn:B+ops.size<=H.n) :
  ∃a1' H1',eE X cf ops (some B) i o a H=some (a1',H1')∧eE X cf ops (some B) j x a1' H1'=some (a2,H2):=by
 obtain⟨p1,p2,p3⟩:=Oper.apart_spec F.apart
 -- the second operation does not see what the first one writes
 have so:∀{v:Value}{H:AH},eE X cf ops (some B) i o (jB a x.dst v) H=(eE X cf ops (some B) i o a H).map λr=>(jB r.1 x.dst v,r.2):=by
  intro v H;unfold eE;rw[vZ p1,Qh p1 (Qg F.mx)];split
  .cases hd:dop X cf ops (some B) i o a H with
   |none=>rfl
   |some r=>grind[qg]
  .grind[qg]
 have sx:∀{v:Value}{H:AH},eE X cf ops (some B) j x (jB a o.dst v) H=(eE X cf ops (some B) j x a H).map λr=>(jB r.1 o.dst v,r.2):=by
  intro v H;unfold eE;rw[vZ p3,Qh p3 (Qg F.mo)];have p2':∀d,o.dst=some d->x.dst≠some d:=λd hd hx=>p2 d hx hd
  split
  .cases hd:dop X cf ops (some B) j x a H with
   |none=>rfl
   |some r=>grind[qg]
  .grind[qg]
 by_cases wx:Region.wanted x (eU ops a)=true
 .have hx':=hx;unfold eE at hx';rw[if_pos wx]at hx';split at hx'
  case h_2=>cases hx'
  rename_i vx Hx dx;simp only[Z9,Z5]at hx';obtain⟨rfl,rfl⟩:=hx';rw[so]at ho;by_cases wo:Region.wanted o (eU ops a)=true
  ·have e:eE X cf ops (some B) i o a Hx=match dop X cf ops (some B) i o a Hx with
    |some (v,H')=>some (jB a o.dst v,H')
    |none=>none:=by unfold eE;rw[if_pos wo];try rfl
   rw[e]at ho;split at ho
   case h_2=>cases ho
   rename_i vo Ho do_;simp only[Option.map_some,Z9,Z5]at ho;obtain⟨rfl,rfl⟩:=ho;obtain⟨H1',g1,g2⟩:=WG hcf F.ne dx do_ F.c1 F.c2 F.c3 hBn F.mx F.mo F.k1 F.k2 (good wo);refine⟨jB a o.dst vo,H1',by grind[eE],?_⟩;rw[sx];have:eE X cf ops (some B) j x a H1'=some (jB a x.dst vx,Ho):=by unfold eE;rw[if_pos wx,g2]
   grind[qg]
  .have e:eE X cf ops (some B) i o a Hx=some (jB a o.dst undef,Hx):=by unfold eE;rw[if_neg wo]
   grind[Z9,eE,qg]
 .have e0:eE X cf ops (some B) j x a H=some (jB a x.dst undef,H):=by unfold eE;rw[if_neg wx]
  rw[e0]at hx;simp only[Z9,Z5]at hx;obtain⟨rfl,rfl⟩:=hx;rw[so]at ho;cases hs:eE X cf ops (some B) i o a H with
  |none=>grind
  | some r=>
   obtain⟨a',H'⟩:=r;rw[hs]at ho;simp only[Option.map_some,Z9,Z5]at ho;obtain⟨rfl,rfl⟩:=ho;refine⟨a',H',rfl,?_⟩
   -- a' is a with o's place filled
   have ha':∃u,a'=jB a o.dst u:=by
    unfold eE at hs;split at hs
    .grind
    .grind
   obtain⟨u,rfl⟩:=ha';rw[sx];have:eE X cf ops (some B) j x a H'=some (jB a x.dst undef,H'):=by unfold eE;rw[if_neg wx]
   grind[qg]
def Gt(X:Cfg)(cf:iA)(ops:Array Oper)(B:Nat):List (Oper×Nat)->LvQ->AH->Option (LvQ×AH)
 |[],a,H=>some (a,H)
 | (o,i)::rest,a,H=>match eE X cf ops (some B) i o a H with
  |some (a',H')=>Gt X cf ops B rest a' H'
  |none=>none
theorem O0:∀(l:List Oper)(i:Nat)(a:LvQ)(H:AH),sF X cf ops (some B) i l a H=Gt X cf ops B (l.zipIdx i) a H
 |[],_,_,_=>rfl
 | o::l,i,a,H=>by
  simp only[sF,List.zipIdx_cons,Gt];cases hs:eE X cf ops (some B) i o a H with
  |none=>rfl
  |some r=>obtain⟨a',H'⟩:=r;exact O0 l (i+1) a' H'
theorem Ez(hcf:ou cf){i:Nat}{o:Oper}:∀(pre post:List (Oper×Nat))(a:LvQ)(H:AH)(r:LvQ×AH),
  (∀x∈pre,ael X ops x.2 i x.1 o)->Good X ops a H o->B+ops.size<=H.n->Gt X cf ops B (pre++(o,i)::post) a H=some r ->
  ∃a' H',eE X cf ops (some B) i o a H=some (a',H')∧Gt X cf ops B (pre++post) a' H'=some r
 | [],post,a,H,r,_,_,_,h=>by
  grind[Gt]
 | (x,j)::pre,post,a,H,r,hF,hg,hBn,h=>by
  simp only[List.cons_append,Gt]at h;split at h
  .rename_i a1 H1 hs;have F:=hF (x,j) ac;obtain⟨p1,p2,p3⟩:=Oper.apart_spec F.apart;have he:=xa hcf hs
   have ha1:∃u,a1=jB a x.dst u:=by
    unfold eE at hs;split at hs
    .grind
    .grind
   have hg1:Good X ops a1 H1 o:=by
    obtain⟨u,rfl⟩:=ha1;intro w e l b hb;rw[vZ p1]at w;rw[QL p1]at hb;obtain⟨y,hy,hy0⟩:=hg w e l b hb;obtain⟨y',hy',_,_,k⟩:=he.keep b y hy;exact⟨y',hy',(k hy0).1⟩
   obtain⟨a2,H2,hs2,hr⟩:=Ez hcf pre post a1 H1 r (λz hz=>hF z (by grind)) hg1 (Zy hBn he.n) h
   grind[QT,Gt]
  .cases h
end
def ab3(M:LnQ)(o:Oper):Nat:=o.after.toList.foldl (λs e=>if Region.binds .any e then s|||2^e.on|||M.getD e.on 0 else s) 0
def V0(P:Program)(ops:Array Oper)(j i:Nat)(x o:Oper):Bool:=
 x.apart ops o && !(fF P x.op&&fF P o.op)&&(!(fF P x.op&&pd o.op)||AF x.op||sH ops j x.op)&&(!(pd x.op&&fF P o.op)||sH ops i o.op) &&
 (!(fF P x.op&&gE P o.op)||chk P ops j x&&unB ops j i)&&(!(fF P o.op&&gE P x.op)||chk P ops i o&&unB ops i j)
def WE(P:Program)(ops:Array Oper):Bool:=
 let M:=(Region.before ops).toList
 (ops.toList.zipIdx).all λ(o,i)=>
  M.getD i 0 == ab3 M o&&(o.after.toList.all λe=>!Region.binds .any e||decide (e.on<i)) &&
  (ops.toList.zipIdx).all λ(x,j)=>decide (i<=j)||(M.getD i 0).testBit j||V0 P ops j i x o
def xN:Code->Bool
 |.seq x y|.cond _ x y=>xN x&&xN y
 |.block _ c|.loop c=>xN c
 |.scope _|.rangeFunc ..=>false
 |_=>true
def kM(P:Program):Code->Bool
 |.region _ ops draw=>ops.toList.all yv&&(!draw||WE P ops)
 |.rangeFunc g _ x y=>zE g&&kM P x&&kM P y&&xN x&&xN y
 |.seq x y=>kM P x&&kM P y
 |.cond c x y=>zE c&&kM P x&&kM P y
 |.block _ c|.loop c|.scope c=>kM P c
 |_=>true
def aak(P:Program)(fn:Func):Bool:=
 (fn.name != "runtime.NumGoroutine")&&match fn.body with
 |some c=>kM P c
 |none=>false
def OA(X:Cfg)(f:FuncId)(args:LvQ)(v:Value):Prop:=∀w,(callFunc f args.toArray).run X.P w=.ok (.value v) w
def acr(X:Cfg):Prop:=∀f args v,X.orc f args=some v→cV args=true∧plain v=true∧(OA X f args v ∨
 (∃fn,X.P.funcs[f]?=some fn∧fn.body.isNone=false∧(fn.name == "runtime.NumGoroutine")=false) ∧
 ∀w,Calls X.P f args.toArray w λe w'=>e=.returned v∧w.heap.size≤w'.heap.size∧(∀c,c<w.heap.size→w'.heap[c]?=w.heap[c]?)∧w'.os=w.os∧w'.output=w.output)
abbrev Fw(r:Option Nat):Fence:={Fence.wide with round:=r}
def QB(X:Cfg):Prop:=∀gf lb H xs,X.seq gf lb H=some xs→(∀x∈xs,cV x=true) ∧
 (∃fn,X.P.funcs[gf]?=some fn∧fn.body.isNone=false∧(fn.name == "runtime.NumGoroutine")=false) ∧
 ∀ φ w (lb':LvQ),bp X φ H w→au φ lb lb'→∃View:World→Prop,(∀φ' H' w',bp X φ' H' w'→PLe φ φ'→au φ' lb lb'→X.seq gf lb H'=some xs→X.seqK gf lb H'=X.seqK gf lb H→View w') ∧
  ∀(l:Nat)(J Jx:Nat→World→Prop)(W:World),(∀i W1,J i W1→View W1) →
   (∀i x W1,J i W1→xs[i]?=some x→YieldAt (Fw none) 0 X.P l x.toArray W1 λe W'=>(e=.returned (.bool true)∧J (i+1) W')∨(e=.returned (.bool false)∧Jx (i+1) W')) →
   J 0 W→CallsIn (Fw none) 0 X.P gf (#[.func (.yield l) #[] #[]]++lb'.toArray) W λe W'=>(∃v,e=.returned v)∧(J xs.length W'∨∃i,Jx i W')
structure Oz(X:Cfg):Prop where
 mixed:X.P.follows .mixedOrders=true
 fns:∀f fn,X.allow f=true->X.P.funcs[f]?=some fn->aak X.P fn=true
 orc:acr X
 seq:QB X
variable{X:Cfg}{cf:iA}{φ:bJ}{H:AH}{w:World}
def rD(X:Cfg)(cf:iA):Prop:=∀f args H v H',cf f args H=some (v,H')→(X.orc f args=some v∧H'=H∧cV args=true∧plain v=true∧OA X f args v) ∨
 (∃fn,X.P.funcs[f]?=some fn∧fn.body.isNone=false∧(fn.name == "runtime.NumGoroutine")=false) ∧
 ∀ φ w (args':Array Value),bp X φ H w→au φ args args'.toList →
  Calls X.P f args' w λe w'=>∃φ' v',e=.returned v'∧am φ' v v'∧bp X φ' H' w'∧Ext φ H w φ' H' w'∧fu H.n none φ φ'
theorem IX{a:LvQ}(ha:au φ a act.tmps.toList){v:Value}(hv:am φ v v')(dst:Option Tmp):au φ (jB a dst v) (act.put dst v').tmps.toList:=by
 cases dst with
 |none=>exact ha
 |some d=>grind[jB,Act.put,au.set]
theorem put_defers(act:Act)(dst:Option Tmp)(v:Value):(act.put dst v).defers=act.defers:=by cases dst<;>rfl
theorem Ka{a:LvQ}(ha:au φ a act.tmps.toList)(ops:Array Oper)(j:Nat):yielded ops act.tmps j=eU ops a j:=by
 unfold yielded eU;cases ht:(ops[j]?).bind (·.dst)with
 |none=>rfl
 | some t=>
  simp only[Option.bind_some];cases hv:a[t]? with
  | none=>
   have:=ha.none hv
   grind
  | some v=>
   obtain⟨v',h1,h2⟩:=ha.at hv;rw[Array.getElem?_toList]at h1;rw[h1];cases v with
   |bool b=>rw[zt h2]
   |pointer p=>cases p<;>simp only[am]at h2<;>(try obtain⟨_,rfl,_⟩:=h2)<;>(try subst h2)<;>rfl
   |slice p _ _=>cases p<;>simp only[am]at h2<;>(try obtain⟨_,_,rfl,_⟩:=h2)<;>(try subst h2)<;>rfl
   |chan c=>cases c<;>simp only[am]at h2<;>(try obtain⟨_,rfl⟩:=h2)<;>(try subst h2)<;>rfl
   |map c=>cases c<;>simp only[am]at h2<;>(try subst h2)<;>rfl
   |agg x=>obtain⟨x⟩:=x;grind[am]
   |tuple x=>obtain⟨x⟩:=x;grind[am]
   |iface t x=>grind[am]
   |func fn x y=>obtain⟨x⟩:=x;obtain⟨y⟩:=y;simp only[am]at h2;grind
   |_=>simp only[am]at h2;subst h2;rfl
theorem M4{a:LvQ}(ha:au φ a act.tmps.toList)(ops:Array Oper)(o:Oper):Region.wanted o (yielded ops act.tmps)=Region.wanted o (eU ops a):=by
 have:yielded ops act.tmps=eU ops a:=funext (Ka ha ops)
 grind
def marks(ds:LnQ):List Deferred:=ds.map λD=>{target:=.collected D,args:=#[]}
def Dfr(w:World)(d:List Deferred)(w':World)(d':List Deferred):Prop:=
 ∃ds:LnQ,d'=marks ds++d∧ds.Nodup∧∀D∈ds,w.heap.size<=D∧w'.heap[D]?=some (.deferred (some []))
theorem Dfr.of_eq{w:World}{d d':List Deferred}(h:d'=d):Dfr w d w' d':=⟨[],by trivial,List.nodup_nil,λD h=>by simp at h⟩
theorem Ext.other{X:Cfg}{φ:bJ}{H H':AH}{w:World}(h:bp X φ H w)(he:Ext φ H w φ' H' w'){o:Obj}(hc:w.heap[c]?=some o)(ho:o.isCells=false):w'.heap[c]?=some o:=by
 have hlt:c<w.heap.size:=lt_of_heap hc;refine(he.frame c hlt ?_).trans hc;rintro⟨b,p,x,hp,rfl,_⟩;obtain⟨_,cs,e,fz,_,_,_,_,_,hcs,_⟩:=h.dom b p hp
 grind[Obj.isCells]
theorem Dfr.trans{X:Cfg}{w:World}{d d1 d2:List Deferred}(h:Dfr w d w1 d1)(hr:bp X φ1 H1 w1)(he:Ext φ1 H1 w1 φ2 H2 w2)(hs:w.heap.size<=w1.heap.size)(k:Dfr w1 d1 w2 d2):Dfr w d w2 d2:=by
 obtain⟨ds,rfl,n1,q1⟩:=h;obtain⟨es,rfl,n2,q2⟩:=k;refine⟨es++ds,by simp[marks],?_,?_⟩
 .grind
 .intro D hD;rcases Xx.1 hD with hD|hD
  .grind
  .exact⟨(q1 D hD).1,he.other hr (q1 D hD).2 rfl⟩
def bV(X:Cfg)(L:Nat)(φ:bJ)(H:AH)(w:World)(act:Act)(a':LvQ)(H':AH)(K:Act->World->Prop):Prop:=
 ∀φ' act' w',au φ' a' act'.tmps.toList->Dfr w act.defers w' act'.defers->bp X φ' H' w'->Ext φ H w φ' H' w'->fu L none φ φ'->K act' w'
def Ready(X:Cfg)(φ:bJ)(H:AH)(o:Oper)(rid:Option Nat):Prop:=
 ∀t r z,o.op=.alloc t->rid=some r->iH X.P t=some z->φ r=none∧H.get r=some (fresh r z.cells.toList)
theorem fu.weak{r:Option Nat}{φ:bJ}(h:fu L none φ φ'):fu L r φ φ':=λb p h1 h2=>by
 rcases h b p h1 h2 with g|g
 .omega
 .cases g
theorem Qi(hcf:rD X cf)(h:bp X φ H w){a:LvQ}{act:Act}(ha:au φ a act.tmps.toList){o:Oper}(ho:yv o=true){rid:Option Nat}{v:Value}{H':AH}
  (hal:Ready X φ H o rid) (hv:qj X cf rid H a o=some (v,H')) {K:Act→World→Prop} {Q:Exit→Act→World→Prop}
  (hK:∀φ' v' w',am φ' v v'→bp X φ' H' w'→Ext φ H w φ' H' w'→fu H.n rid φ φ'→K (act.put o.dst v') w') {r:Option Nat}:o.wpIn (Fw r) 0 X.P act w K Q:=by
 have plain:opV X rid H a o=some (v,H')→o.wpIn (Fw r) 0 X.P act w K Q:=by
  intro hv;obtain⟨φ',v',w',hr,h1,h2,h3,h4⟩:=NF h ha ho hal hv;refine⟨λ_ _=>trivial,?_⟩;rw[Oper.semAt_eq _ _ _ (λc hc=>by grind[opV])];rcases hr with hr|⟨hr,rfl⟩
  .rw[hr];exact hK φ' v' w' h1 h2 h3 h4
  .rw[hr];exact hK φ' undef w' h1 h2 h3 h4
 unfold qj at hv;split at hv
 .rename_i c hc;split at hv
  .grind
  .rename_i hb;split at hv
   .rename_i g args hcal;unfold om at hcal;split at hcal
    .rename_i f hf;split at hcal
     .rename_i g0 first captured he
      simp only[Z9,Z5]at hcal;obtain⟨rfl,rfl⟩:=hcal;have hok:∀x∈o.op.operands,zE x=true:=λx hx=>X7.1 ho x hx
      rw[hc]at hok;have hfr:=bN h ha (hok f (by simp[Op.operands,Call.operands,hf]));rw[he]at hfr;have hargs:=Di h ha (xs:=c.args) (λx hx=>hok x (by grind[Op.operands,Call.operands]));obtain⟨first⟩:=first
      obtain⟨captured⟩:=captured;simp only[am]at hfr;obtain⟨_,x',y',e,r1,r2⟩:=hfr;rcases hcf _ _ _ _ _ hv with⟨_,rfl,p1,p2,p3⟩|⟨⟨fn,f1,f2,f3⟩,hcall⟩
      .have hl:au φ ((⟨first⟩:Array Value).toList++(c.args.map (ev X a)).toList++(⟨captured⟩:Array Value).toList) ((⟨x'⟩:Array Value)++c.args.map act.eval++⟨y'⟩).toList:=by grind[au.append]
       have hl':=(au.of_plain _ p1 _).1 hl;refine⟨λ_ _=>trivial,?_⟩;rw[Oper.semAt_eq _ _ _ (λc' hc'=>by grind)]
       have hrun:(execOp act.eval o).run X.P w=.ok (.value v) w:=by
        have h3:=p3 w;rw[← hl',Array.toArray_toList]at h3;unfold execOp;simp only[hc,resolve,hf,e,Deferred.ofValue,invoke];exact h3
       rw[hrun];exact hK φ v w (eT p2) h (Ext.refl _ _ _) (fu.refl _ _ _)
      have hc2:=hcall φ w ((⟨x'⟩:Array Value)++c.args.map act.eval++⟨y'⟩) h (by
       grind[au.append])
      refine⟨λ_ _=>trivial,?_⟩;rw[Oper.semAt_eq _ _ _ (λc' hc'=>by grind)]
      have hrun:(execOp act.eval o).run X.P w=.ok (.enter g0 ((⟨x'⟩:Array Value)++c.args.map act.eval++⟨y'⟩)) w:=by
       unfold execOp;simp only[hc,resolve,hf,e,Deferred.ofValue,invoke,callFunc];have f2':¬fn.body=none:=by intro h0;simp[h0]at f2
       have f3':¬fn.name = "runtime.NumGoroutine" :=by simpa using f3
       simp[f1,f2',f3']
      rw[hrun];refine⟨λh=>(by cases h),?_⟩;refine(callsIn_wide.2 (Calls.mono hc2 ?_):CallsIn Fence.wide (0-1) _ _ _ _ _)
      grind[fu.weak]
     trivial
    trivial
   trivial
 grind
def wZ(X:Cfg)(B:Nat)(φ:bJ):bJ:=λb=>if b<B∧X.glob b=true then φ b else none
theorem nM{B:Nat}(h:wZ X B φ b=some p):b<B∧X.glob b=true∧φ b=some p:=by
 unfold wZ at h;split at h
 .rename_i hc;exact⟨hc.1,hc.2,h⟩
 .cases h
theorem YC{B:Nat}(hG:∀g,X.glob g=true->g<B)(h:bp X φ H w):bp X (wZ X B φ) (H.bare X B) w where
 glob g hg:=by
  obtain⟨p,h1,h2,h3⟩:=h.glob g hg;exact⟨p,by unfold wZ;rw[if_pos ⟨hG g hg,hg⟩];exact h1,h2,h3⟩
 dom b p hp:=by
  obtain⟨hb,hg,hp⟩:=nM hp;obtain⟨x,cs,e,fz,h1,h2,h3⟩:=h.dom b p hp;refine⟨{x with wr:=false,st:=if cV x.cells=true then x.st else x.st+x.st},cs,e,fz,by rw[pM,h1,Option.map_some,if_pos ⟨hb,hg⟩],?_,h3⟩
  show(if cV x.cells=true then x.st else x.st+x.st)≠0
  split<;>omega
 cell b p x i v hp hx hs hv:=by
  obtain⟨hb,hg,hp⟩:=nM hp;obtain⟨x0,cs,e,fz,h1,_⟩:=h.dom b p hp;rw[pM,h1,Option.map_some,if_pos ⟨hb,hg⟩]at hx;cases hx;dsimp only at hs hv;split at hs
  .rename_i hpl;obtain⟨v',q1,q2⟩:=h.cell b p x0 i v hp h1 hs hv
   have hpv:∀l:LvQ,cV l=true->∀u∈l,plain u=true:=by
    intro l
    induction l with
    |nil=>intro _ u hu;cases hu
    | cons y l ih=>
     intro hl u hu;simp only[cV,Z7]at hl;rcases Zu.1 hu with rfl|hu
     .exact hl.1
     .exact ih hl.2 u hu
   have hv2:=hpv _ hpl v (Yh hv);rw[(am.of_plain v hv2 v').1 q2]at q1;exact⟨v,q1,eT hv2⟩
  .omega
 frz b p x i hp hx hw _:=by
  obtain⟨hb,hg,hp⟩:=nM hp;obtain⟨x0,cs,e,fz,h1,_⟩:=h.dom b p hp;rw[pM,h1,Option.map_some,if_pos ⟨hb,hg⟩]at hx;cases hx;cases hw
 sep b b' p p' x x' hp hp' hx hx' _ _ _ _:=by obtain⟨hb,hg,hp⟩:=nM hp;obtain⟨hb',hg',hp'⟩:=nM hp';obtain⟨x0,_,_,_,h1,_⟩:=h.dom b p hp;obtain⟨x0',_,_,_,h1',_⟩:=h.dom b' p' hp';rw[pM,h1,Option.map_some,if_pos ⟨hb,hg⟩]at hx;rw[pM,h1',Option.map_some,if_pos ⟨hb',hg'⟩]at hx';cases hx;cases hx';exact .inl ⟨rfl,rfl⟩
theorem Ij{B:Nat}:¬Over (wZ X B φ) (H.bare X B) c:=by
 rintro⟨b,p,x,hp,_,hx,_,hw⟩;obtain⟨hb,hg,_⟩:=nM hp;rw[pM]at hx;cases h:H.get b with
 |none=>rw[h]at hx;cases hx
 |some y=>rw[h,Option.map_some,if_pos ⟨hb,hg⟩]at hx;cases hx;cases hw
theorem RU{B:Nat}(h:bp X φ H w)(h1:bp X φ' H1 w')(E:Ext (wZ X B φ) (H.bare X B) w φ' H1 w')(N:fu H.n none (wZ X B φ) φ')(hn:H.n<=H1.n):
    ∃φ2,PLe φ' φ2∧bp X φ2 (H.graft H1) w'∧Ext φ H w φ2 (H.graft H1) w'∧fu H.n none φ φ2:=by
  have lt:∀{b p},φ b=some p->b<H.n:=λhp=>by
    obtain⟨x,_,_,_,hx,_⟩:=h.dom _ _ hp;exact AH.get_lt hx
  have P1:∀{b p},φ' b=some p->b<H.n->φ b=some p:=λ{b p} hp hb=>by
    cases hq:wZ X B φ b with
    | none => rcases N b p hp hq with g|g
              · omega
              · cases g
    | some q=>
      have:=E.le b q hq;rw[hp]at this;cases this;exact(nM hq).2.2
  have P4:∀{c},c<w.heap.size->w'.heap[c]?=w.heap[c]?:=λhc=>E.frame _ hc Ij
  have P5:∀{b p},φ' b=some p->H.n<=b->w.heap.size<=p.c:=λ{b p} hp hb=>by
    have hq:wZ X B φ b=none:=by
      cases hq:wZ X B φ b with
      |none=>rfl
      |some q=>have:=lt (nM hq).2.2;omega
    rcases E.new b p hp hq with g|g
    · exact g
    · exact absurd g Ij
  have P6:∀{b p},φ b=some p->p.c<w.heap.size:=λhp=>by
    obtain⟨_,_,_,_,_,_,_,_,_,hc,_⟩:=h.dom _ _ hp;exact lt_of_heap hc
  let φ2:bJ:=λb=>if b<H.n then φ b else φ' b
  have o2:∀{b},b<H.n->φ2 b=φ b:=λhb=>if_pos hb
  have n2:∀{b}, ¬b<H.n->φ2 b=φ' b:=λhb=>if_neg hb
  have le1:PLe φ' φ2:=λb p hp=>by
    by_cases hb:b<H.n
    · rw[o2 hb];exact P1 hp hb
    · rw[n2 hb];exact hp
  have le2:PLe φ φ2:=λb p hp=>by rw[o2 (lt hp)];exact hp
  have gold:∀{b},b<H.n->(H.graft H1).get b=H.get b:=λhb=>xq hn hb
  have gnew:∀{b p},φ' b=some p->¬b<H.n->(H.graft H1).get b=H1.get b:=λhp hb=>by
    obtain⟨x,_,_,_,hx,_⟩:=h1.dom _ _ hp;rw[HZ aa hx,hx]
  have cellE:∀{c i},c<w.heap.size->w'.cell? ⟨c,i,none⟩=w.cell? ⟨c,i,none⟩:=λhc=>by simp only[World.cell?,P4 hc]
  have frzE:∀{c i},c<w.heap.size->w'.frozen? ⟨c,i,none⟩=w.frozen? ⟨c,i,none⟩:=λhc=>by simp only[World.frozen?,P4 hc]
  refine⟨φ2,le1,⟨?_, ?_, ?_, ?_, ?_⟩,⟨le2,E.size,λc hc _=>P4 hc, ?_, ?_, ?_,E.os,E.out⟩, ?_⟩
  · intro g hg
    obtain⟨p,q1,q2⟩:=h.glob g hg;exact⟨p,le2 _ _ q1,q2⟩
  · intro b p hp
    by_cases hb:b<H.n
    · rw[o2 hb]at hp
      obtain⟨x,cs,e,fz,q1,q2,q3,q4,q5,q6,q7⟩:=h.dom b p hp;exact⟨x,cs,e,fz,by rw[gold hb,q1],q2,q3,q4,q5,by rw[P4 (P6 hp)];exact q6,q7⟩
    · rw[n2 hb]at hp
      rw[gnew hp hb];exact h1.dom b p hp
  · intro b p x i v hp hx hs hv
    by_cases hb:b<H.n
    · rw[o2 hb]at hp
      rw[gold hb]at hx;obtain⟨v',q1,q2⟩:=h.cell b p x i v hp hx hs hv;exact⟨v',by rw[cellE (P6 hp)];exact q1,am.mono le2 _ _ q2⟩
    · rw[n2 hb]at hp
      rw[gnew hp hb]at hx;obtain⟨v',q1,q2⟩:=h1.cell b p x i v hp hx hs hv;exact⟨v',q1,am.mono le1 _ _ q2⟩
  · intro b p x i hp hx hw hi
    by_cases hb:b<H.n
    · rw[o2 hb]at hp
      rw[gold hb]at hx;rw[frzE (P6 hp)];exact h.frz b p x i hp hx hw hi
    · rw[n2 hb]at hp
      rw[gnew hp hb]at hx;exact h1.frz b p x i hp hx hw hi
  · intro b b' p p' x x' hp hp' hx hx' hs hs' hne hc
    by_cases hb:b<H.n
    · rw[o2 hb]at hp
      rw[gold hb]at hx;by_cases hb':b'<H.n
      · rw[o2 hb']at hp'
        rw[gold hb']at hx';exact h.sep b b' p p' x x' hp hp' hx hx' hs hs' hne hc
      · rw[n2 hb']at hp'
        have:=P6 hp;have:=P5 hp' aa;omega
    · rw[n2 hb]at hp
      rw[gnew hp hb]at hx;by_cases hb':b'<H.n
      · rw[o2 hb']at hp'
        have:=P6 hp';have:=P5 hp aa;omega
      · rw[n2 hb']at hp'
        rw[gnew hp' hb']at hx';exact h1.sep b b' p p' x x' hp hp' hx hx' hs hs' hne hc
  · intro b p hp hq
    by_cases hb:b<H.n
    · rw[o2 hb,hq]at hp;cases hp
    · rw[n2 hb]at hp
      exact .inl (P5 hp aa)
  · intro b p x' hp hx hs hw
    rw[gold (lt hp)]at hx;exact⟨x',hx,hs,hw⟩
  · intro b x _ hx _ _
    rw[gold (AH.get_lt hx)];exact hx
  · intro b p hp hq
    by_cases hb:b<H.n
    · rw[o2 hb,hq]at hp;cases hp
    · exact .inl aa
def apart(X:Cfg)(cf:iA)(B:Nat):iA:=λg args H=>if cV args=true then match cf g args (H.bare X B)with
 |some (v,H')=>some (v,H.graft H')
 |none=>none else none
theorem KI{B:Nat}{a:LvQ}{o:Oper}{rid:Option Nat}{r:Value×AH}(h:oo X cf B H a o=some r)(hc:yc o.op=true):qj X (apart X cf B) rid H a o=some r:=by
 unfold oo at h;unfold qj;split at h
 .rename_i c ho;rw[ho]at hc;have hb:je c.callee=false:=by simpa[yc]using hc
  simp only[hb,Zh,if_false];cases hg:om (ev X a) c with
  |none=>rw[hg]at h;cases h
  |some q=>rw[hg]at h;exact h
 .cases h
theorem N0{B:Nat}:H.graft (H.bare X B)=H:=by
 show AH.mk H.n ((List.range (H.n-H.n)).map _++H.l)=H
 rw[Y7];rfl
theorem Sz{B:Nat}(hG:∀g,X.glob g=true->g<B)(hev:ou cf)(hcf:rD X cf):rD X (apart X cf B):=by
 intro f args H v H' hv;unfold apart at hv;split at hv
 .rename_i hp;split at hv
  .rename_i v1 H1 h1;cases hv;rcases hcf f args _ _ _ h1 with⟨q1,q2,q3,q4,q5⟩|⟨q1,q2⟩
   .subst q2;exact .inl ⟨q1,N0,q3,q4,q5⟩
   .refine .inr ⟨q1,λφ w args' h ha=>?_⟩;have e:=(au.of_plain args hp _).1 ha;refine Calls.mono (q2 (wZ X B φ) w args' (YC hG h) ((au.of_plain args hp _).2 e)) ?_;rintro e w' ⟨φ',v',he,hr,hh,hE,hN⟩;obtain⟨φ2,k1,k2,k3,k4⟩:=RU h hh hE hN (hev _ _ _ _ _ h1).n;exact⟨φ2,v',he,am.mono k1 _ _ hr,k2,k3,k4⟩
  .cases hv
 .cases hv
theorem OQ(hev:ou cf)(hcf:rD X cf)(h:bp X φ H w){a a':LvQ}{act:Act}(ha:au φ a act.tmps.toList){o:Oper}(ho:yv o=true){ops:Array Oper}{base:Option Nat}{i:Nat}{H':AH}(hG:∀B,base=some B->∀g,X.glob g=true->g<B)
  (hal:Ready X φ H o (base.map (· + i))) (hs:eE X cf ops base i o a H=some (a',H')) {K:Act->World->Prop} {Q:Exit->Act->World->Prop}
  (hK:∀φ' act' w',au φ' a' act'.tmps.toList->act'.defers=act.defers->bp X φ' H' w'->Ext φ H w φ' H' w'->fu H.n (base.map (· + i)) φ φ'->K act' w') {r:Option Nat} :
  if Region.wanted o (yielded ops act.tmps)then o.wpIn (Fw r) 0 X.P act w K Q else(∀f,o.about X.P w act.eval=some f->(Fw r).fn f)∧K (act.put o.dst undef) w:=by
 rw[M4 ha];unfold eE at hs;split at hs
 .rename_i hw;rw[if_pos hw];split at hs
  .rename_i v1 H1 hd;simp only[Z9,Z5]at hs;obtain⟨rfl,rfl⟩:=hs;unfold dop at hd;split at hd
   .rename_i v2 H2 hdo;split at hd
    .cases hd
    .simp only[Z9,Z5]at hd;obtain⟨rfl,rfl⟩:=hd;unfold yO at hdo;split at hdo
     .rename_i hso;simp only[Z7]at hso;cases base with
      |none=>cases hso.1
      | some B=>
       have hcb:yc o.op=true:=by
        have:=hso.2;unfold sH at this
        grind
       exact Qi (Sz (hG B rfl) hev hcf) h ha ho hal (KI hdo hcb) (λφ' v' w' k1 k2 k3 k4=>hK φ' _ w' (IX (au.mono k3.le _ _ ha) k1 _) (put_defers _ _ _) k2 k3 k4)
     exact Qi hcf h ha ho hal hdo (λφ' v' w' k1 k2 k3 k4=>hK φ' _ w' (IX (au.mono k3.le _ _ ha) k1 _) (put_defers _ _ _) k2 k3 k4)
   trivial
  trivial
 .rename_i hw;rw[if_neg hw];simp only[Z9,Z5]at hs;obtain⟨rfl,rfl⟩:=hs;refine⟨λ_ _=>trivial,?_⟩
  grind[IX,am.undef,put_defers,Ext.refl,fu.refl]
theorem bV.trans{act pn:Act}{a1 a':LvQ}{H1 H':AH}{K:Act->World->Prop}{φ1:bJ}{w1:World}{L L1:Nat}(hK:bV X L φ H w act a' H' K)(hd:Dfr w act.defers w1 pn.defers)(h1:bp X φ1 H1 w1)(he:Ext φ H w φ1 H1 w1)
  (hn:fu L none φ φ1) (hl:L<=L1):bV X L1 φ1 H1 w1 pn a' H' K:=
 λφ' act' w' k1 k2 k3 k4 k5=>hK φ' act' w' k1 (hd.trans h1 k4 he.size k2) k3 (he.trans k4) (hn.trans k5 hl)
theorem PG{r:Option Nat}(hcf:rD X cf)(hev:ou cf){ops:Array Oper}{Q:Exit->Act->World->Prop}:∀(l:List Oper)(i:Nat)(a a':LvQ)(H H':AH)(φ:bJ)(w:World)(act:Act),
  bp X φ H w->au φ a act.tmps.toList->(∀o∈l,yv o=true)->sF X cf ops none i l a H=some (a',H')->bV X H.n φ H w act a' H' (Q .normal)->wpListIn (Fw r) 0 X.P ops Q l act w
 | [],i,a,a',H,H',φ,w,act,h,ha,_,hr,hK=>by
  simp only[sF,Z9,Z5]at hr;obtain⟨rfl,rfl⟩:=hr;exact hK φ act w ha (Dfr.of_eq rfl) h (Ext.refl _ _ _) (fu.refl _ _ _)
 | o::l,i,a,a',H,H',φ,w,act,h,ha,ho,hr,hK=>by
  simp only[sF]at hr;split at hr
  .rename_i a1 H1 hs;unfold wpListIn
   exact OQ hev hcf h ha (ho o ac) (λB hB=>by cases hB) (λt r z _ hr _=>by cases hr) hs (λφ1 pn w1 k1 k2 k3 k4 k5=>
    PG hcf hev l (i+1) a1 a' H1 H' φ1 w1 pn k3 k1 (λx hx=>ho x (by grind)) hr (bV.trans (a1:=a1) hK (Dfr.of_eq k2) k3 k4 k5 (xa hev hs).n))
  trivial
theorem LF(M:LnQ)(k:Nat):∀(l:List Edge)(s:Nat),(l.foldl (λs e=>if Region.binds .any e then s|||2^e.on|||M.getD e.on 0 else s) s).testBit k=true ->
  s.testBit k=true∨∃e∈l,Region.binds .any e=true∧(k=e.on∨(M.getD e.on 0).testBit k=true)
 |[],s,h=>.inl h
 | e::l,s,h=>by
  simp only[List.foldl_cons]at h;rcases LF M k l _ h with h|⟨e',h1,h2⟩
  .split at h
   .rename_i hb;simp only[Nat.testBit_or,X9,Nat.testBit_two_pow,decide_eq_true_eq]at h;rcases h with(h|h)|h
    .grind
    .exact .inr ⟨e,ac,hb,.inl h.symm⟩
    .exact .inr ⟨e,ac,hb,.inr h⟩
   grind
  grind
def rem(ops:Array Oper)(listed:Array Bool):List (Oper×Nat):=ops.toList.zipIdx.filter λx=>!listed.getD x.2 true
theorem EG(ops:Array Oper)(listed:Array Bool):(rem ops listed).Pairwise (λx y=>x.2<y.2):=by
 have:∀(l:List Oper)(n:Nat),(l.zipIdx n).Pairwise (λx y=>x.2<y.2):=by
  intro l
  induction l with
  |nil=>simp
  | cons o l ih=>
   grind[List.zipIdx_cons,List.pairwise_cons]
 exact(this _ _).filter _
theorem zq{ops:Array Oper}{o:Oper}:(o,i)∈rem ops listed↔ops[i]?=some o∧listed.getD i true=false:=by simp[rem,List.mem_zipIdx_iff_getElem?]
theorem Q9{ops:Array Oper}{o:Oper}(h:(o,i)∈rem ops listed)(hi:i<listed.size):
  ∃pre post,rem ops listed=pre++(o,i)::post∧rem ops (listed.setIfInBounds i true)=pre++post∧∀x∈pre,x.2<i:=by
 obtain⟨pre,post,e⟩:=List.append_of_mem h;have hs:=EG ops listed;rw[e,List.pairwise_append,List.pairwise_cons]at hs;obtain⟨_,⟨h1,_⟩,h2⟩:=hs;have hpre:∀x∈pre,x.2<i:=λx hx=>h2 x hx (o,i) ac
 refine⟨pre,post,e,?_,hpre⟩
 have hf:rem ops (listed.setIfInBounds i true)=(rem ops listed).filter λx=>x.2 !=i:=by
  unfold rem;rw[List.filter_filter];apply List.filter_congr;rintro⟨x,j⟩ hx;by_cases hj:j=i
  .simp_all
  .rw[getD_set_ne true (λe=>hj e.symm)]
   grind
 grind[List.filter_eq_self]
theorem WC{r:Option Nat}(hcf:rD X cf)(hev:ou cf){ops:Array Oper}{B:Nat}{Q:Exit->Act->World->Prop}(hops:∀o∈ops.toList,yv o=true)(hd:WE X.P ops=true)(hG:∀g,X.glob g=true->g<B):
  ∀(fuel:Nat)(listed:Array Bool)(a a':LvQ)(H H':AH)(φ:bJ)(w:World)(act:Act),listed.size=ops.size->(rem ops listed).length=fuel ->
   (∀j,listed.getD j false=true->∀k,(((Region.before ops).toList).getD j 0).testBit k=true->listed.getD k false=true) ->
   B+ops.size<=H.n->(∀i o,ops[i]?=some o->listed.getD i true=false->Ready X φ H o (some (B+i))) ->
   bp X φ H w->au φ a act.tmps.toList->Gt X cf ops B (rem ops listed) a H=some (a',H')->bV X B φ H w act a' H' (Q .normal)->wpAnyIn (Fw r) 0 X.P .any ops Q fuel listed act w:=by
 have D:=Z1.1 hd
 have Dat:∀{i:Nat}{o:Oper},ops[i]?=some o ->
   ((Region.before ops).toList).getD i 0=ab3 (Region.before ops).toList o∧(∀e∈o.after.toList,Region.binds .any e=true->e.on<i) ∧
   ∀j x,ops[j]?=some x->j<i->(((Region.before ops).toList).getD i 0).testBit j=false->V0 X.P ops j i x o=true:=by
  intro i o ho;have:=D (o,i) (by grind);simp only[Z7,beq_iff_eq,Z1,X9,Y5,decide_eq_true_eq]at this;obtain⟨⟨d1,d2⟩,d3⟩:=this;refine⟨d1,λe he hb=>?_,λj x hx hj hbit=>?_⟩
  .grind
  .rcases d3 (x,j) (by grind)with(h|h)|h
   .omega
   .grind
   omega
 intro fuel
 induction fuel with
 | zero=>
  intro listed a a' H H' φ w act hsz hlen hcl hB hal h ha hr hK;have hrem:rem ops listed=[]:=Yj.1 hlen;rw[hrem]at hr;simp only[Gt,Z9,Z5]at hr;obtain⟨rfl,rfl⟩:=hr;refine⟨?_,hK φ act w ha (Dfr.of_eq rfl) h (Ext.refl _ _ _) (fu.refl _ _ _)⟩;apply List.eq_nil_iff_forall_not_mem.2;intro i hi;rw[mem_ready]at hi;obtain⟨hnl,o,ho,_⟩:=hi
  have:(o,i)∈rem ops listed:=zq.2 ⟨ho,hnl⟩
  grind
 | succ fuel ih=>
  intro listed a a' H H' φ w act hsz hlen hcl hB hal h ha hr hK;constructor
  ·-- some operation is ready
   intro hnil;cases hrem:rem ops listed with
   |nil=>grind
   | cons x rest=>
    obtain⟨o,i⟩:=x;have hm:(o,i)∈rem ops listed:=by rw[hrem];simp
    obtain⟨ho,hl⟩:=zq.1 hm
    have hlt:i<ops.size:=by
     rcases Zi i ops.size with h'|h'
     .exact h'
     .grind
    have hin:i∈Region.ready .any ops listed:=by
     rw[mem_ready];refine⟨hl,o,ho,λe he hb=>?_⟩;have hlow:=(Dat ho).2.1 e (by grind) hb
     -- what lies below the first that is left is listed
     have hes:e.on<ops.size:=aa;cases hle:listed.getD e.on false with
     |true=>rfl
     | false=>
      have:(ops[e.on],e.on)∈rem ops listed:=zq.2 ⟨ac,by
       have hls:e.on<listed.size:=aa
       grind⟩
      grind[EG,List.pairwise_cons]
    grind
  .intro i hi;rw[mem_ready]at hi;obtain⟨hnl,o,ho,hedge⟩:=hi
   have hlt:i<ops.size:=by
    rcases Zi i ops.size with h'|h'
    .exact h'
    .grind
   have hm:(o,i)∈rem ops listed:=zq.2 ⟨ho,hnl⟩;obtain⟨pre,post,e1,e2,e3⟩:=Q9 hm aa;obtain⟨m1,m2,m3⟩:=Dat ho
   -- the ancestors are listed
   have hanc:∀k,(((Region.before ops).toList).getD i 0).testBit k=true->listed.getD k false=true:=by
    intro k hk;rw[m1]at hk;rcases LF _ k _ _ hk with hk|⟨e,he,hb,hk⟩
    .grind
    .grind
   have hF:∀x∈pre,ael X ops x.2 i x.1 o:=by
    rintro⟨x,j⟩ hx;have hxm:(x,j)∈rem ops listed:=by rw[e1];simp[hx]
    obtain⟨hxo,hxl⟩:=zq.1 hxm;have hji:j<i:=e3 _ hx
    have hbit:(((Region.before ops).toList).getD i 0).testBit j=false:=by
     cases hb:(((Region.before ops).toList).getD i 0).testBit j with
     |false=>rfl
     | true=>
      have:=hanc j hb;have hjs:j<listed.size:=aa
      grind
    have:=m3 j x hxo hji hbit;simp only[V0,Z7,Y5,X9,Xp]at this;obtain⟨⟨⟨⟨⟨f1,f2⟩,f3⟩,f4⟩,f5⟩,f6⟩:=this;refine⟨aa,f1,?_,?_,?_,Yi.2 (by grind),Yi.2 (by grind),?_,?_⟩
    .grind
    .grind
    .grind
    .grind
    .grind
   have hog:yv o=true:=hops o (by grind)
   have hgood:Good X ops a H o:=by
    intro hw he hl b hb
    -- what the operation looks into is described
    have hok:∀x∈o.op.operands,zE x=true:=λx hx=>X7.1 hog x hx
    have E:∀{x},x∈o.op.operands->am φ (ev X a x) (act.eval x):=λhx=>bN h ha (hok _ hx)
    have T:∀{x:Operand}{b:Nat},x∈o.op.operands->iL (ev X a x)=some b->∃y,H.get b=some y∧y.st≠0:=by
     intro x b hx ht;have hr:=E hx;unfold iL at ht;split at ht
     .rename_i p hp;rw[hp]at hr;simp only[Z9]at ht;subst ht;simp only[am]at hr;obtain⟨_,_,_,_,q,hq,_⟩:=hr;obtain⟨y,_,_,_,y1,y2,_⟩:=h.dom _ _ hq
      grind
     .rename_i p n c hp;rw[hp]at hr;simp only[Z9]at ht;subst ht;obtain⟨_,_,_,hs⟩:=ii hr;rcases hs with⟨_,_,q,hq,_⟩|⟨_,_,_,_,q,hq⟩
      .obtain⟨y,_,_,_,y1,y2,_⟩:=h.dom _ _ hq
       grind
      .obtain⟨y,_,_,_,y1,y2,_⟩:=h.dom _ _ hq
       grind
     .cases ht
    unfold touch at hb;split at hb
    .grind[Op.operands]
    .rename_i t x lo hi2 mx hop;refine T (x:=x) (by grind[Op.operands]) ?_;split at hb
     .rename_i p _ _ hx;rw[hx];exact hb
     trivial
    .rename_i s d x hop;refine T (x:=x) (by grind[Op.operands]) ?_;split at hb
     .rename_i p _ _ hx;rw[hx];exact hb
     trivial
    .grind[Op.operands,Call.operands,Array.mem_of_getElem?]
    .cases hb
   rw[e1]at hr;obtain⟨a1,H1,hs,hr1⟩:=Ez hev pre post a H (a',H') hF hgood hB hr;unfold wpOpIn;rw[ho];refine OQ hev hcf h ha hog (λB' hB'=>by cases hB';exact hG) (by grind) hs (λφ1 pn w1 k1 k2 k3 k4 k5=>?_);have hle:=(xa hev hs).n
   have k5':fu B none φ φ1:=λb p q1 q2=>by
    rcases k5 b p q1 q2 with g|g
    .exact .inl aa
    .simp only[Option.map_some,Z9]at g;exact .inl aa
   refine ih (listed.setIfInBounds i true) a1 a' H1 H' φ1 w1 pn (by grind) ?_ ?_ aa ?_ k3 k1 (by grind) (bV.trans (a1:=a1) hK (Dfr.of_eq k2) k3 k4 k5' (Z8 _))
   rotate_left 2
   ·-- the blocks that lie ready stay
    intro j x hx hl t r z hop hr hz
    have hjlt:j<ops.size:=by
     rcases Zi j ops.size with h'|h'
     .exact h'
     .grind
    have hji:j≠i:=by
     intro e';subst e';simp[Ze,Array.getElem?_setIfInBounds,hsz,hjlt]at hl
    rw[getD_set_ne true (λe=>hji e.symm)]at hl;obtain⟨q1,q2⟩:=hal j x hx hl t r z hop hr hz;simp only[Z9]at hr;subst hr
    have hn1:φ1 (B+j)=none:=by
     cases hq:φ1 (B+j)with
     |none=>rfl
     | some p=>
      rcases k5 _ p hq q1 with g|g
      .omega
      grind
    exact⟨hn1,k4.abs _ _ hn1 q2 rfl (by simp[fresh])⟩
   .grind
   .intro j hj k hk;by_cases hji:j=i
    .grind[getD_set_true]
    .rw[getD_set_ne false (λe=>hji e.symm)]at hj
     grind[getD_set_true]
variable{X:Cfg}{cf:iA}
theorem xf:∀(l:List Oper)(H:AH)(b:Nat)(x:Blk),H.get b=some x->(kv X.P l H).get b=some x
 |[],_,_,_,h=>h
 |o::l,H,b,x,h=>xf l (H.push (sh X.P H.n o)) b x (by grind[AH.get_push_old,AH.get_lt])
theorem HB:∀(l:List Oper)(H:AH),Evo H (kv X.P l H)
 |[],H=>Evo.refl H
 |o::l,H=>(Evo.push H (sh X.P H.n o)).trans (HB l _)
theorem IY:∀(l:List Oper)(H:AH),(kv X.P l H).n=H.n+l.length
 |[],H=>rfl
 | o::l,H=>by
  rw[kv,IY l]
  grind[AH.push]
theorem EI:∀(l:List Oper)(H:AH)(i:Nat)(o:Oper),l[i]?=some o->(kv X.P l H).get (H.n+i)=some (sh X.P (H.n+i) o)
 |[],_,i,_,h=>by simp at h
 | o::l,H,0,x,h=>by
  grind[kv.eq_2,xf,AH.get_push_new]
 | o::l,H,i+1,x,h=>by
  rw[kv];have:=EI l (H.push (sh X.P H.n o)) i x (by trivial);have e:(H.push (sh X.P H.n o)).n=H.n+1:=rfl;rw[e,show H.n+1+i=H.n+(i+1) by omega]at this;omega
theorem bp.of_get{φ:bJ}{H H':AH}{w:World}(h:bp X φ H w)(hg:∀b x,H.get b=some x->H'.get b=some x):bp X φ H' w∧Ext φ H w φ H' w:=by
 have back:∀b p x,φ b=some p->H'.get b=some x->H.get b=some x:=by
  intro b p x hp hx;obtain⟨y,_,_,_,hy,_⟩:=h.dom b p hp;rw[hg b y hy]at hx;cases hx;exact hy
 refine ⟨⟨h.glob,λb p hp=>?_,λb p x i v hp hx h1 hv=>h.cell b p x i v hp (back b p x hp hx) h1 hv,λb p x i hp hx h1 hi=>h.frz b p x i hp (back b p x hp hx) h1 hi,?_⟩,
  ⟨PLe.refl φ,Z8 _,λ_ _ _=>rfl,λb p hb hn=>(by grind),λb p x hp hx h1 h2=>⟨x,back b p x hp hx,h1,h2⟩,λb x _ hx _ _=>hg b x hx,rfl,rfl⟩⟩
 .obtain⟨x,cs,e,fz,hx,rest⟩:=h.dom b p hp
  grind
 grind[sep]
theorem Ra(hm:X.P.follows .mixedOrders=true)(hcf:rD X cf)(hev:ou cf){φ:bJ}{H H':AH}{w:World}(h:bp X φ H w){a a':LvQ}{act:Act}(ha:au φ a act.tmps.toList)
  {id:Nat} {ops:Array Oper} {draw:Bool} (hok:kM X.P (.region id ops draw)=true) (hr:jH X cf ops draw a H=some (a',H')) {Q:Exit->Act->World->Prop} {r:Option Nat}
  (hK:bV X H.n φ H w act a' H' (Q .normal)):(Code.region id ops draw).wpIn (Fw r) 0 X.P Q act w:=by
 simp only[kM,Z7,Z1]at hok;obtain⟨ho,hd⟩:=hok;unfold jH at hr;cases draw with
 | false=>
  grind[wpIn_region_list,PG]
 | true=>
  simp only[if_true]at hr;simp only[Wx,Ww]at hd;rw[O0]at hr;obtain⟨g1,g2⟩:=h.of_get (H':=kv X.P ops.toList H) (λb x hx=>xf _ _ _ _ hx);have hw:bp X φ (kv X.P ops.toList H) {w with drawn:=w.drawn+1}:=g1.same_heap rfl;have hE:Ext φ H w φ (kv X.P ops.toList H) {w with drawn:=w.drawn+1}:=g2.trans (Ext.same_heap rfl)
  have hrem:rem ops (Array.replicate ops.size false)=ops.toList.zipIdx:=by
   unfold rem;rw[List.filter_eq_self];rintro⟨o,i⟩ hx;rw[List.mem_zipIdx_iff_getElem?]at hx
   have hi:i<ops.size:=by
    rcases Zi i ops.size with h'|h'
    .exact h'
    .grind
   simp[Ze,hi]
  have hnone:∀i,φ (H.n+i)=none:=λi=>by
   cases hq:φ (H.n+i)with
   |none=>rfl
   | some p=>
    obtain⟨x,_,_,_,hx,_⟩:=h.dom _ _ hq;have:=AH.get_lt hx;omega
  refine wpIn_region_any hm (WC hcf hev ho hd (λg hg=>by obtain⟨p,hp,_⟩:=h.glob g hg;obtain⟨x,_,_,_,hx,_⟩:=h.dom _ _ hp;exact AH.get_lt hx) ops.size (Array.replicate ops.size false) a a' (kv X.P ops.toList H) H' φ _ act ac (by simp_all) ?_ (by simp[IY]) ?_ hw ha (by grind) (bV.trans (a1:=a) hK (Dfr.of_eq rfl) hw hE (fu.refl _ _ _) (Z8 _)))
  rotate_left
  .intro i o hoi _ t r z hop hr hz;simp only[Z9]at hr;subst hr
   simp_all[EI,sh]
  intro j hj;simp[Ze,Array.getElem?_replicate]at hj
  grind
theorem K2{pre run:LvQ->AH->ExR}{sq:AH->Prop}{ps:List Tmp}{a:LvQ}
  (h1:∀a H e a' H',pre a H=some (e,a',H')->Evo H H') (h2:∀a H e a' H',run a H=some (e,a',H')->Evo H H') :
  ∀(xs:List LvQ)(H:AH)(e:Exit)(a':LvQ)(H':AH),oD pre run sq ps a xs H=some (e,a',H')->Evo H H'
 | [],H,e,a',H',h=>by
  grind[oD,Evo.refl]
 | x::xs,H,e,a',H',h=>by
  simp only[oD]at h;split at h
  .split at h
   .rename_i a1 H1 hp;split at h
    .rename_i H2 hr;split at h
     .exact((h1 _ _ _ _ _ hp).trans (h2 _ _ _ _ _ hr)).trans (K2 h1 h2 xs _ _ _ _ h)
     .cases h
    .grind[Evo.trans]
    .cases h
   .cases h
  .cases h
theorem Al(hev:ou cf):∀(n:Nat)(c:Code)(a:LvQ)(H:AH)(e:Exit)(a':LvQ)(H':AH),fh X cf n c a H=some (e,a',H')->Evo H H':=by
 have runL_evo:∀(ops:Array Oper)(base:Option Nat)(l:List Oper)(i:Nat)(a:LvQ)(H:AH)(a':LvQ)(H':AH),sF X cf ops base i l a H=some (a',H')->Evo H H':=by
  intro ops base l
  induction l with
  |nil=>grind[sF,Evo.refl]
  | cons o l ih=>
   intro i a H a' H' h;simp only[sF]at h;split at h
   .rename_i a1 H1 hs;exact(xa hev hs).trans (ih _ _ _ _ _ h)
   .cases h
 intro n
 induction n with
 |zero=>simp[fh]
 | succ n ih=>
  intro c a H e a' H' h;cases c<;>simp only[fh]at h
  case skip=>grind[Evo.refl]
  case label=>grind[Evo.refl]
  case exit=>grind[Evo.refl]
  case ret=>grind[Evo.refl]
  case region id ops draw=>
   grind[jH,Evo.trans,HB]
  case seq x y=>
   grind[Evo.trans]
  case cond x t f=>
   grind
  case block id c=>
   grind
  case loop c=>
   grind[Evo.trans]
  case scope c=>grind
  case rangeFunc g ps ahZ body=>
   grind[K2]
  all_goals cases h
theorem bp.grow{φ:bJ}{H:AH}{w:World}(h:bp X φ H w)(hs:w.heap.size<=w'.heap.size)(hf:∀c,c<w.heap.size->w'.heap[c]?=w.heap[c]?)(ho:w'.os=w.os)(hu:w'.output=w.output):bp X φ H w'∧Ext φ H w φ H w':=by
 have lt:∀b p,φ b=some p->p.c<w.heap.size:=λb p hp=>by
  obtain⟨x,cs,e,fz,_,_,_,_,_,hc,_⟩:=h.dom b p hp
  grind
 refine⟨⟨h.glob,λb p hp=>?_,λb p x i v hp hx h1 hv=>?_,λb p x i hp hx h1 hi=>?_,h.sep⟩,⟨PLe.refl φ,hs,λc hc _=>hf c hc,λb p h1 h2=>(by grind),λb p x' _ hx h1 h2=>⟨x',hx,h1,h2⟩,λb x _ hx _ _=>hx,ho,hu⟩⟩
 .rw[hf _ (lt b p hp)];exact h.dom b p hp
 .grind[cell,World.cell?]
 .have:=h.frz b p x i hp hx h1 hi
  grind[World.frozen?]
theorem bp.same_cells{φ:bJ}{H:AH}{w:World}(h:bp X φ H w)(hf:∀b p,φ b=some p->w'.heap[p.c]?=w.heap[p.c]?):bp X φ H w':=by
 refine⟨h.glob,λb p hp=>?_,λb p x i v hp hx h1 hv=>?_,λb p x i hp hx h1 hi=>?_,h.sep⟩
 .rw[hf _ _ hp];exact h.dom b p hp
 .grind[cell,World.cell?]
 .have:=h.frz b p x i hp hx h1 hi
  grind[World.frozen?]
theorem bp.putOther{φ:bJ}{H:AH}{w:World}(h:bp X φ H w){o o':Obj}(hl:w.heap[l]?=some o)(ho:o.isCells=false):bp X φ H (w.putObj l o'):=by
 refine h.same_cells λb p hp=>World.putObj_heap_other λe=>?_
 obtain⟨_,cs,e',fz,_,_,_,_,_,hcs,_⟩:=h.dom b p hp
 grind[Obj.isCells]
theorem Ext.putOther{φ:bJ}{H0 H:AH}{w:World}(h:Ext φ0 H0 w0 φ H w)(o':Obj)(hl:w0.heap.size<=l):Ext φ0 H0 w0 φ H (w.putObj l o'):=
 ⟨h.le,by simpa using h.size,λc hc hn=>(World.putObj_heap_other aa).trans (h.frame c hc hn),h.new,h.back,h.abs,h.os,h.out⟩
theorem K8{φ:bJ}:∀(ps:List Tmp)(x:LvQ)(a:LvQ)(tmps:Array Value),au φ a tmps.toList->cV x=true ->
  au φ (putP ps x a) ((ps.zip x).foldl (λt (q:Tmp×Value)=>t.setIfInBounds q.1 q.2) tmps).toList
 |[],x,a,tmps,h,_=>by trivial
 |p::ps,[],a,tmps,h,_=>by trivial
 | p::ps,x::xs,a,tmps,h,hp=>by
  simp only[cV,Z7]at hp;simp only[putP,List.zip_cons_cons,List.foldl_cons];refine K8 ps xs _ _ ?_ hp.2
  grind[au.set,eT]
def jmp:Exit->Option Code
 |.ret=>some .ret
 |.exit j=>some (.exit j)
 |_=>none
theorem Uz(hX:QB X){n:Nat}
  (ih:∀(c:Code)(a:LvQ)(H:AH)(e:Exit)(a':LvQ)(H':AH),fh X cf n c a H=some (e,a',H') →
   (e=.normal∨e=.ret∨∃j,e=.exit j) ∧
   ∀(r:Option Nat)(φ:bJ)(w:World)(act:Act)(Q:Exit→Act→World→Prop),(r=none∨xN c=true)→kM X.P c=true→bp X φ H w→au φ a act.tmps.toList→bV X H.n φ H w act a' H' (Q e)→c.wpIn (Fw r) 0 X.P Q act w)
  (hev:∀(c:Code)(a:LvQ)(H:AH)(e:Exit)(a':LvQ)(H':AH),fh X cf n c a H=some (e,a',H')→Evo H H')
  {g:Operand} {ps:Array Tmp} {ahZ body:Code} {a:LvQ} {H:AH} {gf:FuncId} {lb:LvQ} {xs:List LvQ} {e:Exit} {a':LvQ} {H':AH}
  (hg:ev X a g=.func (.func gf) ⟨[]⟩ ⟨lb⟩) (hs:X.seq gf lb H=some xs)
  (h:oD (λa H=>fh X cf n ahZ a H) (λa H=>fh X cf n body a H) (λH'=>X.seq gf lb H'=some xs∧X.seqK gf lb H'=X.seqK gf lb H) ps.toList a xs H=some (e,a',H')) :
  (e=.normal∨e=.ret∨∃j,e=.exit j) ∧
  ∀(φ:bJ)(w:World)(act:Act)(Q:Exit→Act→World→Prop),kM X.P (.rangeFunc g ps ahZ body)=true→bp X φ H w→au φ a act.tmps.toList→bV X H.n φ H w act a' H' (Q e)→(Code.rangeFunc g ps ahZ body).wpIn (Fw none) 0 X.P Q act w:=by
 obtain⟨hpl,⟨fg,hfg1,hfg2,hfg3⟩,hseq⟩:=hX gf lb H xs hs
 -- how it ends
 have kinds:∀(l:List LvQ)(H0:AH),oD (λa H=>fh X cf n ahZ a H) (λa H=>fh X cf n body a H) (λH'=>X.seq gf lb H'=some xs∧X.seqK gf lb H'=X.seqK gf lb H) ps.toList a l H0=some (e,a',H')→(e=.normal∨e=.ret∨∃j,e=.exit j)∧a'=a:=by
  intro l
  induction l with
  | nil=>
   grind[oD]
  | cons x l ihl=>
   grind[oD]
 obtain⟨hk,rfl⟩:=kinds _ _ h;refine⟨hk,λφ w act Q hok hh ha hK=>?_⟩;simp only[kM,Z7]at hok;obtain⟨⟨⟨⟨hog,hoa⟩,hob⟩,hna⟩,hnb⟩:=hok;have hgr:=bN hh ha hog;rw[hg]at hgr;simp only[am]at hgr;obtain⟨_,x',lb',eg,r1,r2⟩:=hgr;simp only[au]at r1;subst r1;obtain⟨View,hview,hcall⟩:=hseq φ w lb' hh r2;refine wpIn_rangeFunc ?_;intro fn _
 obtain⟨rec,hrec⟩:∃rec:LoopState→Option Code→Loop,rec=λst pe=>{state:=st,pending:=pe,fn,tmps:=act.tmps,params:=ps,assign:=ahZ,body,defers:=w.heap.size}:=⟨_,rfl⟩
 obtain⟨W1,hW1⟩:=mnQ ((w.alloc (.deferred (some []))).alloc (.loop (rec .ready none)))
 have hL1:W1.heap[w.heap.size+1]?=some (.loop (rec .ready none)):=by
  rw[← hW1];have:=World.alloc_heap_new (w.alloc (.deferred (some []))) (.loop (rec .ready none));rwa [World.size_alloc]at this
 have hD1:W1.heap[w.heap.size]?=some (.deferred (some [])):=by
  rw[← hW1];exact(heap_alloc_old ac).trans (World.alloc_heap_new w _)
 have hE1:bp X φ H W1∧Ext φ H w φ H W1:=by
  refine hh.grow ?_ ?_ ?_ ?_
  .grind
  .intro c hc;rw[← hW1];exact(heap_alloc_old (by simp;omega)).trans (heap_alloc_old hc)
  .rw[← hW1];rfl
  .rw[← hW1];rfl
 refine ⟨w.heap.size+1,[{target:=.collected w.heap.size,args:=#[]}],W1,{target:=.fn (.func gf) ⟨lb'⟩,args:=#[.func (.yield (w.heap.size+1)) #[] #[]]},W1,gf,
  #[.func (.yield (w.heap.size+1)) #[] #[]]++⟨lb'⟩,W1,?_,?_,λ_ _=>trivial,?_,λh=>(by cases h),?_⟩
 .grind[run_enterLoop_outer]
 .simp only[resolve,eg];simp[go_sem]
 .have f2':¬fg.body=none:=by intro h0;simp[h0]at hfg2
  have f3':¬fg.name = "runtime.NumGoroutine" :=by simpa using hfg3
  simp[invoke,callFunc,hfg1,f2',f3',go_sem]
 ·obtain ⟨J,hJ⟩:∃J:Nat→World→Prop,J=λi W=>∃φi Hi,oD (λa H=>fh X cf n ahZ a H) (λa H=>fh X cf n body a H) (λH'=>X.seq gf lb H'=some xs∧X.seqK gf lb H'=X.seqK gf lb H) ps.toList a' (xs.drop i) Hi=some (e,a',H')∧bp X φi Hi W∧Ext φ H w φi Hi W ∧
   fu H.n none φ φi∧H.n≤Hi.n∧(X.seq gf lb Hi=some xs∧X.seqK gf lb Hi=X.seqK gf lb H)∧W.heap[w.heap.size+1]?=some (.loop (rec .ready none))∧W.heap[w.heap.size]?=some (.deferred (some [])):=⟨_,rfl⟩
  obtain⟨Jx,hJx⟩:∃Jx:Nat→World→Prop,Jx=λi W=>∃φi c,bp X φi H' W∧Ext φ H w φi H' W∧fu H.n none φ φi∧jmp e=some c∧W.heap[w.heap.size+1]?=some (.loop (rec .done (some c)))∧W.heap[w.heap.size]?=some (.deferred (some [])):=⟨_,rfl⟩
  have key:=hcall (w.heap.size+1) J Jx W1 ?_ ?_ ?_
  .refine CallsIn.mono key ?_;rintro en W ⟨⟨v,rfl⟩,hW⟩
   have fin:∀(φi:bJ)(st:LoopState)(pe:Option Code),bp X φi H' W→Ext φ H w φi H' W→fu H.n none φ φi→W.heap[w.heap.size+1]?=some (.loop (rec st pe))→W.heap[w.heap.size]?=some (.deferred (some []))→st≠.busy →
     (Instr.endLoop (w.heap.size+1)).run X.P W=.ok pe (W.putObj (w.heap.size+1) (.loop {rec st pe with state:=.exhausted})) ∧
     Q e {act with defers:=[{target:=.collected w.heap.size,args:=#[]}]++act.defers} (W.putObj (w.heap.size+1) (.loop {rec st pe with state:=.exhausted})):=by
    intro φi st pe q1 q2 q3 q4 q5 q6;refine⟨?_,hK φi _ _ (au.mono q2.le _ _ ha) ⟨[w.heap.size],by rfl,ac,?_⟩ (q1.putOther q4 rfl) (q2.putOther _ aa) q3⟩
    .grind[run_endLoop]
    .grind[World.putObj_heap_other]
   rcases hW with hW|⟨i,hW⟩
   .rw[hJ]at hW;obtain⟨φi,Hi,k1,k2,k3,k4,_,_,k5,k6⟩:=hW;rw[List.drop_length]at k1;simp only[oD,Z9,Z5]at k1;obtain⟨rfl,_,rfl⟩:=k1;obtain⟨g1,g2⟩:=fin φi .ready none k2 k3 k4 k5 k6 ac;exact⟨none,_,g1,g2⟩
   .rw[hJx]at hW;obtain⟨φi,c,k2,k3,k4,kj,k5,k6⟩:=hW;obtain⟨g1,g2⟩:=fin φi .done (some c) k2 k3 k4 k5 k6 ac;refine⟨some c,_,g1,?_⟩
    grind[jmp,wpIn_ret,wpIn_exit]
  .grind[Ext.le,au.mono]
  ·-- a round
   intro i x W hW hx;rw[hJ]at hW;obtain⟨φi,Hi,k1,k2,k3,k4,kn,k7,k5,k6⟩:=hW
   have hi:i<xs.length:=by
    rcases Zi i xs.length with h'|h'
    .exact h'
    .grind
   rw[List.getElem?_eq_getElem hi]at hx;simp only[Z9]at hx;rw[Yz hi,hx]at k1;simp only[oD]at k1;split at k1
   case isFalse=>cases k1
   rename_i hlen;split at k1
   case h_2=>cases k1
   rename_i a1 H1 hpre;have hy:=run_yield (P:=X.P) (args:=x.toArray) k5 (by grind);rw[hrec]at hy;refine⟨fn,_,ahZ,body,hy,roundIn_of_wpIn trivial ?_⟩;have hlt:w.heap.size+1<W.heap.size:=lt_of_heap k5
   have ht:au φi (putP ps.toList x a') ((ps.zip x.toArray).foldl (λtmps (t,v)=>tmps.setIfInBounds t v) act.tmps).toList:=by
    have:=K8 (φ:=φi) ps.toList x a' act.tmps (au.mono k3.le _ _ ha) (hpl x (by grind));rw[← Array.foldl_toList,Array.toList_zip];exact this
   refine(ih _ _ _ _ _ _ hpre).2 (some (w.heap.size+1)) φi W _ _ (.inr hna) hoa k2 ht ?_;intro φ1 pn W2 q1 _ q3 q4 q5;have l2:=q4.other k2 k5 rfl;have d2:=q4.other k2 k6 rfl;refine⟨_,run_beginRound l2 (by rw[hrec]),?_⟩;have hn1:=(hev _ _ _ _ _ _ hpre).n;have e2:Ext φ H w φ1 H1 (W2.putObj (w.heap.size+1) (.loop {rec .ready none with state:=.busy})):=(k3.trans q4).putOther _ aa
   have n2:fu H.n none φ φ1:=k4.trans q5 kn;have r2':bp X φ1 H1 (W2.putObj (w.heap.size+1) (.loop {rec .ready none with state:=.busy})):=q3.putOther l2 rfl;have l3:(W2.putObj (w.heap.size+1) (.loop {rec .ready none with state:=.busy})).heap[w.heap.size+1]?=some (.loop {rec .ready none with state:=.busy}):=World.putObj_heap_same (lt_of_heap l2)
   have d3:(W2.putObj (w.heap.size+1) (.loop {rec .ready none with state:=.busy})).heap[w.heap.size]?=some (.deferred (some [])):=(World.putObj_heap_other aa).trans d2
   have fin:∀(jump:Option Code)(φ2:bJ)(H2:AH)(W3:World),bp X φ2 H2 W3→Ext φ1 H1 (W2.putObj (w.heap.size+1) (.loop {rec .ready none with state:=.busy})) φ2 H2 W3→fu H1.n none φ1 φ2 →
     (Instr.endRound (w.heap.size+1) jump).run X.P W3=.ok (.bool jump.isNone) (W3.putObj (w.heap.size+1) (.loop (rec (if jump.isNone then .ready else .done) jump))) ∧
     bp X φ2 H2 (W3.putObj (w.heap.size+1) (.loop (rec (if jump.isNone then .ready else .done) jump)))∧Ext φ H w φ2 H2 (W3.putObj (w.heap.size+1) (.loop (rec (if jump.isNone then .ready else .done) jump)))∧fu H.n none φ φ2 ∧
     (W3.putObj (w.heap.size+1) (.loop (rec (if jump.isNone then .ready else .done) jump))).heap[w.heap.size+1]?=some (.loop (rec (if jump.isNone then .ready else .done) jump)) ∧
     (W3.putObj (w.heap.size+1) (.loop (rec (if jump.isNone then .ready else .done) jump))).heap[w.heap.size]?=some (.deferred (some [])):=by
    intro jump φ2 H2 W3 p1 p2 p3;have l4:=p2.other r2' l3 rfl;have d4:=p2.other r2' d3 rfl;refine⟨?_,p1.putOther l4 rfl,(e2.trans p2).putOther _ aa,n2.trans p3 (Zy kn hn1),World.putObj_heap_same (lt_of_heap l4),(World.putObj_heap_other aa).trans d4⟩;have:=run_endRound (P:=X.P) jump l4;rw[hrec]at this ⊢;exact this
   split at k1
   .rename_i a2 H2 hrun;split at k1
    .rename_i hsq;refine(ih _ _ _ _ _ _ hrun).2 (some (w.heap.size+1)) φ1 _ _ _ (.inr hnb) hob r2' q1 ?_;intro φ2 act2 W3 p1 _ p3 p4 p5;obtain⟨f1,f2,f3,f4,f5,f6⟩:=fin none φ2 H2 W3 p3 p4 p5;refine⟨_,_,f1,.inl ⟨rfl,?_⟩⟩;rw[hJ];exact⟨φ2,H2,k1,f2,f3,f4,Zy kn (Zy hn1 (hev _ _ _ _ _ _ hrun).n),hsq,f5,f6⟩
    trivial
   .rename_i e1 a2 H2 hne hrun;simp only[Z9,Z5]at k1;obtain⟨rfl,_,rfl⟩:=k1;refine(ih _ _ _ _ _ _ hrun).2 (some (w.heap.size+1)) φ1 _ _ _ (.inr hnb) hob r2' q1 ?_;intro φ2 act2 W3 p1 _ p3 p4 p5
    have done:∀c,jmp e1=some c→∃v w',(Instr.endRound (w.heap.size+1) (some c)).run X.P W3=.ok v w'∧((Ending.returned v=.returned (.bool true)∧J (i+1) w')∨(Ending.returned v=.returned (.bool false)∧Jx (i+1) w')):=by
     intro c hc;obtain⟨f1,f2,f3,f4,f5,f6⟩:=fin (some c) φ2 H2 W3 p3 p4 p5;refine⟨_,_,f1,.inr ⟨rfl,?_⟩⟩;rw[hJx];exact⟨φ2,c,f2,f3,f4,hc,f5,f6⟩
    rcases hk with rfl|rfl|⟨j,rfl⟩
    .trivial
    .exact done .ret rfl
    .exact done (.exit j) rfl
   trivial
  grind[fu.refl]
theorem aaV(hX:QB X)(hm:X.P.follows .mixedOrders=true)(hcf:rD X cf)(hev:ou cf):∀(n:Nat),
  (∀(c:Code)(a:LvQ)(H:AH)(e:Exit)(a':LvQ)(H':AH),fh X cf n c a H=some (e,a',H') ->
   (e=.normal∨e=.ret∨∃j,e=.exit j) ∧
   ∀(r:Option Nat)(φ:bJ)(w:World)(act:Act)(Q:Exit->Act->World->Prop),(r=none∨xN c=true)->kM X.P c=true->bp X φ H w->au φ a act.tmps.toList->bV X H.n φ H w act a' H' (Q e)->c.wpIn (Fw r) 0 X.P Q act w) ∧
  (∀(c:Code)(a:LvQ)(H:AH)(e:Exit)(a':LvQ)(H':AH),fh X cf n (.loop c) a H=some (e,a',H') ->
   ∀(r:Option Nat)(φ:bJ)(w:World)(act:Act)(Q:Exit->Act->World->Prop),(r=none∨xN c=true)->kM X.P c=true->bp X φ H w->au φ a act.tmps.toList->bV X H.n φ H w act a' H' (Q e)->Code.roundsIn (Fw r) 0 X.P c Q n act w):=by
 intro n
 induction n with
 |zero=>simp[fh]
 | succ n ih=>
  obtain⟨ih1,ih2⟩:=ih
  have rounds:∀(c:Code)(a:LvQ)(H:AH)(e:Exit)(a':LvQ)(H':AH),fh X cf (n+1) (.loop c) a H=some (e,a',H') ->
    (e=.normal∨e=.ret∨∃j,e=.exit j)∧∀(r:Option Nat)(φ:bJ)(w:World)(act:Act)(Q:Exit->Act->World->Prop),(r=none∨xN c=true)->kM X.P c=true->bp X φ H w->au φ a act.tmps.toList->bV X H.n φ H w act a' H' (Q e)->Code.roundsIn (Fw r) 0 X.P c Q (n+1) act w:=by
   intro c a H e a' H' h;simp only[fh]at h;split at h
   .rename_i a1 H1 h1;obtain⟨k1,k2⟩:=ih1 _ _ _ _ _ _ h1;refine⟨(ih1 _ _ _ _ _ _ h).1,λr φ w act Q hrf hok hh ha hK=>?_⟩;rw[roundsIn_succ];refine k2 r φ w act _ hrf hok hh ha (λφ1 pn w1 q1 q2 q3 q4 q5=>?_);exact ih2 _ _ _ _ _ _ h r φ1 w1 pn Q hrf hok q3 q1 (bV.trans (a1:=a1) hK q2 q3 q4 q5 (Al hev _ _ _ _ _ _ _ h1).n)
   .rename_i hne;obtain⟨k1,k2⟩:=ih1 _ _ _ _ _ _ h;refine⟨k1,λr φ w act Q hrf hok hh ha hK=>?_⟩;rw[roundsIn_succ];refine k2 r φ w act _ hrf hok hh ha (λφ1 pn w1 q1 q2 q3 q4 q5=>?_);rcases k1 with rfl|rfl|⟨j,rfl⟩
    .grind
    .exact hK φ1 pn w1 q1 q2 q3 q4 q5
    .exact hK φ1 pn w1 q1 q2 q3 q4 q5
  refine⟨?_,λc a H e a' H' h=>(rounds c a H e a' H' h).2⟩;intro c a H e a' H' h;cases c
  case loop c=>
   obtain⟨k1,k2⟩:=rounds c a H e a' H' h;refine⟨k1,λr φ w act Q hrf hok hh ha hK=>wpIn_loop_rounds (n+1) (k2 r φ w act Q (by trivial) (by trivial) hh ha hK)⟩
  all_goals simp only[fh]at h
  case skip=>
   simp only[Z9,Z5]at h;obtain⟨rfl,rfl,rfl⟩:=h;exact⟨.inl rfl,λr φ w act Q _ _ hh ha hK=>wpIn_skip (hK φ act w ha (Dfr.of_eq rfl) hh (Ext.refl _ _ _) (fu.refl _ _ _))⟩
  case label l=>
   simp only[Z9,Z5]at h;obtain⟨rfl,rfl,rfl⟩:=h;exact⟨.inl rfl,λr φ w act Q _ _ hh ha hK=>wpIn_label (hK φ act w ha (Dfr.of_eq rfl) hh (Ext.refl _ _ _) (fu.refl _ _ _))⟩
  case exit j=>
   simp only[Z9,Z5]at h;obtain⟨rfl,rfl,rfl⟩:=h;exact⟨.inr (.inr ⟨j,rfl⟩),λr φ w act Q _ _ hh ha hK=>wpIn_exit (hK φ act w ha (Dfr.of_eq rfl) hh (Ext.refl _ _ _) (fu.refl _ _ _))⟩
  case ret=>
   simp only[Z9,Z5]at h;obtain⟨rfl,rfl,rfl⟩:=h;exact⟨.inr (.inl rfl),λr φ w act Q _ _ hh ha hK=>wpIn_ret (hK φ act w ha (Dfr.of_eq rfl) hh (Ext.refl _ _ _) (fu.refl _ _ _))⟩
  case region id ops draw=>
   grind[Ra]
  case seq x y=>
   split at h
   .rename_i a1 H1 h1;obtain⟨k1,k2⟩:=ih1 _ _ _ _ _ _ h1;obtain⟨m1,m2⟩:=ih1 _ _ _ _ _ _ h;refine⟨m1,λr φ w act Q hrf hok hh ha hK=>?_⟩;simp only[kM,Z7]at hok;refine wpIn_seq (k2 r φ w act _ (hrf.imp id λh=>by grind[xN]) hok.1 hh ha (λφ1 pn w1 q1 q2 q3 q4 q5=>?_))
    exact m2 r φ1 w1 pn Q (hrf.imp id λh=>by grind[xN]) hok.2 q3 q1 (bV.trans (a1:=a1) hK q2 q3 q4 q5 (Al hev _ _ _ _ _ _ _ h1).n)
   .rename_i hne;obtain⟨k1,k2⟩:=ih1 _ _ _ _ _ _ h;refine⟨k1,λr φ w act Q hrf hok hh ha hK=>?_⟩;simp only[kM,Z7]at hok;refine wpIn_seq (k2 r φ w act _ (hrf.imp id λh=>by grind[xN]) hok.1 hh ha (λφ1 pn w1 q1 q2 q3 q4 q5=>?_));rcases k1 with rfl|rfl|⟨j,rfl⟩
    .grind
    .exact hK φ1 pn w1 q1 q2 q3 q4 q5
    .exact hK φ1 pn w1 q1 q2 q3 q4 q5
  case cond x t f=>
   split at h
   .rename_i hx;obtain⟨k1,k2⟩:=ih1 _ _ _ _ _ _ h;refine⟨k1,λr φ w act Q hrf hok hh ha hK=>?_⟩;simp only[kM,Z7]at hok;have hr:=bN hh ha hok.1.1
    grind[wpIn_cond_true,zt,xN]
   .rename_i hx;obtain⟨k1,k2⟩:=ih1 _ _ _ _ _ _ h;refine⟨k1,λr φ w act Q hrf hok hh ha hK=>?_⟩;simp only[kM,Z7]at hok;have hr:=bN hh ha hok.1.1
    grind[wpIn_cond_false,zt,xN]
   .cases h
  case block id c=>
   split at h
   .rename_i j a1 H1 h1;simp only[Z9,Z5]at h;obtain⟨rfl,rfl,rfl⟩:=h;obtain⟨k1,k2⟩:=ih1 _ _ _ _ _ _ h1;refine⟨?_,λr φ w act Q hrf hok hh ha hK=>?_⟩
    .grind
    .refine wpIn_block (k2 r φ w act _ (by trivial) (by trivial) hh ha (λφ1 pn w1 q1 q2 q3 q4 q5=>?_));have:=hK φ1 pn w1 q1 q2 q3 q4 q5
     grind[Exit.inBlock]
   .rename_i hne;obtain⟨k1,k2⟩:=ih1 _ _ _ _ _ _ h;refine⟨k1,λr φ w act Q hrf hok hh ha hK=>wpIn_block (k2 r φ w act _ (by trivial) (by trivial) hh ha (λφ1 pn w1 q1 q2 q3 q4 q5=>?_))⟩;have:=hK φ1 pn w1 q1 q2 q3 q4 q5;rcases k1 with rfl|rfl|⟨j,rfl⟩
    .exact this
    .exact this
    grind
  case scope c=>
   obtain⟨k1,k2⟩:=ih1 _ _ _ _ _ _ h;refine⟨k1,λr φ w act Q hrf hok hh ha hK=>?_⟩;have hr0:r=none:=by simpa[xN]using hrf
   subst hr0;refine wpIn_wide.2 (wp_scope_straight ((wpIn_wide (n:=0)).1 (k2 none φ w act _ (.inl rfl) (by trivial) hh ha (λφ1 pn w1 q1 q2 q3 q4 q5=>?_))));have:=hK φ1 pn w1 q1 q2 q3 q4 q5;rcases k1 with rfl|rfl|⟨j,rfl⟩<;>exact this
  case rangeFunc g ps ahZ body=>
   split at h
   .rename_i gf lb hg;split at h
    .rename_i xs hs;obtain⟨k1,k2⟩:=Uz hX ih1 (λc a H e a' H' k=>Al hev n c a H e a' H' k) hg hs h;refine⟨k1,λr φ w act Q hrf hok hh ha hK=>?_⟩;have hr0:r=none:=by simpa[xN]using hrf
     grind
    .cases h
   .cases h
  all_goals cases h
theorem O6{φ:bJ}{H:AH}{w:World}(h:bp X φ H w){a:LvQ}{tmps:Array Value}(ha:au φ a tmps.toList):∀(l:List ResultVar)(vs:LvQ),l.mapM (Gu X.P H a)=some vs ->
  ∃ vs',(l.mapM (λ(r:ResultVar)=>(match r with
   |.tmp t=>pure (tmps.getD t undef)
   |.cell a t=>do loadVar t (<-asAddr (tmps.getD a undef)):Sem Value))).run X.P w=.ok vs' w∧au φ vs vs'
 | [],vs,hv=>by
  simp_all[au.nil]
 | r::l,vs,hv=>by
  rw[List.mapM_cons]at hv;cases h1:Gu X.P H a r with
  |none=>grind
  | some v=>
   cases h2:l.mapM (Gu X.P H a)with
   |none=>grind
   | some us=>
    simp[h1,h2]at hv;subst hv;obtain⟨us',g1,g2⟩:=O6 h ha l us h2
    have hone:∃v',((match r with
      |.tmp t=>pure (tmps.getD t undef)
      |.cell a t=>do loadVar t (<-asAddr (tmps.getD a undef)):Sem Value)).run X.P w=.ok v' w∧am φ v v':=by
     have hg:∀t,am φ (a.getD t undef) (tmps.getD t undef):=λt=>by
      have:=ha.getD t
      simp_all
     cases r with
     | tmp t=>
      simp only[Gu,Z9]at h1;subst h1
      simp_all
     | cell x t=>
      simp only[Gu]at h1;obtain⟨v',k1,k2⟩:=LK h h1 (hg x);refine⟨v',?_,k2⟩
      -- the address is there
      have hx:=hg x;unfold vp at h1
      grind[sN,asAddr,Instr.loadAt,Instr.sureAddr]
    obtain⟨v',k1,k2⟩:=hone
    simp_all[au.cons]
theorem K3{φ:bJ}{H:AH}{w:World}(h:bp X φ H w){a:LvQ}(ha:au φ a tmps.toList){fn:Func}{v:Value}(hv:qy X.P fn a H=some v):
  ∃v',(results fn tmps).run X.P w=.ok v' w∧am φ v v':=by
 unfold qy at hv
 have key:∀vs,fn.results.toList.mapM (Gu X.P H a)=some vs->∃vs',(fn.results.mapM (λ(r:ResultVar)=>(match r with
   |.tmp t=>pure (tmps.getD t undef)
   |.cell a t=>do loadVar t (<-asAddr (tmps.getD a undef)):Sem Value))).run X.P w=.ok (List.toArray vs') w∧au φ vs vs':=by
  intro vs hvs;obtain⟨vs',g1,g2⟩:=O6 h ha _ _ hvs;refine⟨vs',?_,g2⟩;rw[Array.mapM_eq_mapM_toList];simp only[Sem.run_map,g1,Result.andThen_ok]
 split at hv
 .rename_i u hu;simp only[Z9]at hv;subst hv;obtain⟨vs',g1,g2⟩:=key _ hu;simp only[au]at g2;obtain⟨u',_,rfl,k,rfl⟩:=g2;refine⟨u',?_,k⟩;unfold results;rw[Sem.run_bind];refine Eq.trans (congrArg (λr=>Result.andThen r λ(a:Array Value) w'=>Sem.run X.P (pure (if h:a.size=1 then a[0]else Value.tuple a)) w') g1) ?_;simp
 .rename_i vs hne hu;simp only[Z9]at hv;subst hv;obtain⟨vs',g1,g2⟩:=key _ hu;refine⟨.tuple vs'.toArray,?_,by grind[am]⟩;unfold results;rw[Sem.run_bind];refine Eq.trans (congrArg (λr=>Result.andThen r λ(a:Array Value) w'=>Sem.run X.P (pure (if h:a.size=1 then a[0]else Value.tuple a)) w') g1) ?_
  have hl:¬vs'.length=1:=by
   rw[<-g2.length];intro h1;obtain⟨u,rfl⟩:=List.length_eq_one_iff.1 h1;exact hne u rfl
  simp[hl]
 trivial
theorem zN{φ:bJ}{H:AH}{fn:Func}{tmps:Array Value}{w0:World}{φ0:bJ}{H0:AH}{R:Ending->World->Prop}{n:Nat}{F:Fence} :
  ∀(ds:LnQ)(w:World),ds.Nodup->(∀D∈ds,w0.heap.size<=D∧w.heap[D]?=some (.deferred (some [])))->bp X φ H w->Ext φ0 H0 w0 φ H w ->
   (∀w',bp X φ H w'->Ext φ0 H0 w0 φ H w'->LeavesInM F n X.P fn tmps R [] .returning w')->LeavesInM F n X.P fn tmps R (marks ds) .returning w
 |[],w,_,_,hh,he,hk=>hk w hh he
 | D::ds,w,hn,hd,hh,he,hk=>by
  have h0:=hd D ac;rw[List.nodup_cons]at hn;refine⟨ac,.inl ⟨D,_,rfl,run_takeDeferred h0.2,?_⟩⟩;refine zN ds _ hn.2 (λD' hD'=>⟨(hd D' (by grind)).1,(World.putObj_heap_other ?_).trans (hd D' (by grind)).2⟩) (hh.putOther h0.2 rfl) (he.putOther _ h0.1) hk
  grind
theorem F5{f:FuncId}{H:AH}{v:Value}{H':AH}:d8 X (n+1) f args H=some (v,H')->(X.orc f args=some v∧H'=H)∨(
  X.allow f=true∧∃fn c e a,X.P.funcs[f]?=some fn∧fn.body=some c∧fh X (d8 X n) n c (args++List.replicate (fn.ntmps-args.length) undef) H=some (e,a,H')∧(e=.normal∨e=.ret)∧qy X.P fn a H'=some v):=by
 intro h;simp only[d8]at h;split at h
 .grind
 right;split at h
 case isFalse=>cases h
 rename_i hal;split at h
 case h_2=>cases h
 rename_i fn hfn;split at h
 case h_2=>cases h
 rename_i c hc;refine⟨hal,fn,c,?_⟩;split at h
 .grind[Z4]
 .grind[Z4]
 .cases h
theorem BZ:∀n,ou (d8 X n)
 |0=>λf args H v H' h=>by cases h
 | n+1=>λf args H v H' h=>by
  have ih:=BZ n;rcases F5 h with⟨_,rfl⟩|⟨_,fn,c,e,a,_,_,he,_,_⟩
  .exact Evo.refl _
  .exact Al ih n c _ H e a H' he
theorem MK(hX:Oz X):∀n,rD X (d8 X n)∧ou (d8 X n):=by
 intro n
 induction n with
 |zero=>exact⟨λf args H v H' h=>by trivial,λf args H v H' h=>by trivial⟩
 | succ n ih=>
  obtain⟨ih1,ih2⟩:=ih;refine⟨?_,?_⟩
  .intro f args H v H' h;rcases F5 h with⟨ho,rfl⟩|⟨hal,fn,c,e,a,hfn,hc,he,hee,hres⟩
   .obtain⟨p1,p2,p3|⟨p3,p4⟩⟩:=hX.orc _ _ _ ho
    .exact .inl ⟨ho,rfl,p1,p2,p3⟩
    refine .inr ⟨p3,λφ w args' hh ha=>?_⟩
    have hargs:args'=args.toArray:=by
     have:=(au.of_plain _ p1 _).1 ha;rw[<-this]
    subst hargs;refine Calls.mono (p4 w) ?_;rintro en w' ⟨rfl,q1,q2,q3,q4⟩;obtain⟨g1,g2⟩:=hh.grow q1 q2 q3 q4
    grind[eT,fu.refl]
   have hokf:=hX.fns f fn hal hfn;simp only[aak,Z7,hc]at hokf;refine .inr ⟨⟨fn,hfn,by grind,by grind⟩,?_⟩;intro φ w args' hh ha;obtain⟨_,k2⟩:=(aaV hX.seq hX.mixed ih1 ih2 n).1 c _ H e a H' he;refine(callsIn_wide (n:=0)).1 (callsIn_of_wp_marks hfn hc trivial (k2 none φ w _ _ (.inl rfl) hokf.2 hh ?_ ?_))
   .have hl:args.length=args'.size:=by simpa using ha.length
    grind[Array.toList_replicate,au.append,au.replicate,am.undef]
   .intro φ1 pn w1 q1 q2 q3 q4 q5;obtain⟨ds,hds,n1,n2⟩:=q2
    have main:LeavesInM Fence.wide 0 X.P fn pn.tmps (λe w'=>∃φ' v',e=.returned v'∧am φ' v v'∧bp X φ' H' w'∧Ext φ H w φ' H' w'∧fu H.n none φ φ') pn.defers .returning w1:=by
     rw[hds,show(({tmps:=args'++Array.replicate (fn.ntmps-args'.size) undef,defers:=[]}:Act).defers)=[]from rfl,Zm];refine zN ds w1 n1 n2 q3 q4 (λw' g3 g4=>?_);obtain⟨v',g1,g2⟩:=K3 g3 q1 hres;exact⟨v',g1,φ1,v',rfl,g2,g3,g4,q5⟩
    rcases hee with rfl|rfl
    .exact main
    trivial
  .exact BZ (n+1)
theorem MJ(hX:Oz X){n:Nat}{f:FuncId}{args:LvQ}{H H':AH}{v:Value}(h:d8 X n f args H=some (v,H')){φ:bJ}{w:World}{args':Array Value}
  (hh:bp X φ H w) (ha:au φ args args'.toList) (h0:∀a,X.orc f a=none) :
  Calls X.P f args' w λe w'=>∃φ' v',e=.returned v'∧am φ' v v'∧bp X φ' H' w'∧Ext φ H w φ' H' w'∧fu H.n none φ φ':=by
 rcases(MK hX n).1 f args H v H' h with⟨g,_⟩|⟨_,g⟩
 .rw[h0]at g;cases g
 .exact g φ w args' hh ha
