/- Lemmas. -/
import Derived.Test.YthjogmhfdpaaaaaGreatDoorQZ
import Derived.Orders
import Derived.Laws.IdiomCopy
import Derived.Laws.MakeOwn
import Derived.LoopN
import Derived.Scope
import Derived.RangeFuncLeaves
import Derived.RangeFuncRecord
import Derived.RangeFuncSeq
import Derived.RangeFuncOwn
import Derived.LoopNIn
import Derived.TacticsIn
import Derived.OrdersIn
set_option linter.unusedVariables false
set_option linter.unusedSimpArgs false
open Option renaming some->Wf,none->Vc
open Bool renaming true->Th,false->SM
open Go renaming Value->vl,FuncId->fI,World->wO,IntKind->iK,Program->pG,Builtin->bU,TypeId->tI,Oper->oR,Operand->oP,Exit->eX,BinOp->bO
open List renaming replicate->So,length->RW
namespace Go.Am
open Go
noncomputable section
variable{b n c l i L L' off k len cap Nd j:Nat}{x c' l' u v' x' i' y':vl}{w' w1 w2 w0:wO}{cs L7 tmps:Array vl}{e t ty:tI}{fz:Nat×Nat}{LT:Act}{s:ByteArray}{P:pG}{d:Option TypeDesc}{f o' hi mx:Option vl}{op:bO}{ox oy:oP}{ts:Array tI}{args GS a2:am}{RC:Option Nat}{dst:Option Tmp}{listed:Array Bool}
structure bv where
 cells:am
 st:Nat
 wr:Bool
 fam:Nat
 start:Nat
 shared:Bool
 exact:Bool
 esz:Nat
 ver:Nat
structure AH where
 n:Nat
 l:List bv
variable{H2 H1:AH}
def AH.get(H:AH)(b:Nat):Option bv:=if b<H.n then H.l[H.n-1-b]? else Vc
def AH.push(H:AH)(x:bv):AH:=⟨H.n+1,x::H.l⟩
def AH.set(H:AH)(b:Nat)(x:bv):AH:=⟨H.n,H.l.set (H.n-1-b) x⟩
def p9(p:Nat->bv->Bool):Nat->List bv->List bv
 |_,[]=>[]
 |n,x::l=>(if p (n-1) x then{x with st:=2,ver:=x.ver+1}else x)::p9 p (n-1) l
def AH.kill(H:AH)(p:Nat->bv->Bool):AH:=⟨H.n,p9 p H.n H.l⟩
def okCell:vl->Bool
 |.agg _|.tuple _=>SM
 |_=>Th
def fresh(b:Nat)(cells:am):bv:={cells,st:=1,wr:=Th,fam:=b,start:=0,shared:=SM,exact:=Th,esz:=1,ver:=1}
def pE:bv:={cells:=[],st:=0,wr:=SM,fam:=0,start:=0,shared:=SM,exact:=Th,esz:=1,ver:=0}
def kT(H:AH)(rid:Option Nat)(cells:am):Option (Nat×AH):=
 match rid with
 |none=>Wf (H.n,H.push (fresh H.n cells))
 | some r=>match H.get r with
  |some x=>if x.st=0∧x.ver=0 then Wf (r,H.set r (fresh r cells))else Vc
  |none=>Vc
def cW(H:AH)(b off n:Nat):Option am:=
 match H.get b with
 |some x=>if x.st=1∧off+n<=RW x.cells then Wf ((x.cells.drop off).take n)else Vc
 |none=>Vc
def kin(b:Nat)(f:Nat)(i:Nat)(x:bv):Bool:=i !=b&&x.fam == f&&x.shared&&x.st == 1
def splice(l:am)(off:Nat)(vs:am):am:=l.take off++vs++l.drop (off+RW vs)
def j6(H:AH)(b off:Nat)(vs:am):Option AH:=
 match H.get b with
 | some x=>
  if x.st=1∧x.wr=Th∧off+RW vs<=RW x.cells∧vs.all okCell=Th then
   Wf ((if x.shared then H.kill (kin b x.fam)else H).set b {x with cells:=splice x.cells off vs,ver:=x.ver+1,shared:=SM})
  else Vc
 |none=>Vc
def pv{α:Type}(P:pG):Sem α->Option α
 |.pure a=>Wf a
 |.program k=>pv P (k P)
 |_=>Vc
mutual
/-- No address in a value. -/
def plain:vl->Bool
 |.pointer (Wf _)|.slice (Wf _) _ _|.map (Wf _)|.chan (Wf _)=>SM
 |.agg ⟨cs⟩|.tuple ⟨cs⟩=>eE cs
 |.iface _ v=>plain v
 |.func fn ⟨x⟩ ⟨y⟩=>(match fn with|.yield _=>SM|_=>Th)&&eE x&&eE y
 |_=>Th
def eE:am->Bool
 |[]=>Th
 |v::l=>plain v&&eE l
end
def ci(P:pG)(t:tI):Option Nat:=(P.info? t).map (·.size)
def fX(P:pG)(t:tI):Option vl:=(P.info? t).bind (·.zero)
def qj(P:pG)(t:tI):Option Nat:=(P.info? t).map (·.bytes)
def abc:vl:=.chan (Wf 0)
structure dh where
 P:pG
 allow:fI->Bool
 glob:Nat->Bool
 orc:fI->am->Option vl
 /-- what an iterator yields:its function,what it has captured,the heap -/
 seq:fI->am->AH->Option (List am)
 seqK:fI->am->AH->am
def dW(l:am)(i:Nat):vl:=List.rec (motive:=λ_=>Nat->vl) (λ_=>undef) (λx _ ih i=>Nat.rec x (λj _=>ih j) i) l i
theorem qd:∀(l:am)(i:Nat),dW l i=l.getD i undef
 |[],_=>rfl
 |_::_,0=>rfl
 | x::l,i+1=>by
  have:=qd l i;trivial
def ev(X:dh)(a:am):oP->vl
 |.tmp t=>dW a t
 |.const v=>v
 |.global g=>if X.glob g then .pointer (Wf ⟨g,0,Vc⟩)else abc
 |.func f=>.func (.func f) #[] #[]
def pY(P:pG)(H:AH)(t:tI)(x:vl):Option vl:=
 match x with
 | .pointer (Wf ⟨b,off,Vc⟩)=>
  match P.underlying t with
  | some (.struct _)|some (.array _ _)=>do
   let n <-ci P t
   let cs <-cW H b off n
   Wf (.agg cs.toArray)
  | some _=>match cW H b off 1 with
   |some [v]=>Wf v
   |_=>Vc
  |none=>Vc
 |_=>Vc
def tj(P:pG)(H:AH)(t:tI)(x v:vl):Option AH:=
 match x,ci P t with
 |.pointer (Wf ⟨b,off,Vc⟩),Wf n=>if v.cells.size=n then j6 H b off v.cells.toList else Vc
 |_,_=>Vc
def B5(a:Addr)(n:Nat):Addr:=⟨a.block,a.off+n,Vc⟩
def BC(P:pG)(t:tI)(x:vl)(f:Nat):Option vl:=
 match P.underlying t,x with
 | some (.struct fs),.pointer (Wf ⟨b,off,Vc⟩)=>match fs[f]? with
  | some fd=>match ci P fd.type with
   |some (_+1)=>Wf (.pointer (Wf ⟨b,off+fd.offset,Vc⟩))
   |_=>Vc
  |none=>Vc
 |_,_=>Vc
def sE(P:pG)(t:tI)(x i:vl):Option vl:=
 match P.underlying t,x,i with
 | some (.slice e),.slice (Wf ⟨b,off,Vc⟩) len _,.int _ k=>match ci P e with
  |some n=>if 0<=k∧k<len then Wf (.pointer (Wf ⟨b,off+k.toNat*n,Vc⟩))else Vc
  |none=>Vc
 | some (.array len e),.pointer (Wf ⟨b,off,Vc⟩),.int _ k=>match ci P e with
  |some n=>if 0<=k∧k<len then Wf (.pointer (Wf ⟨b,off+k.toNat*n,Vc⟩))else Vc
  |none=>Vc
 |_,_,_=>Vc
def AJ(P:pG)(t:tI)(cs:am)(off:Nat):Option vl:=
 match P.underlying t with
 | some (.struct _)|some (.array _ _)=>do
  let n <-ci P t
  Wf (.agg ((cs.drop off).take n).toArray)
 |some _=>cs[off]?
 |none=>Vc
def DW(P:pG)(t:tI)(x:vl)(f:Nat):Option vl:=
 match P.underlying t,x with
 | some (.struct fs),.agg cs=>match fs[f]? with
  |some fd=>AJ P fd.type cs.toList fd.offset
  |none=>Vc
 |_,_=>Vc
def yF(P:pG)(t:tI)(x i:vl):Option vl:=
 match P.underlying t,x,i with
 | some (.array len e),.agg cs,.int _ k=>match ci P e with
  |some n=>if 0<=k∧k<len then AJ P e cs.toList (k.toNat*n)else Vc
  |none=>Vc
 | some .string,.string s,.int _ k=>if 0<=k then match s[k.toNat]? with
  |some b=>Wf (.int .u8 b.toNat)
  |none=>Vc else Vc
 |_,_,_=>Vc
def eW(d:Nat)(top:Nat):Option vl->Option Nat
 |none=>Wf d
 |some (.int _ i)=>if 0<=i∧i<=top then Wf i.toNat else Vc
 |some _=>Vc
def there(H:AH):Option Addr->Bool
 |none=>Th
 | some a=>match H.get a.block with
  |some x=>x.st !=0
  |none=>SM
def sN(H:AH)(n:Nat):Option Addr->Bool
 |none=>Th
 | some a=>match H.get a.block with
  |some x=>x.st !=0&&(x.exact||x.esz == n)
  |none=>SM
def kf(P:pG)(H:AH)(t:tI)(x:vl)(lo hi mx:Option vl):Option vl:=
 match P.underlying t,x with
 | some .string,.string s=>
  if mx.isSome then Vc else do
   let h <-eW s.size s.size hi
   let l <-eW 0 h lo
   Wf (.string (s.extract l h))
 | some (.slice e),.slice a len cap=>do
  let m <-eW cap cap mx
  let h <-(if hi.isNone&&mx.isSome then Vc else eW len m hi)
  let l <-eW 0 h lo
  let n <-ci P e
  if len<=cap∧(a.map (·.spot)).getD Vc=Vc∧(there H a&&(mx.isSome||sN H n a))=Th then Wf (.slice (a.map λa=>B5 a (l*n)) (h-l) (m-l))else Vc
 | some (.array k e),.pointer (Wf ⟨b,off,Vc⟩)=>do
  let m <-eW k k mx
  let h <-(if hi.isNone&&mx.isSome then Vc else eW k m hi)
  let l <-eW 0 h lo
  let n <-ci P e
  Wf (.slice (Wf ⟨b,off+l*n,Vc⟩) (h-l) (m-l))
 |_,_=>Vc
def zb(P:pG)(t:tI)(parts:Array (Nat×vl)):Option vl:=
 match fX P t,P.underlying t with
 | some z,Wf (.struct fs)=>
  if plain z&&fs.all (λf=>(ci P f.type).isSome)then
   (Instr.fill ((fs.map λf=>(f.offset,(ci P f.type).getD 0))[·]?) z.cells parts.toList).map .agg
  else Vc
 | some z,Wf (.array _ e)=>match ci P e with
  |some n=>if plain z then(Instr.fill (λi=>Wf (i*n,n)) z.cells parts.toList).map .agg else Vc
  |none=>Vc
 |_,_=>Vc
def fe(z:am)(n:Nat):am:=(List.range n).map λi=>z.getD (i%(RW z)) undef
def rr(P:pG)(H:AH)(rid:Option Nat)(t:tI)(len:Nat)(parts:Array (Nat×vl)):Option (vl×AH):=
 match P.underlying t with
 | some (.slice e)=>match ci P e,fX P e with
  | some n,Wf z=>
   if plain z∧z.cells.size=n∧0<n∧len*n<=16777216 then
    match Instr.fill (λi=>Wf (i*n,n)) (fe z.cells.toList (len*n)).toArray parts.toList with
    | some cs=>match kT H rid cs.toList with
     |some (b,H')=>Wf (.slice (Wf ⟨b,0,Vc⟩) len len,H')
     |none=>Vc
    |none=>Vc
   else Vc
  |_,_=>Vc
 |_=>Vc
def yi(P:pG)(H:AH)(rid:Option Nat)(t:tI)(l c:vl):Option (vl×AH):=
 match P.underlying t,l,c with
 | some (.slice e),.int _ l,.int _ c=>match ci P e,fX P e,qj P e with
  | some n,Wf z,Wf Nd=>
   if plain z∧z.cells.size=n∧0<n∧0<=l∧l<=c∧(Nd:Int)*c<=281474976710656∧c<=9223372036854775807 then
    match kT H rid (fe z.cells.toList (c.toNat*n))with
    |some (b,H')=>Wf (.slice (Wf ⟨b,0,Vc⟩) l.toNat c.toNat,H')
    |none=>Vc
   else Vc
  |_,_,_=>Vc
 |_,_,_=>Vc
def fH(H:AH)(n:Nat):vl->Option (Nat×am)
 |.slice Vc 0 _=>Wf (0,[])
 |.slice (Wf ⟨b,off,Vc⟩) len _=>if len=0 then Wf (0,[])else(cW H b off (len*n)).map λcs=>(len,cs)
 |.string s=>if n=1 then Wf (s.size,s.data.toList.map λb=>.int .u8 b.toNat)else Vc
 |_=>Vc
def lR(x:bv)(off n:Nat)(cells:am):bv:=
 {cells,st:=1,wr:=Th,fam:=x.fam,start:=x.start+off,shared:=Th,exact:=SM,esz:=n,ver:=1}
def jt(b n:Nat)(cells:am):bv:=
 {cells,st:=1,wr:=Th,fam:=b,start:=0,shared:=SM,exact:=SM,esz:=n,ver:=1}
def beyond(b f pos:Nat)(i:Nat)(x:bv):Bool:=x.fam == f&&(x.shared||i == b)&&x.st == 1&&decide (pos<x.start+RW x.cells)
def eY(P:pG)(H:AH)(n Nd:Nat)(s:vl)(k:Nat)(cs:am):Option (vl×AH):=
 match s with
 | .slice Vc 0 0=>
  if k=0 then Wf (s,H)
  else if k*Nd<=140737488355328 then Wf (.slice (Wf ⟨H.n,0,Vc⟩) k k,H.push (jt H.n n cs))else Vc
 | .slice (Wf ⟨b,off,Vc⟩) len cap=>
  if cap<len then Vc else
  if k=0 then Wf (s,H)else
  if len+k<=cap then match j6 H b (off+len*n) cs with
   |some H'=>Wf (.slice (Wf ⟨b,off,Vc⟩) (len+k) cap,H')
   |none=>Vc
  else if(len+k)*Nd<=140737488355328 then
   match H.get b with
   | some x=>
    if x.st=1∧off+len*n<=RW x.cells then
     let cells:=(x.cells.drop off).take (len*n)++cs
     if x.exact=Th∨(x.esz=n∧off+cap*n<RW x.cells)then Wf (.slice (Wf ⟨H.n,0,Vc⟩) (len+k) (len+k),H.push (jt H.n n cells))
     else if x.wr=Th∧x.esz=n∧off+cap*n=RW x.cells∧cs.all okCell=Th then
      Wf (.slice (Wf ⟨H.n,0,Vc⟩) (len+k) (len+k),
       (((H.set b {x with shared:=Th,ver:=x.ver+1}).kill (beyond b x.fam (x.start+off+len*n))).push (lR x off n cells)))
     else Vc
    else Vc
   |none=>Vc
  else Vc
 |_=>Vc
def En(H:AH):vl->Option Nat
 |.slice Vc _ c=>Wf c
 | .slice (Wf ⟨b,off,Vc⟩) _ c=>match H.get b with
  |some x=>if x.st≠0∧(x.exact=Th∨off+c*x.esz<RW x.cells)then Wf c else Vc
  |none=>Vc
 |_=>Vc
def isNil:vl->Option Bool
 |.slice a _ _=>Wf a.isNone
 |.pointer a=>Wf a.isNone
 |.func ..=>Wf SM
 |.nilFunc=>Wf Th
 |_=>Vc
def kR(d:Option TypeDesc)(x y:vl):Bool:=
 match d,x,y with
 |some (.slice _),.slice ..,.slice ..=>Th
 |some (.pointer _),.pointer _,.pointer _=>Th
 |some (.func ..),.func ..,.nilFunc|some (.func ..),.nilFunc,.func .. |some (.func ..),.nilFunc,.nilFunc=>Th
 |_,_,_=>SM
def Df(P:pG)(op:bO)(t:tI)(x y:vl):Option vl:=
 if kR (P.underlying t) x y then
  match op,isNil x,isNil y with
  |.eql,Wf Th,Wf q=>Wf (.bool q)
  |.eql,Wf q,Wf Th=>Wf (.bool q)
  |.neq,Wf Th,Wf q=>Wf (.bool !q)
  |.neq,Wf q,Wf Th=>Wf (.bool !q)
  |_,_,_=>Vc
 else Vc
def kD(P:pG)(op:bO)(t:tI)(ox oy:oP)(x y:vl):Option vl:=
 if plain x&&plain y then
  match pv P (do eqGuard op t ox oy x y;binOp op t x y)with
  |some r=>if plain r then Wf r else Vc
  |none=>Vc
 else Df P op t x y
def r9(o:Option vl):Option vl:=match o with
 |some r=>if plain r then Wf r else Vc
 |none=>Vc
def Oi:vl->Option UInt8
 |.int .u8 n=>if 0<=n∧n<256 then Wf (UInt8.ofNat n.toNat)else Vc
 |_=>Vc
def bytesOf:am->Option bB
 |[]=>Wf []
 | v::l=>match Oi v,bytesOf l with
  |some b,Wf r=>Wf (b::r)
  |_,_=>Vc
def oz(P:pG)(H:AH)(s d:tI)(x:vl):Option (vl×AH):=
 match P.underlying s,P.underlying d,x with
 | some _,Wf (.slice e),.string str=>match P.underlying e with
  |some (.int .u8)=>Wf (.slice (Wf ⟨H.n,0,Vc⟩) str.size str.size,H.push (jt H.n 1 (str.data.toList.map λb=>.int .u8 b.toNat)))
  |_=>Vc
 | some (.slice e),Wf .string,.slice a len _=>match P.underlying e with
  | some (.int .u8)=>match a with
   |none=>Wf (.string .empty,H)
   | some ⟨b,off,Vc⟩=>match(if len=0 then(if there H (Wf ⟨b,off,Vc⟩)then Wf []else Vc)else cW H b off len)with
    |some cs=>(bytesOf cs).map λl=>(.string ⟨l.toArray⟩,H)
    |none=>Vc
   |_=>Vc
  |_=>Vc
 |_,_,_=>if plain x then(r9 (pv P (convert s d x))).map λr=>(r,H)else Vc
def LG(P:pG)(t:tI)(x:vl):Option vl:=
 match P.underlying t with
 |some (.interface _)|none=>Vc
 |some _=>Wf (.iface t x)
def fK(P:pG)(H:AH)(b:bU)(ts:Array tI)(t:tI)(args:am):Option (vl×AH):=
 match b,args with
 | .len,[x]=>match(ts[0]?).bind P.underlying,x with
  |some .string,.string s=>Wf (.int .i64 s.size,H)
  |some (.slice _),.slice _ n _=>Wf (.int .i64 n,H)
  |some (.array n _),_=>Wf (.int .i64 n,H)
  |_,_=>Vc
 | .cap,[x]=>match(ts[0]?).bind P.underlying with
  |some (.slice _)=>(En H x).map λ(n:Nat)=>(.int .i64 n,H)
  |_=>Vc
 | .append,[s,x]=>match(ts[0]?).bind P.underlying,(ts[1]?).bind P.underlying with
  | some (.slice e),Wf d=>match ci P e,qj P e,fX P e with
   | some n,Wf Nd,Wf z=>
    if n=0∨Nd=0∨z.cells.size≠n then Vc else
    match d,x with
    | .int _,.int _ k=>
     if plain z∧z.cells.size=n∧0<=k∧k*Nd<=140737488355328 then eY P H n Nd s k.toNat (fe z.cells.toList (k.toNat*n))else Vc
    |.int _,_=>Vc
    | _,_=>match fH H n x with
     |some (k,cs)=>eY P H n Nd s k cs
     |none=>Vc
   |_,_,_=>Vc
  |_,_=>Vc
 | .copy,[.slice RC dLen _,src]=>match(ts[0]?).bind P.underlying with
  | some (.slice e)=>match ci P e with
   | some n=>match fH H n src with
    | some (k,cs)=>
     let m:=min k dLen
     match RC with
     |none=>Wf (.int .i64 m,H)
     |some ⟨b,off,Vc⟩=>if m=0 then Wf (.int .i64 m,H)else(j6 H b off (cs.take (m*n))).map λH'=>(.int .i64 m,H')
     |_=>Vc
    |none=>Vc
   |none=>Vc
  |_=>Vc
 | .clear,[.slice RC len _]=>match(ts[0]?).bind P.underlying with
  | some (.slice e)=>match ci P e,fX P e with
   | some n,Wf z=>match RC with
    |none=>Wf (.tuple #[],H)
    |some ⟨b,off,Vc⟩=>if plain z∧z.cells.size=n∧0<n then if len=0 then Wf (.tuple #[],H)else(j6 H b off (fe z.cells.toList (len*n))).map λH'=>(.tuple #[],H')else Vc
    |_=>Vc
   |_,_=>Vc
  |_=>Vc
 |.min,_=>if eE args then(r9 (pv P (bU.min_ ts t args.toArray))).map λr=>(r,H)else Vc
 |.max,_=>if eE args then(r9 (pv P (bU.max_ ts t args.toArray))).map λr=>(r,H)else Vc
 |_,_=>Vc
def dp(X:dh)(rid:Option Nat)(H:AH)(a:am)(o:oR):Option (vl×AH):=
 let P:=X.P
 let e:=ev X a
 match o.op with
 |.move x|.assign x=>Wf (e x,H)
 | .pick c x y=>match e c with
  |.bool t=>Wf (if t then e x else e y,H)
  |_=>Vc
 | .alloc t=>match fX P t with
  | some z=>if plain z then match rid with
   |none=>Wf (.pointer (Wf ⟨H.n,0,Vc⟩),H.push (fresh H.n z.cells.toList))
   |some r=>Wf (.pointer (Wf ⟨r,0,Vc⟩),H)
   else Vc
  |none=>Vc
 |.box _ x=>(kT H rid (e x).cells.toList).map λ(b,H')=>(.pointer (Wf ⟨b,0,Vc⟩),H')
 |.build t ps=>(zb P t (ps.map λ(i,x)=>(i,e x))).map λv=>(v,H)
 |.buildSlice t len ps=>rr P H rid t len (ps.map λ(i,x)=>(i,e x))
 |.load t x=>(pY P H t (e x)).map λv=>(v,H)
 |.store t x y=>(tj P H t (e x) (e y)).map λH'=>(undef,H')
 | .nilCheck x=>match e x with
  |.pointer (Wf p)=>Wf (.pointer (Wf p),H)
  |_=>Vc
 |.binOp op t x y _=>(kD P op t x y (e x) (e y)).map λv=>(v,H)
 |.unOp op _ x=>if plain (e x)then(r9 (pv P (Op.unary op (e x)))).map λv=>(v,H)else Vc
 |.convert s d x=>oz P H s d (e x)
 |.makeInterface t x=>(LG P t (e x)).map λv=>(v,H)
 |.makeFunc (.func f) x y=>Wf (.func (.func f) (x.map e) (y.map e),H)
 |.makeSlice t l c=>yi P H rid t (e l) (e c)
 |.slice t x lo hi mx=>(kf P H t (e x) (lo.map e) (hi.map e) (mx.map e)).map λv=>(v,H)
 |.fieldAddr t x f=>(BC P t (e x) f).map λv=>(v,H)
 |.field t x f=>(DW P t (e x) f).map λv=>(v,H)
 |.indexAddr t x i=>(sE P t (e x) (e i)).map λv=>(v,H)
 |.index t x i=>(yF P t (e x) (e i)).map λv=>(v,H)
 | .extract x i=>match e x with
  |.tuple vs=>(vs[i]?).map λv=>(v,H)
  |_=>Vc
 |.call {callee:=.builtin b,args,argTypes}=>fK P H b argTypes o.type ((args.map e).toList)
 |_=>Vc
def pu(e:oP->vl)(c:Call):Option (fI×am):=
 match c.callee with
 | .value f=>match e f with
  |.func (.func g) first captured=>Wf (g,first.toList++(c.args.map e).toList++captured.toList)
  |_=>Vc
 |_=>Vc
abbrev fW:=fI->am->AH->Option (vl×AH)
def pd:Callee->Bool
 |.builtin _=>Th
 |_=>SM
def iB(X:dh)(cf:fW)(rid:Option Nat)(H:AH)(a:am)(o:oR):Option (vl×AH):=
 match o.op with
 | .call c=>if pd c.callee then dp X rid H a o else
  match pu (ev X a) c with
  |some (g,args)=>cf g args H
  |none=>Vc
 |_=>dp X rid H a o
def dO(a:am)(dst:Option Tmp)(v:vl):am:=
 match dst with
 |some d=>a.set d v
 |none=>a
def jS(RM:Array oR)(a:am)(j:Nat):Option Bool:=
 match((RM[j]?).bind (·.dst)).bind (λt=>a[t]?)with
 |some (.bool b)=>Wf b
 |_=>Vc
def iy(P:pG):Op->Bool
 |.load ..=>Th
 |.convert s _ _=>(match P.underlying s with|some (.slice _)=>Th|_=>SM)
 |_=>SM
def o9:Op->Bool
 |.slice ..=>Th
 |.call {callee:=.builtin .cap,.. }=>Th
 |_=>SM
def ku:Op->Bool
 |.box .. |.buildSlice .. |.makeSlice ..=>Th
 |_=>SM
def eH(P:pG):Op->Bool
 |.store ..=>Th
 |.convert _ d _=>(match P.underlying d with|some (.slice _)=>Th|_=>SM)
 |.call {callee:=.builtin b,.. }=>(match b with|.append|.copy|.clear=>Th|_=>SM)
 |.call _=>Th
 |_=>SM
def oA(P:pG)(RM:Array oR)(i:Nat)(o:oR):Bool:=
 eH P o.op&&RM.toList.zipIdx.any λ(x,j)=>iy P x.op&&j !=i && !((Region.before RM).toList.getD i 0).testBit j && !((Region.before RM).toList.getD j 0).testBit i
def oO:List bv->List bv->Bool
 |x::l,y::m=>x.ver == y.ver&&oO l m
 |[],[]=>Th
 |_,_=>SM
def preB(H H':AH):Bool:=oO H.l (H'.l.drop (H'.n-H.n))
def iY:vl->Option Nat
 |.pointer (Wf a)=>Wf a.block
 |.slice (Wf a) _ _=>Wf a.block
 |_=>Vc
def oI(RM:Array oR)(i j:Nat):Bool:=j !=i && !((Region.before RM).toList.getD i 0).testBit j && !((Region.before RM).toList.getD j 0).testBit i
def nC(RM:Array oR)(t:Tmp):Bool:=RM.toList.any λo=>match o.dst with
 |some d=>Nat.beq d t
 |none=>SM
def sameAt(H H':AH)(v:vl):Bool:=match iY v with
 | some b=>match H.get b,H'.get b with
  |some x,Wf y=>x.ver == y.ver
  |_,_=>SM
 |none=>Th
def vK(RM:Array oR):Nat->Tmp->Option Tmp
 | 0,p=>(match nC RM p with
  |true=>Vc
  |false=>Wf p)
 | n+1,p=>(match nC RM p with
  | true=>(match RM.toList.find? λo=>match o.dst with
    |some d=>Nat.beq d p
    |none=>SM with
   | some o=>(match o.op with
    |.fieldAddr _ (.tmp b) _=>vK RM n b
    |.nilCheck (.tmp b)=>vK RM n b
    |.move (.tmp b)=>vK RM n b
    |_=>Vc)
   |none=>Vc)
  |false=>Wf p)
def qD(RM:Array oR)(p:Tmp):Option Tmp:=vK RM 4 p
def offB(P:pG)(RM:Array oR)(i:Nat)(a:am)(H H':AH):Bool:=
 RM.toList.zipIdx.all λ(x,j)=>!(iy P x.op&&oI RM i j)||match x.op with
  | .load _ (.tmp p)=>(match qD RM p with
   |some b=>sameAt H H' (dW a b)
   |none=>SM)
  |_=>SM
def zu(RM:Array oR):Op->Bool
 |.store ..=>Th
 | .call c=>match c.callee with
  | .builtin .append=>match c.args.toList with
   |.tmp p::_=>nC RM p
   |_=>SM
  |_=>SM
 |_=>SM
def tZ(P:pG)(RM:Array oR):Bool:=RM.toList.zipIdx.any λ(o,i)=>zu RM o.op&&oA P RM i o
def oj(P:pG)(RM:Array oR)(o:oR)(a:am):Bool:=match o.op with
 | .load _ (.tmp p)=>!tZ P RM||(match qD RM p with
  |some b=>decide (iY (dW a p)=iY (dW a b))
  |none=>Th)
 |_=>Th
def sX:Op->Bool
 |.call c=>!pd c.callee
 |_=>SM
def nU(RM:Array oR)(i:Nat)(o:Op):Bool:=sX o&&RM.toList.zipIdx.any λ(x,j)=>ku x.op&&oI RM i j
def rz(X:dh)(B:Nat):Nat->List bv->List bv
 |_,[]=>[]
 |n,x::l=>(if n-1<B∧X.glob (n-1)=Th then{x with wr:=SM,st:=if eE x.cells=Th then x.st else x.st+x.st}else pE)::rz X B (n-1) l
def AH.bare(X:dh)(B:Nat)(H:AH):AH:=⟨H.n,rz X B H.n H.l⟩
def AH.graft(H H':AH):AH:=⟨H'.n,(List.range (H'.n-H.n)).map (λi=>H'.l.getD i pE)++H.l⟩
def jJ(X:dh)(cf:fW)(B:Nat)(H:AH)(a:am)(o:oR):Option (vl×AH):=match o.op with
 | .call c=>match pu (ev X a) c with
  | some (g,args)=>if eE args=Th then match cf g args (H.bare X B)with
   |some (v,H')=>Wf (v,H.graft H')
   |none=>Vc else Vc
  |none=>Vc
 |_=>Vc
def nD(X:dh)(cf:fW)(RM:Array oR)(RC:Option Nat)(i:Nat)(o:oR)(a:am)(H:AH):Option (vl×AH):=
 if RC.isSome&&nU RM i o.op then jJ X cf (RC.getD 0) H a o else iB X cf (RC.map (· + i)) H a o
def gI(X:dh)(cf:fW)(RM:Array oR)(RC:Option Nat)(i:Nat)(o:oR)(a:am)(H:AH):Option (vl×AH):=
 match nD X cf RM RC i o a H with
 |some (v,H')=>if RC.isSome&&(!oj X.P RM o a||oA X.P RM i o && !preB H H' && !(tZ X.P RM&&offB X.P RM i a H H'))then Vc else Wf (v,H')
 |none=>Vc
def dR(X:dh)(cf:fW)(RM:Array oR)(RC:Option Nat)(i:Nat)(o:oR)(a:am)(H:AH):Option (am×AH):=
 if Region.wanted o (jS RM a)then
  match gI X cf RM RC i o a H with
  |some (v,H')=>Wf (dO a o.dst v,H')
  |none=>Vc
 else Wf (dO a o.dst undef,H)
def jL(X:dh)(cf:fW)(RM:Array oR)(RC:Option Nat):Nat->List oR->am->AH->Option (am×AH)
 |_,[],a,H=>Wf (a,H)
 | i,o::rest,a,H=>match dR X cf RM RC i o a H with
  |some (a',H')=>jL X cf RM RC (i+1) rest a' H'
  |none=>Vc
def nu(P:pG)(b:Nat)(o:oR):bv:=
 match o.op with
 | .alloc t=>match fX P t with
  |some z=>fresh b z.cells.toList
  |none=>pE
 |_=>pE
def il(P:pG):List oR->AH->AH
 |[],H=>H
 |o::l,H=>il P l (H.push (nu P H.n o))
def pO(X:dh)(cf:fW)(RM:Array oR)(draw:Bool)(a:am)(H:AH):Option (am×AH):=
 if draw then jL X cf RM (Wf H.n) 0 RM.toList a (il X.P RM.toList H)else jL X cf RM Vc 0 RM.toList a H
abbrev Je:=Option (eX×am×AH)
def putP:List Tmp->am->am->am
 |p::ps,x::xs,a=>putP ps xs (a.set p x)
 |_,_,a=>a
open Classical in
/-- The rounds of a loop over an iterator:what it yields must stay the same. -/
def jV(pre run:am->AH->Je)(sq:AH->Prop)(ps:List Tmp)(a:am):List am->AH->Je
 |[],H=>Wf (.normal,a,H)
 | x::xs,H=>if RW x=RW ps then match pre (putP ps x a) H with
  | some (.normal,a1,H1)=>match run a1 H1 with
   |some (.normal,_,H')=>if sq H' then jV pre run sq ps a xs H' else Vc
   |some (e,_,H')=>Wf (e,a,H')
   |none=>Vc
  |_=>Vc
  else Vc
def cS(X:dh)(cf:fW):Nat->Code->am->AH->Je
 |0,_,_,_=>Vc
 | n+1,c,a,H=>match c with
  |.skip=>Wf (.normal,a,H)
  |.label _=>Wf (.normal,a,H)
  | .region _ RM draw=>match pO X cf RM draw a H with
   |some (a',H')=>Wf (.normal,a',H')
   |none=>Vc
  | .seq x y=>match cS X cf n x a H with
   |some (.normal,a',H')=>cS X cf n y a' H'
   |r=>r
  | .cond x t e=>match ev X a x with
   |.bool Th=>cS X cf n t a H
   |.bool SM=>cS X cf n e a H
   |_=>Vc
  | .block id c=>match cS X cf n c a H with
   |some (.exit j,a',H')=>Wf (if j=id then .normal else .exit j,a',H')
   |r=>r
  | .loop c=>match cS X cf n c a H with
   |some (.normal,a',H')=>cS X cf n (.loop c) a' H'
   |r=>r
  |.exit id=>Wf (.exit id,a,H)
  |.ret=>Wf (.ret,a,H)
  |.scope c=>cS X cf n c a H
  | .rangeFunc g ps asc body=>match ev X a g with
   | .func (.func gf) ⟨[]⟩ ⟨lb⟩=>match X.seq gf lb H with
    |some xs=>jV (λa H=>cS X cf n asc a H) (λa H=>cS X cf n body a H) (λH'=>X.seq gf lb H'=Wf xs∧X.seqK gf lb H'=X.seqK gf lb H) ps.toList a xs H
    |none=>Vc
   |_=>Vc
  |_=>Vc
def rX(P:pG)(H:AH)(a:am):ResultVar->Option vl
 |.tmp t=>Wf (a.getD t undef)
 |.cell x t=>pY P H t (a.getD x undef)
def vL(P:pG)(fn:Func)(a:am)(H:AH):Option vl:=
 match fn.results.toList.mapM (rX P H a)with
 |some [v]=>Wf v
 |some vs=>Wf (.tuple vs.toArray)
 |none=>Vc
def dP(X:dh):Nat->fW
 |0,_,_,_=>Vc
 | n+1,f,args,H=>match X.orc f args with
  |some v=>Wf (v,H)
  | none=>if X.allow f then
   match X.P.funcs[f]? with
   | some fn=>match fn.body with
    | some c=>match cS X (dP X n) n c (args++So (fn.ntmps-RW args) undef) H with
     |some (.normal,a,H')|some (.ret,a,H')=>(vL X.P fn a H').map λv=>(v,H')
     |_=>Vc
    |none=>Vc
   |none=>Vc
  else Vc
def iQ(op:bO)(k:iK)(a:Int)(k':iK)(b:Int):Option vl:=
 match op with
 |.shl=>if b<0 then Vc else Wf (.int k (k.wrap (a*2^(min b.toNat k.bits))))
 |.shr=>if b<0 then Vc else Wf (.int k (a.fdiv (2^(min b.toNat k.bits))))
 | op=>if k≠k' then Vc else match op with
  |.add=>Wf (.int k (k.wrap (a+b)))
  |.sub=>Wf (.int k (k.wrap (a-b)))
  |.mul=>Wf (.int k (k.wrap (a*b)))
  |.quo=>if b=0 then Vc else Wf (.int k (k.wrap (a.tdiv b)))
  |.rem=>if b=0 then Vc else Wf (.int k (a.tmod b))
  |.and=>Wf (.int k (k.wrap (BitVec.ofInt k.bits a&&&BitVec.ofInt k.bits b).toNat))
  |.or=>Wf (.int k (k.wrap (BitVec.ofInt k.bits a|||BitVec.ofInt k.bits b).toNat))
  |.xor=>Wf (.int k (k.wrap (BitVec.ofInt k.bits a ^^^ BitVec.ofInt k.bits b).toNat))
  |.andNot=>Wf (.int k (k.wrap (BitVec.ofInt k.bits a &&& ~~~ BitVec.ofInt k.bits b).toNat))
  |.eql=>Wf (.bool (a == b))
  |.neq=>Wf (.bool (a !=b))
  |.lss=>Wf (.bool (a<b))
  |.leq=>Wf (.bool (a<=b))
  |.gtr=>Wf (.bool (a>b))
  |.geq=>Wf (.bool (a≥b))
  |_=>Vc
theorem ao6(P:pG)(op:bO)(t:tI)(ox oy:oP)(k:iK)(a:Int)(k':iK)(b:Int):
  kD P op t ox oy (.int k a) (.int k' b)=iQ op k a k' b:=by
 unfold kD;simp[plain,Ws,iT]
 have hg:∀op:bO,eqGuard op t ox oy (.int k a) (.int k' b)=pure ():=λop=>by
  cases op<;>rfl
 rw[hg];cases op<;>simp only[iQ,binOp,Op.shift,Op.intArith,Op.intDiv,Op.intBits,Op.intCmp,pure_bind]
 case shl=>by_cases hb:b<0<;>simp[hb,iT,iF]<;>rfl
 case shr=>by_cases hb:b<0<;>simp[hb,iT,iF]<;>rfl
 all_goals by_cases hk:k=k'
 all_goals simp only[hk,ne_eq,not_true_eq_false,not_false_eq_true,iT,iF]
 all_goals first
  |rfl
  |(by_cases hb:b=0<;>simp[hb,iT,iF]<;>rfl)
theorem AH.get_pos{H:AH}(h:b<H.n):H.get b=H.l[H.n-1-b]?:=ip h
theorem AH.get_neg{H:AH}(h:¬b<H.n):H.get b=Vc:=iN h
theorem AH.get_lt{H:AH}{x:bv}(h:H.get b=Wf x):b<H.n:=by grind[get_neg]
@[simp]theorem AH.n_push(H:AH)(x:bv):(H.push x).n=H.n+1:=rfl
@[simp]theorem AH.n_set(H:AH)(b:Nat)(x:bv):(H.set b x).n=H.n:=rfl
@[simp]theorem AH.n_kill(H:AH)(p:Nat->bv->Bool):(H.kill p).n=H.n:=rfl
theorem AH.get_push_new(H:AH)(x:bv):(H.push x).get H.n=Wf x:=by
 rw[AH.get_pos ac]
 show(x::H.l)[H.n+1-1-H.n]?=_
 simp
theorem AH.get_push_old{H:AH}{x:bv}(h:b<H.n):(H.push x).get b=H.get b:=by
 rw[AH.get_pos (H:=H.push x) dE,AH.get_pos h]
 show(x::H.l)[H.n+1-1-b]?=_
 rw[show H.n+1-1-b=(H.n-1-b)+1 by omega,List.getElem?_cons_succ]
theorem AH.get_push{H:AH}{x:bv}(h:b≠H.n):(H.push x).get b=H.get b:=by
 by_cases hb:b<H.n
 .grind[get_push_old]
 .rw[AH.get_neg hb,AH.get_neg dE]
theorem AH.get_set{H:AH}{x y:bv}(h:H.get b=Wf y)(b':Nat):(H.set b x).get b'=if b'=b then Wf x else H.get b':=by
 have hl:=AH.get_lt h;rw[AH.get_pos hl]at h
 have Rg:H.n-1-b<RW H.l:=by
  rcases Zi (H.n-1-b) (RW H.l) with h'|h'
  .exact h'
  .grind
 by_cases hb:b'=b
 .subst hb;rw[ip rfl,AH.get_pos cU]
  show(H.l.set (H.n-1-b') x)[H.n-1-b']?=_
  grind
 .rw[iN hb];by_cases hb':b'<H.n
  .rw[AH.get_pos (H:=H.set b x) cU,AH.get_pos hb']
   show(H.l.set (H.n-1-b) x)[H.n-1-b']?=_
   rw[List.getElem?_set_ne aa]
  .rw[AH.get_neg cU,AH.get_neg hb']
theorem Vb(p:Nat->bv->Bool):∀(l:List bv)(n i:Nat),(p9 p n l)[i]?=(l[i]?).map λx=>if p (n-1-i) x then{x with st:=2,ver:=x.ver+1}else x
 |[],n,i=>by rfl
 |x::l,n,0=>by rfl
 | x::l,n,i+1=>by
  simp[p9,List.getElem?_cons_succ];rw[Vb p l (n-1) i,show n-1-1-i=n-1-(i+1) by omega]
theorem AH.get_kill(H:AH)(p:Nat->bv->Bool)(b:Nat):(H.kill p).get b=(H.get b).map λx=>if p b x then{x with st:=2,ver:=x.ver+1}else x:=by
 by_cases h:b<H.n
 .rw[AH.get_pos (H:=H.kill p) cU,AH.get_pos h]
  show(p9 p H.n H.l)[H.n-1-b]?=_
  rw[Vb,show H.n-1-(H.n-1-b)=b by omega]
 .rw[AH.get_neg cU,AH.get_neg h];rfl
structure Pl where
 c:Nat
 s:Nat
 nc:Nat
 esz:Nat
 top:Nat
 exact:Bool
variable{p:Pl}
abbrev bI:=Nat->Option Pl
variable{φ' φ'' φ1 φ2 φ0:bI}
def abr(p:Pl)(off cap cap':Nat):Prop:=
 cap'=cap∨(p.exact=SM∧off+cap*p.esz=p.nc∧cap<=cap'∧p.s+off+cap'*p.esz<=p.top)
def EG(φ:bI)(a a':Addr):Prop:=a.spot=Vc∧a'.spot=Vc∧∃p,φ a.block=Wf p∧a'.block=p.c∧a'.off=p.s+a.off
def Ca(φ:bI)(a:Addr)(n c:Nat)(a':Addr)(c':Nat):Prop:=
 (a.spot=Vc∧a'.spot=Vc∧∃p,φ a.block=Wf p∧a'.block=p.c∧a'.off=p.s+a.off∧abr p a.off c c')∨(a.spot=Vc∧n=0∧c=0∧c'=0∧∃p,φ a.block=Wf p)
mutual
def aC(φ:bI):vl->vl->Prop
 |.pointer (Wf a),v'=>∃a',v'=.pointer (Wf a')∧EG φ a a'
 |.slice (Wf a) n c,v'=>∃a' c',v'=.slice (Wf a') n c'∧Ca φ a n c a' c'
 |.agg ⟨cs⟩,v'=>∃L7,v'=.agg ⟨L7⟩∧aE φ cs L7
 |.tuple ⟨cs⟩,v'=>∃L7,v'=.tuple ⟨L7⟩∧aE φ cs L7
 |.iface t v,v'=>∃u,v'=.iface t u∧aC φ v u
 |.func fn ⟨x⟩ ⟨y⟩,v'=>(match fn with|.yield _=>False|_=>True)∧∃x' y',v'=.func fn ⟨x'⟩ ⟨y'⟩∧aE φ x x'∧aE φ y y'
 |.chan (Wf _),v'=>∃a,v'=.pointer a
 |.map (Wf _),_=>False
 |v,v'=>v'=v
def aE(φ:bI):am->am->Prop
 |[],l'=>l'=[]
 |v::l,l'=>∃u r,l'=u::r∧aC φ v u∧aE φ l r
end
def gM(φ φ':bI):Prop:=∀b p,φ b=Wf p->φ' b=Wf p
theorem gM.refl(φ:bI):gM φ φ:=λ_ _ h=>h
theorem gM.trans{φ:bI}(h:gM φ φ')(h':gM φ' φ''):gM φ φ'':=λb p hb=>h' b p (h b p hb)
theorem EG.mono{φ:bI}(h:gM φ φ'){a a':Addr}:EG φ a a'->EG φ' a a':=by rintro⟨h1,h2,p,hp,h3,h4⟩;exact⟨h1,h2,p,h _ _ hp,h3,h4⟩
theorem Ca.mono{φ:bI}(h:gM φ φ'){a a':Addr}{c':Nat}:Ca φ a n c a' c'->Ca φ' a n c a' c':=by
 rintro(⟨h1,h2,p,hp,h3,h4⟩|⟨h1,h3,h4,h5,p,hp⟩)
 .exact .inl ⟨h1,h2,p,h _ _ hp,h3,h4⟩
 .exact .inr ⟨h1,h3,h4,h5,p,h _ _ hp⟩
mutual
theorem aC.mono{φ φ':bI}(h:gM φ φ'):∀(v v':vl),aC φ v v'->aC φ' v v'
 | .pointer (Wf a),v',hv=>by
  grind[aC,EG.mono]
 | .slice (Wf a) n c,v',hv=>by
  grind[aC,Ca.mono]
 | .agg ⟨cs⟩,v',hv=>by
  simp[aC]at hv ⊢;obtain⟨L7,e,r⟩:=hv;exact⟨L7,e,aE.mono h cs L7 r⟩
 | .tuple ⟨cs⟩,v',hv=>by
  simp[aC]at hv ⊢;obtain⟨L7,e,r⟩:=hv;exact⟨L7,e,aE.mono h cs L7 r⟩
 | .iface t v,v',hv=>by
  simp[aC]at hv ⊢;obtain⟨u,e,r⟩:=hv;exact⟨u,e,aC.mono h v u r⟩
 | .func fn ⟨x⟩ ⟨y⟩,v',hv=>by
  simp[aC]at hv ⊢;obtain⟨h0,x',y',e,r,q⟩:=hv;exact⟨h0,x',y',e,aE.mono h x x' r,aE.mono h y y' q⟩
 |.chan (Wf _),v',hv=>by trivial
 |.map (Wf _),_,hv=>by trivial
 |.bool _,_,hv=>by trivial
 |.int _ _,_,hv=>by trivial
 |.float _ _,_,hv=>by trivial
 |.complex _ _ _,_,hv=>by trivial
 |.string _,_,hv=>by trivial
 |.pointer Vc,_,hv=>by trivial
 |.slice Vc _ _,_,hv=>by trivial
 |.map Vc,_,hv=>by trivial
 |.chan Vc,_,hv=>by trivial
 |.nilFunc,_,hv=>by trivial
 |.nilIface,_,hv=>by trivial
theorem aE.mono{φ φ':bI}(h:gM φ φ'):∀(l l':am),aE φ l l'->aE φ' l l'
 |[],l',hl=>by trivial
 | v::l,l',hl=>by
  simp[aE]at hl ⊢;obtain⟨u,r,e,hv,hr⟩:=hl;exact⟨u,r,e,aC.mono h v u hv,aE.mono h l r hr⟩
end
mutual
theorem aC.of_plain{φ:bI}:∀(v:vl),plain v=Th->∀v',aC φ v v'↔v'=v
 |.pointer (Wf a),h,_=>by trivial
 |.slice (Wf a) n c,h,_=>by trivial
 | .agg ⟨cs⟩,h,v'=>by
  simp[plain]at h;simp[aC];constructor
  .rintro⟨L7,rfl,r⟩;rw[(aE.of_plain cs h L7).1 r]
  .rintro rfl;exact⟨cs,rfl,(aE.of_plain cs h cs).2 rfl⟩
 | .tuple ⟨cs⟩,h,v'=>by
  simp[plain]at h;simp[aC];constructor
  .rintro⟨L7,rfl,r⟩;rw[(aE.of_plain cs h L7).1 r]
  .rintro rfl;exact⟨cs,rfl,(aE.of_plain cs h cs).2 rfl⟩
 | .iface t v,h,v'=>by
  simp[plain]at h;simp[aC];constructor
  .rintro⟨u,rfl,r⟩;rw[(aC.of_plain v h u).1 r]
  .rintro rfl;exact⟨v,rfl,(aC.of_plain v h v).2 rfl⟩
 | .func fn ⟨x⟩ ⟨y⟩,h,v'=>by
  simp[plain,Z7]at h;simp[aC];constructor
  .rintro⟨_,x',y',rfl,r,q⟩;rw[(aE.of_plain x h.1.2 x').1 r,(aE.of_plain y h.2 y').1 q]
  .rintro rfl;refine⟨?_,x,y,rfl,(aE.of_plain x h.1.2 x).2 rfl,(aE.of_plain y h.2 y).2 rfl⟩
   grind
 |.chan (Wf _),h,_=>by trivial
 |.map (Wf _),h,_=>by trivial
 |.bool _,_,_=>by rfl
 |.int _ _,_,_=>by rfl
 |.float _ _,_,_=>by rfl
 |.complex _ _ _,_,_=>by rfl
 |.string _,_,_=>by rfl
 |.pointer Vc,_,_=>by rfl
 |.slice Vc _ _,_,_=>by rfl
 |.map Vc,_,_=>by rfl
 |.chan Vc,_,_=>by rfl
 |.nilFunc,_,_=>by rfl
 |.nilIface,_,_=>by rfl
theorem aE.of_plain{φ:bI}:∀(l:am),eE l=Th->∀l',aE φ l l'↔l'=l
 |[],_,l'=>by rfl
 | v::l,h,l'=>by
  simp[eE,Z7]at h;simp[aE];constructor
  .rintro⟨u,r,rfl,hv,hr⟩;rw[(aC.of_plain v h.1 u).1 hv,(aE.of_plain l h.2 r).1 hr]
  .rintro rfl;exact⟨v,l,rfl,(aC.of_plain v h.1 v).2 rfl,(aE.of_plain l h.2 l).2 rfl⟩
end
theorem qt{φ:bI}:∀(l l':am),aE φ l l'↔(RW l)=RW l'∧∀(i:Nat)(v v':vl),l[i]?=Wf v->l'[i]?=Wf v'->aC φ v v'
 | [],l'=>by
  grind[aE]
 |v::l,[]=>by simp[aE]
 | v::l,u::r=>by
  simp only[aE,List.length_cons,Nat.add_right_cancel_iff];constructor
  .rintro⟨u',r',e,hv,hr⟩;obtain⟨rfl,rfl⟩:=List.cons.inj e;obtain⟨h1,h2⟩:=(qt l r).1 hr
   grind
  .rintro⟨h1,h2⟩;exact⟨u,r,rfl,h2 0 v u ac ac,(qt l r).2 ⟨h1,λi x x' hx hx'=>h2 (i+1) x x' cU cU⟩⟩
theorem aE.length{φ:bI}{l l':am}(h:aE φ l l'):RW l=RW l':=((qt l l').1 h).1
theorem aE.at{φ:bI}{l l':am}(h:aE φ l l'){v:vl}(hi:l[i]?=Wf v):∃v',l'[i]?=Wf v'∧aC φ v v':=by
 obtain⟨h1,h2⟩:=(qt l l').1 h
 have PJ:i<RW l:=by
  rcases Zi i (RW l) with h'|h'
  .exact h'
  .grind
 have:l'[i]?=Wf l'[i]:=List.getElem?_eq_getElem aa
 grind
theorem aE.none{φ:bI}{l l':am}(h:aE φ l l'){i:Nat}(hi:l[i]?=Vc):l'[i]?=Vc:=by grind[length]
theorem aE.nil(φ:bI):aE φ [] []:=by rfl
theorem aE.cons{φ:bI}{v:vl}{l r:am}(hv:aC φ v u)(h:aE φ l r):aE φ (v::l) (u::r):=by grind[aE]
theorem aE.append{φ:bI}:∀{l l' m m':am},aE φ l l'->aE φ m m'->aE φ (l++m) (l'++m')
 |[],l',m,m',h,hm=>by grind[aE]
 | v::l,l',m,m',h,hm=>by
  simp[aE]at h;obtain⟨u,r,rfl,hv,hr⟩:=h;exact aE.cons hv (aE.append hr hm)
theorem aE.take{φ:bI}(n:Nat){l l':am}(h:aE φ l l'):aE φ (l.take n) (l'.take n):=by grind[qt]
theorem aE.drop{φ:bI}(n:Nat){l l':am}(h:aE φ l l'):aE φ (l.drop n) (l'.drop n):=by grind[qt]
theorem aE.set{φ:bI}{l l':am}(h:aE φ l l')(i:Nat){v v':vl}(hv:aC φ v v'):aE φ (l.set i v) (l'.set i v'):=by
 rw[qt]at h ⊢;refine⟨ae,λj u u' hu hu'=>?_⟩;rw[List.getElem?_set]at hu hu';by_cases hij:i=j
 .subst hij;simp only[iT]at hu hu';split at hu
  .rw[ip aa]at hu'
   grind
  trivial
 grind
theorem aC.undef(φ:bI):aC φ undef undef:=(aC.of_plain _ rfl _).2 rfl
theorem aE.getD{φ:bI}{l l':am}(h:aE φ l l')(i:Nat):aC φ (l.getD i Go.undef) (l'.getD i Go.undef):=by
 simp[List.getD];cases hi:l[i]? with
 |none=>grind[none,aC.undef]
 | some v=>
  obtain⟨v',h1,h2⟩:=h.at hi
  grind
theorem aE.replicate{φ:bI}(n:Nat){v v':vl}(h:aC φ v v'):aE φ (So n v) (So n v'):=by
 induction n with
 |zero=>rfl
 |succ n ih=>grind[cons]
theorem aE.map{φ:bI}{α:Type}{f g:α->vl}(h:∀x,aC φ (f x) (g x)):∀(l:List α),aE φ (l.map f) (l.map g)
 |[]=>aE.nil φ
 |x::l=>aE.cons (h x) (aE.map h l)
theorem aC.okCell{φ:bI}{v v':vl}(h:aC φ v v')(hv:okCell v=Th):v'.oneCell'=Th:=by
 cases v<;>first
  |(simp[Am.okCell]at hv;done)
  |skip
 case pointer a=>cases a<;>simp[aC]at h<;>(try obtain⟨_,rfl,_⟩:=h)<;>(try subst h)<;>rfl
 case slice a _ _=>cases a<;>simp[aC]at h<;>(try obtain⟨_,_,rfl,_⟩:=h)<;>(try subst h)<;>rfl
 case chan a=>cases a<;>simp[aC]at h<;>(try obtain⟨_,rfl⟩:=h)<;>(try subst h)<;>rfl
 case map a=>cases a<;>simp[aC]at h<;>(try subst h)<;>rfl
 case iface t v=>simp[aC]at h;obtain⟨_,rfl,_⟩:=h;rfl
 case func fn x y=>obtain⟨x⟩:=x;obtain⟨y⟩:=y;simp[aC]at h;obtain⟨_,_,_,rfl,_⟩:=h;rfl
 all_goals(simp[aC]at h;subst h;rfl)
theorem aC.cells{φ:bI}{v v':vl}(h:aC φ v v'):aE φ v.cells.toList v'.cells.toList:=by
 cases v with
 | agg cs=>
  obtain⟨cs⟩:=cs;simp[aC]at h;obtain⟨L7,rfl,h⟩:=h;exact h
 |pointer a=>cases a<;>simp[aC]at h<;>(try obtain⟨_,rfl,h⟩:=h)<;>(try subst h)<;>exact aE.cons (by simp only[aC]<;>exact⟨_,rfl,h⟩) (aE.nil φ)
 |slice a _ _=>cases a<;>simp[aC]at h<;>(try obtain⟨_,_,rfl,h⟩:=h)<;>(try subst h)<;>exact aE.cons (by simp only[aC]<;>exact⟨_,_,rfl,h⟩) (aE.nil φ)
 | chan a=>cases a with
  |none=>simp[aC]at h;subst h;exact aE.cons aN (aE.nil φ)
  |some n=>simp[aC]at h;obtain⟨a,rfl⟩:=h;exact aE.cons (by simp[aC]) (aE.nil φ)
 |map a=>cases a<;>simp[aC]at h<;>(try subst h)<;>exact aE.cons aN (aE.nil φ)
 |iface t x=>simp[aC]at h;obtain⟨_,rfl,h⟩:=h;exact aE.cons (by grind[aC]) (aE.nil φ)
 |func fn x y=>obtain⟨x⟩:=x;obtain⟨y⟩:=y;simp[aC]at h;obtain⟨h0,_,_,rfl,h⟩:=h;exact aE.cons (by grind[aC]) (aE.nil φ)
 |tuple x=>obtain⟨x⟩:=x;simp[aC]at h;obtain⟨_,rfl,h⟩:=h;exact aE.cons (by grind[aC]) (aE.nil φ)
 |_=>simp[aC]at h;subst h;exact aE.cons (by simp[aC]) (aE.nil φ)
structure bC(X:dh)(φ:bI)(H:AH)(w:wO):Prop where
 glob:∀g,X.glob g=Th->∃p,φ g=Wf p∧p.c=g∧p.s=0
 dom:∀b p,φ b=Wf p->∃x cs e fz,H.get b=Wf x∧x.st≠0∧RW x.cells=p.nc∧x.exact=p.exact∧x.esz=p.esz∧w.heap[p.c]?=Wf (.cells cs e fz)∧cs.size=p.top∧p.s+p.nc<=p.top
 cell:∀b p x (i:Nat) (v:vl),φ b=Wf p->H.get b=Wf x->x.st=1->x.cells[i]?=Wf v->∃v',w.cell? ⟨p.c,p.s+i,Vc⟩=Wf v'∧aC φ v v'
 frz:∀b p x (i:Nat),φ b=Wf p->H.get b=Wf x->x.wr=Th->i<p.top->w.frozen? ⟨p.c,i,Vc⟩=SM
 sep:∀b b' p p' x x',φ b=Wf p->φ b'=Wf p'->H.get b=Wf x->H.get b'=Wf x'->x.st=1->x'.st=1->b≠b'->p.c=p'.c ->
  (x.wr=SM∧x'.wr=SM)∨(x.fam=x'.fam∧x.shared=Th∧x'.shared=Th∧p.s+x'.start=p'.s+x.start)
def Over(φ:bI)(H:AH)(c:Nat):Prop:=∃b p x,φ b=Wf p∧p.c=c∧H.get b=Wf x∧x.st=1∧x.wr=Th
structure cD(φ:bI)(H:AH)(w:wO)(φ':bI)(H':AH)(w':wO):Prop where
 le:gM φ φ'
 size:w.heap.size<=w'.heap.size
 frame:∀c,c<w.heap.size->¬Over φ H c->w'.heap[c]?=w.heap[c]?
 new:∀b p,φ' b=Wf p->φ b=Vc->w.heap.size<=p.c∨Over φ H p.c
 back:∀b p x',φ b=Wf p->H'.get b=Wf x'->x'.st=1->x'.wr=Th->∃x,H.get b=Wf x∧x.st=1∧x.wr=Th
 abs:∀b x,φ' b=Vc->H.get b=Wf x->x.shared=SM->x.st≠0->H'.get b=Wf x
 os:w'.os=w.os
 out:w'.output=w.output
def cY(L:Nat)(r:Option Nat)(φ φ':bI):Prop:=∀b p,φ' b=Wf p->φ b=Vc->L<=b∨r=Wf b
theorem cY.refl(L:Nat)(r:Option Nat)(φ:bI):cY L r φ φ:=λb p h h'=>(by grind)
theorem cY.trans{φ:bI}(h:cY L Vc φ φ')(h':cY L' Vc φ' φ'')(hl:L<=L'):cY L Vc φ φ'':=λb p hb hn=>by
  cases hb':φ' b with
  | none => rcases h' b p hb hb' with g|g
            · omega
            · cases g
  |some q=>exact h b q hb' hn
theorem cD.refl(φ:bI)(H:AH)(w:wO):cD φ H w φ H w:=
 ⟨gM.refl φ,Z8 _,λ_ _ _=>rfl,λb p h h'=>(by grind),λ_ _ x' _ h h1 h2=>⟨x',h,h1,h2⟩,λ_ _ _ h _ _=>h,rfl,rfl⟩
theorem cD.over{φ:bI}{H:AH}{w:wO}{H':AH}(h:cD φ H w φ' H' w')(hc:c<w.heap.size):Over φ' H' c->Over φ H c:=by
 rintro⟨b,p,x,hp,rfl,hx,h1,h2⟩;cases hb:φ b with
 | none=>
  rcases h.new b p hp hb with hs|ho
  .omega
  omega
 | some q=>
  have:=h.le b q hb;rw[hp]at this;cases this;obtain⟨y,hy,y1,y2⟩:=h.back b p x hb hx h1 h2;exact⟨b,p,y,hb,rfl,hy,y1,y2⟩
theorem cD.trans{φ:bI}{H:AH}{w:wO}{φ':bI}{H':AH}{w':wO}{φ'':bI}{H'':AH}{w'':wO}
  (h:cD φ H w φ' H' w') (h':cD φ' H' w' φ'' H'' w''):cD φ H w φ'' H'' w'' where
 os:=h'.os.trans h.os
 out:=h'.out.trans h.out
 le:=h.le.trans h'.le
 size:=Z1 h.size h'.size
 frame c hc ho:=by
  rw[h'.frame c (Z0 hc h.size) (λo=>ho (h.over hc o)),h.frame c hc ho]
 new b p hp hn:=by
  cases hb:φ' b with
  | none=>
   rcases h'.new b p hp hb with hs|ho
   .exact .inl (Z1 h.size hs)
   .by_cases hc:p.c<w.heap.size
    .grind[over]
    .exact .inl aa
  | some q=>
   have:=h'.le b q hb;rw[hp]at this;cases this;exact h.new b p hb hn
 back b p x' hp hx h1 h2:=by
  obtain⟨y,hy,y1,y2⟩:=h'.back b p x' (h.le b p hp) hx h1 h2
  grind[back]
 abs b x hn hx h1 h2:=by
  have:φ' b=Vc:=by
   cases hb:φ' b with
   |none=>rfl
   |some q=>rw[h'.le b q hb]at hn;cases hn
  grind[abs]
theorem bC.same_heap{X:dh}{φ:bI}{H:AH}{w:wO}(h:bC X φ H w)(e:w'.heap=w.heap):bC X φ H w' where
 glob:=h.glob
 dom b p hp:=by rw[e];exact h.dom b p hp
 cell b p x i v hp hx h1 hv:=by
  have:w'.cell?=w.cell?:=by funext a;simp[wO.cell?,e]
  rw[this];grind[cell]
 frz b p x i hp hx h1 hi:=by
  have:w'.frozen?=w.frozen?:=by funext a;simp[wO.frozen?,e]
  rw[this];grind[frz]
 sep:=h.sep
theorem cD.same_heap{φ:bI}{H:AH}{w:wO}(e:w'.heap=w.heap)(e1:w'.os=w.os:=by rfl)(e2:w'.output=w.output:=by rfl):cD φ H w φ H w' where
 os:=e1
 out:=e2
 le:=gM.refl φ
 size:=by grind
 frame _ _ _:=by rw[e]
 new b p h h':=by grind
 back _ _ x' _ h h1 h2:=⟨x',h,h1,h2⟩
 abs _ _ _ h _ _:=h
structure Wk(H H':AH):Prop where
 to:∀b x,H.get b=Wf x->∃x',H'.get b=Wf x'∧x'.cells=x.cells∧x'.wr=x.wr∧x'.fam=x.fam∧x'.start=x.start∧x'.exact=x.exact∧x'.esz=x.esz∧(x'.st=x.st∨(x.st=1∧x'.st=2))∧(x.shared=Th->x'.shared=Th)
theorem Wk.trans{H H' H'':AH}(h:Wk H H')(h':Wk H' H''):Wk H H'':=⟨λb x hx=>by
 obtain⟨y,hy,e1,e2,e3,e4,e5,e6,e7,e8⟩:=h.to b x hx;obtain⟨z,hz,f1,f2,f3,f4,f5,f6,f7,f8⟩:=h'.to b y hy;refine⟨z,hz,f1.trans e1,f2.trans e2,f3.trans e3,f4.trans e4,f5.trans e5,f6.trans e6,?_,λhs=>f8 (e8 hs)⟩;rcases e7 with e|⟨e,e'⟩<;>rcases f7 with f|⟨f,f'⟩
 .omega
 .omega
 .omega
 .omega⟩
theorem Wk.kill(H:AH)(p:Nat->bv->Bool)(hp:∀b x,p b x=Th->x.st=1):Wk H (H.kill p):=⟨λb x hx=>by
 grind[AH.get_kill]⟩
theorem bC.weaken{X:dh}{φ:bI}{H H':AH}{w:wO}(h:bC X φ H w)(k:Wk H H'):bC X φ H' w:=by
 have key:∀b p x',φ b=Wf p->H'.get b=Wf x'->∃x,H.get b=Wf x∧x'.cells=x.cells∧x'.wr=x.wr∧x'.fam=x.fam∧x'.start=x.start∧(x'.st=1->x.st=1)∧(x.shared=Th->x'.shared=Th):=by
  intro b p x' hp hx';obtain⟨x,_,_,_,hx,_⟩:=h.dom b p hp;obtain⟨y,hy,e1,e2,e3,e4,e5,e6,e7,e8⟩:=k.to b x hx;rw[hx']at hy;cases hy;exact⟨x,hx,e1,e2,e3,e4,λh1=>by rcases e7 with e|⟨e,_⟩<;>omega,e8⟩
 refine⟨h.glob,?_,?_,?_,?_⟩
 .intro b p hp;obtain⟨x,cs,e,fz,hx,h1,h2,h3,h4,h5⟩:=h.dom b p hp;obtain⟨y,hy,e1,e2,e3,e4,e5,e6,e7,e8⟩:=k.to b x hx;exact⟨y,cs,e,fz,hy,by rcases e7 with e'|⟨_,e'⟩<;>omega,ae,ae,aa,h5⟩
 .grind[cell]
 .grind[frz]
 .intro b b' p p' x x' hp hp' hx hx' h1 h1' MT hc;obtain⟨y,hy,e1,e2,e3,e4,e5,e6⟩:=key b p x hp hx;obtain⟨y',hy',f1,f2,f3,f4,f5,f6⟩:=key b' p' x' hp' hx';rcases h.sep b b' p p' y y' hp hp' hy hy' (e5 h1) (f5 h1') MT hc with⟨g1,g2⟩|⟨g1,g2,g3,g4⟩
  .grind
  grind
theorem cD.weaken{φ:bI}{H H':AH}{w:wO}(hd:∀b p,φ b=Wf p->∃x,H.get b=Wf x)(k:Wk H H')(ka:∀b x,φ b=Vc->H.get b=Wf x->x.shared=SM->H'.get b=Wf x):cD φ H w φ H' w where
 os:=rfl
 out:=rfl
 le:=gM.refl φ
 size:=Z8 _
 frame _ _ _:=rfl
 new b p h h':=by grind
 back b p x' hp hx' h1 h2:=by
  obtain⟨x,hx⟩:=hd b p hp;obtain⟨y,hy,e1,e2,e3,e4,e5,e6,e7,e8⟩:=k.to b x hx;rw[hx']at hy;cases hy;exact⟨x,hx,by rcases e7 with e|⟨e,_⟩<;>omega,e2▸h2⟩
 abs b x hn hx h1 _:=ka b x hn hx h1
def nM(φ:bI)(b:Nat)(p:Pl):bI:=λi=>if i=b then Wf p else φ i
theorem kI(φ:bI)(b:Nat)(p:Pl):nM φ b p b=Wf p:=by simp[nM]
theorem jC{φ:bI}(h:i≠b):nM φ b p i=φ i:=by simp[nM,h]
theorem gM.add{φ:bI}(h:φ b=Vc):gM φ (nM φ b p):=λi q hi=>by
 grind[jC]
theorem aoz{w:wO}(h:w.heap[c]?=Wf (.cells cs e fz)):w.cell? ⟨c,i,Vc⟩=cs[i]?:=by simp[wO.cell?,h]
theorem heap_alloc_new(w:wO)(o:Obj):(w.alloc o).heap[w.heap.size]?=Wf o:=by
 show(w.heap.push o)[w.heap.size]?=Wf o
 simp
theorem heap_alloc_old{w:wO}{o:Obj}(h:c<w.heap.size):(w.alloc o).heap[c]?=w.heap[c]?:=by
 show(w.heap.push o)[c]?=w.heap[c]?
 grind
theorem lt_of_heap{w:wO}{o:Obj}(h:w.heap[c]?=Wf o):c<w.heap.size:=by grind
theorem bC.lt{X:dh}{φ:bI}{H:AH}{w:wO}(h:bC X φ H w)(hp:φ b=Wf p):p.c<w.heap.size:=by
 obtain⟨_,_,_,_,_,_,_,_,_,h5,_⟩:=h.dom b p hp
 grind
theorem bC.newF{X:dh}{φ:bI}{H H':AH}{w:wO}(h:bC X φ H w){b:Nat}{x:bv}(hb:φ b=Vc)
  (hx:H'.get b=Wf x) (ho:∀i,i≠b->H'.get i=H.get i) (DB:x.st=1) {cs:Array vl} {e:tI} (fz:Nat×Nat) (hfz:∀i,i<cs.size->¬(fz.1<=i∧i<fz.2))
  (hl:RW x.cells<=cs.size) (hr:∀(i:Nat)(v:vl),x.cells[i]?=Wf v->∃v',cs[i]?=Wf v'∧aC φ v v') :
  bC X (nM φ b ⟨w.heap.size,0,x.cells.length,x.esz,cs.size,x.exact⟩) H' (w.alloc (.cells cs e fz)) ∧
  cD φ H w (nM φ b ⟨w.heap.size,0,x.cells.length,x.esz,cs.size,x.exact⟩) H' (w.alloc (.cells cs e fz)):=by
 have Fm:gM φ (nM φ b ⟨w.heap.size,0,x.cells.length,x.esz,cs.size,x.exact⟩):=gM.add hb;have MT:∀{i p},φ i=Wf p->i≠b:=λhi e=>by grind
 refine⟨⟨?_,?_,?_,?_,?_⟩,⟨Fm,ac,?_,?_,?_,?_,rfl,rfl⟩⟩
 .intro g hg;obtain⟨p,hp,h1⟩:=h.glob g hg;exact⟨p,Fm g p hp,h1⟩
 .intro i p hp;by_cases e':i=b
  .subst e';rw[kI]at hp;cases hp;exact⟨x,cs,e,fz,hx,aa,rfl,rfl,rfl,heap_alloc_new w _,rfl,ae⟩
  .rw[jC e']at hp;obtain⟨y,L7,e2,fz,h0,h1,h2,h3,h4,h5,h6⟩:=h.dom i p hp
   grind[heap_alloc_old]
 .intro i p y k v hp hy h1 hv;by_cases e':i=b
  .subst e';rw[kI]at hp;cases hp
   grind[aoz,heap_alloc_new,aC.mono]
  .rw[jC e']at hp;rw[ho i e']at hy;obtain⟨v',hv',hr'⟩:=h.cell i p y k v hp hy h1 hv;exact⟨v',by rw[wO.cell?_alloc_lt _ _ _ (h.lt hp)];omega,aC.mono Fm v v' hr'⟩
 .intro i p y k hp hy h1 hk;by_cases e':i=b
  .grind[kI,wO.frozen?,heap_alloc_new]
  .rw[jC e']at hp;rw[ho i e']at hy;rw[wO.frozen?_alloc_old _ _ _ (Nat.ne_of_lt (h.lt hp))]
   grind[frz]
 .intro i i' p p' y y' hp hp' hy hy' h1 h1' hne' hc;by_cases e1:i=b
  .subst e1;rw[kI]at hp;cases hp;have e2:i'≠i:=λe=>hne' e.symm
   rw[jC e2]at hp';have:=h.lt hp'
   grind
  .by_cases e2:i'=b
   .subst e2;rw[kI]at hp';cases hp';rw[jC e1]at hp;have:=h.lt hp
    grind
   grind[jC,sep]
 .grind[heap_alloc_old]
 .grind[kI,jC]
 .grind
 grind[kI]
theorem bC.new{X:dh}{φ:bI}{H H':AH}{w:wO}(h:bC X φ H w){b:Nat}{x:bv}(hb:φ b=Vc)
  (hx:H'.get b=Wf x) (ho:∀i,i≠b->H'.get i=H.get i) (DB:x.st=1) {cs:Array vl} {e:tI}
  (hl:RW x.cells<=cs.size) (hr:∀(i:Nat)(v:vl),x.cells[i]?=Wf v->∃v',cs[i]?=Wf v'∧aC φ v v') :
  bC X (nM φ b ⟨w.heap.size,0,x.cells.length,x.esz,cs.size,x.exact⟩) H' (w.alloc (.cells cs e)) ∧
  cD φ H w (nM φ b ⟨w.heap.size,0,x.cells.length,x.esz,cs.size,x.exact⟩) H' (w.alloc (.cells cs e)):=
 h.newF hb hx ho DB (0,0) (λ_ _=>by simp) hl hr
theorem heap_setCell_other{w:wO}{a:Addr}{v:vl}(h:c≠a.block):(w.setCell a v).heap[c]?=w.heap[c]?:=by grind[wO.setCell]
theorem heap_setCell_same{w:wO}{o:Nat}{v:vl}(h:w.heap[b]?=Wf (.cells cs e fz)):
  (w.setCell ⟨b,o,Vc⟩ v).heap[b]?=Wf (.cells (cs.setIfInBounds o v) e fz):=by grind[wO.setCell]
theorem heap_setCells_other{b c:Nat}(h:c≠b):∀(vs:am)(o:Nat)(w:wO),(w.setCells b o vs).heap[c]?=w.heap[c]?
 |[],_,_=>rfl
 |v::r,o,w=>by rw[wO.setCells,heap_setCells_other h r,heap_setCell_other aa]
theorem DR{b:Nat}{e:tI}{fz:Nat×Nat}:∀(vs:am)(o:Nat)(w:wO)(cs:Array vl),w.heap[b]?=Wf (.cells cs e fz) ->
  ∃L7,(w.setCells b o vs).heap[b]?=Wf (.cells L7 e fz)∧L7.size=cs.size
 |[],_,_,cs,h=>⟨cs,h,rfl⟩
 | v::r,o,w,cs,h=>by
  obtain⟨L7,h1,h2⟩:=DR r (o+1) _ _ (heap_setCell_same (o:=o) (v:=v) h);exact⟨L7,h1,ae⟩
theorem size_setCells(b:Nat):∀(vs:am)(o:Nat)(w:wO),(w.setCells b o vs).heap.size=w.heap.size
 |[],_,_=>rfl
 |v::r,o,w=>by rw[wO.setCells,size_setCells b r,wO.size_setCell]
theorem os_setCells(b:Nat):∀(vs:am)(o:Nat)(w:wO),(w.setCells b o vs).os=w.os
 |[],_,_=>rfl
 |v::r,o,w=>by rw[wO.setCells,os_setCells b r];rfl
theorem K7(b:Nat):∀(vs:am)(o:Nat)(w:wO),(w.setCells b o vs).output=w.output
 |[],_,_=>rfl
 |v::r,o,w=>by rw[wO.setCells,K7 b r];rfl
theorem cell_of_heap{w:wO}(h:w.heap[c]?=Wf (.cells cs e fz)):w.cell? ⟨c,i,Vc⟩=cs[i]?:=by simp[wO.cell?,h]
theorem ad2(l:am)(off:Nat)(vs:am)(h:off+RW vs<=RW l)(i:Nat):
  (splice l off vs)[i]?=if i<off then l[i]? else if i<off+RW vs then vs[i-off]? else l[i]?:=by
 unfold splice;rw[List.append_assoc,List.getElem?_append];have PJ:RW (l.take off)=off:=by simp;omega
 rw[PJ];by_cases h1:i<off
 .rw[ip h1,ip h1,List.getElem?_take_of_lt h1]
 .rw[iN h1,iN h1,List.getElem?_append];by_cases h2:i<off+RW vs
  .rw[ip aa,ip h2]
  .rw[iN aa,iN h2,List.getElem?_drop]
   grind
theorem JU(l:am)(off:Nat)(vs:am)(h:off+RW vs<=RW l):RW (splice l off vs)=RW l:=by grind[splice]
theorem bC.write{X:dh}{φ:bI}{H H':AH}{w:wO}(h:bC X φ H w){b off:Nat}{vs vs':am}(hw:j6 H b off vs=Wf H')
  {p:Pl} (hp:φ b=Wf p) (hv:aE φ vs vs') :
  bC X φ H' (w.setCells p.c (p.s+off) vs')∧cD φ H w φ H' (w.setCells p.c (p.s+off) vs') ∧
  (∀j,j<RW vs'->(w.cell? ⟨p.c,p.s+off+j,Vc⟩).isSome=Th)∧(∀j,j<RW vs'->w.frozen? ⟨p.c,p.s+off+j,Vc⟩=SM)∧(∀v∈vs',v.oneCell'=Th):=by
 obtain⟨x,cs,e,fz,hx,h1,h2,h3,h4,h5,h6,h7⟩:=h.dom b p hp;unfold j6 at hw;rw[hx]at hw;simp only at hw;split at hw
 case isFalse=>cases hw
 case isTrue hc=>
 obtain⟨c1,c2,c3,c4⟩:=hc;cases hw;have Rg:=hv.length
 have hsome:∀j,j<RW vs'->(w.cell? ⟨p.c,p.s+off+j,Vc⟩).isSome=Th:=by
  intro j hj;rw[cell_of_heap h5,Array.getElem?_eq_getElem aa];rfl
 have hfz:∀j,j<RW vs'->w.frozen? ⟨p.c,p.s+off+j,Vc⟩=SM:=λj hj=>h.frz b p x _ hp hx c2 aa
 have hone:∀v∈vs',v.oneCell'=Th:=by
  intro v hvm;obtain⟨j,hj,rfl⟩:=Wi hvm;have hj':j<RW vs:=aa;have hr:=((qt vs vs').1 hv).2 j vs[j] vs'[j] (List.getElem?_eq_getElem hj') (List.getElem?_eq_getElem hj);exact hr.okCell (Zz.1 c4 _ (X2 hj'))
 -- the heap behind the kill
 have hkill:∀(i:Nat),i≠b->((if x.shared then H.kill (kin b x.fam)else H).set b {x with cells:=splice x.cells off vs,ver:=x.ver+1,shared:=SM}).get i =
   (H.get i).map λy=>if x.shared&&kin b x.fam i y then{y with st:=2,ver:=y.ver+1}else y:=by
  intro i hi;cases hs:x.shared with
  | false=>
   grind[AH.get_set,AH.get]
  | true=>
   simp[iT,X9];have hxk:∃y,(H.kill (kin b x.fam)).get b=Wf y:=by rw[AH.get_kill,hx];exact⟨_,rfl⟩
   grind[AH.get_set,AH.get_kill]
 have hself:((if x.shared then H.kill (kin b x.fam)else H).set b {x with cells:=splice x.cells off vs,ver:=x.ver+1,shared:=SM}).get b=Wf {x with cells:=splice x.cells off vs,ver:=x.ver+1,shared:=SM}:=by
  have hxk:∃y,(if x.shared then H.kill (kin b x.fam)else H).get b=Wf y:=by
   split
   .grind[AH.get_kill]
   .grind
  obtain⟨y,hy⟩:=hxk;rw[AH.get_set hy,ip rfl]
 -- what another block is,in H
 have hother:∀i y',i≠b->((if x.shared then H.kill (kin b x.fam)else H).set b {x with cells:=splice x.cells off vs,ver:=x.ver+1,shared:=SM}).get i=Wf y' ->
   ∃y,H.get i=Wf y∧y'.cells=y.cells∧y'.wr=y.wr∧y'.fam=y.fam∧y'.start=y.start∧y'.exact=y.exact∧y'.esz=y.esz∧y'.shared=y.shared∧(y'.st=1->y.st=1∧(x.shared&&kin b x.fam i y)=SM)∧(y.st≠0->y'.st≠0):=by
  intro i y' hi hy';rw[hkill i hi]at hy';cases hy:H.get i with
  |none=>grind
  | some y=>
   rw[hy]at hy';simp only[Option.map_some,Z9]at hy';subst hy';by_cases hk:(x.shared&&kin b x.fam i y)=Th
   .simp only[hk,iT];exact⟨y,rfl,rfl,rfl,rfl,rfl,rfl,rfl,rfl,λh=>by omega,λ_=>by simp⟩
   grind
 -- a live block beside b lies over another block of the world
 have hapart:∀i q y,i≠b->φ i=Wf q->H.get i=Wf y->y.st=1->(x.shared&&kin b x.fam i y)=SM->q.c≠p.c:=by
  intro i q y hi hq hy hy1 hk hc;rcases h.sep b i p q x y hp hq hx hy c1 hy1 (λe=>hi e.symm) hc.symm with⟨g,_⟩|⟨g1,g2,g3,_⟩
  .grind
  .grind[kin]
 refine⟨⟨h.glob,?_,?_,?_,?_⟩,⟨gM.refl φ,by simp[size_setCells],?_,λi q hi hn=>(by grind),?_,?_,os_setCells ..,K7 ..⟩,hsome,hfz,hone⟩
 .intro i q hq;by_cases hi:i=b
  .subst hi;rw[hp]at hq;cases hq;obtain⟨L7,g1,g2⟩:=DR vs' (p.s+off) w cs h5;exact⟨_,L7,e,fz,hself,h1,by grind[JU],h3,h4,g1,aa,h7⟩
  .obtain⟨y,cs2,e2,fz2,y1,y2,y3,y4,y5,y6,y7,y8⟩:=h.dom i q hq;have hz:=hkill i hi;rw[y1]at hz;simp only[Option.map_some]at hz;generalize hy':(if(x.shared&&kin b x.fam i y)=Th then{y with st:=2,ver:=y.ver+1}else y)=y' at hz
   have F:y'.st≠0∧y'.cells=y.cells∧y'.exact=y.exact∧y'.esz=y.esz:=by
    subst hy';by_cases hk:(x.shared&&kin b x.fam i y)=Th
    .rw[ip hk];exact⟨ac,rfl,rfl,rfl⟩
    .grind
   obtain⟨F1,F2,F3,F4⟩:=F;by_cases hc:q.c=p.c
   .rw[hc]at y6;obtain⟨L7,g1,g2⟩:=DR vs' (p.s+off) w cs2 y6;exact⟨y',L7,e2,fz2,hz,F1,ae,ae,aa,ae,aa,y8⟩
   grind[heap_setCells_other]
 .intro i q y' k v hq hy' DB hv';by_cases hi:i=b
  .subst hi;rw[hp]at hq;cases hq;rw[hself]at hy';cases hy';simp only at hv';rw[ad2 _ _ _ c3]at hv';by_cases k1:k<off
   .grind[cell,wO.cell?_setCells_out]
   .rw[iN k1]at hv';by_cases k2:k<off+RW vs
    .rw[ip k2]at hv';have hj:k-off<RW vs':=aa
     grind[wO.cell?_setCells_in,qt]
    grind[cell,wO.cell?_setCells_out]
  grind[cell,wO.cell?_setCells_out]
 .grind[wO.frozen?_setCells,frz]
 .intro i i' q q' y y' hq hq' hy hy' DB hst' MT hc;by_cases hi:i=b
  .grind
  .by_cases DE:i'=b
   .grind
   .obtain⟨z,hz,_,a2,a3,a4,_,_,a7,a8,_⟩:=hother i y hi hy;obtain⟨z',hz',_,b2,b3,b4,_,_,b7,b8,_⟩:=hother i' y' DE hy';rcases h.sep i i' q q' z z' hq hq' hz hz' (a8 DB).1 (b8 hst').1 MT hc with⟨g1,g2⟩|⟨g1,g2,g3,g4⟩
    .grind
    grind
 .intro c hc ho;refine heap_setCells_other (λe=>ho ⟨b,p,x,hp,e.symm,hx,c1,c2⟩) _ _ _
 .grind
 .intro i y hn hy hs _;have hi:i≠b:=λe=>by grind
  rw[hkill i hi,hy];have:(x.shared&&kin b x.fam i y)=SM:=by simp[kin,hs]
  grind
theorem bC.read{X:dh}{φ:bI}{H:AH}{w:wO}(h:bC X φ H w){cs:am}(hr:cW H b off n=Wf cs)(hp:φ b=Wf p):
  ∃L7,aE φ cs L7∧RW L7=n∧RW cs=n∧∀(j:Nat)(v:vl),L7[j]?=Wf v->w.cell? (Addr.add ⟨p.c,p.s+off,Vc⟩ j)=Wf v:=by
 obtain⟨x,cs0,e,fz,hx,h1,h2,h3,h4,h5,h6,h7⟩:=h.dom b p hp;unfold cW at hr;rw[hx]at hr;simp only at hr;split at hr
 case isFalse=>cases hr
 case isTrue hc=>
 obtain⟨c1,c2⟩:=hc;cases hr;refine⟨(cs0.toList.drop (p.s+off)).take n,?_,ae,ae,?_⟩
 .rw[qt];refine⟨ae,λj v v' hv hv'=>?_⟩;rw[List.getElem?_take]at hv hv';split at hv
  .rw[ip aa]at hv';rw[List.getElem?_drop]at hv hv';obtain⟨u,g1,g2⟩:=h.cell b p x _ v hp hx c1 hv;rw[cell_of_heap h5]at g1;rw[show p.s+off+j=p.s+(off+j) by omega]at hv'
   grind
  trivial
 .intro j v hv;rw[List.getElem?_take]at hv;split at hv
  .rw[List.getElem?_drop,Array.getElem?_toList]at hv;have:Addr.add ⟨p.c,p.s+off,Vc⟩ j=⟨p.c,p.s+off+j,Vc⟩:=by unfold Addr.add;split<;>simp_all
   grind[cell_of_heap]
  trivial
theorem AC{α:Type}(P:pG):∀(s:Sem α)(a:α),pv P s=Wf a->∀w:wO,s.run P w=.ok a w
 |.pure a,b,h,w=>by simp_all[pv]
 |.program k,b,h,w=>by simp[pv]at h;exact AC P (k P) b h w
 |.load _ _ _,_,h,_=>by trivial
 |.store _ _ _ _,_,h,_=>by trivial
 |.new _ _,_,h,_=>by trivial
 |.shape _ _,_,h,_=>by trivial
 |.freeze _ _ _,_,h,_=>by trivial
 |.frozen _ _,_,h,_=>by trivial
 |.getObj _ _,_,h,_=>by trivial
 |.setObj _ _ _,_,h,_=>by trivial
 |.choose _ _,_,h,_=>by trivial
 |.sys _ _,_,h,_=>by trivial
 |.mark _ _,_,h,_=>by trivial
 |.halt _,_,h,_=>by trivial
def tU:oP->Bool
 |.const v=>plain v
 |_=>Th
variable{X:dh}{φ:bI}{H:AH}{w:wO}
theorem dC(h:bC X φ H w){a:am}(ha:aE φ a LT.tmps.toList){x:oP}(hx:tU x=Th):aC φ (ev X a x) (LT.eval x):=by
 cases x with
 | tmp t=>
  have:=ha.getD t
  grind[ev,qd,Act.eval,Za]
 |const v=>exact(aC.of_plain v hx v).2 rfl
 | global g=>
  simp[ev,Act.eval];split
  .rename_i hg;obtain⟨p,hp,h1,h2⟩:=h.glob g hg;simp only[aC];exact⟨_,rfl,rfl,rfl,p,hp,h1.symm,aa⟩
  simp[abc,aC]
 | func f=>
  grind[ev,Act.eval,aC,aE.nil]
theorem vN(h:aC φ (.pointer (Wf ⟨b,off,Vc⟩)) v'):∃p,φ b=Wf p∧v'=.pointer (Wf ⟨p.c,p.s+off,Vc⟩):=by
 simp[aC]at h;obtain⟨⟨b',o',s'⟩,rfl,_,h2,p,hp,h3,h4⟩:=h
 grind
theorem AE(hp:φ b=Wf p):aC φ (.pointer (Wf ⟨b,off,Vc⟩)) (.pointer (Wf ⟨p.c,p.s+off,Vc⟩)):=by simp only[aC];exact⟨_,rfl,rfl,rfl,p,hp,rfl,rfl⟩
theorem tS{k:iK}{n:Int}(h:aC φ (.int k n) v'):v'=.int k n:=by trivial
theorem Ga{b:Bool}(h:aC φ (.bool b) v'):v'=.bool b:=by trivial
theorem AB(h:aC φ (.string s) v'):v'=.string s:=by trivial
theorem oh{k:iK}{n:Int}:aC φ (.int k n) (.int k n):=by rfl
theorem JP:aC φ (.string s) (.string s):=by rfl
theorem Sj(h:aC φ (.agg cs) v'):∃L7,v'=.agg L7∧aE φ cs.toList L7.toList:=by
 obtain⟨cs⟩:=cs
 grind[aC]
theorem IY(h:aE φ cs.toList L7.toList):aC φ (.agg cs) (.agg L7):=by
 obtain⟨cs⟩:=cs
 grind[aC]
theorem kN(h:ci P t=Wf n)(w:wO):(sizeOf t).run P w=.ok n w:=by
 unfold ci at h;cases hi:P.info? t with
 |none=>grind
 |some i=>simp_all[sizeOf,typeInfo]
theorem zp{z:vl}(h:fX P t=Wf z)(w:wO):(zeroValue t).run P w=.ok z w:=by
 unfold fX at h;cases hi:P.info? t with
 |none=>grind
 |some i=>simp_all[zeroValue,typeInfo]
theorem HF{z:vl}(h1:ci P t=Wf n)(h2:fX P t=Wf z)(h3:qj P t=Wf b):∃i,P.info? t=Wf i∧i.size=n∧i.zero=Wf z∧i.bytes=b:=by
 unfold ci at h1;unfold fX at h2;unfold qj at h3;cases hi:P.info? t with
 |none=>grind
 |some i=>grind
theorem cT{d:TypeDesc}(h:P.underlying t=Wf d)(w:wO):(underlying t).run P w=.ok d w:=run_underlying h w
theorem qm(b o n:Nat):Addr.add ⟨b,o,Vc⟩ n=⟨b,o+n,Vc⟩:=by simp[Addr.add]
theorem al3{f:Nat}{v:vl}(hv:BC X.P t x f=Wf v)(hx:aC φ x x'):
  ∃v',(Instr.fieldAt t x' f).run X.P w=.ok v' w∧aC φ v v':=by
 unfold BC at hv;split at hv
 .rename_i fs b off hu;split at hv
  .rename_i fd hf;split at hv
   .rename_i n hn;simp[Z9]at hv;subst hv;obtain⟨p,hp,rfl⟩:=vN hx
    simp_all[AE,Instr.fieldAt,Instr.sureAddr,fieldPlace,qm,Xl,cT,kN]
   trivial
  trivial
 trivial
theorem nX{a:Addr}(h:aC φ (.slice (Wf a) n c) v'):∃a' c',v'=.slice (Wf a') n c'∧Ca φ a n c a' c':=by trivial
theorem rZ(h:aC φ (.slice Vc n c) v'):v'=.slice Vc n c:=by trivial
theorem akz{i:vl}{v:vl}(hv:sE X.P t x i=Wf v)(hx:aC φ x x')(hi:aC φ i i'):
  ∃v',(Instr.indexAt t x' i').run X.P w=.ok v' w∧aC φ v v':=by
 unfold sE at hv;split at hv
 .rename_i e b off len cap kd k hu;split at hv
  .rename_i n hn;split at hv
   .rename_i hk;simp[Z9]at hv;subst hv;obtain rfl:=tS hi;obtain⟨⟨b',o',s'⟩,c',rfl,hs⟩:=nX hx;rcases hs with⟨_,h2,p,hp,h3,h4,_⟩|⟨_,_,h0,_⟩
    .simp only at h2 h3 h4;subst h2;subst h3;subst h4;refine⟨_,?_,AE hp⟩;simp[Instr.indexAt,asIntOf,cT hu,hk,kN hn,qm,Xl]
    .omega
   trivial
  trivial
 .rename_i len e b off kd k hu;split at hv
  .rename_i n hn;split at hv
   .rename_i hk;simp[Z9]at hv;subst hv;obtain rfl:=tS hi;obtain⟨p,hp,rfl⟩:=vN hx;refine⟨_,?_,AE hp⟩;simp[Instr.indexAt,asIntOf,cT hu,hk,kN hn,qm,Xl,Instr.sureAddr]
   trivial
  trivial
 trivial
theorem SJ{v:vl}(hv:AJ X.P t cs.toList off=Wf v)(hc:aE φ cs.toList L7.toList):
  ∃v',(part t L7 off).run X.P w=.ok v' w∧aC φ v v':=by
 have agg:∀{d:TypeDesc}{n:Nat},X.P.underlying t=Wf d->(match d with|.struct _|.array _ _=>True|_=>False)->ci X.P t=Wf n ->
   ∃v',(part t L7 off).run X.P w=.ok v' w∧aC φ (.agg ((cs.toList.drop off).take n).toArray) v':=by
  intro d n hu hd hn;refine⟨.agg (L7.extract off (off+n)),?_,IY ?_⟩
  .cases d<;>simp at hd<;>simp[part,isAgg,cT hu,kN hn]
  .have:(L7.extract off (off+n)).toList=(L7.toList.drop off).take n:=by simp[List.extract_eq_take_drop]
   grind[aE.take,aE.drop]
 unfold AJ at hv;split at hv
 .rename_i fs hu;cases hn:ci X.P t with
  |none=>grind
  |some n=>grind
 .rename_i len e hu;cases hn:ci X.P t with
  |none=>grind
  |some n=>grind
 .rename_i d jw hd2 hu;obtain⟨v',h1,h2⟩:=hc.at hv;refine⟨v',?_,h2⟩;rw[Array.getElem?_toList]at h1
  cases d<;>first
   |(exact absurd rfl (jw _);done)
   |(exact absurd rfl (hd2 _ _);done)
   |simp[part,isAgg,cT hu,h1]
 trivial
theorem alZ{f:Nat}{v:vl}(hv:DW X.P t x f=Wf v)(hx:aC φ x x'):
  ∃v',(Instr.field t x' f).run X.P w=.ok v' w∧aC φ v v':=by
 unfold DW at hv;split at hv
 .rename_i fs cs hu;split at hv
  .rename_i fd hf;obtain⟨L7,rfl,hc⟩:=Sj hx;obtain⟨v',h1,h2⟩:=SJ (w:=w) hv hc
   simp_all[Instr.field,asAgg,cT]
  trivial
 trivial
theorem aky{i:vl}{v:vl}(hv:yF X.P t x i=Wf v)(hx:aC φ x x')(hi:aC φ i i'):
  ∃v',(Instr.index t x' i').run X.P w=.ok v' w∧aC φ v v':=by
 unfold yF at hv;split at hv
 .rename_i len e cs kd k hu;split at hv
  .rename_i n hn;split at hv
   .rename_i hk;obtain rfl:=tS hi;obtain⟨L7,rfl,hc⟩:=Sj hx;obtain⟨v',h1,h2⟩:=SJ (w:=w) hv hc
    simp_all[Instr.index,asIntOf,cT,kN]
   trivial
  trivial
 .rename_i s kd k hu;split at hv
  .rename_i hk;obtain rfl:=tS hi;obtain rfl:=AB hx;cases hb:s[k.toNat]? with
   |none=>grind
   | some b=>
    simp[hb]at hv;subst hv
    simp_all[Instr.index,asIntOf,cT,oh]
  trivial
 trivial
theorem amd{v:vl}{vs:Array vl}(hx0:x=.tuple vs)(hv:vs[i]?=Wf v)(hx:aC φ x x'):
  ∃v',(Instr.extract x' i).run X.P w=.ok v' w∧aC φ v v':=by subst hx0;obtain⟨vs⟩:=vs;simp[aC]at hx;obtain⟨vs',rfl,hl⟩:=hx;obtain⟨v',h1,h2⟩:=hl.at (by simpa using hv);exact⟨v',by simp[Instr.extract,h1],h2⟩
theorem WP(off:Nat):∀(l l':am)(k:Nat)(cs L7:Array vl),aE φ l l'->aE φ cs.toList L7.toList ->
  aE φ ((l.zipIdx k).foldl (λ(cs:Array vl)(x:vl×Nat)=>cs.setIfInBounds (off+x.2) x.1) cs).toList
   ((l'.zipIdx k).foldl (λ(cs:Array vl)(x:vl×Nat)=>cs.setIfInBounds (off+x.2) x.1) L7).toList
 |[],l',k,cs,L7,hl,hc=>by simp_all[aE]
 | v::l,l',k,cs,L7,hl,hc=>by
  simp[aE]at hl;obtain⟨u,r,rfl,hv,hr⟩:=hl;simp[List.zipIdx_cons,List.foldl_cons];refine WP off l r (k+1) _ _ hr ?_
  grind[aE.set]
theorem H7(KK:Nat->Option (Nat×Nat)):∀(l l':List (Nat×vl))(cs L7 r:Array vl),l.map (·.1)=l'.map (·.1)->aE φ (l.map (·.2)) (l'.map (·.2))->aE φ cs.toList L7.toList ->
  Instr.fill KK cs l=Wf r->∃r',Instr.fill KK L7 l'=Wf r'∧aE φ r.toList r'.toList
 | [],l',cs,L7,r,h1,_,hc,h=>by
  simp_all[Instr.fill]
 |(i,v)::l,[],_,_,_,h1,_,_,_=>by simp at h1
 | (i,v)::l,(i',v')::l',cs,L7,r,h1,h2,hc,h=>by
  simp[Zv,List.cons.injEq]at h1;obtain⟨rfl,h1⟩:=h1;simp only[Zv,aE]at h2;obtain⟨u,q,e,hv,h2⟩:=h2;obtain⟨rfl,rfl⟩:=List.cons.inj e;have hcells:=hv.cells;have hsz:v.cells.size=v'.cells.size:=by simpa using hcells.length
  have hcs:cs.size=L7.size:=by simpa using hc.length
  unfold Instr.fill at h ⊢;split at h
  .cases h
  .rename_i off size hp;split at h
   .cases h
   .rename_i hn;rw[<-hsz,<-hcs,iN hn]
    have hf:∀(z:Array vl)(c:Array vl),(z.zipIdx.foldl (λ(cs:Array vl)(x:vl×Nat)=>match x with|(c,j)=>cs.setIfInBounds (off+j) c) c)=(z.toList.zipIdx.foldl (λ(cs:Array vl)(x:vl×Nat)=>cs.setIfInBounds (off+x.2) x.1) c):=by
     intro z c;rw[<-Array.foldl_toList,Array.toList_zipIdx]
    rw[hf]at h ⊢;exact H7 KK l l' _ _ r h1 h2 (WP off _ _ 0 _ _ hcells hc) h
theorem TW{P:pG}(w:wO):∀(fs:List Field),(∀f∈fs,(ci P f.type).isSome=Th) ->
  (fs.mapM (λf=>Prod.mk f.offset <$> sizeOf f.type)).run P w=.ok (fs.map λf=>(f.offset,(ci P f.type).getD 0)) w
 |[],_=>by simp
 | f::fs,h=>by
  obtain⟨n,hn⟩:=Option.isSome_iff_exists.1 (h f ac);have ih:=TW (P:=P) w fs (λg hg=>h g ae)
  simp_all[kN]
theorem aoW{t:tI}{ps ps':Array (Nat×vl)}{v:vl}(hv:zb X.P t ps=Wf v)
  (h1:ps.toList.map (·.1)=ps'.toList.map (·.1)) (h2:aE φ (ps.toList.map (·.2)) (ps'.toList.map (·.2))) :
  ∃v',(Instr.build t ps').run X.P w=.ok v' w∧aC φ v v':=by
 unfold zb at hv;split at hv
 .rename_i z fs hz hu;split at hv
  .rename_i hc;simp only[Z7]at hc;obtain⟨DP,hall⟩:=hc;simp only[Z3]at hv;obtain⟨r,hr,rfl⟩:=hv;have hzc:aE φ z.cells.toList z.cells.toList:=((aC.of_plain z DP z).2 rfl).cells;obtain⟨r',hr',hl⟩:=H7 _ _ _ _ _ _ h1 h2 hzc hr;refine⟨.agg r',?_,IY hl⟩
   have hm:(fs.mapM (λf=>Prod.mk f.offset <$> sizeOf f.type)).run X.P w=.ok (fs.map λf=>(f.offset,(ci X.P f.type).getD 0)) w:=by
    rw[Array.mapM_eq_mapM_toList];have:=TW (P:=X.P) w fs.toList (λf hf=>X1.1 hall f ae);simp only[Sem.run_map,this,Result.andThen_ok];congr 1;apply Array.ext';simp
   simp_all[Instr.build,zp,cT]
  trivial
 .rename_i z len e hz hu;split at hv
  .rename_i n hn;split at hv
   .rename_i DP;simp[Z3]at hv;obtain⟨r,hr,rfl⟩:=hv;have hzc:aE φ z.cells.toList z.cells.toList:=((aC.of_plain z DP z).2 rfl).cells;obtain⟨r',hr',hl⟩:=H7 _ _ _ _ _ _ h1 h2 hzc hr
    simp_all[IY,Instr.build,zp,cT,kN]
   trivial
  trivial
 trivial
theorem GZ(h:bC X φ H w){rid:Option Nat}{cells:am}{b:Nat}{H':AH}(hm:kT H rid cells=Wf (b,H')){cs:Array vl}(e:tI)
  (hr:aE φ cells cs.toList) :
  ∃φ' p,bC X φ' H' (w.alloc (.cells cs e))∧cD φ H w φ' H' (w.alloc (.cells cs e))∧φ' b=Wf p∧p.c=w.heap.size∧p.s=0∧p.exact=Th∧cY H.n rid φ φ':=by
 have Rg:RW cells=cs.size:=by simpa using hr.length
 have core:∀{b:Nat}{H':AH},(H.n<=b∨rid=Wf b)->φ b=Vc->H'.get b=Wf (fresh b cells)->(∀i,i≠b->H'.get i=H.get i) ->
   ∃φ' p,bC X φ' H' (w.alloc (.cells cs e))∧cD φ H w φ' H' (w.alloc (.cells cs e))∧φ' b=Wf p∧p.c=w.heap.size∧p.s=0∧p.exact=Th∧cY H.n rid φ φ':=by
  intro b H' h0 h1 h2 h3
  obtain ⟨g1,g2⟩:=h.new (e:=e) (cs:=cs) h1 h2 h3 rfl (by grind[fresh]) (λi v hv=>by
   obtain⟨v',k1,k2⟩:=hr.at hv
   grind)
  refine⟨_,_,g1,g2,kI _ _ _,rfl,rfl,rfl,λi p hp hn=>?_⟩;by_cases e':i=b
  .grind
  .grind[jC]
 cases rid with
 | none=>
  simp[kT,Z9,Z5]at hm;obtain⟨rfl,rfl⟩:=hm;refine core (.inl (Z8 _)) ?_ (AH.get_push_new H _) (λi hi=>AH.get_push hi);cases hb:φ H.n with
  |none=>rfl
  | some p=>
   obtain⟨x,_,_,_,hx,_⟩:=h.dom _ _ hb;have:=AH.get_lt hx;omega
 | some r=>
  simp[kT]at hm;cases hx:H.get r with
  |none=>grind
  | some x=>
   simp only[hx]at hm;split at hm
   .rename_i DB;obtain⟨DB,_⟩:=DB;simp[Z9,Z5]at hm;obtain⟨rfl,rfl⟩:=hm;refine core (.inr rfl) ?_ (by rw[AH.get_set hx,ip rfl]) (λi hi=>by rw[AH.get_set hx,iN hi]);cases hb:φ r with
    |none=>rfl
    | some p=>
     obtain⟨y,_,_,_,hy,h1,_⟩:=h.dom _ _ hb
     grind
   trivial
theorem Uf(h:bC X φ H w){cells:am}{n:Nat}{cs:Array vl}(e:tI)(fz:Nat×Nat)(hfz:∀i,i<cs.size->¬(fz.1<=i∧i<fz.2))(hl:RW cells<=cs.size)
  (hr:∀(i:Nat)(v:vl),cells[i]?=Wf v->∃v',cs[i]?=Wf v'∧aC φ v v') :
  ∃φ' p,bC X φ' (H.push (jt H.n n cells)) (w.alloc (.cells cs e fz))∧cD φ H w φ' (H.push (jt H.n n cells)) (w.alloc (.cells cs e fz))∧φ' H.n=Wf p∧p.c=w.heap.size∧p.s=0∧p.exact=SM∧p.nc=RW cells∧p.esz=n∧p.top=cs.size∧cY H.n Vc φ φ':=by
 have hn:φ H.n=Vc:=by
  cases hb:φ H.n with
  |none=>rfl
  | some p=>
   obtain⟨x,_,_,_,hx,_⟩:=h.dom _ _ hb;have:=AH.get_lt hx;omega
 obtain⟨g1,g2⟩:=h.newF (e:=e) (cs:=cs) hn (AH.get_push_new H (jt H.n n cells)) (λi hi=>AH.get_push hi) rfl fz hfz hl hr;refine⟨_,_,g1,g2,kI _ _ _,rfl,rfl,rfl,rfl,rfl,rfl,λi p hp hn'=>?_⟩
 grind[jC]
theorem aiY(h:bC X φ H w){cells:am}{n:Nat}{cs:Array vl}(e:tI)(hl:RW cells<=cs.size)
  (hr:∀(i:Nat)(v:vl),cells[i]?=Wf v->∃v',cs[i]?=Wf v'∧aC φ v v') :
  ∃φ' p,bC X φ' (H.push (jt H.n n cells)) (w.alloc (.cells cs e))∧cD φ H w φ' (H.push (jt H.n n cells)) (w.alloc (.cells cs e))∧φ' H.n=Wf p∧p.c=w.heap.size∧p.s=0∧p.exact=SM∧p.nc=RW cells∧p.esz=n∧p.top=cs.size∧cY H.n Vc φ φ':=
 Uf h e (0,0) (λ_ _=>by simp) hl hr
theorem aln(w:wO)(cs:Array vl)(e:tI):(w.alloc (.cells cs e)).freeze ⟨w.heap.size,cs.size,Vc⟩ 1=w.alloc (.cells cs e (cs.size,cs.size+1)):=by
 simp only[wO.freeze,Nat.one_ne_zero,iF]
 show({w.alloc (.cells cs e)with heap:=_}:wO)=_
 have:∀(f:Obj->Obj),(w.heap.push (.cells cs e)).modify w.heap.size f=w.heap.push (f (.cells cs e)):=by
  intro f;apply Array.ext_getElem?;intro i;rw[Array.getElem?_modify,Array.getElem?_push,Array.getElem?_push];by_cases hi:i=w.heap.size
  .grind
  .rw[iN (λe=>hi e.symm),iN hi,iN hi]
 show({heap:=(w.heap.push (.cells cs e)).modify w.heap.size _,tape:=w.tape,drawn:=w.drawn,os:=w.os,output:=w.output}:wO)=_
 simp_all
theorem Ul(h:bC X φ H w){cs:am}(hr:cW H b off n=Wf cs)(hp:φ b=Wf p):
  ∃L7,aE φ cs L7∧RW L7=n∧(loadCells ⟨p.c,p.s+off,Vc⟩ n).run X.P w=.ok L7.toArray w:=by grind[bC.read,run_loadCells_list]
theorem ai2(h:bC X φ H w){v:vl}(hr:cW H b off 1=Wf [v])(hp:φ b=Wf p):
  ∃v',aC φ v v'∧w.cell? ⟨p.c,p.s+off,Vc⟩=Wf v':=by
 obtain⟨L7,h1,h2,h3,h4⟩:=h.read hr hp;obtain⟨v',g1,g2⟩:=h1.at (i:=0) (v:=v) rfl
 grind[Addr.add]
theorem Uk(h:bC X φ H w){v:vl}(hv:pY X.P H t x=Wf v)(hx:aC φ x x'):
  ∃v',(Instr.loadAt t x').run X.P w=.ok v' w∧aC φ v v':=by
 have agg:∀{d:TypeDesc}{b off n:Nat}{cs:am},X.P.underlying t=Wf d->(match d with|.struct _|.array _ _=>True|_=>False)->ci X.P t=Wf n->cW H b off n=Wf cs->aC φ (.pointer (Wf ⟨b,off,Vc⟩)) x' ->
   ∃v',(Instr.loadAt t x').run X.P w=.ok v' w∧aC φ (.agg cs.toArray) v':=by
  intro d b off n cs hu hd hn hc hx;obtain⟨p,hp,rfl⟩:=vN hx;obtain⟨L7,h1,h2,h3⟩:=Ul h hc hp;refine⟨.agg L7.toArray,?_,IY aa⟩;cases d<;>simp at hd<;>simp[Instr.loadAt,Instr.sureAddr,loadVar,isAgg,cT hu,kN hn,h3]
 unfold pY at hv;split at hv
 .rename_i b off;split at hv
  .rename_i fs hu;cases hn:ci X.P t with
   |none=>grind
   | some n=>
    grind[cW]
  .rename_i len e hu;cases hn:ci X.P t with
   |none=>grind
   | some n=>
    grind[cW]
  .rename_i d jw hd2 hu;split at hv
   .rename_i u hc;simp[Z9]at hv;subst hv;obtain⟨p,hp,rfl⟩:=vN hx;obtain⟨v',h1,h2⟩:=ai2 h hc hp;refine⟨v',?_,h1⟩
    cases d<;>first
     |(exact absurd rfl (jw _);done)
     |(exact absurd rfl (hd2 _ _);done)
     |simp[Instr.loadAt,Instr.sureAddr,loadVar,isAgg,cT hu,h2]
   trivial
  trivial
 trivial
theorem adL(h:bC X φ H w){v:vl}{H':AH}(hs:tj X.P H t x v=Wf H')(hx:aC φ x x')(hv:aC φ v v'):
  ∃w',(Instr.storeAt t x' v').run X.P w=.ok () w'∧bC X φ H' w'∧cD φ H w φ H' w':=by
 unfold tj at hs;split at hs
 .rename_i b off n hn;split at hs
  .rename_i hsz;obtain⟨p,hp,rfl⟩:=vN hx;have hc:=hv.cells;have hl:v.cells.size=v'.cells.size:=by simpa using hc.length
   obtain⟨g1,g2,g3,g4,g5⟩:=h.write hs hp hc
   simp_all[run_storeCells_cells,Instr.storeAt,Instr.sureAddr,storeVar,kN]
  trivial
 trivial
theorem mD{d top top':Nat}{o:Option vl}(hb:eW d top o=Wf n)(ht:top<=top')(ho:o'=o∨∃v v',o=Wf v∧o'=Wf v'∧aC φ v v')(code:BoundsCode):
  (o=Vc∧o'=Vc∧n=d)∨(∃k i,o=Wf (.int k i)∧o'=Wf (.int k i)∧0<=i∧i<=top∧n=i.toNat∧(Instr.sliceBound (.int k i) top' code).run X.P w=.ok n w):=by
 cases o with
 | none=>
  grind[eW]
 | some v=>
  right
  cases v<;>simp only[eW]at hb<;>first
   |(cases hb;done)
   |skip
  rename_i k i;split at hb
  .rename_i hi;simp at hb;subst hb;refine⟨k,i,rfl,?_,hi.1,hi.2,rfl,?_⟩
   .rcases ho with rfl|⟨v,v',h1,h2,h3⟩
    .rfl
    grind[tS]
   .have Fm:i<=(top':Int):=by have:=hi.2;omega
    simp_all[Instr.sliceBound,asIntOf]
  trivial
def ED(φ:bI)(o o':Option vl):Prop:=o'=o∨∃v v',o=Wf v∧o'=Wf v'∧aC φ v v'
theorem aeO(h:bC X φ H w){t:tI}{x:vl}{lo hi mx:Option vl}{v:vl}(hv:kf X.P H t x lo hi mx=Wf v)
  {x':vl} {lo' DE mx':Option vl} (hx:aC φ x x') (hlo:ED φ lo lo') (hhi:ED φ hi DE) (hmx:ED φ mx mx') :
  ∃v',(Instr.sliceAt t x' lo' DE mx').run X.P w=.ok v' w∧aC φ v v':=by
 have hn:∀{o o':Option vl},ED φ o o'->(o=Vc↔o'=Vc):=by
  rintro o o' (rfl|⟨v,v',rfl,rfl,_⟩)<;>simp
 unfold kf at hv;split at hv
 .rename_i s hu;split at hv
  .cases hv
  .rename_i hm;simp[Option.isSome_iff_ne_none,ne_eq,Decidable.not_not]at hm;have hm':=(hn hmx).1 hm;subst hm;subst hm';cases hb:eW s.size s.size hi with
   |none=>grind
   | some h1=>
    cases hb2:eW 0 h1 lo with
    |none=>grind
    | some l1=>
     simp[hb,hb2]at hv;subst hv;obtain rfl:=AB hx;refine⟨_,?_,JP⟩;rcases mD (X:=X) (w:=w) hb (Z8 _) hhi .sliceAlen with⟨rfl,rfl,rfl⟩|⟨k,i,rfl,rfl,_,_,_,hr⟩<;>
     rcases mD (X:=X) (w:=w) hb2 (Z8 _) hlo .sliceB with⟨rfl,rfl,rfl⟩|⟨k2,i2,rfl,rfl,_,_,_,hr2⟩<;>
     simp_all[Instr.sliceAt,Instr.slice,Instr.sliceBounds,cT hu]
 .rename_i e a len cap hu;cases hb0:eW cap cap mx with
  |none=>grind
  |some m=>
  by_cases hmh:(hi.isNone&&mx.isSome)=Th
  .grind
  .have hmh':(hi.isNone&&mx.isSome)=SM:=by simpa using hmh
   cases hb:eW len m hi with
   |none=>grind
   | some h1=>
    cases hb2:eW 0 h1 lo with
    |none=>grind
    | some l1=>
     cases hs:ci X.P e with
     |none=>grind
     | some n=>
      simp[hb0,hmh',hb,hb2,hs]at hv;obtain⟨⟨hlc,hspot,_,hfit⟩,rfl⟩:=hv
      have hle1:m<=cap:=by
       rcases mD (X:=X) (w:=w) hb0 (Z8 _) hmx .slice3Acap with⟨rfl,rfl,rfl⟩|⟨k,i,rfl,rfl,g1,g2,rfl,_⟩<;>omega
      have hh1:h1<=m:=by
       rcases mD (X:=X) (w:=w) hb (Z8 _) hhi .slice3B with⟨rfl,rfl,rfl⟩|⟨k,i,rfl,rfl,g1,g2,rfl,_⟩
       .simp_all[eW]
       .omega
      have hl1:l1<=h1:=by
       rcases mD (X:=X) (w:=w) hb2 (Z8 _) hlo .slice3B with⟨rfl,rfl,rfl⟩|⟨k,i,rfl,rfl,g1,g2,rfl,_⟩<;>omega
      -- the model's own bounds,at a capacity of at least cap
      have hrun:∀(a':Option Addr)(cap':Nat),cap<=cap'->(mx=Vc∨cap'=cap∨True)->∃m',((mx=Vc->m'=cap')∧(mx≠Vc->m'=m)) ∧
        (Instr.sliceAt t (.slice a' len cap') lo' DE mx').run X.P w=.ok (.slice (if m'=l1 then a' else a'.map (·.add (l1*n))) (h1-l1) (m'-l1)) w:=by
       intro a' cap' hcap _;rcases mD (X:=X) (w:=w) hb0 hcap hmx .slice3Acap with⟨rfl,rfl,rfl⟩|⟨k,i,rfl,rfl,_,_,_,hr⟩
       .refine⟨cap',⟨λ_=>rfl,λh=>absurd rfl h⟩,?_⟩;rcases mD (X:=X) (w:=w) hb hcap hhi .sliceAcap with⟨rfl,rfl,rfl⟩|⟨k2,i2,rfl,rfl,_,_,_,hr2⟩<;>
        rcases mD (X:=X) (w:=w) hb2 (Z8 _) hlo .sliceB with⟨rfl,rfl,rfl⟩|⟨k3,i3,rfl,rfl,_,_,_,hr3⟩<;>
        simp_all[Instr.sliceAt,Instr.slice,Instr.sliceBounds,cT hu,kN hs]
       .refine⟨m,⟨λh=>by trivial,λ_=>rfl⟩,?_⟩;rcases mD (X:=X) (w:=w) hb (Z8 _) hhi .slice3B with⟨rfl,rfl,rfl⟩|⟨k2,i2,rfl,rfl,_,_,_,hr2⟩
        .trivial
        rcases mD (X:=X) (w:=w) hb2 (Z8 _) hlo .slice3C with⟨rfl,rfl,rfl⟩|⟨k3,i3,rfl,rfl,_,_,_,hr3⟩<;>
        simp_all[Instr.sliceAt,Instr.slice,Instr.sliceBounds,cT hu,kN hs]
      cases a with
      | none=>
       obtain rfl:=rZ hx;obtain⟨m',⟨q1,q2⟩,hr⟩:=hrun Vc cap (Z8 _) (.inr (.inr trivial));refine⟨_,hr,?_⟩
       have:m'=m:=by
        by_cases hz:mx=Vc
        .grind[eW]
        .grind
       grind[aC]
      | some a=>
       simp at hspot;obtain⟨⟨ab,ao,asc⟩,rfl⟩:∃a2:Addr,a=a2:=⟨a,rfl⟩;simp at hspot;subst hspot;obtain⟨⟨b',o',s'⟩,c',rfl,hsr⟩:=nX hx;rcases hsr with⟨_,k2,p,hp,k3,k4,k5⟩|⟨_,k3,k4,k5,pp,hpp⟩
       .simp only at k2 k3 k4;subst k2;subst k3;subst k4;have hcap:cap<=c':=by rcases k5 with e|⟨_,_,e,_⟩<;>omega
        obtain⟨m',⟨q1,q2⟩,hr⟩:=hrun (Wf ⟨p.c,p.s+ao,Vc⟩) c' hcap (.inr (.inr trivial));refine⟨_,hr,?_⟩;simp[Option.map_some,B5];by_cases hz:m'=l1
        .rw[ip hz];simp only[aC];refine⟨_,_,rfl,.inr ⟨rfl,?_,?_,aa,p,hp⟩⟩
         .grind
         grind
        .rw[iN hz];simp only[Option.map_some,qm,aC];refine⟨_,_,rfl,.inl ⟨rfl,rfl,p,hp,rfl,ae,?_⟩⟩;by_cases hmx0:mx=Vc
         .have hm':=q1 hmx0;have hm:m=cap:=by subst hmx0;simp[eW]at hb0;omega
          subst hm' hm;rcases k5 with e|⟨e1,e2,e3,e4⟩
          .left;omega
          .simp only at e2 e4
           have hez:n=p.esz:=by
            obtain⟨y,_,_,_,y1,_,_,y4,y5,_⟩:=h.dom _ _ hp;rcases hfit with g|g
            .grind
            .grind[sN]
           subst hez;right;refine⟨e1,?_,aa,?_⟩
           .have:l1*p.esz+(m-l1)*p.esz=m*p.esz:=by rw[<-Nat.add_mul];congr 1;omega
            grind
           .have:l1*p.esz+(m'-l1)*p.esz=m'*p.esz:=by rw[<-Nat.add_mul];congr 1;omega
            grind
         .left;grind
       .subst k3;subst k4;subst k5;obtain⟨m',⟨q1,q2⟩,hr⟩:=hrun (Wf ⟨b',o',s'⟩) 0 (Z8 _) (.inr (.inr trivial));refine⟨_,hr,?_⟩
        have hm0:m'=0:=by
         by_cases hmx0:mx=Vc
         .grind
         .grind
        subst hm0;simp only[Option.map_some,B5,aC];have:l1=0:=aa;subst this;exact⟨_,_,rfl,.inr ⟨rfl,aa,aa,aa,pp,hpp⟩⟩
 .rename_i k e b off hu;cases hb0:eW k k mx with
  |none=>grind
  |some m=>
  by_cases hmh:(hi.isNone&&mx.isSome)=Th
  .grind
  .have hmh':(hi.isNone&&mx.isSome)=SM:=by simpa using hmh
   cases hb:eW k m hi with
   |none=>grind
   | some h1=>
    cases hb2:eW 0 h1 lo with
    |none=>grind
    | some l1=>
     cases hs:ci X.P e with
     |none=>grind
     | some n=>
      simp[hb0,hmh',hb,hb2,hs]at hv;subst hv;obtain⟨p,hp,rfl⟩:=vN hx
      have hr:(Instr.sliceAt t (.pointer (Wf ⟨p.c,p.s+off,Vc⟩)) lo' DE mx').run X.P w=.ok (.slice (Wf (if m=l1 then⟨p.c,p.s+off,Vc⟩else⟨p.c,p.s+off+l1*n,Vc⟩)) (h1-l1) (m-l1)) w:=by
       rcases mD (X:=X) (w:=w) hb0 (Z8 _) hmx .slice3Alen with⟨rfl,rfl,rfl⟩|⟨k,i,rfl,rfl,_,_,_,hr⟩
       .rcases mD (X:=X) (w:=w) hb (Z8 _) hhi .sliceAlen with⟨rfl,rfl,rfl⟩|⟨k2,i2,rfl,rfl,_,_,_,hr2⟩<;>
        rcases mD (X:=X) (w:=w) hb2 (Z8 _) hlo .sliceB with⟨rfl,rfl,rfl⟩|⟨k3,i3,rfl,rfl,_,_,_,hr3⟩<;>
        simp_all[Instr.sliceAt,Instr.sureAddr,Instr.sliceBounds,cT hu,kN hs,qm]
       .rcases mD (X:=X) (w:=w) hb (Z8 _) hhi .slice3B with⟨rfl,rfl,rfl⟩|⟨k2,i2,rfl,rfl,_,_,_,hr2⟩
        .trivial
        rcases mD (X:=X) (w:=w) hb2 (Z8 _) hlo .slice3C with⟨rfl,rfl,rfl⟩|⟨k3,i3,rfl,rfl,_,_,_,hr3⟩<;>
        simp_all[Instr.sliceAt,Instr.sureAddr,Instr.sliceBounds,cT hu,kN hs,qm]
      refine⟨_,hr,?_⟩
      have hle1:h1<=m:=by
       rcases mD (X:=X) (w:=w) hb (Z8 _) hhi .slice3B with⟨rfl,rfl,rfl⟩|⟨k2,i2,rfl,rfl,g1,g2,rfl,_⟩
       .simp_all[eW]
       .omega
      have hl1:l1<=h1:=by
       rcases mD (X:=X) (w:=w) hb2 (Z8 _) hlo .slice3B with⟨rfl,rfl,rfl⟩|⟨k2,i2,rfl,rfl,g1,g2,rfl,_⟩<;>omega
      by_cases hz:m=l1
      .rw[ip hz];simp only[aC];exact⟨_,_,rfl,.inr ⟨rfl,aa,aa,aa,p,hp⟩⟩
      .rw[iN hz];simp only[aC];exact⟨_,_,rfl,.inl ⟨rfl,rfl,p,hp,rfl,ae,.inl rfl⟩⟩
 trivial
structure OJ(P:pG)(n k:Nat)(L7:am)(x':vl)(w:wO):Prop where
 len:∀w':wO,(bU.lenOf x').run P w'=.ok k w'
 cells:∀w':wO,w'.heap=w.heap->(bU.firstCells n k x').run P w'=.ok L7.toArray w'
theorem adW(h:bC X φ H w){cs:am}(hs:fH H n x=Wf (k,cs))(hx:aC φ x x'):
  ∃L7,aE φ cs L7∧RW L7=k*n∧OJ X.P n k L7 x' w:=by
 unfold fH at hs;split at hs
 .simp only[Z9,Z5]at hs;obtain⟨rfl,rfl⟩:=hs;obtain rfl:=rZ hx;refine⟨[],aE.nil φ,ac,⟨λw'=>by rfl,λw' _=>by rfl⟩⟩
 .rename_i b off len cap;split at hs
  .rename_i h0;simp only[Z9,Z5]at hs;obtain⟨rfl,rfl⟩:=hs;subst h0;obtain⟨a',c',rfl,_⟩:=nX hx;exact⟨[],aE.nil φ,ac,⟨λw'=>by rfl,λw' _=>by simp[bU.firstCells,loadCells,loadCellsFrom]⟩⟩
  .rename_i h0;simp only[Z3,Z5]at hs;obtain⟨cs0,hc,rfl,rfl⟩:=hs;obtain⟨⟨b',o',s'⟩,c',rfl,hsr⟩:=nX hx;rcases hsr with⟨_,k2,p,hp,k3,k4,k5⟩|⟨_,h00,_⟩
   .simp only at k2 k3 k4;subst k2;subst k3;subst k4;obtain⟨L7,h1,h2,h3,h4⟩:=h.read hc hp;refine⟨L7,h1,h2,⟨λw'=>by rfl,λw' hw=>?_⟩⟩
    grind[bU.firstCells,run_loadCells_list,wO.cell?]
   .omega
 .rename_i s;split at hs
  .rename_i h1;simp[Z9,Z5]at hs;obtain⟨rfl,rfl⟩:=hs;subst h1;obtain rfl:=AB hx;refine⟨_,aE.map (λ_=>oh) _,ac,⟨λw'=>by rfl,λw' _=>?_⟩⟩;simp only[bU.firstCells,Sem.run_pure];congr 1;apply Array.ext'
   have:(s.extract 0 s.size).data=s.data:=by
    have:=RT ByteArray.data (ByteArray.extract_zero_size (b:=s));exact this
   simp
  trivial
 trivial
theorem akA{P:pG}{t tx ty e:tI}{d:TypeDesc}(ht:P.underlying t=Wf (.slice e))(htx:P.underlying tx=Wf d)(hd:∀k,d≠.int k)
  {n:Nat} (hn:ci P e=Wf n) {k:Nat} {L7:am} {x':vl} {w:wO} (hs:OJ P n k L7 x' w) {RC:Option Addr} {Pa In:Nat} (Fm:Pa+k<=In)
  {w':wO} (DB:RC=Vc∧w'=w∨∃a,RC=Wf a∧(storeCells (a.add (Pa*n)) L7).run P w=.ok () w') :
  (bU.append_ #[t,tx] ty #[.slice RC Pa In,x']).run P w=.ok (.slice RC (Pa+k) In) w':=by
 have hz:(match d with|.int _=>Th|_=>SM)=SM:=by cases d<;>first|rfl|grind
 have hc:=hs.cells w rfl;rcases DB with⟨rfl,rfl⟩|⟨a,rfl,h⟩
 .simp[bU.append_,cT ht,cT htx,kN hn,hs.len,Fm,hc,hz]
 .simp[bU.append_,cT ht,cT htx,kN hn,hs.len,Fm,hc,h,hz]
theorem He(w:wO)(need old:Nat)(e:tI):need<=grownCap w need old e:=Nat.le_add_right _ _
theorem ak5{P:pG}{t tx ty e:tI}{d:TypeDesc}(ht:P.underlying t=Wf (.slice e))(htx:P.underlying tx=Wf d)(hd:∀k,d≠.int k)
  {n Nd:Nat} {z:vl} (hn:ci P e=Wf n) (hz:fX P e=Wf z) (hby:qj P e=Wf Nd) (hzs:z.cells.size=n) (hb0:0<Nd) (hn0:0<n)
  {k:Nat} {L7:am} {x':vl} {w:wO} (hs:OJ P n k L7 x' w) {RC:Option Addr} {Pa In:Nat} (hgt:In<Pa+k)
  (Fk:(Pa+k)*Nd<=140737488355328) {Fn:am}
  (Fd:∀w':wO,w'.heap=w.heap->(bU.firstCells n Pa (.slice RC Pa In)).run P w'=.ok Fn.toArray w') (hl:RW Fn=Pa*n) (hl':RW L7=k*n) :
  ∃ nc cells,(bU.append_ #[t,tx] ty #[.slice RC Pa In,x']).run P w=.ok (.slice (Wf ⟨w.heap.size,0,Vc⟩) (Pa+k) nc) (w.drew.alloc (.cells cells e)) ∧
   Pa+k<=nc∧cells.size=nc*n∧∀(i:Nat)(v:vl),(Fn++L7)[i]?=Wf v->cells[i]?=Wf v:=by
 obtain⟨i,hi,i1,i2,i3⟩:=HF hn hz hby;subst i1;subst i3;have MT:¬(Pa+k<=In):=aa;have hfit:=growslice_fits hgt Fk;have hfit':¬(281474976710656<bU.nextslicecap (Pa+k) In*i.bytes):=aa;have h1:Pa+k<=(Pa+k)*i.bytes:=Zc _ hb0;have h63:¬(9223372036854775807<((Pa:Int)+(k:Int))):=aa;have hbn:i.bytes≠0:=aa
 have hc:=hs.cells w.drew rfl;have ho:=Fd w.drew rfl;refine⟨grownCap w (Pa+k) In e,Fn.toArray++L7.toArray++bU.zeroCells z.cells (grownCap w (Pa+k) In e-(Pa+k)),?_,?_,?_,?_⟩
 .have hz:(match d with|.int _=>Th|_=>SM)=SM:=by cases d<;>first|rfl|grind
  simp[bU.append_,cT ht,cT htx,sizeOf,typeInfo,zeroValue,hi,i2,hs.len,MT,h63,hfit',hbn,Question.forced,hc,ho,newRow,grownCap,hz]
  grind
 .simp[He]
 .have:=He w (Pa+k) In e;simp[Array.size_append,List.size_toArray,hl,hl',bU.zeroCells,Array.size_map,Array.size_range,hzs];rw[<-Nat.add_mul,<-Nat.add_mul];grind
 .intro j v hv;rw[Array.getElem?_append]
  have hj:j<RW (Fn++L7):=by
   rcases Zi j (RW (Fn++L7)) with h'|h'
   .exact h'
   .grind
  have:(Fn.toArray++L7.toArray).size=RW (Fn++L7):=ac;rw[ip aa]
  grind
theorem EJ{z:vl}(hz:plain z=Th)(n:Nat):aE φ (fe z.cells.toList n) (fe z.cells.toList n):=by
 have hc:aE φ z.cells.toList z.cells.toList:=((aC.of_plain z hz z).2 rfl).cells
 grind[fe,qt,aE.getD]
theorem Cf{z:vl}(hn:z.cells.size=n)(h0:0<n)(k:Nat):(fe z.cells.toList k).toArray=(Array.range k).map λi=>z.cells[i%z.cells.size]!:=by
 apply Array.ext';simp only[fe,Array.toList_map,Array.toList_range,Array.length_toList];apply List.map_congr_left;intro i _;have:i%z.cells.size<z.cells.size:=Y5 _ aa
 grind
theorem abu{P:pG}{t tx ty e:tI}{kd kd':iK}(ht:P.underlying t=Wf (.slice e))(htx:P.underlying tx=Wf (.int kd))
  {n Nd:Nat} {z:vl} (hn:ci P e=Wf n) (hz:fX P e=Wf z) (hby:qj P e=Wf Nd) (hzs:z.cells.size=n) (hn0:0<n) (hb0:0<Nd)
  {k:Nat} (hk:k*Nd<=140737488355328) {w:wO} {RC:Option Addr} {Pa In:Nat} (Fm:Pa+k<=In)
  {w':wO} (DB:RC=Vc∧w'=w∨∃a,RC=Wf a∧(storeCells (a.add (Pa*n)) (fe z.cells.toList (k*n))).run P w=.ok () w') :
  (bU.append_ #[t,tx] ty #[.slice RC Pa In,.int kd' k]).run P w=.ok (.slice RC (Pa+k) In) w':=by
 obtain⟨i,hi,i1,i2,i3⟩:=HF hn hz hby;subst i1;subst i3;have h1:k<=k*i.bytes:=Zc _ hb0;have hwr:iK.i64.wrap (k:Int)=k:=by rw[iK.wrap_i64];omega
 have hneg:¬((k:Int)<0):=aa
 have hbig:¬(281474976710656<(k:Int)*(i.bytes:Int)):=by
  have:((k*i.bytes:Nat):Int)<=140737488355328:=aa;rw[Int.natCast_mul]at this;omega
 have hin:i.size≠0:=aa;have hze:=Cf hzs hn0 (k*i.size);by_cases hk0:k=0
 .subst hk0;have hw0:iK.i64.wrap 0=0:=by simpa using hwr
  have hle0:Pa<=In:=aa;rcases DB with⟨rfl,rfl⟩|⟨a,rfl,h⟩
  .simp[bU.append_,cT ht,cT htx,sizeOf,typeInfo,hi,asInt,asIntOf,hw0,hle0]
  .simp[Wc,fe,List.range_zero,Yp]at h;simp[bU.append_,cT ht,cT htx,sizeOf,typeInfo,hi,asInt,asIntOf,hw0,hle0,h]
 .rcases DB with⟨rfl,rfl⟩|⟨a,rfl,h⟩
  .simp[bU.append_,cT ht,cT htx,sizeOf,typeInfo,zeroValue,hi,i2,asInt,asIntOf,hwr,hneg,hbig,Fm,hk0,hin]
  ·have hz2:(bU.zeroCells z.cells k).toList=fe z.cells.toList (k*i.size):=by
    rw[hzs]at hze;rw[bU.zeroCells,hzs,<-hze]
   simp[bU.append_,cT ht,cT htx,sizeOf,typeInfo,zeroValue,hi,i2,asInt,asIntOf,hwr,hneg,hbig,Fm,hk0,hin,hz2,h]
   grind[Nat.mul_ne_zero]
theorem abv{P:pG}{t tx ty e:tI}{kd kd':iK}(ht:P.underlying t=Wf (.slice e))(htx:P.underlying tx=Wf (.int kd))
  {n Nd:Nat} {z:vl} (hn:ci P e=Wf n) (hz:fX P e=Wf z) (hby:qj P e=Wf Nd) (hzs:z.cells.size=n) (hn0:0<n) (hb0:0<Nd)
  {k:Nat} {w:wO} {RC:Option Addr} {Pa In:Nat} (hgt:In<Pa+k) (hk0:k≠0)
  (Fk:(Pa+k)*Nd<=140737488355328) {Fn:am}
  (Fd:∀w':wO,w'.heap=w.heap->(bU.firstCells n Pa (.slice RC Pa In)).run P w'=.ok Fn.toArray w') (hl:RW Fn=Pa*n) :
  ∃ nc cells,(bU.append_ #[t,tx] ty #[.slice RC Pa In,.int kd' k]).run P w=.ok (.slice (Wf ⟨w.heap.size,0,Vc⟩) (Pa+k) nc) (w.drew.alloc (.cells cells e)) ∧
   Pa+k<=nc∧cells.size=nc*n∧∀(i:Nat)(v:vl),(Fn++fe z.cells.toList (k*n))[i]?=Wf v->cells[i]?=Wf v:=by
 obtain⟨i,hi,i1,i2,i3⟩:=HF hn hz hby;subst i1;subst i3;have hroomk:k*i.bytes<=140737488355328:=Z1 (Zu _ aa) Fk;have h1:k<=k*i.bytes:=Zc _ hb0;have h2:Pa+k<=(Pa+k)*i.bytes:=Zc _ hb0;have hwr:iK.i64.wrap (k:Int)=k:=by rw[iK.wrap_i64];omega
 have hneg:¬((k:Int)<0):=aa
 have hbig:¬(281474976710656<(k:Int)*(i.bytes:Int)):=by
  have:((k*i.bytes:Nat):Int)<=140737488355328:=aa;rw[Int.natCast_mul]at this;omega
 have hin:i.size≠0:=aa;have hze:=Cf hzs hn0 (k*i.size);have MT:¬(Pa+k<=In):=aa;have hfit:=growslice_fits hgt Fk;have hfit':¬(281474976710656<bU.nextslicecap (Pa+k) In*i.bytes):=aa;have h63:¬(9223372036854775807<((Pa:Int)+(k:Int))):=aa;have hbn:i.bytes≠0:=aa;have ho:=Fd w.drew rfl
 have hz2:bU.zeroCells z.cells k=(fe z.cells.toList (k*i.size)).toArray:=by rw[hzs]at hze;rw[bU.zeroCells,hzs,<-hze]
 have hzl:RW (fe z.cells.toList (k*i.size))=k*i.size:=by simp[fe]
 refine⟨grownCap w (Pa+k) In e,Fn.toArray++(fe z.cells.toList (k*i.size)).toArray++bU.zeroCells z.cells (grownCap w (Pa+k) In e-(Pa+k)),?_,?_,?_,?_⟩
 .simp[bU.append_,cT ht,cT htx,sizeOf,typeInfo,zeroValue,hi,i2,asInt,asIntOf,hwr,hneg,hbig,hk0,hin,MT,h63,hfit',hbn,Question.forced,ho,newRow,grownCap,hz2]
  grind
 .simp[He]
 .have:=He w (Pa+k) In e;simp[Array.size_append,List.size_toArray,hl,hzl,bU.zeroCells,Array.size_map,Array.size_range,hzs];rw[<-Nat.add_mul,<-Nat.add_mul];grind
 .intro j v hv;rw[Array.getElem?_append]
  have hj:j<RW (Fn++fe z.cells.toList (k*i.size)):=by
   rcases Zi j (RW (Fn++fe z.cells.toList (k*i.size))) with h'|h'
   .exact h'
   .grind
  have:(Fn.toArray++(fe z.cells.toList (k*i.size)).toArray).size=RW (Fn++fe z.cells.toList (k*i.size)):=ac;rw[ip aa]
  grind
theorem rY(h:aC φ (.slice (Wf ⟨b,off,Vc⟩) n c) v'):
  (∃p c',φ b=Wf p∧v'=.slice (Wf ⟨p.c,p.s+off,Vc⟩) n c'∧abr p off c c')∨(∃a',v'=.slice (Wf a') 0 0∧n=0∧c=0):=by
 obtain⟨⟨b',o',s'⟩,c',rfl,hsr⟩:=nX h;rcases hsr with⟨_,k2,p,hp,k3,k4,k5⟩|⟨_,k3,k4,k5,_⟩
 .grind
 grind
theorem aeQ(h:aC φ (.slice (Wf ⟨b,off,Vc⟩) n c) v'):∃p,φ b=Wf p:=by obtain⟨_,_,_,hsr⟩:=nX h;rcases hsr with⟨_,_,p,hp,_⟩|⟨_,_,_,_,p,hp⟩<;>exact⟨p,hp⟩
theorem bC.extend{X:dh}{φ:bI}{H:AH}{w:wO}(h:bC X φ H w){b off n m:Nat}{p:Pl}{x x0:bv}(hp:φ b=Wf p)(hx0:H.get b=Wf x0)
  (hwr:x0.wr=Th) (hxc:x0.cells=x.cells) (hfam:x0.fam=x.fam) (hstart:x0.start=x.start) (hsh:x0.shared=Th)
  {cs L7:am} (hoff:off+m<=RW x.cells) (hl:aE φ cs L7) (Fk:p.s+off+m+RW L7<=p.top)
  (Fd:aE φ ((x.cells.drop off).take m) ((List.range m).map λj=>(w.cell? ⟨p.c,p.s+off+j,Vc⟩).getD undef))
  (hsome:∀j,j<m->(w.cell? ⟨p.c,p.s+off+j,Vc⟩).isSome=Th)
  (hbelow:∀i q y,φ i=Wf q->H.get i=Wf y->y.st=1->q.c=p.c->y.fam=x.fam∧y.shared=Th∧p.s+y.start=q.s+x.start∧q.s+RW y.cells<=p.s+off+m) :
  ∃ φ',bC X φ' (H.push (lR x off n ((x.cells.drop off).take m++cs))) (w.setCells p.c (p.s+off+m) L7) ∧
   (∀i q,φ i=Wf q->φ' i=Wf q)∧φ' H.n=Wf ⟨p.c,p.s+off,m+RW L7,n,p.top,SM⟩∧(∀i q,φ' i=Wf q->φ i=Vc->i=H.n) ∧
   (∀j,j<RW L7->(w.cell? ⟨p.c,p.s+off+m+j,Vc⟩).isSome=Th)∧(∀j,j<RW L7->w.frozen? ⟨p.c,p.s+off+m+j,Vc⟩=SM):=by
 obtain⟨z,cz,ez,fz,hz,z1,z2,z3,z4,z5,z6,z7⟩:=h.dom b p hp;rw[hx0]at hz;cases hz
 have hn:φ H.n=Vc:=by
  cases hb:φ H.n with
  |none=>rfl
  | some q=>
   obtain⟨y,_,_,_,hy,_⟩:=h.dom _ _ hb;have:=AH.get_lt hy;omega
 have MT:∀{i q},φ i=Wf q->i≠H.n:=λhi e=>by grind
 have hfz:∀i,i<p.top->w.frozen? ⟨p.c,i,Vc⟩=SM:=λi hi=>h.frz b p x0 i hp hx0 hwr hi
 have hin:∀j,j<RW L7->(w.cell? ⟨p.c,p.s+off+m+j,Vc⟩).isSome=Th:=by
  intro j hj;rw[cell_of_heap z5,Array.getElem?_eq_getElem aa];rfl
 let P':Pl:=⟨p.c,p.s+off,m+RW L7,n,p.top,SM⟩
 have Fm:gM φ (nM φ H.n P'):=gM.add hn
 have hcl:RW ((x.cells.drop off).take m++cs)=m+RW L7:=by
  have:=hl.length;simp;omega
 have aH:∀{i},i≠H.n->(H.push (lR x off n ((x.cells.drop off).take m++cs))).get i=H.get i:=λhi=>AH.get_push hi
 refine⟨nM φ H.n P',⟨?_,?_,?_,?_,?_⟩,Fm,kI _ _ _,?_,hin,λj hj=>hfz _ aa⟩
 .intro g hg;obtain⟨q,hq,h1⟩:=h.glob g hg;exact⟨q,Fm g q hq,h1⟩
 .intro i q hq;by_cases e:i=H.n
  .subst e;rw[kI]at hq;cases hq;obtain⟨cs2,g1,g2⟩:=DR L7 (p.s+off+m) w cz z5;exact⟨_,cs2,ez,fz,AH.get_push_new H _,by simp[lR],cU,rfl,rfl,g1,ae,ae⟩
  .rw[jC e]at hq;obtain⟨y,cy,ey,fy,y1,y2,y3,y4,y5,y6,y7,y8⟩:=h.dom i q hq;by_cases hc:q.c=p.c
   .rw[hc]at y6;obtain⟨cs2,g1,g2⟩:=DR L7 (p.s+off+m) w cy y6;exact⟨y,cs2,ey,fy,ae,y2,y3,y4,y5,ae,aa,y8⟩
   grind[heap_setCells_other]
 .intro i q y k v hq hy DB hv;by_cases e:i=H.n
  .subst e;rw[kI]at hq;cases hq;rw[AH.get_push_new]at hy;cases hy;simp[lR]at hv;rw[List.getElem?_append]at hv;have Rg:RW ((x.cells.drop off).take m)=m:=by simp;omega
   rw[Rg]at hv;by_cases hk:k<m
   .grind[aE.at,List.getElem?_range,aC.mono,Option.isSome_iff_exists,wO.cell?_setCells_out]
   .rw[iN hk]at hv;obtain⟨v',g1,g2⟩:=hl.at hv
    have hj:k-m<RW L7:=by
     rcases Zi (k-m) (RW L7) with h'|h'
     .exact h'
     .grind
    have:=wO.cell?_setCells_in p.c L7 (p.s+off+m) w hin (k-m) hj;refine⟨v',?_,aC.mono Fm _ _ g2⟩;rw[List.getElem?_eq_getElem hj]at g1;rw[<-g1,<-this];congr 2
    grind
  .rw[jC e]at hq;rw[aH e]at hy;obtain⟨v',g1,g2⟩:=h.cell i q y k v hq hy DB hv;refine⟨v',?_,aC.mono Fm _ _ g2⟩;rw[wO.cell?_setCells_out _ _ _ _ _ (λhb _=>.inl ?_)]
   .exact g1
   .obtain⟨_,_,_,b4⟩:=hbelow i q y hq hy DB hb
    have hk:k<RW y.cells:=by
     rcases Zi k (RW y.cells) with h'|h'
     .exact h'
     .grind
    grind
 .grind[wO.frozen?_setCells,kI,jC,frz]
 .intro i i' q q' y y' hq hq' hy hy' h1 h1' hne' hc;by_cases e1:i=H.n
  .grind[kI,AH.get_push_new,jC,lR]
  .by_cases e2:i'=H.n
   .grind[kI,AH.get_push_new,jC,lR]
   .rw[jC e1]at hq;rw[jC e2]at hq';rw[aH e1]at hy;rw[aH e2]at hy';exact h.sep i i' q q' y y' hq hq' hy hy' h1 h1' hne' hc
 grind[jC]
theorem aa3(h:bC X φ H w){n Nd k:Nat}{s v:vl}{cs:am}{H':AH}(hv:eY X.P H n Nd s k cs=Wf (v,H')){s':vl}(hs:aC φ s s')
  {L7:am} (hl:aE φ cs L7) (Rg:RW L7=k*n) {ts:Array tI} {ty:tI} {x':vl} (e:tI)
  (hin:∀(RC:Option Addr)(Pa In:Nat)(w':wO),Pa+k<=In->(RC=Vc∧w'=w∨∃a,RC=Wf a∧(storeCells (a.add (Pa*n)) L7).run X.P w=.ok () w') ->
   (bU.append_ ts ty #[.slice RC Pa In,x']).run X.P w=.ok (.slice RC (Pa+k) In) w')
  (hgr:∀(RC:Option Addr)(Pa In:Nat)(Fn:am),In<Pa+k->k≠0->(Pa+k)*Nd<=140737488355328 ->
   (∀w':wO,w'.heap=w.heap->(bU.firstCells n Pa (.slice RC Pa In)).run X.P w'=.ok Fn.toArray w')->RW Fn=Pa*n ->
   ∃ nc cells,(bU.append_ ts ty #[.slice RC Pa In,x']).run X.P w=.ok (.slice (Wf ⟨w.heap.size,0,Vc⟩) (Pa+k) nc) (w.drew.alloc (.cells cells e)) ∧
    Pa+k<=nc∧cells.size=nc*n∧∀(i:Nat)(v:vl),(Fn++L7)[i]?=Wf v->cells[i]?=Wf v) :
  ∃φ' v' w',(bU.append_ ts ty #[s',x']).run X.P w=.ok v' w'∧aC φ' v v'∧bC X φ' H' w'∧cD φ H w φ' H' w'∧cY H.n Vc φ φ':=by
 have hst0:∀(a:Addr),k=0->(storeCells a L7).run X.P w=.ok () w:=by
  intro a h0;subst h0;have:L7=[]:=Ye.1 aa;subst this;rfl
 -- a new row of its own
 have loose:∀(RC:Option Addr)(Pa In:Nat)(Fn oldA:am),In<Pa+k->k≠0->(Pa+k)*Nd<=140737488355328 ->
   (∀w':wO,w'.heap=w.heap->(bU.firstCells n Pa (.slice RC Pa In)).run X.P w'=.ok Fn.toArray w')->RW Fn=Pa*n->aE φ oldA Fn ->
   ∃ φ' v' w',(bU.append_ ts ty #[.slice RC Pa In,x']).run X.P w=.ok v' w'∧aC φ' (.slice (Wf ⟨H.n,0,Vc⟩) (Pa+k) (Pa+k)) v' ∧
    bC X φ' (H.push (jt H.n n (oldA++cs))) w'∧cD φ H w φ' (H.push (jt H.n n (oldA++cs))) w'∧cY H.n Vc φ φ':=by
  intro RC Pa In Fn oldA hgt hk0 Fk Fd hol hor;obtain⟨nc,cells,hr,r1,r2,r3⟩:=hgr RC Pa In Fn hgt hk0 Fk Fd hol;have hd:bC X φ H w.drew:=h.same_heap rfl;have hrel:=hor.append hl;have hlen2:RW (oldA++cs)=(Pa+k)*n:=by rw[hrel.length,List.length_append,hol,Rg,Nat.add_mul]
  have Fm:(Pa+k)*n<=nc*n:=Zu _ r1
  obtain ⟨φ',p,g1,g2,g3,g4,g5,g6,g7,g8,g9,g10⟩:=aiY (w:=w.drew) hd (n:=n) (cells:=oldA++cs) (cs:=cells) e aa (λi u hu=>by
   grind[aE.at])
  refine⟨φ',_,_,hr,?_,g1,(cD.same_heap (w:=w) (w':=w.drew) rfl).trans g2,g10⟩;simp only[aC];refine⟨_,_,rfl,.inl ⟨rfl,rfl,p,g3,g4.symm,ae,.inr ⟨g6,?_,r1,?_⟩⟩⟩
  .grind
  .grind
 unfold eY at hv;split at hv
 ·-- a nil slice
  obtain rfl:=rZ hs;split at hv
  .rename_i h0;simp[Z9,Z5]at hv;obtain⟨rfl,rfl⟩:=hv;have:=hin Vc 0 0 w aa (.inl ⟨rfl,rfl⟩)
   grind[cD.refl,cY.refl]
  .rename_i h0;split at hv
   .rename_i Fk;simp[Z9,Z5]at hv;obtain⟨rfl,rfl⟩:=hv;have:=loose Vc 0 0 [] [] aa h0 ae (λw' _=>by rfl) ac (aE.nil φ)
    grind
   trivial
 .rename_i b off len cap;split at hv
  .cases hv
  rename_i hlc;split at hv
  ·-- nothing is appended
   rename_i h0;simp[Z9,Z5]at hv;obtain⟨rfl,rfl⟩:=hv;rcases rY hs with⟨p,c',hp,rfl,hcap⟩|⟨a',rfl,rfl,rfl⟩
   .have hcc:cap<=c':=by rcases hcap with g|⟨_,_,g,_⟩<;>omega
    have:=hin (Wf ⟨p.c,p.s+off,Vc⟩) len c' w aa (.inr ⟨_,rfl,hst0 _ h0⟩)
    grind[cD.refl,cY.refl]
   .have:=hin (Wf a') 0 0 w aa (.inr ⟨_,rfl,hst0 _ h0⟩)
    grind[cD.refl,cY.refl]
  rename_i h0;split at hv
  ·-- within the capacity
   rename_i hfit;split at hv
   .rename_i H1 hw;simp[Z9,Z5]at hv;obtain⟨rfl,rfl⟩:=hv;rcases rY hs with⟨p,c',hp,rfl,hcap⟩|⟨a',rfl,rfl,rfl⟩
    .have hcc:cap<=c':=by rcases hcap with g|⟨_,_,g,_⟩<;>omega
     obtain⟨g1,g2,g3,g4,g5⟩:=h.write hw hp hl;have DB:=run_storeCells_cells (P:=X.P) p.c (p.s+off+len*n) L7 0 w ae ae g5;have:=hin (Wf ⟨p.c,p.s+off,Vc⟩) len c' _ aa (.inr ⟨_,rfl,by rw[qm];omega⟩);rw[show p.s+off+len*n+0=p.s+(off+len*n) by omega]at this;refine⟨φ,_,_,this,?_,g1,g2,cY.refl _ _ _⟩;simp only[aC]
     exact⟨_,_,rfl,.inl ⟨rfl,rfl,p,hp,rfl,rfl,hcap⟩⟩
    .omega
   trivial
  rename_i hnofit;split at hv
  case isFalse=>cases hv
  rename_i Fk;split at hv
  case h_2=>cases hv
  rename_i x hx;split at hv
  case isFalse=>cases hv
  rename_i hlive;obtain⟨hst1,hlenx⟩:=hlive;split at hv
  ·-- surely a new row
   rename_i hsure;simp[Z9,Z5]at hv;obtain⟨rfl,rfl⟩:=hv;rcases rY hs with⟨p,c',hp,rfl,hcap⟩|⟨a',rfl,rfl,rfl⟩
   .obtain⟨y,cy,ey,fy,y1,y2,y3,y4,y5,y6,y7,y8⟩:=h.dom b p hp;rw[hx]at y1;cases y1
    have hcc:c'=cap:=by
     rcases hcap with g|⟨g1,g2,_⟩
     .exact g
     .grind
    subst hcc;have hrd:cW H b off (len*n)=Wf ((x.cells.drop off).take (len*n)):=by simp[cW,hx,hst1,hlenx]
    obtain⟨Fn,o1,o2,o3,o4⟩:=h.read hrd hp;refine loose (Wf ⟨p.c,p.s+off,Vc⟩) len c' Fn _ aa h0 Fk (λw' hw'=>?_) o2 o1
    grind[bU.firstCells,run_loadCells_list,wO.cell?]
   .have:=loose (Wf a') 0 0 [] [] aa h0 aa (λw' _=>by simp[bU.firstCells,loadCells,loadCellsFrom]) ac (aE.nil φ)
    grind
  rename_i hunsure;split at hv
  case isFalse=>cases hv
  rename_i hc;obtain⟨hwr,hesz,hend,Is⟩:=hc;simp[Z9,Z5]at hv;obtain⟨rfl,rfl⟩:=hv
  -- the abstract heap is weakened
  have hxs:∀i,(H.set b {x with shared:=Th,ver:=x.ver+1}).get i=if i=b then Wf {x with shared:=Th,ver:=x.ver+1}else H.get i:=AH.get_set hx
  have hwk1:Wk H (H.set b {x with shared:=Th,ver:=x.ver+1}):=⟨λi y hy=>by
   grind⟩
  have hwk:=hwk1.trans (Wk.kill _ (beyond b x.fam (x.start+off+len*n)) (λi y hb=>by grind[beyond]));have hdom:∀i q,φ i=Wf q->∃y,H.get i=Wf y:=λi q hq=>by obtain⟨y,_,_,_,hy,_⟩:=h.dom i q hq;grind
  have hW:=h.weaken hwk
  have hE:=cD.weaken (w:=w) hdom hwk (λi y hn hy hsy=>by
   rw[AH.get_kill,hxs];rcases rY hs with⟨p,c',hp,_,_⟩|⟨a',_,_,_⟩
   .have hib:i≠b:=λe=>by grind
    rw[iN hib,hy];have:beyond b x.fam (x.start+off+len*n) i y=SM:=by simp[beyond,hsy,hib]
    grind
   .have hib:i≠b:=λe=>by grind[aeQ]
    rw[iN hib,hy];have:beyond b x.fam (x.start+off+len*n) i y=SM:=by simp[beyond,hsy,hib]
    grind)
  generalize hH1:(H.set b {x with shared:=Th,ver:=x.ver+1}).kill (beyond b x.fam (x.start+off+len*n))=H1 at hW hE hwk;have hn1:H1.n=H.n:=by rw[<-hH1];rfl
  have hget1:∀i,H1.get i=(if i=b then Wf {x with shared:=Th,ver:=x.ver+1}else H.get i).map λy=>if beyond b x.fam (x.start+off+len*n) i y then{y with st:=2,ver:=y.ver+1}else y:=by
   intro i;rw[<-hH1,AH.get_kill,hxs]
  have reloc:∀(RC:Option Addr)(Pa In:Nat)(Fn oldA:am),In<Pa+k->k≠0->(Pa+k)*Nd<=140737488355328 ->
    (∀w':wO,w'.heap=w.heap->(bU.firstCells n Pa (.slice RC Pa In)).run X.P w'=.ok Fn.toArray w')->RW Fn=Pa*n->aE φ oldA Fn ->
    ∃ φ' v' w',(bU.append_ ts ty #[.slice RC Pa In,x']).run X.P w=.ok v' w'∧aC φ' (.slice (Wf ⟨H.n,0,Vc⟩) (Pa+k) (Pa+k)) v' ∧
     bC X φ' (H1.push (lR x off n (oldA++cs))) w'∧cD φ H w φ' (H1.push (lR x off n (oldA++cs))) w'∧cY H.n Vc φ φ':=by
   intro RC Pa In Fn oldA hgt hk0 Fk Fd hol hor;obtain⟨nc,cells,hr,r1,r2,r3⟩:=hgr RC Pa In Fn hgt hk0 Fk Fd hol;have hd:bC X φ H1 w.drew:=hW.same_heap rfl;have hrel:=hor.append hl;have hlen2:RW (oldA++cs)=(Pa+k)*n:=by rw[hrel.length,List.length_append,hol,Rg,Nat.add_mul]
   have Fm:(Pa+k)*n<=nc*n:=Zu _ r1
   have hnone:φ H1.n=Vc:=by
    cases hb:φ H1.n with
    |none=>rfl
    | some q=>
     obtain⟨y,hy⟩:=hdom _ _ hb;have:=AH.get_lt hy;omega
   obtain ⟨g1,g2⟩:=hd.new (e:=e) (cs:=cells) hnone (AH.get_push_new H1 (lR x off n (oldA++cs))) (λi hi=>AH.get_push hi) rfl (by grind[lR]) (λi u hu=>by
    obtain⟨u',k1,k2⟩:=hrel.at hu
    grind)
   refine⟨_,_,_,hr,?_,g1,(hE.trans (cD.same_heap (w':=w.drew) rfl)).trans g2,λi q hq hn=>?_⟩
   rotate_left
   .grind[jC]
   simp only[aC];refine⟨_,_,rfl,.inl ⟨rfl,rfl,_,by rw[<-hn1];exact kI _ _ _,rfl,ac,.inr ⟨rfl,?_,r1,?_⟩⟩⟩
   .grind[lR]
   .grind[lR]
  rcases rY hs with⟨p,c',hp,rfl,hcap⟩|⟨a',rfl,rfl,rfl⟩
  .obtain⟨y,cy,ey,fy,y1,y2,y3,y4,y5,y6,y7,y8⟩:=h.dom b p hp;rw[hx]at y1;cases y1;have hrd:cW H b off (len*n)=Wf ((x.cells.drop off).take (len*n)):=by simp[cW,hx,hst1,hlenx]
   obtain⟨Fn,o1,o2,o3,o4⟩:=h.read hrd hp;by_cases hinp:len+k<=c'
   ·-- in KK
    have hroom2:p.s+off+len*n+RW L7<=p.top:=by
     rcases hcap with g|⟨_,_,_,g⟩
     .omega
     .rw[Rg];have:len*n+k*n<=c'*p.esz:=by rw[<-Nat.add_mul,<-y5,hesz];exact Zu _ hinp
      omega
    obtain⟨xb,hxb,k1,k2,k3,k4,_⟩:=hwk.to b x hx
    have hxb2:xb.shared=Th:=by
     have:=hget1 b;rw[hxb,ip rfl]at this;simp[Option.map_some,Z9]at this;rw[this];split<;>rfl
    have holdw:Fn=(List.range (len*n)).map λj=>(w.cell? ⟨p.c,p.s+off+j,Vc⟩).getD undef:=by
     apply Yf;intro j;by_cases hj:j<len*n
     .rw[List.getElem?_map,List.getElem?_range hj];have hj':j<RW Fn:=aa
      grind[qm]
     .rw[List.getElem?_eq_none aa,List.getElem?_eq_none ae]
    have hsm:∀j,j<len*n->(w.cell? ⟨p.c,p.s+off+j,Vc⟩).isSome=Th:=by
     intro j hj;have:=o4 j _ (List.getElem?_eq_getElem (by omega:j<RW Fn));rw[qm]at this;rw[this];rfl
    obtain ⟨φ',g1,g2,g3,g4,g5,g6⟩:=bC.extend hW (b:=b) (off:=off) (n:=n) (m:=len*n) (p:=p) (x:=x) (x0:=xb) hp hxb (k2.trans hwr) k1 k3 k4 hxb2 hlenx hl hroom2
     ae hsm (λi q y hq hy hyst hqc=>by
      rw[hget1]at hy;by_cases ei:i=b
      .subst ei
       grind[beyond]
      .rw[iN ei]at hy;cases hyi:H.get i with
       |none=>grind
       | some y0=>
        rw[hyi]at hy;simp[Option.map_some,Z9]at hy;by_cases hbe:beyond b x.fam (x.start+off+len*n) i y0=Th
        .grind
        .rw[iN hbe]at hy;subst hy;rcases h.sep b i p q x y0 hp hq hx hyi hst1 hyst (λe=>ei e.symm) hqc.symm with⟨s1,_⟩|⟨s1,s2,s3,s4⟩
         .grind
         .simp[beyond,s1,s3,hyst]at hbe;exact⟨s1.symm,s3,s4,aa⟩)
    have hone:∀u∈L7,u.oneCell'=Th:=by
     intro u hum;obtain⟨j,hj,rfl⟩:=Wi hum;have hj':j<RW cs:=by have:=hl.length;omega
     exact(((qt cs L7).1 hl).2 j cs[j] L7[j] (List.getElem?_eq_getElem hj') (List.getElem?_eq_getElem hj)).okCell (Zz.1 Is _ (X2 hj'))
    have DB:=run_storeCells_cells (P:=X.P) p.c (p.s+off+len*n) L7 0 w aa aa hone;have hrun:=hin (Wf ⟨p.c,p.s+off,Vc⟩) len c' _ hinp (.inr ⟨_,rfl,by rw[qm];omega⟩);rw[Nat.add_zero]at hrun;rw[hn1]at g3 g4;refine⟨φ',_,_,hrun,?_,g1,?_,λi q hq hn=>.inl ae⟩
    .simp only[aC];refine⟨_,_,rfl,.inl ⟨rfl,rfl,_,g3,rfl,ac,?_⟩⟩;rcases hcap with g|⟨e1,e2,e3,e4⟩
     .omega
     .refine .inr ⟨rfl,?_,hinp,?_⟩
      .grind
      grind
    .refine⟨g2,by simp[size_setCells],?_,?_,?_,?_,os_setCells ..,K7 ..⟩
     .intro c hc ho;exact heap_setCells_other (λe=>ho ⟨b,p,x,hp,e.symm,hx,hst1,hwr⟩) _ _ _
     .intro i q hq hnone;have:=g4 i q hq hnone;subst this;rw[g3]at hq;cases hq;exact .inr ⟨b,p,x,hp,rfl,hx,hst1,hwr⟩
     .intro i q y' hq hy' h1 h2
      have hi:i≠H1.n:=by
       rw[hn1];obtain⟨z,hz⟩:=hdom i q hq;have:=AH.get_lt hz;omega
      grind[AH.get_push]
     .intro i y hn hy h1 h2
      have hn':φ i=Vc:=by
       cases hb:φ i with
       |none=>rfl
       |some q=>grind
      have hi:i≠H1.n:=by rw[hn1];have:=AH.get_lt hy;omega
      grind[AH.get_push,cD.abs]
   ·-- a new row
    exact reloc (Wf ⟨p.c,p.s+off,Vc⟩) len c' Fn _ aa h0 Fk (λw' hw'=>by
     grind[bU.firstCells,run_loadCells_list,wO.cell?]) o2 o1
  .have:=reloc (Wf a') 0 0 [] [] aa h0 aa (λw' _=>by simp[bU.firstCells,loadCells,loadCellsFrom]) ac (aE.nil φ)
   grind
 trivial
def fL(X:dh)(φ:bI)(H:AH)(w:wO)(rid:Option Nat)(v:vl)(H':AH)(r:Result vl):Prop:=
 ∃φ' v' w',r=.ok v' w'∧aC φ' v v'∧bC X φ' H' w'∧cD φ H w φ' H' w'∧cY H.n rid φ φ'
theorem fL.same(h:bC X φ H w){rid:Option Nat}{v:vl}{r:Result vl}(hr:r=.ok v' w)(hv:aC φ v v'):fL X φ H w rid v H r:=
 ⟨φ,v',w,hr,hv,h,cD.refl _ _ _,cY.refl _ _ _⟩
theorem Gt{o:Option vl}{r:vl}(h:r9 o=Wf r):o=Wf r∧plain r=Th:=by
 unfold r9 at h
 grind
theorem Gr{v:vl}(h:aC φ v v')(hp:plain v=Th):v'=v:=(aC.of_plain v hp v').1 h
theorem lI{v:vl}(hp:plain v=Th):aC φ v v:=(aC.of_plain v hp v).2 rfl
theorem apQ(h:bC X φ H w){rid:Option Nat}{z:vl}(hz:fX X.P t=Wf z)(hp:plain z=Th){H':AH}(hm:kT H rid z.cells.toList=Wf (b,H')):
  fL X φ H w rid (.pointer (Wf ⟨b,0,Vc⟩)) H' ((Instr.alloc t Th (.tuple #[])).run X.P w):=by
 obtain⟨φ',p,g1,g2,g3,g4,g5,_,g7⟩:=GZ h hm (cs:=z.cells) t (lI hp).cells;refine⟨φ',.pointer (Wf ⟨w.heap.size,0,Vc⟩),_,?_,?_,g1,g2,g7⟩
 .simp[Instr.alloc,zp hz,newVar,newRow]
 .have:=AE (off:=0) g3
  grind
theorem aoZ(h:bC X φ H w){rid:Option Nat}(hx:aC φ x x'){H':AH}(hm:kT H rid x.cells.toList=Wf (b,H')):
  fL X φ H w rid (.pointer (Wf ⟨b,0,Vc⟩)) H' ((Instr.box t x').run X.P w):=by
 obtain⟨φ',p,g1,g2,g3,g4,g5,_,g7⟩:=GZ h hm (cs:=x'.cells) t hx.cells;refine⟨φ',.pointer (Wf ⟨w.heap.size,0,Vc⟩),_,?_,?_,g1,g2,g7⟩
 .rfl
 .have:=AE (off:=0) g3
  grind
theorem XA{n:Nat}(g3:φ' b=Wf p)(g5:p.s=0):aC φ' (.slice (Wf ⟨b,0,Vc⟩) l c) (.slice (Wf ⟨p.c,0,Vc⟩) l c):=by simp only[aC];exact⟨_,_,rfl,.inl ⟨rfl,rfl,p,g3,rfl,ae,.inl rfl⟩⟩
theorem aiM(h:bC X φ H w){rid:Option Nat}{l c v:vl}{H':AH}(hv:yi X.P H rid t l c=Wf (v,H'))(hl:aC φ l l')(hc:aC φ c c'):
  fL X φ H w rid v H' ((Instr.makeSlice t l' c').run X.P w):=by
 unfold yi at hv;split at hv
 .rename_i e kl l kc c hu;split at hv
  .rename_i n z Nd hn hz hby;split at hv
   .rename_i hcnd;obtain⟨c1,c2,c3,c4,c5,c6,c7⟩:=hcnd;split at hv
    .rename_i b H1 hm;simp[Z9,Z5]at hv;obtain⟨rfl,rfl⟩:=hv;obtain rfl:=tS hl;obtain rfl:=tS hc;obtain⟨i,hi,i1,i2,i3⟩:=HF hn hz hby;subst i1;subst i3;have hrun:=run_make (P:=X.P) w t e i z hu hi i2 kl kc l c c4 c5 c6 c7
     have hcl:(madeCells z.cells (c.toNat*i.size)).toList=fe z.cells.toList (c.toNat*i.size):=by
      have:=Cf c2 c3 (c.toNat*i.size);unfold madeCells;rw[<-this]
     obtain⟨φ',p,g1,g2,g3,g4,g5,_,g7⟩:=GZ h hm (cs:=madeCells z.cells (c.toNat*i.size)) e (by grind[EJ]);refine⟨φ',_,_,hrun,?_,g1,g2,g7⟩;rw[<-g4];exact XA (n:=0) g3 g5
    trivial
   trivial
  trivial
 trivial
theorem aoX(h:bC X φ H w){rid:Option Nat}{t:tI}{len:Nat}{ps ps':Array (Nat×vl)}{v:vl}{H':AH}(hv:rr X.P H rid t len ps=Wf (v,H'))
  (h1:ps.toList.map (·.1)=ps'.toList.map (·.1)) (h2:aE φ (ps.toList.map (·.2)) (ps'.toList.map (·.2))) :
  fL X φ H w rid v H' ((Instr.buildSlice t len ps').run X.P w):=by
 unfold rr at hv;split at hv
 .rename_i e hu;split at hv
  .rename_i n z hn hz;split at hv
   .rename_i hcnd;obtain⟨c1,c2,c3,c4⟩:=hcnd;split at hv
    .rename_i cs hf;split at hv
     .rename_i b H1 hm;simp[Z9,Z5]at hv;obtain⟨rfl,rfl⟩:=hv;have hze:=Cf c2 c3 (len*n);obtain⟨L7,hf',hl⟩:=H7 (φ:=φ) _ _ _ (fe z.cells.toList (len*n)).toArray (fe z.cells.toList (len*n)).toArray _ h1 h2 (by grind[EJ]) hf;obtain⟨φ',p,g1,g2,g3,g4,g5,_,g7⟩:=GZ h hm (cs:=L7) e hl
      refine⟨φ',.slice (Wf ⟨w.heap.size,0,Vc⟩) len len,_,?_,?_,g1,g2,g7⟩
      .rw[hze]at hf';have c4':¬(2^24<len*n):=aa;by_cases h0:len*n=0
       .rw[h0]at hf';simp[Array.range_zero',Array.map_empty]at hf';simp[Instr.buildSlice,cT hu,kN hn,h0,hf',newRow,Array.range_zero']
       .simp[Instr.buildSlice,cT hu,kN hn,zp hz,h0,hf',newRow];omega
      .rw[<-g4];exact XA (n:=0) g3 g5
     trivial
    trivial
   trivial
  trivial
 trivial
theorem ah8{y:vl}(h:kR d x y=Th)(hx:aC φ x x')(hy:aC φ y y'):
  kR d x' y'=Th∧isNil x'=isNil x∧isNil y'=isNil y:=by
 unfold kR at h;split at h
 .rename_i e a n c b m k;cases a<;>cases b<;>simp[aC]at hx hy<;>(try obtain⟨_,_,rfl,_⟩:=hx)<;>(try subst hx)<;>(try obtain⟨_,_,rfl,_⟩:=hy)<;>(try subst hy)<;>simp[kR,isNil]
 .rename_i e a b;cases a<;>cases b<;>simp[aC]at hx hy<;>(try obtain⟨_,rfl,_⟩:=hx)<;>(try subst hx)<;>(try obtain⟨_,rfl,_⟩:=hy)<;>(try subst hy)<;>simp[kR,isNil]
 .rename_i fn x1 y1;obtain⟨x1⟩:=x1;obtain⟨y1⟩:=y1;simp[aC]at hx hy
  grind[kR,isNil]
 .rename_i fn x1 y1;obtain⟨x1⟩:=x1;obtain⟨y1⟩:=y1;simp[aC]at hx hy
  grind[kR,isNil]
 .grind[aC,kR]
 .cases h
theorem aia{y:vl}{p q:Bool}(hk:kR (P.underlying t) x y=Th)(hx:isNil x=Wf p)(hy:isNil y=Wf q)(h:p=Th∨q=Th)(w:wO):
  (Op.equal t x y).run P w=.ok (p&&q) w:=by
 obtain⟨d,hd⟩:∃d,Op.maxDepth=d+1:=⟨9999,rfl⟩;unfold Op.equal;rw[hd];unfold kR at hk;split at hk
 .rename_i e a n c b m k hu;simp[isNil,Z9]at hx hy;subst hx;subst hy;cases a with
  |none=>cases b<;>simp[Op.equalIn,cT hu]
  | some a=>cases b with
   |none=>simp[Op.equalIn,cT hu]
   |some b=>grind
 .rename_i e a b hu;simp[isNil,Z9]at hx hy;subst hx;subst hy;cases a with
  |none=>cases b<;>simp[Op.equalIn,cT hu]
  | some a=>cases b with
   |none=>simp[Op.equalIn,cT hu]
   |some b=>grind
 .rename_i hu;simp only[isNil,Z9]at hx hy;subst hx;subst hy;simp[Op.equalIn,cT hu]
 .rename_i hu;simp only[isNil,Z9]at hx hy;subst hx;subst hy;simp[Op.equalIn,cT hu]
 .rename_i hu;simp only[isNil,Z9]at hx hy;subst hx;subst hy;simp[Op.equalIn,cT hu]
 trivial
theorem ah9{y:vl}(hk:kR (P.underlying t) x y=Th)(w:wO):
  (eqGuard op t ox oy x y).run P w=.ok () w:=by unfold kR at hk;split at hk<;>first|(cases hk;done)|(unfold eqGuard;cases op<;>simp)
theorem aif{y:vl}(hk:kR d x y=Th):binOp .eql t x y=(do pure (.bool (<-Op.equal t x y))):=by unfold kR at hk;split at hk<;>first|(cases hk;done)|rfl
theorem aie{y:vl}(hk:kR d x y=Th):binOp .neq t x y=(do pure (.bool (!(<-Op.equal t x y)))):=by unfold kR at hk;split at hk<;>first|(cases hk;done)|rfl
theorem aic{y v:vl}(hv:Df X.P op t x y=Wf v)(hx:aC φ x x')(hy:aC φ y y'):
  (do eqGuard op t ox oy x' y';binOp op t x' y').run X.P w=.ok v w∧plain v=Th:=by
 unfold Df at hv;split at hv
 case isFalse=>cases hv
 case isTrue hk=>
 obtain⟨hk',nx,ny⟩:=ah8 hk hx hy;split at hv
 all_goals first|(cases hv;done)|skip
 all_goals
  simp[Z9]at hv;subst hv;rename_i e1 e2;rw[<-nx]at e1;rw[<-ny]at e2;refine⟨?_,rfl⟩;rw[Sem.run_bind,ah9 hk',Result.andThen_ok]
  first|rw[aif hk']|rw[aie hk']
  simp[aia hk' e1 e2 ac]
theorem ao5{y v:vl}(hv:kD X.P op t ox oy x y=Wf v)(hx:aC φ x x')(hy:aC φ y y'):
  ∃v',(do eqGuard op t ox oy x' y';binOp op t x' y').run X.P w=.ok v' w∧aC φ v v':=by
 unfold kD at hv;split at hv
 .rename_i hp;simp[Z7]at hp;obtain rfl:=Gr hx hp.1;obtain rfl:=Gr hy hp.2;split at hv
  .rename_i r hr;split at hv
   .simp_all[AC,lI]
   trivial
  trivial
 .obtain⟨h1,h2⟩:=aic (w:=w) (ox:=ox) (oy:=oy) hv hx hy
  grind[lI]
theorem aiN{v:vl}(hv:LG X.P t x=Wf v)(hx:aC φ x x'):
  ∃v',(Instr.makeInterface t x').run X.P w=.ok v' w∧aC φ v v':=by
 unfold LG at hv;split at hv
 .cases hv
 .cases hv
 .rename_i d hd _ hu;simp[Z9]at hv;subst hv;refine⟨.iface t x',?_,by grind[aC]⟩
  cases d<;>first
   |(exact absurd rfl (hd _);done)
   |simp[Instr.makeInterface,cT hu]
theorem aay:∀{l l':am}{bs:bB},bytesOf l=Wf bs→aE φ l l'→l'=l∧∀(acc:ByteArray),
  (forIn (m:=Sem) l acc (λc (s:ByteArray)=>match c with
   |.int .u8 n=>pure (ForInStep.yield (s.push (UInt8.ofNat n.toNat)))
   | _=>do
    (stuck "bytesToString: byte expected" : Sem PUnit)
    pure (ForInStep.yield s))).run X.P w=.ok ⟨acc.data++bs.toArray⟩ w
 | [],l',bs,hb,hl=>by
  simp_all[bytesOf,aE]
 | v::l,l',bs,hb,hl=>by
  simp[aE]at hl;obtain⟨u,r,rfl,hv,hr⟩:=hl;simp[bytesOf]at hb;split at hb
  .rename_i b rs hb1 hb2;simp[Z9]at hb;subst hb;obtain⟨rfl,ih⟩:=aay hb2 hr;unfold Oi at hb1;split at hb1
   .rename_i n;split at hb1
    .simp[Z9]at hb1;subst hb1;obtain rfl:=tS hv
     simp_all
    trivial
   trivial
  trivial
theorem an8(h:bC X φ H w){rid:Option Nat}{s d:tI}{v:vl}{H':AH}(hv:oz X.P H s d x=Wf (v,H'))(hx:aC φ x x'):
  fL X φ H w rid v H' ((convert s d x').run X.P w):=by
 have hplain:(if plain x then(r9 (pv X.P (convert s d x))).map λr=>(r,H)else Vc)=Wf (v,H')->fL X φ H w rid v H' ((convert s d x').run X.P w):=by
  intro hv;split at hv
  .rename_i hp;simp[Z3,Z5]at hv;obtain⟨r,hr,rfl,rfl⟩:=hv;obtain⟨h1,h2⟩:=Gt hr;obtain rfl:=Gr hx hp
   simp_all[fL.same,AC,lI]
  .cases hv
 unfold oz at hv;split at hv
 .rename_i ds e str hs hd;split at hv
  .rename_i he;simp[Z9,Z5]at hv;obtain⟨rfl,rfl⟩:=hv;obtain rfl:=AB hx;have jw:bC X φ H w.drew:=h.same_heap rfl
   let bs:am:=str.data.toList.map λb=>vl.int .u8 b.toNat
   let cap:=(Question.appendCap str.size 0 e).cut (w.tape w.drawn (.appendCap str.size 0 e))
   have hcap:str.size<=cap:=Nat.le_add_right _ _
   let cs:Array vl:=(str.data.map λb=>vl.int .u8 b.toNat)++Array.replicate (cap-str.size) (.int .u8 0)
   have hlb:RW bs=str.size:=by simp only[bs,List.length_map,Array.length_toList];rfl
   have hcs:cs.size=cap:=by
    have:(str.data.map λb=>vl.int .u8 b.toNat).size=str.size:=by rw[Array.size_map];rfl
    simp[cs,Array.size_append,this,Array.size_replicate];omega
   obtain ⟨φ',p,g1,g2,g3,g4,g5,g6,g7,g8,g9,g10⟩:=Uf (w:=w.drew) jw (n:=1) (cells:=bs) (cs:=cs) e (cs.size,cs.size+1) (λi hi=>by omega) aa (λi u hu=>by
    refine⟨u,?_,?_⟩
    ·have hi:i<RW bs:=by
      rcases Zi i (RW bs) with h'|h'
      .exact h'
      .grind
     grind
    grind[oh])
   refine⟨φ',.slice (Wf ⟨w.heap.size,0,Vc⟩) str.size cap,_,?_,?_,g1,(cD.same_heap (w:=w) (w':=w.drew) rfl).trans g2,λi p hp hn=>(g10 i p hp hn).imp id (λg=>by cases g)⟩
   .rw[<-aln];simp only[convert,Sem.run_bind,cT hs,cT hd,cT he,Result.andThen_ok,Conv.stringToBytes];have hfo:(Question.appendCap str.size 0 e).forced=SM:=rfl
    have hsh:(w.drew.alloc (.cells cs e)).shape? w.heap.size=Wf (e,cs.size):=by
     have:=heap_alloc_new w.drew (.cells cs e);simp only[wO.size_drew]at this;unfold wO.shape?;rw[this]
    simp[run_choose,hfo,Zg,iF,Result.andThen_ok,newRow,Sem.run_bind,run_newObj,wO.alloc_eq,wO.drew_eq,Sem.run_pure,markStringish,run_shape,hsh,run_freeze,wO.size_drew]
    grind[Result.andThen,Sem.run,freeze]
   .simp only[aC];refine⟨_,_,rfl,.inl ⟨rfl,rfl,p,g3,g4.symm,ae,.inr ⟨g6,?_,hcap,?_⟩⟩⟩
    .grind
    grind
  trivial
 .rename_i e a len cap hs hd;split at hv
  .rename_i he;split at hv
   .simp[Z9,Z5]at hv;obtain⟨rfl,rfl⟩:=hv;obtain rfl:=rZ hx;refine fL.same h ?_ JP;simp[convert,cT hs,cT hd,cT he,Conv.bytesToString]
   .rename_i b off;split at hv
    .rename_i cs hc;simp[Z3,Z5]at hv;obtain⟨bs,hb,rfl,rfl⟩:=hv;refine fL.same h ?_ JP
     have fin:∀(a':Addr)(c':Nat)(L7:am),(loadCells a' len).run X.P w=.ok L7.toArray w->aE φ cs L7->(convert s d (.slice (Wf a') len c')).run X.P w=.ok (.string ⟨bs.toArray⟩) w:=by
      intro a' c' L7 hl hr;obtain⟨rfl,hf⟩:=aay (X:=X) (w:=w) hb hr;have:=hf ByteArray.empty;simp only[convert,Sem.run_bind,cT hs,cT hd,cT he,Result.andThen_ok,Conv.bytesToString,hl];simp only[List.forIn_toArray];refine Eq.trans (RT (λr=>Result.andThen r λa w'=>Sem.run X.P (pure (vl.string a)) w') this) ?_;simp
     split at hc
     .rename_i h0;split at hc
      case isFalse=>cases hc
      simp only[Z9]at hc;subst hc;subst h0;obtain⟨a',c',rfl,_⟩:=nX hx
      simp_all[loadCells,loadCellsFrom,aE.nil]
     grind[rY,Ul]
    trivial
   trivial
  trivial
 grind
def gS(X:dh)(φ:bI)(H:AH)(w:wO)(rid:Option Nat)(v:vl)(H':AH)(r:Result Next):Prop:=
 ∃φ' v' w',(r=.ok (.value v') w'∨(r=.ok .skip w'∧v'=undef))∧aC φ' v v'∧bC X φ' H' w'∧cD φ H w φ' H' w'∧cY H.n rid φ φ'
theorem fL.of_none{rid:Option Nat}{v:vl}{H':AH}{r:Result vl}(hs:fL X φ H w Vc v H' r):fL X φ H w rid v H' r:=by obtain⟨φ',v',w',hr,h1,h2,h3,h4⟩:=hs;exact⟨φ',v',w',hr,h1,h2,h3,λi p hp hn=>(h4 i p hp hn).imp id (λg=>by cases g)⟩
theorem gS.of_sim{rid:Option Nat}{v:vl}{H':AH}{s:Sem vl}(hs:fL X φ H w rid v H' (s.run X.P w)):gS X φ H w rid v H' ((do pure (.value (<-s)):Sem Next).run X.P w):=by obtain⟨φ',v',w',hr,h1,h2,h3,h4⟩:=hs;exact⟨φ',v',w',.inl (by simp[hr]),h1,h2,h3,h4⟩
theorem gS.of_val(h:bC X φ H w){rid:Option Nat}{v:vl}{s:Sem vl}(hs:∃v',s.run X.P w=.ok v' w∧aC φ v v'):gS X φ H w rid v H ((do pure (.value (<-s)):Sem Next).run X.P w):=by grind[of_sim,fL.same]
theorem aE.map_mem{α:Type}{f g:α->vl}:∀(l:List α),(∀x∈l,aC φ (f x) (g x))->aE φ (l.map f) (l.map g)
 |[],_=>aE.nil φ
 |x::l,h=>aE.cons (h x ac) (aE.map_mem l (λy hy=>h y ae))
theorem NX{P:pG}{t tx ty e:tI}(ht:P.underlying t=Wf (.slice e)){n:Nat}(hn:ci P e=Wf n){RC:Option Addr}{dLen dCap:Nat}{x':vl}
  {k m:Nat} {L7:am} {w w':wO} (Rg:(bU.lenOf x').run P w=.ok k w) (hm:m=min k dLen) (hc:(bU.firstCells n m x').run P w=.ok L7.toArray w)
  (DB:RC=Vc∧w'=w∨∃a,RC=Wf a∧(storeCells a L7).run P w=.ok () w') :
  (bU.copy_ #[t,tx] ty #[.slice RC dLen dCap,x']).run P w=.ok (.int .i64 m) w':=by
 have hmn:Nat.min k dLen=m:=hm.symm;rcases DB with⟨rfl,rfl⟩|⟨a,rfl,h⟩
 .simp_all[bU.copy_,goInt,cT,kN]
 simp_all[bU.copy_,goInt,cT,kN]
theorem adV(h:bC X φ H w){cs:am}(hs:fH H n x=Wf (k,cs))(hx:aC φ x x')(m:Nat)(hm:m<=k):
  ∃L7,aE φ (cs.take (m*n)) L7∧RW L7=m*n∧(bU.lenOf x').run X.P w=.ok k w∧(bU.firstCells n m x').run X.P w=.ok L7.toArray w:=by
 unfold fH at hs;split at hs
 .simp only[Z9,Z5]at hs;obtain⟨rfl,rfl⟩:=hs;obtain rfl:=rZ hx;have:m=0:=aa;subst this;exact⟨[],by simp[aE.nil],ac,aN,aN⟩
 .rename_i b off len cap;split at hs
  .rename_i h0;simp only[Z9,Z5]at hs;obtain⟨rfl,rfl⟩:=hs;subst h0;obtain⟨a',c',rfl,_⟩:=nX hx;have:m=0:=aa;subst this;exact⟨[],by simp[aE.nil],ac,aN,by simp[bU.firstCells,loadCells,loadCellsFrom]⟩
  .rename_i h0;simp only[Z3,Z5]at hs;obtain⟨cs0,hc,rfl,rfl⟩:=hs;rcases rY hx with⟨p,c',hp,rfl,_⟩|⟨a',rfl,h00,_⟩
   .have hmn:m*n<=len*n:=Zu _ hm;obtain⟨csf,h1,h2,h3,h4⟩:=h.read hc hp;refine⟨csf.take (m*n),h1.take _,ae,aN,?_⟩;simp[bU.firstCells];have hl:RW (csf.take (m*n))=m*n:=by simp;omega
    grind[run_loadCells_list]
   omega
 .rename_i s;split at hs
  .rename_i h1;simp[Z9,Z5]at hs;obtain⟨rfl,rfl⟩:=hs;subst h1;obtain rfl:=AB hx;have hsz:RW s.data.toList=s.size:=by rw[Array.length_toList];rfl
   refine⟨_,(aE.map (λ_=>oh) s.data.toList).take (m*1),ae,aN,?_⟩;simp only[bU.firstCells,Sem.run_pure];congr 1;apply Array.ext'
   have:(s.extract 0 m).data.toList=s.data.toList.take m:=by
    simp[ByteArray.data_extract,List.extract_eq_take_drop]
   simp
  trivial
 trivial
theorem aop{P:pG}{t ty e:tI}(ht:P.underlying t=Wf (.slice e)){n:Nat}{z:vl}(hn:ci P e=Wf n)(hz:fX P e=Wf z)(hzs:z.cells.size=n)(h0:0<n)
  {a:Addr} {len cap:Nat} (hl:len≠0) {w w':wO} (DB:(storeCells a (fe z.cells.toList (len*n))).run P w=.ok () w') :
  (bU.clear_ #[t] ty #[.slice (Wf a) len cap]).run P w=.ok (.tuple #[]) w':=by
 have hz2:(bU.zeroCells z.cells len).toList=fe z.cells.toList (len*n):=by
  have hze:=Cf hzs h0 (len*n);rw[hzs]at hze;rw[bU.zeroCells,hzs,<-hze]
 simp_all[bU.clear_,cT,zp]
theorem aoq(ht:P.underlying t=Wf (.slice e)){w:wO}:
  (bU.clear_ #[t] ty #[.slice Vc len cap]).run P w=.ok (.tuple #[]) w:=by simp[bU.clear_,cT ht]
theorem aoo(ht:P.underlying t=Wf (.slice e)){a:Option Addr}{w:wO}:
  (bU.clear_ #[t] ty #[.slice a 0 cap]).run P w=.ok (.tuple #[]) w:=by cases a<;>simp[bU.clear_,cT ht]
theorem aoT(h:bC X φ H w){rid:Option Nat}{b:bU}{v:vl}{H':AH}(hv:fK X.P H b ts t args=Wf (v,H'))(ha:aE φ args GS)(consts:Array Bool):
  gS X φ H w rid v H' ((builtin b ts t consts GS.toArray).run X.P w):=by
 unfold fK at hv;split at hv
 ·-- len
  rename_i x;simp only[aE]at ha;obtain⟨x',_,rfl,hx,rfl⟩:=ha;refine gS.of_sim (s:=bU.len_ ts t [x'].toArray) ?_;split at hv
  .rename_i s hu;simp[Z9,Z5]at hv;obtain⟨rfl,rfl⟩:=hv;obtain⟨t0,ht0,hu⟩:=Ym.1 hu;obtain rfl:=AB hx
   simp_all[fL.same,bU.len_,goInt,cT,oh]
  .rename_i e a n c hu;simp[Z9,Z5]at hv;obtain⟨rfl,rfl⟩:=hv;obtain⟨t0,ht0,hu⟩:=Ym.1 hu;cases a with
   | none=>
    obtain rfl:=rZ hx
    simp_all[fL.same,bU.len_,goInt,cT,oh]
   | some a=>
    obtain⟨a',c',rfl,_⟩:=nX hx
    simp_all[fL.same,bU.len_,goInt,cT,oh]
  .rename_i n e hu;simp[Z9,Z5]at hv;obtain⟨rfl,rfl⟩:=hv;obtain⟨t0,ht0,hu⟩:=Ym.1 hu
   simp_all[fL.same,bU.len_,goInt,cT,oh]
  trivial
 ·-- cap
  rename_i x;simp only[aE]at ha;obtain⟨x',_,rfl,hx,rfl⟩:=ha;refine gS.of_sim (s:=bU.cap_ ts t [x'].toArray) ?_;split at hv
  .rename_i e hu;simp[Z3,Z5]at hv;obtain⟨n,hc,rfl,rfl⟩:=hv;obtain⟨t0,ht0,hu⟩:=Ym.1 hu;unfold En at hc;split at hc
   .cases hc;obtain rfl:=rZ hx
    simp_all[fL.same,bU.cap_,goInt,cT,oh]
   .rename_i b off len c;split at hc
    .rename_i y hy;split at hc
     .rename_i hcond;obtain⟨_,hcond⟩:=hcond;cases hc;rcases rY hx with⟨p,c',hp,rfl,hcap⟩|⟨a',rfl,rfl,rfl⟩
      ·have:c'=n:=by
        obtain⟨z,_,_,_,z1,z2,z3,z4,z5,_⟩:=h.dom _ _ hp;rw[hy]at z1;cases z1;rcases hcap with g|⟨g1,g2,_⟩
        .exact g
        .grind
       simp_all[fL.same,bU.cap_,goInt,cT,oh]
      simp_all[fL.same,bU.cap_,goInt,cT,oh]
     trivial
    trivial
   trivial
  trivial
 ·-- append
  rename_i s x;simp only[aE]at ha;obtain⟨s',_,rfl,hs,x',_,rfl,hx,rfl⟩:=ha;refine gS.of_sim (s:=bU.append_ ts t [s',x'].toArray) ?_;split at hv
  .rename_i e d hu hd;obtain⟨t0,ht0,hu⟩:=Ym.1 hu;obtain⟨t1,ht1,hd⟩:=Ym.1 hd
   have hts:bU.append_ ts t [s',x'].toArray=bU.append_ #[t0,t1] t #[s',x']:=by
    unfold bU.append_;simp only[ht0,ht1];rfl
   rw[hts];split at hv
   .rename_i n Nd z hn hby hz;split at hv
    .cases hv
    rename_i hcond;simp[not_or,ne_eq,Decidable.not_not]at hcond;obtain⟨c1,c2,c3⟩:=hcond;have hn0:0<n:=aa;have hb0:0<Nd:=aa;split at hv
    .rename_i kd kd' k;split at hv
     .rename_i hc;obtain⟨d1,d2,d3,d4⟩:=hc;obtain rfl:=tS hx;obtain⟨m,rfl⟩:=Int.eq_ofNat_of_zero_le d3;simp[Int.toNat_natCast]at hv
      have hk:m*Nd<=140737488355328:=by
       have:((m*Nd:Nat):Int)<=140737488355328:=by rw[Int.natCast_mul];exact d4
       omega
      refine fL.of_none (aa3 h hv hs (EJ d1 _) (by simp[fe]) e
       (λRC Pa In w' Fm DB=>abu hu hd hn hz hby c3 hn0 hb0 hk Fm DB)
       (λRC Pa In Fn hgt hk0 Fk Fd hl=>abv hu hd hn hz hby c3 hn0 hb0 hgt hk0 Fk Fd hl))
     trivial
    .cases hv
    .rename_i hnot1 hnot2;split at hv
     .rename_i k cs hsrc;obtain⟨L7,r1,r2,r3⟩:=adW h hsrc hx
      have hdi:∀k,d≠.int k:=by
       intro kd hd';subst hd'
       first|exact hnot2 _ rfl|grind|exact hnot2 _ _ rfl|exact hnot1 _ _ rfl
      refine fL.of_none (aa3 h hv hs r1 r2 e
       (λRC Pa In w' Fm DB=>akA hu hd hdi hn r3 Fm DB)
       (λRC Pa In Fn hgt hk0 Fk Fd hl=>ak5 hu hd hdi hn hz hby c3 hb0 hn0 r3 hgt Fk Fd hl r2))
     trivial
   trivial
  trivial
 ·-- copy
  rename_i RC dLen dCap src;simp only[aE]at ha;obtain⟨s',_,rfl,hs,x',_,rfl,hx,rfl⟩:=ha;refine gS.of_sim (s:=bU.copy_ ts t [s',x'].toArray) ?_;split at hv
  .rename_i e hu;obtain⟨t0,ht0,hu⟩:=Ym.1 hu
   have hts:bU.copy_ ts t [s',x'].toArray=bU.copy_ #[t0,t0] t #[s',x']:=by
    unfold bU.copy_;simp only[ht0];rfl
   rw[hts];split at hv
   .rename_i n hn;split at hv
    .rename_i k cs hsrc;simp only at hv;obtain⟨L7,r1,r2,r3,r4⟩:=adV h hsrc hx (min k dLen) aa;split at hv
     .simp[Z9,Z5]at hv;obtain⟨rfl,rfl⟩:=hv;obtain rfl:=rZ hs
      simp_all[fL.same,NX,oh]
     .rename_i b off;split at hv
      .rename_i h0;simp[Z9,Z5]at hv;obtain⟨rfl,rfl⟩:=hv;obtain⟨a',c',rfl,_⟩:=nX hs;have:L7=[]:=Ye.1 ae;subst this;exact fL.same h (NX hu hn r3 rfl r4 (.inr ⟨a',rfl,rfl⟩)) oh
      .rename_i h0;simp only[Z3,Z5]at hv;obtain⟨H1,hw,rfl,rfl⟩:=hv;rcases rY hs with⟨p,c',hp,rfl,_⟩|⟨a',rfl,h00,_⟩
       .obtain⟨g1,g2,g3,g4,g5⟩:=h.write hw hp r1;have DB:=run_storeCells_cells (P:=X.P) p.c (p.s+off) L7 0 w aa aa g5;exact⟨φ,_,_,NX hu hn r3 rfl r4 (.inr ⟨_,rfl,DB⟩),oh,aa,aa,cY.refl _ _ _⟩
       .omega
     trivial
    trivial
   trivial
  trivial
 ·-- clear
  rename_i RC len cap;simp only[aE]at ha;obtain⟨s',_,rfl,hs,rfl⟩:=ha;refine gS.of_sim (s:=bU.clear_ ts t [s'].toArray) ?_;split at hv
  .rename_i e hu;obtain⟨t0,ht0,hu⟩:=Ym.1 hu
   have hts:bU.clear_ ts t [s'].toArray=bU.clear_ #[t0] t #[s']:=by
    unfold bU.clear_;simp only[ht0];rfl
   rw[hts];split at hv
   .rename_i n z hn hz;split at hv
    .simp[Z9,Z5]at hv;obtain⟨rfl,rfl⟩:=hv;obtain rfl:=rZ hs;exact fL.same h (aoq hu) (lI rfl)
    .rename_i b off;split at hv
     .rename_i hc;obtain⟨c1,c2,c3⟩:=hc;split at hv
      .rename_i h0;simp[Z9,Z5]at hv;obtain⟨rfl,rfl⟩:=hv;subst h0;obtain⟨a',c',rfl,_⟩:=nX hs;exact fL.same h (aoo hu) (lI rfl)
      .rename_i h0;simp only[Z3,Z5]at hv;obtain⟨H1,hw,rfl,rfl⟩:=hv;rcases rY hs with⟨p,c',hp,rfl,_⟩|⟨a',rfl,h00,_⟩
       .obtain⟨g1,g2,g3,g4,g5⟩:=h.write hw hp (EJ c1 (len*n));have DB:=run_storeCells_cells (P:=X.P) p.c (p.s+off) _ 0 w aa aa g5;exact⟨φ,_,_,aop hu hn hz c2 c3 h0 DB,lI rfl,aa,aa,cY.refl _ _ _⟩
       omega
     trivial
    trivial
   trivial
  trivial
 ·-- min
  split at hv
  .rename_i hp;simp[Z3,Z5]at hv;obtain⟨r,hr,rfl,rfl⟩:=hv;obtain⟨h1,h2⟩:=Gt hr;obtain rfl:=(aE.of_plain args hp GS).1 ha;exact gS.of_sim (s:=bU.min_ ts t GS.toArray) (fL.same h (AC _ _ _ h1 w) (lI h2))
  trivial
 .split at hv
  .rename_i hp;simp[Z3,Z5]at hv;obtain⟨r,hr,rfl,rfl⟩:=hv;obtain⟨h1,h2⟩:=Gt hr;obtain rfl:=(aE.of_plain args hp GS).1 ha;exact gS.of_sim (s:=bU.max_ ts t GS.toArray) (fL.same h (AC _ _ _ h1 w) (lI h2))
  trivial
 trivial
def xW(o:oR):Bool:=o.op.operands.all tU
theorem Gy(h:bC X φ H w){a:am}(ha:aE φ a LT.tmps.toList):∀{xs:Array oP},(∀x∈xs,tU x=Th)->aE φ ((xs.map (ev X a)).toList) ((xs.map LT.eval).toList):=by grind[Array.toList_map,aE.map_mem,dC]
theorem Lb(h:bC X φ H w){a:am}{LT:Act}(ha:aE φ a LT.tmps.toList){o:oR}(ho:xW o=Th){rid:Option Nat}{v:vl}{H':AH}
  (DQ:∀t r z,o.op=.alloc t->rid=Wf r->fX X.P t=Wf z->φ r=Vc∧H.get r=Wf (fresh r z.cells.toList)) (hv:dp X rid H a o=Wf (v,H')) :
  gS X φ H w rid v H' ((execOp LT.eval o).run X.P w):=by
 have Is:∀x∈o.op.operands,tU x=Th:=λx hx=>X1.1 ho x hx
 have E:∀{x},x∈o.op.operands->aC φ (ev X a x) (LT.eval x):=λhx=>dC h ha (Is _ hx)
 unfold dp at hv;simp only at hv;unfold execOp
 have parts:∀{ps:Array (Nat×oP)},(∀x∈ps.toList.map (·.2),tU x=Th) ->
   (ps.map λ(x:Nat×oP)=>(x.1,ev X a x.2)).toList.map (·.1)=(ps.map λ(x:Nat×oP)=>(x.1,LT.eval x.2)).toList.map (·.1) ∧
   aE φ ((ps.map λ(x:Nat×oP)=>(x.1,ev X a x.2)).toList.map (·.2)) ((ps.map λ(x:Nat×oP)=>(x.1,LT.eval x.2)).toList.map (·.2)):=by
  intro ps hps;constructor
  .simp
  .simp[Array.toList_map,Wb];refine aE.map_mem _ (λx hx=>dC h ha (hps x.2 (List.mem_map_of_mem hx)))
 split at hv
 ·-- move
  rename_i x DS;simp only[DS]at E ⊢;simp[Z9,Z5]at hv;obtain⟨rfl,rfl⟩:=hv;exact⟨φ,_,w,.inl rfl,E dj,h,cD.refl _ _ _,cY.refl _ _ _⟩
 .rename_i x DS;simp only[DS]at E ⊢;simp[Z9,Z5]at hv;obtain⟨rfl,rfl⟩:=hv;exact⟨φ,_,w,.inl rfl,E dj,h,cD.refl _ _ _,cY.refl _ _ _⟩
 ·-- pick
  rename_i c x y DS;simp only[DS]at E ⊢;split at hv
  .rename_i b hb;simp[Z9,Z5]at hv;obtain⟨rfl,rfl⟩:=hv;have hc:=E (x:=c) dj;rw[hb]at hc;have hc':=Ga hc;refine⟨φ,if b then LT.eval x else LT.eval y,w,.inl ?_,?_,h,cD.refl _ _ _,cY.refl _ _ _⟩
   .simp_all[asBool]
   .cases b
    .exact E dj
    .exact E dj
  trivial
 ·-- alloc
  rename_i t DS;simp only[DS]at E ⊢;split at hv
  .rename_i z hz;split at hv
   .rename_i hp;cases rid with
    | none=>
     simp[Z9,Z5]at hv;obtain⟨rfl,rfl⟩:=hv;exact gS.of_sim (apQ (rid:=none) h hz hp rfl)
    | some r=>
     simp[Z9,Z5]at hv;obtain⟨rfl,rfl⟩:=hv;obtain⟨hn,hg⟩:=DQ t r z DS rfl hz
     obtain ⟨g1,g2⟩:=h.new (e:=t) (cs:=z.cells) hn hg (λi _=>rfl) rfl (by simp[fresh]) (λi u hu=>by
      simp only[fresh]at hu;rw[Array.getElem?_toList]at hu
      exact ⟨u,hu,by
       have:=((lI (φ:=φ) hp).cells).at (i:=i) (v:=u) ae
       grind⟩)
     refine gS.of_sim (s:=Instr.alloc t Th (.tuple #[])) ⟨_,.pointer (Wf ⟨w.heap.size,0,Vc⟩),_,?_,?_,g1,g2,λi q hq hn'=>?_⟩
     .simp[Instr.alloc,zp hz,newVar,newRow]
     .have:=AE (off:=0) (kI φ r ⟨w.heap.size,0,(fresh r z.cells.toList).cells.length,(fresh r z.cells.toList).esz,z.cells.size,(fresh r z.cells.toList).exact⟩);omega
     .by_cases e':i=r
      .exact .inr (by rw[e'])
      grind[jC]
   trivial
  trivial
 ·-- box
  rename_i t x DS;simp only[DS]at E ⊢;simp only[Z3,Z5]at hv;obtain⟨⟨b,H1⟩,hm,rfl,rfl⟩:=hv;exact gS.of_sim (aoZ h (E dj) hm)
 ·-- build
  rename_i t ps DS;simp only[DS]at Is ⊢;simp[Z3,Z5]at hv;obtain⟨u,hu,rfl,rfl⟩:=hv;obtain⟨p1,p2⟩:=parts (ps:=ps) (λx hx=>Is x (by grind[Op.operands]));exact gS.of_val h (aoW hu p1 p2)
 ·-- buildSlice
  grind[Op.operands,gS.of_sim,aoX]
 ·-- load
  rename_i t x DS;simp only[DS]at E ⊢;simp[Z3,Z5]at hv;obtain⟨u,hu,rfl,rfl⟩:=hv;exact gS.of_val h (Uk h hu (E dj))
 ·-- store
  rename_i t x y DS;simp only[DS]at E ⊢;simp only[Z3,Z5]at hv;obtain⟨H1,hu,rfl,rfl⟩:=hv;obtain⟨w',g1,g2,g3⟩:=adL h hu (E (x:=x) dj) (E (x:=y) dj);exact⟨φ,undef,w',.inr ⟨by simp[g1],rfl⟩,aC.undef φ,g2,g3,cY.refl _ _ _⟩
 ·-- nilCheck
  rename_i x DS;simp only[DS]at E ⊢;split at hv
  .rename_i p hp;simp[Z9,Z5]at hv;obtain⟨rfl,rfl⟩:=hv;have hx:=E (x:=x) dj;rw[hp]at hx;have hx':=hx;simp[aC]at hx';obtain⟨a',e,_⟩:=hx';exact⟨φ,_,w,.inl (by rw[e];rfl),ae,h,cD.refl _ _ _,cY.refl _ _ _⟩
  trivial
 ·-- binOp
  rename_i op t x y yt DS;simp only[DS]at E ⊢;simp[Z3,Z5]at hv;obtain⟨u,hu,rfl,rfl⟩:=hv;exact gS.of_val h (ao5 hu (E dj) (E dj))
 ·-- unOp
  rename_i op t x DS;simp only[DS]at E ⊢;split at hv
  .rename_i hp;simp[Z3,Z5]at hv;obtain⟨r,hr,rfl,rfl⟩:=hv;obtain⟨h1,h2⟩:=Gt hr;have hx:=Gr (E (x:=x) dj) hp;rw[hx];exact gS.of_val h ⟨r,AC _ _ _ h1 w,lI h2⟩
  trivial
 ·-- convert
  rename_i s d x DS;simp only[DS]at E ⊢;exact gS.of_sim (an8 h hv (E dj))
 ·-- makeInterface
  rename_i t x DS;simp only[DS]at E ⊢;simp[Z3,Z5]at hv;obtain⟨u,hu,rfl,rfl⟩:=hv;exact gS.of_val h (aiN hu (E dj))
 ·-- makeFunc
  rename_i f x y DS;simp only[DS]at Is ⊢;simp[Z9,Z5]at hv;obtain⟨rfl,rfl⟩:=hv;refine gS.of_val h ⟨_,rfl,?_⟩;have l1:=Gy h ha (xs:=x) (λz hz=>Is z (by simp[Op.operands,hz]));have l2:=Gy h ha (xs:=y) (λz hz=>Is z (by simp[Op.operands,hz]));obtain⟨mx,hmx⟩:∃m:am,x.map (ev X a)=⟨m⟩:=⟨_,rfl⟩
  obtain⟨my,hmy⟩:∃m:am,y.map (ev X a)=⟨m⟩:=⟨_,rfl⟩
  grind[aC]
 ·-- makeSlice
  rename_i t l c DS;simp only[DS]at E ⊢;exact gS.of_sim (aiM h hv (E dj) (E dj))
 ·-- slice
  rename_i t x lo hi mx DS;simp only[DS]at E ⊢;simp[Z3,Z5]at hv;obtain⟨u,hu,rfl,rfl⟩:=hv
  have O:∀(o:Option oP),(∀y,o=Wf y->aC φ (ev X a y) (LT.eval y))->ED φ (o.map (ev X a)) (o.map LT.eval):=by
   intro o ho';cases o with
   |none=>exact .inl rfl
   |some y=>exact .inr ⟨_,_,rfl,rfl,ho' y rfl⟩
  exact gS.of_val h (aeO h hu (E dj) (O lo (λy hy=>E (by simp[Op.operands,hy]))) (O hi (λy hy=>E (by simp[Op.operands,hy]))) (O mx (λy hy=>E (by simp[Op.operands,hy]))))
 ·-- fieldAddr
  rename_i t x f DS;simp only[DS]at E ⊢;simp[Z3,Z5]at hv;obtain⟨u,hu,rfl,rfl⟩:=hv;exact gS.of_val h (al3 hu (E dj))
 .rename_i t x f DS;simp only[DS]at E ⊢;simp[Z3,Z5]at hv;obtain⟨u,hu,rfl,rfl⟩:=hv;exact gS.of_val h (alZ hu (E dj))
 .rename_i t x i DS;simp only[DS]at E ⊢;simp[Z3,Z5]at hv;obtain⟨u,hu,rfl,rfl⟩:=hv;exact gS.of_val h (akz hu (E dj) (E dj))
 .rename_i t x i DS;simp only[DS]at E ⊢;simp[Z3,Z5]at hv;obtain⟨u,hu,rfl,rfl⟩:=hv;exact gS.of_val h (aky hu (E dj) (E dj))
 ·-- extract
  rename_i x i DS;simp only[DS]at E ⊢;split at hv
  .rename_i vs hvs;simp[Z3,Z5]at hv;obtain⟨u,hu,rfl,rfl⟩:=hv;exact gS.of_val h (amd hvs hu (E dj))
  trivial
 ·-- a builtin
  rename_i b args argTypes DS;simp only[DS]at Is ⊢;have l1:=Gy h ha (xs:=args) (λz hz=>Is z (by simp[Op.operands,Call.operands,hz]));have:=aoT (rid:=rid) h hv l1 (args.map λ|.const _=>Th|_=>SM);trivial
 trivial
structure cE(H H':AH):Prop where
 n:H.n<=H'.n
 keep:∀b x,H.get b=Wf x->∃x',H'.get b=Wf x'∧x.ver<=x'.ver∧(x'.ver=x.ver->x'=x)∧(x.st≠0->x'.st≠0∧x'.exact=x.exact∧x'.esz=x.esz∧RW x'.cells=RW x.cells)
theorem cE.refl(H:AH):cE H H:=⟨Z8 _,λ_ x h=>⟨x,h,Z8 _,λ_=>rfl,λs=>⟨s,rfl,rfl,rfl⟩⟩⟩
theorem cE.trans{H H' H'':AH}(h:cE H H')(h':cE H' H''):cE H H'':=⟨Z1 h.n h'.n,λb x hx=>by
 obtain⟨y,hy,y1,y2,y3⟩:=h.keep b x hx;obtain⟨z,hz,z1,z2,z3⟩:=h'.keep b y hy;refine⟨z,hz,Z1 y1 z1,λe=>?_,λs=>?_⟩
 .have e1:y.ver=x.ver:=aa;have e2:z.ver=y.ver:=aa
  grind
 grind⟩
theorem cE.push(H:AH)(x:bv):cE H (H.push x):=⟨ac,λb y hy=>⟨y,by grind[AH.get_push_old,AH.get_lt],Z8 _,λ_=>rfl,λs=>⟨s,rfl,rfl,rfl⟩⟩⟩
theorem cE.set{H:AH}{b:Nat}{x y:bv}(h:H.get b=Wf x)(hv:x.ver<y.ver)(hs:x.st≠0->y.st≠0∧y.exact=x.exact∧y.esz=x.esz∧RW y.cells=RW x.cells):cE H (H.set b y):=⟨ac,λi z hz=>by
 rw[AH.get_set h];by_cases e:i=b
 .subst e;rw[h]at hz;cases hz;rw[ip rfl];exact⟨y,rfl,Nat.le_of_lt hv,λe=>by omega,hs⟩
 grind⟩
theorem cE.kill(H:AH)(p:Nat->bv->Bool):cE H (H.kill p):=⟨ac,λi z hz=>by
 rw[AH.get_kill,hz];simp only[Option.map_some];by_cases h:p i z=Th
 .rw[ip h];exact⟨_,rfl,ac,λe=>by grind,λ_=>⟨ac,rfl,rfl,rfl⟩⟩
 grind⟩
theorem LF{H:AH}{rid:Option Nat}{cells:am}{H':AH}(h:kT H rid cells=Wf (b,H')):cE H H':=by
 cases rid with
 | none=>
  grind[kT,cE.push]
 | some r=>
  grind[kT,cE.set,fresh]
theorem Jh{H:AH}{vs:am}{H':AH}(h:j6 H b off vs=Wf H'):cE H H':=by
 unfold j6 at h;split at h
 .rename_i x hx;split at h
  .rename_i hc;simp[Z9]at h;subst h;split
   .have hk:=cE.kill H (kin b x.fam)
    have hxk:(H.kill (kin b x.fam)).get b=Wf x:=by
     rw[AH.get_kill,hx];simp[kin]
    exact hk.trans (cE.set hxk ac (λs=>⟨s,rfl,rfl,JU _ _ _ hc.2.2.1⟩))
   .exact cE.set hx ac (λs=>⟨s,rfl,rfl,JU _ _ _ hc.2.2.1⟩)
  .cases h
 .cases h
theorem apI{H:AH}{s v:vl}{cs:am}{H':AH}(h:eY P H n Nd s k cs=Wf (v,H')):cE H H':=by
 unfold eY at h
 grind[cE.refl,cE.push,Jh,cE.trans,cE.set,cE.kill]
noncomputable def touch(X:dh)(a:am)(o:oR):Option Nat:=
 match o.op with
 |.load _ x=>iY (ev X a x)
 |.slice _ x _ _ _=>(match ev X a x with|.slice (Wf p) _ _=>Wf p.block|_=>Vc)
 |.convert _ _ x=>(match ev X a x with|.slice (Wf p) _ _=>Wf p.block|_=>Vc)
 |.call {callee:=.builtin .cap,args,.. }=>(match args[0]? with|some x=>iY (ev X a x)|none=>Vc)
 |_=>Vc
variable{X:dh}{H H':AH}{a:am}{o:oR}{v:vl}{rid:Option Nat}
theorem yh(hf:(f.map λv=>(v,H))=Wf (v,H')):H'=H∧∀(H2:AH),(f.map λv=>(v,H2))=Wf (v,H2):=by grind[Z3]
theorem aoU{b:bU}(hb:b=.len∨b=.min∨b=.max)(hv:fK X.P H b ts t args=Wf (v,H')):
  H'=H∧∀(H2:AH),fK X.P H2 b ts t args=Wf (v,H2):=by
 rcases hb with rfl|rfl|rfl
 .match args,hv with
  | [x],hv=>
   simp[fK]at hv ⊢;split at hv
   all_goals first
    |(cases hv;done)
    |(simp[Z9,Z5]at hv;obtain⟨rfl,rfl⟩:=hv;exact⟨rfl,λ_=>rfl⟩)
  |[],hv=>trivial
  |_::_::_,hv=>trivial
 .simp only[fK]at hv ⊢;split at hv
  .rename_i hp;obtain⟨e1,e2⟩:=yh hv;exact⟨e1,λH2=>by first|exact e2 H2|grind⟩
  trivial
 .simp only[fK]at hv ⊢;split at hv
  .rename_i hp;obtain⟨e1,e2⟩:=yh hv;exact⟨e1,λH2=>by first|exact e2 H2|grind⟩
  trivial
theorem AM{r:Nat}(hv:dp X (Wf r) H a o=Wf (v,H'))(h1:eH X.P o.op=SM)(h2:ku o.op=SM)(h3:iy X.P o.op=SM)(h4:o9 o.op=SM):
  H'=H∧∀(H2:AH),dp X (Wf r) H2 a o=Wf (v,H2):=by
 obtain⟨dst,op,ty,pos,aft,grd⟩:=o;cases op
 case alloc t=>
  simp[dp]at hv ⊢;split at hv
  .split at hv
   .simp[Z9,Z5]at hv;obtain⟨rfl,rfl⟩:=hv;rename_i hp;exact⟨rfl,λ_=>by first|rfl|rw[ip hp]⟩
   trivial
  trivial
 case call c=>
  obtain⟨bp,args,ats⟩:=c;cases bp with
  |value f=>trivial
  |invoke r m=>trivial
  | builtin b=>
   simp only[dp]at hv ⊢
   have hb:b=.len∨b=.min∨b=.max:=by
    cases b<;>first
     |(simp[eH]at h1;done)
     |(simp[iy]at h3;done)
     |(simp[o9]at h4;done)
     |(simp[fK]at hv;done)
     |simp
   grind[aoU]
 case makeFunc fn x y=>
  cases fn<;>simp only[dp]at hv ⊢ <;>first
   |(cases hv;done)
   |grind
 case convert s d x=>
  simp[dp]at hv ⊢;simp[eH,iy]at h1 h3;unfold oz at hv ⊢;split at hv
  .grind
  .grind
  .split at hv
   .rename_i hp;obtain⟨e1,e2⟩:=yh hv;exact⟨e1,λH2=>by first|exact e2 H2|grind⟩
   trivial
 all_goals simp only[ku,eH,iy,o9]at h1 h2 h3 h4
 all_goals first|(cases h1;done)|(cases h2;done)|(cases h3;done)|(cases h4;done)|skip
 all_goals simp only[dp]at hv ⊢
 all_goals first
  |(cases hv;done)
  |(obtain⟨e1,e2⟩:=yh hv;exact⟨e1,λH2=>e2 H2⟩)
  |(simp only[Z9,Z5]at hv;obtain⟨rfl,rfl⟩:=hv;exact⟨rfl,λ_=>rfl⟩)
  |skip
 ·-- pick
  split at hv
  .grind
  trivial
 ·-- nilCheck
  split at hv
  .grind
  trivial
 ·-- unOp
  split at hv
  .rename_i hp;obtain⟨e1,e2⟩:=yh hv;exact⟨e1,λH2=>by first|exact e2 H2|grind⟩
  trivial
 ·-- extract
  split at hv
  .obtain⟨e1,e2⟩:=yh hv;trivial
  trivial
theorem Sn(h:H2.get b=H.get b):cW H2 b off n=cW H b off n:=by grind[cW]
theorem Sm{cs:am}(h:cW H b off n=Wf cs):∃y,H.get b=Wf y∧y.st≠0:=by
 unfold cW at h;split at h
 .rename_i x hx;split at h
  .rename_i hc;exact⟨x,hx,aa⟩
  .cases h
 .cases h
theorem ai3(h:pY X.P H t x=Wf u):
  (∀b,iY x=Wf b->∃y,H.get b=Wf y∧y.st≠0)∧∀H2:AH,(∀b,iY x=Wf b->H2.get b=H.get b)->pY X.P H2 t x=Wf u:=by
 unfold pY at h ⊢;split at h
 .rename_i b off
  have K:∀{n cs},cW H b off n=Wf cs->(∀b',iY (.pointer (Wf ⟨b,off,Vc⟩))=Wf b'->∃y,H.get b'=Wf y∧y.st≠0):=by
   intro n cs hr b' hb';simp[iY,Z9]at hb';subst hb';exact Sm hr
  have R:∀{H2:AH},(∀b',iY (.pointer (Wf ⟨b,off,Vc⟩))=Wf b'->H2.get b'=H.get b')->∀n,cW H2 b off n=cW H b off n:=λhh n=>Sn (hh b rfl)
  split at h
  .cases hn:ci X.P t with
   |none=>grind
   | some n=>
    grind[cW]
  .cases hn:ci X.P t with
   |none=>grind
   | some n=>
    grind[cW]
  .grind
  .cases h
 .cases h
def B9(H H2:AH)(b:Nat):Prop:=∃y y2,H.get b=Wf y∧H2.get b=Wf y2∧y.st≠0∧y2.st≠0∧y2.exact=y.exact∧y2.esz=y.esz∧RW y2.cells=RW y.cells
theorem adn{p:Addr}(h:H2.get p.block=H.get p.block):there H2 (Wf p)=there H (Wf p):=by grind[there]
theorem adm{p:Addr}(h:B9 H H2 p.block):there H2 (Wf p)=there H (Wf p):=by
 obtain⟨y,y2,e1,e2,s1,s2,_⟩:=h;have b1:(y.st !=0)=Th:=by simpa using s1
 have b2:(y2.st !=0)=Th:=by simpa using s2
 grind[there]
theorem alU{p:Addr}(h:B9 H H2 p.block):sN H2 n (Wf p)=sN H n (Wf p):=by
 obtain⟨y,y2,e1,e2,s1,s2,s3,s4,_⟩:=h;have b1:(y.st !=0)=Th:=by simpa using s1
 have b2:(y2.st !=0)=Th:=by simpa using s2
 grind[sN]
theorem PN{p:Addr}(h:there H (Wf p)=Th):∃y,H.get p.block=Wf y∧y.st≠0:=by grind[there]
theorem aeR{lo:Option vl}(h:kf X.P H t x lo hi mx=Wf u):
  (∀b,(match x with|.slice (Wf p) _ _=>Wf p.block|_=>Vc)=Wf b->∃y,H.get b=Wf y∧y.st≠0) ∧
  ∀H2:AH,(∀b,(match x with|.slice (Wf p) _ _=>Wf p.block|_=>Vc)=Wf b->B9 H H2 b)->kf X.P H2 t x lo hi mx=Wf u:=by
 unfold kf at h ⊢;split at h
 .grind
 .rename_i e a len cap hu;cases hb0:eW cap cap mx with
  |none=>grind
  |some m=>
  by_cases hmh:(hi.isNone&&mx.isSome)=Th
  .grind
  .have hmh':(hi.isNone&&mx.isSome)=SM:=by simpa using hmh
   cases hb:eW len m hi with
   |none=>grind
   | some h1=>
    cases hb2:eW 0 h1 lo with
    |none=>grind
    | some l1=>
     cases hs:ci X.P e with
     |none=>grind
     | some n=>
      simp[hb0,hmh',hb,hb2,hs]at h ⊢;cases a with
      |none=>grind[there,sN]
      | some p=>
       grind[PN,adm,alU]
 .grind
 .cases h
theorem aoB(hc:En H x=Wf n):
  (∀b,iY x=Wf b->∃y,H.get b=Wf y∧y.st≠0)∧∀H2:AH,(∀b,iY x=Wf b->B9 H H2 b)->En H2 x=Wf n:=by
 unfold En at hc ⊢;split at hc
 .grind[iY]
 .rename_i b off len c;split at hc
  .rename_i y hy;refine⟨λb' hb'=>?_,λH2 hh=>?_⟩
   .grind[iY]
   .obtain⟨y0,y2,e1,e2,s1,s2,s3,s4,s5⟩:=hh b rfl
    grind
  trivial
 trivial
theorem C7(hv:dp X rid H a o=Wf (v,H'))(h1:eH X.P o.op=SM)(h3:iy X.P o.op=Th):
  H'=H∧(∀b,touch X a o=Wf b->∃y,H.get b=Wf y∧y.st≠0)∧∀(rid2:Option Nat)(H2:AH),(∀b,touch X a o=Wf b->H2.get b=H.get b)->dp X rid2 H2 a o=Wf (v,H2):=by
 obtain⟨dst,op,ty,pos,aft,grd⟩:=o;cases op
 case load t x=>
  grind[dp,touch,Z3,ai3]
 case convert s d x=>
  simp[iy]at h3;simp only[dp,touch]at hv ⊢;simp[eH]at h1;unfold oz at hv ⊢;split at hv
  .grind
  .rename_i e a0 len cap hs hd hx;split at hv
   case h_2=>cases hv
   split at hv
   .grind
   .rename_i b off;split at hv
    .rename_i cs hc;simp[Z3,Z5]at hv;obtain⟨bs,hb,rfl,rfl⟩:=hv;refine⟨rfl,λb' hb'=>?_,λ_ H2 hh=>?_⟩
     .grind[PN,Sm]
     .have hg:=hh b (by rw[hx])
      have:(if len=0 then(if there H2 (Wf ⟨b,off,Vc⟩)=Th then Wf []else Vc)else cW H2 b off len)=Wf cs:=by
       rw[adn (p:=⟨b,off,Vc⟩) hg,Sn hg];exact hc
      grind
    trivial
   trivial
  .split at hv
   .rename_i hp;obtain⟨e1,e2⟩:=yh hv;refine⟨e1,λb hb=>?_,λ_ H2 _=>by first|exact e2 H2|grind⟩
    grind[plain]
   trivial
 case call c=>trivial
 all_goals(simp only[iy]at h3;cases h3)
theorem C6(hv:dp X rid H a o=Wf (v,H'))(h3:o9 o.op=Th):
  H'=H∧(∀b,touch X a o=Wf b->∃y,H.get b=Wf y∧y.st≠0)∧∀(rid2:Option Nat)(H2:AH),(∀b,touch X a o=Wf b->B9 H H2 b)->dp X rid2 H2 a o=Wf (v,H2):=by
 obtain⟨dst,op,ty,pos,aft,grd⟩:=o;cases op
 case slice t x lo hi mx=>
  grind[dp,touch,Z3,aeR]
 case call c=>
  obtain⟨bp,args,ats⟩:=c;cases bp with
  |value f=>trivial
  |invoke r m=>trivial
  | builtin b=>
   cases b<;>first
    |(simp[o9]at h3;done)
    |skip
   simp only[dp,touch]at hv ⊢;obtain⟨args⟩:=args
   match args,hv with
   | [x],hv=>
    simp only[fK,List.map_toArray,Zv,Yp]at hv ⊢
    grind[Z3,aoB]
   |[],hv=>simp[fK]at hv
   |_::_::_,hv=>simp[fK]at hv
 all_goals(simp only[o9]at h3;cases h3)
theorem AN{r:Nat}(hv:dp X (Wf r) H a o=Wf (v,H'))(h2:ku o.op=Th):
  ∃cells,(∃y,H.get r=Wf y∧y.st=0∧y.ver=0)∧H'=H.set r (fresh r cells)∧∀(H2:AH),(∃y,H2.get r=Wf y∧y.st=0∧y.ver=0)->dp X (Wf r) H2 a o=Wf (v,H2.set r (fresh r cells)):=by
 have mk:∀{cells:am}{b:Nat}{H':AH},kT H (Wf r) cells=Wf (b,H')->b=r∧(∃y,H.get r=Wf y∧y.st=0∧y.ver=0)∧H'=H.set r (fresh r cells):=by
  intro cells b H' h;simp[kT]at h;split at h
  .grind
  .cases h
 have mk2:∀{cells:am}{H2:AH},(∃y,H2.get r=Wf y∧y.st=0∧y.ver=0)->kT H2 (Wf r) cells=Wf (r,H2.set r (fresh r cells)):=by
  rintro cells H2 ⟨y,hy,hc⟩;simp only[kT,hy];rw[ip hc]
 obtain⟨dst,op,ty,pos,aft,grd⟩:=o;cases op<;>simp only[ku]at h2<;>first|(cases h2;done)|skip
 .grind[dp,Z3]
 .rename_i t len ps;simp only[dp]at hv ⊢;unfold rr at hv ⊢;split at hv
  .rename_i e hu;split at hv
   .grind
   trivial
  trivial
 .rename_i t l c;simp only[dp]at hv ⊢;unfold yi at hv ⊢;split at hv
  .rename_i e kl l0 kc c0 hu hl hc0;split at hv
   .rename_i n z Nd hn hz hby;split at hv
    .rename_i hc;split at hv
     .rename_i b H1 hm;simp[Z9,Z5]at hv;obtain⟨rfl,rfl⟩:=hv;obtain⟨rfl,h3,h4⟩:=mk hm;refine⟨_,h3,h4,λH2 hr=>?_⟩
      first
       |rw[ip hc,mk2 hr]
       |(simp only[hu,hl,hc0,hn,hz,hby];rw[ip hc,mk2 hr])
     trivial
    trivial
   trivial
  trivial
theorem aoV{b:bU}(hv:fK X.P H b ts t args=Wf (v,H')):cE H H':=by
 unfold fK at hv
 repeat' (first|split at hv|(simp only at hv;split at hv))
 all_goals first
  |(cases hv;done)
  |(simp only[Z9,Z5]at hv;obtain⟨_,rfl⟩:=hv;exact cE.refl _)
  |exact apI hv
  |(simp only[Z3,Z5]at hv;obtain⟨_,hw,_,rfl⟩:=hv;first|exact Jh hw|exact cE.refl _)
theorem Gz(hv:dp X rid H a o=Wf (v,H')):cE H H':=by
 by_cases h1:eH X.P o.op=Th
 .obtain⟨dst,op,ty,pos,aft,grd⟩:=o;cases op
  case store t x y=>
   simp only[dp,Z3,Z5]at hv;obtain⟨H1,hs,_,rfl⟩:=hv;unfold tj at hs
   grind[Jh]
  case convert s d x=>
   simp[dp]at hv;unfold oz at hv
   repeat' (split at hv)
   all_goals first
    |(cases hv;done)
    |(simp only[Z9,Z5]at hv;obtain⟨_,rfl⟩:=hv;first|exact cE.refl _|exact cE.push _ _)
    |(simp[Z3,Z5]at hv;obtain⟨_,_,_,rfl⟩:=hv;exact cE.refl _)
  case call c=>
   grind[dp,aoV]
  all_goals(simp[eH]at h1)
 .have h1':eH X.P o.op=SM:=by simpa using h1
  by_cases h2:ku o.op=Th
  .obtain⟨dst,op,ty,pos,aft,grd⟩:=o;cases op
   case box t x=>
    grind[dp,Z3,LF]
   case buildSlice t len ps=>
    simp[dp]at hv;unfold rr at hv
    repeat' (split at hv)
    all_goals first
     |(cases hv;done)
     |grind[LF]
   case makeSlice t l c=>
    simp[dp]at hv;unfold yi at hv
    repeat' (split at hv)
    all_goals first
     |(cases hv;done)
     |grind[LF]
   all_goals(simp[ku]at h2)
  .have h2':ku o.op=SM:=by simpa using h2
   by_cases h3:iy X.P o.op=Th
   .grind[C7,cE.refl]
   .by_cases h4:o9 o.op=Th
    .grind[C6,cE.refl]
    .cases rid with
     |some r=>grind[AM,cE.refl]
     | none=>
      -- with no kept number only a new variable's block is pushed
      by_cases ha:∃t,o.op=.alloc t
      .grind[dp,cE.push]
      ·have hs:dp X (Wf 0) H a o=Wf (v,H'):=by
        obtain⟨dst,op,ty,pos,aft,grd⟩:=o;cases op
        case alloc t=>grind
        case box t x=>trivial
        case buildSlice t l ps=>trivial
        case makeSlice t l c=>trivial
        case makeFunc fn f c=>cases fn<;>exact hv
        case call c=>
         obtain⟨bp,args,ats⟩:=c;cases bp<;>exact hv
        all_goals exact hv
       grind[AM,cE.refl]
theorem cE.stat(h:cE H H2)(hb:∃y,H.get b=Wf y∧y.st≠0):B9 H H2 b:=by obtain⟨y,hy,hy0⟩:=hb;obtain⟨y2,h2,_,_,h3⟩:=h.keep b y hy;obtain⟨s1,s2,s3,s4⟩:=h3 hy0;exact⟨y,y2,hy,h2,hy0,s1,s2,s3,s4⟩
def jR(cf:fW):Prop:=∀f args H v H',cf f args H=Wf (v,H')->cE H H'
theorem amB{cf:fW}(hcf:jR cf)(hv:iB X cf rid H a o=Wf (v,H')):cE H H':=by
 unfold iB at hv;split at hv
 .split at hv
  .exact Gz hv
  .split at hv
   .exact hcf _ _ _ _ _ hv
   trivial
 grind[Gz]
theorem HS{H H':AH}(hn:H.n<=H'.n)(hb:b<H.n):(H.graft H').get b=H.get b:=by
 rw[AH.get_pos (H:=H.graft H') (show b<H'.n by omega),AH.get_pos hb]
 show((List.range (H'.n-H.n)).map _++H.l)[H'.n-1-b]?=_
 rw[List.getElem?_append_right dE];congr 1;simp;omega
theorem VV{H H':AH}{x:bv}(hb:H.n<=b)(hx:H'.get b=Wf x):(H.graft H').get b=Wf x:=by
 have hl:=AH.get_lt hx;rw[AH.get_pos hl]at hx;rw[AH.get_pos (H:=H.graft H') (show b<H'.n by omega)]
 show((List.range (H'.n-H.n)).map _++H.l)[H'.n-1-b]?=_
 rw[List.getElem?_append_left dE,List.getElem?_map,List.getElem?_range aa];simp[hx]
theorem ala{H H':AH}(hn:H.n<=H'.n):cE H (H.graft H'):=
 ⟨hn,λb x hx=>⟨x,by rw[HS hn (AH.get_lt hx),hx],Z8 _,λ_=>rfl,λs=>⟨s,rfl,rfl,rfl⟩⟩⟩
theorem IV(X:dh)(B:Nat):∀(l:List bv)(n i:Nat),(rz X B n l)[i]?=(l[i]?).map λx=>if n-1-i<B∧X.glob (n-1-i)=Th then{x with wr:=SM,st:=if eE x.cells=Th then x.st else x.st+x.st}else pE
 |[],n,i=>by simp[rz]
 |x::l,n,0=>by simp[rz]
 | x::l,n,i+1=>by
  simp[rz,List.getElem?_cons_succ];rw[IV X B l (n-1) i,show n-1-1-i=n-1-(i+1) by omega]
theorem uJ(X:dh)(B:Nat)(H:AH)(b:Nat):(H.bare X B).get b=(H.get b).map λx=>if b<B∧X.glob b=Th then{x with wr:=SM,st:=if eE x.cells=Th then x.st else x.st+x.st}else pE:=by
 by_cases h:b<H.n
 .rw[AH.get_pos (H:=H.bare X B) h,AH.get_pos h]
  show(rz X B H.n H.l)[H.n-1-b]?=_
  rw[IV,show H.n-1-(H.n-1-b)=b by omega]
 .rw[AH.get_neg (H:=H.bare X B) h,AH.get_neg h];rfl
theorem aaU{B r:Nat}{z:bv}(hr:r<H.n)(hB:B<=r):(H.set r z).bare X B=H.bare X B:=by
 show AH.mk H.n (rz X B H.n (H.l.set (H.n-1-r) z))=⟨H.n,rz X B H.n H.l⟩
 congr 1;apply Yf;intro i;rw[IV,IV,List.getElem?_set];by_cases hi:H.n-1-r=i
 .subst hi;have:¬(H.n-1-(H.n-1-r)<B∧X.glob (H.n-1-(H.n-1-r))=Th):=aa;by_cases hl:H.n-1-r<RW H.l
  .simp[this,hl]
  .simp[hl]
 .simp[hi]
theorem VU{H H':AH}{r:Nat}{z:bv}(hr:r<H.n)(hn:H.n<=H'.n):(H.set r z).graft H'=(H.graft H').set r z:=by
 show AH.mk H'.n ((List.range (H'.n-H.n)).map _++H.l.set (H.n-1-r) z)=⟨H'.n,((List.range (H'.n-H.n)).map _++H.l).set (H'.n-1-r) z⟩
 rw[Yy _ _ dE];congr 3;simp;omega
theorem aea{cf:fW}(hcf:jR cf){B:Nat}(hv:jJ X cf B H a o=Wf (v,H')):cE H H':=by
 unfold jJ at hv;split at hv
 .split at hv
  .split at hv
   .split at hv
    .rename_i h;cases hv;exact ala (hcf _ _ _ _ _ h).n
    .cases hv
   .cases hv
  .cases hv
 .cases hv
theorem ad9{cf:fW}(hcf:jR cf){B r:Nat}{z:bv}(hr:r<H.n)(hB:B<=r)(hv:jJ X cf B H a o=Wf (v,H')):jJ X cf B (H.set r z) a o=Wf (v,H'.set r z):=by
 unfold jJ at hv ⊢;split at hv
 .split at hv
  .split at hv
   .rename_i hp;split at hv
    .rename_i h;cases hv;simp only[*,iT,aaU hr hB];rw[VU hr (hcf _ _ _ _ _ h).n]
    .cases hv
   .cases hv
  .cases hv
 .cases hv
theorem ad8{cf:fW}(hcf:jR cf){B r:Nat}{z:bv}(hr:r<H.n)(hB:B<=r)(hv:jJ X cf B (H.set r z) a o=Wf (v,H')):∃H1,jJ X cf B H a o=Wf (v,H1)∧H'=H1.set r z:=by
 unfold jJ at hv ⊢;split at hv
 .split at hv
  .split at hv
   .rename_i hp;split at hv
    .rename_i h;cases hv;rw[aaU hr hB]at h;refine⟨_,by simp[*,iT],VU hr (hcf _ _ _ _ _ h).n⟩
    .cases hv
   .cases hv
  .cases hv
 .cases hv
theorem amy{cf:fW}(hcf:jR cf){RM:Array oR}(hv:nD X cf RM RC i o a H=Wf (v,H')):cE H H':=by
 unfold nD at hv;split at hv
 .exact aea hcf hv
 .exact amB hcf hv
theorem BF{cf:fW}(hcf:jR cf){RM:Array oR}(hv:gI X cf RM RC i o a H=Wf (v,H')):cE H H':=by grind[gI,amy]
theorem Fa{cf:fW}(hcf:jR cf){RM:Array oR}{a':am}(hv:dR X cf RM RC i o a H=Wf (a',H')):cE H H':=by grind[dR,BF,cE.refl]
theorem Q8:∀{l m:List bv},oO l m=Th->∀(i:Nat)(x:bv),l[i]?=Wf x->∃y,m[i]?=Wf y∧y.ver=x.ver
 |[],_,_,i,x,hx=>by simp at hx
 |x::l,[],h,_,_,_=>by trivial
 | x::l,y::m,h,i,z,hz=>by
  simp[oO,Z7,beq_iff_eq]at h;cases i with
  |zero=>grind
  |succ i=>exact Q8 h.2 i z cU
theorem ahc(h:preB H H'=Th)(he:cE H H'){x:bv}(hx:H.get b=Wf x):H'.get b=Wf x:=by
 obtain⟨x',hx',h1,h2,_⟩:=he.keep b x hx;have PJ:=AH.get_lt hx;have hlt':=AH.get_lt hx';have hn:=he.n;rw[AH.get_pos PJ]at hx;obtain⟨y,hy,hv⟩:=Q8 h _ _ hx;rw[List.getElem?_drop,show H'.n-H.n+(H.n-1-b)=H'.n-1-b by omega,<-AH.get_pos hlt',hx']at hy
 grind
theorem amh{a:am}{v:vl}{x:oP}(h:∀d,dst=Wf d->x≠.tmp d):ev X (dO a dst v) x=ev X a x:=by
 cases dst with
 |none=>rfl
 | some d=>
  cases x with
  | tmp t=>
   grind[ev,qd,dO]
  |_=>rfl
theorem M6{RM:Array oR}{x:oR}(h:∀d,dst=Wf d->d ∉ x.looksAt RM){v:vl}{y:oP}(hy:y∈x.op.operands):ev X (dO a dst v) y=ev X a y:=
 amh λd hd hyd=>h d hd (by
  subst hyd;exact List.mem_append_left _ (List.mem_filterMap.2 ⟨.tmp d,ae,rfl⟩))
theorem ahO{a:am}(h:∀x∈o.op.operands,ev X a x=ev X a2 x):dp X rid H a o=dp X rid H a2 o:=by
 obtain⟨dst,op,ty,pos,aft,grd⟩:=o
 have pairs:∀ps:Array (Nat×oP),(∀x∈ps.map (·.2),ev X a x=ev X a2 x) ->
   (ps.map λ(x:Nat×oP)=>(x.1,ev X a x.2))=(ps.map λ(x:Nat×oP)=>(x.1,ev X a2 x.2)):=λps hp=>
  Wp λp hm=>by
   grind
 cases op<;>simp only[Op.operands]at h<;>simp only[dp]
 case build t ps=>rw[pairs ps λx hx=>h x xE]
 case buildSlice t n ps=>rw[pairs ps λx hx=>h x xE]
 case makeFunc fn first captured=>
  cases fn<;>simp only[]
  simp_all
 case call c=>
  obtain⟨bp,args,ats⟩:=c;cases bp with
  |value f=>rfl
  |invoke r m=>rfl
  | builtin b=>
   grind[Wp,Call.operands]
 case slice t x lo hi mx=>cases lo<;>cases hi<;>cases mx<;>simp_all
 all_goals(first|rfl|(simp_all;done))
theorem amC{cf:fW}{a:am}(h:∀x∈o.op.operands,ev X a x=ev X a2 x):iB X cf rid H a o=iB X cf rid H a2 o:=by
 have DS:=ahO (rid:=rid) (H:=H) h;unfold iB;split
 .rename_i c hc;rw[DS];split
  .rfl
  ·have:pu (ev X a) c=pu (ev X a2) c:=by
    rw[hc]at h;unfold pu;split
    .grind[Op.operands,Call.operands,Wp]
    .rfl
   grind
 omega
theorem aoH{a:am}{c:Call}(h:∀x∈c.operands,ev X a x=ev X a2 x):pu (ev X a) c=pu (ev X a2) c:=by
 unfold pu;split
 .grind[Call.operands,Wp]
 .rfl
theorem amz{cf:fW}{RM:Array oR}{a:am}(h:∀x∈o.op.operands,ev X a x=ev X a2 x):nD X cf RM RC i o a H=nD X cf RM RC i o a2 H:=by
 unfold nD;rw[amC h];congr 1;unfold jJ;split
 .rename_i c hc;rw[hc]at h;rw[aoH (c:=c) (by simpa[Op.operands]using h)]
 .rfl
theorem Jn{RM:Array oR}(h:∀d,dst=Wf d->d ∉ o.looksAt RM){v:vl}:
  Region.wanted o (jS RM (dO a dst v))=Region.wanted o (jS RM a):=by
 cases dst with
 |none=>rfl
 | some d=>
  unfold Region.wanted;cases hg:o.guard with
  |none=>rfl
  | some gw=>
   obtain⟨g,want⟩:=gw
   have hy:jS RM (dO a (Wf d) v) g=jS RM a g:=by
    unfold jS;cases ht:(RM[g]?).bind (·.dst)with
    |none=>rfl
    | some t=>
     grind[oR.looksAt,dO]
   grind
theorem F5{RM:Array oR}:∀(n:Nat){p b:Tmp},vK RM n p=Wf b->nC RM b=SM
 | 0,p,b,h=>by
  grind[vK]
 | n+1,p,b,h=>by
  unfold vK at h;split at h
  .split at h
   .split at h
    .exact F5 n h
    .exact F5 n h
    .exact F5 n h
    .cases h
   .cases h
  grind
theorem RZ{RM:Array oR}{p b:Tmp}(h:qD RM p=Wf b):nC RM b=SM:=F5 4 h
theorem VY{RM:Array oR}(hd:∀d,dst=Wf d->nC RM d=Th){v:vl}{p:Tmp}(hb:nC RM p=SM):dW (dO a dst v) p=dW a p:=by
 cases dst with
 |none=>rfl
 | some d=>
  grind[qd,dO]
theorem ahW{RM:Array oR}(hd:∀d,dst=Wf d->nC RM d=Th){v:vl}(H H':AH):offB X.P RM i (dO a dst v) H H'=offB X.P RM i a H H':=by
 unfold offB;congr 1;funext ⟨x,j⟩;simp only;congr 1;split
 .rename_i t p hp;split
  .grind[VY,RZ]
  .rfl
 .rfl
theorem alj{RM:Array oR}(h:∀d,dst=Wf d->d ∉ o.looksAt RM)(hd:∀d,dst=Wf d->nC RM d=Th){v:vl}:oj X.P RM o (dO a dst v)=oj X.P RM o a:=by
 unfold oj;split
 .rename_i t p hp
  have e1:dW (dO a dst v) p=dW a p:=by
   have:=M6 (X:=X) (a:=a) h (v:=v) (y:=.tmp p) (by grind[Op.operands]);simpa[ev]using this
  rw[e1];congr 1;split
  .grind[VY,RZ]
  .rfl
 .rfl
theorem YF{cf:fW}{RM:Array oR}(h:∀d,dst=Wf d->d ∉ o.looksAt RM)(hd:∀d,dst=Wf d->nC RM d=Th){v:vl}:
  gI X cf RM RC i o (dO a dst v) H=gI X cf RM RC i o a H:=by
 unfold gI;rw[amz (a:=dO a dst v) (a2:=a) λx hx=>M6 h hx]
 simp_all[ahW,alj]
theorem ade{RM:Array oR}(h:∀d,dst=Wf d->d ∉ o.looksAt RM){v:vl}:touch X (dO a dst v) o=touch X a o:=by
 have E:∀{y},y∈o.op.operands->ev X (dO a dst v) y=ev X a y:=λhy=>M6 h hy
 obtain⟨d0,op,ty,pos,aft,grd⟩:=o;unfold touch;cases op
 case load t x=>simp[E (y:=x) dj]
 case slice t x lo hi mx=>simp[E (y:=x) dj]
 case convert s d x=>simp[E (y:=x) dj]
 case call c=>
  obtain⟨bp,args,ats⟩:=c;cases bp with
  |value f=>rfl
  |invoke r m=>rfl
  | builtin b=>
   cases b<;>first|rfl|skip
   simp only;cases hx:args[0]? with
   |none=>rfl
   |some x=>grind[Op.operands,Call.operands]
 all_goals rfl
theorem yL(a:am){x y:Option Tmp}(v u:vl)(h:∀d,x=Wf d->y≠Wf d):dO (dO a x v) y u=dO (dO a y u) x v:=by
 cases x with
 |none=>rfl
 | some d=>
  cases y with
  |none=>rfl
  | some e=>
   grind[dO,V8]
theorem AH.set_push{H:AH}{r:Nat}{z x:bv}(hr:r<H.n):(H.set r z).push x=(H.push x).set r z:=by
 simp only[AH.set,AH.push];have e:H.n+1-1-r=(H.n-1-r)+1:=aa
 grind
theorem U9(p:Nat->bv->Bool){z:bv}:∀(l:List bv)(n i:Nat),p (n-1-i) z=SM->p9 p n (l.set i z)=(p9 p n l).set i z
 |[],n,i,_=>rfl
 | x::l,n,0,h=>by
  grind[p9]
 | x::l,n,i+1,h=>by
  have:=U9 p l (n-1) i (by rw[show n-1-1-i=n-1-(i+1) by omega];exact h)
  grind[p9]
theorem AH.kill_set{H:AH}{r:Nat}{z:bv}(hr:r<H.n){p:Nat->bv->Bool}(hp:p r z=SM):(H.set r z).kill p=(H.kill p).set r z:=by simp only[AH.set,AH.kill];rw[U9];rw[show H.n-1-(H.n-1-r)=r by omega];exact hp
theorem AH.set_set'{H:AH}{r s:Nat}{x y:bv}(hr:r<H.n)(hs:s<H.n)(MT:r≠s):(H.set r x).set s y=(H.set s y).set r x:=by simp only[AH.set];congr 1;exact V8 _ _ aa
theorem AH.n_set'(H:AH)(r:Nat)(z:bv):(H.set r z).n=H.n:=rfl
theorem AH.n_kill'(H:AH)(p:Nat->bv->Bool):(H.kill p).n=H.n:=rfl
section
variable{r:Nat}{y z:bv}(hy:H.get r=Wf y)(hy0:y.st=0)(hz:z.shared=SM)
include hy hy0
theorem MN{x:bv}(hb:H.get b=Wf x)(hx:x.st=1):b≠r∧(H.set r z).get b=Wf x:=by
 have MT:b≠r:=by rintro rfl;rw[hy]at hb;cases hb;omega
 exact⟨MT,by rw[AH.get_set hy,iN MT,hb]⟩
theorem agN{cs:am}(h:cW H b off n=Wf cs):cW (H.set r z) b off n=Wf cs:=by grind[cW,MN]
theorem adX{k:Nat×am}(h:fH H n x=Wf k):fH (H.set r z) n x=Wf k:=by
 unfold fH at h ⊢;split at h
 .exact h
 .split at h
  .grind
  .rename_i hl;simp only[hl,iF];cases hr:cW H _ _ _ with
   |none=>rw[hr]at h;cases h
   | some cs=>
    grind[agN]
 .exact h
 omega
include hz
theorem abC{vs:am}(h:j6 H b off vs=Wf H1):j6 (H.set r z) b off vs=Wf (H1.set r z):=by
 have hr:=AH.get_lt hy;unfold j6 at h ⊢;cases hb:H.get b with
 |none=>grind
 | some x=>
  rw[hb]at h;simp only at h;split at h
  .rename_i hc;obtain⟨MT,hg⟩:=MN (z:=z) hy hy0 hb hc.1;have hbn:=AH.get_lt hb;rw[hg];simp only;rw[ip hc];cases h;congr 1;by_cases hs:x.shared=Th
   .rw[ip hs,ip hs,AH.kill_set hr (by simp[kin,hz])];exact AH.set_set' hr hbn (Ne.symm MT)
   grind[AH.set_set']
  .cases h
theorem apG{s v:vl}{cs:am}(h:eY P H n Nd s k cs=Wf (v,H1)):eY P (H.set r z) n Nd s k cs=Wf (v,H1.set r z):=by
 have hr:=AH.get_lt hy;unfold eY at h ⊢;split at h
 .grind[AH.n_set',AH.set_push]
 .rename_i b off len cap;split at h
  .cases h
  .rename_i h1;split at h
   .grind
   .rename_i hk;split at h
    .grind[abC]
    .rename_i hc;split at h
     .rename_i hb;cases hg:H.get b with
      |none=>grind
      | some x=>
       rw[hg]at h;simp only at h;split at h
       .rename_i hx;obtain⟨MT,hg2⟩:=MN (z:=z) hy hy0 hg hx.1;have hbn:=AH.get_lt hg;simp only[h1,hk,hc,hb,iF,iT,hg2,hx,and_self]
        grind[AH.n_set',AH.set_push,AH.set_set',AH.kill_set,beyond,AH.n_kill']
       .cases h
     .cases h
 .cases h
end
def oB:Op->Bool
 | .call c=>match c.callee with
  |.builtin .append=>Th
  |_=>SM
 |_=>SM
theorem S5(ha:oB o.op=Th)(hv:dp X rid H a o=Wf (v,H')):∃n Nd s k cs,eY X.P H n Nd s k cs=Wf (v,H')∧∀H2:AH,(∀m x kk,fH H m x=Wf kk->fH H2 m x=Wf kk)->dp X rid H2 a o=eY X.P H2 n Nd s k cs:=by
 obtain⟨dst,op,ty,pos,aft,grd⟩:=o;cases op<;>try(simp[oB]at ha;done)
 rename_i c;obtain⟨callee,args,ats⟩:=c;cases callee<;>try(simp[oB]at ha;done)
 rename_i b;cases b<;>try(simp[oB]at ha;done)
 ··change fK X.P H .append ats ty ((args.map (ev X a)).toList)=Wf (v,H')at hv
   change ∃n Nd s k cs,eY X.P H n Nd s k cs=Wf (v,H')∧∀H2:AH,(∀m x kk,fH H m x=Wf kk->fH H2 m x=Wf kk)->fK X.P H2 .append ats ty ((args.map (ev X a)).toList)=eY X.P H2 n Nd s k cs
   generalize(args.map (ev X a)).toList=l at hv ⊢
   match l,hv with
   |[],hv=>trivial
   |[_],hv=>trivial
   |_::_::_::_,hv=>trivial
   | [s,x],hv=>
    simp only[fK]at hv ⊢;split at hv
    .rename_i e d h1 h2;split at hv
     .rename_i n Nd z0 h3 h4 h5;split at hv
      .cases hv
      .rename_i hn;simp only[iN hn];split at hv
       .split at hv
        .rename_i hc;exact⟨_,_,_,_,_,hv,λH2 _=>by rw[ip hc]⟩
        trivial
       .cases hv
       grind
     trivial
    trivial
theorem ahP{r:Nat}{y z:bv}(hy:H.get r=Wf y)(hy0:y.st=0)(hz:z.shared=SM)(ha:oB o.op=Th)(hv:dp X rid H a o=Wf (v,H')):dp X rid (H.set r z) a o=Wf (v,H'.set r z):=by grind[S5,adX,apG]
theorem Km{H:AH}{r:Nat}{x x2 y:bv}(hb:H.get b=Wf x)(h:(H.set b x2).get r=Wf y):∃y0,H.get r=Wf y0:=by grind[AH.get_set]
theorem U8{H:AH}{p:Nat->bv->Bool}{r:Nat}{y:bv}(h:(H.kill p).get r=Wf y):∃y0,H.get r=Wf y0:=by grind[AH.get_kill,AH.get]
theorem ake{H:AH}{p:Nat->bv->Bool}{r:Nat}{y:bv}(h:H.get r=Wf y):∃y0,(H.kill p).get r=Wf y0:=by grind[AH.get_kill]
theorem abD{H:AH}{vs:am}(h:j6 H b off vs=Wf H1){r:Nat}{y:bv}(hy:H1.get r=Wf y):∃y0,H.get r=Wf y0:=by
 unfold j6 at h;split at h
 .rename_i x hx;split at h
  .cases h;split at hy
   .obtain⟨x',hx'⟩:=ake (p:=kin b x.fam) hx
    grind[Km,U8]
   grind[Km]
  .cases h
 .cases h
theorem apJ{s:vl}{cs:am}(h:eY P H n Nd s k cs=Wf (v,H')){r:Nat}{y:bv}(hy:H'.get r=Wf y)(hy0:y.st=0):∃y0,H.get r=Wf y0:=by
 have push:∀(K:AH)(x:bv),x.st=1->(K.push x).get r=Wf y->K.get r=Wf y:=λK x hx hg=>by
  by_cases hr:r=K.n
  .grind[AH.get_push_new]
  .rwa [AH.get_push hr]at hg
 unfold eY at h;split at h
 .split at h
  .grind
  .split at h
   .cases h;exact⟨_,push _ _ rfl hy⟩
   .cases h
 .split at h
  .cases h
  .split at h
   .grind
   .split at h
    .grind[abD]
    .split at h
     .split at h
      .split at h
       .rename_i x hx hxc;simp only at h;split at h
        .cases h;exact⟨_,push _ _ rfl hy⟩
        .split at h
         .cases h;obtain⟨y0,h0⟩:=U8 (push _ _ rfl hy)
          grind[Km]
         .cases h
       .cases h
      .cases h
     .cases h
 .cases h
noncomputable section
variable{X:dh}{cf:fW}{RM:Array oR}{B:Nat}
theorem Nm{H:AH}{a:am}{o:oR}(h:sX o.op=SM):nD X cf RM RC i o a H=iB X cf (RC.map (· + i)) H a o:=by unfold nD;simp[nU,h]
theorem amx{H:AH}{a:am}{o:oR}(h:(RC.isSome&&nU RM i o.op)=SM):nD X cf RM RC i o a H=iB X cf (RC.map (· + i)) H a o:=by unfold nD;simp[h]
theorem QA{H H':AH}{a:am}{o:oR}{v:vl}(hcf:jR cf)(h:jJ X cf B H a o=Wf (v,H')):∃H1,H.n<=H1.n∧H'=H.graft H1:=by
 unfold jJ at h;split at h
 .split at h
  .split at h
   .split at h
    .rename_i h1;cases h;exact⟨_,(hcf _ _ _ _ _ h1).n,rfl⟩
    .cases h
   .cases h
  .cases h
 .cases h
theorem Q7:∀l:List bv,oO l l=Th
 |[]=>rfl
 |x::l=>by simp[oO,Q7 l]
theorem ahb{H:AH}(hn:H.n<=H1.n):preB H (H.graft H1)=Th:=by
 unfold preB
 have e:(H.graft H1).l.drop ((H.graft H1).n-H.n)=H.l:=by
  show((List.range (H1.n-H.n)).map (λi=>H1.l.getD i pE)++H.l).drop (H1.n-H.n)=H.l
  rw[List.drop_append_of_le_length ac,Y9 ac,List.nil_append]
 rw[e];exact Q7 _
theorem D9{H:AH}{a:am}{o:oR}(hcf:jR cf)(hs:nU RM i o.op=Th)(hg:oj X.P RM o a=Th):gI X cf RM (Wf B) i o a H=jJ X cf B H a o:=by
 unfold gI nD;simp only[hs,Wy,Ws,iT,Option.getD_some];cases h:jJ X cf B H a o with
 |none=>rfl
 | some r=>
  obtain⟨v,H'⟩:=r;obtain⟨H1,hn,rfl⟩:=QA hcf h;simp[hg,ahb hn]
theorem QB{H H':AH}{a:am}{o:oR}{v:vl}{r:Nat}(hcf:jR cf)(h:jJ X cf B H a o=Wf (v,H'))(hr:r<H.n):H'.get r=H.get r:=by obtain⟨H1,hn,rfl⟩:=QA hcf h;exact HS hn hr
theorem YH{H H':AH}{a:am}{o:oR}{v:vl}(h:gI X cf RM (Wf B) i o a H=Wf (v,H')):oj X.P RM o a=Th:=by
 unfold gI at h;split at h
 .split at h
  .cases h
  .rename_i hn;cases hg:oj X.P RM o a with
   |true=>rfl
   |false=>grind
 .cases h
theorem ot{H:AH}{a:am}{o:oR}(h:eH X.P o.op=SM)(hg:oj X.P RM o a=Th):gI X cf RM RC i o a H=dp X (RC.map (· + i)) H a o:=by
 have h1:iB X cf (RC.map (· + i)) H a o=dp X (RC.map (· + i)) H a o:=by
  unfold iB;split
  .rename_i c hc;split
   .rfl
   .rename_i hb;rw[hc]at h;obtain⟨bp,args,ats⟩:=c;cases bp<;>simp[eH]at h<;>simp[pd]at hb
  .rfl
 have h2:oA X.P RM i o=SM:=by simp[oA,h]
 have h0:sX o.op=SM:=by
  unfold sX;split
  .rename_i c hc;rw[hc]at h;obtain⟨bp,args,ats⟩:=c;cases bp<;>simp[eH]at h<;>simp[pd]
  .rfl
 unfold gI;rw[Nm h0,h1,h2,hg];cases dp X (RC.map (· + i)) H a o with
 |none=>rfl
 |some r=>simp
theorem amu{H H':AH}{a:am}{o:oR}{v:vl}(h:gI X cf RM (Wf B) i o a H=Wf (v,H'))(hc:oA X.P RM i o=Th):preB H H'=Th∨(tZ X.P RM=Th∧offB X.P RM i a H H'=Th):=by grind[gI]
theorem YG{H H':AH}{a:am}{i j:Nat}{o x:oR}{v:vl}(hev:cE H H')(h:gI X cf RM (Wf B) i o a H=Wf (v,H'))(hc:oA X.P RM i o=Th)(hu:oI RM i j=Th)
  (hm:(x,j)∈RM.toList.zipIdx) (hl:iy X.P x.op=Th) (hg:oj X.P RM x a=Th) {b:Nat} {y:bv} (ht:touch X a x=Wf b) (hy:H.get b=Wf y):H'.get b=Wf y:=by
 rcases amu h hc with hp|⟨hmo,ho⟩
 .grind[ahc]
 .have:=Zz.1 ho (x,j) hm;simp[hl,hu,Ws,Wg,We]at this;split at this
  .rename_i t p hp;have e:touch X a x=iY (dW a p):=by unfold touch;rw[hp];rfl
   grind[oj,sameAt,cE.keep]
  trivial
theorem afO{H:AH}{r s:Nat}{x y:bv}(hr:∃u,H.get r=Wf u)(hs:∃u,H.get s=Wf u)(MT:r≠s):(H.set r x).set s y=(H.set s y).set r x:=by obtain⟨u,hu⟩:=hr;obtain⟨w,hw⟩:=hs;have h1:=AH.get_lt hu;have h2:=AH.get_lt hw;simp only[AH.set];congr 1;exact V8 _ _ aa
theorem ag9{H:AH}{r:Nat}{z:bv}(hr:r<H.n)(hn:H.n<=H1.n)(h:preB H H1=Th):preB (H.set r z) (H1.set r z)=Th:=by
 have key:∀(l m:List bv)(i:Nat),oO l m=Th->oO (l.set i z) (m.set i z)=Th:=by
  intro l
  induction l with
  | nil=>intro m i h;cases m with
   |nil=>rfl
   |cons y m=>trivial
  | cons x l ih=>
   intro m i h;cases m with
   |nil=>trivial
   | cons y m=>
    simp only[oO,Z7]at h;cases i with
    |zero=>grind[oO]
    |succ i=>grind[oO]
 unfold preB at h ⊢;simp[AH.set]
 have e:(H1.l.set (H1.n-1-r) z).drop (H1.n-H.n)=(H1.l.drop (H1.n-H.n)).set (H.n-1-r) z:=by
  rw[List.drop_set,iN aa];congr 1;omega
 grind
theorem ahX{H:AH}{r:Nat}{y y1 z:bv}(hy:H.get r=Wf y)(hy1:H1.get r=Wf y1){a:am}(h:offB X.P RM i a H H1=Th):offB X.P RM i a (H.set r z) (H1.set r z)=Th:=by
 unfold offB at h ⊢;rw[Zz]at h ⊢;intro x hx;have:=h x hx;simp only[X4]at this ⊢;rcases this with h1|h1
 .grind
 .refine .inr ?_;split at h1
  .split at h1
   .grind[sameAt,AH.get_set]
   omega
  omega
theorem aa4{H:AH}{a:am}{rid:Option Nat}{x:oR}(ap:oB x.op=Th):iB X cf rid H a x=dp X rid H a x:=by grind[oB,iB,pd]
theorem aa5{x:oR}(ap:oB x.op=Th):sX x.op=SM:=by
 unfold oB at ap;split at ap
 .rename_i c hc;rw[hc];split at ap
  .rename_i hb;simp[sX,pd,hb]
  .cases ap
 .cases ap
theorem amw{H:AH}{a:am}{r:Nat}{x:oR}{v:vl}{y z:bv}(ap:oB x.op=Th)(hy:H.get r=Wf y)(hy0:y.st=0)(hz:z.shared=SM)(hx:gI X cf RM (Wf B) j x a H=Wf (v,H1)):
  gI X cf RM (Wf B) j x a (H.set r z)=Wf (v,H1.set r z):=by
 unfold gI at hx ⊢;rw[Nm (aa5 ap),aa4 ap]at hx ⊢;cases hv:dp X ((Wf B).map (· + j)) H a x with
 |none=>grind
 | some p=>
  obtain⟨v',H'⟩:=p;rw[hv]at hx;rw[ahP hy hy0 hz ap hv];simp only at hx ⊢;split at hx
  .cases hx
  .rename_i hc;cases hx;rw[iN];have hev:=Gz hv;have hr:=AH.get_lt hy
   obtain ⟨y1,hy1⟩:∃y1,H1.get r=Wf y1:=by
    grind[cE.keep]
   intro hbad;apply hc;simp only[Wy,X9,X4,Y4,Z7]at hbad ⊢;rcases hbad with hb|⟨⟨hb1,hb2⟩,hb3⟩
   .grind
   .refine .inr ⟨⟨hb1,?_⟩,?_⟩
    .cases hp:preB H H1 with
     |false=>rfl
     |true=>grind[ag9,cE.n]
    .cases hm:tZ X.P RM with
     |false=>rfl
     | true=>
      rw[hm,X9]at hb3;cases ho:offB X.P RM j a H H1 with
      |false=>rfl
      |true=>grind[ahX]
theorem aih{H:AH}{a:am}{r:Nat}{x:oR}{v:vl}{y:bv}(hev:cE H H1)(hx:gI X cf RM (Wf B) j x a H=Wf (v,H1))(ap:oB x.op=Th)(hy:H1.get r=Wf y)(hy0:y.st=0)(hyv:y.ver=0):H.get r=Wf y:=by
 unfold gI at hx;rw[Nm (aa5 ap),aa4 ap]at hx;cases hv:dp X ((Wf B).map (· + j)) H a x with
 |none=>grind
 | some p=>
  obtain⟨v',H'⟩:=p;rw[hv]at hx;simp only at hx;split at hx
  .cases hx
  .cases hx;obtain⟨n,Nd,s,k,cs,h1,_⟩:=S5 ap hv;obtain⟨y0,hg⟩:=apJ h1 hy hy0;obtain⟨y1,q1,q2,q3,_⟩:=hev.keep r y0 hg;rw[hy]at q1;cases q1;have:=q3 aa
   grind
theorem amt(hcf:jR cf){H H1 H2:AH}{a:am}{i j:Nat}{x o:oR}{vx vo:vl}(hij:j≠i)
  (hx:gI X cf RM (Wf B) j x a H=Wf (vx,H1)) (ho:gI X cf RM (Wf B) i o a H1=Wf (vo,H2))
  (c1:¬(eH X.P x.op=Th∧eH X.P o.op=Th)) (c2:eH X.P x.op=Th->ku o.op=Th->oB x.op=Th∨nU RM j x.op=Th) (c3:ku x.op=Th->eH X.P o.op=Th->nU RM i o.op=Th) (hBn:B+RM.size<=H.n)
  (mx:(x,j)∈RM.toList.zipIdx) (mo:(o,i)∈RM.toList.zipIdx)
  (k1:eH X.P x.op=Th->iy X.P o.op=Th->oA X.P RM j x=Th∧oI RM j i=Th) (k2:eH X.P o.op=Th->iy X.P x.op=Th->oA X.P RM i o=Th∧oI RM i j=Th)
  (good:eH X.P o.op=SM->(iy X.P o.op=Th∨o9 o.op=Th)->∀b,touch X a o=Wf b->∃y,H.get b=Wf y∧y.st≠0) :
  ∃H1',gI X cf RM (Wf B) i o a H=Wf (vo,H1')∧gI X cf RM (Wf B) j x a H1'=Wf (vx,H2):=by
 have gx:=YH hx;have go:=YH ho;by_cases ex:eH X.P x.op=Th
 ·-- x writes
  have eo:eH X.P o.op=SM:=by simpa using λh=>c1 ⟨ex,h⟩
  by_cases no':ku o.op=Th
  ·-- an append and a new block
   rcases c2 ex no' with ap|sl
   case inr=>
    rw[D9 hcf sl gx]at hx;have eo2:=λH=>ot (cf:=cf) (RM:=RM) (H:=H) (a:=a) (RC:=some B) (i:=i) eo go
    rw[eo2]at ho;obtain⟨cells,⟨y,hy,hy0,hyv⟩,u2,u3⟩:=AN (r:=B+i) ho no';have hi:i<RM.size:=by have:=Yc.1 mo;grind
    have hy':H.get (B+i)=Wf y:=by rw[<-QB hcf hx aa,hy]
    refine⟨_,by rw[eo2];exact u3 H ⟨y,hy',hy0,hyv⟩,?_⟩;rw[D9 hcf sl gx,u2];exact ad9 hcf aa aa hx
   have eo2:=λH=>ot (cf:=cf) (RM:=RM) (H:=H) (a:=a) (RC:=some B) (i:=i) eo go
   rw[eo2]at ho;obtain⟨cells,u1,u2,u3⟩:=AN (r:=B+i) ho no';obtain⟨y,hy,hy0,hyv⟩:=u1;have hev:=BF hcf hx
   grind[aih,fresh,amw]
  have no:ku o.op=SM:=by simpa using no'
  rw[ot eo go]at ho ⊢;by_cases lo:iy X.P o.op=Th
  .obtain⟨e1,_,e3⟩:=C7 ho eo lo;subst e1;obtain⟨c1',c2'⟩:=k1 ex lo;refine⟨H,e3 _ H (λb hb=>?_),hx⟩;obtain⟨y,hy,_⟩:=good eo (.inl lo) b hb;rw[hy,YG (BF hcf hx) hx c1' c2' mo lo go hb hy]
  .by_cases so:o9 o.op=Th
   .obtain⟨e1,e2,e3⟩:=C6 ho so;subst e1;refine⟨H,e3 _ H (λb hb=>?_),hx⟩;obtain⟨y,y2,q1,q2,q3,q4,q5,q6,q7⟩:=(BF hcf hx).stat (good eo (.inr so) b hb);exact⟨y2,y,q2,q1,q4,q3,q5.symm,q6.symm,q7.symm⟩
   grind[AM]
 .have ex':eH X.P x.op=SM:=by simpa using ex
  rw[ot ex' gx]at hx;by_cases nx:ku x.op=Th
  ·-- x makes a block
   by_cases eo':eH X.P o.op=Th
   .have sl:=c3 nx eo';rw[D9 hcf sl go]at ho;obtain⟨cells,⟨y,hy,hy0,hyv⟩,u2,u3⟩:=AN (r:=B+j) hx nx;subst u2;have hr:=AH.get_lt hy;obtain⟨H1',g1,g2⟩:=ad8 hcf hr aa ho;refine⟨H1',by rw[D9 hcf sl go];exact g1,?_⟩;rw[ot ex' gx,g2];exact u3 H1' ⟨y,by rw[QB hcf g1 hr,hy],hy0,hyv⟩
   have eo:eH X.P o.op=SM:=by simpa using eo'
   rw[ot eo go]at ho ⊢;obtain⟨cells,u1,u2,u3⟩:=AN (r:=B+j) hx nx;obtain⟨y,hy,hy0,hyv⟩:=u1;by_cases no:ku o.op=Th
   .obtain⟨cells2,w1,w2,w3⟩:=AN (r:=B+i) ho no;have MT:B+i≠B+j:=aa
    have w1':∃y,H.get (B+i)=Wf y∧y.st=0∧y.ver=0:=by
     obtain⟨z,hz,hz2⟩:=w1;rw[u2,AH.get_set hy,iN MT]at hz;exact⟨z,hz,hz2⟩
    refine⟨_,w3 H w1',?_⟩;obtain⟨z,hz,hz2⟩:=w1';have u1':∃y,(H.set (B+i) (fresh (B+i) cells2)).get (B+j)=Wf y∧y.st=0∧y.ver=0:=⟨y,by grind[AH.get_set],hy0,hyv⟩;rw[ot ex' gx];have:=u3 _ u1';rw[w2,u2,afO ⟨y,hy⟩ ⟨z,hz⟩ (λe=>MT e.symm)];exact this
   .by_cases lo:iy X.P o.op=Th
    .grind[C7,ot,AH.get_set]
    .by_cases so:o9 o.op=Th
     .obtain⟨e1,e2,e3⟩:=C6 ho so;subst e1;refine⟨H,e3 _ H (λb hb=>?_),by grind[ot]⟩;obtain⟨y,y2,q1,q2,q3,q4,q5,q6,q7⟩:=(Gz hx).stat (good eo (.inr so) b hb);exact⟨y2,y,q2,q1,q4,q3,q5.symm,q6.symm,q7.symm⟩
     grind[AM,ot]
  .have nx':ku x.op=SM:=by simpa using nx
   by_cases lx:iy X.P x.op=Th
   ·-- x reads
    obtain⟨e1,e2,e3⟩:=C7 hx ex' lx;subst e1;refine⟨H2,ho,?_⟩;rw[ot ex' gx];refine e3 _ H2 (λb hb=>?_);obtain⟨y,hy,hy0⟩:=e2 b hb;by_cases eo:eH X.P o.op=Th
    .rw[hy,YG (BF hcf ho) ho (k2 eo lx).1 (k2 eo lx).2 mx lx gx hb hy]
    .have eo':eH X.P o.op=SM:=by simpa using eo
     rw[ot eo' go]at ho;by_cases no:ku o.op=Th
     .grind[AN,AH.get_set]
     .by_cases lo:iy X.P o.op=Th
      .rw[(C7 ho eo' lo).1]
      .by_cases so:o9 o.op=Th
       .rw[(C6 ho so).1]
       .rw[(AM ho eo' ae ae ae).1]
   .by_cases sx:o9 x.op=Th
    .grind[C6,ot,cE.stat,BF]
    grind[AM,ot]
structure OQ(X:dh)(RM:Array oR)(j i:Nat)(x o:oR):Prop where
 ne:j≠i
 apart:x.apart RM o=Th
 c1:¬(eH X.P x.op=Th∧eH X.P o.op=Th)
 c2:eH X.P x.op=Th->ku o.op=Th->oB x.op=Th∨nU RM j x.op=Th
 c3:ku x.op=Th->eH X.P o.op=Th->nU RM i o.op=Th
 mx:(x,j)∈RM.toList.zipIdx
 mo:(o,i)∈RM.toList.zipIdx
 k1:eH X.P x.op=Th->iy X.P o.op=Th->oA X.P RM j x=Th∧oI RM j i=Th
 k2:eH X.P o.op=Th->iy X.P x.op=Th->oA X.P RM i o=Th∧oI RM i j=Th
theorem XT{x:oR}(hm:(x,j)∈RM.toList.zipIdx):∀d,x.dst=Wf d->nC RM d=Th:=λd hd=>by
 grind[nC,Xs]
def Good(X:dh)(RM:Array oR)(a:am)(H:AH)(o:oR):Prop:=
 Region.wanted o (jS RM a)=Th->eH X.P o.op=SM->(iy X.P o.op=Th∨o9 o.op=Th)->∀b,touch X a o=Wf b->∃y,H.get b=Wf y∧y.st≠0
theorem adN(hcf:jR cf){H H1 H2:AH}{a a1 a2:am}{i j:Nat}{x o:oR}(F:OQ X RM j i x o)
  (hx:dR X cf RM (Wf B) j x a H=Wf (a1,H1)) (ho:dR X cf RM (Wf B) i o a1 H1=Wf (a2,H2)) (good:Good X RM a H o) (hBn:B+RM.size<=H.n) :
  ∃a1' H1',dR X cf RM (Wf B) i o a H=Wf (a1',H1')∧dR X cf RM (Wf B) j x a1' H1'=Wf (a2,H2):=by
 obtain⟨p1,p2,p3⟩:=oR.apart_spec F.apart
 -- the second operation does not see what the first one writes
 have so:∀{v:vl}{H:AH},dR X cf RM (Wf B) i o (dO a x.dst v) H=(dR X cf RM (Wf B) i o a H).map λr=>(dO r.1 x.dst v,r.2):=by
  intro v H;unfold dR;rw[Jn p1,YF p1 (XT F.mx)];split
  .cases hd:gI X cf RM (Wf B) i o a H with
   |none=>rfl
   |some r=>grind[yL]
  .grind[yL]
 have sx:∀{v:vl}{H:AH},dR X cf RM (Wf B) j x (dO a o.dst v) H=(dR X cf RM (Wf B) j x a H).map λr=>(dO r.1 o.dst v,r.2):=by
  intro v H;unfold dR;rw[Jn p3,YF p3 (XT F.mo)];have p2':∀d,o.dst=Wf d->x.dst≠Wf d:=λd hd hx=>p2 d hx hd
  split
  .cases hd:gI X cf RM (Wf B) j x a H with
   |none=>rfl
   |some r=>grind[yL]
  .grind[yL]
 by_cases wx:Region.wanted x (jS RM a)=Th
 .have hx':=hx;unfold dR at hx';rw[ip wx]at hx';split at hx'
  case h_2=>cases hx'
  rename_i vx Hx dx;simp[Z9,Z5]at hx';obtain⟨rfl,rfl⟩:=hx';rw[so]at ho;by_cases wo:Region.wanted o (jS RM a)=Th
  ·have e:dR X cf RM (Wf B) i o a Hx=match gI X cf RM (Wf B) i o a Hx with
    |some (v,H')=>Wf (dO a o.dst v,H')
    |none=>Vc:=by unfold dR;rw[ip wo];try rfl
   rw[e]at ho;split at ho
   case h_2=>cases ho
   rename_i vo Ho do_;simp[Option.map_some,Z9,Z5]at ho;obtain⟨rfl,rfl⟩:=ho;obtain⟨H1',g1,g2⟩:=amt hcf F.ne dx do_ F.c1 F.c2 F.c3 hBn F.mx F.mo F.k1 F.k2 (good wo);refine⟨dO a o.dst vo,H1',by grind[dR],?_⟩;rw[sx];have:dR X cf RM (Wf B) j x a H1'=Wf (dO a x.dst vx,Ho):=by unfold dR;rw[ip wx,g2]
   grind[yL]
  .have e:dR X cf RM (Wf B) i o a Hx=Wf (dO a o.dst undef,Hx):=by unfold dR;rw[iN wo]
   grind[Z9,dR,yL]
 .have e0:dR X cf RM (Wf B) j x a H=Wf (dO a x.dst undef,H):=by unfold dR;rw[iN wx]
  rw[e0]at hx;simp[Z9,Z5]at hx;obtain⟨rfl,rfl⟩:=hx;rw[so]at ho;cases hs:dR X cf RM (Wf B) i o a H with
  |none=>grind
  | some r=>
   obtain⟨a',H'⟩:=r;rw[hs]at ho;simp[Option.map_some,Z9,Z5]at ho;obtain⟨rfl,rfl⟩:=ho;refine⟨a',H',rfl,?_⟩
   -- a' is a with o's KK filled
   have ha':∃u,a'=dO a o.dst u:=by
    unfold dR at hs;split at hs
    .grind
    .grind
   obtain⟨u,rfl⟩:=ha';rw[sx];have:dR X cf RM (Wf B) j x a H'=Wf (dO a x.dst undef,H'):=by unfold dR;rw[iN wx]
   grind[yL]
def rW(X:dh)(cf:fW)(RM:Array oR)(B:Nat):List (oR×Nat)->am->AH->Option (am×AH)
 |[],a,H=>Wf (a,H)
 | (o,i)::rest,a,H=>match dR X cf RM (Wf B) i o a H with
  |some (a',H')=>rW X cf RM B rest a' H'
  |none=>Vc
theorem Rk:∀(l:List oR)(i:Nat)(a:am)(H:AH),jL X cf RM (Wf B) i l a H=rW X cf RM B (l.zipIdx i) a H
 |[],_,_,_=>rfl
 | o::l,i,a,H=>by
  simp[jL,List.zipIdx_cons,rW];cases hs:dR X cf RM (Wf B) i o a H with
  |none=>rfl
  |some r=>obtain⟨a',H'⟩:=r;exact Rk l (i+1) a' H'
theorem Rm(hcf:jR cf){i:Nat}{o:oR}:∀(pre post:List (oR×Nat))(a:am)(H:AH)(r:am×AH),
  (∀x∈pre,OQ X RM x.2 i x.1 o)->Good X RM a H o->B+RM.size<=H.n->rW X cf RM B (pre++(o,i)::post) a H=Wf r ->
  ∃a' H',dR X cf RM (Wf B) i o a H=Wf (a',H')∧rW X cf RM B (pre++post) a' H'=Wf r
 | [],post,a,H,r,_,_,_,h=>by
  grind[rW]
 | (x,j)::pre,post,a,H,r,hF,hg,hBn,h=>by
  simp[List.cons_append,rW]at h;split at h
  .rename_i a1 H1 hs;have F:=hF (x,j) ac;obtain⟨p1,p2,p3⟩:=oR.apart_spec F.apart;have he:=Fa hcf hs
   have ha1:∃u,a1=dO a x.dst u:=by
    unfold dR at hs;split at hs
    .grind
    .grind
   have hg1:Good X RM a1 H1 o:=by
    obtain⟨u,rfl⟩:=ha1;intro w e l b hb;rw[Jn p1]at w;rw[ade p1]at hb;obtain⟨y,hy,hy0⟩:=hg w e l b hb;obtain⟨y',hy',_,_,k⟩:=he.keep b y hy;exact⟨y',hy',(k hy0).1⟩
   obtain⟨a2,H2,hs2,hr⟩:=Rm hcf pre post a1 H1 r (λz hz=>hF z ae) hg1 (Z1 hBn he.n) h
   grind[adN,rW]
  .cases h
end
def TV(M:ax)(o:oR):Nat:=o.after.toList.foldl (λs e=>if Region.binds .any e then s|||2^e.on|||M.getD e.on 0 else s) 0
def MP(P:pG)(RM:Array oR)(j i:Nat)(x o:oR):Bool:=
 x.apart RM o && !(eH P x.op&&eH P o.op)&&(!(eH P x.op&&ku o.op)||oB x.op||nU RM j x.op)&&(!(ku x.op&&eH P o.op)||nU RM i o.op) &&
 (!(eH P x.op&&iy P o.op)||oA P RM j x&&oI RM j i)&&(!(eH P o.op&&iy P x.op)||oA P RM i o&&oI RM i j)
def XU(P:pG)(RM:Array oR):Bool:=
 let M:=(Region.before RM).toList
 (RM.toList.zipIdx).all λ(o,i)=>
  M.getD i 0 == TV M o&&(o.after.toList.all λe=>!Region.binds .any e||decide (e.on<i)) &&
  (RM.toList.zipIdx).all λ(x,j)=>decide (i<=j)||(M.getD i 0).testBit j||MP P RM j i x o
def mP:Code->Bool
 |.seq x y|.cond _ x y=>mP x&&mP y
 |.block _ c|.loop c=>mP c
 |.scope _|.rangeFunc ..=>SM
 |_=>Th
def ko(P:pG):Code->Bool
 |.region _ RM draw=>RM.toList.all xW&&(!draw||XU P RM)
 |.rangeFunc g _ x y=>tU g&&ko P x&&ko P y&&mP x&&mP y
 |.seq x y=>ko P x&&ko P y
 |.cond c x y=>tU c&&ko P x&&ko P y
 |.block _ c|.loop c|.scope c=>ko P c
 |_=>Th
def GE(P:pG)(fn:Func):Bool:=
 (fn.name != "runtime.NumGoroutine")&&match fn.body with
 |some c=>ko P c
 |none=>SM
def OS(X:dh)(f:fI)(args:am)(v:vl):Prop:=∀w,(callFunc f args.toArray).run X.P w=.ok (.value v) w
def abn(X:dh):Prop:=∀f args v,X.orc f args=Wf v→eE args=Th∧plain v=Th∧(OS X f args v ∨
 (∃fn,X.P.funcs[f]?=Wf fn∧fn.body.isNone=SM∧(fn.name == "runtime.NumGoroutine")=SM) ∧
 ∀w,Calls X.P f args.toArray w λe w'=>e=.returned v∧w.heap.size≤w'.heap.size∧(∀c,c<w.heap.size→w'.heap[c]?=w.heap[c]?)∧w'.os=w.os∧w'.output=w.output)
abbrev Fw(r:Option Nat):Fence:={Fence.wide with round:=r}
def I6(X:dh):Prop:=∀gf lb H xs,X.seq gf lb H=Wf xs→(∀x∈xs,eE x=Th) ∧
 (∃fn,X.P.funcs[gf]?=Wf fn∧fn.body.isNone=SM∧(fn.name == "runtime.NumGoroutine")=SM) ∧
 ∀ φ w (lb':am),bC X φ H w→aE φ lb lb'→∃View:wO→Prop,(∀φ' H' w',bC X φ' H' w'→gM φ φ'→aE φ' lb lb'→X.seq gf lb H'=Wf xs→X.seqK gf lb H'=X.seqK gf lb H→View w') ∧
  ∀(l:Nat)(J Jx:Nat→wO→Prop)(W:wO),(∀i W1,J i W1→View W1) →
   (∀i x W1,J i W1→xs[i]?=Wf x→YieldAt (Fw Vc) 0 X.P l x.toArray W1 λe W'=>(e=.returned (.bool Th)∧J (i+1) W')∨(e=.returned (.bool SM)∧Jx (i+1) W')) →
   J 0 W→CallsIn (Fw Vc) 0 X.P gf (#[.func (.yield l) #[] #[]]++lb'.toArray) W λe W'=>(∃v,e=.returned v)∧(J (RW xs) W'∨∃i,Jx i W')
structure OO(X:dh):Prop where
 mixed:X.P.follows .mixedOrders=Th
 fns:∀f fn,X.allow f=Th->X.P.funcs[f]?=Wf fn->GE X.P fn=Th
 orc:abn X
 seq:I6 X
variable{X:dh}{cf:fW}{φ:bI}{H:AH}{w:wO}
def uN(X:dh)(cf:fW):Prop:=∀f args H v H',cf f args H=Wf (v,H')→(X.orc f args=Wf v∧H'=H∧eE args=Th∧plain v=Th∧OS X f args v) ∨
 (∃fn,X.P.funcs[f]?=Wf fn∧fn.body.isNone=SM∧(fn.name == "runtime.NumGoroutine")=SM) ∧
 ∀ φ w (GS:Array vl),bC X φ H w→aE φ args GS.toList →
  Calls X.P f GS w λe w'=>∃φ' v',e=.returned v'∧aC φ' v v'∧bC X φ' H' w'∧cD φ H w φ' H' w'∧cY H.n Vc φ φ'
theorem KU{a:am}(ha:aE φ a LT.tmps.toList){v:vl}(hv:aC φ v v')(dst:Option Tmp):aE φ (dO a dst v) (LT.put dst v').tmps.toList:=by
 cases dst with
 |none=>exact ha
 |some d=>grind[dO,Act.put,aE.set]
theorem put_defers(LT:Act)(dst:Option Tmp)(v:vl):(LT.put dst v).defers=LT.defers:=by cases dst<;>rfl
theorem abA{a:am}(ha:aE φ a LT.tmps.toList)(RM:Array oR)(j:Nat):yielded RM LT.tmps j=jS RM a j:=by
 unfold yielded jS;cases ht:(RM[j]?).bind (·.dst)with
 |none=>rfl
 | some t=>
  simp[Option.bind_some];cases hv:a[t]? with
  | none=>
   have:=ha.none hv
   grind
  | some v=>
   obtain⟨v',h1,h2⟩:=ha.at hv;rw[Array.getElem?_toList]at h1;rw[h1];cases v with
   |bool b=>rw[Ga h2]
   |pointer p=>cases p<;>simp[aC]at h2<;>(try obtain⟨_,rfl,_⟩:=h2)<;>(try subst h2)<;>rfl
   |slice p _ _=>cases p<;>simp[aC]at h2<;>(try obtain⟨_,_,rfl,_⟩:=h2)<;>(try subst h2)<;>rfl
   |chan c=>cases c<;>simp[aC]at h2<;>(try obtain⟨_,rfl⟩:=h2)<;>(try subst h2)<;>rfl
   |map c=>cases c<;>simp[aC]at h2<;>(try subst h2)<;>rfl
   |agg x=>obtain⟨x⟩:=x;grind[aC]
   |tuple x=>obtain⟨x⟩:=x;grind[aC]
   |iface t x=>grind[aC]
   |func fn x y=>obtain⟨x⟩:=x;obtain⟨y⟩:=y;simp[aC]at h2;grind
   |_=>simp[aC]at h2;subst h2;rfl
theorem ab0{a:am}(ha:aE φ a LT.tmps.toList)(RM:Array oR)(o:oR):Region.wanted o (yielded RM LT.tmps)=Region.wanted o (jS RM a):=by
 have:yielded RM LT.tmps=jS RM a:=funext (abA ha RM)
 grind
def marks(ds:ax):List Deferred:=ds.map λD=>{target:=.collected D,args:=#[]}
def mI(w:wO)(d:List Deferred)(w':wO)(d':List Deferred):Prop:=
 ∃ds:ax,d'=marks ds++d∧ds.Nodup∧∀D∈ds,w.heap.size<=D∧w'.heap[D]?=Wf (.deferred (Wf []))
theorem mI.of_eq{w:wO}{d d':List Deferred}(h:d'=d):mI w d w' d':=⟨[],cU,List.nodup_nil,λD h=>by simp at h⟩
theorem cD.other{X:dh}{φ:bI}{H H':AH}{w:wO}(h:bC X φ H w)(he:cD φ H w φ' H' w'){o:Obj}(hc:w.heap[c]?=Wf o)(ho:o.isCells=SM):w'.heap[c]?=Wf o:=by
 have PJ:c<w.heap.size:=lt_of_heap hc;refine(he.frame c PJ ?_).trans hc;rintro⟨b,p,x,hp,rfl,_⟩;obtain⟨_,cs,e,fz,_,_,_,_,_,hcs,_⟩:=h.dom b p hp
 grind[Obj.isCells]
theorem mI.trans{X:dh}{w:wO}{d d1 d2:List Deferred}(h:mI w d w1 d1)(hr:bC X φ1 H1 w1)(he:cD φ1 H1 w1 φ2 H2 w2)(hs:w.heap.size<=w1.heap.size)(k:mI w1 d1 w2 d2):mI w d w2 d2:=by
 obtain⟨ds,rfl,n1,q1⟩:=h;obtain⟨es,rfl,n2,q2⟩:=k;refine⟨es++ds,by simp[marks],?_,?_⟩
 .grind
 .intro D hD;rcases Xc.1 hD with hD|hD
  .grind
  .exact⟨(q1 D hD).1,he.other hr (q1 D hD).2 rfl⟩
def bM(X:dh)(L:Nat)(φ:bI)(H:AH)(w:wO)(LT:Act)(a':am)(H':AH)(K:Act->wO->Prop):Prop:=
 ∀φ' act' w',aE φ' a' act'.tmps.toList->mI w LT.defers w' act'.defers->bC X φ' H' w'->cD φ H w φ' H' w'->cY L Vc φ φ'->K act' w'
def Ready(X:dh)(φ:bI)(H:AH)(o:oR)(rid:Option Nat):Prop:=
 ∀t r z,o.op=.alloc t->rid=Wf r->fX X.P t=Wf z->φ r=Vc∧H.get r=Wf (fresh r z.cells.toList)
theorem cY.weak{r:Option Nat}{φ:bI}(h:cY L Vc φ φ'):cY L r φ φ':=λb p h1 h2=>by
 rcases h b p h1 h2 with g|g
 .omega
 .cases g
theorem YI(hcf:uN X cf)(h:bC X φ H w){a:am}{LT:Act}(ha:aE φ a LT.tmps.toList){o:oR}(ho:xW o=Th){rid:Option Nat}{v:vl}{H':AH}
  (DQ:Ready X φ H o rid) (hv:iB X cf rid H a o=Wf (v,H')) {K:Act→wO→Prop} {Q:eX→Act→wO→Prop}
  (hK:∀φ' v' w',aC φ' v v'→bC X φ' H' w'→cD φ H w φ' H' w'→cY H.n rid φ φ'→K (LT.put o.dst v') w') {r:Option Nat}:o.wpIn (Fw r) 0 X.P LT w K Q:=by
 have plain:dp X rid H a o=Wf (v,H')→o.wpIn (Fw r) 0 X.P LT w K Q:=by
  intro hv;obtain⟨φ',v',w',hr,h1,h2,h3,h4⟩:=Lb h ha ho DQ hv;refine⟨λ_ _=>trivial,?_⟩;rw[oR.semAt_eq _ _ _ (λc hc=>by grind[dp])];rcases hr with hr|⟨hr,rfl⟩
  .rw[hr];exact hK φ' v' w' h1 h2 h3 h4
  .rw[hr];exact hK φ' undef w' h1 h2 h3 h4
 unfold iB at hv;split at hv
 .rename_i c hc;split at hv
  .grind
  .rename_i hb;split at hv
   .rename_i g args hcal;unfold pu at hcal;split at hcal
    .rename_i f hf;split at hcal
     .rename_i g0 first captured he
      simp only[Z9,Z5]at hcal;obtain⟨rfl,rfl⟩:=hcal;have Is:∀x∈o.op.operands,tU x=Th:=λx hx=>X1.1 ho x hx
      rw[hc]at Is;have hfr:=dC h ha (Is f (by simp[Op.operands,Call.operands,hf]));rw[he]at hfr;have hargs:=Gy h ha (xs:=c.args) (λx hx=>Is x (by grind[Op.operands,Call.operands]));obtain⟨first⟩:=first
      obtain⟨captured⟩:=captured;simp only[aC]at hfr;obtain⟨_,x',y',e,r1,r2⟩:=hfr;rcases hcf _ _ _ _ _ hv with⟨_,rfl,p1,p2,p3⟩|⟨⟨fn,f1,f2,f3⟩,hcall⟩
      .have hl:aE φ ((⟨first⟩:Array vl).toList++(c.args.map (ev X a)).toList++(⟨captured⟩:Array vl).toList) ((⟨x'⟩:Array vl)++c.args.map LT.eval++⟨y'⟩).toList:=by grind[aE.append]
       have hl':=(aE.of_plain _ p1 _).1 hl;refine⟨λ_ _=>trivial,?_⟩;rw[oR.semAt_eq _ _ _ (λc' hc'=>by grind)]
       have hrun:(execOp LT.eval o).run X.P w=.ok (.value v) w:=by
        have h3:=p3 w;rw[← hl',Array.toArray_toList]at h3;unfold execOp;simp only[hc,resolve,hf,e,Deferred.ofValue,invoke];exact h3
       rw[hrun];exact hK φ v w (lI p2) h (cD.refl _ _ _) (cY.refl _ _ _)
      have hc2:=hcall φ w ((⟨x'⟩:Array vl)++c.args.map LT.eval++⟨y'⟩) h (by
       grind[aE.append])
      refine⟨λ_ _=>trivial,?_⟩;rw[oR.semAt_eq _ _ _ (λc' hc'=>by grind)]
      have hrun:(execOp LT.eval o).run X.P w=.ok (.enter g0 ((⟨x'⟩:Array vl)++c.args.map LT.eval++⟨y'⟩)) w:=by
       unfold execOp;simp only[hc,resolve,hf,e,Deferred.ofValue,invoke,callFunc];have f2':¬fn.body=Vc:=by intro h0;simp[h0]at f2
       have f3':¬fn.name = "runtime.NumGoroutine" :=by simpa using f3
       simp[f1,f2',f3']
      rw[hrun];refine⟨λh=>(by cases h),?_⟩;refine(callsIn_wide.2 (Calls.mono hc2 ?_):CallsIn Fence.wide (0-1) _ _ _ _ _)
      grind[cY.weak]
     trivial
    trivial
   trivial
 grind
def rt(X:dh)(B:Nat)(φ:bI):bI:=λb=>if b<B∧X.glob b=Th then φ b else Vc
theorem w6{B:Nat}(h:rt X B φ b=Wf p):b<B∧X.glob b=Th∧φ b=Wf p:=by
 unfold rt at h;split at h
 .rename_i hc;exact⟨hc.1,hc.2,h⟩
 .cases h
theorem apx{B:Nat}(hG:∀g,X.glob g=Th->g<B)(h:bC X φ H w):bC X (rt X B φ) (H.bare X B) w where
 glob g hg:=by
  obtain⟨p,h1,h2,h3⟩:=h.glob g hg;exact⟨p,by unfold rt;rw[ip ⟨hG g hg,hg⟩];exact h1,h2,h3⟩
 dom b p hp:=by
  obtain⟨hb,hg,hp⟩:=w6 hp;obtain⟨x,cs,e,fz,h1,h2,h3⟩:=h.dom b p hp;refine⟨{x with wr:=SM,st:=if eE x.cells=Th then x.st else x.st+x.st},cs,e,fz,by rw[uJ,h1,Option.map_some,ip ⟨hb,hg⟩],?_,h3⟩
  show(if eE x.cells=Th then x.st else x.st+x.st)≠0
  split<;>omega
 cell b p x i v hp hx hs hv:=by
  obtain⟨hb,hg,hp⟩:=w6 hp;obtain⟨x0,cs,e,fz,h1,_⟩:=h.dom b p hp;rw[uJ,h1,Option.map_some,ip ⟨hb,hg⟩]at hx;cases hx;dsimp only at hs hv;split at hs
  .rename_i DP;obtain⟨v',q1,q2⟩:=h.cell b p x0 i v hp h1 hs hv
   have hpv:∀l:am,eE l=Th->∀u∈l,plain u=Th:=by
    intro l
    induction l with
    |nil=>intro _ u hu;cases hu
    | cons y l ih=>
     intro hl u hu;simp[eE,Z7]at hl;rcases Zx.1 hu with rfl|hu
     .exact hl.1
     .exact ih hl.2 u hu
   have hv2:=hpv _ DP v (Yb hv);rw[(aC.of_plain v hv2 v').1 q2]at q1;exact⟨v,q1,lI hv2⟩
  .omega
 frz b p x i hp hx hw _:=by
  obtain⟨hb,hg,hp⟩:=w6 hp;obtain⟨x0,cs,e,fz,h1,_⟩:=h.dom b p hp;rw[uJ,h1,Option.map_some,ip ⟨hb,hg⟩]at hx;cases hx;cases hw
 sep b b' p p' x x' hp hp' hx hx' _ _ _ _:=by obtain⟨hb,hg,hp⟩:=w6 hp;obtain⟨hb',hg',hp'⟩:=w6 hp';obtain⟨x0,_,_,_,h1,_⟩:=h.dom b p hp;obtain⟨x0',_,_,_,h1',_⟩:=h.dom b' p' hp';rw[uJ,h1,Option.map_some,ip ⟨hb,hg⟩]at hx;rw[uJ,h1',Option.map_some,ip ⟨hb',hg'⟩]at hx';cases hx;cases hx';exact .inl ⟨rfl,rfl⟩
theorem aaV{B:Nat}:¬Over (rt X B φ) (H.bare X B) c:=by
 rintro⟨b,p,x,hp,_,hx,_,hw⟩;obtain⟨hb,hg,_⟩:=w6 hp;rw[uJ]at hx;cases h:H.get b with
 |none=>rw[h]at hx;cases hx
 |some y=>rw[h,Option.map_some,ip ⟨hb,hg⟩]at hx;cases hx;cases hw
theorem ak8{B:Nat}(h:bC X φ H w)(h1:bC X φ' H1 w')(E:cD (rt X B φ) (H.bare X B) w φ' H1 w')(N:cY H.n Vc (rt X B φ) φ')(hn:H.n<=H1.n):
    ∃φ2,gM φ' φ2∧bC X φ2 (H.graft H1) w'∧cD φ H w φ2 (H.graft H1) w'∧cY H.n Vc φ φ2:=by
  have lt:∀{b p},φ b=Wf p->b<H.n:=λhp=>by
    obtain⟨x,_,_,_,hx,_⟩:=h.dom _ _ hp;exact AH.get_lt hx
  have P1:∀{b p},φ' b=Wf p->b<H.n->φ b=Wf p:=λ{b p} hp hb=>by
    cases hq:rt X B φ b with
    | none => rcases N b p hp hq with g|g
              · omega
              · cases g
    | some q=>
      have:=E.le b q hq;rw[hp]at this;cases this;exact(w6 hq).2.2
  have P4:∀{c},c<w.heap.size->w'.heap[c]?=w.heap[c]?:=λhc=>E.frame _ hc aaV
  have P5:∀{b p},φ' b=Wf p->H.n<=b->w.heap.size<=p.c:=λ{b p} hp hb=>by
    have hq:rt X B φ b=Vc:=by
      cases hq:rt X B φ b with
      |none=>rfl
      |some q=>have:=lt (w6 hq).2.2;omega
    rcases E.new b p hp hq with g|g
    · exact g
    · exact absurd g aaV
  have P6:∀{b p},φ b=Wf p->p.c<w.heap.size:=λhp=>by
    obtain⟨_,_,_,_,_,_,_,_,_,hc,_⟩:=h.dom _ _ hp;exact lt_of_heap hc
  let φ2:bI:=λb=>if b<H.n then φ b else φ' b
  have o2:∀{b},b<H.n->φ2 b=φ b:=λhb=>ip hb
  have n2:∀{b}, ¬b<H.n->φ2 b=φ' b:=λhb=>iN hb
  have le1:gM φ' φ2:=λb p hp=>by
    by_cases hb:b<H.n
    · rw[o2 hb];exact P1 hp hb
    · rw[n2 hb];exact hp
  have le2:gM φ φ2:=λb p hp=>by rw[o2 (lt hp)];exact hp
  have gold:∀{b},b<H.n->(H.graft H1).get b=H.get b:=λhb=>HS hn hb
  have gnew:∀{b p},φ' b=Wf p->¬b<H.n->(H.graft H1).get b=H1.get b:=λhp hb=>by
    obtain⟨x,_,_,_,hx,_⟩:=h1.dom _ _ hp;rw[VV aa hx,hx]
  have cellE:∀{c i},c<w.heap.size->w'.cell? ⟨c,i,Vc⟩=w.cell? ⟨c,i,Vc⟩:=λhc=>by simp[wO.cell?,P4 hc]
  have frzE:∀{c i},c<w.heap.size->w'.frozen? ⟨c,i,Vc⟩=w.frozen? ⟨c,i,Vc⟩:=λhc=>by simp[wO.frozen?,P4 hc]
  refine⟨φ2,le1,⟨?_, ?_, ?_, ?_, ?_⟩,⟨le2,E.size,λc hc _=>P4 hc, ?_, ?_, ?_,E.os,E.out⟩, ?_⟩
  · intro g hg
    obtain⟨p,q1,q2⟩:=h.glob g hg;exact⟨p,le2 _ _ q1,q2⟩
  · intro b p hp
    by_cases hb:b<H.n
    · rw[o2 hb]at hp
      obtain⟨x,cs,e,fz,q1,q2,q3,q4,q5,q6,q7⟩:=h.dom b p hp;exact⟨x,cs,e,fz,by rw[gold hb,q1],q2,q3,q4,q5,by rw[P4 (P6 hp)];exact q6,q7⟩
    · rw[n2 hb]at hp
      rw[gnew hp hb];exact h1.dom b p hp
  · intro b p x i v hp hx hs hv
    by_cases hb:b<H.n
    · rw[o2 hb]at hp
      rw[gold hb]at hx;obtain⟨v',q1,q2⟩:=h.cell b p x i v hp hx hs hv;exact⟨v',by rw[cellE (P6 hp)];exact q1,aC.mono le2 _ _ q2⟩
    · rw[n2 hb]at hp
      rw[gnew hp hb]at hx;obtain⟨v',q1,q2⟩:=h1.cell b p x i v hp hx hs hv;exact⟨v',q1,aC.mono le1 _ _ q2⟩
  · intro b p x i hp hx hw hi
    by_cases hb:b<H.n
    · rw[o2 hb]at hp
      rw[gold hb]at hx;rw[frzE (P6 hp)];exact h.frz b p x i hp hx hw hi
    · rw[n2 hb]at hp
      rw[gnew hp hb]at hx;exact h1.frz b p x i hp hx hw hi
  · intro b b' p p' x x' hp hp' hx hx' hs hs' MT hc
    by_cases hb:b<H.n
    · rw[o2 hb]at hp
      rw[gold hb]at hx;by_cases hb':b'<H.n
      · rw[o2 hb']at hp'
        rw[gold hb']at hx';exact h.sep b b' p p' x x' hp hp' hx hx' hs hs' MT hc
      · rw[n2 hb']at hp'
        have:=P6 hp;have:=P5 hp' aa;omega
    · rw[n2 hb]at hp
      rw[gnew hp hb]at hx;by_cases hb':b'<H.n
      · rw[o2 hb']at hp'
        have:=P6 hp';have:=P5 hp aa;omega
      · rw[n2 hb']at hp'
        rw[gnew hp' hb']at hx';exact h1.sep b b' p p' x x' hp hp' hx hx' hs hs' MT hc
  · intro b p hp hq
    by_cases hb:b<H.n
    · rw[o2 hb,hq]at hp;cases hp
    · rw[n2 hb]at hp
      exact .inl (P5 hp aa)
  · intro b p x' hp hx hs hw
    rw[gold (lt hp)]at hx;exact⟨x',hx,hs,hw⟩
  · intro b x _ hx _ _
    rw[gold (AH.get_lt hx)];exact hx
  · intro b p hp hq
    by_cases hb:b<H.n
    · rw[o2 hb,hq]at hp;cases hp
    · exact .inl aa
def apart(X:dh)(cf:fW)(B:Nat):fW:=λg args H=>if eE args=Th then match cf g args (H.bare X B)with
 |some (v,H')=>Wf (v,H.graft H')
 |none=>Vc else Vc
theorem aeb{B:Nat}{a:am}{o:oR}{rid:Option Nat}{r:vl×AH}(h:jJ X cf B H a o=Wf r)(hc:sX o.op=Th):iB X (apart X cf B) rid H a o=Wf r:=by
 unfold jJ at h;unfold iB;split at h
 .rename_i c ho;rw[ho]at hc;have hb:pd c.callee=SM:=by simpa[sX]using hc
  simp[hb,Zg,iF];cases hg:pu (ev X a) c with
  |none=>rw[hg]at h;cases h
  |some q=>rw[hg]at h;exact h
 .cases h
theorem ak7{B:Nat}:H.graft (H.bare X B)=H:=by
 show AH.mk H.n ((List.range (H.n-H.n)).map _++H.l)=H
 rw[Y7];rfl
theorem apK{B:Nat}(hG:∀g,X.glob g=Th->g<B)(hev:jR cf)(hcf:uN X cf):uN X (apart X cf B):=by
 intro f args H v H' hv;unfold apart at hv;split at hv
 .rename_i hp;split at hv
  .rename_i v1 H1 h1;cases hv;rcases hcf f args _ _ _ h1 with⟨q1,q2,q3,q4,q5⟩|⟨q1,q2⟩
   .subst q2;exact .inl ⟨q1,ak7,q3,q4,q5⟩
   .refine .inr ⟨q1,λφ w GS h ha=>?_⟩;have e:=(aE.of_plain args hp _).1 ha;refine Calls.mono (q2 (rt X B φ) w GS (apx hG h) ((aE.of_plain args hp _).2 e)) ?_;rintro e w' ⟨φ',v',he,hr,hh,hE,hN⟩;obtain⟨φ2,k1,k2,k3,k4⟩:=ak8 h hh hE hN (hev _ _ _ _ _ h1).n;exact⟨φ2,v',he,aC.mono k1 _ _ hr,k2,k3,k4⟩
  .cases hv
 .cases hv
theorem Qm(hev:jR cf)(hcf:uN X cf)(h:bC X φ H w){a a':am}{LT:Act}(ha:aE φ a LT.tmps.toList){o:oR}(ho:xW o=Th){RM:Array oR}{RC:Option Nat}{i:Nat}{H':AH}(hG:∀B,RC=Wf B->∀g,X.glob g=Th->g<B)
  (DQ:Ready X φ H o (RC.map (· + i))) (hs:dR X cf RM RC i o a H=Wf (a',H')) {K:Act->wO->Prop} {Q:eX->Act->wO->Prop}
  (hK:∀φ' act' w',aE φ' a' act'.tmps.toList->act'.defers=LT.defers->bC X φ' H' w'->cD φ H w φ' H' w'->cY H.n (RC.map (· + i)) φ φ'->K act' w') {r:Option Nat} :
  if Region.wanted o (yielded RM LT.tmps)then o.wpIn (Fw r) 0 X.P LT w K Q else(∀f,o.about X.P w LT.eval=Wf f->(Fw r).fn f)∧K (LT.put o.dst undef) w:=by
 rw[ab0 ha];unfold dR at hs;split at hs
 .rename_i hw;rw[ip hw];split at hs
  .rename_i v1 H1 hd;simp[Z9,Z5]at hs;obtain⟨rfl,rfl⟩:=hs;unfold gI at hd;split at hd
   .rename_i v2 H2 hdo;split at hd
    .cases hd
    .simp[Z9,Z5]at hd;obtain⟨rfl,rfl⟩:=hd;unfold nD at hdo;split at hdo
     .rename_i hso;simp[Z7]at hso;cases RC with
      |none=>cases hso.1
      | some B=>
       have hcb:sX o.op=Th:=by
        have:=hso.2;unfold nU at this
        grind
       exact YI (apK (hG B rfl) hev hcf) h ha ho DQ (aeb hdo hcb) (λφ' v' w' k1 k2 k3 k4=>hK φ' _ w' (KU (aE.mono k3.le _ _ ha) k1 _) (put_defers _ _ _) k2 k3 k4)
     exact YI hcf h ha ho DQ hdo (λφ' v' w' k1 k2 k3 k4=>hK φ' _ w' (KU (aE.mono k3.le _ _ ha) k1 _) (put_defers _ _ _) k2 k3 k4)
   trivial
  trivial
 .rename_i hw;rw[iN hw];simp[Z9,Z5]at hs;obtain⟨rfl,rfl⟩:=hs;refine⟨λ_ _=>trivial,?_⟩
  grind[KU,aC.undef,put_defers,cD.refl,cY.refl]
theorem bM.trans{LT ib:Act}{a1 a':am}{H1 H':AH}{K:Act->wO->Prop}{φ1:bI}{w1:wO}{L L1:Nat}(hK:bM X L φ H w LT a' H' K)(hd:mI w LT.defers w1 ib.defers)(h1:bC X φ1 H1 w1)(he:cD φ H w φ1 H1 w1)
  (hn:cY L Vc φ φ1) (hl:L<=L1):bM X L1 φ1 H1 w1 ib a' H' K:=
 λφ' act' w' k1 k2 k3 k4 k5=>hK φ' act' w' k1 (hd.trans h1 k4 he.size k2) k3 (he.trans k4) (hn.trans k5 hl)
theorem UA{r:Option Nat}(hcf:uN X cf)(hev:jR cf){RM:Array oR}{Q:eX->Act->wO->Prop}:∀(l:List oR)(i:Nat)(a a':am)(H H':AH)(φ:bI)(w:wO)(LT:Act),
  bC X φ H w->aE φ a LT.tmps.toList->(∀o∈l,xW o=Th)->jL X cf RM Vc i l a H=Wf (a',H')->bM X H.n φ H w LT a' H' (Q .normal)->wpListIn (Fw r) 0 X.P RM Q l LT w
 | [],i,a,a',H,H',φ,w,LT,h,ha,_,hr,hK=>by
  simp[jL,Z9,Z5]at hr;obtain⟨rfl,rfl⟩:=hr;exact hK φ LT w ha (mI.of_eq rfl) h (cD.refl _ _ _) (cY.refl _ _ _)
 | o::l,i,a,a',H,H',φ,w,LT,h,ha,ho,hr,hK=>by
  simp[jL]at hr;split at hr
  .rename_i a1 H1 hs;unfold wpListIn
   exact Qm hev hcf h ha (ho o ac) (λB hB=>by cases hB) (λt r z _ hr _=>by cases hr) hs (λφ1 ib w1 k1 k2 k3 k4 k5=>
    UA hcf hev l (i+1) a1 a' H1 H' φ1 w1 ib k3 k1 (λx hx=>ho x ae) hr (bM.trans (a1:=a1) hK (mI.of_eq k2) k3 k4 k5 (Fa hev hs).n))
  trivial
theorem TU(M:ax)(k:Nat):∀(l:List Edge)(s:Nat),(l.foldl (λs e=>if Region.binds .any e then s|||2^e.on|||M.getD e.on 0 else s) s).testBit k=Th ->
  s.testBit k=Th∨∃e∈l,Region.binds .any e=Th∧(k=e.on∨(M.getD e.on 0).testBit k=Th)
 |[],s,h=>.inl h
 | e::l,s,h=>by
  simp only[List.foldl_cons]at h;rcases TU M k l _ h with h|⟨e',h1,h2⟩
  .split at h
   .rename_i hb;simp only[Nat.testBit_or,X4,Nat.testBit_two_pow,dT]at h;rcases h with(h|h)|h
    .grind
    .exact .inr ⟨e,ac,hb,.inl h.symm⟩
    .exact .inr ⟨e,ac,hb,.inr h⟩
   grind
  grind
def rem(RM:Array oR)(listed:Array Bool):List (oR×Nat):=RM.toList.zipIdx.filter λx=>!listed.getD x.2 Th
theorem Si(RM:Array oR)(listed:Array Bool):(rem RM listed).Pairwise (λx y=>x.2<y.2):=by
 have:∀(l:List oR)(n:Nat),(l.zipIdx n).Pairwise (λx y=>x.2<y.2):=by
  intro l
  induction l with
  |nil=>simp
  | cons o l ih=>
   grind[List.zipIdx_cons,List.pairwise_cons]
 exact(this _ _).filter _
theorem CS{RM:Array oR}{o:oR}:(o,i)∈rem RM listed↔RM[i]?=Wf o∧listed.getD i Th=SM:=by simp[rem,List.mem_zipIdx_iff_getElem?]
theorem agJ{RM:Array oR}{o:oR}(h:(o,i)∈rem RM listed)(hi:i<listed.size):
  ∃pre post,rem RM listed=pre++(o,i)::post∧rem RM (listed.setIfInBounds i Th)=pre++post∧∀x∈pre,x.2<i:=by
 obtain⟨pre,post,e⟩:=List.append_of_mem h;have hs:=Si RM listed;rw[e,List.pairwise_append,List.pairwise_cons]at hs;obtain⟨_,⟨h1,_⟩,h2⟩:=hs;have hpre:∀x∈pre,x.2<i:=λx hx=>h2 x hx (o,i) ac
 refine⟨pre,post,e,?_,hpre⟩
 have hf:rem RM (listed.setIfInBounds i Th)=(rem RM listed).filter λx=>x.2 !=i:=by
  unfold rem;rw[List.filter_filter];apply List.filter_congr;rintro⟨x,j⟩ hx;by_cases hj:j=i
  .simp_all
  .rw[getD_set_ne Th (λe=>hj e.symm)]
   grind
 grind[List.filter_eq_self]
theorem ams{r:Option Nat}(hcf:uN X cf)(hev:jR cf){RM:Array oR}{B:Nat}{Q:eX->Act->wO->Prop}(hops:∀o∈RM.toList,xW o=Th)(hd:XU X.P RM=Th)(hG:∀g,X.glob g=Th->g<B):
  ∀(fuel:Nat)(listed:Array Bool)(a a':am)(H H':AH)(φ:bI)(w:wO)(LT:Act),listed.size=RM.size->RW (rem RM listed)=fuel ->
   (∀j,listed.getD j SM=Th->∀k,(((Region.before RM).toList).getD j 0).testBit k=Th->listed.getD k SM=Th) ->
   B+RM.size<=H.n->(∀i o,RM[i]?=Wf o->listed.getD i Th=SM->Ready X φ H o (Wf (B+i))) ->
   bC X φ H w->aE φ a LT.tmps.toList->rW X cf RM B (rem RM listed) a H=Wf (a',H')->bM X B φ H w LT a' H' (Q .normal)->wpAnyIn (Fw r) 0 X.P .any RM Q fuel listed LT w:=by
 have D:=Zz.1 hd
 have Dat:∀{i:Nat}{o:oR},RM[i]?=Wf o ->
   ((Region.before RM).toList).getD i 0=TV (Region.before RM).toList o∧(∀e∈o.after.toList,Region.binds .any e=Th->e.on<i) ∧
   ∀j x,RM[j]?=Wf x->j<i->(((Region.before RM).toList).getD i 0).testBit j=SM->MP X.P RM j i x o=Th:=by
  intro i o ho;have:=D (o,i) ae;simp only[Z7,beq_iff_eq,Zz,X4,Y4,dT]at this;obtain⟨⟨d1,d2⟩,d3⟩:=this;refine⟨d1,λe he hb=>?_,λj x hx hj hbit=>?_⟩
  .grind
  .rcases d3 (x,j) ae with(h|h)|h
   .omega
   .grind
   omega
 intro fuel
 induction fuel with
 | zero=>
  intro listed a a' H H' φ w LT hsz Rg hcl hB DQ h ha hr hK;have hrem:rem RM listed=[]:=Ye.1 Rg;rw[hrem]at hr;simp[rW,Z9,Z5]at hr;obtain⟨rfl,rfl⟩:=hr;refine⟨?_,hK φ LT w ha (mI.of_eq rfl) h (cD.refl _ _ _) (cY.refl _ _ _)⟩;apply List.eq_nil_iff_forall_not_mem.2;intro i hi;rw[mem_ready]at hi;obtain⟨hnl,o,ho,_⟩:=hi
  have:(o,i)∈rem RM listed:=CS.2 ⟨ho,hnl⟩
  grind
 | succ fuel ih=>
  intro listed a a' H H' φ w LT hsz Rg hcl hB DQ h ha hr hK;constructor
  ·-- Wf operation is ready
   intro hnil;cases hrem:rem RM listed with
   |nil=>grind
   | cons x rest=>
    obtain⟨o,i⟩:=x;have hm:(o,i)∈rem RM listed:=by rw[hrem];simp
    obtain⟨ho,hl⟩:=CS.1 hm
    have PJ:i<RM.size:=by
     rcases Zi i RM.size with h'|h'
     .exact h'
     .grind
    have hin:i∈Region.ready .any RM listed:=by
     rw[mem_ready];refine⟨hl,o,ho,λe he hb=>?_⟩;have hlow:=(Dat ho).2.1 e ae hb
     -- what lies below the first that is left is listed
     have hes:e.on<RM.size:=aa;cases Fm:listed.getD e.on SM with
     |true=>rfl
     | false=>
      have:(RM[e.on],e.on)∈rem RM listed:=CS.2 ⟨ac,by
       have hls:e.on<listed.size:=aa
       grind⟩
      grind[Si,List.pairwise_cons]
    grind
  .intro i hi;rw[mem_ready]at hi;obtain⟨hnl,o,ho,hedge⟩:=hi
   have PJ:i<RM.size:=by
    rcases Zi i RM.size with h'|h'
    .exact h'
    .grind
   have hm:(o,i)∈rem RM listed:=CS.2 ⟨ho,hnl⟩;obtain⟨pre,post,e1,e2,e3⟩:=agJ hm aa;obtain⟨m1,m2,m3⟩:=Dat ho
   -- the ancestors are listed
   have hanc:∀k,(((Region.before RM).toList).getD i 0).testBit k=Th->listed.getD k SM=Th:=by
    intro k hk;rw[m1]at hk;rcases TU _ k _ _ hk with hk|⟨e,he,hb,hk⟩
    .grind
    .grind
   have hF:∀x∈pre,OQ X RM x.2 i x.1 o:=by
    rintro⟨x,j⟩ hx;have hxm:(x,j)∈rem RM listed:=by rw[e1];simp[hx]
    obtain⟨hxo,hxl⟩:=CS.1 hxm;have hji:j<i:=e3 _ hx
    have hbit:(((Region.before RM).toList).getD i 0).testBit j=SM:=by
     cases hb:(((Region.before RM).toList).getD i 0).testBit j with
     |false=>rfl
     | true=>
      have:=hanc j hb;have hjs:j<listed.size:=aa
      grind
    have:=m3 j x hxo hji hbit;simp[MP,Z7,Y4,X4,Xg]at this;obtain⟨⟨⟨⟨⟨f1,f2⟩,f3⟩,f4⟩,f5⟩,f6⟩:=this;refine⟨aa,f1,?_,?_,?_,Yc.2 ae,Yc.2 ae,?_,?_⟩
    .grind
    .grind
    .grind
    .grind
    .grind
   have hog:xW o=Th:=hops o ae
   have hgood:Good X RM a H o:=by
    intro hw he hl b hb
    -- what the operation looks into is described
    have Is:∀x∈o.op.operands,tU x=Th:=λx hx=>X1.1 hog x hx
    have E:∀{x},x∈o.op.operands->aC φ (ev X a x) (LT.eval x):=λhx=>dC h ha (Is _ hx)
    have T:∀{x:oP}{b:Nat},x∈o.op.operands->iY (ev X a x)=Wf b->∃y,H.get b=Wf y∧y.st≠0:=by
     intro x b hx ht;have hr:=E hx;unfold iY at ht;split at ht
     .rename_i p hp;rw[hp]at hr;simp[Z9]at ht;subst ht;simp[aC]at hr;obtain⟨_,_,_,_,q,hq,_⟩:=hr;obtain⟨y,_,_,_,y1,y2,_⟩:=h.dom _ _ hq
      grind
     .rename_i p n c hp;rw[hp]at hr;simp[Z9]at ht;subst ht;obtain⟨_,_,_,hs⟩:=nX hr;rcases hs with⟨_,_,q,hq,_⟩|⟨_,_,_,_,q,hq⟩
      .obtain⟨y,_,_,_,y1,y2,_⟩:=h.dom _ _ hq
       grind
      .obtain⟨y,_,_,_,y1,y2,_⟩:=h.dom _ _ hq
       grind
     .cases ht
    unfold touch at hb;split at hb
    .grind[Op.operands]
    .rename_i t x lo hi2 mx DS;refine T (x:=x) (by grind[Op.operands]) ?_;split at hb
     .rename_i p _ _ hx;rw[hx];exact hb
     trivial
    .rename_i s d x DS;refine T (x:=x) (by grind[Op.operands]) ?_;split at hb
     .rename_i p _ _ hx;rw[hx];exact hb
     trivial
    .grind[Op.operands,Call.operands,Array.mem_of_getElem?]
    .cases hb
   rw[e1]at hr;obtain⟨a1,H1,hs,hr1⟩:=Rm hev pre post a H (a',H') hF hgood hB hr;unfold wpOpIn;rw[ho];refine Qm hev hcf h ha hog (λB' hB'=>by cases hB';exact hG) ae hs (λφ1 ib w1 k1 k2 k3 k4 k5=>?_);have Fm:=(Fa hev hs).n
   have k5':cY B Vc φ φ1:=λb p q1 q2=>by
    rcases k5 b p q1 q2 with g|g
    .exact .inl aa
    .simp[Option.map_some,Z9]at g;exact .inl aa
   refine ih (listed.setIfInBounds i Th) a1 a' H1 H' φ1 w1 ib ae ?_ ?_ aa ?_ k3 k1 ae (bM.trans (a1:=a1) hK (mI.of_eq k2) k3 k4 k5' (Z8 _))
   rotate_left 2
   ·-- the blocks that lie ready stay
    intro j x hx hl t r z DS hr hz
    have hjlt:j<RM.size:=by
     rcases Zi j RM.size with h'|h'
     .exact h'
     .grind
    have hji:j≠i:=by
     intro e';subst e';simp[Za,Array.getElem?_setIfInBounds,hsz,hjlt]at hl
    rw[getD_set_ne Th (λe=>hji e.symm)]at hl;obtain⟨q1,q2⟩:=DQ j x hx hl t r z DS hr hz;simp[Z9]at hr;subst hr
    have hn1:φ1 (B+j)=Vc:=by
     cases hq:φ1 (B+j)with
     |none=>rfl
     | some p=>
      rcases k5 _ p hq q1 with g|g
      .omega
      grind
    exact⟨hn1,k4.abs _ _ hn1 q2 rfl (by simp[fresh])⟩
   .grind
   .intro j hj k hk;by_cases hji:j=i
    .grind[getD_set_true]
    .rw[getD_set_ne SM (λe=>hji e.symm)]at hj
     grind[getD_set_true]
variable{X:dh}{cf:fW}
theorem Gi:∀(l:List oR)(H:AH)(b:Nat)(x:bv),H.get b=Wf x->(il X.P l H).get b=Wf x
 |[],_,_,_,h=>h
 |o::l,H,b,x,h=>Gi l (H.push (nu X.P H.n o)) b x (by grind[AH.get_push_old,AH.get_lt])
theorem SC:∀(l:List oR)(H:AH),cE H (il X.P l H)
 |[],H=>cE.refl H
 |o::l,H=>(cE.push H (nu X.P H.n o)).trans (SC l _)
theorem KW:∀(l:List oR)(H:AH),(il X.P l H).n=H.n+RW l
 |[],H=>rfl
 | o::l,H=>by
  rw[il,KW l]
  grind[AH.push]
theorem KX:∀(l:List oR)(H:AH)(i:Nat)(o:oR),l[i]?=Wf o->(il X.P l H).get (H.n+i)=Wf (nu X.P (H.n+i) o)
 |[],_,i,_,h=>by simp at h
 | o::l,H,0,x,h=>by
  grind[il.eq_2,Gi,AH.get_push_new]
 | o::l,H,i+1,x,h=>by
  rw[il];have:=KX l (H.push (nu X.P H.n o)) i x cU;have e:(H.push (nu X.P H.n o)).n=H.n+1:=rfl;rw[e,show H.n+1+i=H.n+(i+1) by omega]at this;omega
theorem bC.of_get{φ:bI}{H H':AH}{w:wO}(h:bC X φ H w)(hg:∀b x,H.get b=Wf x->H'.get b=Wf x):bC X φ H' w∧cD φ H w φ H' w:=by
 have back:∀b p x,φ b=Wf p->H'.get b=Wf x->H.get b=Wf x:=by
  intro b p x hp hx;obtain⟨y,_,_,_,hy,_⟩:=h.dom b p hp;rw[hg b y hy]at hx;cases hx;exact hy
 refine ⟨⟨h.glob,λb p hp=>?_,λb p x i v hp hx h1 hv=>h.cell b p x i v hp (back b p x hp hx) h1 hv,λb p x i hp hx h1 hi=>h.frz b p x i hp (back b p x hp hx) h1 hi,?_⟩,
  ⟨gM.refl φ,Z8 _,λ_ _ _=>rfl,λb p hb hn=>(by grind),λb p x hp hx h1 h2=>⟨x,back b p x hp hx,h1,h2⟩,λb x _ hx _ _=>hg b x hx,rfl,rfl⟩⟩
 .obtain⟨x,cs,e,fz,hx,rest⟩:=h.dom b p hp
  grind
 grind[sep]
theorem agK(hm:X.P.follows .mixedOrders=Th)(hcf:uN X cf)(hev:jR cf){φ:bI}{H H':AH}{w:wO}(h:bC X φ H w){a a':am}{LT:Act}(ha:aE φ a LT.tmps.toList)
  {id:Nat} {RM:Array oR} {draw:Bool} (Is:ko X.P (.region id RM draw)=Th) (hr:pO X cf RM draw a H=Wf (a',H')) {Q:eX->Act->wO->Prop} {r:Option Nat}
  (hK:bM X H.n φ H w LT a' H' (Q .normal)):(Code.region id RM draw).wpIn (Fw r) 0 X.P Q LT w:=by
 simp only[ko,Z7,Zz]at Is;obtain⟨ho,hd⟩:=Is;unfold pO at hr;cases draw with
 | false=>
  grind[wpIn_region_list,UA]
 | true=>
  simp[iT]at hr;simp[Wg,We]at hd;rw[Rk]at hr;obtain⟨g1,g2⟩:=h.of_get (H':=il X.P RM.toList H) (λb x hx=>Gi _ _ _ _ hx);have hw:bC X φ (il X.P RM.toList H) {w with drawn:=w.drawn+1}:=g1.same_heap rfl;have hE:cD φ H w φ (il X.P RM.toList H) {w with drawn:=w.drawn+1}:=g2.trans (cD.same_heap rfl)
  have hrem:rem RM (Array.replicate RM.size SM)=RM.toList.zipIdx:=by
   unfold rem;rw[List.filter_eq_self];rintro⟨o,i⟩ hx;rw[List.mem_zipIdx_iff_getElem?]at hx
   have hi:i<RM.size:=by
    rcases Zi i RM.size with h'|h'
    .exact h'
    .grind
   simp[Za,hi]
  have hnone:∀i,φ (H.n+i)=Vc:=λi=>by
   cases hq:φ (H.n+i)with
   |none=>rfl
   | some p=>
    obtain⟨x,_,_,_,hx,_⟩:=h.dom _ _ hq;have:=AH.get_lt hx;omega
  refine wpIn_region_any hm (ams hcf hev ho hd (λg hg=>by obtain⟨p,hp,_⟩:=h.glob g hg;obtain⟨x,_,_,_,hx,_⟩:=h.dom _ _ hp;exact AH.get_lt hx) RM.size (Array.replicate RM.size SM) a a' (il X.P RM.toList H) H' φ _ LT ac xE ?_ (by simp[KW]) ?_ hw ha ae (bM.trans (a1:=a) hK (mI.of_eq rfl) hw hE (cY.refl _ _ _) (Z8 _)))
  rotate_left
  .intro i o hoi _ t r z DS hr hz;simp[Z9]at hr;subst hr
   simp_all[KX,nu]
  intro j hj;simp[Za,Array.getElem?_replicate]at hj
  grind
theorem R3{pre run:am->AH->Je}{sq:AH->Prop}{ps:List Tmp}{a:am}
  (h1:∀a H e a' H',pre a H=Wf (e,a',H')->cE H H') (h2:∀a H e a' H',run a H=Wf (e,a',H')->cE H H') :
  ∀(xs:List am)(H:AH)(e:eX)(a':am)(H':AH),jV pre run sq ps a xs H=Wf (e,a',H')->cE H H'
 | [],H,e,a',H',h=>by
  grind[jV,cE.refl]
 | x::xs,H,e,a',H',h=>by
  simp only[jV]at h;split at h
  .split at h
   .rename_i a1 H1 hp;split at h
    .rename_i H2 hr;split at h
     .exact((h1 _ _ _ _ _ hp).trans (h2 _ _ _ _ _ hr)).trans (R3 h1 h2 xs _ _ _ _ h)
     .cases h
    .grind[cE.trans]
    .cases h
   .cases h
  .cases h
theorem H9(hev:jR cf):∀(n:Nat)(c:Code)(a:am)(H:AH)(e:eX)(a':am)(H':AH),cS X cf n c a H=Wf (e,a',H')->cE H H':=by
 have runL_evo:∀(RM:Array oR)(RC:Option Nat)(l:List oR)(i:Nat)(a:am)(H:AH)(a':am)(H':AH),jL X cf RM RC i l a H=Wf (a',H')->cE H H':=by
  intro RM RC l
  induction l with
  |nil=>grind[jL,cE.refl]
  | cons o l ih=>
   intro i a H a' H' h;simp[jL]at h;split at h
   .rename_i a1 H1 hs;exact(Fa hev hs).trans (ih _ _ _ _ _ h)
   .cases h
 intro n
 induction n with
 |zero=>simp[cS]
 | succ n ih=>
  intro c a H e a' H' h;cases c<;>simp only[cS]at h
  case skip=>grind[cE.refl]
  case label=>grind[cE.refl]
  case exit=>grind[cE.refl]
  case ret=>grind[cE.refl]
  case region id RM draw=>
   grind[pO,cE.trans,SC]
  case seq x y=>
   grind[cE.trans]
  case cond x t f=>
   grind
  case block id c=>
   grind
  case loop c=>
   grind[cE.trans]
  case scope c=>grind
  case rangeFunc g ps asc body=>
   grind[R3]
  all_goals cases h
theorem bC.grow{φ:bI}{H:AH}{w:wO}(h:bC X φ H w)(hs:w.heap.size<=w'.heap.size)(hf:∀c,c<w.heap.size->w'.heap[c]?=w.heap[c]?)(ho:w'.os=w.os)(hu:w'.output=w.output):bC X φ H w'∧cD φ H w φ H w':=by
 have lt:∀b p,φ b=Wf p->p.c<w.heap.size:=λb p hp=>by
  obtain⟨x,cs,e,fz,_,_,_,_,_,hc,_⟩:=h.dom b p hp
  grind
 refine⟨⟨h.glob,λb p hp=>?_,λb p x i v hp hx h1 hv=>?_,λb p x i hp hx h1 hi=>?_,h.sep⟩,⟨gM.refl φ,hs,λc hc _=>hf c hc,λb p h1 h2=>(by grind),λb p x' _ hx h1 h2=>⟨x',hx,h1,h2⟩,λb x _ hx _ _=>hx,ho,hu⟩⟩
 .rw[hf _ (lt b p hp)];exact h.dom b p hp
 .grind[cell,wO.cell?]
 .have:=h.frz b p x i hp hx h1 hi
  grind[wO.frozen?]
theorem bC.same_cells{φ:bI}{H:AH}{w:wO}(h:bC X φ H w)(hf:∀b p,φ b=Wf p->w'.heap[p.c]?=w.heap[p.c]?):bC X φ H w':=by
 refine⟨h.glob,λb p hp=>?_,λb p x i v hp hx h1 hv=>?_,λb p x i hp hx h1 hi=>?_,h.sep⟩
 .rw[hf _ _ hp];exact h.dom b p hp
 .grind[cell,wO.cell?]
 .have:=h.frz b p x i hp hx h1 hi
  grind[wO.frozen?]
theorem bC.putOther{φ:bI}{H:AH}{w:wO}(h:bC X φ H w){o o':Obj}(hl:w.heap[l]?=Wf o)(ho:o.isCells=SM):bC X φ H (w.putObj l o'):=by
 refine h.same_cells λb p hp=>wO.putObj_heap_other λe=>?_
 obtain⟨_,cs,e',fz,_,_,_,_,_,hcs,_⟩:=h.dom b p hp
 grind[Obj.isCells]
theorem cD.putOther{φ:bI}{H0 H:AH}{w:wO}(h:cD φ0 H0 w0 φ H w)(o':Obj)(hl:w0.heap.size<=l):cD φ0 H0 w0 φ H (w.putObj l o'):=
 ⟨h.le,by simpa using h.size,λc hc hn=>(wO.putObj_heap_other aa).trans (h.frame c hc hn),h.new,h.back,h.abs,h.os,h.out⟩
theorem SA{φ:bI}:∀(ps:List Tmp)(x:am)(a:am)(tmps:Array vl),aE φ a tmps.toList->eE x=Th ->
  aE φ (putP ps x a) ((ps.zip x).foldl (λt (q:Tmp×vl)=>t.setIfInBounds q.1 q.2) tmps).toList
 |[],x,a,tmps,h,_=>by trivial
 |p::ps,[],a,tmps,h,_=>by trivial
 | p::ps,x::xs,a,tmps,h,hp=>by
  simp[eE,Z7]at hp;simp[putP,List.zip_cons_cons,List.foldl_cons];refine SA ps xs _ _ ?_ hp.2
  grind[aE.set,lI]
def Mr:eX->Option Code
 |.ret=>Wf .ret
 |.exit j=>Wf (.exit j)
 |_=>Vc
theorem agV(hX:I6 X){n:Nat}
  (ih:∀(c:Code)(a:am)(H:AH)(e:eX)(a':am)(H':AH),cS X cf n c a H=Wf (e,a',H') →
   (e=.normal∨e=.ret∨∃j,e=.exit j) ∧
   ∀(r:Option Nat)(φ:bI)(w:wO)(LT:Act)(Q:eX→Act→wO→Prop),(r=Vc∨mP c=Th)→ko X.P c=Th→bC X φ H w→aE φ a LT.tmps.toList→bM X H.n φ H w LT a' H' (Q e)→c.wpIn (Fw r) 0 X.P Q LT w)
  (hev:∀(c:Code)(a:am)(H:AH)(e:eX)(a':am)(H':AH),cS X cf n c a H=Wf (e,a',H')→cE H H')
  {g:oP} {ps:Array Tmp} {asc body:Code} {a:am} {H:AH} {gf:fI} {lb:am} {xs:List am} {e:eX} {a':am} {H':AH}
  (hg:ev X a g=.func (.func gf) ⟨[]⟩ ⟨lb⟩) (hs:X.seq gf lb H=Wf xs)
  (h:jV (λa H=>cS X cf n asc a H) (λa H=>cS X cf n body a H) (λH'=>X.seq gf lb H'=Wf xs∧X.seqK gf lb H'=X.seqK gf lb H) ps.toList a xs H=Wf (e,a',H')) :
  (e=.normal∨e=.ret∨∃j,e=.exit j) ∧
  ∀(φ:bI)(w:wO)(LT:Act)(Q:eX→Act→wO→Prop),ko X.P (.rangeFunc g ps asc body)=Th→bC X φ H w→aE φ a LT.tmps.toList→bM X H.n φ H w LT a' H' (Q e)→(Code.rangeFunc g ps asc body).wpIn (Fw Vc) 0 X.P Q LT w:=by
 obtain⟨DP,⟨fg,hfg1,hfg2,hfg3⟩,hseq⟩:=hX gf lb H xs hs
 -- how it ends
 have kinds:∀(l:List am)(H0:AH),jV (λa H=>cS X cf n asc a H) (λa H=>cS X cf n body a H) (λH'=>X.seq gf lb H'=Wf xs∧X.seqK gf lb H'=X.seqK gf lb H) ps.toList a l H0=Wf (e,a',H')→(e=.normal∨e=.ret∨∃j,e=.exit j)∧a'=a:=by
  intro l
  induction l with
  | nil=>
   grind[jV]
  | cons x l ihl=>
   grind[jV]
 obtain⟨hk,rfl⟩:=kinds _ _ h;refine⟨hk,λφ w LT Q Is hh ha hK=>?_⟩;simp[ko,Z7]at Is;obtain⟨⟨⟨⟨hog,hoa⟩,hob⟩,hna⟩,hnb⟩:=Is;have hgr:=dC hh ha hog;rw[hg]at hgr;simp only[aC]at hgr;obtain⟨_,x',lb',eg,r1,r2⟩:=hgr;simp[aE]at r1;subst r1;obtain⟨View,hview,hcall⟩:=hseq φ w lb' hh r2;apply wpIn_rangeFunc;intro fn _
 obtain⟨rec,hrec⟩:∃rec:LoopState→Option Code→Loop,rec=λst pe=>{state:=st,pending:=pe,fn,tmps:=LT.tmps,params:=ps,assign:=asc,body,defers:=w.heap.size}:=⟨_,rfl⟩
 obtain⟨W1,hW1⟩:=bZ ((w.alloc (.deferred (Wf []))).alloc (.loop (rec .ready Vc)))
 have hL1:W1.heap[w.heap.size+1]?=Wf (.loop (rec .ready Vc)):=by
  rw[← hW1];have:=wO.alloc_heap_new (w.alloc (.deferred (Wf []))) (.loop (rec .ready Vc));rwa [wO.size_alloc]at this
 have hD1:W1.heap[w.heap.size]?=Wf (.deferred (Wf [])):=by
  rw[← hW1];exact(heap_alloc_old ac).trans (wO.alloc_heap_new w _)
 have hE1:bC X φ H W1∧cD φ H w φ H W1:=by
  refine hh.grow ?_ ?_ ?_ ?_
  .grind
  .intro c hc;rw[← hW1];exact(heap_alloc_old (by simp;omega)).trans (heap_alloc_old hc)
  .rw[← hW1];rfl
  .rw[← hW1];rfl
 refine ⟨w.heap.size+1,[{target:=.collected w.heap.size,args:=#[]}],W1,{target:=.fn (.func gf) ⟨lb'⟩,args:=#[.func (.yield (w.heap.size+1)) #[] #[]]},W1,gf,
  #[.func (.yield (w.heap.size+1)) #[] #[]]++⟨lb'⟩,W1,?_,?_,λ_ _=>trivial,?_,λh=>(by cases h),?_⟩
 .grind[run_enterLoop_outer]
 .simp only[resolve,eg];simp[go_sem]
 .have f2':¬fg.body=Vc:=by intro h0;simp[h0]at hfg2
  have f3':¬fg.name = "runtime.NumGoroutine" :=by simpa using hfg3
  simp[invoke,callFunc,hfg1,f2',f3',go_sem]
 ·obtain ⟨J,hJ⟩:∃J:Nat→wO→Prop,J=λi W=>∃φi Hi,jV (λa H=>cS X cf n asc a H) (λa H=>cS X cf n body a H) (λH'=>X.seq gf lb H'=Wf xs∧X.seqK gf lb H'=X.seqK gf lb H) ps.toList a' (xs.drop i) Hi=Wf (e,a',H')∧bC X φi Hi W∧cD φ H w φi Hi W ∧
   cY H.n Vc φ φi∧H.n≤Hi.n∧(X.seq gf lb Hi=Wf xs∧X.seqK gf lb Hi=X.seqK gf lb H)∧W.heap[w.heap.size+1]?=Wf (.loop (rec .ready Vc))∧W.heap[w.heap.size]?=Wf (.deferred (Wf [])):=⟨_,rfl⟩
  obtain⟨Jx,hJx⟩:∃Jx:Nat→wO→Prop,Jx=λi W=>∃φi c,bC X φi H' W∧cD φ H w φi H' W∧cY H.n Vc φ φi∧Mr e=Wf c∧W.heap[w.heap.size+1]?=Wf (.loop (rec .done (Wf c)))∧W.heap[w.heap.size]?=Wf (.deferred (Wf [])):=⟨_,rfl⟩
  have key:=hcall (w.heap.size+1) J Jx W1 ?_ ?_ ?_
  .refine CallsIn.mono key ?_;rintro en W ⟨⟨v,rfl⟩,hW⟩
   have fin:∀(φi:bI)(st:LoopState)(pe:Option Code),bC X φi H' W→cD φ H w φi H' W→cY H.n Vc φ φi→W.heap[w.heap.size+1]?=Wf (.loop (rec st pe))→W.heap[w.heap.size]?=Wf (.deferred (Wf []))→st≠.busy →
     (Instr.endLoop (w.heap.size+1)).run X.P W=.ok pe (W.putObj (w.heap.size+1) (.loop {rec st pe with state:=.exhausted})) ∧
     Q e {LT with defers:=[{target:=.collected w.heap.size,args:=#[]}]++LT.defers} (W.putObj (w.heap.size+1) (.loop {rec st pe with state:=.exhausted})):=by
    intro φi st pe q1 q2 q3 q4 q5 q6;refine⟨?_,hK φi _ _ (aE.mono q2.le _ _ ha) ⟨[w.heap.size],aN,ac,?_⟩ (q1.putOther q4 rfl) (q2.putOther _ aa) q3⟩
    .grind[run_endLoop]
    .grind[wO.putObj_heap_other]
   rcases hW with hW|⟨i,hW⟩
   .rw[hJ]at hW;obtain⟨φi,Hi,k1,k2,k3,k4,_,_,k5,k6⟩:=hW;rw[List.drop_length]at k1;simp only[jV,Z9,Z5]at k1;obtain⟨rfl,_,rfl⟩:=k1;obtain⟨g1,g2⟩:=fin φi .ready Vc k2 k3 k4 k5 k6 ac;exact⟨Vc,_,g1,g2⟩
   .rw[hJx]at hW;obtain⟨φi,c,k2,k3,k4,kj,k5,k6⟩:=hW;obtain⟨g1,g2⟩:=fin φi .done (Wf c) k2 k3 k4 k5 k6 ac;refine⟨Wf c,_,g1,?_⟩
    grind[Mr,wpIn_ret,wpIn_exit]
  .grind[cD.le,aE.mono]
  ·-- a round
   intro i x W hW hx;rw[hJ]at hW;obtain⟨φi,Hi,k1,k2,k3,k4,kn,k7,k5,k6⟩:=hW
   have hi:i<RW xs:=by
    rcases Zi i (RW xs) with h'|h'
    .exact h'
    .grind
   rw[List.getElem?_eq_getElem hi]at hx;simp[Z9]at hx;rw[Yw hi,hx]at k1;simp only[jV]at k1;split at k1
   case isFalse=>cases k1
   rename_i Rg;split at k1
   case h_2=>cases k1
   rename_i a1 H1 hpre;have hy:=run_yield (P:=X.P) (args:=x.toArray) k5 ae;rw[hrec]at hy;refine⟨fn,_,asc,body,hy,roundIn_of_wpIn trivial ?_⟩;have PJ:w.heap.size+1<W.heap.size:=lt_of_heap k5
   have ht:aE φi (putP ps.toList x a') ((ps.zip x.toArray).foldl (λtmps (t,v)=>tmps.setIfInBounds t v) LT.tmps).toList:=by
    have:=SA (φ:=φi) ps.toList x a' LT.tmps (aE.mono k3.le _ _ ha) (DP x ae);rw[← Array.foldl_toList,Array.toList_zip];exact this
   refine(ih _ _ _ _ _ _ hpre).2 (Wf (w.heap.size+1)) φi W _ _ (.inr hna) hoa k2 ht ?_;intro φ1 ib W2 q1 _ q3 q4 q5;have l2:=q4.other k2 k5 rfl;have d2:=q4.other k2 k6 rfl;refine⟨_,run_beginRound l2 (by rw[hrec]),?_⟩;have hn1:=(hev _ _ _ _ _ _ hpre).n;have e2:cD φ H w φ1 H1 (W2.putObj (w.heap.size+1) (.loop {rec .ready Vc with state:=.busy})):=(k3.trans q4).putOther _ aa
   have n2:cY H.n Vc φ φ1:=k4.trans q5 kn;have r2':bC X φ1 H1 (W2.putObj (w.heap.size+1) (.loop {rec .ready Vc with state:=.busy})):=q3.putOther l2 rfl;have l3:(W2.putObj (w.heap.size+1) (.loop {rec .ready Vc with state:=.busy})).heap[w.heap.size+1]?=Wf (.loop {rec .ready Vc with state:=.busy}):=wO.putObj_heap_same (lt_of_heap l2)
   have d3:(W2.putObj (w.heap.size+1) (.loop {rec .ready Vc with state:=.busy})).heap[w.heap.size]?=Wf (.deferred (Wf [])):=(wO.putObj_heap_other aa).trans d2
   have fin:∀(jump:Option Code)(φ2:bI)(H2:AH)(W3:wO),bC X φ2 H2 W3→cD φ1 H1 (W2.putObj (w.heap.size+1) (.loop {rec .ready Vc with state:=.busy})) φ2 H2 W3→cY H1.n Vc φ1 φ2 →
     (Instr.endRound (w.heap.size+1) jump).run X.P W3=.ok (.bool jump.isNone) (W3.putObj (w.heap.size+1) (.loop (rec (if jump.isNone then .ready else .done) jump))) ∧
     bC X φ2 H2 (W3.putObj (w.heap.size+1) (.loop (rec (if jump.isNone then .ready else .done) jump)))∧cD φ H w φ2 H2 (W3.putObj (w.heap.size+1) (.loop (rec (if jump.isNone then .ready else .done) jump)))∧cY H.n Vc φ φ2 ∧
     (W3.putObj (w.heap.size+1) (.loop (rec (if jump.isNone then .ready else .done) jump))).heap[w.heap.size+1]?=Wf (.loop (rec (if jump.isNone then .ready else .done) jump)) ∧
     (W3.putObj (w.heap.size+1) (.loop (rec (if jump.isNone then .ready else .done) jump))).heap[w.heap.size]?=Wf (.deferred (Wf [])):=by
    intro jump φ2 H2 W3 p1 p2 p3;have l4:=p2.other r2' l3 rfl;have d4:=p2.other r2' d3 rfl;refine⟨?_,p1.putOther l4 rfl,(e2.trans p2).putOther _ aa,n2.trans p3 (Z1 kn hn1),wO.putObj_heap_same (lt_of_heap l4),(wO.putObj_heap_other aa).trans d4⟩;have:=run_endRound (P:=X.P) jump l4;rw[hrec]at this ⊢;exact this
   split at k1
   .rename_i a2 H2 hrun;split at k1
    .rename_i hsq;refine(ih _ _ _ _ _ _ hrun).2 (Wf (w.heap.size+1)) φ1 _ _ _ (.inr hnb) hob r2' q1 ?_;intro φ2 act2 W3 p1 _ p3 p4 p5;obtain⟨f1,f2,f3,f4,f5,f6⟩:=fin Vc φ2 H2 W3 p3 p4 p5;refine⟨_,_,f1,.inl ⟨rfl,?_⟩⟩;rw[hJ];exact⟨φ2,H2,k1,f2,f3,f4,Z1 kn (Z1 hn1 (hev _ _ _ _ _ _ hrun).n),hsq,f5,f6⟩
    trivial
   .rename_i e1 a2 H2 MT hrun;simp only[Z9,Z5]at k1;obtain⟨rfl,_,rfl⟩:=k1;refine(ih _ _ _ _ _ _ hrun).2 (Wf (w.heap.size+1)) φ1 _ _ _ (.inr hnb) hob r2' q1 ?_;intro φ2 act2 W3 p1 _ p3 p4 p5
    have done:∀c,Mr e1=Wf c→∃v w',(Instr.endRound (w.heap.size+1) (Wf c)).run X.P W3=.ok v w'∧((Ending.returned v=.returned (.bool Th)∧J (i+1) w')∨(Ending.returned v=.returned (.bool SM)∧Jx (i+1) w')):=by
     intro c hc;obtain⟨f1,f2,f3,f4,f5,f6⟩:=fin (Wf c) φ2 H2 W3 p3 p4 p5;refine⟨_,_,f1,.inr ⟨rfl,?_⟩⟩;rw[hJx];exact⟨φ2,c,f2,f3,f4,hc,f5,f6⟩
    rcases hk with rfl|rfl|⟨j,rfl⟩
    .trivial
    .exact done .ret rfl
    .exact done (.exit j) rfl
   trivial
  grind[cY.refl]
theorem amg(hX:I6 X)(hm:X.P.follows .mixedOrders=Th)(hcf:uN X cf)(hev:jR cf):∀(n:Nat),
  (∀(c:Code)(a:am)(H:AH)(e:eX)(a':am)(H':AH),cS X cf n c a H=Wf (e,a',H') ->
   (e=.normal∨e=.ret∨∃j,e=.exit j) ∧
   ∀(r:Option Nat)(φ:bI)(w:wO)(LT:Act)(Q:eX->Act->wO->Prop),(r=Vc∨mP c=Th)->ko X.P c=Th->bC X φ H w->aE φ a LT.tmps.toList->bM X H.n φ H w LT a' H' (Q e)->c.wpIn (Fw r) 0 X.P Q LT w) ∧
  (∀(c:Code)(a:am)(H:AH)(e:eX)(a':am)(H':AH),cS X cf n (.loop c) a H=Wf (e,a',H') ->
   ∀(r:Option Nat)(φ:bI)(w:wO)(LT:Act)(Q:eX->Act->wO->Prop),(r=Vc∨mP c=Th)->ko X.P c=Th->bC X φ H w->aE φ a LT.tmps.toList->bM X H.n φ H w LT a' H' (Q e)->Code.roundsIn (Fw r) 0 X.P c Q n LT w):=by
 intro n
 induction n with
 |zero=>simp[cS]
 | succ n ih=>
  obtain⟨ih1,ih2⟩:=ih
  have rounds:∀(c:Code)(a:am)(H:AH)(e:eX)(a':am)(H':AH),cS X cf (n+1) (.loop c) a H=Wf (e,a',H') ->
    (e=.normal∨e=.ret∨∃j,e=.exit j)∧∀(r:Option Nat)(φ:bI)(w:wO)(LT:Act)(Q:eX->Act->wO->Prop),(r=Vc∨mP c=Th)->ko X.P c=Th->bC X φ H w->aE φ a LT.tmps.toList->bM X H.n φ H w LT a' H' (Q e)->Code.roundsIn (Fw r) 0 X.P c Q (n+1) LT w:=by
   intro c a H e a' H' h;simp[cS]at h;split at h
   .rename_i a1 H1 h1;obtain⟨k1,k2⟩:=ih1 _ _ _ _ _ _ h1;refine⟨(ih1 _ _ _ _ _ _ h).1,λr φ w LT Q hrf Is hh ha hK=>?_⟩;rw[roundsIn_succ];refine k2 r φ w LT _ hrf Is hh ha (λφ1 ib w1 q1 q2 q3 q4 q5=>?_);exact ih2 _ _ _ _ _ _ h r φ1 w1 ib Q hrf Is q3 q1 (bM.trans (a1:=a1) hK q2 q3 q4 q5 (H9 hev _ _ _ _ _ _ _ h1).n)
   .rename_i MT;obtain⟨k1,k2⟩:=ih1 _ _ _ _ _ _ h;refine⟨k1,λr φ w LT Q hrf Is hh ha hK=>?_⟩;rw[roundsIn_succ];refine k2 r φ w LT _ hrf Is hh ha (λφ1 ib w1 q1 q2 q3 q4 q5=>?_);rcases k1 with rfl|rfl|⟨j,rfl⟩
    .grind
    .exact hK φ1 ib w1 q1 q2 q3 q4 q5
    .exact hK φ1 ib w1 q1 q2 q3 q4 q5
  refine⟨?_,λc a H e a' H' h=>(rounds c a H e a' H' h).2⟩;intro c a H e a' H' h;cases c
  case loop c=>
   obtain⟨k1,k2⟩:=rounds c a H e a' H' h;refine⟨k1,λr φ w LT Q hrf Is hh ha hK=>wpIn_loop_rounds (n+1) (k2 r φ w LT Q cU cU hh ha hK)⟩
  all_goals simp only[cS]at h
  case skip=>
   simp[Z9,Z5]at h;obtain⟨rfl,rfl,rfl⟩:=h;exact⟨.inl rfl,λr φ w LT Q _ _ hh ha hK=>wpIn_skip (hK φ LT w ha (mI.of_eq rfl) hh (cD.refl _ _ _) (cY.refl _ _ _))⟩
  case label l=>
   simp[Z9,Z5]at h;obtain⟨rfl,rfl,rfl⟩:=h;exact⟨.inl rfl,λr φ w LT Q _ _ hh ha hK=>wpIn_label (hK φ LT w ha (mI.of_eq rfl) hh (cD.refl _ _ _) (cY.refl _ _ _))⟩
  case exit j=>
   simp[Z9,Z5]at h;obtain⟨rfl,rfl,rfl⟩:=h;exact⟨.inr (.inr ⟨j,rfl⟩),λr φ w LT Q _ _ hh ha hK=>wpIn_exit (hK φ LT w ha (mI.of_eq rfl) hh (cD.refl _ _ _) (cY.refl _ _ _))⟩
  case ret=>
   simp[Z9,Z5]at h;obtain⟨rfl,rfl,rfl⟩:=h;exact⟨.inr (.inl rfl),λr φ w LT Q _ _ hh ha hK=>wpIn_ret (hK φ LT w ha (mI.of_eq rfl) hh (cD.refl _ _ _) (cY.refl _ _ _))⟩
  case region id RM draw=>
   grind[agK]
  case seq x y=>
   split at h
   .rename_i a1 H1 h1;obtain⟨k1,k2⟩:=ih1 _ _ _ _ _ _ h1;obtain⟨m1,m2⟩:=ih1 _ _ _ _ _ _ h;refine⟨m1,λr φ w LT Q hrf Is hh ha hK=>?_⟩;simp[ko,Z7]at Is;refine wpIn_seq (k2 r φ w LT _ (hrf.imp id λh=>by grind[mP]) Is.1 hh ha (λφ1 ib w1 q1 q2 q3 q4 q5=>?_))
    exact m2 r φ1 w1 ib Q (hrf.imp id λh=>by grind[mP]) Is.2 q3 q1 (bM.trans (a1:=a1) hK q2 q3 q4 q5 (H9 hev _ _ _ _ _ _ _ h1).n)
   .rename_i MT;obtain⟨k1,k2⟩:=ih1 _ _ _ _ _ _ h;refine⟨k1,λr φ w LT Q hrf Is hh ha hK=>?_⟩;simp[ko,Z7]at Is;refine wpIn_seq (k2 r φ w LT _ (hrf.imp id λh=>by grind[mP]) Is.1 hh ha (λφ1 ib w1 q1 q2 q3 q4 q5=>?_));rcases k1 with rfl|rfl|⟨j,rfl⟩
    .grind
    .exact hK φ1 ib w1 q1 q2 q3 q4 q5
    .exact hK φ1 ib w1 q1 q2 q3 q4 q5
  case cond x t f=>
   split at h
   .rename_i hx;obtain⟨k1,k2⟩:=ih1 _ _ _ _ _ _ h;refine⟨k1,λr φ w LT Q hrf Is hh ha hK=>?_⟩;simp[ko,Z7]at Is;have hr:=dC hh ha Is.1.1
    grind[wpIn_cond_true,Ga,mP]
   .rename_i hx;obtain⟨k1,k2⟩:=ih1 _ _ _ _ _ _ h;refine⟨k1,λr φ w LT Q hrf Is hh ha hK=>?_⟩;simp[ko,Z7]at Is;have hr:=dC hh ha Is.1.1
    grind[wpIn_cond_false,Ga,mP]
   .cases h
  case block id c=>
   split at h
   .rename_i j a1 H1 h1;simp[Z9,Z5]at h;obtain⟨rfl,rfl,rfl⟩:=h;obtain⟨k1,k2⟩:=ih1 _ _ _ _ _ _ h1;refine⟨?_,λr φ w LT Q hrf Is hh ha hK=>?_⟩
    .grind
    .refine wpIn_block (k2 r φ w LT _ cU cU hh ha (λφ1 ib w1 q1 q2 q3 q4 q5=>?_));have:=hK φ1 ib w1 q1 q2 q3 q4 q5
     grind[eX.inBlock]
   .rename_i MT;obtain⟨k1,k2⟩:=ih1 _ _ _ _ _ _ h;refine⟨k1,λr φ w LT Q hrf Is hh ha hK=>wpIn_block (k2 r φ w LT _ cU cU hh ha (λφ1 ib w1 q1 q2 q3 q4 q5=>?_))⟩;have:=hK φ1 ib w1 q1 q2 q3 q4 q5;rcases k1 with rfl|rfl|⟨j,rfl⟩
    .exact this
    .exact this
    grind
  case scope c=>
   obtain⟨k1,k2⟩:=ih1 _ _ _ _ _ _ h;refine⟨k1,λr φ w LT Q hrf Is hh ha hK=>?_⟩;have hr0:r=Vc:=by simpa[mP]using hrf
   subst hr0;refine wpIn_wide.2 (wp_scope_straight ((wpIn_wide (n:=0)).1 (k2 Vc φ w LT _ (.inl rfl) cU hh ha (λφ1 ib w1 q1 q2 q3 q4 q5=>?_))));have:=hK φ1 ib w1 q1 q2 q3 q4 q5;rcases k1 with rfl|rfl|⟨j,rfl⟩<;>exact this
  case rangeFunc g ps asc body=>
   split at h
   .rename_i gf lb hg;split at h
    .rename_i xs hs;obtain⟨k1,k2⟩:=agV hX ih1 (λc a H e a' H' k=>H9 hev n c a H e a' H' k) hg hs h;refine⟨k1,λr φ w LT Q hrf Is hh ha hK=>?_⟩;have hr0:r=Vc:=by simpa[mP]using hrf
     grind
    .cases h
   .cases h
  all_goals cases h
theorem Sb{φ:bI}{H:AH}{w:wO}(h:bC X φ H w){a:am}{tmps:Array vl}(ha:aE φ a tmps.toList):∀(l:List ResultVar)(vs:am),l.mapM (rX X.P H a)=Wf vs ->
  ∃ vs',(l.mapM (λ(r:ResultVar)=>(match r with
   |.tmp t=>pure (tmps.getD t undef)
   |.cell a t=>do loadVar t (<-asAddr (tmps.getD a undef)):Sem vl))).run X.P w=.ok vs' w∧aE φ vs vs'
 | [],vs,hv=>by
  simp_all[aE.nil]
 | r::l,vs,hv=>by
  rw[List.mapM_cons]at hv;cases h1:rX X.P H a r with
  |none=>grind
  | some v=>
   cases h2:l.mapM (rX X.P H a)with
   |none=>grind
   | some us=>
    simp[h1,h2]at hv;subst hv;obtain⟨us',g1,g2⟩:=Sb h ha l us h2
    have hone:∃v',((match r with
      |.tmp t=>pure (tmps.getD t undef)
      |.cell a t=>do loadVar t (<-asAddr (tmps.getD a undef)):Sem vl)).run X.P w=.ok v' w∧aC φ v v':=by
     have hg:∀t,aC φ (a.getD t undef) (tmps.getD t undef):=λt=>by
      have:=ha.getD t
      simp_all
     cases r with
     | tmp t=>
      simp only[rX,Z9]at h1;subst h1
      simp_all
     | cell x t=>
      simp only[rX]at h1;obtain⟨v',k1,k2⟩:=Uk h h1 (hg x);refine⟨v',?_,k2⟩
      -- the address is there
      have hx:=hg x;unfold pY at h1
      grind[vN,asAddr,Instr.loadAt,Instr.sureAddr]
    obtain⟨v',k1,k2⟩:=hone
    simp_all[aE.cons]
theorem agB{φ:bI}{H:AH}{w:wO}(h:bC X φ H w){a:am}(ha:aE φ a tmps.toList){fn:Func}{v:vl}(hv:vL X.P fn a H=Wf v):
  ∃v',(results fn tmps).run X.P w=.ok v' w∧aC φ v v':=by
 unfold vL at hv
 have key:∀vs,fn.results.toList.mapM (rX X.P H a)=Wf vs->∃vs',(fn.results.mapM (λ(r:ResultVar)=>(match r with
   |.tmp t=>pure (tmps.getD t undef)
   |.cell a t=>do loadVar t (<-asAddr (tmps.getD a undef)):Sem vl))).run X.P w=.ok (List.toArray vs') w∧aE φ vs vs':=by
  intro vs hvs;obtain⟨vs',g1,g2⟩:=Sb h ha _ _ hvs;refine⟨vs',?_,g2⟩;rw[Array.mapM_eq_mapM_toList];simp only[Sem.run_map,g1,Result.andThen_ok]
 split at hv
 .rename_i u hu;simp[Z9]at hv;subst hv;obtain⟨vs',g1,g2⟩:=key _ hu;simp only[aE]at g2;obtain⟨u',_,rfl,k,rfl⟩:=g2;refine⟨u',?_,k⟩;unfold results;rw[Sem.run_bind];refine Eq.trans (RT (λr=>Result.andThen r λ(a:Array vl) w'=>Sem.run X.P (pure (if h:a.size=1 then a[0]else vl.tuple a)) w') g1) ?_;simp
 .rename_i vs MT hu;simp[Z9]at hv;subst hv;obtain⟨vs',g1,g2⟩:=key _ hu;refine⟨.tuple vs'.toArray,?_,by grind[aC]⟩;unfold results;rw[Sem.run_bind];refine Eq.trans (RT (λr=>Result.andThen r λ(a:Array vl) w'=>Sem.run X.P (pure (if h:a.size=1 then a[0]else vl.tuple a)) w') g1) ?_
  have hl:¬RW vs'=1:=by
   rw[<-g2.length];intro h1;obtain⟨u,rfl⟩:=List.length_eq_one_iff.1 h1;exact MT u rfl
  simp[hl]
 trivial
theorem UP{φ:bI}{H:AH}{fn:Func}{tmps:Array vl}{w0:wO}{φ0:bI}{H0:AH}{R:Ending->wO->Prop}{n:Nat}{F:Fence} :
  ∀(ds:ax)(w:wO),ds.Nodup->(∀D∈ds,w0.heap.size<=D∧w.heap[D]?=Wf (.deferred (Wf [])))->bC X φ H w->cD φ0 H0 w0 φ H w ->
   (∀w',bC X φ H w'->cD φ0 H0 w0 φ H w'->LeavesInM F n X.P fn tmps R [] .returning w')->LeavesInM F n X.P fn tmps R (marks ds) .returning w
 |[],w,_,_,hh,he,hk=>hk w hh he
 | D::ds,w,hn,hd,hh,he,hk=>by
  have h0:=hd D ac;rw[Xx]at hn;refine⟨ac,.inl ⟨D,_,rfl,run_takeDeferred h0.2,?_⟩⟩;refine UP ds _ hn.2 (λD' hD'=>⟨(hd D' ae).1,(wO.putObj_heap_other ?_).trans (hd D' ae).2⟩) (hh.putOther h0.2 rfl) (he.putOther _ h0.1) hk
  grind
theorem aap{f:fI}{H:AH}{v:vl}{H':AH}:dP X (n+1) f args H=Wf (v,H')->(X.orc f args=Wf v∧H'=H)∨(
  X.allow f=Th∧∃fn c e a,X.P.funcs[f]?=Wf fn∧fn.body=Wf c∧cS X (dP X n) n c (args++So (fn.ntmps-RW args) undef) H=Wf (e,a,H')∧(e=.normal∨e=.ret)∧vL X.P fn a H'=Wf v):=by
 intro h;simp[dP]at h;split at h
 .grind
 right;split at h
 case isFalse=>cases h
 rename_i DQ;split at h
 case h_2=>cases h
 rename_i fn hfn;split at h
 case h_2=>cases h
 rename_i c hc;refine⟨DQ,fn,c,?_⟩;split at h
 .grind[Z3]
 .grind[Z3]
 .cases h
theorem Oc:∀n,jR (dP X n)
 |0=>λf args H v H' h=>by cases h
 | n+1=>λf args H v H' h=>by
  have ih:=Oc n;rcases aap h with⟨_,rfl⟩|⟨_,fn,c,e,a,_,_,he,_,_⟩
  .exact cE.refl _
  .exact H9 ih n c _ H e a H' he
theorem aoI(hX:OO X):∀n,uN X (dP X n)∧jR (dP X n):=by
 intro n
 induction n with
 |zero=>exact⟨λf args H v H' h=>by trivial,λf args H v H' h=>by trivial⟩
 | succ n ih=>
  obtain⟨ih1,ih2⟩:=ih;refine⟨?_,?_⟩
  .intro f args H v H' h;rcases aap h with⟨ho,rfl⟩|⟨DQ,fn,c,e,a,hfn,hc,he,hee,hres⟩
   .obtain⟨p1,p2,p3|⟨p3,p4⟩⟩:=hX.orc _ _ _ ho
    .exact .inl ⟨ho,rfl,p1,p2,p3⟩
    refine .inr ⟨p3,λφ w GS hh ha=>?_⟩
    have hargs:GS=args.toArray:=by
     have:=(aE.of_plain _ p1 _).1 ha;rw[<-this]
    subst hargs;refine Calls.mono (p4 w) ?_;rintro en w' ⟨rfl,q1,q2,q3,q4⟩;obtain⟨g1,g2⟩:=hh.grow q1 q2 q3 q4
    grind[lI,cY.refl]
   have hokf:=hX.fns f fn DQ hfn;simp only[GE,Z7,hc]at hokf;refine .inr ⟨⟨fn,hfn,ae,ae⟩,?_⟩;intro φ w GS hh ha;obtain⟨_,k2⟩:=(amg hX.seq hX.mixed ih1 ih2 n).1 c _ H e a H' he;refine(callsIn_wide (n:=0)).1 (callsIn_of_wp_marks hfn hc trivial (k2 Vc φ w _ _ (.inl rfl) hokf.2 hh ?_ ?_))
   .have hl:RW args=GS.size:=by simpa using ha.length
    grind[Array.toList_replicate,aE.append,aE.replicate,aC.undef]
   .intro φ1 ib w1 q1 q2 q3 q4 q5;obtain⟨ds,hds,n1,n2⟩:=q2
    have main:LeavesInM Fence.wide 0 X.P fn ib.tmps (λe w'=>∃φ' v',e=.returned v'∧aC φ' v v'∧bC X φ' H' w'∧cD φ H w φ' H' w'∧cY H.n Vc φ φ') ib.defers .returning w1:=by
     rw[hds,show(({tmps:=GS++Array.replicate (fn.ntmps-GS.size) undef,defers:=[]}:Act).defers)=[]from rfl,Zn];refine UP ds w1 n1 n2 q3 q4 (λw' g3 g4=>?_);obtain⟨v',g1,g2⟩:=agB g3 q1 hres;exact⟨v',g1,φ1,v',rfl,g2,g3,g4,q5⟩
    rcases hee with rfl|rfl
    .exact main
    trivial
  .exact Oc (n+1)
theorem aoE(hX:OO X){n:Nat}{f:fI}{args:am}{H H':AH}{v:vl}(h:dP X n f args H=Wf (v,H')){φ:bI}{w:wO}{GS:Array vl}
  (hh:bC X φ H w) (ha:aE φ args GS.toList) (h0:∀a,X.orc f a=Vc) :
  Calls X.P f GS w λe w'=>∃φ' v',e=.returned v'∧aC φ' v v'∧bC X φ' H' w'∧cD φ H w φ' H' w'∧cY H.n Vc φ φ':=by
 rcases(aoI hX n).1 f args H v H' h with⟨g,_⟩|⟨_,g⟩
 .rw[h0]at g;cases g
 .exact g φ w GS hh ha
