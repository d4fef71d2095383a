/- Lemmas. -/
import Derived.Test.YthjogmhfdpaaaabGreatDoorQZ
import Derived.Orders
import Derived.Laws.IdiomCopy
import Derived.Laws.MakeOwn
import Derived.LoopN
import Derived.Scope
import Derived.RangeFuncLeaves
import Derived.RangeFuncRecord
import Derived.RangeFuncSeq
import Derived.RangeFuncOwn
import Derived.LoopNIn
import Derived.TacticsIn
import Derived.OrdersIn
set_option linter.unusedVariables false
set_option linter.unusedSimpArgs false
open Option renaming some->Wf,none->Vc
open Bool renaming true->Th,false->SM
open Go renaming Value->vl,FuncId->fI,World->wO,IntKind->iK,Program->pG,Builtin->bU,TypeId->tI,Oper->oR,Operand->oP,Exit->eX,BinOp->bO
open List renaming replicate->So,length->RW
namespace Go.Am
open Go
noncomputable section
variable{b n c l i L L' off k len cap Nd j:Nat}{x c' l' u v' x' i' y':vl}{w' w1 w2 w0:wO}{cs L7 tmps:Array vl}{e t ty:tI}{fz:Nat×Nat}{LT:Act}{s:ByteArray}{P:pG}{d:Option TypeDesc}{f o' hi mx:Option vl}{op:bO}{ox oy:oP}{ts:Array tI}{args GS a2:au}{RC:Option Nat}{dst:Option Tmp}{listed:Array Bool}
structure bv where
 cells:au
 st:Nat
 wr:Bool
 fam:Nat
 start:Nat
 shared:Bool
 exact:Bool
 esz:Nat
 ver:Nat
structure AH where
 n:Nat
 l:List bv
variable{H2 H1:AH}
def AH.get(H:AH)(b:Nat):Option bv:=if b<H.n then H.l[H.n-1-b]? else Vc
def AH.push(H:AH)(x:bv):AH:=⟨H.n+1,x::H.l⟩
def AH.set(H:AH)(b:Nat)(x:bv):AH:=⟨H.n,H.l.set (H.n-1-b) x⟩
def qj(p:Nat->bv->Bool):Nat->List bv->List bv
 |_,[]=>[]
 |n,x::l=>(if p (n-1) x then{x with st:=2,ver:=x.ver+1}else x)::qj p (n-1) l
def AH.kill(H:AH)(p:Nat->bv->Bool):AH:=⟨H.n,qj p H.n H.l⟩
def okCell:vl->Bool
 |.agg _|.tuple _=>SM
 |_=>Th
def fresh(b:Nat)(cells:au):bv:={cells,st:=1,wr:=Th,fam:=b,start:=0,shared:=SM,exact:=Th,esz:=1,ver:=1}
def pP:bv:={cells:=[],st:=0,wr:=SM,fam:=0,start:=0,shared:=SM,exact:=Th,esz:=1,ver:=0}
def kX(H:AH)(rid:Option Nat)(cells:au):Option (Nat×AH):=
 match rid with
 |none=>Wf (H.n,H.push (fresh H.n cells))
 | some r=>match H.get r with
  |some x=>if x.st=0∧x.ver=0 then Wf (r,H.set r (fresh r cells))else Vc
  |none=>Vc
def cX(H:AH)(b off n:Nat):Option au:=
 match H.get b with
 |some x=>if x.st=1∧off+n<=RW x.cells then Wf ((x.cells.drop off).take n)else Vc
 |none=>Vc
def kin(b:Nat)(f:Nat)(i:Nat)(x:bv):Bool:=i !=b&&x.fam == f&&x.shared&&x.st == 1
def splice(l:au)(off:Nat)(vs:au):au:=l.take off++vs++l.drop (off+RW vs)
def kf(H:AH)(b off:Nat)(vs:au):Option AH:=
 match H.get b with
 | some x=>
  if x.st=1∧x.wr=Th∧off+RW vs<=RW x.cells∧vs.all okCell=Th then
   Wf ((if x.shared then H.kill (kin b x.fam)else H).set b {x with cells:=splice x.cells off vs,ver:=x.ver+1,shared:=SM})
  else Vc
 |none=>Vc
def pv{α:Type}(P:pG):Sem α->Option α
 |.pure a=>Wf a
 |.program k=>pv P (k P)
 |_=>Vc
mutual
/-- No address in a value. -/
def plain:vl->Bool
 |.pointer (Wf _)|.slice (Wf _) _ _|.map (Wf _)|.chan (Wf _)=>SM
 |.agg ⟨cs⟩|.tuple ⟨cs⟩=>eH cs
 |.iface _ v=>plain v
 |.func fn ⟨x⟩ ⟨y⟩=>(match fn with|.yield _=>SM|_=>Th)&&eH x&&eH y
 |_=>Th
def eH:au->Bool
 |[]=>Th
 |v::l=>plain v&&eH l
end
def cn(P:pG)(t:tI):Option Nat:=(P.info? t).map (·.size)
def fX(P:pG)(t:tI):Option vl:=(P.info? t).bind (·.zero)
def qu(P:pG)(t:tI):Option Nat:=(P.info? t).map (·.bytes)
def abp:vl:=.chan (Wf 0)
structure dh where
 P:pG
 allow:fI->Bool
 glob:Nat->Bool
 orc:fI->au->Option vl
 /-- what an iterator yields:its function,what it has captured,the heap -/
 seq:fI->au->AH->Option (List au)
 seqK:fI->au->AH->au
def d6(l:au)(i:Nat):vl:=List.rec (motive:=λ_=>Nat->vl) (λ_=>undef) (λx _ ih i=>Nat.rec x (λj _=>ih j) i) l i
theorem qm:∀(l:au)(i:Nat),d6 l i=l.getD i undef
 |[],_=>rfl
 |_::_,0=>rfl
 | x::l,i+1=>by
  have:=qm l i;trivial
def ev(X:dh)(a:au):oP->vl
 |.tmp t=>d6 a t
 |.const v=>v
 |.global g=>if X.glob g then .pointer (Wf ⟨g,0,Vc⟩)else abp
 |.func f=>.func (.func f) #[] #[]
def qg(P:pG)(H:AH)(t:tI)(x:vl):Option vl:=
 match x with
 | .pointer (Wf ⟨b,off,Vc⟩)=>
  match P.underlying t with
  | some (.struct _)|some (.array _ _)=>do
   let n <-cn P t
   let cs <-cX H b off n
   Wf (.agg cs.toArray)
  | some _=>match cX H b off 1 with
   |some [v]=>Wf v
   |_=>Vc
  |none=>Vc
 |_=>Vc
def tK(P:pG)(H:AH)(t:tI)(x v:vl):Option AH:=
 match x,cn P t with
 |.pointer (Wf ⟨b,off,Vc⟩),Wf n=>if v.cells.size=n then kf H b off v.cells.toList else Vc
 |_,_=>Vc
def Cf(a:Addr)(n:Nat):Addr:=⟨a.block,a.off+n,Vc⟩
def BO(P:pG)(t:tI)(x:vl)(f:Nat):Option vl:=
 match P.underlying t,x with
 | some (.struct fs),.pointer (Wf ⟨b,off,Vc⟩)=>match fs[f]? with
  | some fd=>match cn P fd.type with
   |some (_+1)=>Wf (.pointer (Wf ⟨b,off+fd.offset,Vc⟩))
   |_=>Vc
  |none=>Vc
 |_,_=>Vc
def sS(P:pG)(t:tI)(x i:vl):Option vl:=
 match P.underlying t,x,i with
 | some (.slice e),.slice (Wf ⟨b,off,Vc⟩) len _,.int _ k=>match cn P e with
  |some n=>if 0<=k∧k<len then Wf (.pointer (Wf ⟨b,off+k.toNat*n,Vc⟩))else Vc
  |none=>Vc
 | some (.array len e),.pointer (Wf ⟨b,off,Vc⟩),.int _ k=>match cn P e with
  |some n=>if 0<=k∧k<len then Wf (.pointer (Wf ⟨b,off+k.toNat*n,Vc⟩))else Vc
  |none=>Vc
 |_,_,_=>Vc
def AS(P:pG)(t:tI)(cs:au)(off:Nat):Option vl:=
 match P.underlying t with
 | some (.struct _)|some (.array _ _)=>do
  let n <-cn P t
  Wf (.agg ((cs.drop off).take n).toArray)
 |some _=>cs[off]?
 |none=>Vc
def D4(P:pG)(t:tI)(x:vl)(f:Nat):Option vl:=
 match P.underlying t,x with
 | some (.struct fs),.agg cs=>match fs[f]? with
  |some fd=>AS P fd.type cs.toList fd.offset
  |none=>Vc
 |_,_=>Vc
def yR(P:pG)(t:tI)(x i:vl):Option vl:=
 match P.underlying t,x,i with
 | some (.array len e),.agg cs,.int _ k=>match cn P e with
  |some n=>if 0<=k∧k<len then AS P e cs.toList (k.toNat*n)else Vc
  |none=>Vc
 | some .string,.string s,.int _ k=>if 0<=k then match s[k.toNat]? with
  |some b=>Wf (.int .u8 b.toNat)
  |none=>Vc else Vc
 |_,_,_=>Vc
def fe(d:Nat)(top:Nat):Option vl->Option Nat
 |none=>Wf d
 |some (.int _ i)=>if 0<=i∧i<=top then Wf i.toNat else Vc
 |some _=>Vc
def there(H:AH):Option Addr->Bool
 |none=>Th
 | some a=>match H.get a.block with
  |some x=>x.st !=0
  |none=>SM
def sZ(H:AH)(n:Nat):Option Addr->Bool
 |none=>Th
 | some a=>match H.get a.block with
  |some x=>x.st !=0&&(x.exact||x.esz == n)
  |none=>SM
def kq(P:pG)(H:AH)(t:tI)(x:vl)(lo hi mx:Option vl):Option vl:=
 match P.underlying t,x with
 | some .string,.string s=>
  if mx.isSome then Vc else do
   let h <-fe s.size s.size hi
   let l <-fe 0 h lo
   Wf (.string (s.extract l h))
 | some (.slice e),.slice a len cap=>do
  let m <-fe cap cap mx
  let h <-(if hi.isNone&&mx.isSome then Vc else fe len m hi)
  let l <-fe 0 h lo
  let n <-cn P e
  if len<=cap∧(a.map (·.spot)).getD Vc=Vc∧(there H a&&(mx.isSome||sZ H n a))=Th then Wf (.slice (a.map λa=>Cf a (l*n)) (h-l) (m-l))else Vc
 | some (.array k e),.pointer (Wf ⟨b,off,Vc⟩)=>do
  let m <-fe k k mx
  let h <-(if hi.isNone&&mx.isSome then Vc else fe k m hi)
  let l <-fe 0 h lo
  let n <-cn P e
  Wf (.slice (Wf ⟨b,off+l*n,Vc⟩) (h-l) (m-l))
 |_,_=>Vc
def zo(P:pG)(t:tI)(parts:Array (Nat×vl)):Option vl:=
 match fX P t,P.underlying t with
 | some z,Wf (.struct fs)=>
  if plain z&&fs.all (λf=>(cn P f.type).isSome)then
   (Instr.fill ((fs.map λf=>(f.offset,(cn P f.type).getD 0))[·]?) z.cells parts.toList).map .agg
  else Vc
 | some z,Wf (.array _ e)=>match cn P e with
  |some n=>if plain z then(Instr.fill (λi=>Wf (i*n,n)) z.cells parts.toList).map .agg else Vc
  |none=>Vc
 |_,_=>Vc
def fj(z:au)(n:Nat):au:=(List.range n).map λi=>z.getD (i%(RW z)) undef
def rG(P:pG)(H:AH)(rid:Option Nat)(t:tI)(len:Nat)(parts:Array (Nat×vl)):Option (vl×AH):=
 match P.underlying t with
 | some (.slice e)=>match cn P e,fX P e with
  | some n,Wf z=>
   if plain z∧z.cells.size=n∧0<n∧len*n<=16777216 then
    match Instr.fill (λi=>Wf (i*n,n)) (fj z.cells.toList (len*n)).toArray parts.toList with
    | some cs=>match kX H rid cs.toList with
     |some (b,H')=>Wf (.slice (Wf ⟨b,0,Vc⟩) len len,H')
     |none=>Vc
    |none=>Vc
   else Vc
  |_,_=>Vc
 |_=>Vc
def yw(P:pG)(H:AH)(rid:Option Nat)(t:tI)(l c:vl):Option (vl×AH):=
 match P.underlying t,l,c with
 | some (.slice e),.int _ l,.int _ c=>match cn P e,fX P e,qu P e with
  | some n,Wf z,Wf Nd=>
   if plain z∧z.cells.size=n∧0<n∧0<=l∧l<=c∧(Nd:Int)*c<=281474976710656∧c<=9223372036854775807 then
    match kX H rid (fj z.cells.toList (c.toNat*n))with
    |some (b,H')=>Wf (.slice (Wf ⟨b,0,Vc⟩) l.toNat c.toNat,H')
    |none=>Vc
   else Vc
  |_,_,_=>Vc
 |_,_,_=>Vc
def fH(H:AH)(n:Nat):vl->Option (Nat×au)
 |.slice Vc 0 _=>Wf (0,[])
 |.slice (Wf ⟨b,off,Vc⟩) len _=>if len=0 then Wf (0,[])else(cX H b off (len*n)).map λcs=>(len,cs)
 |.string s=>if n=1 then Wf (s.size,s.data.toList.map λb=>.int .u8 b.toNat)else Vc
 |_=>Vc
def ma(x:bv)(off n:Nat)(cells:au):bv:=
 {cells,st:=1,wr:=Th,fam:=x.fam,start:=x.start+off,shared:=Th,exact:=SM,esz:=n,ver:=1}
def jv(b n:Nat)(cells:au):bv:=
 {cells,st:=1,wr:=Th,fam:=b,start:=0,shared:=SM,exact:=SM,esz:=n,ver:=1}
def beyond(b f pos:Nat)(i:Nat)(x:bv):Bool:=x.fam == f&&(x.shared||i == b)&&x.st == 1&&decide (pos<x.start+RW x.cells)
def fh(P:pG)(H:AH)(n Nd:Nat)(s:vl)(k:Nat)(cs:au):Option (vl×AH):=
 match s with
 | .slice Vc 0 0=>
  if k=0 then Wf (s,H)
  else if k*Nd<=140737488355328 then Wf (.slice (Wf ⟨H.n,0,Vc⟩) k k,H.push (jv H.n n cs))else Vc
 | .slice (Wf ⟨b,off,Vc⟩) len cap=>
  if cap<len then Vc else
  if k=0 then Wf (s,H)else
  if len+k<=cap then match kf H b (off+len*n) cs with
   |some H'=>Wf (.slice (Wf ⟨b,off,Vc⟩) (len+k) cap,H')
   |none=>Vc
  else if(len+k)*Nd<=140737488355328 then
   match H.get b with
   | some x=>
    if x.st=1∧off+len*n<=RW x.cells then
     let cells:=(x.cells.drop off).take (len*n)++cs
     if x.exact=Th∨(x.esz=n∧off+cap*n<RW x.cells)then Wf (.slice (Wf ⟨H.n,0,Vc⟩) (len+k) (len+k),H.push (jv H.n n cells))
     else if x.wr=Th∧x.esz=n∧off+cap*n=RW x.cells∧cs.all okCell=Th then
      Wf (.slice (Wf ⟨H.n,0,Vc⟩) (len+k) (len+k),
       (((H.set b {x with shared:=Th,ver:=x.ver+1}).kill (beyond b x.fam (x.start+off+len*n))).push (ma x off n cells)))
     else Vc
    else Vc
   |none=>Vc
  else Vc
 |_=>Vc
def Es(H:AH):vl->Option Nat
 |.slice Vc _ c=>Wf c
 | .slice (Wf ⟨b,off,Vc⟩) _ c=>match H.get b with
  |some x=>if x.st≠0∧(x.exact=Th∨off+c*x.esz<RW x.cells)then Wf c else Vc
  |none=>Vc
 |_=>Vc
def isNil:vl->Option Bool
 |.slice a _ _=>Wf a.isNone
 |.pointer a=>Wf a.isNone
 |.func ..=>Wf SM
 |.nilFunc=>Wf Th
 |_=>Vc
def kV(d:Option TypeDesc)(x y:vl):Bool:=
 match d,x,y with
 |some (.slice _),.slice ..,.slice ..=>Th
 |some (.pointer _),.pointer _,.pointer _=>Th
 |some (.func ..),.func ..,.nilFunc|some (.func ..),.nilFunc,.func .. |some (.func ..),.nilFunc,.nilFunc=>Th
 |_,_,_=>SM
def Dn(P:pG)(op:bO)(t:tI)(x y:vl):Option vl:=
 if kV (P.underlying t) x y then
  match op,isNil x,isNil y with
  |.eql,Wf Th,Wf q=>Wf (.bool q)
  |.eql,Wf q,Wf Th=>Wf (.bool q)
  |.neq,Wf Th,Wf q=>Wf (.bool !q)
  |.neq,Wf q,Wf Th=>Wf (.bool !q)
  |_,_,_=>Vc
 else Vc
def kI(P:pG)(op:bO)(t:tI)(ox oy:oP)(x y:vl):Option vl:=
 if plain x&&plain y then
  match pv P (do eqGuard op t ox oy x y;binOp op t x y)with
  |some r=>if plain r then Wf r else Vc
  |none=>Vc
 else Dn P op t x y
def sE(o:Option vl):Option vl:=match o with
 |some r=>if plain r then Wf r else Vc
 |none=>Vc
def Oz:vl->Option UInt8
 |.int .u8 n=>if 0<=n∧n<256 then Wf (UInt8.ofNat n.toNat)else Vc
 |_=>Vc
def bytesOf:au->Option bA
 |[]=>Wf []
 | v::l=>match Oz v,bytesOf l with
  |some b,Wf r=>Wf (b::r)
  |_,_=>Vc
def oH(P:pG)(H:AH)(s d:tI)(x:vl):Option (vl×AH):=
 match P.underlying s,P.underlying d,x with
 | some _,Wf (.slice e),.string str=>match P.underlying e with
  |some (.int .u8)=>Wf (.slice (Wf ⟨H.n,0,Vc⟩) str.size str.size,H.push (jv H.n 1 (str.data.toList.map λb=>.int .u8 b.toNat)))
  |_=>Vc
 | some (.slice e),Wf .string,.slice a len _=>match P.underlying e with
  | some (.int .u8)=>match a with
   |none=>Wf (.string .empty,H)
   | some ⟨b,off,Vc⟩=>match(if len=0 then(if there H (Wf ⟨b,off,Vc⟩)then Wf []else Vc)else cX H b off len)with
    |some cs=>(bytesOf cs).map λl=>(.string ⟨l.toArray⟩,H)
    |none=>Vc
   |_=>Vc
  |_=>Vc
 |_,_,_=>if plain x then(sE (pv P (convert s d x))).map λr=>(r,H)else Vc
def LW(P:pG)(t:tI)(x:vl):Option vl:=
 match P.underlying t with
 |some (.interface _)|none=>Vc
 |some _=>Wf (.iface t x)
def fM(P:pG)(H:AH)(b:bU)(ts:Array tI)(t:tI)(args:au):Option (vl×AH):=
 match b,args with
 | .len,[x]=>match(ts[0]?).bind P.underlying,x with
  |some .string,.string s=>Wf (.int .i64 s.size,H)
  |some (.slice _),.slice _ n _=>Wf (.int .i64 n,H)
  |some (.array n _),_=>Wf (.int .i64 n,H)
  |_,_=>Vc
 | .cap,[x]=>match(ts[0]?).bind P.underlying with
  |some (.slice _)=>(Es H x).map λ(n:Nat)=>(.int .i64 n,H)
  |_=>Vc
 | .append,[s,x]=>match(ts[0]?).bind P.underlying,(ts[1]?).bind P.underlying with
  | some (.slice e),Wf d=>match cn P e,qu P e,fX P e with
   | some n,Wf Nd,Wf z=>
    if n=0∨Nd=0∨z.cells.size≠n then Vc else
    match d,x with
    | .int _,.int _ k=>
     if plain z∧z.cells.size=n∧0<=k∧k*Nd<=140737488355328 then fh P H n Nd s k.toNat (fj z.cells.toList (k.toNat*n))else Vc
    |.int _,_=>Vc
    | _,_=>match fH H n x with
     |some (k,cs)=>fh P H n Nd s k cs
     |none=>Vc
   |_,_,_=>Vc
  |_,_=>Vc
 | .copy,[.slice RC dLen _,src]=>match(ts[0]?).bind P.underlying with
  | some (.slice e)=>match cn P e with
   | some n=>match fH H n src with
    | some (k,cs)=>
     let m:=min k dLen
     match RC with
     |none=>Wf (.int .i64 m,H)
     |some ⟨b,off,Vc⟩=>if m=0 then Wf (.int .i64 m,H)else(kf H b off (cs.take (m*n))).map λH'=>(.int .i64 m,H')
     |_=>Vc
    |none=>Vc
   |none=>Vc
  |_=>Vc
 | .clear,[.slice RC len _]=>match(ts[0]?).bind P.underlying with
  | some (.slice e)=>match cn P e,fX P e with
   | some n,Wf z=>match RC with
    |none=>Wf (.tuple #[],H)
    |some ⟨b,off,Vc⟩=>if plain z∧z.cells.size=n∧0<n then if len=0 then Wf (.tuple #[],H)else(kf H b off (fj z.cells.toList (len*n))).map λH'=>(.tuple #[],H')else Vc
    |_=>Vc
   |_,_=>Vc
  |_=>Vc
 |.min,_=>if eH args then(sE (pv P (bU.min_ ts t args.toArray))).map λr=>(r,H)else Vc
 |.max,_=>if eH args then(sE (pv P (bU.max_ ts t args.toArray))).map λr=>(r,H)else Vc
 |_,_=>Vc
def du(X:dh)(rid:Option Nat)(H:AH)(a:au)(o:oR):Option (vl×AH):=
 let P:=X.P
 let e:=ev X a
 match o.op with
 |.move x|.assign x=>Wf (e x,H)
 | .pick c x y=>match e c with
  |.bool t=>Wf (if t then e x else e y,H)
  |_=>Vc
 | .alloc t=>match fX P t with
  | some z=>if plain z then match rid with
   |none=>Wf (.pointer (Wf ⟨H.n,0,Vc⟩),H.push (fresh H.n z.cells.toList))
   |some r=>Wf (.pointer (Wf ⟨r,0,Vc⟩),H)
   else Vc
  |none=>Vc
 |.box _ x=>(kX H rid (e x).cells.toList).map λ(b,H')=>(.pointer (Wf ⟨b,0,Vc⟩),H')
 |.build t ps=>(zo P t (ps.map λ(i,x)=>(i,e x))).map λv=>(v,H)
 |.buildSlice t len ps=>rG P H rid t len (ps.map λ(i,x)=>(i,e x))
 |.load t x=>(qg P H t (e x)).map λv=>(v,H)
 |.store t x y=>(tK P H t (e x) (e y)).map λH'=>(undef,H')
 | .nilCheck x=>match e x with
  |.pointer (Wf p)=>Wf (.pointer (Wf p),H)
  |_=>Vc
 |.binOp op t x y _=>(kI P op t x y (e x) (e y)).map λv=>(v,H)
 |.unOp op _ x=>if plain (e x)then(sE (pv P (Op.unary op (e x)))).map λv=>(v,H)else Vc
 |.convert s d x=>oH P H s d (e x)
 |.makeInterface t x=>(LW P t (e x)).map λv=>(v,H)
 |.makeFunc (.func f) x y=>Wf (.func (.func f) (x.map e) (y.map e),H)
 |.makeSlice t l c=>yw P H rid t (e l) (e c)
 |.slice t x lo hi mx=>(kq P H t (e x) (lo.map e) (hi.map e) (mx.map e)).map λv=>(v,H)
 |.fieldAddr t x f=>(BO P t (e x) f).map λv=>(v,H)
 |.field t x f=>(D4 P t (e x) f).map λv=>(v,H)
 |.indexAddr t x i=>(sS P t (e x) (e i)).map λv=>(v,H)
 |.index t x i=>(yR P t (e x) (e i)).map λv=>(v,H)
 | .extract x i=>match e x with
  |.tuple vs=>(vs[i]?).map λv=>(v,H)
  |_=>Vc
 |.call {callee:=.builtin b,args,argTypes}=>fM P H b argTypes o.type ((args.map e).toList)
 |_=>Vc
def pF(e:oP->vl)(c:Call):Option (fI×au):=
 match c.callee with
 | .value f=>match e f with
  |.func (.func g) first captured=>Wf (g,first.toList++(c.args.map e).toList++captured.toList)
  |_=>Vc
 |_=>Vc
abbrev fW:=fI->au->AH->Option (vl×AH)
def py:Callee->Bool
 |.builtin _=>Th
 |_=>SM
def iC(X:dh)(cf:fW)(rid:Option Nat)(H:AH)(a:au)(o:oR):Option (vl×AH):=
 match o.op with
 | .call c=>if py c.callee then du X rid H a o else
  match pF (ev X a) c with
  |some (g,args)=>cf g args H
  |none=>Vc
 |_=>du X rid H a o
def dQ(a:au)(dst:Option Tmp)(v:vl):au:=
 match dst with
 |some d=>a.set d v
 |none=>a
def jU(RM:Array oR)(a:au)(j:Nat):Option Bool:=
 match((RM[j]?).bind (·.dst)).bind (λt=>a[t]?)with
 |some (.bool b)=>Wf b
 |_=>Vc
def iz(P:pG):Op->Bool
 |.load ..=>Th
 |.convert s _ _=>(match P.underlying s with|some (.slice _)=>Th|_=>SM)
 |_=>SM
def px:Op->Bool
 |.slice ..=>Th
 |.call {callee:=.builtin .cap,.. }=>Th
 |_=>SM
def ky:Op->Bool
 |.box .. |.buildSlice .. |.makeSlice ..=>Th
 |_=>SM
def eJ(P:pG):Op->Bool
 |.store ..=>Th
 |.convert _ d _=>(match P.underlying d with|some (.slice _)=>Th|_=>SM)
 |.call {callee:=.builtin b,.. }=>(match b with|.append|.copy|.clear=>Th|_=>SM)
 |.call _=>Th
 |_=>SM
def oI(P:pG)(RM:Array oR)(i:Nat)(o:oR):Bool:=
 eJ P o.op&&RM.toList.zipIdx.any λ(x,j)=>iz P x.op&&j !=i && !((Region.before RM).toList.getD i 0).testBit j && !((Region.before RM).toList.getD j 0).testBit i
def oX:List bv->List bv->Bool
 |x::l,y::m=>x.ver == y.ver&&oX l m
 |[],[]=>Th
 |_,_=>SM
def preB(H H':AH):Bool:=oX H.l (H'.l.drop (H'.n-H.n))
def iZ:vl->Option Nat
 |.pointer (Wf a)=>Wf a.block
 |.slice (Wf a) _ _=>Wf a.block
 |_=>Vc
def oT(RM:Array oR)(i j:Nat):Bool:=j !=i && !((Region.before RM).toList.getD i 0).testBit j && !((Region.before RM).toList.getD j 0).testBit i
def nK(RM:Array oR)(t:Tmp):Bool:=RM.toList.any λo=>match o.dst with
 |some d=>Nat.beq d t
 |none=>SM
def sameAt(H H':AH)(v:vl):Bool:=match iZ v with
 | some b=>match H.get b,H'.get b with
  |some x,Wf y=>x.ver == y.ver
  |_,_=>SM
 |none=>Th
def vQ(RM:Array oR):Nat->Tmp->Option Tmp
 | 0,p=>(match nK RM p with
  |true=>Vc
  |false=>Wf p)
 | n+1,p=>(match nK RM p with
  | true=>(match RM.toList.find? λo=>match o.dst with
    |some d=>Nat.beq d p
    |none=>SM with
   | some o=>(match o.op with
    |.fieldAddr _ (.tmp b) _=>vQ RM n b
    |.nilCheck (.tmp b)=>vQ RM n b
    |.move (.tmp b)=>vQ RM n b
    |_=>Vc)
   |none=>Vc)
  |false=>Wf p)
def qK(RM:Array oR)(p:Tmp):Option Tmp:=vQ RM 4 p
def offB(P:pG)(RM:Array oR)(i:Nat)(a:au)(H H':AH):Bool:=
 RM.toList.zipIdx.all λ(x,j)=>!(iz P x.op&&oT RM i j)||match x.op with
  | .load _ (.tmp p)=>(match qK RM p with
   |some b=>sameAt H H' (d6 a b)
   |none=>SM)
  |_=>SM
def zG(RM:Array oR):Op->Bool
 |.store ..=>Th
 | .call c=>match c.callee with
  | .builtin .append=>match c.args.toList with
   |.tmp p::_=>nK RM p
   |_=>SM
  |_=>SM
 |_=>SM
def uh(P:pG)(RM:Array oR):Bool:=RM.toList.zipIdx.any λ(o,i)=>zG RM o.op&&oI P RM i o
def oB(P:pG)(RM:Array oR)(o:oR)(a:au):Bool:=match o.op with
 | .load _ (.tmp p)=>!uh P RM||(match qK RM p with
  |some b=>decide (iZ (d6 a p)=iZ (d6 a b))
  |none=>Th)
 |_=>Th
def tw:Op->Bool
 |.call c=>!py c.callee
 |_=>SM
def od(RM:Array oR)(i:Nat)(o:Op):Bool:=tw o&&RM.toList.zipIdx.any λ(x,j)=>ky x.op&&oT RM i j
def rI(X:dh)(B:Nat):Nat->List bv->List bv
 |_,[]=>[]
 |n,x::l=>(if n-1<B∧X.glob (n-1)=Th then{x with wr:=SM,st:=if eH x.cells=Th then x.st else x.st+x.st}else pP)::rI X B (n-1) l
def AH.bare(X:dh)(B:Nat)(H:AH):AH:=⟨H.n,rI X B H.n H.l⟩
def AH.graft(H H':AH):AH:=⟨H'.n,(List.range (H'.n-H.n)).map (λi=>H'.l.getD i pP)++H.l⟩
def jL(X:dh)(cf:fW)(B:Nat)(H:AH)(a:au)(o:oR):Option (vl×AH):=match o.op with
 | .call c=>match pF (ev X a) c with
  | some (g,args)=>if eH args=Th then match cf g args (H.bare X B)with
   |some (v,H')=>Wf (v,H.graft H')
   |none=>Vc else Vc
  |none=>Vc
 |_=>Vc
def nL(X:dh)(cf:fW)(RM:Array oR)(RC:Option Nat)(i:Nat)(o:oR)(a:au)(H:AH):Option (vl×AH):=
 if RC.isSome&&od RM i o.op then jL X cf (RC.getD 0) H a o else iC X cf (RC.map (· + i)) H a o
def gF(X:dh)(cf:fW)(RM:Array oR)(RC:Option Nat)(i:Nat)(o:oR)(a:au)(H:AH):Option (vl×AH):=
 match nL X cf RM RC i o a H with
 |some (v,H')=>if RC.isSome&&(!oB X.P RM o a||oI X.P RM i o && !preB H H' && !(uh X.P RM&&offB X.P RM i a H H'))then Vc else Wf (v,H')
 |none=>Vc
def dV(X:dh)(cf:fW)(RM:Array oR)(RC:Option Nat)(i:Nat)(o:oR)(a:au)(H:AH):Option (au×AH):=
 if Region.wanted o (jU RM a)then
  match gF X cf RM RC i o a H with
  |some (v,H')=>Wf (dQ a o.dst v,H')
  |none=>Vc
 else Wf (dQ a o.dst undef,H)
def jN(X:dh)(cf:fW)(RM:Array oR)(RC:Option Nat):Nat->List oR->au->AH->Option (au×AH)
 |_,[],a,H=>Wf (a,H)
 | i,o::rest,a,H=>match dV X cf RM RC i o a H with
  |some (a',H')=>jN X cf RM RC (i+1) rest a' H'
  |none=>Vc
def nH(P:pG)(b:Nat)(o:oR):bv:=
 match o.op with
 | .alloc t=>match fX P t with
  |some z=>fresh b z.cells.toList
  |none=>pP
 |_=>pP
def im(P:pG):List oR->AH->AH
 |[],H=>H
 |o::l,H=>im P l (H.push (nH P H.n o))
def pX(X:dh)(cf:fW)(RM:Array oR)(draw:Bool)(a:au)(H:AH):Option (au×AH):=
 if draw then jN X cf RM (Wf H.n) 0 RM.toList a (im X.P RM.toList H)else jN X cf RM Vc 0 RM.toList a H
abbrev Jq:=Option (eX×au×AH)
def putP:List Tmp->au->au->au
 |p::ps,x::xs,a=>putP ps xs (a.set p x)
 |_,_,a=>a
open Classical in
/-- The rounds of a loop over an iterator:what it yields must stay the same. -/
def jW(pre run:au->AH->Jq)(sq:AH->Prop)(ps:List Tmp)(a:au):List au->AH->Jq
 |[],H=>Wf (.normal,a,H)
 | x::xs,H=>if RW x=RW ps then match pre (putP ps x a) H with
  | some (.normal,a1,H1)=>match run a1 H1 with
   |some (.normal,_,H')=>if sq H' then jW pre run sq ps a xs H' else Vc
   |some (e,_,H')=>Wf (e,a,H')
   |none=>Vc
  |_=>Vc
  else Vc
def cS(X:dh)(cf:fW):Nat->Code->au->AH->Jq
 |0,_,_,_=>Vc
 | n+1,c,a,H=>match c with
  |.skip=>Wf (.normal,a,H)
  |.label _=>Wf (.normal,a,H)
  | .region _ RM draw=>match pX X cf RM draw a H with
   |some (a',H')=>Wf (.normal,a',H')
   |none=>Vc
  | .seq x y=>match cS X cf n x a H with
   |some (.normal,a',H')=>cS X cf n y a' H'
   |r=>r
  | .cond x t e=>match ev X a x with
   |.bool Th=>cS X cf n t a H
   |.bool SM=>cS X cf n e a H
   |_=>Vc
  | .block id c=>match cS X cf n c a H with
   |some (.exit j,a',H')=>Wf (if j=id then .normal else .exit j,a',H')
   |r=>r
  | .loop c=>match cS X cf n c a H with
   |some (.normal,a',H')=>cS X cf n (.loop c) a' H'
   |r=>r
  |.exit id=>Wf (.exit id,a,H)
  |.ret=>Wf (.ret,a,H)
  |.scope c=>cS X cf n c a H
  | .rangeFunc g ps asF body=>match ev X a g with
   | .func (.func gf) ⟨[]⟩ ⟨lb⟩=>match X.seq gf lb H with
    |some xs=>jW (λa H=>cS X cf n asF a H) (λa H=>cS X cf n body a H) (λH'=>X.seq gf lb H'=Wf xs∧X.seqK gf lb H'=X.seqK gf lb H) ps.toList a xs H
    |none=>Vc
   |_=>Vc
  |_=>Vc
def sr(P:pG)(H:AH)(a:au):ResultVar->Option vl
 |.tmp t=>Wf (a.getD t undef)
 |.cell x t=>qg P H t (a.getD x undef)
def vS(P:pG)(fn:Func)(a:au)(H:AH):Option vl:=
 match fn.results.toList.mapM (sr P H a)with
 |some [v]=>Wf v
 |some vs=>Wf (.tuple vs.toArray)
 |none=>Vc
def dR(X:dh):Nat->fW
 |0,_,_,_=>Vc
 | n+1,f,args,H=>match X.orc f args with
  |some v=>Wf (v,H)
  | none=>if X.allow f then
   match X.P.funcs[f]? with
   | some fn=>match fn.body with
    | some c=>match cS X (dR X n) n c (args++So (fn.ntmps-RW args) undef) H with
     |some (.normal,a,H')|some (.ret,a,H')=>(vS X.P fn a H').map λv=>(v,H')
     |_=>Vc
    |none=>Vc
   |none=>Vc
  else Vc
def iR(op:bO)(k:iK)(a:Int)(k':iK)(b:Int):Option vl:=
 match op with
 |.shl=>if b<0 then Vc else Wf (.int k (k.wrap (a*2^(min b.toNat k.bits))))
 |.shr=>if b<0 then Vc else Wf (.int k (a.fdiv (2^(min b.toNat k.bits))))
 | op=>if k≠k' then Vc else match op with
  |.add=>Wf (.int k (k.wrap (a+b)))
  |.sub=>Wf (.int k (k.wrap (a-b)))
  |.mul=>Wf (.int k (k.wrap (a*b)))
  |.quo=>if b=0 then Vc else Wf (.int k (k.wrap (a.tdiv b)))
  |.rem=>if b=0 then Vc else Wf (.int k (a.tmod b))
  |.and=>Wf (.int k (k.wrap (BitVec.ofInt k.bits a&&&BitVec.ofInt k.bits b).toNat))
  |.or=>Wf (.int k (k.wrap (BitVec.ofInt k.bits a|||BitVec.ofInt k.bits b).toNat))
  |.xor=>Wf (.int k (k.wrap (BitVec.ofInt k.bits a ^^^ BitVec.ofInt k.bits b).toNat))
  |.andNot=>Wf (.int k (k.wrap (BitVec.ofInt k.bits a &&& ~~~ BitVec.ofInt k.bits b).toNat))
  |.eql=>Wf (.bool (a == b))
  |.neq=>Wf (.bool (a !=b))
  |.lss=>Wf (.bool (a<b))
  |.leq=>Wf (.bool (a<=b))
  |.gtr=>Wf (.bool (a>b))
  |.geq=>Wf (.bool (a≥b))
  |_=>Vc
theorem apx(P:pG)(op:bO)(t:tI)(ox oy:oP)(k:iK)(a:Int)(k':iK)(b:Int):
  kI P op t ox oy (.int k a) (.int k' b)=iR op k a k' b:=by
 unfold kI;simp[plain,Ws,iT]
 have hg:∀op:bO,eqGuard op t ox oy (.int k a) (.int k' b)=pure ():=λop=>by
  cases op<;>rfl
 rw[hg];cases op<;>simp only[iR,binOp,Op.shift,Op.intArith,Op.intDiv,Op.intBits,Op.intCmp,pure_bind]
 case shl=>by_cases hb:b<0<;>simp[hb,iT,iF]<;>rfl
 case shr=>by_cases hb:b<0<;>simp[hb,iT,iF]<;>rfl
 all_goals by_cases hk:k=k'
 all_goals simp only[hk,ne_eq,not_true_eq_false,not_false_eq_true,iT,iF]
 all_goals first
  |rfl
  |(by_cases hb:b=0<;>simp[hb,iT,iF]<;>rfl)
theorem AH.get_pos{H:AH}(h:b<H.n):H.get b=H.l[H.n-1-b]?:=ip h
theorem AH.get_neg{H:AH}(h:¬b<H.n):H.get b=Vc:=iN h
theorem AH.get_lt{H:AH}{x:bv}(h:H.get b=Wf x):b<H.n:=by grind[get_neg]
@[simp]theorem AH.n_push(H:AH)(x:bv):(H.push x).n=H.n+1:=rfl
@[simp]theorem AH.n_set(H:AH)(b:Nat)(x:bv):(H.set b x).n=H.n:=rfl
@[simp]theorem AH.n_kill(H:AH)(p:Nat->bv->Bool):(H.kill p).n=H.n:=rfl
theorem AH.get_push_new(H:AH)(x:bv):(H.push x).get H.n=Wf x:=by
 rw[AH.get_pos ac]
 show(x::H.l)[H.n+1-1-H.n]?=_
 simp
theorem AH.get_push_old{H:AH}{x:bv}(h:b<H.n):(H.push x).get b=H.get b:=by
 rw[AH.get_pos (H:=H.push x) dG,AH.get_pos h]
 show(x::H.l)[H.n+1-1-b]?=_
 rw[show H.n+1-1-b=(H.n-1-b)+1 by omega,List.getElem?_cons_succ]
theorem AH.get_push{H:AH}{x:bv}(h:b≠H.n):(H.push x).get b=H.get b:=by
 by_cases hb:b<H.n
 .grind[get_push_old]
 .rw[AH.get_neg hb,AH.get_neg dG]
theorem AH.get_set{H:AH}{x y:bv}(h:H.get b=Wf y)(b':Nat):(H.set b x).get b'=if b'=b then Wf x else H.get b':=by
 have hl:=AH.get_lt h;rw[AH.get_pos hl]at h
 have Rg:H.n-1-b<RW H.l:=by
  rcases Zi (H.n-1-b) (RW H.l) with h'|h'
  .exact h'
  .grind
 by_cases hb:b'=b
 .subst hb;rw[ip rfl,AH.get_pos cU]
  show(H.l.set (H.n-1-b') x)[H.n-1-b']?=_
  grind
 .rw[iN hb];by_cases hb':b'<H.n
  .rw[AH.get_pos (H:=H.set b x) cU,AH.get_pos hb']
   show(H.l.set (H.n-1-b) x)[H.n-1-b']?=_
   rw[List.getElem?_set_ne aa]
  .rw[AH.get_neg cU,AH.get_neg hb']
theorem Vw(p:Nat->bv->Bool):∀(l:List bv)(n i:Nat),(qj p n l)[i]?=(l[i]?).map λx=>if p (n-1-i) x then{x with st:=2,ver:=x.ver+1}else x
 |[],n,i=>by rfl
 |x::l,n,0=>by rfl
 | x::l,n,i+1=>by
  simp[qj,List.getElem?_cons_succ];rw[Vw p l (n-1) i,show n-1-1-i=n-1-(i+1) by omega]
theorem AH.get_kill(H:AH)(p:Nat->bv->Bool)(b:Nat):(H.kill p).get b=(H.get b).map λx=>if p b x then{x with st:=2,ver:=x.ver+1}else x:=by
 by_cases h:b<H.n
 .rw[AH.get_pos (H:=H.kill p) cU,AH.get_pos h]
  show(qj p H.n H.l)[H.n-1-b]?=_
  rw[Vw,show H.n-1-(H.n-1-b)=b by omega]
 .rw[AH.get_neg cU,AH.get_neg h];rfl
structure Pl where
 c:Nat
 s:Nat
 nc:Nat
 esz:Nat
 top:Nat
 exact:Bool
variable{p:Pl}
abbrev bI:=Nat->Option Pl
variable{φ' φ'' φ1 φ2 φ0:bI}
def abG(p:Pl)(off cap cap':Nat):Prop:=
 cap'=cap∨(p.exact=SM∧off+cap*p.esz=p.nc∧cap<=cap'∧p.s+off+cap'*p.esz<=p.top)
def EJ(φ:bI)(a a':Addr):Prop:=a.spot=Vc∧a'.spot=Vc∧∃p,φ a.block=Wf p∧a'.block=p.c∧a'.off=p.s+a.off
def Ck(φ:bI)(a:Addr)(n c:Nat)(a':Addr)(c':Nat):Prop:=
 (a.spot=Vc∧a'.spot=Vc∧∃p,φ a.block=Wf p∧a'.block=p.c∧a'.off=p.s+a.off∧abG p a.off c c')∨(a.spot=Vc∧n=0∧c=0∧c'=0∧∃p,φ a.block=Wf p)
mutual
def aC(φ:bI):vl->vl->Prop
 |.pointer (Wf a),v'=>∃a',v'=.pointer (Wf a')∧EJ φ a a'
 |.slice (Wf a) n c,v'=>∃a' c',v'=.slice (Wf a') n c'∧Ck φ a n c a' c'
 |.agg ⟨cs⟩,v'=>∃L7,v'=.agg ⟨L7⟩∧aE φ cs L7
 |.tuple ⟨cs⟩,v'=>∃L7,v'=.tuple ⟨L7⟩∧aE φ cs L7
 |.iface t v,v'=>∃u,v'=.iface t u∧aC φ v u
 |.func fn ⟨x⟩ ⟨y⟩,v'=>(match fn with|.yield _=>False|_=>True)∧∃x' y',v'=.func fn ⟨x'⟩ ⟨y'⟩∧aE φ x x'∧aE φ y y'
 |.chan (Wf _),v'=>∃a,v'=.pointer a
 |.map (Wf _),_=>False
 |v,v'=>v'=v
def aE(φ:bI):au->au->Prop
 |[],l'=>l'=[]
 |v::l,l'=>∃u r,l'=u::r∧aC φ v u∧aE φ l r
end
def gJ(φ φ':bI):Prop:=∀b p,φ b=Wf p->φ' b=Wf p
theorem gJ.refl(φ:bI):gJ φ φ:=λ_ _ h=>h
theorem gJ.trans{φ:bI}(h:gJ φ φ')(h':gJ φ' φ''):gJ φ φ'':=λb p hb=>h' b p (h b p hb)
theorem EJ.mono{φ:bI}(h:gJ φ φ'){a a':Addr}:EJ φ a a'->EJ φ' a a':=by rintro⟨h1,h2,p,hp,h3,h4⟩;exact⟨h1,h2,p,h _ _ hp,h3,h4⟩
theorem Ck.mono{φ:bI}(h:gJ φ φ'){a a':Addr}{c':Nat}:Ck φ a n c a' c'->Ck φ' a n c a' c':=by
 rintro(⟨h1,h2,p,hp,h3,h4⟩|⟨h1,h3,h4,h5,p,hp⟩)
 .exact .inl ⟨h1,h2,p,h _ _ hp,h3,h4⟩
 .exact .inr ⟨h1,h3,h4,h5,p,h _ _ hp⟩
mutual
theorem aC.mono{φ φ':bI}(h:gJ φ φ'):∀(v v':vl),aC φ v v'->aC φ' v v'
 | .pointer (Wf a),v',hv=>by
  grind[aC,EJ.mono]
 | .slice (Wf a) n c,v',hv=>by
  grind[aC,Ck.mono]
 | .agg ⟨cs⟩,v',hv=>by
  simp[aC]at hv ⊢;obtain⟨L7,e,r⟩:=hv;exact⟨L7,e,aE.mono h cs L7 r⟩
 | .tuple ⟨cs⟩,v',hv=>by
  simp[aC]at hv ⊢;obtain⟨L7,e,r⟩:=hv;exact⟨L7,e,aE.mono h cs L7 r⟩
 | .iface t v,v',hv=>by
  simp[aC]at hv ⊢;obtain⟨u,e,r⟩:=hv;exact⟨u,e,aC.mono h v u r⟩
 | .func fn ⟨x⟩ ⟨y⟩,v',hv=>by
  simp[aC]at hv ⊢;obtain⟨h0,x',y',e,r,q⟩:=hv;exact⟨h0,x',y',e,aE.mono h x x' r,aE.mono h y y' q⟩
 |.chan (Wf _),v',hv=>by trivial
 |.map (Wf _),_,hv=>by trivial
 |.bool _,_,hv=>by trivial
 |.int _ _,_,hv=>by trivial
 |.float _ _,_,hv=>by trivial
 |.complex _ _ _,_,hv=>by trivial
 |.string _,_,hv=>by trivial
 |.pointer Vc,_,hv=>by trivial
 |.slice Vc _ _,_,hv=>by trivial
 |.map Vc,_,hv=>by trivial
 |.chan Vc,_,hv=>by trivial
 |.nilFunc,_,hv=>by trivial
 |.nilIface,_,hv=>by trivial
theorem aE.mono{φ φ':bI}(h:gJ φ φ'):∀(l l':au),aE φ l l'->aE φ' l l'
 |[],l',hl=>by trivial
 | v::l,l',hl=>by
  simp[aE]at hl ⊢;obtain⟨u,r,e,hv,hr⟩:=hl;exact⟨u,r,e,aC.mono h v u hv,aE.mono h l r hr⟩
end
mutual
theorem aC.of_plain{φ:bI}:∀(v:vl),plain v=Th->∀v',aC φ v v'↔v'=v
 |.pointer (Wf a),h,_=>by trivial
 |.slice (Wf a) n c,h,_=>by trivial
 | .agg ⟨cs⟩,h,v'=>by
  simp[plain]at h;simp[aC];constructor
  .rintro⟨L7,rfl,r⟩;rw[(aE.of_plain cs h L7).1 r]
  .rintro rfl;exact⟨cs,rfl,(aE.of_plain cs h cs).2 rfl⟩
 | .tuple ⟨cs⟩,h,v'=>by
  simp[plain]at h;simp[aC];constructor
  .rintro⟨L7,rfl,r⟩;rw[(aE.of_plain cs h L7).1 r]
  .rintro rfl;exact⟨cs,rfl,(aE.of_plain cs h cs).2 rfl⟩
 | .iface t v,h,v'=>by
  simp[plain]at h;simp[aC];constructor
  .rintro⟨u,rfl,r⟩;rw[(aC.of_plain v h u).1 r]
  .rintro rfl;exact⟨v,rfl,(aC.of_plain v h v).2 rfl⟩
 | .func fn ⟨x⟩ ⟨y⟩,h,v'=>by
  simp[plain,Z7]at h;simp[aC];constructor
  .rintro⟨_,x',y',rfl,r,q⟩;rw[(aE.of_plain x h.1.2 x').1 r,(aE.of_plain y h.2 y').1 q]
  .rintro rfl;refine⟨?_,x,y,rfl,(aE.of_plain x h.1.2 x).2 rfl,(aE.of_plain y h.2 y).2 rfl⟩
   grind
 |.chan (Wf _),h,_=>by trivial
 |.map (Wf _),h,_=>by trivial
 |.bool _,_,_=>by rfl
 |.int _ _,_,_=>by rfl
 |.float _ _,_,_=>by rfl
 |.complex _ _ _,_,_=>by rfl
 |.string _,_,_=>by rfl
 |.pointer Vc,_,_=>by rfl
 |.slice Vc _ _,_,_=>by rfl
 |.map Vc,_,_=>by rfl
 |.chan Vc,_,_=>by rfl
 |.nilFunc,_,_=>by rfl
 |.nilIface,_,_=>by rfl
theorem aE.of_plain{φ:bI}:∀(l:au),eH l=Th->∀l',aE φ l l'↔l'=l
 |[],_,l'=>by rfl
 | v::l,h,l'=>by
  simp[eH,Z7]at h;simp[aE];constructor
  .rintro⟨u,r,rfl,hv,hr⟩;rw[(aC.of_plain v h.1 u).1 hv,(aE.of_plain l h.2 r).1 hr]
  .rintro rfl;exact⟨v,l,rfl,(aC.of_plain v h.1 v).2 rfl,(aE.of_plain l h.2 l).2 rfl⟩
end
theorem qB{φ:bI}:∀(l l':au),aE φ l l'↔(RW l)=RW l'∧∀(i:Nat)(v v':vl),l[i]?=Wf v->l'[i]?=Wf v'->aC φ v v'
 | [],l'=>by
  grind[aE]
 |v::l,[]=>by simp[aE]
 | v::l,u::r=>by
  simp only[aE,List.length_cons,Nat.add_right_cancel_iff];constructor
  .rintro⟨u',r',e,hv,hr⟩;obtain⟨rfl,rfl⟩:=List.cons.inj e;obtain⟨h1,h2⟩:=(qB l r).1 hr
   grind
  .rintro⟨h1,h2⟩;exact⟨u,r,rfl,h2 0 v u ac ac,(qB l r).2 ⟨h1,λi x x' hx hx'=>h2 (i+1) x x' cU cU⟩⟩
theorem aE.length{φ:bI}{l l':au}(h:aE φ l l'):RW l=RW l':=((qB l l').1 h).1
theorem aE.at{φ:bI}{l l':au}(h:aE φ l l'){v:vl}(hi:l[i]?=Wf v):∃v',l'[i]?=Wf v'∧aC φ v v':=by
 obtain⟨h1,h2⟩:=(qB l l').1 h
 have PJ:i<RW l:=by
  rcases Zi i (RW l) with h'|h'
  .exact h'
  .grind
 have:l'[i]?=Wf l'[i]:=List.getElem?_eq_getElem aa
 grind
theorem aE.none{φ:bI}{l l':au}(h:aE φ l l'){i:Nat}(hi:l[i]?=Vc):l'[i]?=Vc:=by grind[length]
theorem aE.nil(φ:bI):aE φ [] []:=by rfl
theorem aE.cons{φ:bI}{v:vl}{l r:au}(hv:aC φ v u)(h:aE φ l r):aE φ (v::l) (u::r):=by grind[aE]
theorem aE.append{φ:bI}:∀{l l' m m':au},aE φ l l'->aE φ m m'->aE φ (l++m) (l'++m')
 |[],l',m,m',h,hm=>by grind[aE]
 | v::l,l',m,m',h,hm=>by
  simp[aE]at h;obtain⟨u,r,rfl,hv,hr⟩:=h;exact aE.cons hv (aE.append hr hm)
theorem aE.take{φ:bI}(n:Nat){l l':au}(h:aE φ l l'):aE φ (l.take n) (l'.take n):=by grind[qB]
theorem aE.drop{φ:bI}(n:Nat){l l':au}(h:aE φ l l'):aE φ (l.drop n) (l'.drop n):=by grind[qB]
theorem aE.set{φ:bI}{l l':au}(h:aE φ l l')(i:Nat){v v':vl}(hv:aC φ v v'):aE φ (l.set i v) (l'.set i v'):=by
 rw[qB]at h ⊢;refine⟨ae,λj u u' hu hu'=>?_⟩;rw[List.getElem?_set]at hu hu';by_cases hij:i=j
 .subst hij;simp only[iT]at hu hu';split at hu
  .rw[ip aa]at hu'
   grind
  trivial
 grind
theorem aC.undef(φ:bI):aC φ undef undef:=(aC.of_plain _ rfl _).2 rfl
theorem aE.getD{φ:bI}{l l':au}(h:aE φ l l')(i:Nat):aC φ (l.getD i Go.undef) (l'.getD i Go.undef):=by
 simp[List.getD];cases hi:l[i]? with
 |none=>grind[none,aC.undef]
 | some v=>
  obtain⟨v',h1,h2⟩:=h.at hi
  grind
theorem aE.replicate{φ:bI}(n:Nat){v v':vl}(h:aC φ v v'):aE φ (So n v) (So n v'):=by
 induction n with
 |zero=>rfl
 |succ n ih=>grind[cons]
theorem aE.map{φ:bI}{α:Type}{f g:α->vl}(h:∀x,aC φ (f x) (g x)):∀(l:List α),aE φ (l.map f) (l.map g)
 |[]=>aE.nil φ
 |x::l=>aE.cons (h x) (aE.map h l)
theorem aC.okCell{φ:bI}{v v':vl}(h:aC φ v v')(hv:okCell v=Th):v'.oneCell'=Th:=by
 cases v<;>first
  |(simp[Am.okCell]at hv;done)
  |skip
 case pointer a=>cases a<;>simp[aC]at h<;>(try obtain⟨_,rfl,_⟩:=h)<;>(try subst h)<;>rfl
 case slice a _ _=>cases a<;>simp[aC]at h<;>(try obtain⟨_,_,rfl,_⟩:=h)<;>(try subst h)<;>rfl
 case chan a=>cases a<;>simp[aC]at h<;>(try obtain⟨_,rfl⟩:=h)<;>(try subst h)<;>rfl
 case map a=>cases a<;>simp[aC]at h<;>(try subst h)<;>rfl
 case iface t v=>simp[aC]at h;obtain⟨_,rfl,_⟩:=h;rfl
 case func fn x y=>obtain⟨x⟩:=x;obtain⟨y⟩:=y;simp[aC]at h;obtain⟨_,_,_,rfl,_⟩:=h;rfl
 all_goals(simp[aC]at h;subst h;rfl)
theorem aC.cells{φ:bI}{v v':vl}(h:aC φ v v'):aE φ v.cells.toList v'.cells.toList:=by
 cases v with
 | agg cs=>
  obtain⟨cs⟩:=cs;simp[aC]at h;obtain⟨L7,rfl,h⟩:=h;exact h
 |pointer a=>cases a<;>simp[aC]at h<;>(try obtain⟨_,rfl,h⟩:=h)<;>(try subst h)<;>exact aE.cons (by simp only[aC]<;>exact⟨_,rfl,h⟩) (aE.nil φ)
 |slice a _ _=>cases a<;>simp[aC]at h<;>(try obtain⟨_,_,rfl,h⟩:=h)<;>(try subst h)<;>exact aE.cons (by simp only[aC]<;>exact⟨_,_,rfl,h⟩) (aE.nil φ)
 | chan a=>cases a with
  |none=>simp[aC]at h;subst h;exact aE.cons aM (aE.nil φ)
  |some n=>simp[aC]at h;obtain⟨a,rfl⟩:=h;exact aE.cons (by simp[aC]) (aE.nil φ)
 |map a=>cases a<;>simp[aC]at h<;>(try subst h)<;>exact aE.cons aM (aE.nil φ)
 |iface t x=>simp[aC]at h;obtain⟨_,rfl,h⟩:=h;exact aE.cons (by grind[aC]) (aE.nil φ)
 |func fn x y=>obtain⟨x⟩:=x;obtain⟨y⟩:=y;simp[aC]at h;obtain⟨h0,_,_,rfl,h⟩:=h;exact aE.cons (by grind[aC]) (aE.nil φ)
 |tuple x=>obtain⟨x⟩:=x;simp[aC]at h;obtain⟨_,rfl,h⟩:=h;exact aE.cons (by grind[aC]) (aE.nil φ)
 |_=>simp[aC]at h;subst h;exact aE.cons (by simp[aC]) (aE.nil φ)
structure bB(X:dh)(φ:bI)(H:AH)(w:wO):Prop where
 glob:∀g,X.glob g=Th->∃p,φ g=Wf p∧p.c=g∧p.s=0
 dom:∀b p,φ b=Wf p->∃x cs e fz,H.get b=Wf x∧x.st≠0∧RW x.cells=p.nc∧x.exact=p.exact∧x.esz=p.esz∧w.heap[p.c]?=Wf (.cells cs e fz)∧cs.size=p.top∧p.s+p.nc<=p.top
 cell:∀b p x (i:Nat) (v:vl),φ b=Wf p->H.get b=Wf x->x.st=1->x.cells[i]?=Wf v->∃v',w.cell? ⟨p.c,p.s+i,Vc⟩=Wf v'∧aC φ v v'
 frz:∀b p x (i:Nat),φ b=Wf p->H.get b=Wf x->x.wr=Th->i<p.top->w.frozen? ⟨p.c,i,Vc⟩=SM
 sep:∀b b' p p' x x',φ b=Wf p->φ b'=Wf p'->H.get b=Wf x->H.get b'=Wf x'->x.st=1->x'.st=1->b≠b'->p.c=p'.c ->
  (x.wr=SM∧x'.wr=SM)∨(x.fam=x'.fam∧x.shared=Th∧x'.shared=Th∧p.s+x'.start=p'.s+x.start)
def Over(φ:bI)(H:AH)(c:Nat):Prop:=∃b p x,φ b=Wf p∧p.c=c∧H.get b=Wf x∧x.st=1∧x.wr=Th
structure cE(φ:bI)(H:AH)(w:wO)(φ':bI)(H':AH)(w':wO):Prop where
 le:gJ φ φ'
 size:w.heap.size<=w'.heap.size
 frame:∀c,c<w.heap.size->¬Over φ H c->w'.heap[c]?=w.heap[c]?
 new:∀b p,φ' b=Wf p->φ b=Vc->w.heap.size<=p.c∨Over φ H p.c
 back:∀b p x',φ b=Wf p->H'.get b=Wf x'->x'.st=1->x'.wr=Th->∃x,H.get b=Wf x∧x.st=1∧x.wr=Th
 abs:∀b x,φ' b=Vc->H.get b=Wf x->x.shared=SM->x.st≠0->H'.get b=Wf x
 os:w'.os=w.os
 out:w'.output=w.output
def cY(L:Nat)(r:Option Nat)(φ φ':bI):Prop:=∀b p,φ' b=Wf p->φ b=Vc->L<=b∨r=Wf b
theorem cY.refl(L:Nat)(r:Option Nat)(φ:bI):cY L r φ φ:=λb p h h'=>(by grind)
theorem cY.trans{φ:bI}(h:cY L Vc φ φ')(h':cY L' Vc φ' φ'')(hl:L<=L'):cY L Vc φ φ'':=λb p hb hn=>by
  cases hb':φ' b with
  | none => rcases h' b p hb hb' with g|g
            · omega
            · cases g
  |some q=>exact h b q hb' hn
theorem cE.refl(φ:bI)(H:AH)(w:wO):cE φ H w φ H w:=
 ⟨gJ.refl φ,Z8 _,λ_ _ _=>rfl,λb p h h'=>(by grind),λ_ _ x' _ h h1 h2=>⟨x',h,h1,h2⟩,λ_ _ _ h _ _=>h,rfl,rfl⟩
theorem cE.over{φ:bI}{H:AH}{w:wO}{H':AH}(h:cE φ H w φ' H' w')(hc:c<w.heap.size):Over φ' H' c->Over φ H c:=by
 rintro⟨b,p,x,hp,rfl,hx,h1,h2⟩;cases hb:φ b with
 | none=>
  rcases h.new b p hp hb with hs|ho
  .omega
  omega
 | some q=>
  have:=h.le b q hb;rw[hp]at this;cases this;obtain⟨y,hy,y1,y2⟩:=h.back b p x hb hx h1 h2;exact⟨b,p,y,hb,rfl,hy,y1,y2⟩
theorem cE.trans{φ:bI}{H:AH}{w:wO}{φ':bI}{H':AH}{w':wO}{φ'':bI}{H'':AH}{w'':wO}
  (h:cE φ H w φ' H' w') (h':cE φ' H' w' φ'' H'' w''):cE φ H w φ'' H'' w'' where
 os:=h'.os.trans h.os
 out:=h'.out.trans h.out
 le:=h.le.trans h'.le
 size:=Z1 h.size h'.size
 frame c hc ho:=by
  rw[h'.frame c (Z0 hc h.size) (λo=>ho (h.over hc o)),h.frame c hc ho]
 new b p hp hn:=by
  cases hb:φ' b with
  | none=>
   rcases h'.new b p hp hb with hs|ho
   .exact .inl (Z1 h.size hs)
   .by_cases hc:p.c<w.heap.size
    .grind[over]
    .exact .inl aa
  | some q=>
   have:=h'.le b q hb;rw[hp]at this;cases this;exact h.new b p hb hn
 back b p x' hp hx h1 h2:=by
  obtain⟨y,hy,y1,y2⟩:=h'.back b p x' (h.le b p hp) hx h1 h2
  grind[back]
 abs b x hn hx h1 h2:=by
  have:φ' b=Vc:=by
   cases hb:φ' b with
   |none=>rfl
   |some q=>rw[h'.le b q hb]at hn;cases hn
  grind[abs]
theorem bB.same_heap{X:dh}{φ:bI}{H:AH}{w:wO}(h:bB X φ H w)(e:w'.heap=w.heap):bB X φ H w' where
 glob:=h.glob
 dom b p hp:=by rw[e];exact h.dom b p hp
 cell b p x i v hp hx h1 hv:=by
  have:w'.cell?=w.cell?:=by funext a;simp[wO.cell?,e]
  rw[this];grind[cell]
 frz b p x i hp hx h1 hi:=by
  have:w'.frozen?=w.frozen?:=by funext a;simp[wO.frozen?,e]
  rw[this];grind[frz]
 sep:=h.sep
theorem cE.same_heap{φ:bI}{H:AH}{w:wO}(e:w'.heap=w.heap)(e1:w'.os=w.os:=by rfl)(e2:w'.output=w.output:=by rfl):cE φ H w φ H w' where
 os:=e1
 out:=e2
 le:=gJ.refl φ
 size:=by grind
 frame _ _ _:=by rw[e]
 new b p h h':=by grind
 back _ _ x' _ h h1 h2:=⟨x',h,h1,h2⟩
 abs _ _ _ h _ _:=h
structure Wk(H H':AH):Prop where
 to:∀b x,H.get b=Wf x->∃x',H'.get b=Wf x'∧x'.cells=x.cells∧x'.wr=x.wr∧x'.fam=x.fam∧x'.start=x.start∧x'.exact=x.exact∧x'.esz=x.esz∧(x'.st=x.st∨(x.st=1∧x'.st=2))∧(x.shared=Th->x'.shared=Th)
theorem Wk.trans{H H' H'':AH}(h:Wk H H')(h':Wk H' H''):Wk H H'':=⟨λb x hx=>by
 obtain⟨y,hy,e1,e2,e3,e4,e5,e6,e7,e8⟩:=h.to b x hx;obtain⟨z,hz,f1,f2,f3,f4,f5,f6,f7,f8⟩:=h'.to b y hy;refine⟨z,hz,f1.trans e1,f2.trans e2,f3.trans e3,f4.trans e4,f5.trans e5,f6.trans e6,?_,λhs=>f8 (e8 hs)⟩;rcases e7 with e|⟨e,e'⟩<;>rcases f7 with f|⟨f,f'⟩
 .omega
 .omega
 .omega
 .omega⟩
theorem Wk.kill(H:AH)(p:Nat->bv->Bool)(hp:∀b x,p b x=Th->x.st=1):Wk H (H.kill p):=⟨λb x hx=>by
 grind[AH.get_kill]⟩
theorem bB.weaken{X:dh}{φ:bI}{H H':AH}{w:wO}(h:bB X φ H w)(k:Wk H H'):bB X φ H' w:=by
 have key:∀b p x',φ b=Wf p->H'.get b=Wf x'->∃x,H.get b=Wf x∧x'.cells=x.cells∧x'.wr=x.wr∧x'.fam=x.fam∧x'.start=x.start∧(x'.st=1->x.st=1)∧(x.shared=Th->x'.shared=Th):=by
  intro b p x' hp hx';obtain⟨x,_,_,_,hx,_⟩:=h.dom b p hp;obtain⟨y,hy,e1,e2,e3,e4,e5,e6,e7,e8⟩:=k.to b x hx;rw[hx']at hy;cases hy;exact⟨x,hx,e1,e2,e3,e4,λh1=>by rcases e7 with e|⟨e,_⟩<;>omega,e8⟩
 refine⟨h.glob,?_,?_,?_,?_⟩
 .intro b p hp;obtain⟨x,cs,e,fz,hx,h1,h2,h3,h4,h5⟩:=h.dom b p hp;obtain⟨y,hy,e1,e2,e3,e4,e5,e6,e7,e8⟩:=k.to b x hx;exact⟨y,cs,e,fz,hy,by rcases e7 with e'|⟨_,e'⟩<;>omega,ae,ae,aa,h5⟩
 .grind[cell]
 .grind[frz]
 .intro b b' p p' x x' hp hp' hx hx' h1 h1' MT hc;obtain⟨y,hy,e1,e2,e3,e4,e5,e6⟩:=key b p x hp hx;obtain⟨y',hy',f1,f2,f3,f4,f5,f6⟩:=key b' p' x' hp' hx';rcases h.sep b b' p p' y y' hp hp' hy hy' (e5 h1) (f5 h1') MT hc with⟨g1,g2⟩|⟨g1,g2,g3,g4⟩
  .grind
  grind
theorem cE.weaken{φ:bI}{H H':AH}{w:wO}(hd:∀b p,φ b=Wf p->∃x,H.get b=Wf x)(k:Wk H H')(ka:∀b x,φ b=Vc->H.get b=Wf x->x.shared=SM->H'.get b=Wf x):cE φ H w φ H' w where
 os:=rfl
 out:=rfl
 le:=gJ.refl φ
 size:=Z8 _
 frame _ _ _:=rfl
 new b p h h':=by grind
 back b p x' hp hx' h1 h2:=by
  obtain⟨x,hx⟩:=hd b p hp;obtain⟨y,hy,e1,e2,e3,e4,e5,e6,e7,e8⟩:=k.to b x hx;rw[hx']at hy;cases hy;exact⟨x,hx,by rcases e7 with e|⟨e,_⟩<;>omega,e2▸h2⟩
 abs b x hn hx h1 _:=ka b x hn hx h1
def nS(φ:bI)(b:Nat)(p:Pl):bI:=λi=>if i=b then Wf p else φ i
theorem kL(φ:bI)(b:Nat)(p:Pl):nS φ b p b=Wf p:=by simp[nS]
theorem jF{φ:bI}(h:i≠b):nS φ b p i=φ i:=by simp[nS,h]
theorem gJ.add{φ:bI}(h:φ b=Vc):gJ φ (nS φ b p):=λi q hi=>by
 grind[jF]
theorem aoX{w:wO}(h:w.heap[c]?=Wf (.cells cs e fz)):w.cell? ⟨c,i,Vc⟩=cs[i]?:=by simp[wO.cell?,h]
theorem heap_alloc_new(w:wO)(o:Obj):(w.alloc o).heap[w.heap.size]?=Wf o:=by
 show(w.heap.push o)[w.heap.size]?=Wf o
 simp
theorem heap_alloc_old{w:wO}{o:Obj}(h:c<w.heap.size):(w.alloc o).heap[c]?=w.heap[c]?:=by
 show(w.heap.push o)[c]?=w.heap[c]?
 grind
theorem lt_of_heap{w:wO}{o:Obj}(h:w.heap[c]?=Wf o):c<w.heap.size:=by grind
theorem bB.lt{X:dh}{φ:bI}{H:AH}{w:wO}(h:bB X φ H w)(hp:φ b=Wf p):p.c<w.heap.size:=by
 obtain⟨_,_,_,_,_,_,_,_,_,h5,_⟩:=h.dom b p hp
 grind
theorem bB.newF{X:dh}{φ:bI}{H H':AH}{w:wO}(h:bB X φ H w){b:Nat}{x:bv}(hb:φ b=Vc)
  (hx:H'.get b=Wf x) (ho:∀i,i≠b->H'.get i=H.get i) (DB:x.st=1) {cs:Array vl} {e:tI} (fz:Nat×Nat) (hfz:∀i,i<cs.size->¬(fz.1<=i∧i<fz.2))
  (hl:RW x.cells<=cs.size) (hr:∀(i:Nat)(v:vl),x.cells[i]?=Wf v->∃v',cs[i]?=Wf v'∧aC φ v v') :
  bB X (nS φ b ⟨w.heap.size,0,x.cells.length,x.esz,cs.size,x.exact⟩) H' (w.alloc (.cells cs e fz)) ∧
  cE φ H w (nS φ b ⟨w.heap.size,0,x.cells.length,x.esz,cs.size,x.exact⟩) H' (w.alloc (.cells cs e fz)):=by
 have Fm:gJ φ (nS φ b ⟨w.heap.size,0,x.cells.length,x.esz,cs.size,x.exact⟩):=gJ.add hb;have MT:∀{i p},φ i=Wf p->i≠b:=λhi e=>by grind
 refine⟨⟨?_,?_,?_,?_,?_⟩,⟨Fm,ac,?_,?_,?_,?_,rfl,rfl⟩⟩
 .intro g hg;obtain⟨p,hp,h1⟩:=h.glob g hg;exact⟨p,Fm g p hp,h1⟩
 .intro i p hp;by_cases e':i=b
  .subst e';rw[kL]at hp;cases hp;exact⟨x,cs,e,fz,hx,aa,rfl,rfl,rfl,heap_alloc_new w _,rfl,ae⟩
  .rw[jF e']at hp;obtain⟨y,L7,e2,fz,h0,h1,h2,h3,h4,h5,h6⟩:=h.dom i p hp
   grind[heap_alloc_old]
 .intro i p y k v hp hy h1 hv;by_cases e':i=b
  .subst e';rw[kL]at hp;cases hp
   grind[aoX,heap_alloc_new,aC.mono]
  .rw[jF e']at hp;rw[ho i e']at hy;obtain⟨v',hv',hr'⟩:=h.cell i p y k v hp hy h1 hv;exact⟨v',by rw[wO.cell?_alloc_lt _ _ _ (h.lt hp)];omega,aC.mono Fm v v' hr'⟩
 .intro i p y k hp hy h1 hk;by_cases e':i=b
  .grind[kL,wO.frozen?,heap_alloc_new]
  .rw[jF e']at hp;rw[ho i e']at hy;rw[wO.frozen?_alloc_old _ _ _ (Nat.ne_of_lt (h.lt hp))]
   grind[frz]
 .intro i i' p p' y y' hp hp' hy hy' h1 h1' hne' hc;by_cases e1:i=b
  .subst e1;rw[kL]at hp;cases hp;have e2:i'≠i:=λe=>hne' e.symm
   rw[jF e2]at hp';have:=h.lt hp'
   grind
  .by_cases e2:i'=b
   .subst e2;rw[kL]at hp';cases hp';rw[jF e1]at hp;have:=h.lt hp
    grind
   grind[jF,sep]
 .grind[heap_alloc_old]
 .grind[kL,jF]
 .grind
 grind[kL]
theorem bB.new{X:dh}{φ:bI}{H H':AH}{w:wO}(h:bB X φ H w){b:Nat}{x:bv}(hb:φ b=Vc)
  (hx:H'.get b=Wf x) (ho:∀i,i≠b->H'.get i=H.get i) (DB:x.st=1) {cs:Array vl} {e:tI}
  (hl:RW x.cells<=cs.size) (hr:∀(i:Nat)(v:vl),x.cells[i]?=Wf v->∃v',cs[i]?=Wf v'∧aC φ v v') :
  bB X (nS φ b ⟨w.heap.size,0,x.cells.length,x.esz,cs.size,x.exact⟩) H' (w.alloc (.cells cs e)) ∧
  cE φ H w (nS φ b ⟨w.heap.size,0,x.cells.length,x.esz,cs.size,x.exact⟩) H' (w.alloc (.cells cs e)):=
 h.newF hb hx ho DB (0,0) (λ_ _=>by simp) hl hr
theorem heap_setCell_other{w:wO}{a:Addr}{v:vl}(h:c≠a.block):(w.setCell a v).heap[c]?=w.heap[c]?:=by grind[wO.setCell]
theorem heap_setCell_same{w:wO}{o:Nat}{v:vl}(h:w.heap[b]?=Wf (.cells cs e fz)):
  (w.setCell ⟨b,o,Vc⟩ v).heap[b]?=Wf (.cells (cs.setIfInBounds o v) e fz):=by grind[wO.setCell]
theorem heap_setCells_other{b c:Nat}(h:c≠b):∀(vs:au)(o:Nat)(w:wO),(w.setCells b o vs).heap[c]?=w.heap[c]?
 |[],_,_=>rfl
 |v::r,o,w=>by rw[wO.setCells,heap_setCells_other h r,heap_setCell_other aa]
theorem DX{b:Nat}{e:tI}{fz:Nat×Nat}:∀(vs:au)(o:Nat)(w:wO)(cs:Array vl),w.heap[b]?=Wf (.cells cs e fz) ->
  ∃L7,(w.setCells b o vs).heap[b]?=Wf (.cells L7 e fz)∧L7.size=cs.size
 |[],_,_,cs,h=>⟨cs,h,rfl⟩
 | v::r,o,w,cs,h=>by
  obtain⟨L7,h1,h2⟩:=DX r (o+1) _ _ (heap_setCell_same (o:=o) (v:=v) h);exact⟨L7,h1,ae⟩
theorem size_setCells(b:Nat):∀(vs:au)(o:Nat)(w:wO),(w.setCells b o vs).heap.size=w.heap.size
 |[],_,_=>rfl
 |v::r,o,w=>by rw[wO.setCells,size_setCells b r,wO.size_setCell]
theorem os_setCells(b:Nat):∀(vs:au)(o:Nat)(w:wO),(w.setCells b o vs).os=w.os
 |[],_,_=>rfl
 |v::r,o,w=>by rw[wO.setCells,os_setCells b r];rfl
theorem Lr(b:Nat):∀(vs:au)(o:Nat)(w:wO),(w.setCells b o vs).output=w.output
 |[],_,_=>rfl
 |v::r,o,w=>by rw[wO.setCells,Lr b r];rfl
theorem cell_of_heap{w:wO}(h:w.heap[c]?=Wf (.cells cs e fz)):w.cell? ⟨c,i,Vc⟩=cs[i]?:=by simp[wO.cell?,h]
theorem aek(l:au)(off:Nat)(vs:au)(h:off+RW vs<=RW l)(i:Nat):
  (splice l off vs)[i]?=if i<off then l[i]? else if i<off+RW vs then vs[i-off]? else l[i]?:=by
 unfold splice;rw[List.append_assoc,List.getElem?_append];have PJ:RW (l.take off)=off:=by simp;omega
 rw[PJ];by_cases h1:i<off
 .rw[ip h1,ip h1,List.getElem?_take_of_lt h1]
 .rw[iN h1,iN h1,List.getElem?_append];by_cases h2:i<off+RW vs
  .rw[ip aa,ip h2]
  .rw[iN aa,iN h2,List.getElem?_drop]
   grind
theorem J8(l:au)(off:Nat)(vs:au)(h:off+RW vs<=RW l):RW (splice l off vs)=RW l:=by grind[splice]
theorem bB.write{X:dh}{φ:bI}{H H':AH}{w:wO}(h:bB X φ H w){b off:Nat}{vs vs':au}(hw:kf H b off vs=Wf H')
  {p:Pl} (hp:φ b=Wf p) (hv:aE φ vs vs') :
  bB X φ H' (w.setCells p.c (p.s+off) vs')∧cE φ H w φ H' (w.setCells p.c (p.s+off) vs') ∧
  (∀j,j<RW vs'->(w.cell? ⟨p.c,p.s+off+j,Vc⟩).isSome=Th)∧(∀j,j<RW vs'->w.frozen? ⟨p.c,p.s+off+j,Vc⟩=SM)∧(∀v∈vs',v.oneCell'=Th):=by
 obtain⟨x,cs,e,fz,hx,h1,h2,h3,h4,h5,h6,h7⟩:=h.dom b p hp;unfold kf at hw;rw[hx]at hw;simp only at hw;split at hw
 case isFalse=>cases hw
 case isTrue hc=>
 obtain⟨c1,c2,c3,c4⟩:=hc;cases hw;have Rg:=hv.length
 have hsome:∀j,j<RW vs'->(w.cell? ⟨p.c,p.s+off+j,Vc⟩).isSome=Th:=by
  intro j hj;rw[cell_of_heap h5,Array.getElem?_eq_getElem aa];rfl
 have hfz:∀j,j<RW vs'->w.frozen? ⟨p.c,p.s+off+j,Vc⟩=SM:=λj hj=>h.frz b p x _ hp hx c2 aa
 have hone:∀v∈vs',v.oneCell'=Th:=by
  intro v hvm;obtain⟨j,hj,rfl⟩:=Wi hvm;have hj':j<RW vs:=aa;have hr:=((qB vs vs').1 hv).2 j vs[j] vs'[j] (List.getElem?_eq_getElem hj') (List.getElem?_eq_getElem hj);exact hr.okCell (Zz.1 c4 _ (X2 hj'))
 -- the heap behind the kill
 have hkill:∀(i:Nat),i≠b->((if x.shared then H.kill (kin b x.fam)else H).set b {x with cells:=splice x.cells off vs,ver:=x.ver+1,shared:=SM}).get i =
   (H.get i).map λy=>if x.shared&&kin b x.fam i y then{y with st:=2,ver:=y.ver+1}else y:=by
  intro i hi;cases hs:x.shared with
  | false=>
   grind[AH.get_set,AH.get]
  | true=>
   simp[iT,X5];have hxk:∃y,(H.kill (kin b x.fam)).get b=Wf y:=by rw[AH.get_kill,hx];exact⟨_,rfl⟩
   grind[AH.get_set,AH.get_kill]
 have hself:((if x.shared then H.kill (kin b x.fam)else H).set b {x with cells:=splice x.cells off vs,ver:=x.ver+1,shared:=SM}).get b=Wf {x with cells:=splice x.cells off vs,ver:=x.ver+1,shared:=SM}:=by
  have hxk:∃y,(if x.shared then H.kill (kin b x.fam)else H).get b=Wf y:=by
   split
   .grind[AH.get_kill]
   .grind
  obtain⟨y,hy⟩:=hxk;rw[AH.get_set hy,ip rfl]
 -- what another block is,in H
 have hother:∀i y',i≠b->((if x.shared then H.kill (kin b x.fam)else H).set b {x with cells:=splice x.cells off vs,ver:=x.ver+1,shared:=SM}).get i=Wf y' ->
   ∃y,H.get i=Wf y∧y'.cells=y.cells∧y'.wr=y.wr∧y'.fam=y.fam∧y'.start=y.start∧y'.exact=y.exact∧y'.esz=y.esz∧y'.shared=y.shared∧(y'.st=1->y.st=1∧(x.shared&&kin b x.fam i y)=SM)∧(y.st≠0->y'.st≠0):=by
  intro i y' hi hy';rw[hkill i hi]at hy';cases hy:H.get i with
  |none=>grind
  | some y=>
   rw[hy]at hy';simp only[Option.map_some,Z9]at hy';subst hy';by_cases hk:(x.shared&&kin b x.fam i y)=Th
   .simp only[hk,iT];exact⟨y,rfl,rfl,rfl,rfl,rfl,rfl,rfl,rfl,λh=>by omega,λ_=>by simp⟩
   grind
 -- a live block beside b lies over another block of the world
 have hapart:∀i q y,i≠b->φ i=Wf q->H.get i=Wf y->y.st=1->(x.shared&&kin b x.fam i y)=SM->q.c≠p.c:=by
  intro i q y hi hq hy hy1 hk hc;rcases h.sep b i p q x y hp hq hx hy c1 hy1 (λe=>hi e.symm) hc.symm with⟨g,_⟩|⟨g1,g2,g3,_⟩
  .grind
  .grind[kin]
 refine⟨⟨h.glob,?_,?_,?_,?_⟩,⟨gJ.refl φ,by simp[size_setCells],?_,λi q hi hn=>(by grind),?_,?_,os_setCells ..,Lr ..⟩,hsome,hfz,hone⟩
 .intro i q hq;by_cases hi:i=b
  .subst hi;rw[hp]at hq;cases hq;obtain⟨L7,g1,g2⟩:=DX vs' (p.s+off) w cs h5;exact⟨_,L7,e,fz,hself,h1,by grind[J8],h3,h4,g1,aa,h7⟩
  .obtain⟨y,cs2,e2,fz2,y1,y2,y3,y4,y5,y6,y7,y8⟩:=h.dom i q hq;have hz:=hkill i hi;rw[y1]at hz;simp only[Option.map_some]at hz;generalize hy':(if(x.shared&&kin b x.fam i y)=Th then{y with st:=2,ver:=y.ver+1}else y)=y' at hz
   have F:y'.st≠0∧y'.cells=y.cells∧y'.exact=y.exact∧y'.esz=y.esz:=by
    subst hy';by_cases hk:(x.shared&&kin b x.fam i y)=Th
    .rw[ip hk];exact⟨ac,rfl,rfl,rfl⟩
    .grind
   obtain⟨F1,F2,F3,F4⟩:=F;by_cases hc:q.c=p.c
   .rw[hc]at y6;obtain⟨L7,g1,g2⟩:=DX vs' (p.s+off) w cs2 y6;exact⟨y',L7,e2,fz2,hz,F1,ae,ae,aa,ae,aa,y8⟩
   grind[heap_setCells_other]
 .intro i q y' k v hq hy' DB hv';by_cases hi:i=b
  .subst hi;rw[hp]at hq;cases hq;rw[hself]at hy';cases hy';simp only at hv';rw[aek _ _ _ c3]at hv';by_cases k1:k<off
   .grind[cell,wO.cell?_setCells_out]
   .rw[iN k1]at hv';by_cases k2:k<off+RW vs
    .rw[ip k2]at hv';have hj:k-off<RW vs':=aa
     grind[wO.cell?_setCells_in,qB]
    grind[cell,wO.cell?_setCells_out]
  grind[cell,wO.cell?_setCells_out]
 .grind[wO.frozen?_setCells,frz]
 .intro i i' q q' y y' hq hq' hy hy' DB hst' MT hc;by_cases hi:i=b
  .grind
  .by_cases DE:i'=b
   .grind
   .obtain⟨z,hz,_,a2,a3,a4,_,_,a7,a8,_⟩:=hother i y hi hy;obtain⟨z',hz',_,b2,b3,b4,_,_,b7,b8,_⟩:=hother i' y' DE hy';rcases h.sep i i' q q' z z' hq hq' hz hz' (a8 DB).1 (b8 hst').1 MT hc with⟨g1,g2⟩|⟨g1,g2,g3,g4⟩
    .grind
    grind
 .intro c hc ho;refine heap_setCells_other (λe=>ho ⟨b,p,x,hp,e.symm,hx,c1,c2⟩) _ _ _
 .grind
 .intro i y hn hy hs _;have hi:i≠b:=λe=>by grind
  rw[hkill i hi,hy];have:(x.shared&&kin b x.fam i y)=SM:=by simp[kin,hs]
  grind
theorem bB.read{X:dh}{φ:bI}{H:AH}{w:wO}(h:bB X φ H w){cs:au}(hr:cX H b off n=Wf cs)(hp:φ b=Wf p):
  ∃L7,aE φ cs L7∧RW L7=n∧RW cs=n∧∀(j:Nat)(v:vl),L7[j]?=Wf v->w.cell? (Addr.add ⟨p.c,p.s+off,Vc⟩ j)=Wf v:=by
 obtain⟨x,cs0,e,fz,hx,h1,h2,h3,h4,h5,h6,h7⟩:=h.dom b p hp;unfold cX at hr;rw[hx]at hr;simp only at hr;split at hr
 case isFalse=>cases hr
 case isTrue hc=>
 obtain⟨c1,c2⟩:=hc;cases hr;refine⟨(cs0.toList.drop (p.s+off)).take n,?_,ae,ae,?_⟩
 .rw[qB];refine⟨ae,λj v v' hv hv'=>?_⟩;rw[List.getElem?_take]at hv hv';split at hv
  .rw[ip aa]at hv';rw[List.getElem?_drop]at hv hv';obtain⟨u,g1,g2⟩:=h.cell b p x _ v hp hx c1 hv;rw[cell_of_heap h5]at g1;rw[show p.s+off+j=p.s+(off+j) by omega]at hv'
   grind
  trivial
 .intro j v hv;rw[List.getElem?_take]at hv;split at hv
  .rw[List.getElem?_drop,Array.getElem?_toList]at hv;have:Addr.add ⟨p.c,p.s+off,Vc⟩ j=⟨p.c,p.s+off+j,Vc⟩:=by unfold Addr.add;split<;>simp_all
   grind[cell_of_heap]
  trivial
theorem AN{α:Type}(P:pG):∀(s:Sem α)(a:α),pv P s=Wf a->∀w:wO,s.run P w=.ok a w
 |.pure a,b,h,w=>by simp_all[pv]
 |.program k,b,h,w=>by simp[pv]at h;exact AN P (k P) b h w
 |.load _ _ _,_,h,_=>by trivial
 |.store _ _ _ _,_,h,_=>by trivial
 |.new _ _,_,h,_=>by trivial
 |.shape _ _,_,h,_=>by trivial
 |.freeze _ _ _,_,h,_=>by trivial
 |.frozen _ _,_,h,_=>by trivial
 |.getObj _ _,_,h,_=>by trivial
 |.setObj _ _ _,_,h,_=>by trivial
 |.choose _ _,_,h,_=>by trivial
 |.sys _ _,_,h,_=>by trivial
 |.mark _ _,_,h,_=>by trivial
 |.halt _,_,h,_=>by trivial
def t8:oP->Bool
 |.const v=>plain v
 |_=>Th
variable{X:dh}{φ:bI}{H:AH}{w:wO}
theorem dE(h:bB X φ H w){a:au}(ha:aE φ a LT.tmps.toList){x:oP}(hx:t8 x=Th):aC φ (ev X a x) (LT.eval x):=by
 cases x with
 | tmp t=>
  have:=ha.getD t
  grind[ev,qm,Act.eval,Za]
 |const v=>exact(aC.of_plain v hx v).2 rfl
 | global g=>
  simp[ev,Act.eval];split
  .rename_i hg;obtain⟨p,hp,h1,h2⟩:=h.glob g hg;simp only[aC];exact⟨_,rfl,rfl,rfl,p,hp,h1.symm,aa⟩
  simp[abp,aC]
 | func f=>
  grind[ev,Act.eval,aC,aE.nil]
theorem vU(h:aC φ (.pointer (Wf ⟨b,off,Vc⟩)) v'):∃p,φ b=Wf p∧v'=.pointer (Wf ⟨p.c,p.s+off,Vc⟩):=by
 simp[aC]at h;obtain⟨⟨b',o',s'⟩,rfl,_,h2,p,hp,h3,h4⟩:=h
 grind
theorem AP(hp:φ b=Wf p):aC φ (.pointer (Wf ⟨b,off,Vc⟩)) (.pointer (Wf ⟨p.c,p.s+off,Vc⟩)):=by simp only[aC];exact⟨_,rfl,rfl,rfl,p,hp,rfl,rfl⟩
theorem t6{k:iK}{n:Int}(h:aC φ (.int k n) v'):v'=.int k n:=by trivial
theorem Gi{b:Bool}(h:aC φ (.bool b) v'):v'=.bool b:=by trivial
theorem AM(h:aC φ (.string s) v'):v'=.string s:=by trivial
theorem oz{k:iK}{n:Int}:aC φ (.int k n) (.int k n):=by rfl
theorem J3:aC φ (.string s) (.string s):=by rfl
theorem Sy(h:aC φ (.agg cs) v'):∃L7,v'=.agg L7∧aE φ cs.toList L7.toList:=by
 obtain⟨cs⟩:=cs
 grind[aC]
theorem Jf(h:aE φ cs.toList L7.toList):aC φ (.agg cs) (.agg L7):=by
 obtain⟨cs⟩:=cs
 grind[aC]
theorem kT(h:cn P t=Wf n)(w:wO):(sizeOf t).run P w=.ok n w:=by
 unfold cn at h;cases hi:P.info? t with
 |none=>grind
 |some i=>simp_all[sizeOf,typeInfo]
theorem zC{z:vl}(h:fX P t=Wf z)(w:wO):(zeroValue t).run P w=.ok z w:=by
 unfold fX at h;cases hi:P.info? t with
 |none=>grind
 |some i=>simp_all[zeroValue,typeInfo]
theorem HR{z:vl}(h1:cn P t=Wf n)(h2:fX P t=Wf z)(h3:qu P t=Wf b):∃i,P.info? t=Wf i∧i.size=n∧i.zero=Wf z∧i.bytes=b:=by
 unfold cn at h1;unfold fX at h2;unfold qu at h3;cases hi:P.info? t with
 |none=>grind
 |some i=>grind
theorem cT{d:TypeDesc}(h:P.underlying t=Wf d)(w:wO):(underlying t).run P w=.ok d w:=run_underlying h w
theorem qy(b o n:Nat):Addr.add ⟨b,o,Vc⟩ n=⟨b,o+n,Vc⟩:=by simp[Addr.add]
theorem amo{f:Nat}{v:vl}(hv:BO X.P t x f=Wf v)(hx:aC φ x x'):
  ∃v',(Instr.fieldAt t x' f).run X.P w=.ok v' w∧aC φ v v':=by
 unfold BO at hv;split at hv
 .rename_i fs b off hu;split at hv
  .rename_i fd hf;split at hv
   .rename_i n hn;simp[Z9]at hv;subst hv;obtain⟨p,hp,rfl⟩:=vU hx
    simp_all[AP,Instr.fieldAt,Instr.sureAddr,fieldPlace,qy,Xl,cT,kT]
   trivial
  trivial
 trivial
theorem oh{a:Addr}(h:aC φ (.slice (Wf a) n c) v'):∃a' c',v'=.slice (Wf a') n c'∧Ck φ a n c a' c':=by trivial
theorem sy(h:aC φ (.slice Vc n c) v'):v'=.slice Vc n c:=by trivial
theorem akR{i:vl}{v:vl}(hv:sS X.P t x i=Wf v)(hx:aC φ x x')(hi:aC φ i i'):
  ∃v',(Instr.indexAt t x' i').run X.P w=.ok v' w∧aC φ v v':=by
 unfold sS at hv;split at hv
 .rename_i e b off len cap kd k hu;split at hv
  .rename_i n hn;split at hv
   .rename_i hk;simp[Z9]at hv;subst hv;obtain rfl:=t6 hi;obtain⟨⟨b',o',s'⟩,c',rfl,hs⟩:=oh hx;rcases hs with⟨_,h2,p,hp,h3,h4,_⟩|⟨_,_,h0,_⟩
    .simp only at h2 h3 h4;subst h2;subst h3;subst h4;refine⟨_,?_,AP hp⟩;simp[Instr.indexAt,asIntOf,cT hu,hk,kT hn,qy,Xl]
    .omega
   trivial
  trivial
 .rename_i len e b off kd k hu;split at hv
  .rename_i n hn;split at hv
   .rename_i hk;simp[Z9]at hv;subst hv;obtain rfl:=t6 hi;obtain⟨p,hp,rfl⟩:=vU hx;refine⟨_,?_,AP hp⟩;simp[Instr.indexAt,asIntOf,cT hu,hk,kT hn,qy,Xl,Instr.sureAddr]
   trivial
  trivial
 trivial
theorem S4{v:vl}(hv:AS X.P t cs.toList off=Wf v)(hc:aE φ cs.toList L7.toList):
  ∃v',(part t L7 off).run X.P w=.ok v' w∧aC φ v v':=by
 have agg:∀{d:TypeDesc}{n:Nat},X.P.underlying t=Wf d->(match d with|.struct _|.array _ _=>True|_=>False)->cn X.P t=Wf n ->
   ∃v',(part t L7 off).run X.P w=.ok v' w∧aC φ (.agg ((cs.toList.drop off).take n).toArray) v':=by
  intro d n hu hd hn;refine⟨.agg (L7.extract off (off+n)),?_,Jf ?_⟩
  .cases d<;>simp at hd<;>simp[part,isAgg,cT hu,kT hn]
  .have:(L7.extract off (off+n)).toList=(L7.toList.drop off).take n:=by simp[List.extract_eq_take_drop]
   grind[aE.take,aE.drop]
 unfold AS at hv;split at hv
 .rename_i fs hu;cases hn:cn X.P t with
  |none=>grind
  |some n=>grind
 .rename_i len e hu;cases hn:cn X.P t with
  |none=>grind
  |some n=>grind
 .rename_i d jz hd2 hu;obtain⟨v',h1,h2⟩:=hc.at hv;refine⟨v',?_,h2⟩;rw[Array.getElem?_toList]at h1
  cases d<;>first
   |(exact absurd rfl (jz _);done)
   |(exact absurd rfl (hd2 _ _);done)
   |simp[part,isAgg,cT hu,h1]
 trivial
theorem amn{f:Nat}{v:vl}(hv:D4 X.P t x f=Wf v)(hx:aC φ x x'):
  ∃v',(Instr.field t x' f).run X.P w=.ok v' w∧aC φ v v':=by
 unfold D4 at hv;split at hv
 .rename_i fs cs hu;split at hv
  .rename_i fd hf;obtain⟨L7,rfl,hc⟩:=Sy hx;obtain⟨v',h1,h2⟩:=S4 (w:=w) hv hc
   simp_all[Instr.field,asAgg,cT]
  trivial
 trivial
theorem akQ{i:vl}{v:vl}(hv:yR X.P t x i=Wf v)(hx:aC φ x x')(hi:aC φ i i'):
  ∃v',(Instr.index t x' i').run X.P w=.ok v' w∧aC φ v v':=by
 unfold yR at hv;split at hv
 .rename_i len e cs kd k hu;split at hv
  .rename_i n hn;split at hv
   .rename_i hk;obtain rfl:=t6 hi;obtain⟨L7,rfl,hc⟩:=Sy hx;obtain⟨v',h1,h2⟩:=S4 (w:=w) hv hc
    simp_all[Instr.index,asIntOf,cT,kT]
   trivial
  trivial
 .rename_i s kd k hu;split at hv
  .rename_i hk;obtain rfl:=t6 hi;obtain rfl:=AM hx;cases hb:s[k.toNat]? with
   |none=>grind
   | some b=>
    simp[hb]at hv;subst hv
    simp_all[Instr.index,asIntOf,cT,oz]
  trivial
 trivial
theorem amz{v:vl}{vs:Array vl}(hx0:x=.tuple vs)(hv:vs[i]?=Wf v)(hx:aC φ x x'):
  ∃v',(Instr.extract x' i).run X.P w=.ok v' w∧aC φ v v':=by subst hx0;obtain⟨vs⟩:=vs;simp[aC]at hx;obtain⟨vs',rfl,hl⟩:=hx;obtain⟨v',h1,h2⟩:=hl.at (by simpa using hv);exact⟨v',by simp[Instr.extract,h1],h2⟩
theorem XI(off:Nat):∀(l l':au)(k:Nat)(cs L7:Array vl),aE φ l l'->aE φ cs.toList L7.toList ->
  aE φ ((l.zipIdx k).foldl (λ(cs:Array vl)(x:vl×Nat)=>cs.setIfInBounds (off+x.2) x.1) cs).toList
   ((l'.zipIdx k).foldl (λ(cs:Array vl)(x:vl×Nat)=>cs.setIfInBounds (off+x.2) x.1) L7).toList
 |[],l',k,cs,L7,hl,hc=>by simp_all[aE]
 | v::l,l',k,cs,L7,hl,hc=>by
  simp[aE]at hl;obtain⟨u,r,rfl,hv,hr⟩:=hl;simp[List.zipIdx_cons,List.foldl_cons];refine XI off l r (k+1) _ _ hr ?_
  grind[aE.set]
theorem Ij(KK:Nat->Option (Nat×Nat)):∀(l l':List (Nat×vl))(cs L7 r:Array vl),l.map (·.1)=l'.map (·.1)->aE φ (l.map (·.2)) (l'.map (·.2))->aE φ cs.toList L7.toList ->
  Instr.fill KK cs l=Wf r->∃r',Instr.fill KK L7 l'=Wf r'∧aE φ r.toList r'.toList
 | [],l',cs,L7,r,h1,_,hc,h=>by
  simp_all[Instr.fill]
 |(i,v)::l,[],_,_,_,h1,_,_,_=>by simp at h1
 | (i,v)::l,(i',v')::l',cs,L7,r,h1,h2,hc,h=>by
  simp[Zv,List.cons.injEq]at h1;obtain⟨rfl,h1⟩:=h1;simp only[Zv,aE]at h2;obtain⟨u,q,e,hv,h2⟩:=h2;obtain⟨rfl,rfl⟩:=List.cons.inj e;have hcells:=hv.cells;have hsz:v.cells.size=v'.cells.size:=by simpa using hcells.length
  have hcs:cs.size=L7.size:=by simpa using hc.length
  unfold Instr.fill at h ⊢;split at h
  .cases h
  .rename_i off size hp;split at h
   .cases h
   .rename_i hn;rw[<-hsz,<-hcs,iN hn]
    have hf:∀(z:Array vl)(c:Array vl),(z.zipIdx.foldl (λ(cs:Array vl)(x:vl×Nat)=>match x with|(c,j)=>cs.setIfInBounds (off+j) c) c)=(z.toList.zipIdx.foldl (λ(cs:Array vl)(x:vl×Nat)=>cs.setIfInBounds (off+x.2) x.1) c):=by
     intro z c;rw[<-Array.foldl_toList,Array.toList_zipIdx]
    rw[hf]at h ⊢;exact Ij KK l l' _ _ r h1 h2 (XI off _ _ 0 _ _ hcells hc) h
theorem Uj{P:pG}(w:wO):∀(fs:List Field),(∀f∈fs,(cn P f.type).isSome=Th) ->
  (fs.mapM (λf=>Prod.mk f.offset <$> sizeOf f.type)).run P w=.ok (fs.map λf=>(f.offset,(cn P f.type).getD 0)) w
 |[],_=>by simp
 | f::fs,h=>by
  obtain⟨n,hn⟩:=Option.isSome_iff_exists.1 (h f ac);have ih:=Uj (P:=P) w fs (λg hg=>h g ae)
  simp_all[kT]
theorem apl{t:tI}{ps ps':Array (Nat×vl)}{v:vl}(hv:zo X.P t ps=Wf v)
  (h1:ps.toList.map (·.1)=ps'.toList.map (·.1)) (h2:aE φ (ps.toList.map (·.2)) (ps'.toList.map (·.2))) :
  ∃v',(Instr.build t ps').run X.P w=.ok v' w∧aC φ v v':=by
 unfold zo at hv;split at hv
 .rename_i z fs hz hu;split at hv
  .rename_i hc;simp only[Z7]at hc;obtain⟨DP,hall⟩:=hc;simp only[Z3]at hv;obtain⟨r,hr,rfl⟩:=hv;have hzc:aE φ z.cells.toList z.cells.toList:=((aC.of_plain z DP z).2 rfl).cells;obtain⟨r',hr',hl⟩:=Ij _ _ _ _ _ _ h1 h2 hzc hr;refine⟨.agg r',?_,Jf hl⟩
   have hm:(fs.mapM (λf=>Prod.mk f.offset <$> sizeOf f.type)).run X.P w=.ok (fs.map λf=>(f.offset,(cn X.P f.type).getD 0)) w:=by
    rw[Array.mapM_eq_mapM_toList];have:=Uj (P:=X.P) w fs.toList (λf hf=>X1.1 hall f ae);simp only[Sem.run_map,this,Result.andThen_ok];congr 1;apply Array.ext';simp
   simp_all[Instr.build,zC,cT]
  trivial
 .rename_i z len e hz hu;split at hv
  .rename_i n hn;split at hv
   .rename_i DP;simp[Z3]at hv;obtain⟨r,hr,rfl⟩:=hv;have hzc:aE φ z.cells.toList z.cells.toList:=((aC.of_plain z DP z).2 rfl).cells;obtain⟨r',hr',hl⟩:=Ij _ _ _ _ _ _ h1 h2 hzc hr
    simp_all[Jf,Instr.build,zC,cT,kT]
   trivial
  trivial
 trivial
theorem G8(h:bB X φ H w){rid:Option Nat}{cells:au}{b:Nat}{H':AH}(hm:kX H rid cells=Wf (b,H')){cs:Array vl}(e:tI)
  (hr:aE φ cells cs.toList) :
  ∃φ' p,bB X φ' H' (w.alloc (.cells cs e))∧cE φ H w φ' H' (w.alloc (.cells cs e))∧φ' b=Wf p∧p.c=w.heap.size∧p.s=0∧p.exact=Th∧cY H.n rid φ φ':=by
 have Rg:RW cells=cs.size:=by simpa using hr.length
 have core:∀{b:Nat}{H':AH},(H.n<=b∨rid=Wf b)->φ b=Vc->H'.get b=Wf (fresh b cells)->(∀i,i≠b->H'.get i=H.get i) ->
   ∃φ' p,bB X φ' H' (w.alloc (.cells cs e))∧cE φ H w φ' H' (w.alloc (.cells cs e))∧φ' b=Wf p∧p.c=w.heap.size∧p.s=0∧p.exact=Th∧cY H.n rid φ φ':=by
  intro b H' h0 h1 h2 h3
  obtain ⟨g1,g2⟩:=h.new (e:=e) (cs:=cs) h1 h2 h3 rfl (by grind[fresh]) (λi v hv=>by
   obtain⟨v',k1,k2⟩:=hr.at hv
   grind)
  refine⟨_,_,g1,g2,kL _ _ _,rfl,rfl,rfl,λi p hp hn=>?_⟩;by_cases e':i=b
  .grind
  .grind[jF]
 cases rid with
 | none=>
  simp[kX,Z9,Z5]at hm;obtain⟨rfl,rfl⟩:=hm;refine core (.inl (Z8 _)) ?_ (AH.get_push_new H _) (λi hi=>AH.get_push hi);cases hb:φ H.n with
  |none=>rfl
  | some p=>
   obtain⟨x,_,_,_,hx,_⟩:=h.dom _ _ hb;have:=AH.get_lt hx;omega
 | some r=>
  simp[kX]at hm;cases hx:H.get r with
  |none=>grind
  | some x=>
   simp only[hx]at hm;split at hm
   .rename_i DB;obtain⟨DB,_⟩:=DB;simp[Z9,Z5]at hm;obtain⟨rfl,rfl⟩:=hm;refine core (.inr rfl) ?_ (by rw[AH.get_set hx,ip rfl]) (λi hi=>by rw[AH.get_set hx,iN hi]);cases hb:φ r with
    |none=>rfl
    | some p=>
     obtain⟨y,_,_,_,hy,h1,_⟩:=h.dom _ _ hb
     grind
   trivial
theorem Ux(h:bB X φ H w){cells:au}{n:Nat}{cs:Array vl}(e:tI)(fz:Nat×Nat)(hfz:∀i,i<cs.size->¬(fz.1<=i∧i<fz.2))(hl:RW cells<=cs.size)
  (hr:∀(i:Nat)(v:vl),cells[i]?=Wf v->∃v',cs[i]?=Wf v'∧aC φ v v') :
  ∃φ' p,bB X φ' (H.push (jv H.n n cells)) (w.alloc (.cells cs e fz))∧cE φ H w φ' (H.push (jv H.n n cells)) (w.alloc (.cells cs e fz))∧φ' H.n=Wf p∧p.c=w.heap.size∧p.s=0∧p.exact=SM∧p.nc=RW cells∧p.esz=n∧p.top=cs.size∧cY H.n Vc φ φ':=by
 have hn:φ H.n=Vc:=by
  cases hb:φ H.n with
  |none=>rfl
  | some p=>
   obtain⟨x,_,_,_,hx,_⟩:=h.dom _ _ hb;have:=AH.get_lt hx;omega
 obtain⟨g1,g2⟩:=h.newF (e:=e) (cs:=cs) hn (AH.get_push_new H (jv H.n n cells)) (λi hi=>AH.get_push hi) rfl fz hfz hl hr;refine⟨_,_,g1,g2,kL _ _ _,rfl,rfl,rfl,rfl,rfl,rfl,λi p hp hn'=>?_⟩
 grind[jF]
theorem ajh(h:bB X φ H w){cells:au}{n:Nat}{cs:Array vl}(e:tI)(hl:RW cells<=cs.size)
  (hr:∀(i:Nat)(v:vl),cells[i]?=Wf v->∃v',cs[i]?=Wf v'∧aC φ v v') :
  ∃φ' p,bB X φ' (H.push (jv H.n n cells)) (w.alloc (.cells cs e))∧cE φ H w φ' (H.push (jv H.n n cells)) (w.alloc (.cells cs e))∧φ' H.n=Wf p∧p.c=w.heap.size∧p.s=0∧p.exact=SM∧p.nc=RW cells∧p.esz=n∧p.top=cs.size∧cY H.n Vc φ φ':=
 Ux h e (0,0) (λ_ _=>by simp) hl hr
theorem alH(w:wO)(cs:Array vl)(e:tI):(w.alloc (.cells cs e)).freeze ⟨w.heap.size,cs.size,Vc⟩ 1=w.alloc (.cells cs e (cs.size,cs.size+1)):=by
 simp only[wO.freeze,Nat.one_ne_zero,iF]
 show({w.alloc (.cells cs e)with heap:=_}:wO)=_
 have:∀(f:Obj->Obj),(w.heap.push (.cells cs e)).modify w.heap.size f=w.heap.push (f (.cells cs e)):=by
  intro f;apply Array.ext_getElem?;intro i;rw[Array.getElem?_modify,Array.getElem?_push,Array.getElem?_push];by_cases hi:i=w.heap.size
  .grind
  .rw[iN (λe=>hi e.symm),iN hi,iN hi]
 show({heap:=(w.heap.push (.cells cs e)).modify w.heap.size _,tape:=w.tape,drawn:=w.drawn,os:=w.os,output:=w.output}:wO)=_
 simp_all
theorem UD(h:bB X φ H w){cs:au}(hr:cX H b off n=Wf cs)(hp:φ b=Wf p):
  ∃L7,aE φ cs L7∧RW L7=n∧(loadCells ⟨p.c,p.s+off,Vc⟩ n).run X.P w=.ok L7.toArray w:=by grind[bB.read,run_loadCells_list]
theorem ajl(h:bB X φ H w){v:vl}(hr:cX H b off 1=Wf [v])(hp:φ b=Wf p):
  ∃v',aC φ v v'∧w.cell? ⟨p.c,p.s+off,Vc⟩=Wf v':=by
 obtain⟨L7,h1,h2,h3,h4⟩:=h.read hr hp;obtain⟨v',g1,g2⟩:=h1.at (i:=0) (v:=v) rfl
 grind[Addr.add]
theorem UC(h:bB X φ H w){v:vl}(hv:qg X.P H t x=Wf v)(hx:aC φ x x'):
  ∃v',(Instr.loadAt t x').run X.P w=.ok v' w∧aC φ v v':=by
 have agg:∀{d:TypeDesc}{b off n:Nat}{cs:au},X.P.underlying t=Wf d->(match d with|.struct _|.array _ _=>True|_=>False)->cn X.P t=Wf n->cX H b off n=Wf cs->aC φ (.pointer (Wf ⟨b,off,Vc⟩)) x' ->
   ∃v',(Instr.loadAt t x').run X.P w=.ok v' w∧aC φ (.agg cs.toArray) v':=by
  intro d b off n cs hu hd hn hc hx;obtain⟨p,hp,rfl⟩:=vU hx;obtain⟨L7,h1,h2,h3⟩:=UD h hc hp;refine⟨.agg L7.toArray,?_,Jf aa⟩;cases d<;>simp at hd<;>simp[Instr.loadAt,Instr.sureAddr,loadVar,isAgg,cT hu,kT hn,h3]
 unfold qg at hv;split at hv
 .rename_i b off;split at hv
  .rename_i fs hu;cases hn:cn X.P t with
   |none=>grind
   | some n=>
    grind[cX]
  .rename_i len e hu;cases hn:cn X.P t with
   |none=>grind
   | some n=>
    grind[cX]
  .rename_i d jz hd2 hu;split at hv
   .rename_i u hc;simp[Z9]at hv;subst hv;obtain⟨p,hp,rfl⟩:=vU hx;obtain⟨v',h1,h2⟩:=ajl h hc hp;refine⟨v',?_,h1⟩
    cases d<;>first
     |(exact absurd rfl (jz _);done)
     |(exact absurd rfl (hd2 _ _);done)
     |simp[Instr.loadAt,Instr.sureAddr,loadVar,isAgg,cT hu,h2]
   trivial
  trivial
 trivial
theorem ad4(h:bB X φ H w){v:vl}{H':AH}(hs:tK X.P H t x v=Wf H')(hx:aC φ x x')(hv:aC φ v v'):
  ∃w',(Instr.storeAt t x' v').run X.P w=.ok () w'∧bB X φ H' w'∧cE φ H w φ H' w':=by
 unfold tK at hs;split at hs
 .rename_i b off n hn;split at hs
  .rename_i hsz;obtain⟨p,hp,rfl⟩:=vU hx;have hc:=hv.cells;have hl:v.cells.size=v'.cells.size:=by simpa using hc.length
   obtain⟨g1,g2,g3,g4,g5⟩:=h.write hs hp hc
   simp_all[run_storeCells_cells,Instr.storeAt,Instr.sureAddr,storeVar,kT]
  trivial
 trivial
theorem mM{d top top':Nat}{o:Option vl}(hb:fe d top o=Wf n)(ht:top<=top')(ho:o'=o∨∃v v',o=Wf v∧o'=Wf v'∧aC φ v v')(code:BoundsCode):
  (o=Vc∧o'=Vc∧n=d)∨(∃k i,o=Wf (.int k i)∧o'=Wf (.int k i)∧0<=i∧i<=top∧n=i.toNat∧(Instr.sliceBound (.int k i) top' code).run X.P w=.ok n w):=by
 cases o with
 | none=>
  grind[fe]
 | some v=>
  right
  cases v<;>simp only[fe]at hb<;>first
   |(cases hb;done)
   |skip
  rename_i k i;split at hb
  .rename_i hi;simp at hb;subst hb;refine⟨k,i,rfl,?_,hi.1,hi.2,rfl,?_⟩
   .rcases ho with rfl|⟨v,v',h1,h2,h3⟩
    .rfl
    grind[t6]
   .have Fm:i<=(top':Int):=by have:=hi.2;omega
    simp_all[Instr.sliceBound,asIntOf]
  trivial
def EG(φ:bI)(o o':Option vl):Prop:=o'=o∨∃v v',o=Wf v∧o'=Wf v'∧aC φ v v'
theorem ae8(h:bB X φ H w){t:tI}{x:vl}{lo hi mx:Option vl}{v:vl}(hv:kq X.P H t x lo hi mx=Wf v)
  {x':vl} {lo' DE mx':Option vl} (hx:aC φ x x') (hlo:EG φ lo lo') (hhi:EG φ hi DE) (hmx:EG φ mx mx') :
  ∃v',(Instr.sliceAt t x' lo' DE mx').run X.P w=.ok v' w∧aC φ v v':=by
 have hn:∀{o o':Option vl},EG φ o o'->(o=Vc↔o'=Vc):=by
  rintro o o' (rfl|⟨v,v',rfl,rfl,_⟩)<;>simp
 unfold kq at hv;split at hv
 .rename_i s hu;split at hv
  .cases hv
  .rename_i hm;simp[Option.isSome_iff_ne_none,ne_eq,Decidable.not_not]at hm;have hm':=(hn hmx).1 hm;subst hm;subst hm';cases hb:fe s.size s.size hi with
   |none=>grind
   | some h1=>
    cases hb2:fe 0 h1 lo with
    |none=>grind
    | some l1=>
     simp[hb,hb2]at hv;subst hv;obtain rfl:=AM hx;refine⟨_,?_,J3⟩;rcases mM (X:=X) (w:=w) hb (Z8 _) hhi .sliceAlen with⟨rfl,rfl,rfl⟩|⟨k,i,rfl,rfl,_,_,_,hr⟩<;>
     rcases mM (X:=X) (w:=w) hb2 (Z8 _) hlo .sliceB with⟨rfl,rfl,rfl⟩|⟨k2,i2,rfl,rfl,_,_,_,hr2⟩<;>
     simp_all[Instr.sliceAt,Instr.slice,Instr.sliceBounds,cT hu]
 .rename_i e a len cap hu;cases hb0:fe cap cap mx with
  |none=>grind
  |some m=>
  by_cases hmh:(hi.isNone&&mx.isSome)=Th
  .grind
  .have hmh':(hi.isNone&&mx.isSome)=SM:=by simpa using hmh
   cases hb:fe len m hi with
   |none=>grind
   | some h1=>
    cases hb2:fe 0 h1 lo with
    |none=>grind
    | some l1=>
     cases hs:cn X.P e with
     |none=>grind
     | some n=>
      simp[hb0,hmh',hb,hb2,hs]at hv;obtain⟨⟨hlc,hspot,_,hfit⟩,rfl⟩:=hv
      have hle1:m<=cap:=by
       rcases mM (X:=X) (w:=w) hb0 (Z8 _) hmx .slice3Acap with⟨rfl,rfl,rfl⟩|⟨k,i,rfl,rfl,g1,g2,rfl,_⟩<;>omega
      have hh1:h1<=m:=by
       rcases mM (X:=X) (w:=w) hb (Z8 _) hhi .slice3B with⟨rfl,rfl,rfl⟩|⟨k,i,rfl,rfl,g1,g2,rfl,_⟩
       .simp_all[fe]
       .omega
      have hl1:l1<=h1:=by
       rcases mM (X:=X) (w:=w) hb2 (Z8 _) hlo .slice3B with⟨rfl,rfl,rfl⟩|⟨k,i,rfl,rfl,g1,g2,rfl,_⟩<;>omega
      -- the model's own bounds,at a capacity of at least cap
      have hrun:∀(a':Option Addr)(cap':Nat),cap<=cap'->(mx=Vc∨cap'=cap∨True)->∃m',((mx=Vc->m'=cap')∧(mx≠Vc->m'=m)) ∧
        (Instr.sliceAt t (.slice a' len cap') lo' DE mx').run X.P w=.ok (.slice (if m'=l1 then a' else a'.map (·.add (l1*n))) (h1-l1) (m'-l1)) w:=by
       intro a' cap' hcap _;rcases mM (X:=X) (w:=w) hb0 hcap hmx .slice3Acap with⟨rfl,rfl,rfl⟩|⟨k,i,rfl,rfl,_,_,_,hr⟩
       .refine⟨cap',⟨λ_=>rfl,λh=>absurd rfl h⟩,?_⟩;rcases mM (X:=X) (w:=w) hb hcap hhi .sliceAcap with⟨rfl,rfl,rfl⟩|⟨k2,i2,rfl,rfl,_,_,_,hr2⟩<;>
        rcases mM (X:=X) (w:=w) hb2 (Z8 _) hlo .sliceB with⟨rfl,rfl,rfl⟩|⟨k3,i3,rfl,rfl,_,_,_,hr3⟩<;>
        simp_all[Instr.sliceAt,Instr.slice,Instr.sliceBounds,cT hu,kT hs]
       .refine⟨m,⟨λh=>by trivial,λ_=>rfl⟩,?_⟩;rcases mM (X:=X) (w:=w) hb (Z8 _) hhi .slice3B with⟨rfl,rfl,rfl⟩|⟨k2,i2,rfl,rfl,_,_,_,hr2⟩
        .trivial
        rcases mM (X:=X) (w:=w) hb2 (Z8 _) hlo .slice3C with⟨rfl,rfl,rfl⟩|⟨k3,i3,rfl,rfl,_,_,_,hr3⟩<;>
        simp_all[Instr.sliceAt,Instr.slice,Instr.sliceBounds,cT hu,kT hs]
      cases a with
      | none=>
       obtain rfl:=sy hx;obtain⟨m',⟨q1,q2⟩,hr⟩:=hrun Vc cap (Z8 _) (.inr (.inr trivial));refine⟨_,hr,?_⟩
       have:m'=m:=by
        by_cases hz:mx=Vc
        .grind[fe]
        .grind
       grind[aC]
      | some a=>
       simp at hspot;obtain⟨⟨ab,ao,asF⟩,rfl⟩:∃a2:Addr,a=a2:=⟨a,rfl⟩;simp at hspot;subst hspot;obtain⟨⟨b',o',s'⟩,c',rfl,hsr⟩:=oh hx;rcases hsr with⟨_,k2,p,hp,k3,k4,k5⟩|⟨_,k3,k4,k5,pp,hpp⟩
       .simp only at k2 k3 k4;subst k2;subst k3;subst k4;have hcap:cap<=c':=by rcases k5 with e|⟨_,_,e,_⟩<;>omega
        obtain⟨m',⟨q1,q2⟩,hr⟩:=hrun (Wf ⟨p.c,p.s+ao,Vc⟩) c' hcap (.inr (.inr trivial));refine⟨_,hr,?_⟩;simp[Option.map_some,Cf];by_cases hz:m'=l1
        .rw[ip hz];simp only[aC];refine⟨_,_,rfl,.inr ⟨rfl,?_,?_,aa,p,hp⟩⟩
         .grind
         grind
        .rw[iN hz];simp only[Option.map_some,qy,aC];refine⟨_,_,rfl,.inl ⟨rfl,rfl,p,hp,rfl,ae,?_⟩⟩;by_cases hmx0:mx=Vc
         .have hm':=q1 hmx0;have hm:m=cap:=by subst hmx0;simp[fe]at hb0;omega
          subst hm' hm;rcases k5 with e|⟨e1,e2,e3,e4⟩
          .left;omega
          .simp only at e2 e4
           have hez:n=p.esz:=by
            obtain⟨y,_,_,_,y1,_,_,y4,y5,_⟩:=h.dom _ _ hp;rcases hfit with g|g
            .grind
            .grind[sZ]
           subst hez;right;refine⟨e1,?_,aa,?_⟩
           .have:l1*p.esz+(m-l1)*p.esz=m*p.esz:=by rw[<-Nat.add_mul];congr 1;omega
            grind
           .have:l1*p.esz+(m'-l1)*p.esz=m'*p.esz:=by rw[<-Nat.add_mul];congr 1;omega
            grind
         .left;grind
       .subst k3;subst k4;subst k5;obtain⟨m',⟨q1,q2⟩,hr⟩:=hrun (Wf ⟨b',o',s'⟩) 0 (Z8 _) (.inr (.inr trivial));refine⟨_,hr,?_⟩
        have hm0:m'=0:=by
         by_cases hmx0:mx=Vc
         .grind
         .grind
        subst hm0;simp only[Option.map_some,Cf,aC];have:l1=0:=aa;subst this;exact⟨_,_,rfl,.inr ⟨rfl,aa,aa,aa,pp,hpp⟩⟩
 .rename_i k e b off hu;cases hb0:fe k k mx with
  |none=>grind
  |some m=>
  by_cases hmh:(hi.isNone&&mx.isSome)=Th
  .grind
  .have hmh':(hi.isNone&&mx.isSome)=SM:=by simpa using hmh
   cases hb:fe k m hi with
   |none=>grind
   | some h1=>
    cases hb2:fe 0 h1 lo with
    |none=>grind
    | some l1=>
     cases hs:cn X.P e with
     |none=>grind
     | some n=>
      simp[hb0,hmh',hb,hb2,hs]at hv;subst hv;obtain⟨p,hp,rfl⟩:=vU hx
      have hr:(Instr.sliceAt t (.pointer (Wf ⟨p.c,p.s+off,Vc⟩)) lo' DE mx').run X.P w=.ok (.slice (Wf (if m=l1 then⟨p.c,p.s+off,Vc⟩else⟨p.c,p.s+off+l1*n,Vc⟩)) (h1-l1) (m-l1)) w:=by
       rcases mM (X:=X) (w:=w) hb0 (Z8 _) hmx .slice3Alen with⟨rfl,rfl,rfl⟩|⟨k,i,rfl,rfl,_,_,_,hr⟩
       .rcases mM (X:=X) (w:=w) hb (Z8 _) hhi .sliceAlen with⟨rfl,rfl,rfl⟩|⟨k2,i2,rfl,rfl,_,_,_,hr2⟩<;>
        rcases mM (X:=X) (w:=w) hb2 (Z8 _) hlo .sliceB with⟨rfl,rfl,rfl⟩|⟨k3,i3,rfl,rfl,_,_,_,hr3⟩<;>
        simp_all[Instr.sliceAt,Instr.sureAddr,Instr.sliceBounds,cT hu,kT hs,qy]
       .rcases mM (X:=X) (w:=w) hb (Z8 _) hhi .slice3B with⟨rfl,rfl,rfl⟩|⟨k2,i2,rfl,rfl,_,_,_,hr2⟩
        .trivial
        rcases mM (X:=X) (w:=w) hb2 (Z8 _) hlo .slice3C with⟨rfl,rfl,rfl⟩|⟨k3,i3,rfl,rfl,_,_,_,hr3⟩<;>
        simp_all[Instr.sliceAt,Instr.sureAddr,Instr.sliceBounds,cT hu,kT hs,qy]
      refine⟨_,hr,?_⟩
      have hle1:h1<=m:=by
       rcases mM (X:=X) (w:=w) hb (Z8 _) hhi .slice3B with⟨rfl,rfl,rfl⟩|⟨k2,i2,rfl,rfl,g1,g2,rfl,_⟩
       .simp_all[fe]
       .omega
      have hl1:l1<=h1:=by
       rcases mM (X:=X) (w:=w) hb2 (Z8 _) hlo .slice3B with⟨rfl,rfl,rfl⟩|⟨k2,i2,rfl,rfl,g1,g2,rfl,_⟩<;>omega
      by_cases hz:m=l1
      .rw[ip hz];simp only[aC];exact⟨_,_,rfl,.inr ⟨rfl,aa,aa,aa,p,hp⟩⟩
      .rw[iN hz];simp only[aC];exact⟨_,_,rfl,.inl ⟨rfl,rfl,p,hp,rfl,ae,.inl rfl⟩⟩
 trivial
structure OW(P:pG)(n k:Nat)(L7:au)(x':vl)(w:wO):Prop where
 len:∀w':wO,(bU.lenOf x').run P w'=.ok k w'
 cells:∀w':wO,w'.heap=w.heap->(bU.firstCells n k x').run P w'=.ok L7.toArray w'
theorem aef(h:bB X φ H w){cs:au}(hs:fH H n x=Wf (k,cs))(hx:aC φ x x'):
  ∃L7,aE φ cs L7∧RW L7=k*n∧OW X.P n k L7 x' w:=by
 unfold fH at hs;split at hs
 .simp only[Z9,Z5]at hs;obtain⟨rfl,rfl⟩:=hs;obtain rfl:=sy hx;refine⟨[],aE.nil φ,ac,⟨λw'=>by rfl,λw' _=>by rfl⟩⟩
 .rename_i b off len cap;split at hs
  .rename_i h0;simp only[Z9,Z5]at hs;obtain⟨rfl,rfl⟩:=hs;subst h0;obtain⟨a',c',rfl,_⟩:=oh hx;exact⟨[],aE.nil φ,ac,⟨λw'=>by rfl,λw' _=>by simp[bU.firstCells,loadCells,loadCellsFrom]⟩⟩
  .rename_i h0;simp only[Z3,Z5]at hs;obtain⟨cs0,hc,rfl,rfl⟩:=hs;obtain⟨⟨b',o',s'⟩,c',rfl,hsr⟩:=oh hx;rcases hsr with⟨_,k2,p,hp,k3,k4,k5⟩|⟨_,h00,_⟩
   .simp only at k2 k3 k4;subst k2;subst k3;subst k4;obtain⟨L7,h1,h2,h3,h4⟩:=h.read hc hp;refine⟨L7,h1,h2,⟨λw'=>by rfl,λw' hw=>?_⟩⟩
    grind[bU.firstCells,run_loadCells_list,wO.cell?]
   .omega
 .rename_i s;split at hs
  .rename_i h1;simp[Z9,Z5]at hs;obtain⟨rfl,rfl⟩:=hs;subst h1;obtain rfl:=AM hx;refine⟨_,aE.map (λ_=>oz) _,ac,⟨λw'=>by rfl,λw' _=>?_⟩⟩;simp only[bU.firstCells,Sem.run_pure];congr 1;apply Array.ext'
   have:(s.extract 0 s.size).data=s.data:=by
    have:=RT ByteArray.data (ByteArray.extract_zero_size (b:=s));exact this
   simp
  trivial
 trivial
theorem akS{P:pG}{t tx ty e:tI}{d:TypeDesc}(ht:P.underlying t=Wf (.slice e))(htx:P.underlying tx=Wf d)(hd:∀k,d≠.int k)
  {n:Nat} (hn:cn P e=Wf n) {k:Nat} {L7:au} {x':vl} {w:wO} (hs:OW P n k L7 x' w) {RC:Option Addr} {Pa In:Nat} (Fm:Pa+k<=In)
  {w':wO} (DB:RC=Vc∧w'=w∨∃a,RC=Wf a∧(storeCells (a.add (Pa*n)) L7).run P w=.ok () w') :
  (bU.append_ #[t,tx] ty #[.slice RC Pa In,x']).run P w=.ok (.slice RC (Pa+k) In) w':=by
 have hz:(match d with|.int _=>Th|_=>SM)=SM:=by cases d<;>first|rfl|grind
 have hc:=hs.cells w rfl;rcases DB with⟨rfl,rfl⟩|⟨a,rfl,h⟩
 .simp[bU.append_,cT ht,cT htx,kT hn,hs.len,Fm,hc,hz]
 .simp[bU.append_,cT ht,cT htx,kT hn,hs.len,Fm,hc,h,hz]
theorem Hs(w:wO)(need old:Nat)(e:tI):need<=grownCap w need old e:=Nat.le_add_right _ _
theorem alp{P:pG}{t tx ty e:tI}{d:TypeDesc}(ht:P.underlying t=Wf (.slice e))(htx:P.underlying tx=Wf d)(hd:∀k,d≠.int k)
  {n Nd:Nat} {z:vl} (hn:cn P e=Wf n) (hz:fX P e=Wf z) (hby:qu P e=Wf Nd) (hzs:z.cells.size=n) (hb0:0<Nd) (hn0:0<n)
  {k:Nat} {L7:au} {x':vl} {w:wO} (hs:OW P n k L7 x' w) {RC:Option Addr} {Pa In:Nat} (hgt:In<Pa+k)
  (Fk:(Pa+k)*Nd<=140737488355328) {Fn:au}
  (Fd:∀w':wO,w'.heap=w.heap->(bU.firstCells n Pa (.slice RC Pa In)).run P w'=.ok Fn.toArray w') (hl:RW Fn=Pa*n) (hl':RW L7=k*n) :
  ∃ nc cells,(bU.append_ #[t,tx] ty #[.slice RC Pa In,x']).run P w=.ok (.slice (Wf ⟨w.heap.size,0,Vc⟩) (Pa+k) nc) (w.drew.alloc (.cells cells e)) ∧
   Pa+k<=nc∧cells.size=nc*n∧∀(i:Nat)(v:vl),(Fn++L7)[i]?=Wf v->cells[i]?=Wf v:=by
 obtain⟨i,hi,i1,i2,i3⟩:=HR hn hz hby;subst i1;subst i3;have MT:¬(Pa+k<=In):=aa;have hfit:=growslice_fits hgt Fk;have hfit':¬(281474976710656<bU.nextslicecap (Pa+k) In*i.bytes):=aa;have h1:Pa+k<=(Pa+k)*i.bytes:=Zc _ hb0;have h63:¬(9223372036854775807<((Pa:Int)+(k:Int))):=aa;have hbn:i.bytes≠0:=aa
 have hc:=hs.cells w.drew rfl;have ho:=Fd w.drew rfl;refine⟨grownCap w (Pa+k) In e,Fn.toArray++L7.toArray++bU.zeroCells z.cells (grownCap w (Pa+k) In e-(Pa+k)),?_,?_,?_,?_⟩
 .have hz:(match d with|.int _=>Th|_=>SM)=SM:=by cases d<;>first|rfl|grind
  simp[bU.append_,cT ht,cT htx,sizeOf,typeInfo,zeroValue,hi,i2,hs.len,MT,h63,hfit',hbn,Question.forced,hc,ho,newRow,grownCap,hz]
  grind
 .simp[Hs]
 .have:=Hs w (Pa+k) In e;simp[Array.size_append,List.size_toArray,hl,hl',bU.zeroCells,Array.size_map,Array.size_range,hzs];rw[<-Nat.add_mul,<-Nat.add_mul];grind
 .intro j v hv;rw[Array.getElem?_append]
  have hj:j<RW (Fn++L7):=by
   rcases Zi j (RW (Fn++L7)) with h'|h'
   .exact h'
   .grind
  have:(Fn.toArray++L7.toArray).size=RW (Fn++L7):=ac;rw[ip aa]
  grind
theorem EM{z:vl}(hz:plain z=Th)(n:Nat):aE φ (fj z.cells.toList n) (fj z.cells.toList n):=by
 have hc:aE φ z.cells.toList z.cells.toList:=((aC.of_plain z hz z).2 rfl).cells
 grind[fj,qB,aE.getD]
theorem Cp{z:vl}(hn:z.cells.size=n)(h0:0<n)(k:Nat):(fj z.cells.toList k).toArray=(Array.range k).map λi=>z.cells[i%z.cells.size]!:=by
 apply Array.ext';simp only[fj,Array.toList_map,Array.toList_range,Array.length_toList];apply List.map_congr_left;intro i _;have:i%z.cells.size<z.cells.size:=Y7 _ aa
 grind
theorem abI{P:pG}{t tx ty e:tI}{kd kd':iK}(ht:P.underlying t=Wf (.slice e))(htx:P.underlying tx=Wf (.int kd))
  {n Nd:Nat} {z:vl} (hn:cn P e=Wf n) (hz:fX P e=Wf z) (hby:qu P e=Wf Nd) (hzs:z.cells.size=n) (hn0:0<n) (hb0:0<Nd)
  {k:Nat} (hk:k*Nd<=140737488355328) {w:wO} {RC:Option Addr} {Pa In:Nat} (Fm:Pa+k<=In)
  {w':wO} (DB:RC=Vc∧w'=w∨∃a,RC=Wf a∧(storeCells (a.add (Pa*n)) (fj z.cells.toList (k*n))).run P w=.ok () w') :
  (bU.append_ #[t,tx] ty #[.slice RC Pa In,.int kd' k]).run P w=.ok (.slice RC (Pa+k) In) w':=by
 obtain⟨i,hi,i1,i2,i3⟩:=HR hn hz hby;subst i1;subst i3;have h1:k<=k*i.bytes:=Zc _ hb0;have hwr:iK.i64.wrap (k:Int)=k:=by rw[iK.wrap_i64];omega
 have hneg:¬((k:Int)<0):=aa
 have hbig:¬(281474976710656<(k:Int)*(i.bytes:Int)):=by
  have:((k*i.bytes:Nat):Int)<=140737488355328:=aa;rw[Int.natCast_mul]at this;omega
 have hin:i.size≠0:=aa;have hze:=Cp hzs hn0 (k*i.size);by_cases hk0:k=0
 .subst hk0;have hw0:iK.i64.wrap 0=0:=by simpa using hwr
  have hle0:Pa<=In:=aa;rcases DB with⟨rfl,rfl⟩|⟨a,rfl,h⟩
  .simp[bU.append_,cT ht,cT htx,sizeOf,typeInfo,hi,asInt,asIntOf,hw0,hle0]
  .simp[Wb,fj,List.range_zero,Yq]at h;simp[bU.append_,cT ht,cT htx,sizeOf,typeInfo,hi,asInt,asIntOf,hw0,hle0,h]
 .rcases DB with⟨rfl,rfl⟩|⟨a,rfl,h⟩
  .simp[bU.append_,cT ht,cT htx,sizeOf,typeInfo,zeroValue,hi,i2,asInt,asIntOf,hwr,hneg,hbig,Fm,hk0,hin]
  ·have hz2:(bU.zeroCells z.cells k).toList=fj z.cells.toList (k*i.size):=by
    rw[hzs]at hze;rw[bU.zeroCells,hzs,<-hze]
   simp[bU.append_,cT ht,cT htx,sizeOf,typeInfo,zeroValue,hi,i2,asInt,asIntOf,hwr,hneg,hbig,Fm,hk0,hin,hz2,h]
   grind[Nat.mul_ne_zero]
theorem abJ{P:pG}{t tx ty e:tI}{kd kd':iK}(ht:P.underlying t=Wf (.slice e))(htx:P.underlying tx=Wf (.int kd))
  {n Nd:Nat} {z:vl} (hn:cn P e=Wf n) (hz:fX P e=Wf z) (hby:qu P e=Wf Nd) (hzs:z.cells.size=n) (hn0:0<n) (hb0:0<Nd)
  {k:Nat} {w:wO} {RC:Option Addr} {Pa In:Nat} (hgt:In<Pa+k) (hk0:k≠0)
  (Fk:(Pa+k)*Nd<=140737488355328) {Fn:au}
  (Fd:∀w':wO,w'.heap=w.heap->(bU.firstCells n Pa (.slice RC Pa In)).run P w'=.ok Fn.toArray w') (hl:RW Fn=Pa*n) :
  ∃ nc cells,(bU.append_ #[t,tx] ty #[.slice RC Pa In,.int kd' k]).run P w=.ok (.slice (Wf ⟨w.heap.size,0,Vc⟩) (Pa+k) nc) (w.drew.alloc (.cells cells e)) ∧
   Pa+k<=nc∧cells.size=nc*n∧∀(i:Nat)(v:vl),(Fn++fj z.cells.toList (k*n))[i]?=Wf v->cells[i]?=Wf v:=by
 obtain⟨i,hi,i1,i2,i3⟩:=HR hn hz hby;subst i1;subst i3;have hroomk:k*i.bytes<=140737488355328:=Z1 (Zu _ aa) Fk;have h1:k<=k*i.bytes:=Zc _ hb0;have h2:Pa+k<=(Pa+k)*i.bytes:=Zc _ hb0;have hwr:iK.i64.wrap (k:Int)=k:=by rw[iK.wrap_i64];omega
 have hneg:¬((k:Int)<0):=aa
 have hbig:¬(281474976710656<(k:Int)*(i.bytes:Int)):=by
  have:((k*i.bytes:Nat):Int)<=140737488355328:=aa;rw[Int.natCast_mul]at this;omega
 have hin:i.size≠0:=aa;have hze:=Cp hzs hn0 (k*i.size);have MT:¬(Pa+k<=In):=aa;have hfit:=growslice_fits hgt Fk;have hfit':¬(281474976710656<bU.nextslicecap (Pa+k) In*i.bytes):=aa;have h63:¬(9223372036854775807<((Pa:Int)+(k:Int))):=aa;have hbn:i.bytes≠0:=aa;have ho:=Fd w.drew rfl
 have hz2:bU.zeroCells z.cells k=(fj z.cells.toList (k*i.size)).toArray:=by rw[hzs]at hze;rw[bU.zeroCells,hzs,<-hze]
 have hzl:RW (fj z.cells.toList (k*i.size))=k*i.size:=by simp[fj]
 refine⟨grownCap w (Pa+k) In e,Fn.toArray++(fj z.cells.toList (k*i.size)).toArray++bU.zeroCells z.cells (grownCap w (Pa+k) In e-(Pa+k)),?_,?_,?_,?_⟩
 .simp[bU.append_,cT ht,cT htx,sizeOf,typeInfo,zeroValue,hi,i2,asInt,asIntOf,hwr,hneg,hbig,hk0,hin,MT,h63,hfit',hbn,Question.forced,ho,newRow,grownCap,hz2]
  grind
 .simp[Hs]
 .have:=Hs w (Pa+k) In e;simp[Array.size_append,List.size_toArray,hl,hzl,bU.zeroCells,Array.size_map,Array.size_range,hzs];rw[<-Nat.add_mul,<-Nat.add_mul];grind
 .intro j v hv;rw[Array.getElem?_append]
  have hj:j<RW (Fn++fj z.cells.toList (k*i.size)):=by
   rcases Zi j (RW (Fn++fj z.cells.toList (k*i.size))) with h'|h'
   .exact h'
   .grind
  have:(Fn.toArray++(fj z.cells.toList (k*i.size)).toArray).size=RW (Fn++fj z.cells.toList (k*i.size)):=ac;rw[ip aa]
  grind
theorem sv(h:aC φ (.slice (Wf ⟨b,off,Vc⟩) n c) v'):
  (∃p c',φ b=Wf p∧v'=.slice (Wf ⟨p.c,p.s+off,Vc⟩) n c'∧abG p off c c')∨(∃a',v'=.slice (Wf a') 0 0∧n=0∧c=0):=by
 obtain⟨⟨b',o',s'⟩,c',rfl,hsr⟩:=oh h;rcases hsr with⟨_,k2,p,hp,k3,k4,k5⟩|⟨_,k3,k4,k5,_⟩
 .grind
 grind
theorem afa(h:aC φ (.slice (Wf ⟨b,off,Vc⟩) n c) v'):∃p,φ b=Wf p:=by obtain⟨_,_,_,hsr⟩:=oh h;rcases hsr with⟨_,_,p,hp,_⟩|⟨_,_,_,_,p,hp⟩<;>exact⟨p,hp⟩
theorem bB.extend{X:dh}{φ:bI}{H:AH}{w:wO}(h:bB X φ H w){b off n m:Nat}{p:Pl}{x x0:bv}(hp:φ b=Wf p)(hx0:H.get b=Wf x0)
  (hwr:x0.wr=Th) (hxc:x0.cells=x.cells) (hfam:x0.fam=x.fam) (hstart:x0.start=x.start) (hsh:x0.shared=Th)
  {cs L7:au} (hoff:off+m<=RW x.cells) (hl:aE φ cs L7) (Fk:p.s+off+m+RW L7<=p.top)
  (Fd:aE φ ((x.cells.drop off).take m) ((List.range m).map λj=>(w.cell? ⟨p.c,p.s+off+j,Vc⟩).getD undef))
  (hsome:∀j,j<m->(w.cell? ⟨p.c,p.s+off+j,Vc⟩).isSome=Th)
  (hbelow:∀i q y,φ i=Wf q->H.get i=Wf y->y.st=1->q.c=p.c->y.fam=x.fam∧y.shared=Th∧p.s+y.start=q.s+x.start∧q.s+RW y.cells<=p.s+off+m) :
  ∃ φ',bB X φ' (H.push (ma x off n ((x.cells.drop off).take m++cs))) (w.setCells p.c (p.s+off+m) L7) ∧
   (∀i q,φ i=Wf q->φ' i=Wf q)∧φ' H.n=Wf ⟨p.c,p.s+off,m+RW L7,n,p.top,SM⟩∧(∀i q,φ' i=Wf q->φ i=Vc->i=H.n) ∧
   (∀j,j<RW L7->(w.cell? ⟨p.c,p.s+off+m+j,Vc⟩).isSome=Th)∧(∀j,j<RW L7->w.frozen? ⟨p.c,p.s+off+m+j,Vc⟩=SM):=by
 obtain⟨z,cz,ez,fz,hz,z1,z2,z3,z4,z5,z6,z7⟩:=h.dom b p hp;rw[hx0]at hz;cases hz
 have hn:φ H.n=Vc:=by
  cases hb:φ H.n with
  |none=>rfl
  | some q=>
   obtain⟨y,_,_,_,hy,_⟩:=h.dom _ _ hb;have:=AH.get_lt hy;omega
 have MT:∀{i q},φ i=Wf q->i≠H.n:=λhi e=>by grind
 have hfz:∀i,i<p.top->w.frozen? ⟨p.c,i,Vc⟩=SM:=λi hi=>h.frz b p x0 i hp hx0 hwr hi
 have hin:∀j,j<RW L7->(w.cell? ⟨p.c,p.s+off+m+j,Vc⟩).isSome=Th:=by
  intro j hj;rw[cell_of_heap z5,Array.getElem?_eq_getElem aa];rfl
 let P':Pl:=⟨p.c,p.s+off,m+RW L7,n,p.top,SM⟩
 have Fm:gJ φ (nS φ H.n P'):=gJ.add hn
 have hcl:RW ((x.cells.drop off).take m++cs)=m+RW L7:=by
  have:=hl.length;simp;omega
 have aH:∀{i},i≠H.n->(H.push (ma x off n ((x.cells.drop off).take m++cs))).get i=H.get i:=λhi=>AH.get_push hi
 refine⟨nS φ H.n P',⟨?_,?_,?_,?_,?_⟩,Fm,kL _ _ _,?_,hin,λj hj=>hfz _ aa⟩
 .intro g hg;obtain⟨q,hq,h1⟩:=h.glob g hg;exact⟨q,Fm g q hq,h1⟩
 .intro i q hq;by_cases e:i=H.n
  .subst e;rw[kL]at hq;cases hq;obtain⟨cs2,g1,g2⟩:=DX L7 (p.s+off+m) w cz z5;exact⟨_,cs2,ez,fz,AH.get_push_new H _,by simp[ma],cU,rfl,rfl,g1,ae,ae⟩
  .rw[jF e]at hq;obtain⟨y,cy,ey,fy,y1,y2,y3,y4,y5,y6,y7,y8⟩:=h.dom i q hq;by_cases hc:q.c=p.c
   .rw[hc]at y6;obtain⟨cs2,g1,g2⟩:=DX L7 (p.s+off+m) w cy y6;exact⟨y,cs2,ey,fy,ae,y2,y3,y4,y5,ae,aa,y8⟩
   grind[heap_setCells_other]
 .intro i q y k v hq hy DB hv;by_cases e:i=H.n
  .subst e;rw[kL]at hq;cases hq;rw[AH.get_push_new]at hy;cases hy;simp[ma]at hv;rw[List.getElem?_append]at hv;have Rg:RW ((x.cells.drop off).take m)=m:=by simp;omega
   rw[Rg]at hv;by_cases hk:k<m
   .grind[aE.at,List.getElem?_range,aC.mono,Option.isSome_iff_exists,wO.cell?_setCells_out]
   .rw[iN hk]at hv;obtain⟨v',g1,g2⟩:=hl.at hv
    have hj:k-m<RW L7:=by
     rcases Zi (k-m) (RW L7) with h'|h'
     .exact h'
     .grind
    have:=wO.cell?_setCells_in p.c L7 (p.s+off+m) w hin (k-m) hj;refine⟨v',?_,aC.mono Fm _ _ g2⟩;rw[List.getElem?_eq_getElem hj]at g1;rw[<-g1,<-this];congr 2
    grind
  .rw[jF e]at hq;rw[aH e]at hy;obtain⟨v',g1,g2⟩:=h.cell i q y k v hq hy DB hv;refine⟨v',?_,aC.mono Fm _ _ g2⟩;rw[wO.cell?_setCells_out _ _ _ _ _ (λhb _=>.inl ?_)]
   .exact g1
   .obtain⟨_,_,_,b4⟩:=hbelow i q y hq hy DB hb
    have hk:k<RW y.cells:=by
     rcases Zi k (RW y.cells) with h'|h'
     .exact h'
     .grind
    grind
 .grind[wO.frozen?_setCells,kL,jF,frz]
 .intro i i' q q' y y' hq hq' hy hy' h1 h1' hne' hc;by_cases e1:i=H.n
  .grind[kL,AH.get_push_new,jF,ma]
  .by_cases e2:i'=H.n
   .grind[kL,AH.get_push_new,jF,ma]
   .rw[jF e1]at hq;rw[jF e2]at hq';rw[aH e1]at hy;rw[aH e2]at hy';exact h.sep i i' q q' y y' hq hq' hy hy' h1 h1' hne' hc
 grind[jF]
theorem abg(h:bB X φ H w){n Nd k:Nat}{s v:vl}{cs:au}{H':AH}(hv:fh X.P H n Nd s k cs=Wf (v,H')){s':vl}(hs:aC φ s s')
  {L7:au} (hl:aE φ cs L7) (Rg:RW L7=k*n) {ts:Array tI} {ty:tI} {x':vl} (e:tI)
  (hin:∀(RC:Option Addr)(Pa In:Nat)(w':wO),Pa+k<=In->(RC=Vc∧w'=w∨∃a,RC=Wf a∧(storeCells (a.add (Pa*n)) L7).run X.P w=.ok () w') ->
   (bU.append_ ts ty #[.slice RC Pa In,x']).run X.P w=.ok (.slice RC (Pa+k) In) w')
  (hgr:∀(RC:Option Addr)(Pa In:Nat)(Fn:au),In<Pa+k->k≠0->(Pa+k)*Nd<=140737488355328 ->
   (∀w':wO,w'.heap=w.heap->(bU.firstCells n Pa (.slice RC Pa In)).run X.P w'=.ok Fn.toArray w')->RW Fn=Pa*n ->
   ∃ nc cells,(bU.append_ ts ty #[.slice RC Pa In,x']).run X.P w=.ok (.slice (Wf ⟨w.heap.size,0,Vc⟩) (Pa+k) nc) (w.drew.alloc (.cells cells e)) ∧
    Pa+k<=nc∧cells.size=nc*n∧∀(i:Nat)(v:vl),(Fn++L7)[i]?=Wf v->cells[i]?=Wf v) :
  ∃φ' v' w',(bU.append_ ts ty #[s',x']).run X.P w=.ok v' w'∧aC φ' v v'∧bB X φ' H' w'∧cE φ H w φ' H' w'∧cY H.n Vc φ φ':=by
 have hst0:∀(a:Addr),k=0->(storeCells a L7).run X.P w=.ok () w:=by
  intro a h0;subst h0;have:L7=[]:=Yd.1 aa;subst this;rfl
 -- a new row of its own
 have loose:∀(RC:Option Addr)(Pa In:Nat)(Fn oldA:au),In<Pa+k->k≠0->(Pa+k)*Nd<=140737488355328 ->
   (∀w':wO,w'.heap=w.heap->(bU.firstCells n Pa (.slice RC Pa In)).run X.P w'=.ok Fn.toArray w')->RW Fn=Pa*n->aE φ oldA Fn ->
   ∃ φ' v' w',(bU.append_ ts ty #[.slice RC Pa In,x']).run X.P w=.ok v' w'∧aC φ' (.slice (Wf ⟨H.n,0,Vc⟩) (Pa+k) (Pa+k)) v' ∧
    bB X φ' (H.push (jv H.n n (oldA++cs))) w'∧cE φ H w φ' (H.push (jv H.n n (oldA++cs))) w'∧cY H.n Vc φ φ':=by
  intro RC Pa In Fn oldA hgt hk0 Fk Fd hol hor;obtain⟨nc,cells,hr,r1,r2,r3⟩:=hgr RC Pa In Fn hgt hk0 Fk Fd hol;have hd:bB X φ H w.drew:=h.same_heap rfl;have hrel:=hor.append hl;have hlen2:RW (oldA++cs)=(Pa+k)*n:=by rw[hrel.length,List.length_append,hol,Rg,Nat.add_mul]
  have Fm:(Pa+k)*n<=nc*n:=Zu _ r1
  obtain ⟨φ',p,g1,g2,g3,g4,g5,g6,g7,g8,g9,g10⟩:=ajh (w:=w.drew) hd (n:=n) (cells:=oldA++cs) (cs:=cells) e aa (λi u hu=>by
   grind[aE.at])
  refine⟨φ',_,_,hr,?_,g1,(cE.same_heap (w:=w) (w':=w.drew) rfl).trans g2,g10⟩;simp only[aC];refine⟨_,_,rfl,.inl ⟨rfl,rfl,p,g3,g4.symm,ae,.inr ⟨g6,?_,r1,?_⟩⟩⟩
  .grind
  .grind
 unfold fh at hv;split at hv
 ·-- a nil slice
  obtain rfl:=sy hs;split at hv
  .rename_i h0;simp[Z9,Z5]at hv;obtain⟨rfl,rfl⟩:=hv;have:=hin Vc 0 0 w aa (.inl ⟨rfl,rfl⟩)
   grind[cE.refl,cY.refl]
  .rename_i h0;split at hv
   .rename_i Fk;simp[Z9,Z5]at hv;obtain⟨rfl,rfl⟩:=hv;have:=loose Vc 0 0 [] [] aa h0 ae (λw' _=>by rfl) ac (aE.nil φ)
    grind
   trivial
 .rename_i b off len cap;split at hv
  .cases hv
  rename_i hlc;split at hv
  ·-- nothing is appended
   rename_i h0;simp[Z9,Z5]at hv;obtain⟨rfl,rfl⟩:=hv;rcases sv hs with⟨p,c',hp,rfl,hcap⟩|⟨a',rfl,rfl,rfl⟩
   .have hcc:cap<=c':=by rcases hcap with g|⟨_,_,g,_⟩<;>omega
    have:=hin (Wf ⟨p.c,p.s+off,Vc⟩) len c' w aa (.inr ⟨_,rfl,hst0 _ h0⟩)
    grind[cE.refl,cY.refl]
   .have:=hin (Wf a') 0 0 w aa (.inr ⟨_,rfl,hst0 _ h0⟩)
    grind[cE.refl,cY.refl]
  rename_i h0;split at hv
  ·-- within the capacity
   rename_i hfit;split at hv
   .rename_i H1 hw;simp[Z9,Z5]at hv;obtain⟨rfl,rfl⟩:=hv;rcases sv hs with⟨p,c',hp,rfl,hcap⟩|⟨a',rfl,rfl,rfl⟩
    .have hcc:cap<=c':=by rcases hcap with g|⟨_,_,g,_⟩<;>omega
     obtain⟨g1,g2,g3,g4,g5⟩:=h.write hw hp hl;have DB:=run_storeCells_cells (P:=X.P) p.c (p.s+off+len*n) L7 0 w ae ae g5;have:=hin (Wf ⟨p.c,p.s+off,Vc⟩) len c' _ aa (.inr ⟨_,rfl,by rw[qy];omega⟩);rw[show p.s+off+len*n+0=p.s+(off+len*n) by omega]at this;refine⟨φ,_,_,this,?_,g1,g2,cY.refl _ _ _⟩;simp only[aC]
     exact⟨_,_,rfl,.inl ⟨rfl,rfl,p,hp,rfl,rfl,hcap⟩⟩
    .omega
   trivial
  rename_i hnofit;split at hv
  case isFalse=>cases hv
  rename_i Fk;split at hv
  case h_2=>cases hv
  rename_i x hx;split at hv
  case isFalse=>cases hv
  rename_i hlive;obtain⟨hst1,hlenx⟩:=hlive;split at hv
  ·-- surely a new row
   rename_i hsure;simp[Z9,Z5]at hv;obtain⟨rfl,rfl⟩:=hv;rcases sv hs with⟨p,c',hp,rfl,hcap⟩|⟨a',rfl,rfl,rfl⟩
   .obtain⟨y,cy,ey,fy,y1,y2,y3,y4,y5,y6,y7,y8⟩:=h.dom b p hp;rw[hx]at y1;cases y1
    have hcc:c'=cap:=by
     rcases hcap with g|⟨g1,g2,_⟩
     .exact g
     .grind
    subst hcc;have hrd:cX H b off (len*n)=Wf ((x.cells.drop off).take (len*n)):=by simp[cX,hx,hst1,hlenx]
    obtain⟨Fn,o1,o2,o3,o4⟩:=h.read hrd hp;refine loose (Wf ⟨p.c,p.s+off,Vc⟩) len c' Fn _ aa h0 Fk (λw' hw'=>?_) o2 o1
    grind[bU.firstCells,run_loadCells_list,wO.cell?]
   .have:=loose (Wf a') 0 0 [] [] aa h0 aa (λw' _=>by simp[bU.firstCells,loadCells,loadCellsFrom]) ac (aE.nil φ)
    grind
  rename_i hunsure;split at hv
  case isFalse=>cases hv
  rename_i hc;obtain⟨hwr,hesz,hend,Is⟩:=hc;simp[Z9,Z5]at hv;obtain⟨rfl,rfl⟩:=hv
  -- the abstract heap is weakened
  have hxs:∀i,(H.set b {x with shared:=Th,ver:=x.ver+1}).get i=if i=b then Wf {x with shared:=Th,ver:=x.ver+1}else H.get i:=AH.get_set hx
  have hwk1:Wk H (H.set b {x with shared:=Th,ver:=x.ver+1}):=⟨λi y hy=>by
   grind⟩
  have hwk:=hwk1.trans (Wk.kill _ (beyond b x.fam (x.start+off+len*n)) (λi y hb=>by grind[beyond]));have hdom:∀i q,φ i=Wf q->∃y,H.get i=Wf y:=λi q hq=>by obtain⟨y,_,_,_,hy,_⟩:=h.dom i q hq;grind
  have hW:=h.weaken hwk
  have hE:=cE.weaken (w:=w) hdom hwk (λi y hn hy hsy=>by
   rw[AH.get_kill,hxs];rcases sv hs with⟨p,c',hp,_,_⟩|⟨a',_,_,_⟩
   .have hib:i≠b:=λe=>by grind
    rw[iN hib,hy];have:beyond b x.fam (x.start+off+len*n) i y=SM:=by simp[beyond,hsy,hib]
    grind
   .have hib:i≠b:=λe=>by grind[afa]
    rw[iN hib,hy];have:beyond b x.fam (x.start+off+len*n) i y=SM:=by simp[beyond,hsy,hib]
    grind)
  generalize hH1:(H.set b {x with shared:=Th,ver:=x.ver+1}).kill (beyond b x.fam (x.start+off+len*n))=H1 at hW hE hwk;have hn1:H1.n=H.n:=by rw[<-hH1];rfl
  have hget1:∀i,H1.get i=(if i=b then Wf {x with shared:=Th,ver:=x.ver+1}else H.get i).map λy=>if beyond b x.fam (x.start+off+len*n) i y then{y with st:=2,ver:=y.ver+1}else y:=by
   intro i;rw[<-hH1,AH.get_kill,hxs]
  have reloc:∀(RC:Option Addr)(Pa In:Nat)(Fn oldA:au),In<Pa+k->k≠0->(Pa+k)*Nd<=140737488355328 ->
    (∀w':wO,w'.heap=w.heap->(bU.firstCells n Pa (.slice RC Pa In)).run X.P w'=.ok Fn.toArray w')->RW Fn=Pa*n->aE φ oldA Fn ->
    ∃ φ' v' w',(bU.append_ ts ty #[.slice RC Pa In,x']).run X.P w=.ok v' w'∧aC φ' (.slice (Wf ⟨H.n,0,Vc⟩) (Pa+k) (Pa+k)) v' ∧
     bB X φ' (H1.push (ma x off n (oldA++cs))) w'∧cE φ H w φ' (H1.push (ma x off n (oldA++cs))) w'∧cY H.n Vc φ φ':=by
   intro RC Pa In Fn oldA hgt hk0 Fk Fd hol hor;obtain⟨nc,cells,hr,r1,r2,r3⟩:=hgr RC Pa In Fn hgt hk0 Fk Fd hol;have hd:bB X φ H1 w.drew:=hW.same_heap rfl;have hrel:=hor.append hl;have hlen2:RW (oldA++cs)=(Pa+k)*n:=by rw[hrel.length,List.length_append,hol,Rg,Nat.add_mul]
   have Fm:(Pa+k)*n<=nc*n:=Zu _ r1
   have hnone:φ H1.n=Vc:=by
    cases hb:φ H1.n with
    |none=>rfl
    | some q=>
     obtain⟨y,hy⟩:=hdom _ _ hb;have:=AH.get_lt hy;omega
   obtain ⟨g1,g2⟩:=hd.new (e:=e) (cs:=cells) hnone (AH.get_push_new H1 (ma x off n (oldA++cs))) (λi hi=>AH.get_push hi) rfl (by grind[ma]) (λi u hu=>by
    obtain⟨u',k1,k2⟩:=hrel.at hu
    grind)
   refine⟨_,_,_,hr,?_,g1,(hE.trans (cE.same_heap (w':=w.drew) rfl)).trans g2,λi q hq hn=>?_⟩
   rotate_left
   .grind[jF]
   simp only[aC];refine⟨_,_,rfl,.inl ⟨rfl,rfl,_,by rw[<-hn1];exact kL _ _ _,rfl,ac,.inr ⟨rfl,?_,r1,?_⟩⟩⟩
   .grind[ma]
   .grind[ma]
  rcases sv hs with⟨p,c',hp,rfl,hcap⟩|⟨a',rfl,rfl,rfl⟩
  .obtain⟨y,cy,ey,fy,y1,y2,y3,y4,y5,y6,y7,y8⟩:=h.dom b p hp;rw[hx]at y1;cases y1;have hrd:cX H b off (len*n)=Wf ((x.cells.drop off).take (len*n)):=by simp[cX,hx,hst1,hlenx]
   obtain⟨Fn,o1,o2,o3,o4⟩:=h.read hrd hp;by_cases hinp:len+k<=c'
   ·-- in KK
    have hroom2:p.s+off+len*n+RW L7<=p.top:=by
     rcases hcap with g|⟨_,_,_,g⟩
     .omega
     .rw[Rg];have:len*n+k*n<=c'*p.esz:=by rw[<-Nat.add_mul,<-y5,hesz];exact Zu _ hinp
      omega
    obtain⟨xb,hxb,k1,k2,k3,k4,_⟩:=hwk.to b x hx
    have hxb2:xb.shared=Th:=by
     have:=hget1 b;rw[hxb,ip rfl]at this;simp[Option.map_some,Z9]at this;rw[this];split<;>rfl
    have holdw:Fn=(List.range (len*n)).map λj=>(w.cell? ⟨p.c,p.s+off+j,Vc⟩).getD undef:=by
     apply Ye;intro j;by_cases hj:j<len*n
     .rw[List.getElem?_map,List.getElem?_range hj];have hj':j<RW Fn:=aa
      grind[qy]
     .rw[List.getElem?_eq_none aa,List.getElem?_eq_none ae]
    have hsm:∀j,j<len*n->(w.cell? ⟨p.c,p.s+off+j,Vc⟩).isSome=Th:=by
     intro j hj;have:=o4 j _ (List.getElem?_eq_getElem (by omega:j<RW Fn));rw[qy]at this;rw[this];rfl
    obtain ⟨φ',g1,g2,g3,g4,g5,g6⟩:=bB.extend hW (b:=b) (off:=off) (n:=n) (m:=len*n) (p:=p) (x:=x) (x0:=xb) hp hxb (k2.trans hwr) k1 k3 k4 hxb2 hlenx hl hroom2
     ae hsm (λi q y hq hy hyst hqc=>by
      rw[hget1]at hy;by_cases ei:i=b
      .subst ei
       grind[beyond]
      .rw[iN ei]at hy;cases hyi:H.get i with
       |none=>grind
       | some y0=>
        rw[hyi]at hy;simp[Option.map_some,Z9]at hy;by_cases hbe:beyond b x.fam (x.start+off+len*n) i y0=Th
        .grind
        .rw[iN hbe]at hy;subst hy;rcases h.sep b i p q x y0 hp hq hx hyi hst1 hyst (λe=>ei e.symm) hqc.symm with⟨s1,_⟩|⟨s1,s2,s3,s4⟩
         .grind
         .simp[beyond,s1,s3,hyst]at hbe;exact⟨s1.symm,s3,s4,aa⟩)
    have hone:∀u∈L7,u.oneCell'=Th:=by
     intro u hum;obtain⟨j,hj,rfl⟩:=Wi hum;have hj':j<RW cs:=by have:=hl.length;omega
     exact(((qB cs L7).1 hl).2 j cs[j] L7[j] (List.getElem?_eq_getElem hj') (List.getElem?_eq_getElem hj)).okCell (Zz.1 Is _ (X2 hj'))
    have DB:=run_storeCells_cells (P:=X.P) p.c (p.s+off+len*n) L7 0 w aa aa hone;have hrun:=hin (Wf ⟨p.c,p.s+off,Vc⟩) len c' _ hinp (.inr ⟨_,rfl,by rw[qy];omega⟩);rw[Nat.add_zero]at hrun;rw[hn1]at g3 g4;refine⟨φ',_,_,hrun,?_,g1,?_,λi q hq hn=>.inl ae⟩
    .simp only[aC];refine⟨_,_,rfl,.inl ⟨rfl,rfl,_,g3,rfl,ac,?_⟩⟩;rcases hcap with g|⟨e1,e2,e3,e4⟩
     .omega
     .refine .inr ⟨rfl,?_,hinp,?_⟩
      .grind
      grind
    .refine⟨g2,by simp[size_setCells],?_,?_,?_,?_,os_setCells ..,Lr ..⟩
     .intro c hc ho;exact heap_setCells_other (λe=>ho ⟨b,p,x,hp,e.symm,hx,hst1,hwr⟩) _ _ _
     .intro i q hq hnone;have:=g4 i q hq hnone;subst this;rw[g3]at hq;cases hq;exact .inr ⟨b,p,x,hp,rfl,hx,hst1,hwr⟩
     .intro i q y' hq hy' h1 h2
      have hi:i≠H1.n:=by
       rw[hn1];obtain⟨z,hz⟩:=hdom i q hq;have:=AH.get_lt hz;omega
      grind[AH.get_push]
     .intro i y hn hy h1 h2
      have hn':φ i=Vc:=by
       cases hb:φ i with
       |none=>rfl
       |some q=>grind
      have hi:i≠H1.n:=by rw[hn1];have:=AH.get_lt hy;omega
      grind[AH.get_push,cE.abs]
   ·-- a new row
    exact reloc (Wf ⟨p.c,p.s+off,Vc⟩) len c' Fn _ aa h0 Fk (λw' hw'=>by
     grind[bU.firstCells,run_loadCells_list,wO.cell?]) o2 o1
  .have:=reloc (Wf a') 0 0 [] [] aa h0 aa (λw' _=>by simp[bU.firstCells,loadCells,loadCellsFrom]) ac (aE.nil φ)
   grind
 trivial
def fN(X:dh)(φ:bI)(H:AH)(w:wO)(rid:Option Nat)(v:vl)(H':AH)(r:Result vl):Prop:=
 ∃φ' v' w',r=.ok v' w'∧aC φ' v v'∧bB X φ' H' w'∧cE φ H w φ' H' w'∧cY H.n rid φ φ'
theorem fN.same(h:bB X φ H w){rid:Option Nat}{v:vl}{r:Result vl}(hr:r=.ok v' w)(hv:aC φ v v'):fN X φ H w rid v H r:=
 ⟨φ,v',w,hr,hv,h,cE.refl _ _ _,cY.refl _ _ _⟩
theorem Gz{o:Option vl}{r:vl}(h:sE o=Wf r):o=Wf r∧plain r=Th:=by
 unfold sE at h
 grind
theorem Gy{v:vl}(h:aC φ v v')(hp:plain v=Th):v'=v:=(aC.of_plain v hp v').1 h
theorem lR{v:vl}(hp:plain v=Th):aC φ v v:=(aC.of_plain v hp v).2 rfl
theorem aqj(h:bB X φ H w){rid:Option Nat}{z:vl}(hz:fX X.P t=Wf z)(hp:plain z=Th){H':AH}(hm:kX H rid z.cells.toList=Wf (b,H')):
  fN X φ H w rid (.pointer (Wf ⟨b,0,Vc⟩)) H' ((Instr.alloc t Th (.tuple #[])).run X.P w):=by
 obtain⟨φ',p,g1,g2,g3,g4,g5,_,g7⟩:=G8 h hm (cs:=z.cells) t (lR hp).cells;refine⟨φ',.pointer (Wf ⟨w.heap.size,0,Vc⟩),_,?_,?_,g1,g2,g7⟩
 .simp[Instr.alloc,zC hz,newVar,newRow]
 .have:=AP (off:=0) g3
  grind
theorem apo(h:bB X φ H w){rid:Option Nat}(hx:aC φ x x'){H':AH}(hm:kX H rid x.cells.toList=Wf (b,H')):
  fN X φ H w rid (.pointer (Wf ⟨b,0,Vc⟩)) H' ((Instr.box t x').run X.P w):=by
 obtain⟨φ',p,g1,g2,g3,g4,g5,_,g7⟩:=G8 h hm (cs:=x'.cells) t hx.cells;refine⟨φ',.pointer (Wf ⟨w.heap.size,0,Vc⟩),_,?_,?_,g1,g2,g7⟩
 .rfl
 .have:=AP (off:=0) g3
  grind
theorem XS{n:Nat}(g3:φ' b=Wf p)(g5:p.s=0):aC φ' (.slice (Wf ⟨b,0,Vc⟩) l c) (.slice (Wf ⟨p.c,0,Vc⟩) l c):=by simp only[aC];exact⟨_,_,rfl,.inl ⟨rfl,rfl,p,g3,rfl,ae,.inl rfl⟩⟩
theorem ai5(h:bB X φ H w){rid:Option Nat}{l c v:vl}{H':AH}(hv:yw X.P H rid t l c=Wf (v,H'))(hl:aC φ l l')(hc:aC φ c c'):
  fN X φ H w rid v H' ((Instr.makeSlice t l' c').run X.P w):=by
 unfold yw at hv;split at hv
 .rename_i e kl l kc c hu;split at hv
  .rename_i n z Nd hn hz hby;split at hv
   .rename_i hcnd;obtain⟨c1,c2,c3,c4,c5,c6,c7⟩:=hcnd;split at hv
    .rename_i b H1 hm;simp[Z9,Z5]at hv;obtain⟨rfl,rfl⟩:=hv;obtain rfl:=t6 hl;obtain rfl:=t6 hc;obtain⟨i,hi,i1,i2,i3⟩:=HR hn hz hby;subst i1;subst i3;have hrun:=run_make (P:=X.P) w t e i z hu hi i2 kl kc l c c4 c5 c6 c7
     have hcl:(madeCells z.cells (c.toNat*i.size)).toList=fj z.cells.toList (c.toNat*i.size):=by
      have:=Cp c2 c3 (c.toNat*i.size);unfold madeCells;rw[<-this]
     obtain⟨φ',p,g1,g2,g3,g4,g5,_,g7⟩:=G8 h hm (cs:=madeCells z.cells (c.toNat*i.size)) e (by grind[EM]);refine⟨φ',_,_,hrun,?_,g1,g2,g7⟩;rw[<-g4];exact XS (n:=0) g3 g5
    trivial
   trivial
  trivial
 trivial
theorem apm(h:bB X φ H w){rid:Option Nat}{t:tI}{len:Nat}{ps ps':Array (Nat×vl)}{v:vl}{H':AH}(hv:rG X.P H rid t len ps=Wf (v,H'))
  (h1:ps.toList.map (·.1)=ps'.toList.map (·.1)) (h2:aE φ (ps.toList.map (·.2)) (ps'.toList.map (·.2))) :
  fN X φ H w rid v H' ((Instr.buildSlice t len ps').run X.P w):=by
 unfold rG at hv;split at hv
 .rename_i e hu;split at hv
  .rename_i n z hn hz;split at hv
   .rename_i hcnd;obtain⟨c1,c2,c3,c4⟩:=hcnd;split at hv
    .rename_i cs hf;split at hv
     .rename_i b H1 hm;simp[Z9,Z5]at hv;obtain⟨rfl,rfl⟩:=hv;have hze:=Cp c2 c3 (len*n);obtain⟨L7,hf',hl⟩:=Ij (φ:=φ) _ _ _ (fj z.cells.toList (len*n)).toArray (fj z.cells.toList (len*n)).toArray _ h1 h2 (by grind[EM]) hf;obtain⟨φ',p,g1,g2,g3,g4,g5,_,g7⟩:=G8 h hm (cs:=L7) e hl
      refine⟨φ',.slice (Wf ⟨w.heap.size,0,Vc⟩) len len,_,?_,?_,g1,g2,g7⟩
      .rw[hze]at hf';have c4':¬(2^24<len*n):=aa;by_cases h0:len*n=0
       .rw[h0]at hf';simp[Array.range_zero',Array.map_empty]at hf';simp[Instr.buildSlice,cT hu,kT hn,h0,hf',newRow,Array.range_zero']
       .simp[Instr.buildSlice,cT hu,kT hn,zC hz,h0,hf',newRow];omega
      .rw[<-g4];exact XS (n:=0) g3 g5
     trivial
    trivial
   trivial
  trivial
 trivial
theorem ais{y:vl}(h:kV d x y=Th)(hx:aC φ x x')(hy:aC φ y y'):
  kV d x' y'=Th∧isNil x'=isNil x∧isNil y'=isNil y:=by
 unfold kV at h;split at h
 .rename_i e a n c b m k;cases a<;>cases b<;>simp[aC]at hx hy<;>(try obtain⟨_,_,rfl,_⟩:=hx)<;>(try subst hx)<;>(try obtain⟨_,_,rfl,_⟩:=hy)<;>(try subst hy)<;>simp[kV,isNil]
 .rename_i e a b;cases a<;>cases b<;>simp[aC]at hx hy<;>(try obtain⟨_,rfl,_⟩:=hx)<;>(try subst hx)<;>(try obtain⟨_,rfl,_⟩:=hy)<;>(try subst hy)<;>simp[kV,isNil]
 .rename_i fn x1 y1;obtain⟨x1⟩:=x1;obtain⟨y1⟩:=y1;simp[aC]at hx hy
  grind[kV,isNil]
 .rename_i fn x1 y1;obtain⟨x1⟩:=x1;obtain⟨y1⟩:=y1;simp[aC]at hx hy
  grind[kV,isNil]
 .grind[aC,kV]
 .cases h
theorem aiu{y:vl}{p q:Bool}(hk:kV (P.underlying t) x y=Th)(hx:isNil x=Wf p)(hy:isNil y=Wf q)(h:p=Th∨q=Th)(w:wO):
  (Op.equal t x y).run P w=.ok (p&&q) w:=by
 obtain⟨d,hd⟩:∃d,Op.maxDepth=d+1:=⟨9999,rfl⟩;unfold Op.equal;rw[hd];unfold kV at hk;split at hk
 .rename_i e a n c b m k hu;simp[isNil,Z9]at hx hy;subst hx;subst hy;cases a with
  |none=>cases b<;>simp[Op.equalIn,cT hu]
  | some a=>cases b with
   |none=>simp[Op.equalIn,cT hu]
   |some b=>grind
 .rename_i e a b hu;simp[isNil,Z9]at hx hy;subst hx;subst hy;cases a with
  |none=>cases b<;>simp[Op.equalIn,cT hu]
  | some a=>cases b with
   |none=>simp[Op.equalIn,cT hu]
   |some b=>grind
 .rename_i hu;simp only[isNil,Z9]at hx hy;subst hx;subst hy;simp[Op.equalIn,cT hu]
 .rename_i hu;simp only[isNil,Z9]at hx hy;subst hx;subst hy;simp[Op.equalIn,cT hu]
 .rename_i hu;simp only[isNil,Z9]at hx hy;subst hx;subst hy;simp[Op.equalIn,cT hu]
 trivial
theorem ait{y:vl}(hk:kV (P.underlying t) x y=Th)(w:wO):
  (eqGuard op t ox oy x y).run P w=.ok () w:=by unfold kV at hk;split at hk<;>first|(cases hk;done)|(unfold eqGuard;cases op<;>simp)
theorem aiz{y:vl}(hk:kV d x y=Th):binOp .eql t x y=(do pure (.bool (<-Op.equal t x y))):=by unfold kV at hk;split at hk<;>first|(cases hk;done)|rfl
theorem aiy{y:vl}(hk:kV d x y=Th):binOp .neq t x y=(do pure (.bool (!(<-Op.equal t x y)))):=by unfold kV at hk;split at hk<;>first|(cases hk;done)|rfl
theorem aiw{y v:vl}(hv:Dn X.P op t x y=Wf v)(hx:aC φ x x')(hy:aC φ y y'):
  (do eqGuard op t ox oy x' y';binOp op t x' y').run X.P w=.ok v w∧plain v=Th:=by
 unfold Dn at hv;split at hv
 case isFalse=>cases hv
 case isTrue hk=>
 obtain⟨hk',nx,ny⟩:=ais hk hx hy;split at hv
 all_goals first|(cases hv;done)|skip
 all_goals
  simp[Z9]at hv;subst hv;rename_i e1 e2;rw[<-nx]at e1;rw[<-ny]at e2;refine⟨?_,rfl⟩;rw[Sem.run_bind,ait hk',Result.andThen_ok]
  first|rw[aiz hk']|rw[aiy hk']
  simp[aiu hk' e1 e2 ac]
theorem apw{y v:vl}(hv:kI X.P op t ox oy x y=Wf v)(hx:aC φ x x')(hy:aC φ y y'):
  ∃v',(do eqGuard op t ox oy x' y';binOp op t x' y').run X.P w=.ok v' w∧aC φ v v':=by
 unfold kI at hv;split at hv
 .rename_i hp;simp[Z7]at hp;obtain rfl:=Gy hx hp.1;obtain rfl:=Gy hy hp.2;split at hv
  .rename_i r hr;split at hv
   .simp_all[AN,lR]
   trivial
  trivial
 .obtain⟨h1,h2⟩:=aiw (w:=w) (ox:=ox) (oy:=oy) hv hx hy
  grind[lR]
theorem ai6{v:vl}(hv:LW X.P t x=Wf v)(hx:aC φ x x'):
  ∃v',(Instr.makeInterface t x').run X.P w=.ok v' w∧aC φ v v':=by
 unfold LW at hv;split at hv
 .cases hv
 .cases hv
 .rename_i d hd _ hu;simp[Z9]at hv;subst hv;refine⟨.iface t x',?_,by grind[aC]⟩
  cases d<;>first
   |(exact absurd rfl (hd _);done)
   |simp[Instr.makeInterface,cT hu]
theorem aaL:∀{l l':au}{bs:bA},bytesOf l=Wf bs→aE φ l l'→l'=l∧∀(acc:ByteArray),
  (forIn (m:=Sem) l acc (λc (s:ByteArray)=>match c with
   |.int .u8 n=>pure (ForInStep.yield (s.push (UInt8.ofNat n.toNat)))
   | _=>do
    (stuck "bytesToString: byte expected" : Sem PUnit)
    pure (ForInStep.yield s))).run X.P w=.ok ⟨acc.data++bs.toArray⟩ w
 | [],l',bs,hb,hl=>by
  simp_all[bytesOf,aE]
 | v::l,l',bs,hb,hl=>by
  simp[aE]at hl;obtain⟨u,r,rfl,hv,hr⟩:=hl;simp[bytesOf]at hb;split at hb
  .rename_i b rs hb1 hb2;simp[Z9]at hb;subst hb;obtain⟨rfl,ih⟩:=aaL hb2 hr;unfold Oz at hb1;split at hb1
   .rename_i n;split at hb1
    .simp[Z9]at hb1;subst hb1;obtain rfl:=t6 hv
     simp_all
    trivial
   trivial
  trivial
theorem aov(h:bB X φ H w){rid:Option Nat}{s d:tI}{v:vl}{H':AH}(hv:oH X.P H s d x=Wf (v,H'))(hx:aC φ x x'):
  fN X φ H w rid v H' ((convert s d x').run X.P w):=by
 have hplain:(if plain x then(sE (pv X.P (convert s d x))).map λr=>(r,H)else Vc)=Wf (v,H')->fN X φ H w rid v H' ((convert s d x').run X.P w):=by
  intro hv;split at hv
  .rename_i hp;simp[Z3,Z5]at hv;obtain⟨r,hr,rfl,rfl⟩:=hv;obtain⟨h1,h2⟩:=Gz hr;obtain rfl:=Gy hx hp
   simp_all[fN.same,AN,lR]
  .cases hv
 unfold oH at hv;split at hv
 .rename_i ds e str hs hd;split at hv
  .rename_i he;simp[Z9,Z5]at hv;obtain⟨rfl,rfl⟩:=hv;obtain rfl:=AM hx;have jz:bB X φ H w.drew:=h.same_heap rfl
   let bs:au:=str.data.toList.map λb=>vl.int .u8 b.toNat
   let cap:=(Question.appendCap str.size 0 e).cut (w.tape w.drawn (.appendCap str.size 0 e))
   have hcap:str.size<=cap:=Nat.le_add_right _ _
   let cs:Array vl:=(str.data.map λb=>vl.int .u8 b.toNat)++Array.replicate (cap-str.size) (.int .u8 0)
   have hlb:RW bs=str.size:=by simp only[bs,List.length_map,Array.length_toList];rfl
   have hcs:cs.size=cap:=by
    have:(str.data.map λb=>vl.int .u8 b.toNat).size=str.size:=by rw[Array.size_map];rfl
    simp[cs,Array.size_append,this,Array.size_replicate];omega
   obtain ⟨φ',p,g1,g2,g3,g4,g5,g6,g7,g8,g9,g10⟩:=Ux (w:=w.drew) jz (n:=1) (cells:=bs) (cs:=cs) e (cs.size,cs.size+1) (λi hi=>by omega) aa (λi u hu=>by
    refine⟨u,?_,?_⟩
    ·have hi:i<RW bs:=by
      rcases Zi i (RW bs) with h'|h'
      .exact h'
      .grind
     grind
    grind[oz])
   refine⟨φ',.slice (Wf ⟨w.heap.size,0,Vc⟩) str.size cap,_,?_,?_,g1,(cE.same_heap (w:=w) (w':=w.drew) rfl).trans g2,λi p hp hn=>(g10 i p hp hn).imp id (λg=>by cases g)⟩
   .rw[<-alH];simp only[convert,Sem.run_bind,cT hs,cT hd,cT he,Result.andThen_ok,Conv.stringToBytes];have hfo:(Question.appendCap str.size 0 e).forced=SM:=rfl
    have hsh:(w.drew.alloc (.cells cs e)).shape? w.heap.size=Wf (e,cs.size):=by
     have:=heap_alloc_new w.drew (.cells cs e);simp only[wO.size_drew]at this;unfold wO.shape?;rw[this]
    simp[run_choose,hfo,Zg,iF,Result.andThen_ok,newRow,Sem.run_bind,run_newObj,wO.alloc_eq,wO.drew_eq,Sem.run_pure,markStringish,run_shape,hsh,run_freeze,wO.size_drew]
    grind[Result.andThen,Sem.run,freeze]
   .simp only[aC];refine⟨_,_,rfl,.inl ⟨rfl,rfl,p,g3,g4.symm,ae,.inr ⟨g6,?_,hcap,?_⟩⟩⟩
    .grind
    grind
  trivial
 .rename_i e a len cap hs hd;split at hv
  .rename_i he;split at hv
   .simp[Z9,Z5]at hv;obtain⟨rfl,rfl⟩:=hv;obtain rfl:=sy hx;refine fN.same h ?_ J3;simp[convert,cT hs,cT hd,cT he,Conv.bytesToString]
   .rename_i b off;split at hv
    .rename_i cs hc;simp[Z3,Z5]at hv;obtain⟨bs,hb,rfl,rfl⟩:=hv;refine fN.same h ?_ J3
     have fin:∀(a':Addr)(c':Nat)(L7:au),(loadCells a' len).run X.P w=.ok L7.toArray w->aE φ cs L7->(convert s d (.slice (Wf a') len c')).run X.P w=.ok (.string ⟨bs.toArray⟩) w:=by
      intro a' c' L7 hl hr;obtain⟨rfl,hf⟩:=aaL (X:=X) (w:=w) hb hr;have:=hf ByteArray.empty;simp only[convert,Sem.run_bind,cT hs,cT hd,cT he,Result.andThen_ok,Conv.bytesToString,hl];simp only[List.forIn_toArray];refine Eq.trans (RT (λr=>Result.andThen r λa w'=>Sem.run X.P (pure (vl.string a)) w') this) ?_;simp
     split at hc
     .rename_i h0;split at hc
      case isFalse=>cases hc
      simp only[Z9]at hc;subst hc;subst h0;obtain⟨a',c',rfl,_⟩:=oh hx
      simp_all[loadCells,loadCellsFrom,aE.nil]
     grind[sv,UD]
    trivial
   trivial
  trivial
 grind
def gS(X:dh)(φ:bI)(H:AH)(w:wO)(rid:Option Nat)(v:vl)(H':AH)(r:Result Next):Prop:=
 ∃φ' v' w',(r=.ok (.value v') w'∨(r=.ok .skip w'∧v'=undef))∧aC φ' v v'∧bB X φ' H' w'∧cE φ H w φ' H' w'∧cY H.n rid φ φ'
theorem fN.of_none{rid:Option Nat}{v:vl}{H':AH}{r:Result vl}(hs:fN X φ H w Vc v H' r):fN X φ H w rid v H' r:=by obtain⟨φ',v',w',hr,h1,h2,h3,h4⟩:=hs;exact⟨φ',v',w',hr,h1,h2,h3,λi p hp hn=>(h4 i p hp hn).imp id (λg=>by cases g)⟩
theorem gS.of_sim{rid:Option Nat}{v:vl}{H':AH}{s:Sem vl}(hs:fN X φ H w rid v H' (s.run X.P w)):gS X φ H w rid v H' ((do pure (.value (<-s)):Sem Next).run X.P w):=by obtain⟨φ',v',w',hr,h1,h2,h3,h4⟩:=hs;exact⟨φ',v',w',.inl (by simp[hr]),h1,h2,h3,h4⟩
theorem gS.of_val(h:bB X φ H w){rid:Option Nat}{v:vl}{s:Sem vl}(hs:∃v',s.run X.P w=.ok v' w∧aC φ v v'):gS X φ H w rid v H ((do pure (.value (<-s)):Sem Next).run X.P w):=by grind[of_sim,fN.same]
theorem aE.map_mem{α:Type}{f g:α->vl}:∀(l:List α),(∀x∈l,aC φ (f x) (g x))->aE φ (l.map f) (l.map g)
 |[],_=>aE.nil φ
 |x::l,h=>aE.cons (h x ac) (aE.map_mem l (λy hy=>h y ae))
theorem N9{P:pG}{t tx ty e:tI}(ht:P.underlying t=Wf (.slice e)){n:Nat}(hn:cn P e=Wf n){RC:Option Addr}{dLen dCap:Nat}{x':vl}
  {k m:Nat} {L7:au} {w w':wO} (Rg:(bU.lenOf x').run P w=.ok k w) (hm:m=min k dLen) (hc:(bU.firstCells n m x').run P w=.ok L7.toArray w)
  (DB:RC=Vc∧w'=w∨∃a,RC=Wf a∧(storeCells a L7).run P w=.ok () w') :
  (bU.copy_ #[t,tx] ty #[.slice RC dLen dCap,x']).run P w=.ok (.int .i64 m) w':=by
 have hmn:Nat.min k dLen=m:=hm.symm;rcases DB with⟨rfl,rfl⟩|⟨a,rfl,h⟩
 .simp_all[bU.copy_,goInt,cT,kT]
 simp_all[bU.copy_,goInt,cT,kT]
theorem aee(h:bB X φ H w){cs:au}(hs:fH H n x=Wf (k,cs))(hx:aC φ x x')(m:Nat)(hm:m<=k):
  ∃L7,aE φ (cs.take (m*n)) L7∧RW L7=m*n∧(bU.lenOf x').run X.P w=.ok k w∧(bU.firstCells n m x').run X.P w=.ok L7.toArray w:=by
 unfold fH at hs;split at hs
 .simp only[Z9,Z5]at hs;obtain⟨rfl,rfl⟩:=hs;obtain rfl:=sy hx;have:m=0:=aa;subst this;exact⟨[],by simp[aE.nil],ac,aM,aM⟩
 .rename_i b off len cap;split at hs
  .rename_i h0;simp only[Z9,Z5]at hs;obtain⟨rfl,rfl⟩:=hs;subst h0;obtain⟨a',c',rfl,_⟩:=oh hx;have:m=0:=aa;subst this;exact⟨[],by simp[aE.nil],ac,aM,by simp[bU.firstCells,loadCells,loadCellsFrom]⟩
  .rename_i h0;simp only[Z3,Z5]at hs;obtain⟨cs0,hc,rfl,rfl⟩:=hs;rcases sv hx with⟨p,c',hp,rfl,_⟩|⟨a',rfl,h00,_⟩
   .have hmn:m*n<=len*n:=Zu _ hm;obtain⟨csf,h1,h2,h3,h4⟩:=h.read hc hp;refine⟨csf.take (m*n),h1.take _,ae,aM,?_⟩;simp[bU.firstCells];have hl:RW (csf.take (m*n))=m*n:=by simp;omega
    grind[run_loadCells_list]
   omega
 .rename_i s;split at hs
  .rename_i h1;simp[Z9,Z5]at hs;obtain⟨rfl,rfl⟩:=hs;subst h1;obtain rfl:=AM hx;have hsz:RW s.data.toList=s.size:=by rw[Array.length_toList];rfl
   refine⟨_,(aE.map (λ_=>oz) s.data.toList).take (m*1),ae,aM,?_⟩;simp only[bU.firstCells,Sem.run_pure];congr 1;apply Array.ext'
   have:(s.extract 0 m).data.toList=s.data.toList.take m:=by
    simp[ByteArray.data_extract,List.extract_eq_take_drop]
   simp
  trivial
 trivial
theorem aoN{P:pG}{t ty e:tI}(ht:P.underlying t=Wf (.slice e)){n:Nat}{z:vl}(hn:cn P e=Wf n)(hz:fX P e=Wf z)(hzs:z.cells.size=n)(h0:0<n)
  {a:Addr} {len cap:Nat} (hl:len≠0) {w w':wO} (DB:(storeCells a (fj z.cells.toList (len*n))).run P w=.ok () w') :
  (bU.clear_ #[t] ty #[.slice (Wf a) len cap]).run P w=.ok (.tuple #[]) w':=by
 have hz2:(bU.zeroCells z.cells len).toList=fj z.cells.toList (len*n):=by
  have hze:=Cp hzs h0 (len*n);rw[hzs]at hze;rw[bU.zeroCells,hzs,<-hze]
 simp_all[bU.clear_,cT,zC]
theorem aoO(ht:P.underlying t=Wf (.slice e)){w:wO}:
  (bU.clear_ #[t] ty #[.slice Vc len cap]).run P w=.ok (.tuple #[]) w:=by simp[bU.clear_,cT ht]
theorem aoM(ht:P.underlying t=Wf (.slice e)){a:Option Addr}{w:wO}:
  (bU.clear_ #[t] ty #[.slice a 0 cap]).run P w=.ok (.tuple #[]) w:=by cases a<;>simp[bU.clear_,cT ht]
theorem api(h:bB X φ H w){rid:Option Nat}{b:bU}{v:vl}{H':AH}(hv:fM X.P H b ts t args=Wf (v,H'))(ha:aE φ args GS)(consts:Array Bool):
  gS X φ H w rid v H' ((builtin b ts t consts GS.toArray).run X.P w):=by
 unfold fM at hv;split at hv
 ·-- len
  rename_i x;simp only[aE]at ha;obtain⟨x',_,rfl,hx,rfl⟩:=ha;refine gS.of_sim (s:=bU.len_ ts t [x'].toArray) ?_;split at hv
  .rename_i s hu;simp[Z9,Z5]at hv;obtain⟨rfl,rfl⟩:=hv;obtain⟨t0,ht0,hu⟩:=Ym.1 hu;obtain rfl:=AM hx
   simp_all[fN.same,bU.len_,goInt,cT,oz]
  .rename_i e a n c hu;simp[Z9,Z5]at hv;obtain⟨rfl,rfl⟩:=hv;obtain⟨t0,ht0,hu⟩:=Ym.1 hu;cases a with
   | none=>
    obtain rfl:=sy hx
    simp_all[fN.same,bU.len_,goInt,cT,oz]
   | some a=>
    obtain⟨a',c',rfl,_⟩:=oh hx
    simp_all[fN.same,bU.len_,goInt,cT,oz]
  .rename_i n e hu;simp[Z9,Z5]at hv;obtain⟨rfl,rfl⟩:=hv;obtain⟨t0,ht0,hu⟩:=Ym.1 hu
   simp_all[fN.same,bU.len_,goInt,cT,oz]
  trivial
 ·-- cap
  rename_i x;simp only[aE]at ha;obtain⟨x',_,rfl,hx,rfl⟩:=ha;refine gS.of_sim (s:=bU.cap_ ts t [x'].toArray) ?_;split at hv
  .rename_i e hu;simp[Z3,Z5]at hv;obtain⟨n,hc,rfl,rfl⟩:=hv;obtain⟨t0,ht0,hu⟩:=Ym.1 hu;unfold Es at hc;split at hc
   .cases hc;obtain rfl:=sy hx
    simp_all[fN.same,bU.cap_,goInt,cT,oz]
   .rename_i b off len c;split at hc
    .rename_i y hy;split at hc
     .rename_i hcond;obtain⟨_,hcond⟩:=hcond;cases hc;rcases sv hx with⟨p,c',hp,rfl,hcap⟩|⟨a',rfl,rfl,rfl⟩
      ·have:c'=n:=by
        obtain⟨z,_,_,_,z1,z2,z3,z4,z5,_⟩:=h.dom _ _ hp;rw[hy]at z1;cases z1;rcases hcap with g|⟨g1,g2,_⟩
        .exact g
        .grind
       simp_all[fN.same,bU.cap_,goInt,cT,oz]
      simp_all[fN.same,bU.cap_,goInt,cT,oz]
     trivial
    trivial
   trivial
  trivial
 ·-- append
  rename_i s x;simp only[aE]at ha;obtain⟨s',_,rfl,hs,x',_,rfl,hx,rfl⟩:=ha;refine gS.of_sim (s:=bU.append_ ts t [s',x'].toArray) ?_;split at hv
  .rename_i e d hu hd;obtain⟨t0,ht0,hu⟩:=Ym.1 hu;obtain⟨t1,ht1,hd⟩:=Ym.1 hd
   have hts:bU.append_ ts t [s',x'].toArray=bU.append_ #[t0,t1] t #[s',x']:=by
    unfold bU.append_;simp only[ht0,ht1];rfl
   rw[hts];split at hv
   .rename_i n Nd z hn hby hz;split at hv
    .cases hv
    rename_i hcond;simp[not_or,ne_eq,Decidable.not_not]at hcond;obtain⟨c1,c2,c3⟩:=hcond;have hn0:0<n:=aa;have hb0:0<Nd:=aa;split at hv
    .rename_i kd kd' k;split at hv
     .rename_i hc;obtain⟨d1,d2,d3,d4⟩:=hc;obtain rfl:=t6 hx;obtain⟨m,rfl⟩:=Int.eq_ofNat_of_zero_le d3;simp[Int.toNat_natCast]at hv
      have hk:m*Nd<=140737488355328:=by
       have:((m*Nd:Nat):Int)<=140737488355328:=by rw[Int.natCast_mul];exact d4
       omega
      refine fN.of_none (abg h hv hs (EM d1 _) (by simp[fj]) e
       (λRC Pa In w' Fm DB=>abI hu hd hn hz hby c3 hn0 hb0 hk Fm DB)
       (λRC Pa In Fn hgt hk0 Fk Fd hl=>abJ hu hd hn hz hby c3 hn0 hb0 hgt hk0 Fk Fd hl))
     trivial
    .cases hv
    .rename_i hnot1 hnot2;split at hv
     .rename_i k cs hsrc;obtain⟨L7,r1,r2,r3⟩:=aef h hsrc hx
      have hdi:∀k,d≠.int k:=by
       intro kd hd';subst hd'
       first|exact hnot2 _ rfl|grind|exact hnot2 _ _ rfl|exact hnot1 _ _ rfl
      refine fN.of_none (abg h hv hs r1 r2 e
       (λRC Pa In w' Fm DB=>akS hu hd hdi hn r3 Fm DB)
       (λRC Pa In Fn hgt hk0 Fk Fd hl=>alp hu hd hdi hn hz hby c3 hb0 hn0 r3 hgt Fk Fd hl r2))
     trivial
   trivial
  trivial
 ·-- copy
  rename_i RC dLen dCap src;simp only[aE]at ha;obtain⟨s',_,rfl,hs,x',_,rfl,hx,rfl⟩:=ha;refine gS.of_sim (s:=bU.copy_ ts t [s',x'].toArray) ?_;split at hv
  .rename_i e hu;obtain⟨t0,ht0,hu⟩:=Ym.1 hu
   have hts:bU.copy_ ts t [s',x'].toArray=bU.copy_ #[t0,t0] t #[s',x']:=by
    unfold bU.copy_;simp only[ht0];rfl
   rw[hts];split at hv
   .rename_i n hn;split at hv
    .rename_i k cs hsrc;simp only at hv;obtain⟨L7,r1,r2,r3,r4⟩:=aee h hsrc hx (min k dLen) aa;split at hv
     .simp[Z9,Z5]at hv;obtain⟨rfl,rfl⟩:=hv;obtain rfl:=sy hs
      simp_all[fN.same,N9,oz]
     .rename_i b off;split at hv
      .rename_i h0;simp[Z9,Z5]at hv;obtain⟨rfl,rfl⟩:=hv;obtain⟨a',c',rfl,_⟩:=oh hs;have:L7=[]:=Yd.1 ae;subst this;exact fN.same h (N9 hu hn r3 rfl r4 (.inr ⟨a',rfl,rfl⟩)) oz
      .rename_i h0;simp only[Z3,Z5]at hv;obtain⟨H1,hw,rfl,rfl⟩:=hv;rcases sv hs with⟨p,c',hp,rfl,_⟩|⟨a',rfl,h00,_⟩
       .obtain⟨g1,g2,g3,g4,g5⟩:=h.write hw hp r1;have DB:=run_storeCells_cells (P:=X.P) p.c (p.s+off) L7 0 w aa aa g5;exact⟨φ,_,_,N9 hu hn r3 rfl r4 (.inr ⟨_,rfl,DB⟩),oz,aa,aa,cY.refl _ _ _⟩
       .omega
     trivial
    trivial
   trivial
  trivial
 ·-- clear
  rename_i RC len cap;simp only[aE]at ha;obtain⟨s',_,rfl,hs,rfl⟩:=ha;refine gS.of_sim (s:=bU.clear_ ts t [s'].toArray) ?_;split at hv
  .rename_i e hu;obtain⟨t0,ht0,hu⟩:=Ym.1 hu
   have hts:bU.clear_ ts t [s'].toArray=bU.clear_ #[t0] t #[s']:=by
    unfold bU.clear_;simp only[ht0];rfl
   rw[hts];split at hv
   .rename_i n z hn hz;split at hv
    .simp[Z9,Z5]at hv;obtain⟨rfl,rfl⟩:=hv;obtain rfl:=sy hs;exact fN.same h (aoO hu) (lR rfl)
    .rename_i b off;split at hv
     .rename_i hc;obtain⟨c1,c2,c3⟩:=hc;split at hv
      .rename_i h0;simp[Z9,Z5]at hv;obtain⟨rfl,rfl⟩:=hv;subst h0;obtain⟨a',c',rfl,_⟩:=oh hs;exact fN.same h (aoM hu) (lR rfl)
      .rename_i h0;simp only[Z3,Z5]at hv;obtain⟨H1,hw,rfl,rfl⟩:=hv;rcases sv hs with⟨p,c',hp,rfl,_⟩|⟨a',rfl,h00,_⟩
       .obtain⟨g1,g2,g3,g4,g5⟩:=h.write hw hp (EM c1 (len*n));have DB:=run_storeCells_cells (P:=X.P) p.c (p.s+off) _ 0 w aa aa g5;exact⟨φ,_,_,aoN hu hn hz c2 c3 h0 DB,lR rfl,aa,aa,cY.refl _ _ _⟩
       omega
     trivial
    trivial
   trivial
  trivial
 ·-- min
  split at hv
  .rename_i hp;simp[Z3,Z5]at hv;obtain⟨r,hr,rfl,rfl⟩:=hv;obtain⟨h1,h2⟩:=Gz hr;obtain rfl:=(aE.of_plain args hp GS).1 ha;exact gS.of_sim (s:=bU.min_ ts t GS.toArray) (fN.same h (AN _ _ _ h1 w) (lR h2))
  trivial
 .split at hv
  .rename_i hp;simp[Z3,Z5]at hv;obtain⟨r,hr,rfl,rfl⟩:=hv;obtain⟨h1,h2⟩:=Gz hr;obtain rfl:=(aE.of_plain args hp GS).1 ha;exact gS.of_sim (s:=bU.max_ ts t GS.toArray) (fN.same h (AN _ _ _ h1 w) (lR h2))
  trivial
 trivial
def yf(o:oR):Bool:=o.op.operands.all t8
theorem GD(h:bB X φ H w){a:au}(ha:aE φ a LT.tmps.toList):∀{xs:Array oP},(∀x∈xs,t8 x=Th)->aE φ ((xs.map (ev X a)).toList) ((xs.map LT.eval).toList):=by grind[Array.toList_map,aE.map_mem,dE]
theorem Lv(h:bB X φ H w){a:au}{LT:Act}(ha:aE φ a LT.tmps.toList){o:oR}(ho:yf o=Th){rid:Option Nat}{v:vl}{H':AH}
  (DQ:∀t r z,o.op=.alloc t->rid=Wf r->fX X.P t=Wf z->φ r=Vc∧H.get r=Wf (fresh r z.cells.toList)) (hv:du X rid H a o=Wf (v,H')) :
  gS X φ H w rid v H' ((execOp LT.eval o).run X.P w):=by
 have Is:∀x∈o.op.operands,t8 x=Th:=λx hx=>X1.1 ho x hx
 have E:∀{x},x∈o.op.operands->aC φ (ev X a x) (LT.eval x):=λhx=>dE h ha (Is _ hx)
 unfold du at hv;simp only at hv;unfold execOp
 have parts:∀{ps:Array (Nat×oP)},(∀x∈ps.toList.map (·.2),t8 x=Th) ->
   (ps.map λ(x:Nat×oP)=>(x.1,ev X a x.2)).toList.map (·.1)=(ps.map λ(x:Nat×oP)=>(x.1,LT.eval x.2)).toList.map (·.1) ∧
   aE φ ((ps.map λ(x:Nat×oP)=>(x.1,ev X a x.2)).toList.map (·.2)) ((ps.map λ(x:Nat×oP)=>(x.1,LT.eval x.2)).toList.map (·.2)):=by
  intro ps hps;constructor
  .simp
  .simp[Array.toList_map,Wa];refine aE.map_mem _ (λx hx=>dE h ha (hps x.2 (List.mem_map_of_mem hx)))
 split at hv
 ·-- move
  rename_i x DS;simp only[DS]at E ⊢;simp[Z9,Z5]at hv;obtain⟨rfl,rfl⟩:=hv;exact⟨φ,_,w,.inl rfl,E dp,h,cE.refl _ _ _,cY.refl _ _ _⟩
 .rename_i x DS;simp only[DS]at E ⊢;simp[Z9,Z5]at hv;obtain⟨rfl,rfl⟩:=hv;exact⟨φ,_,w,.inl rfl,E dp,h,cE.refl _ _ _,cY.refl _ _ _⟩
 ·-- pick
  rename_i c x y DS;simp only[DS]at E ⊢;split at hv
  .rename_i b hb;simp[Z9,Z5]at hv;obtain⟨rfl,rfl⟩:=hv;have hc:=E (x:=c) dp;rw[hb]at hc;have hc':=Gi hc;refine⟨φ,if b then LT.eval x else LT.eval y,w,.inl ?_,?_,h,cE.refl _ _ _,cY.refl _ _ _⟩
   .simp_all[asBool]
   .cases b
    .exact E dp
    .exact E dp
  trivial
 ·-- alloc
  rename_i t DS;simp only[DS]at E ⊢;split at hv
  .rename_i z hz;split at hv
   .rename_i hp;cases rid with
    | none=>
     simp[Z9,Z5]at hv;obtain⟨rfl,rfl⟩:=hv;exact gS.of_sim (aqj (rid:=none) h hz hp rfl)
    | some r=>
     simp[Z9,Z5]at hv;obtain⟨rfl,rfl⟩:=hv;obtain⟨hn,hg⟩:=DQ t r z DS rfl hz
     obtain ⟨g1,g2⟩:=h.new (e:=t) (cs:=z.cells) hn hg (λi _=>rfl) rfl (by simp[fresh]) (λi u hu=>by
      simp only[fresh]at hu;rw[Array.getElem?_toList]at hu
      exact ⟨u,hu,by
       have:=((lR (φ:=φ) hp).cells).at (i:=i) (v:=u) ae
       grind⟩)
     refine gS.of_sim (s:=Instr.alloc t Th (.tuple #[])) ⟨_,.pointer (Wf ⟨w.heap.size,0,Vc⟩),_,?_,?_,g1,g2,λi q hq hn'=>?_⟩
     .simp[Instr.alloc,zC hz,newVar,newRow]
     .have:=AP (off:=0) (kL φ r ⟨w.heap.size,0,(fresh r z.cells.toList).cells.length,(fresh r z.cells.toList).esz,z.cells.size,(fresh r z.cells.toList).exact⟩);omega
     .by_cases e':i=r
      .exact .inr (by rw[e'])
      grind[jF]
   trivial
  trivial
 ·-- box
  rename_i t x DS;simp only[DS]at E ⊢;simp only[Z3,Z5]at hv;obtain⟨⟨b,H1⟩,hm,rfl,rfl⟩:=hv;exact gS.of_sim (apo h (E dp) hm)
 ·-- build
  rename_i t ps DS;simp only[DS]at Is ⊢;simp[Z3,Z5]at hv;obtain⟨u,hu,rfl,rfl⟩:=hv;obtain⟨p1,p2⟩:=parts (ps:=ps) (λx hx=>Is x (by grind[Op.operands]));exact gS.of_val h (apl hu p1 p2)
 ·-- buildSlice
  grind[Op.operands,gS.of_sim,apm]
 ·-- load
  rename_i t x DS;simp only[DS]at E ⊢;simp[Z3,Z5]at hv;obtain⟨u,hu,rfl,rfl⟩:=hv;exact gS.of_val h (UC h hu (E dp))
 ·-- store
  rename_i t x y DS;simp only[DS]at E ⊢;simp only[Z3,Z5]at hv;obtain⟨H1,hu,rfl,rfl⟩:=hv;obtain⟨w',g1,g2,g3⟩:=ad4 h hu (E (x:=x) dp) (E (x:=y) dp);exact⟨φ,undef,w',.inr ⟨by simp[g1],rfl⟩,aC.undef φ,g2,g3,cY.refl _ _ _⟩
 ·-- nilCheck
  rename_i x DS;simp only[DS]at E ⊢;split at hv
  .rename_i p hp;simp[Z9,Z5]at hv;obtain⟨rfl,rfl⟩:=hv;have hx:=E (x:=x) dp;rw[hp]at hx;have hx':=hx;simp[aC]at hx';obtain⟨a',e,_⟩:=hx';exact⟨φ,_,w,.inl (by rw[e];rfl),ae,h,cE.refl _ _ _,cY.refl _ _ _⟩
  trivial
 ·-- binOp
  rename_i op t x y yt DS;simp only[DS]at E ⊢;simp[Z3,Z5]at hv;obtain⟨u,hu,rfl,rfl⟩:=hv;exact gS.of_val h (apw hu (E dp) (E dp))
 ·-- unOp
  rename_i op t x DS;simp only[DS]at E ⊢;split at hv
  .rename_i hp;simp[Z3,Z5]at hv;obtain⟨r,hr,rfl,rfl⟩:=hv;obtain⟨h1,h2⟩:=Gz hr;have hx:=Gy (E (x:=x) dp) hp;rw[hx];exact gS.of_val h ⟨r,AN _ _ _ h1 w,lR h2⟩
  trivial
 ·-- convert
  rename_i s d x DS;simp only[DS]at E ⊢;exact gS.of_sim (aov h hv (E dp))
 ·-- makeInterface
  rename_i t x DS;simp only[DS]at E ⊢;simp[Z3,Z5]at hv;obtain⟨u,hu,rfl,rfl⟩:=hv;exact gS.of_val h (ai6 hu (E dp))
 ·-- makeFunc
  rename_i f x y DS;simp only[DS]at Is ⊢;simp[Z9,Z5]at hv;obtain⟨rfl,rfl⟩:=hv;refine gS.of_val h ⟨_,rfl,?_⟩;have l1:=GD h ha (xs:=x) (λz hz=>Is z (by simp[Op.operands,hz]));have l2:=GD h ha (xs:=y) (λz hz=>Is z (by simp[Op.operands,hz]));obtain⟨mx,hmx⟩:∃m:au,x.map (ev X a)=⟨m⟩:=⟨_,rfl⟩
  obtain⟨my,hmy⟩:∃m:au,y.map (ev X a)=⟨m⟩:=⟨_,rfl⟩
  grind[aC]
 ·-- makeSlice
  rename_i t l c DS;simp only[DS]at E ⊢;exact gS.of_sim (ai5 h hv (E dp) (E dp))
 ·-- slice
  rename_i t x lo hi mx DS;simp only[DS]at E ⊢;simp[Z3,Z5]at hv;obtain⟨u,hu,rfl,rfl⟩:=hv
  have O:∀(o:Option oP),(∀y,o=Wf y->aC φ (ev X a y) (LT.eval y))->EG φ (o.map (ev X a)) (o.map LT.eval):=by
   intro o ho';cases o with
   |none=>exact .inl rfl
   |some y=>exact .inr ⟨_,_,rfl,rfl,ho' y rfl⟩
  exact gS.of_val h (ae8 h hu (E dp) (O lo (λy hy=>E (by simp[Op.operands,hy]))) (O hi (λy hy=>E (by simp[Op.operands,hy]))) (O mx (λy hy=>E (by simp[Op.operands,hy]))))
 ·-- fieldAddr
  rename_i t x f DS;simp only[DS]at E ⊢;simp[Z3,Z5]at hv;obtain⟨u,hu,rfl,rfl⟩:=hv;exact gS.of_val h (amo hu (E dp))
 .rename_i t x f DS;simp only[DS]at E ⊢;simp[Z3,Z5]at hv;obtain⟨u,hu,rfl,rfl⟩:=hv;exact gS.of_val h (amn hu (E dp))
 .rename_i t x i DS;simp only[DS]at E ⊢;simp[Z3,Z5]at hv;obtain⟨u,hu,rfl,rfl⟩:=hv;exact gS.of_val h (akR hu (E dp) (E dp))
 .rename_i t x i DS;simp only[DS]at E ⊢;simp[Z3,Z5]at hv;obtain⟨u,hu,rfl,rfl⟩:=hv;exact gS.of_val h (akQ hu (E dp) (E dp))
 ·-- extract
  rename_i x i DS;simp only[DS]at E ⊢;split at hv
  .rename_i vs hvs;simp[Z3,Z5]at hv;obtain⟨u,hu,rfl,rfl⟩:=hv;exact gS.of_val h (amz hvs hu (E dp))
  trivial
 ·-- a builtin
  rename_i b args argTypes DS;simp only[DS]at Is ⊢;have l1:=GD h ha (xs:=args) (λz hz=>Is z (by simp[Op.operands,Call.operands,hz]));have:=api (rid:=rid) h hv l1 (args.map λ|.const _=>Th|_=>SM);trivial
 trivial
structure cF(H H':AH):Prop where
 n:H.n<=H'.n
 keep:∀b x,H.get b=Wf x->∃x',H'.get b=Wf x'∧x.ver<=x'.ver∧(x'.ver=x.ver->x'=x)∧(x.st≠0->x'.st≠0∧x'.exact=x.exact∧x'.esz=x.esz∧RW x'.cells=RW x.cells)
theorem cF.refl(H:AH):cF H H:=⟨Z8 _,λ_ x h=>⟨x,h,Z8 _,λ_=>rfl,λs=>⟨s,rfl,rfl,rfl⟩⟩⟩
theorem cF.trans{H H' H'':AH}(h:cF H H')(h':cF H' H''):cF H H'':=⟨Z1 h.n h'.n,λb x hx=>by
 obtain⟨y,hy,y1,y2,y3⟩:=h.keep b x hx;obtain⟨z,hz,z1,z2,z3⟩:=h'.keep b y hy;refine⟨z,hz,Z1 y1 z1,λe=>?_,λs=>?_⟩
 .have e1:y.ver=x.ver:=aa;have e2:z.ver=y.ver:=aa
  grind
 grind⟩
theorem cF.push(H:AH)(x:bv):cF H (H.push x):=⟨ac,λb y hy=>⟨y,by grind[AH.get_push_old,AH.get_lt],Z8 _,λ_=>rfl,λs=>⟨s,rfl,rfl,rfl⟩⟩⟩
theorem cF.set{H:AH}{b:Nat}{x y:bv}(h:H.get b=Wf x)(hv:x.ver<y.ver)(hs:x.st≠0->y.st≠0∧y.exact=x.exact∧y.esz=x.esz∧RW y.cells=RW x.cells):cF H (H.set b y):=⟨ac,λi z hz=>by
 rw[AH.get_set h];by_cases e:i=b
 .subst e;rw[h]at hz;cases hz;rw[ip rfl];exact⟨y,rfl,V9 hv,λe=>by omega,hs⟩
 grind⟩
theorem cF.kill(H:AH)(p:Nat->bv->Bool):cF H (H.kill p):=⟨ac,λi z hz=>by
 rw[AH.get_kill,hz];simp only[Option.map_some];by_cases h:p i z=Th
 .rw[ip h];exact⟨_,rfl,ac,λe=>by grind,λ_=>⟨ac,rfl,rfl,rfl⟩⟩
 grind⟩
theorem LV{H:AH}{rid:Option Nat}{cells:au}{H':AH}(h:kX H rid cells=Wf (b,H')):cF H H':=by
 cases rid with
 | none=>
  grind[kX,cF.push]
 | some r=>
  grind[kX,cF.set,fresh]
theorem Jt{H:AH}{vs:au}{H':AH}(h:kf H b off vs=Wf H'):cF H H':=by
 unfold kf at h;split at h
 .rename_i x hx;split at h
  .rename_i hc;simp[Z9]at h;subst h;split
   .have hk:=cF.kill H (kin b x.fam)
    have hxk:(H.kill (kin b x.fam)).get b=Wf x:=by
     rw[AH.get_kill,hx];simp[kin]
    exact hk.trans (cF.set hxk ac (λs=>⟨s,rfl,rfl,J8 _ _ _ hc.2.2.1⟩))
   .exact cF.set hx ac (λs=>⟨s,rfl,rfl,J8 _ _ _ hc.2.2.1⟩)
  .cases h
 .cases h
theorem aqb{H:AH}{s v:vl}{cs:au}{H':AH}(h:fh P H n Nd s k cs=Wf (v,H')):cF H H':=by
 unfold fh at h
 grind[cF.refl,cF.push,Jt,cF.trans,cF.set,cF.kill]
noncomputable def touch(X:dh)(a:au)(o:oR):Option Nat:=
 match o.op with
 |.load _ x=>iZ (ev X a x)
 |.slice _ x _ _ _=>(match ev X a x with|.slice (Wf p) _ _=>Wf p.block|_=>Vc)
 |.convert _ _ x=>(match ev X a x with|.slice (Wf p) _ _=>Wf p.block|_=>Vc)
 |.call {callee:=.builtin .cap,args,.. }=>(match args[0]? with|some x=>iZ (ev X a x)|none=>Vc)
 |_=>Vc
variable{X:dh}{H H':AH}{a:au}{o:oR}{v:vl}{rid:Option Nat}
theorem yv(hf:(f.map λv=>(v,H))=Wf (v,H')):H'=H∧∀(H2:AH),(f.map λv=>(v,H2))=Wf (v,H2):=by grind[Z3]
theorem apj{b:bU}(hb:b=.len∨b=.min∨b=.max)(hv:fM X.P H b ts t args=Wf (v,H')):
  H'=H∧∀(H2:AH),fM X.P H2 b ts t args=Wf (v,H2):=by
 rcases hb with rfl|rfl|rfl
 .match args,hv with
  | [x],hv=>
   simp[fM]at hv ⊢;split at hv
   all_goals first
    |(cases hv;done)
    |(simp[Z9,Z5]at hv;obtain⟨rfl,rfl⟩:=hv;exact⟨rfl,λ_=>rfl⟩)
  |[],hv=>trivial
  |_::_::_,hv=>trivial
 .simp only[fM]at hv ⊢;split at hv
  .rename_i hp;obtain⟨e1,e2⟩:=yv hv;exact⟨e1,λH2=>by first|exact e2 H2|grind⟩
  trivial
 .simp only[fM]at hv ⊢;split at hv
  .rename_i hp;obtain⟨e1,e2⟩:=yv hv;exact⟨e1,λH2=>by first|exact e2 H2|grind⟩
  trivial
theorem AV{r:Nat}(hv:du X (Wf r) H a o=Wf (v,H'))(h1:eJ X.P o.op=SM)(h2:ky o.op=SM)(h3:iz X.P o.op=SM)(h4:px o.op=SM):
  H'=H∧∀(H2:AH),du X (Wf r) H2 a o=Wf (v,H2):=by
 obtain⟨dst,op,ty,pos,aft,grd⟩:=o;cases op
 case alloc t=>
  simp[du]at hv ⊢;split at hv
  .split at hv
   .simp[Z9,Z5]at hv;obtain⟨rfl,rfl⟩:=hv;rename_i hp;exact⟨rfl,λ_=>by first|rfl|rw[ip hp]⟩
   trivial
  trivial
 case call c=>
  obtain⟨bp,args,ats⟩:=c;cases bp with
  |value f=>trivial
  |invoke r m=>trivial
  | builtin b=>
   simp only[du]at hv ⊢
   have hb:b=.len∨b=.min∨b=.max:=by
    cases b<;>first
     |(simp[eJ]at h1;done)
     |(simp[iz]at h3;done)
     |(simp[px]at h4;done)
     |(simp[fM]at hv;done)
     |simp
   grind[apj]
 case makeFunc fn x y=>
  cases fn<;>simp only[du]at hv ⊢ <;>first
   |(cases hv;done)
   |grind
 case convert s d x=>
  simp[du]at hv ⊢;simp[eJ,iz]at h1 h3;unfold oH at hv ⊢;split at hv
  .grind
  .grind
  .split at hv
   .rename_i hp;obtain⟨e1,e2⟩:=yv hv;exact⟨e1,λH2=>by first|exact e2 H2|grind⟩
   trivial
 all_goals simp only[ky,eJ,iz,px]at h1 h2 h3 h4
 all_goals first|(cases h1;done)|(cases h2;done)|(cases h3;done)|(cases h4;done)|skip
 all_goals simp only[du]at hv ⊢
 all_goals first
  |(cases hv;done)
  |(obtain⟨e1,e2⟩:=yv hv;exact⟨e1,λH2=>e2 H2⟩)
  |(simp only[Z9,Z5]at hv;obtain⟨rfl,rfl⟩:=hv;exact⟨rfl,λ_=>rfl⟩)
  |skip
 ·-- pick
  split at hv
  .grind
  trivial
 ·-- nilCheck
  split at hv
  .grind
  trivial
 ·-- unOp
  split at hv
  .rename_i hp;obtain⟨e1,e2⟩:=yv hv;exact⟨e1,λH2=>by first|exact e2 H2|grind⟩
  trivial
 ·-- extract
  split at hv
  .obtain⟨e1,e2⟩:=yv hv;trivial
  trivial
theorem SC(h:H2.get b=H.get b):cX H2 b off n=cX H b off n:=by grind[cX]
theorem SB{cs:au}(h:cX H b off n=Wf cs):∃y,H.get b=Wf y∧y.st≠0:=by
 unfold cX at h;split at h
 .rename_i x hx;split at h
  .rename_i hc;exact⟨x,hx,aa⟩
  .cases h
 .cases h
theorem ajm(h:qg X.P H t x=Wf u):
  (∀b,iZ x=Wf b->∃y,H.get b=Wf y∧y.st≠0)∧∀H2:AH,(∀b,iZ x=Wf b->H2.get b=H.get b)->qg X.P H2 t x=Wf u:=by
 unfold qg at h ⊢;split at h
 .rename_i b off
  have K:∀{n cs},cX H b off n=Wf cs->(∀b',iZ (.pointer (Wf ⟨b,off,Vc⟩))=Wf b'->∃y,H.get b'=Wf y∧y.st≠0):=by
   intro n cs hr b' hb';simp[iZ,Z9]at hb';subst hb';exact SB hr
  have R:∀{H2:AH},(∀b',iZ (.pointer (Wf ⟨b,off,Vc⟩))=Wf b'->H2.get b'=H.get b')->∀n,cX H2 b off n=cX H b off n:=λhh n=>SC (hh b rfl)
  split at h
  .cases hn:cn X.P t with
   |none=>grind
   | some n=>
    grind[cX]
  .cases hn:cn X.P t with
   |none=>grind
   | some n=>
    grind[cX]
  .grind
  .cases h
 .cases h
def Cj(H H2:AH)(b:Nat):Prop:=∃y y2,H.get b=Wf y∧H2.get b=Wf y2∧y.st≠0∧y2.st≠0∧y2.exact=y.exact∧y2.esz=y.esz∧RW y2.cells=RW y.cells
theorem adE{p:Addr}(h:H2.get p.block=H.get p.block):there H2 (Wf p)=there H (Wf p):=by grind[there]
theorem adD{p:Addr}(h:Cj H H2 p.block):there H2 (Wf p)=there H (Wf p):=by
 obtain⟨y,y2,e1,e2,s1,s2,_⟩:=h;have b1:(y.st !=0)=Th:=by simpa using s1
 have b2:(y2.st !=0)=Th:=by simpa using s2
 grind[there]
theorem ami{p:Addr}(h:Cj H H2 p.block):sZ H2 n (Wf p)=sZ H n (Wf p):=by
 obtain⟨y,y2,e1,e2,s1,s2,s3,s4,_⟩:=h;have b1:(y.st !=0)=Th:=by simpa using s1
 have b2:(y2.st !=0)=Th:=by simpa using s2
 grind[sZ]
theorem P2{p:Addr}(h:there H (Wf p)=Th):∃y,H.get p.block=Wf y∧y.st≠0:=by grind[there]
theorem afb{lo:Option vl}(h:kq X.P H t x lo hi mx=Wf u):
  (∀b,(match x with|.slice (Wf p) _ _=>Wf p.block|_=>Vc)=Wf b->∃y,H.get b=Wf y∧y.st≠0) ∧
  ∀H2:AH,(∀b,(match x with|.slice (Wf p) _ _=>Wf p.block|_=>Vc)=Wf b->Cj H H2 b)->kq X.P H2 t x lo hi mx=Wf u:=by
 unfold kq at h ⊢;split at h
 .grind
 .rename_i e a len cap hu;cases hb0:fe cap cap mx with
  |none=>grind
  |some m=>
  by_cases hmh:(hi.isNone&&mx.isSome)=Th
  .grind
  .have hmh':(hi.isNone&&mx.isSome)=SM:=by simpa using hmh
   cases hb:fe len m hi with
   |none=>grind
   | some h1=>
    cases hb2:fe 0 h1 lo with
    |none=>grind
    | some l1=>
     cases hs:cn X.P e with
     |none=>grind
     | some n=>
      simp[hb0,hmh',hb,hb2,hs]at h ⊢;cases a with
      |none=>grind[there,sZ]
      | some p=>
       grind[P2,adD,ami]
 .grind
 .cases h
theorem aoZ(hc:Es H x=Wf n):
  (∀b,iZ x=Wf b->∃y,H.get b=Wf y∧y.st≠0)∧∀H2:AH,(∀b,iZ x=Wf b->Cj H H2 b)->Es H2 x=Wf n:=by
 unfold Es at hc ⊢;split at hc
 .grind[iZ]
 .rename_i b off len c;split at hc
  .rename_i y hy;refine⟨λb' hb'=>?_,λH2 hh=>?_⟩
   .grind[iZ]
   .obtain⟨y0,y2,e1,e2,s1,s2,s3,s4,s5⟩:=hh b rfl
    grind
  trivial
 trivial
theorem Di(hv:du X rid H a o=Wf (v,H'))(h1:eJ X.P o.op=SM)(h3:iz X.P o.op=Th):
  H'=H∧(∀b,touch X a o=Wf b->∃y,H.get b=Wf y∧y.st≠0)∧∀(rid2:Option Nat)(H2:AH),(∀b,touch X a o=Wf b->H2.get b=H.get b)->du X rid2 H2 a o=Wf (v,H2):=by
 obtain⟨dst,op,ty,pos,aft,grd⟩:=o;cases op
 case load t x=>
  grind[du,touch,Z3,ajm]
 case convert s d x=>
  simp[iz]at h3;simp only[du,touch]at hv ⊢;simp[eJ]at h1;unfold oH at hv ⊢;split at hv
  .grind
  .rename_i e a0 len cap hs hd hx;split at hv
   case h_2=>cases hv
   split at hv
   .grind
   .rename_i b off;split at hv
    .rename_i cs hc;simp[Z3,Z5]at hv;obtain⟨bs,hb,rfl,rfl⟩:=hv;refine⟨rfl,λb' hb'=>?_,λ_ H2 hh=>?_⟩
     .grind[P2,SB]
     .have hg:=hh b (by rw[hx])
      have:(if len=0 then(if there H2 (Wf ⟨b,off,Vc⟩)=Th then Wf []else Vc)else cX H2 b off len)=Wf cs:=by
       rw[adE (p:=⟨b,off,Vc⟩) hg,SC hg];exact hc
      grind
    trivial
   trivial
  .split at hv
   .rename_i hp;obtain⟨e1,e2⟩:=yv hv;refine⟨e1,λb hb=>?_,λ_ H2 _=>by first|exact e2 H2|grind⟩
    grind[plain]
   trivial
 case call c=>trivial
 all_goals(simp only[iz]at h3;cases h3)
theorem Dh(hv:du X rid H a o=Wf (v,H'))(h3:px o.op=Th):
  H'=H∧(∀b,touch X a o=Wf b->∃y,H.get b=Wf y∧y.st≠0)∧∀(rid2:Option Nat)(H2:AH),(∀b,touch X a o=Wf b->Cj H H2 b)->du X rid2 H2 a o=Wf (v,H2):=by
 obtain⟨dst,op,ty,pos,aft,grd⟩:=o;cases op
 case slice t x lo hi mx=>
  grind[du,touch,Z3,afb]
 case call c=>
  obtain⟨bp,args,ats⟩:=c;cases bp with
  |value f=>trivial
  |invoke r m=>trivial
  | builtin b=>
   cases b<;>first
    |(simp[px]at h3;done)
    |skip
   simp only[du,touch]at hv ⊢;obtain⟨args⟩:=args
   match args,hv with
   | [x],hv=>
    simp only[fM,List.map_toArray,Zv,Yq]at hv ⊢
    grind[Z3,aoZ]
   |[],hv=>simp[fM]at hv
   |_::_::_,hv=>simp[fM]at hv
 all_goals(simp only[px]at h3;cases h3)
theorem AW{r:Nat}(hv:du X (Wf r) H a o=Wf (v,H'))(h2:ky o.op=Th):
  ∃cells,(∃y,H.get r=Wf y∧y.st=0∧y.ver=0)∧H'=H.set r (fresh r cells)∧∀(H2:AH),(∃y,H2.get r=Wf y∧y.st=0∧y.ver=0)->du X (Wf r) H2 a o=Wf (v,H2.set r (fresh r cells)):=by
 have mk:∀{cells:au}{b:Nat}{H':AH},kX H (Wf r) cells=Wf (b,H')->b=r∧(∃y,H.get r=Wf y∧y.st=0∧y.ver=0)∧H'=H.set r (fresh r cells):=by
  intro cells b H' h;simp[kX]at h;split at h
  .grind
  .cases h
 have mk2:∀{cells:au}{H2:AH},(∃y,H2.get r=Wf y∧y.st=0∧y.ver=0)->kX H2 (Wf r) cells=Wf (r,H2.set r (fresh r cells)):=by
  rintro cells H2 ⟨y,hy,hc⟩;simp only[kX,hy];rw[ip hc]
 obtain⟨dst,op,ty,pos,aft,grd⟩:=o;cases op<;>simp only[ky]at h2<;>first|(cases h2;done)|skip
 .grind[du,Z3]
 .rename_i t len ps;simp only[du]at hv ⊢;unfold rG at hv ⊢;split at hv
  .rename_i e hu;split at hv
   .grind
   trivial
  trivial
 .rename_i t l c;simp only[du]at hv ⊢;unfold yw at hv ⊢;split at hv
  .rename_i e kl l0 kc c0 hu hl hc0;split at hv
   .rename_i n z Nd hn hz hby;split at hv
    .rename_i hc;split at hv
     .rename_i b H1 hm;simp[Z9,Z5]at hv;obtain⟨rfl,rfl⟩:=hv;obtain⟨rfl,h3,h4⟩:=mk hm;refine⟨_,h3,h4,λH2 hr=>?_⟩
      first
       |rw[ip hc,mk2 hr]
       |(simp only[hu,hl,hc0,hn,hz,hby];rw[ip hc,mk2 hr])
     trivial
    trivial
   trivial
  trivial
theorem apk{b:bU}(hv:fM X.P H b ts t args=Wf (v,H')):cF H H':=by
 unfold fM at hv
 repeat' (first|split at hv|(simp only at hv;split at hv))
 all_goals first
  |(cases hv;done)
  |(simp only[Z9,Z5]at hv;obtain⟨_,rfl⟩:=hv;exact cF.refl _)
  |exact aqb hv
  |(simp only[Z3,Z5]at hv;obtain⟨_,hw,_,rfl⟩:=hv;first|exact Jt hw|exact cF.refl _)
theorem GE(hv:du X rid H a o=Wf (v,H')):cF H H':=by
 by_cases h1:eJ X.P o.op=Th
 .obtain⟨dst,op,ty,pos,aft,grd⟩:=o;cases op
  case store t x y=>
   simp only[du,Z3,Z5]at hv;obtain⟨H1,hs,_,rfl⟩:=hv;unfold tK at hs
   grind[Jt]
  case convert s d x=>
   simp[du]at hv;unfold oH at hv
   repeat' (split at hv)
   all_goals first
    |(cases hv;done)
    |(simp only[Z9,Z5]at hv;obtain⟨_,rfl⟩:=hv;first|exact cF.refl _|exact cF.push _ _)
    |(simp[Z3,Z5]at hv;obtain⟨_,_,_,rfl⟩:=hv;exact cF.refl _)
  case call c=>
   grind[du,apk]
  all_goals(simp[eJ]at h1)
 .have h1':eJ X.P o.op=SM:=by simpa using h1
  by_cases h2:ky o.op=Th
  .obtain⟨dst,op,ty,pos,aft,grd⟩:=o;cases op
   case box t x=>
    grind[du,Z3,LV]
   case buildSlice t len ps=>
    simp[du]at hv;unfold rG at hv
    repeat' (split at hv)
    all_goals first
     |(cases hv;done)
     |grind[LV]
   case makeSlice t l c=>
    simp[du]at hv;unfold yw at hv
    repeat' (split at hv)
    all_goals first
     |(cases hv;done)
     |grind[LV]
   all_goals(simp[ky]at h2)
  .have h2':ky o.op=SM:=by simpa using h2
   by_cases h3:iz X.P o.op=Th
   .grind[Di,cF.refl]
   .by_cases h4:px o.op=Th
    .grind[Dh,cF.refl]
    .cases rid with
     |some r=>grind[AV,cF.refl]
     | none=>
      -- with no kept number only a new variable's block is pushed
      by_cases ha:∃t,o.op=.alloc t
      .grind[du,cF.push]
      ·have hs:du X (Wf 0) H a o=Wf (v,H'):=by
        obtain⟨dst,op,ty,pos,aft,grd⟩:=o;cases op
        case alloc t=>grind
        case box t x=>trivial
        case buildSlice t l ps=>trivial
        case makeSlice t l c=>trivial
        case makeFunc fn f c=>cases fn<;>exact hv
        case call c=>
         obtain⟨bp,args,ats⟩:=c;cases bp<;>exact hv
        all_goals exact hv
       grind[AV,cF.refl]
theorem cF.stat(h:cF H H2)(hb:∃y,H.get b=Wf y∧y.st≠0):Cj H H2 b:=by obtain⟨y,hy,hy0⟩:=hb;obtain⟨y2,h2,_,_,h3⟩:=h.keep b y hy;obtain⟨s1,s2,s3,s4⟩:=h3 hy0;exact⟨y,y2,hy,h2,hy0,s1,s2,s3,s4⟩
def jT(cf:fW):Prop:=∀f args H v H',cf f args H=Wf (v,H')->cF H H'
theorem amV{cf:fW}(hcf:jT cf)(hv:iC X cf rid H a o=Wf (v,H')):cF H H':=by
 unfold iC at hv;split at hv
 .split at hv
  .exact GE hv
  .split at hv
   .exact hcf _ _ _ _ _ hv
   trivial
 grind[GE]
theorem H5{H H':AH}(hn:H.n<=H'.n)(hb:b<H.n):(H.graft H').get b=H.get b:=by
 rw[AH.get_pos (H:=H.graft H') (show b<H'.n by omega),AH.get_pos hb]
 show((List.range (H'.n-H.n)).map _++H.l)[H'.n-1-b]?=_
 rw[List.getElem?_append_right dG];congr 1;simp;omega
theorem WN{H H':AH}{x:bv}(hb:H.n<=b)(hx:H'.get b=Wf x):(H.graft H').get b=Wf x:=by
 have hl:=AH.get_lt hx;rw[AH.get_pos hl]at hx;rw[AH.get_pos (H:=H.graft H') (show b<H'.n by omega)]
 show((List.range (H'.n-H.n)).map _++H.l)[H'.n-1-b]?=_
 rw[List.getElem?_append_left dG,List.getElem?_map,List.getElem?_range aa];simp[hx]
theorem alu{H H':AH}(hn:H.n<=H'.n):cF H (H.graft H'):=
 ⟨hn,λb x hx=>⟨x,by rw[H5 hn (AH.get_lt hx),hx],Z8 _,λ_=>rfl,λs=>⟨s,rfl,rfl,rfl⟩⟩⟩
theorem Jc(X:dh)(B:Nat):∀(l:List bv)(n i:Nat),(rI X B n l)[i]?=(l[i]?).map λx=>if n-1-i<B∧X.glob (n-1-i)=Th then{x with wr:=SM,st:=if eH x.cells=Th then x.st else x.st+x.st}else pP
 |[],n,i=>by simp[rI]
 |x::l,n,0=>by simp[rI]
 | x::l,n,i+1=>by
  simp[rI,List.getElem?_cons_succ];rw[Jc X B l (n-1) i,show n-1-1-i=n-1-(i+1) by omega]
theorem uR(X:dh)(B:Nat)(H:AH)(b:Nat):(H.bare X B).get b=(H.get b).map λx=>if b<B∧X.glob b=Th then{x with wr:=SM,st:=if eH x.cells=Th then x.st else x.st+x.st}else pP:=by
 by_cases h:b<H.n
 .rw[AH.get_pos (H:=H.bare X B) h,AH.get_pos h]
  show(rI X B H.n H.l)[H.n-1-b]?=_
  rw[Jc,show H.n-1-(H.n-1-b)=b by omega]
 .rw[AH.get_neg (H:=H.bare X B) h,AH.get_neg h];rfl
theorem aa7{B r:Nat}{z:bv}(hr:r<H.n)(hB:B<=r):(H.set r z).bare X B=H.bare X B:=by
 show AH.mk H.n (rI X B H.n (H.l.set (H.n-1-r) z))=⟨H.n,rI X B H.n H.l⟩
 congr 1;apply Ye;intro i;rw[Jc,Jc,List.getElem?_set];by_cases hi:H.n-1-r=i
 .subst hi;have:¬(H.n-1-(H.n-1-r)<B∧X.glob (H.n-1-(H.n-1-r))=Th):=aa;by_cases hl:H.n-1-r<RW H.l
  .simp[this,hl]
  .simp[hl]
 .simp[hi]
theorem WM{H H':AH}{r:Nat}{z:bv}(hr:r<H.n)(hn:H.n<=H'.n):(H.set r z).graft H'=(H.graft H').set r z:=by
 show AH.mk H'.n ((List.range (H'.n-H.n)).map _++H.l.set (H.n-1-r) z)=⟨H'.n,((List.range (H'.n-H.n)).map _++H.l).set (H'.n-1-r) z⟩
 rw[Yy _ _ dG];congr 3;simp;omega
theorem aes{cf:fW}(hcf:jT cf){B:Nat}(hv:jL X cf B H a o=Wf (v,H')):cF H H':=by
 unfold jL at hv;split at hv
 .split at hv
  .split at hv
   .split at hv
    .rename_i h;cases hv;exact alu (hcf _ _ _ _ _ h).n
    .cases hv
   .cases hv
  .cases hv
 .cases hv
theorem aer{cf:fW}(hcf:jT cf){B r:Nat}{z:bv}(hr:r<H.n)(hB:B<=r)(hv:jL X cf B H a o=Wf (v,H')):jL X cf B (H.set r z) a o=Wf (v,H'.set r z):=by
 unfold jL at hv ⊢;split at hv
 .split at hv
  .split at hv
   .rename_i hp;split at hv
    .rename_i h;cases hv;simp only[*,iT,aa7 hr hB];rw[WM hr (hcf _ _ _ _ _ h).n]
    .cases hv
   .cases hv
  .cases hv
 .cases hv
theorem aeq{cf:fW}(hcf:jT cf){B r:Nat}{z:bv}(hr:r<H.n)(hB:B<=r)(hv:jL X cf B (H.set r z) a o=Wf (v,H')):∃H1,jL X cf B H a o=Wf (v,H1)∧H'=H1.set r z:=by
 unfold jL at hv ⊢;split at hv
 .split at hv
  .split at hv
   .rename_i hp;split at hv
    .rename_i h;cases hv;rw[aa7 hr hB]at h;refine⟨_,by simp[*,iT],WM hr (hcf _ _ _ _ _ h).n⟩
    .cases hv
   .cases hv
  .cases hv
 .cases hv
theorem amS{cf:fW}(hcf:jT cf){RM:Array oR}(hv:nL X cf RM RC i o a H=Wf (v,H')):cF H H':=by
 unfold nL at hv;split at hv
 .exact aes hcf hv
 .exact amV hcf hv
theorem BR{cf:fW}(hcf:jT cf){RM:Array oR}(hv:gF X cf RM RC i o a H=Wf (v,H')):cF H H':=by grind[gF,amS]
theorem Fi{cf:fW}(hcf:jT cf){RM:Array oR}{a':au}(hv:dV X cf RM RC i o a H=Wf (a',H')):cF H H':=by grind[dV,BR,cF.refl]
theorem Rm:∀{l m:List bv},oX l m=Th->∀(i:Nat)(x:bv),l[i]?=Wf x->∃y,m[i]?=Wf y∧y.ver=x.ver
 |[],_,_,i,x,hx=>by simp at hx
 |x::l,[],h,_,_,_=>by trivial
 | x::l,y::m,h,i,z,hz=>by
  simp[oX,Z7,beq_iff_eq]at h;cases i with
  |zero=>grind
  |succ i=>exact Rm h.2 i z cU
theorem ahw(h:preB H H'=Th)(he:cF H H'){x:bv}(hx:H.get b=Wf x):H'.get b=Wf x:=by
 obtain⟨x',hx',h1,h2,_⟩:=he.keep b x hx;have PJ:=AH.get_lt hx;have hlt':=AH.get_lt hx';have hn:=he.n;rw[AH.get_pos PJ]at hx;obtain⟨y,hy,hv⟩:=Rm h _ _ hx;rw[List.getElem?_drop,show H'.n-H.n+(H.n-1-b)=H'.n-1-b by omega,<-AH.get_pos hlt',hx']at hy
 grind
theorem amD{a:au}{v:vl}{x:oP}(h:∀d,dst=Wf d->x≠.tmp d):ev X (dQ a dst v) x=ev X a x:=by
 cases dst with
 |none=>rfl
 | some d=>
  cases x with
  | tmp t=>
   grind[ev,qm,dQ]
  |_=>rfl
theorem Nm{RM:Array oR}{x:oR}(h:∀d,dst=Wf d->d ∉ x.looksAt RM){v:vl}{y:oP}(hy:y∈x.op.operands):ev X (dQ a dst v) y=ev X a y:=
 amD λd hd hyd=>h d hd (by
  subst hyd;exact List.mem_append_left _ (List.mem_filterMap.2 ⟨.tmp d,ae,rfl⟩))
theorem ah8{a:au}(h:∀x∈o.op.operands,ev X a x=ev X a2 x):du X rid H a o=du X rid H a2 o:=by
 obtain⟨dst,op,ty,pos,aft,grd⟩:=o
 have pairs:∀ps:Array (Nat×oP),(∀x∈ps.map (·.2),ev X a x=ev X a2 x) ->
   (ps.map λ(x:Nat×oP)=>(x.1,ev X a x.2))=(ps.map λ(x:Nat×oP)=>(x.1,ev X a2 x.2)):=λps hp=>
  Wp λp hm=>by
   grind
 cases op<;>simp only[Op.operands]at h<;>simp only[du]
 case build t ps=>rw[pairs ps λx hx=>h x xP]
 case buildSlice t n ps=>rw[pairs ps λx hx=>h x xP]
 case makeFunc fn first captured=>
  cases fn<;>simp only[]
  simp_all
 case call c=>
  obtain⟨bp,args,ats⟩:=c;cases bp with
  |value f=>rfl
  |invoke r m=>rfl
  | builtin b=>
   grind[Wp,Call.operands]
 case slice t x lo hi mx=>cases lo<;>cases hi<;>cases mx<;>simp_all
 all_goals(first|rfl|(simp_all;done))
theorem amW{cf:fW}{a:au}(h:∀x∈o.op.operands,ev X a x=ev X a2 x):iC X cf rid H a o=iC X cf rid H a2 o:=by
 have DS:=ah8 (rid:=rid) (H:=H) h;unfold iC;split
 .rename_i c hc;rw[DS];split
  .rfl
  ·have:pF (ev X a) c=pF (ev X a2) c:=by
    rw[hc]at h;unfold pF;split
    .grind[Op.operands,Call.operands,Wp]
    .rfl
   grind
 omega
theorem ao5{a:au}{c:Call}(h:∀x∈c.operands,ev X a x=ev X a2 x):pF (ev X a) c=pF (ev X a2) c:=by
 unfold pF;split
 .grind[Call.operands,Wp]
 .rfl
theorem amT{cf:fW}{RM:Array oR}{a:au}(h:∀x∈o.op.operands,ev X a x=ev X a2 x):nL X cf RM RC i o a H=nL X cf RM RC i o a2 H:=by
 unfold nL;rw[amW h];congr 1;unfold jL;split
 .rename_i c hc;rw[hc]at h;rw[ao5 (c:=c) (by simpa[Op.operands]using h)]
 .rfl
theorem JA{RM:Array oR}(h:∀d,dst=Wf d->d ∉ o.looksAt RM){v:vl}:
  Region.wanted o (jU RM (dQ a dst v))=Region.wanted o (jU RM a):=by
 cases dst with
 |none=>rfl
 | some d=>
  unfold Region.wanted;cases hg:o.guard with
  |none=>rfl
  | some gw=>
   obtain⟨g,want⟩:=gw
   have hy:jU RM (dQ a (Wf d) v) g=jU RM a g:=by
    unfold jU;cases ht:(RM[g]?).bind (·.dst)with
    |none=>rfl
    | some t=>
     grind[oR.looksAt,dQ]
   grind
theorem Gc{RM:Array oR}:∀(n:Nat){p b:Tmp},vQ RM n p=Wf b->nK RM b=SM
 | 0,p,b,h=>by
  grind[vQ]
 | n+1,p,b,h=>by
  unfold vQ at h;split at h
  .split at h
   .split at h
    .exact Gc n h
    .exact Gc n h
    .exact Gc n h
    .cases h
   .cases h
  grind
theorem Sf{RM:Array oR}{p b:Tmp}(h:qK RM p=Wf b):nK RM b=SM:=Gc 4 h
theorem WQ{RM:Array oR}(hd:∀d,dst=Wf d->nK RM d=Th){v:vl}{p:Tmp}(hb:nK RM p=SM):d6 (dQ a dst v) p=d6 a p:=by
 cases dst with
 |none=>rfl
 | some d=>
  grind[qm,dQ]
theorem aig{RM:Array oR}(hd:∀d,dst=Wf d->nK RM d=Th){v:vl}(H H':AH):offB X.P RM i (dQ a dst v) H H'=offB X.P RM i a H H':=by
 unfold offB;congr 1;funext ⟨x,j⟩;simp only;congr 1;split
 .rename_i t p hp;split
  .grind[WQ,Sf]
  .rfl
 .rfl
theorem alC{RM:Array oR}(h:∀d,dst=Wf d->d ∉ o.looksAt RM)(hd:∀d,dst=Wf d->nK RM d=Th){v:vl}:oB X.P RM o (dQ a dst v)=oB X.P RM o a:=by
 unfold oB;split
 .rename_i t p hp
  have e1:d6 (dQ a dst v) p=d6 a p:=by
   have:=Nm (X:=X) (a:=a) h (v:=v) (y:=.tmp p) (by grind[Op.operands]);simpa[ev]using this
  rw[e1];congr 1;split
  .grind[WQ,Sf]
  .rfl
 .rfl
theorem YX{cf:fW}{RM:Array oR}(h:∀d,dst=Wf d->d ∉ o.looksAt RM)(hd:∀d,dst=Wf d->nK RM d=Th){v:vl}:
  gF X cf RM RC i o (dQ a dst v) H=gF X cf RM RC i o a H:=by
 unfold gF;rw[amT (a:=dQ a dst v) (a2:=a) λx hx=>Nm h hx]
 simp_all[aig,alC]
theorem adu{RM:Array oR}(h:∀d,dst=Wf d->d ∉ o.looksAt RM){v:vl}:touch X (dQ a dst v) o=touch X a o:=by
 have E:∀{y},y∈o.op.operands->ev X (dQ a dst v) y=ev X a y:=λhy=>Nm h hy
 obtain⟨d0,op,ty,pos,aft,grd⟩:=o;unfold touch;cases op
 case load t x=>simp[E (y:=x) dp]
 case slice t x lo hi mx=>simp[E (y:=x) dp]
 case convert s d x=>simp[E (y:=x) dp]
 case call c=>
  obtain⟨bp,args,ats⟩:=c;cases bp with
  |value f=>rfl
  |invoke r m=>rfl
  | builtin b=>
   cases b<;>first|rfl|skip
   simp only;cases hx:args[0]? with
   |none=>rfl
   |some x=>grind[Op.operands,Call.operands]
 all_goals rfl
theorem yW(a:au){x y:Option Tmp}(v u:vl)(h:∀d,x=Wf d->y≠Wf d):dQ (dQ a x v) y u=dQ (dQ a y u) x v:=by
 cases x with
 |none=>rfl
 | some d=>
  cases y with
  |none=>rfl
  | some e=>
   grind[dQ,V6]
theorem AH.set_push{H:AH}{r:Nat}{z x:bv}(hr:r<H.n):(H.set r z).push x=(H.push x).set r z:=by
 simp only[AH.set,AH.push];have e:H.n+1-1-r=(H.n-1-r)+1:=aa
 grind
theorem Vu(p:Nat->bv->Bool){z:bv}:∀(l:List bv)(n i:Nat),p (n-1-i) z=SM->qj p n (l.set i z)=(qj p n l).set i z
 |[],n,i,_=>rfl
 | x::l,n,0,h=>by
  grind[qj]
 | x::l,n,i+1,h=>by
  have:=Vu p l (n-1) i (by rw[show n-1-1-i=n-1-(i+1) by omega];exact h)
  grind[qj]
theorem AH.kill_set{H:AH}{r:Nat}{z:bv}(hr:r<H.n){p:Nat->bv->Bool}(hp:p r z=SM):(H.set r z).kill p=(H.kill p).set r z:=by simp only[AH.set,AH.kill];rw[Vu];rw[show H.n-1-(H.n-1-r)=r by omega];exact hp
theorem AH.set_set'{H:AH}{r s:Nat}{x y:bv}(hr:r<H.n)(hs:s<H.n)(MT:r≠s):(H.set r x).set s y=(H.set s y).set r x:=by simp only[AH.set];congr 1;exact V6 _ _ aa
theorem AH.n_set'(H:AH)(r:Nat)(z:bv):(H.set r z).n=H.n:=rfl
theorem AH.n_kill'(H:AH)(p:Nat->bv->Bool):(H.kill p).n=H.n:=rfl
section
variable{r:Nat}{y z:bv}(hy:H.get r=Wf y)(hy0:y.st=0)(hz:z.shared=SM)
include hy hy0
theorem M2{x:bv}(hb:H.get b=Wf x)(hx:x.st=1):b≠r∧(H.set r z).get b=Wf x:=by
 have MT:b≠r:=by rintro rfl;rw[hy]at hb;cases hb;omega
 exact⟨MT,by rw[AH.get_set hy,iN MT,hb]⟩
theorem ag5{cs:au}(h:cX H b off n=Wf cs):cX (H.set r z) b off n=Wf cs:=by grind[cX,M2]
theorem aeg{k:Nat×au}(h:fH H n x=Wf k):fH (H.set r z) n x=Wf k:=by
 unfold fH at h ⊢;split at h
 .exact h
 .split at h
  .grind
  .rename_i hl;simp only[hl,iF];cases hr:cX H _ _ _ with
   |none=>rw[hr]at h;cases h
   | some cs=>
    grind[ag5]
 .exact h
 omega
include hz
theorem abR{vs:au}(h:kf H b off vs=Wf H1):kf (H.set r z) b off vs=Wf (H1.set r z):=by
 have hr:=AH.get_lt hy;unfold kf at h ⊢;cases hb:H.get b with
 |none=>grind
 | some x=>
  rw[hb]at h;simp only at h;split at h
  .rename_i hc;obtain⟨MT,hg⟩:=M2 (z:=z) hy hy0 hb hc.1;have hbn:=AH.get_lt hb;rw[hg];simp only;rw[ip hc];cases h;congr 1;by_cases hs:x.shared=Th
   .rw[ip hs,ip hs,AH.kill_set hr (by simp[kin,hz])];exact AH.set_set' hr hbn (Ne.symm MT)
   grind[AH.set_set']
  .cases h
theorem ap9{s v:vl}{cs:au}(h:fh P H n Nd s k cs=Wf (v,H1)):fh P (H.set r z) n Nd s k cs=Wf (v,H1.set r z):=by
 have hr:=AH.get_lt hy;unfold fh at h ⊢;split at h
 .grind[AH.n_set',AH.set_push]
 .rename_i b off len cap;split at h
  .cases h
  .rename_i h1;split at h
   .grind
   .rename_i hk;split at h
    .grind[abR]
    .rename_i hc;split at h
     .rename_i hb;cases hg:H.get b with
      |none=>grind
      | some x=>
       rw[hg]at h;simp only at h;split at h
       .rename_i hx;obtain⟨MT,hg2⟩:=M2 (z:=z) hy hy0 hg hx.1;have hbn:=AH.get_lt hg;simp only[h1,hk,hc,hb,iF,iT,hg2,hx,and_self]
        grind[AH.n_set',AH.set_push,AH.set_set',AH.kill_set,beyond,AH.n_kill']
       .cases h
     .cases h
 .cases h
end
def oL:Op->Bool
 | .call c=>match c.callee with
  |.builtin .append=>Th
  |_=>SM
 |_=>SM
theorem Tm(ha:oL o.op=Th)(hv:du X rid H a o=Wf (v,H')):∃n Nd s k cs,fh X.P H n Nd s k cs=Wf (v,H')∧∀H2:AH,(∀m x kk,fH H m x=Wf kk->fH H2 m x=Wf kk)->du X rid H2 a o=fh X.P H2 n Nd s k cs:=by
 obtain⟨dst,op,ty,pos,aft,grd⟩:=o;cases op<;>try(simp[oL]at ha;done)
 rename_i c;obtain⟨callee,args,ats⟩:=c;cases callee<;>try(simp[oL]at ha;done)
 rename_i b;cases b<;>try(simp[oL]at ha;done)
 ··change fM X.P H .append ats ty ((args.map (ev X a)).toList)=Wf (v,H')at hv
   change ∃n Nd s k cs,fh X.P H n Nd s k cs=Wf (v,H')∧∀H2:AH,(∀m x kk,fH H m x=Wf kk->fH H2 m x=Wf kk)->fM X.P H2 .append ats ty ((args.map (ev X a)).toList)=fh X.P H2 n Nd s k cs
   generalize(args.map (ev X a)).toList=l at hv ⊢
   match l,hv with
   |[],hv=>trivial
   |[_],hv=>trivial
   |_::_::_::_,hv=>trivial
   | [s,x],hv=>
    simp only[fM]at hv ⊢;split at hv
    .rename_i e d h1 h2;split at hv
     .rename_i n Nd z0 h3 h4 h5;split at hv
      .cases hv
      .rename_i hn;simp only[iN hn];split at hv
       .split at hv
        .rename_i hc;exact⟨_,_,_,_,_,hv,λH2 _=>by rw[ip hc]⟩
        trivial
       .cases hv
       grind
     trivial
    trivial
theorem ah9{r:Nat}{y z:bv}(hy:H.get r=Wf y)(hy0:y.st=0)(hz:z.shared=SM)(ha:oL o.op=Th)(hv:du X rid H a o=Wf (v,H')):du X rid (H.set r z) a o=Wf (v,H'.set r z):=by grind[Tm,aeg,ap9]
theorem KD{H:AH}{r:Nat}{x x2 y:bv}(hb:H.get b=Wf x)(h:(H.set b x2).get r=Wf y):∃y0,H.get r=Wf y0:=by grind[AH.get_set]
theorem Vt{H:AH}{p:Nat->bv->Bool}{r:Nat}{y:bv}(h:(H.kill p).get r=Wf y):∃y0,H.get r=Wf y0:=by grind[AH.get_kill,AH.get]
theorem akw{H:AH}{p:Nat->bv->Bool}{r:Nat}{y:bv}(h:H.get r=Wf y):∃y0,(H.kill p).get r=Wf y0:=by grind[AH.get_kill]
theorem abS{H:AH}{vs:au}(h:kf H b off vs=Wf H1){r:Nat}{y:bv}(hy:H1.get r=Wf y):∃y0,H.get r=Wf y0:=by
 unfold kf at h;split at h
 .rename_i x hx;split at h
  .cases h;split at hy
   .obtain⟨x',hx'⟩:=akw (p:=kin b x.fam) hx
    grind[KD,Vt]
   grind[KD]
  .cases h
 .cases h
theorem aqc{s:vl}{cs:au}(h:fh P H n Nd s k cs=Wf (v,H')){r:Nat}{y:bv}(hy:H'.get r=Wf y)(hy0:y.st=0):∃y0,H.get r=Wf y0:=by
 have push:∀(K:AH)(x:bv),x.st=1->(K.push x).get r=Wf y->K.get r=Wf y:=λK x hx hg=>by
  by_cases hr:r=K.n
  .grind[AH.get_push_new]
  .rwa [AH.get_push hr]at hg
 unfold fh at h;split at h
 .split at h
  .grind
  .split at h
   .cases h;exact⟨_,push _ _ rfl hy⟩
   .cases h
 .split at h
  .cases h
  .split at h
   .grind
   .split at h
    .grind[abS]
    .split at h
     .split at h
      .split at h
       .rename_i x hx hxc;simp only at h;split at h
        .cases h;exact⟨_,push _ _ rfl hy⟩
        .split at h
         .cases h;obtain⟨y0,h0⟩:=Vt (push _ _ rfl hy)
          grind[KD]
         .cases h
       .cases h
      .cases h
     .cases h
 .cases h
noncomputable section
variable{X:dh}{cf:fW}{RM:Array oR}{B:Nat}
theorem NB{H:AH}{a:au}{o:oR}(h:tw o.op=SM):nL X cf RM RC i o a H=iC X cf (RC.map (· + i)) H a o:=by unfold nL;simp[od,h]
theorem amR{H:AH}{a:au}{o:oR}(h:(RC.isSome&&od RM i o.op)=SM):nL X cf RM RC i o a H=iC X cf (RC.map (· + i)) H a o:=by unfold nL;simp[h]
theorem QM{H H':AH}{a:au}{o:oR}{v:vl}(hcf:jT cf)(h:jL X cf B H a o=Wf (v,H')):∃H1,H.n<=H1.n∧H'=H.graft H1:=by
 unfold jL at h;split at h
 .split at h
  .split at h
   .split at h
    .rename_i h1;cases h;exact⟨_,(hcf _ _ _ _ _ h1).n,rfl⟩
    .cases h
   .cases h
  .cases h
 .cases h
theorem Rl:∀l:List bv,oX l l=Th
 |[]=>rfl
 |x::l=>by simp[oX,Rl l]
theorem ahv{H:AH}(hn:H.n<=H1.n):preB H (H.graft H1)=Th:=by
 unfold preB
 have e:(H.graft H1).l.drop ((H.graft H1).n-H.n)=H.l:=by
  show((List.range (H1.n-H.n)).map (λi=>H1.l.getD i pP)++H.l).drop (H1.n-H.n)=H.l
  rw[List.drop_append_of_le_length ac,Y9 ac,List.nil_append]
 rw[e];exact Rl _
theorem Ee{H:AH}{a:au}{o:oR}(hcf:jT cf)(hs:od RM i o.op=Th)(hg:oB X.P RM o a=Th):gF X cf RM (Wf B) i o a H=jL X cf B H a o:=by
 unfold gF nL;simp only[hs,Wy,Ws,iT,Option.getD_some];cases h:jL X cf B H a o with
 |none=>rfl
 | some r=>
  obtain⟨v,H'⟩:=r;obtain⟨H1,hn,rfl⟩:=QM hcf h;simp[hg,ahv hn]
theorem QN{H H':AH}{a:au}{o:oR}{v:vl}{r:Nat}(hcf:jT cf)(h:jL X cf B H a o=Wf (v,H'))(hr:r<H.n):H'.get r=H.get r:=by obtain⟨H1,hn,rfl⟩:=QM hcf h;exact H5 hn hr
theorem YZ{H H':AH}{a:au}{o:oR}{v:vl}(h:gF X cf RM (Wf B) i o a H=Wf (v,H')):oB X.P RM o a=Th:=by
 unfold gF at h;split at h
 .split at h
  .cases h
  .rename_i hn;cases hg:oB X.P RM o a with
   |true=>rfl
   |false=>grind
 .cases h
theorem oE{H:AH}{a:au}{o:oR}(h:eJ X.P o.op=SM)(hg:oB X.P RM o a=Th):gF X cf RM RC i o a H=du X (RC.map (· + i)) H a o:=by
 have h1:iC X cf (RC.map (· + i)) H a o=du X (RC.map (· + i)) H a o:=by
  unfold iC;split
  .rename_i c hc;split
   .rfl
   .rename_i hb;rw[hc]at h;obtain⟨bp,args,ats⟩:=c;cases bp<;>simp[eJ]at h<;>simp[py]at hb
  .rfl
 have h2:oI X.P RM i o=SM:=by simp[oI,h]
 have h0:tw o.op=SM:=by
  unfold tw;split
  .rename_i c hc;rw[hc]at h;obtain⟨bp,args,ats⟩:=c;cases bp<;>simp[eJ]at h<;>simp[py]
  .rfl
 unfold gF;rw[NB h0,h1,h2,hg];cases du X (RC.map (· + i)) H a o with
 |none=>rfl
 |some r=>simp
theorem amO{H H':AH}{a:au}{o:oR}{v:vl}(h:gF X cf RM (Wf B) i o a H=Wf (v,H'))(hc:oI X.P RM i o=Th):preB H H'=Th∨(uh X.P RM=Th∧offB X.P RM i a H H'=Th):=by grind[gF]
theorem YY{H H':AH}{a:au}{i j:Nat}{o x:oR}{v:vl}(hev:cF H H')(h:gF X cf RM (Wf B) i o a H=Wf (v,H'))(hc:oI X.P RM i o=Th)(hu:oT RM i j=Th)
  (hm:(x,j)∈RM.toList.zipIdx) (hl:iz X.P x.op=Th) (hg:oB X.P RM x a=Th) {b:Nat} {y:bv} (ht:touch X a x=Wf b) (hy:H.get b=Wf y):H'.get b=Wf y:=by
 rcases amO h hc with hp|⟨hmo,ho⟩
 .grind[ahw]
 .have:=Zz.1 ho (x,j) hm;simp[hl,hu,Ws,Wg,We]at this;split at this
  .rename_i t p hp;have e:touch X a x=iZ (d6 a p):=by unfold touch;rw[hp];rfl
   grind[oB,sameAt,cF.keep]
  trivial
theorem af7{H:AH}{r s:Nat}{x y:bv}(hr:∃u,H.get r=Wf u)(hs:∃u,H.get s=Wf u)(MT:r≠s):(H.set r x).set s y=(H.set s y).set r x:=by obtain⟨u,hu⟩:=hr;obtain⟨w,hw⟩:=hs;have h1:=AH.get_lt hu;have h2:=AH.get_lt hw;simp only[AH.set];congr 1;exact V6 _ _ aa
theorem aht{H:AH}{r:Nat}{z:bv}(hr:r<H.n)(hn:H.n<=H1.n)(h:preB H H1=Th):preB (H.set r z) (H1.set r z)=Th:=by
 have key:∀(l m:List bv)(i:Nat),oX l m=Th->oX (l.set i z) (m.set i z)=Th:=by
  intro l
  induction l with
  | nil=>intro m i h;cases m with
   |nil=>rfl
   |cons y m=>trivial
  | cons x l ih=>
   intro m i h;cases m with
   |nil=>trivial
   | cons y m=>
    simp only[oX,Z7]at h;cases i with
    |zero=>grind[oX]
    |succ i=>grind[oX]
 unfold preB at h ⊢;simp[AH.set]
 have e:(H1.l.set (H1.n-1-r) z).drop (H1.n-H.n)=(H1.l.drop (H1.n-H.n)).set (H.n-1-r) z:=by
  rw[List.drop_set,iN aa];congr 1;omega
 grind
theorem aih{H:AH}{r:Nat}{y y1 z:bv}(hy:H.get r=Wf y)(hy1:H1.get r=Wf y1){a:au}(h:offB X.P RM i a H H1=Th):offB X.P RM i a (H.set r z) (H1.set r z)=Th:=by
 unfold offB at h ⊢;rw[Zz]at h ⊢;intro x hx;have:=h x hx;simp only[X4]at this ⊢;rcases this with h1|h1
 .grind
 .refine .inr ?_;split at h1
  .split at h1
   .grind[sameAt,AH.get_set]
   omega
  omega
theorem abh{H:AH}{a:au}{rid:Option Nat}{x:oR}(ap:oL x.op=Th):iC X cf rid H a x=du X rid H a x:=by grind[oL,iC,py]
theorem abi{x:oR}(ap:oL x.op=Th):tw x.op=SM:=by
 unfold oL at ap;split at ap
 .rename_i c hc;rw[hc];split at ap
  .rename_i hb;simp[tw,py,hb]
  .cases ap
 .cases ap
theorem amQ{H:AH}{a:au}{r:Nat}{x:oR}{v:vl}{y z:bv}(ap:oL x.op=Th)(hy:H.get r=Wf y)(hy0:y.st=0)(hz:z.shared=SM)(hx:gF X cf RM (Wf B) j x a H=Wf (v,H1)):
  gF X cf RM (Wf B) j x a (H.set r z)=Wf (v,H1.set r z):=by
 unfold gF at hx ⊢;rw[NB (abi ap),abh ap]at hx ⊢;cases hv:du X ((Wf B).map (· + j)) H a x with
 |none=>grind
 | some p=>
  obtain⟨v',H'⟩:=p;rw[hv]at hx;rw[ah9 hy hy0 hz ap hv];simp only at hx ⊢;split at hx
  .cases hx
  .rename_i hc;cases hx;rw[iN];have hev:=GE hv;have hr:=AH.get_lt hy
   obtain ⟨y1,hy1⟩:∃y1,H1.get r=Wf y1:=by
    grind[cF.keep]
   intro hbad;apply hc;simp only[Wy,X5,X4,Y6,Z7]at hbad ⊢;rcases hbad with hb|⟨⟨hb1,hb2⟩,hb3⟩
   .grind
   .refine .inr ⟨⟨hb1,?_⟩,?_⟩
    .cases hp:preB H H1 with
     |false=>rfl
     |true=>grind[aht,cF.n]
    .cases hm:uh X.P RM with
     |false=>rfl
     | true=>
      rw[hm,X5]at hb3;cases ho:offB X.P RM j a H H1 with
      |false=>rfl
      |true=>grind[aih]
theorem aiB{H:AH}{a:au}{r:Nat}{x:oR}{v:vl}{y:bv}(hev:cF H H1)(hx:gF X cf RM (Wf B) j x a H=Wf (v,H1))(ap:oL x.op=Th)(hy:H1.get r=Wf y)(hy0:y.st=0)(hyv:y.ver=0):H.get r=Wf y:=by
 unfold gF at hx;rw[NB (abi ap),abh ap]at hx;cases hv:du X ((Wf B).map (· + j)) H a x with
 |none=>grind
 | some p=>
  obtain⟨v',H'⟩:=p;rw[hv]at hx;simp only at hx;split at hx
  .cases hx
  .cases hx;obtain⟨n,Nd,s,k,cs,h1,_⟩:=Tm ap hv;obtain⟨y0,hg⟩:=aqc h1 hy hy0;obtain⟨y1,q1,q2,q3,_⟩:=hev.keep r y0 hg;rw[hy]at q1;cases q1;have:=q3 aa
   grind
theorem amN(hcf:jT cf){H H1 H2:AH}{a:au}{i j:Nat}{x o:oR}{vx vo:vl}(hij:j≠i)
  (hx:gF X cf RM (Wf B) j x a H=Wf (vx,H1)) (ho:gF X cf RM (Wf B) i o a H1=Wf (vo,H2))
  (c1:¬(eJ X.P x.op=Th∧eJ X.P o.op=Th)) (c2:eJ X.P x.op=Th->ky o.op=Th->oL x.op=Th∨od RM j x.op=Th) (c3:ky x.op=Th->eJ X.P o.op=Th->od RM i o.op=Th) (hBn:B+RM.size<=H.n)
  (mx:(x,j)∈RM.toList.zipIdx) (mo:(o,i)∈RM.toList.zipIdx)
  (k1:eJ X.P x.op=Th->iz X.P o.op=Th->oI X.P RM j x=Th∧oT RM j i=Th) (k2:eJ X.P o.op=Th->iz X.P x.op=Th->oI X.P RM i o=Th∧oT RM i j=Th)
  (good:eJ X.P o.op=SM->(iz X.P o.op=Th∨px o.op=Th)->∀b,touch X a o=Wf b->∃y,H.get b=Wf y∧y.st≠0) :
  ∃H1',gF X cf RM (Wf B) i o a H=Wf (vo,H1')∧gF X cf RM (Wf B) j x a H1'=Wf (vx,H2):=by
 have gx:=YZ hx;have go:=YZ ho;by_cases ex:eJ X.P x.op=Th
 ·-- x writes
  have eo:eJ X.P o.op=SM:=by simpa using λh=>c1 ⟨ex,h⟩
  by_cases no':ky o.op=Th
  ·-- an append and a new block
   rcases c2 ex no' with ap|sl
   case inr=>
    rw[Ee hcf sl gx]at hx;have eo2:=λH=>oE (cf:=cf) (RM:=RM) (H:=H) (a:=a) (RC:=some B) (i:=i) eo go
    rw[eo2]at ho;obtain⟨cells,⟨y,hy,hy0,hyv⟩,u2,u3⟩:=AW (r:=B+i) ho no';have hi:i<RM.size:=by have:=Yb.1 mo;grind
    have hy':H.get (B+i)=Wf y:=by rw[<-QN hcf hx aa,hy]
    refine⟨_,by rw[eo2];exact u3 H ⟨y,hy',hy0,hyv⟩,?_⟩;rw[Ee hcf sl gx,u2];exact aer hcf aa aa hx
   have eo2:=λH=>oE (cf:=cf) (RM:=RM) (H:=H) (a:=a) (RC:=some B) (i:=i) eo go
   rw[eo2]at ho;obtain⟨cells,u1,u2,u3⟩:=AW (r:=B+i) ho no';obtain⟨y,hy,hy0,hyv⟩:=u1;have hev:=BR hcf hx
   grind[aiB,fresh,amQ]
  have no:ky o.op=SM:=by simpa using no'
  rw[oE eo go]at ho ⊢;by_cases lo:iz X.P o.op=Th
  .obtain⟨e1,_,e3⟩:=Di ho eo lo;subst e1;obtain⟨c1',c2'⟩:=k1 ex lo;refine⟨H,e3 _ H (λb hb=>?_),hx⟩;obtain⟨y,hy,_⟩:=good eo (.inl lo) b hb;rw[hy,YY (BR hcf hx) hx c1' c2' mo lo go hb hy]
  .by_cases so:px o.op=Th
   .obtain⟨e1,e2,e3⟩:=Dh ho so;subst e1;refine⟨H,e3 _ H (λb hb=>?_),hx⟩;obtain⟨y,y2,q1,q2,q3,q4,q5,q6,q7⟩:=(BR hcf hx).stat (good eo (.inr so) b hb);exact⟨y2,y,q2,q1,q4,q3,q5.symm,q6.symm,q7.symm⟩
   grind[AV]
 .have ex':eJ X.P x.op=SM:=by simpa using ex
  rw[oE ex' gx]at hx;by_cases nx:ky x.op=Th
  ·-- x makes a block
   by_cases eo':eJ X.P o.op=Th
   .have sl:=c3 nx eo';rw[Ee hcf sl go]at ho;obtain⟨cells,⟨y,hy,hy0,hyv⟩,u2,u3⟩:=AW (r:=B+j) hx nx;subst u2;have hr:=AH.get_lt hy;obtain⟨H1',g1,g2⟩:=aeq hcf hr aa ho;refine⟨H1',by rw[Ee hcf sl go];exact g1,?_⟩;rw[oE ex' gx,g2];exact u3 H1' ⟨y,by rw[QN hcf g1 hr,hy],hy0,hyv⟩
   have eo:eJ X.P o.op=SM:=by simpa using eo'
   rw[oE eo go]at ho ⊢;obtain⟨cells,u1,u2,u3⟩:=AW (r:=B+j) hx nx;obtain⟨y,hy,hy0,hyv⟩:=u1;by_cases no:ky o.op=Th
   .obtain⟨cells2,w1,w2,w3⟩:=AW (r:=B+i) ho no;have MT:B+i≠B+j:=aa
    have w1':∃y,H.get (B+i)=Wf y∧y.st=0∧y.ver=0:=by
     obtain⟨z,hz,hz2⟩:=w1;rw[u2,AH.get_set hy,iN MT]at hz;exact⟨z,hz,hz2⟩
    refine⟨_,w3 H w1',?_⟩;obtain⟨z,hz,hz2⟩:=w1';have u1':∃y,(H.set (B+i) (fresh (B+i) cells2)).get (B+j)=Wf y∧y.st=0∧y.ver=0:=⟨y,by grind[AH.get_set],hy0,hyv⟩;rw[oE ex' gx];have:=u3 _ u1';rw[w2,u2,af7 ⟨y,hy⟩ ⟨z,hz⟩ (λe=>MT e.symm)];exact this
   .by_cases lo:iz X.P o.op=Th
    .grind[Di,oE,AH.get_set]
    .by_cases so:px o.op=Th
     .obtain⟨e1,e2,e3⟩:=Dh ho so;subst e1;refine⟨H,e3 _ H (λb hb=>?_),by grind[oE]⟩;obtain⟨y,y2,q1,q2,q3,q4,q5,q6,q7⟩:=(GE hx).stat (good eo (.inr so) b hb);exact⟨y2,y,q2,q1,q4,q3,q5.symm,q6.symm,q7.symm⟩
     grind[AV,oE]
  .have nx':ky x.op=SM:=by simpa using nx
   by_cases lx:iz X.P x.op=Th
   ·-- x reads
    obtain⟨e1,e2,e3⟩:=Di hx ex' lx;subst e1;refine⟨H2,ho,?_⟩;rw[oE ex' gx];refine e3 _ H2 (λb hb=>?_);obtain⟨y,hy,hy0⟩:=e2 b hb;by_cases eo:eJ X.P o.op=Th
    .rw[hy,YY (BR hcf ho) ho (k2 eo lx).1 (k2 eo lx).2 mx lx gx hb hy]
    .have eo':eJ X.P o.op=SM:=by simpa using eo
     rw[oE eo' go]at ho;by_cases no:ky o.op=Th
     .grind[AW,AH.get_set]
     .by_cases lo:iz X.P o.op=Th
      .rw[(Di ho eo' lo).1]
      .by_cases so:px o.op=Th
       .rw[(Dh ho so).1]
       .rw[(AV ho eo' ae ae ae).1]
   .by_cases sx:px x.op=Th
    .grind[Dh,oE,cF.stat,BR]
    grind[AV,oE]
structure O3(X:dh)(RM:Array oR)(j i:Nat)(x o:oR):Prop where
 ne:j≠i
 apart:x.apart RM o=Th
 c1:¬(eJ X.P x.op=Th∧eJ X.P o.op=Th)
 c2:eJ X.P x.op=Th->ky o.op=Th->oL x.op=Th∨od RM j x.op=Th
 c3:ky x.op=Th->eJ X.P o.op=Th->od RM i o.op=Th
 mx:(x,j)∈RM.toList.zipIdx
 mo:(o,i)∈RM.toList.zipIdx
 k1:eJ X.P x.op=Th->iz X.P o.op=Th->oI X.P RM j x=Th∧oT RM j i=Th
 k2:eJ X.P o.op=Th->iz X.P x.op=Th->oI X.P RM i o=Th∧oT RM i j=Th
theorem YM{x:oR}(hm:(x,j)∈RM.toList.zipIdx):∀d,x.dst=Wf d->nK RM d=Th:=λd hd=>by
 grind[nK,Xs]
def Good(X:dh)(RM:Array oR)(a:au)(H:AH)(o:oR):Prop:=
 Region.wanted o (jU RM a)=Th->eJ X.P o.op=SM->(iz X.P o.op=Th∨px o.op=Th)->∀b,touch X a o=Wf b->∃y,H.get b=Wf y∧y.st≠0
theorem ad6(hcf:jT cf){H H1 H2:AH}{a a1 a2:au}{i j:Nat}{x o:oR}(F:O3 X RM j i x o)
  (hx:dV X cf RM (Wf B) j x a H=Wf (a1,H1)) (ho:dV X cf RM (Wf B) i o a1 H1=Wf (a2,H2)) (good:Good X RM a H o) (hBn:B+RM.size<=H.n) :
  ∃a1' H1',dV X cf RM (Wf B) i o a H=Wf (a1',H1')∧dV X cf RM (Wf B) j x a1' H1'=Wf (a2,H2):=by
 obtain⟨p1,p2,p3⟩:=oR.apart_spec F.apart
 -- the second operation does not see what the first one writes
 have so:∀{v:vl}{H:AH},dV X cf RM (Wf B) i o (dQ a x.dst v) H=(dV X cf RM (Wf B) i o a H).map λr=>(dQ r.1 x.dst v,r.2):=by
  intro v H;unfold dV;rw[JA p1,YX p1 (YM F.mx)];split
  .cases hd:gF X cf RM (Wf B) i o a H with
   |none=>rfl
   |some r=>grind[yW]
  .grind[yW]
 have sx:∀{v:vl}{H:AH},dV X cf RM (Wf B) j x (dQ a o.dst v) H=(dV X cf RM (Wf B) j x a H).map λr=>(dQ r.1 o.dst v,r.2):=by
  intro v H;unfold dV;rw[JA p3,YX p3 (YM F.mo)];have p2':∀d,o.dst=Wf d->x.dst≠Wf d:=λd hd hx=>p2 d hx hd
  split
  .cases hd:gF X cf RM (Wf B) j x a H with
   |none=>rfl
   |some r=>grind[yW]
  .grind[yW]
 by_cases wx:Region.wanted x (jU RM a)=Th
 .have hx':=hx;unfold dV at hx';rw[ip wx]at hx';split at hx'
  case h_2=>cases hx'
  rename_i vx Hx dx;simp[Z9,Z5]at hx';obtain⟨rfl,rfl⟩:=hx';rw[so]at ho;by_cases wo:Region.wanted o (jU RM a)=Th
  ·have e:dV X cf RM (Wf B) i o a Hx=match gF X cf RM (Wf B) i o a Hx with
    |some (v,H')=>Wf (dQ a o.dst v,H')
    |none=>Vc:=by unfold dV;rw[ip wo];try rfl
   rw[e]at ho;split at ho
   case h_2=>cases ho
   rename_i vo Ho do_;simp[Option.map_some,Z9,Z5]at ho;obtain⟨rfl,rfl⟩:=ho;obtain⟨H1',g1,g2⟩:=amN hcf F.ne dx do_ F.c1 F.c2 F.c3 hBn F.mx F.mo F.k1 F.k2 (good wo);refine⟨dQ a o.dst vo,H1',by grind[dV],?_⟩;rw[sx];have:dV X cf RM (Wf B) j x a H1'=Wf (dQ a x.dst vx,Ho):=by unfold dV;rw[ip wx,g2]
   grind[yW]
  .have e:dV X cf RM (Wf B) i o a Hx=Wf (dQ a o.dst undef,Hx):=by unfold dV;rw[iN wo]
   grind[Z9,dV,yW]
 .have e0:dV X cf RM (Wf B) j x a H=Wf (dQ a x.dst undef,H):=by unfold dV;rw[iN wx]
  rw[e0]at hx;simp[Z9,Z5]at hx;obtain⟨rfl,rfl⟩:=hx;rw[so]at ho;cases hs:dV X cf RM (Wf B) i o a H with
  |none=>grind
  | some r=>
   obtain⟨a',H'⟩:=r;rw[hs]at ho;simp[Option.map_some,Z9,Z5]at ho;obtain⟨rfl,rfl⟩:=ho;refine⟨a',H',rfl,?_⟩
   -- a' is a with o's KK filled
   have ha':∃u,a'=dQ a o.dst u:=by
    unfold dV at hs;split at hs
    .grind
    .grind
   obtain⟨u,rfl⟩:=ha';rw[sx];have:dV X cf RM (Wf B) j x a H'=Wf (dQ a x.dst undef,H'):=by unfold dV;rw[iN wx]
   grind[yW]
def sk(X:dh)(cf:fW)(RM:Array oR)(B:Nat):List (oR×Nat)->au->AH->Option (au×AH)
 |[],a,H=>Wf (a,H)
 | (o,i)::rest,a,H=>match dV X cf RM (Wf B) i o a H with
  |some (a',H')=>sk X cf RM B rest a' H'
  |none=>Vc
theorem Rz:∀(l:List oR)(i:Nat)(a:au)(H:AH),jN X cf RM (Wf B) i l a H=sk X cf RM B (l.zipIdx i) a H
 |[],_,_,_=>rfl
 | o::l,i,a,H=>by
  simp[jN,List.zipIdx_cons,sk];cases hs:dV X cf RM (Wf B) i o a H with
  |none=>rfl
  |some r=>obtain⟨a',H'⟩:=r;exact Rz l (i+1) a' H'
theorem RE(hcf:jT cf){i:Nat}{o:oR}:∀(pre post:List (oR×Nat))(a:au)(H:AH)(r:au×AH),
  (∀x∈pre,O3 X RM x.2 i x.1 o)->Good X RM a H o->B+RM.size<=H.n->sk X cf RM B (pre++(o,i)::post) a H=Wf r ->
  ∃a' H',dV X cf RM (Wf B) i o a H=Wf (a',H')∧sk X cf RM B (pre++post) a' H'=Wf r
 | [],post,a,H,r,_,_,_,h=>by
  grind[sk]
 | (x,j)::pre,post,a,H,r,hF,hg,hBn,h=>by
  simp[List.cons_append,sk]at h;split at h
  .rename_i a1 H1 hs;have F:=hF (x,j) ac;obtain⟨p1,p2,p3⟩:=oR.apart_spec F.apart;have he:=Fi hcf hs
   have ha1:∃u,a1=dQ a x.dst u:=by
    unfold dV at hs;split at hs
    .grind
    .grind
   have hg1:Good X RM a1 H1 o:=by
    obtain⟨u,rfl⟩:=ha1;intro w e l b hb;rw[JA p1]at w;rw[adu p1]at hb;obtain⟨y,hy,hy0⟩:=hg w e l b hb;obtain⟨y',hy',_,_,k⟩:=he.keep b y hy;exact⟨y',hy',(k hy0).1⟩
   obtain⟨a2,H2,hs2,hr⟩:=RE hcf pre post a1 H1 r (λz hz=>hF z ae) hg1 (Z1 hBn he.n) h
   grind[ad6,sk]
  .cases h
end
def Ui(M:ax)(o:oR):Nat:=o.after.toList.foldl (λs e=>if Region.binds .any e then s|||2^e.on|||M.getD e.on 0 else s) 0
def M5(P:pG)(RM:Array oR)(j i:Nat)(x o:oR):Bool:=
 x.apart RM o && !(eJ P x.op&&eJ P o.op)&&(!(eJ P x.op&&ky o.op)||oL x.op||od RM j x.op)&&(!(ky x.op&&eJ P o.op)||od RM i o.op) &&
 (!(eJ P x.op&&iz P o.op)||oI P RM j x&&oT RM j i)&&(!(eJ P o.op&&iz P x.op)||oI P RM i o&&oT RM i j)
def YN(P:pG)(RM:Array oR):Bool:=
 let M:=(Region.before RM).toList
 (RM.toList.zipIdx).all λ(o,i)=>
  M.getD i 0 == Ui M o&&(o.after.toList.all λe=>!Region.binds .any e||decide (e.on<i)) &&
  (RM.toList.zipIdx).all λ(x,j)=>decide (i<=j)||(M.getD i 0).testBit j||M5 P RM j i x o
def mW:Code->Bool
 |.seq x y|.cond _ x y=>mW x&&mW y
 |.block _ c|.loop c=>mW c
 |.scope _|.rangeFunc ..=>SM
 |_=>Th
def kv(P:pG):Code->Bool
 |.region _ RM draw=>RM.toList.all yf&&(!draw||YN P RM)
 |.rangeFunc g _ x y=>t8 g&&kv P x&&kv P y&&mW x&&mW y
 |.seq x y=>kv P x&&kv P y
 |.cond c x y=>t8 c&&kv P x&&kv P y
 |.block _ c|.loop c|.scope c=>kv P c
 |_=>Th
def GJ(P:pG)(fn:Func):Bool:=
 (fn.name != "runtime.NumGoroutine")&&match fn.body with
 |some c=>kv P c
 |none=>SM
def O5(X:dh)(f:fI)(args:au)(v:vl):Prop:=∀w,(callFunc f args.toArray).run X.P w=.ok (.value v) w
def abC(X:dh):Prop:=∀f args v,X.orc f args=Wf v→eH args=Th∧plain v=Th∧(O5 X f args v ∨
 (∃fn,X.P.funcs[f]?=Wf fn∧fn.body.isNone=SM∧(fn.name == "runtime.NumGoroutine")=SM) ∧
 ∀w,Calls X.P f args.toArray w λe w'=>e=.returned v∧w.heap.size≤w'.heap.size∧(∀c,c<w.heap.size→w'.heap[c]?=w.heap[c]?)∧w'.os=w.os∧w'.output=w.output)
abbrev Fw(r:Option Nat):Fence:={Fence.wide with round:=r}
def Ji(X:dh):Prop:=∀gf lb H xs,X.seq gf lb H=Wf xs→(∀x∈xs,eH x=Th) ∧
 (∃fn,X.P.funcs[gf]?=Wf fn∧fn.body.isNone=SM∧(fn.name == "runtime.NumGoroutine")=SM) ∧
 ∀ φ w (lb':au),bB X φ H w→aE φ lb lb'→∃View:wO→Prop,(∀φ' H' w',bB X φ' H' w'→gJ φ φ'→aE φ' lb lb'→X.seq gf lb H'=Wf xs→X.seqK gf lb H'=X.seqK gf lb H→View w') ∧
  ∀(l:Nat)(J Jx:Nat→wO→Prop)(W:wO),(∀i W1,J i W1→View W1) →
   (∀i x W1,J i W1→xs[i]?=Wf x→YieldAt (Fw Vc) 0 X.P l x.toArray W1 λe W'=>(e=.returned (.bool Th)∧J (i+1) W')∨(e=.returned (.bool SM)∧Jx (i+1) W')) →
   J 0 W→CallsIn (Fw Vc) 0 X.P gf (#[.func (.yield l) #[] #[]]++lb'.toArray) W λe W'=>(∃v,e=.returned v)∧(J (RW xs) W'∨∃i,Jx i W')
structure O1(X:dh):Prop where
 mixed:X.P.follows .mixedOrders=Th
 fns:∀f fn,X.allow f=Th->X.P.funcs[f]?=Wf fn->GJ X.P fn=Th
 orc:abC X
 seq:Ji X
variable{X:dh}{cf:fW}{φ:bI}{H:AH}{w:wO}
def uW(X:dh)(cf:fW):Prop:=∀f args H v H',cf f args H=Wf (v,H')→(X.orc f args=Wf v∧H'=H∧eH args=Th∧plain v=Th∧O5 X f args v) ∨
 (∃fn,X.P.funcs[f]?=Wf fn∧fn.body.isNone=SM∧(fn.name == "runtime.NumGoroutine")=SM) ∧
 ∀ φ w (GS:Array vl),bB X φ H w→aE φ args GS.toList →
  Calls X.P f GS w λe w'=>∃φ' v',e=.returned v'∧aC φ' v v'∧bB X φ' H' w'∧cE φ H w φ' H' w'∧cY H.n Vc φ φ'
theorem La{a:au}(ha:aE φ a LT.tmps.toList){v:vl}(hv:aC φ v v')(dst:Option Tmp):aE φ (dQ a dst v) (LT.put dst v').tmps.toList:=by
 cases dst with
 |none=>exact ha
 |some d=>grind[dQ,Act.put,aE.set]
theorem put_defers(LT:Act)(dst:Option Tmp)(v:vl):(LT.put dst v).defers=LT.defers:=by cases dst<;>rfl
theorem abP{a:au}(ha:aE φ a LT.tmps.toList)(RM:Array oR)(j:Nat):yielded RM LT.tmps j=jU RM a j:=by
 unfold yielded jU;cases ht:(RM[j]?).bind (·.dst)with
 |none=>rfl
 | some t=>
  simp[Option.bind_some];cases hv:a[t]? with
  | none=>
   have:=ha.none hv
   grind
  | some v=>
   obtain⟨v',h1,h2⟩:=ha.at hv;rw[Array.getElem?_toList]at h1;rw[h1];cases v with
   |bool b=>rw[Gi h2]
   |pointer p=>cases p<;>simp[aC]at h2<;>(try obtain⟨_,rfl,_⟩:=h2)<;>(try subst h2)<;>rfl
   |slice p _ _=>cases p<;>simp[aC]at h2<;>(try obtain⟨_,_,rfl,_⟩:=h2)<;>(try subst h2)<;>rfl
   |chan c=>cases c<;>simp[aC]at h2<;>(try obtain⟨_,rfl⟩:=h2)<;>(try subst h2)<;>rfl
   |map c=>cases c<;>simp[aC]at h2<;>(try subst h2)<;>rfl
   |agg x=>obtain⟨x⟩:=x;grind[aC]
   |tuple x=>obtain⟨x⟩:=x;grind[aC]
   |iface t x=>grind[aC]
   |func fn x y=>obtain⟨x⟩:=x;obtain⟨y⟩:=y;simp[aC]at h2;grind
   |_=>simp[aC]at h2;subst h2;rfl
theorem acf{a:au}(ha:aE φ a LT.tmps.toList)(RM:Array oR)(o:oR):Region.wanted o (yielded RM LT.tmps)=Region.wanted o (jU RM a):=by
 have:yielded RM LT.tmps=jU RM a:=funext (abP ha RM)
 grind
def marks(ds:ax):List Deferred:=ds.map λD=>{target:=.collected D,args:=#[]}
def mQ(w:wO)(d:List Deferred)(w':wO)(d':List Deferred):Prop:=
 ∃ds:ax,d'=marks ds++d∧ds.Nodup∧∀D∈ds,w.heap.size<=D∧w'.heap[D]?=Wf (.deferred (Wf []))
theorem mQ.of_eq{w:wO}{d d':List Deferred}(h:d'=d):mQ w d w' d':=⟨[],cU,List.nodup_nil,λD h=>by simp at h⟩
theorem cE.other{X:dh}{φ:bI}{H H':AH}{w:wO}(h:bB X φ H w)(he:cE φ H w φ' H' w'){o:Obj}(hc:w.heap[c]?=Wf o)(ho:o.isCells=SM):w'.heap[c]?=Wf o:=by
 have PJ:c<w.heap.size:=lt_of_heap hc;refine(he.frame c PJ ?_).trans hc;rintro⟨b,p,x,hp,rfl,_⟩;obtain⟨_,cs,e,fz,_,_,_,_,_,hcs,_⟩:=h.dom b p hp
 grind[Obj.isCells]
theorem mQ.trans{X:dh}{w:wO}{d d1 d2:List Deferred}(h:mQ w d w1 d1)(hr:bB X φ1 H1 w1)(he:cE φ1 H1 w1 φ2 H2 w2)(hs:w.heap.size<=w1.heap.size)(k:mQ w1 d1 w2 d2):mQ w d w2 d2:=by
 obtain⟨ds,rfl,n1,q1⟩:=h;obtain⟨es,rfl,n2,q2⟩:=k;refine⟨es++ds,by simp[marks],?_,?_⟩
 .grind
 .intro D hD;rcases Xc.1 hD with hD|hD
  .grind
  .exact⟨(q1 D hD).1,he.other hr (q1 D hD).2 rfl⟩
def bN(X:dh)(L:Nat)(φ:bI)(H:AH)(w:wO)(LT:Act)(a':au)(H':AH)(K:Act->wO->Prop):Prop:=
 ∀φ' act' w',aE φ' a' act'.tmps.toList->mQ w LT.defers w' act'.defers->bB X φ' H' w'->cE φ H w φ' H' w'->cY L Vc φ φ'->K act' w'
def Ready(X:dh)(φ:bI)(H:AH)(o:oR)(rid:Option Nat):Prop:=
 ∀t r z,o.op=.alloc t->rid=Wf r->fX X.P t=Wf z->φ r=Vc∧H.get r=Wf (fresh r z.cells.toList)
theorem cY.weak{r:Option Nat}{φ:bI}(h:cY L Vc φ φ'):cY L r φ φ':=λb p h1 h2=>by
 rcases h b p h1 h2 with g|g
 .omega
 .cases g
theorem ZB(hcf:uW X cf)(h:bB X φ H w){a:au}{LT:Act}(ha:aE φ a LT.tmps.toList){o:oR}(ho:yf o=Th){rid:Option Nat}{v:vl}{H':AH}
  (DQ:Ready X φ H o rid) (hv:iC X cf rid H a o=Wf (v,H')) {K:Act→wO→Prop} {Q:eX→Act→wO→Prop}
  (hK:∀φ' v' w',aC φ' v v'→bB X φ' H' w'→cE φ H w φ' H' w'→cY H.n rid φ φ'→K (LT.put o.dst v') w') {r:Option Nat}:o.wpIn (Fw r) 0 X.P LT w K Q:=by
 have plain:du X rid H a o=Wf (v,H')→o.wpIn (Fw r) 0 X.P LT w K Q:=by
  intro hv;obtain⟨φ',v',w',hr,h1,h2,h3,h4⟩:=Lv h ha ho DQ hv;refine⟨λ_ _=>trivial,?_⟩;rw[oR.semAt_eq _ _ _ (λc hc=>by grind[du])];rcases hr with hr|⟨hr,rfl⟩
  .rw[hr];exact hK φ' v' w' h1 h2 h3 h4
  .rw[hr];exact hK φ' undef w' h1 h2 h3 h4
 unfold iC at hv;split at hv
 .rename_i c hc;split at hv
  .grind
  .rename_i hb;split at hv
   .rename_i g args hcal;unfold pF at hcal;split at hcal
    .rename_i f hf;split at hcal
     .rename_i g0 first captured he
      simp only[Z9,Z5]at hcal;obtain⟨rfl,rfl⟩:=hcal;have Is:∀x∈o.op.operands,t8 x=Th:=λx hx=>X1.1 ho x hx
      rw[hc]at Is;have hfr:=dE h ha (Is f (by simp[Op.operands,Call.operands,hf]));rw[he]at hfr;have hargs:=GD h ha (xs:=c.args) (λx hx=>Is x (by grind[Op.operands,Call.operands]));obtain⟨first⟩:=first
      obtain⟨captured⟩:=captured;simp only[aC]at hfr;obtain⟨_,x',y',e,r1,r2⟩:=hfr;rcases hcf _ _ _ _ _ hv with⟨_,rfl,p1,p2,p3⟩|⟨⟨fn,f1,f2,f3⟩,hcall⟩
      .have hl:aE φ ((⟨first⟩:Array vl).toList++(c.args.map (ev X a)).toList++(⟨captured⟩:Array vl).toList) ((⟨x'⟩:Array vl)++c.args.map LT.eval++⟨y'⟩).toList:=by grind[aE.append]
       have hl':=(aE.of_plain _ p1 _).1 hl;refine⟨λ_ _=>trivial,?_⟩;rw[oR.semAt_eq _ _ _ (λc' hc'=>by grind)]
       have hrun:(execOp LT.eval o).run X.P w=.ok (.value v) w:=by
        have h3:=p3 w;rw[← hl',Array.toArray_toList]at h3;unfold execOp;simp only[hc,resolve,hf,e,Deferred.ofValue,invoke];exact h3
       rw[hrun];exact hK φ v w (lR p2) h (cE.refl _ _ _) (cY.refl _ _ _)
      have hc2:=hcall φ w ((⟨x'⟩:Array vl)++c.args.map LT.eval++⟨y'⟩) h (by
       grind[aE.append])
      refine⟨λ_ _=>trivial,?_⟩;rw[oR.semAt_eq _ _ _ (λc' hc'=>by grind)]
      have hrun:(execOp LT.eval o).run X.P w=.ok (.enter g0 ((⟨x'⟩:Array vl)++c.args.map LT.eval++⟨y'⟩)) w:=by
       unfold execOp;simp only[hc,resolve,hf,e,Deferred.ofValue,invoke,callFunc];have f2':¬fn.body=Vc:=by intro h0;simp[h0]at f2
       have f3':¬fn.name = "runtime.NumGoroutine" :=by simpa using f3
       simp[f1,f2',f3']
      rw[hrun];refine⟨λh=>(by cases h),?_⟩;refine(callsIn_wide.2 (Calls.mono hc2 ?_):CallsIn Fence.wide (0-1) _ _ _ _ _)
      grind[cY.weak]
     trivial
    trivial
   trivial
 grind
def rH(X:dh)(B:Nat)(φ:bI):bI:=λb=>if b<B∧X.glob b=Th then φ b else Vc
theorem xf{B:Nat}(h:rH X B φ b=Wf p):b<B∧X.glob b=Th∧φ b=Wf p:=by
 unfold rH at h;split at h
 .rename_i hc;exact⟨hc.1,hc.2,h⟩
 .cases h
theorem ap0{B:Nat}(hG:∀g,X.glob g=Th->g<B)(h:bB X φ H w):bB X (rH X B φ) (H.bare X B) w where
 glob g hg:=by
  obtain⟨p,h1,h2,h3⟩:=h.glob g hg;exact⟨p,by unfold rH;rw[ip ⟨hG g hg,hg⟩];exact h1,h2,h3⟩
 dom b p hp:=by
  obtain⟨hb,hg,hp⟩:=xf hp;obtain⟨x,cs,e,fz,h1,h2,h3⟩:=h.dom b p hp;refine⟨{x with wr:=SM,st:=if eH x.cells=Th then x.st else x.st+x.st},cs,e,fz,by rw[uR,h1,Option.map_some,ip ⟨hb,hg⟩],?_,h3⟩
  show(if eH x.cells=Th then x.st else x.st+x.st)≠0
  split<;>omega
 cell b p x i v hp hx hs hv:=by
  obtain⟨hb,hg,hp⟩:=xf hp;obtain⟨x0,cs,e,fz,h1,_⟩:=h.dom b p hp;rw[uR,h1,Option.map_some,ip ⟨hb,hg⟩]at hx;cases hx;dsimp only at hs hv;split at hs
  .rename_i DP;obtain⟨v',q1,q2⟩:=h.cell b p x0 i v hp h1 hs hv
   have hpv:∀l:au,eH l=Th->∀u∈l,plain u=Th:=by
    intro l
    induction l with
    |nil=>intro _ u hu;cases hu
    | cons y l ih=>
     intro hl u hu;simp[eH,Z7]at hl;rcases Zy.1 hu with rfl|hu
     .exact hl.1
     .exact ih hl.2 u hu
   have hv2:=hpv _ DP v (Ya hv);rw[(aC.of_plain v hv2 v').1 q2]at q1;exact⟨v,q1,lR hv2⟩
  .omega
 frz b p x i hp hx hw _:=by
  obtain⟨hb,hg,hp⟩:=xf hp;obtain⟨x0,cs,e,fz,h1,_⟩:=h.dom b p hp;rw[uR,h1,Option.map_some,ip ⟨hb,hg⟩]at hx;cases hx;cases hw
 sep b b' p p' x x' hp hp' hx hx' _ _ _ _:=by obtain⟨hb,hg,hp⟩:=xf hp;obtain⟨hb',hg',hp'⟩:=xf hp';obtain⟨x0,_,_,_,h1,_⟩:=h.dom b p hp;obtain⟨x0',_,_,_,h1',_⟩:=h.dom b' p' hp';rw[uR,h1,Option.map_some,ip ⟨hb,hg⟩]at hx;rw[uR,h1',Option.map_some,ip ⟨hb',hg'⟩]at hx';cases hx;cases hx';exact .inl ⟨rfl,rfl⟩
theorem aa8{B:Nat}:¬Over (rH X B φ) (H.bare X B) c:=by
 rintro⟨b,p,x,hp,_,hx,_,hw⟩;obtain⟨hb,hg,_⟩:=xf hp;rw[uR]at hx;cases h:H.get b with
 |none=>rw[h]at hx;cases hx
 |some y=>rw[h,Option.map_some,ip ⟨hb,hg⟩]at hx;cases hx;cases hw
theorem als{B:Nat}(h:bB X φ H w)(h1:bB X φ' H1 w')(E:cE (rH X B φ) (H.bare X B) w φ' H1 w')(N:cY H.n Vc (rH X B φ) φ')(hn:H.n<=H1.n):
    ∃φ2,gJ φ' φ2∧bB X φ2 (H.graft H1) w'∧cE φ H w φ2 (H.graft H1) w'∧cY H.n Vc φ φ2:=by
  have lt:∀{b p},φ b=Wf p->b<H.n:=λhp=>by
    obtain⟨x,_,_,_,hx,_⟩:=h.dom _ _ hp;exact AH.get_lt hx
  have P1:∀{b p},φ' b=Wf p->b<H.n->φ b=Wf p:=λ{b p} hp hb=>by
    cases hq:rH X B φ b with
    | none => rcases N b p hp hq with g|g
              · omega
              · cases g
    | some q=>
      have:=E.le b q hq;rw[hp]at this;cases this;exact(xf hq).2.2
  have P4:∀{c},c<w.heap.size->w'.heap[c]?=w.heap[c]?:=λhc=>E.frame _ hc aa8
  have P5:∀{b p},φ' b=Wf p->H.n<=b->w.heap.size<=p.c:=λ{b p} hp hb=>by
    have hq:rH X B φ b=Vc:=by
      cases hq:rH X B φ b with
      |none=>rfl
      |some q=>have:=lt (xf hq).2.2;omega
    rcases E.new b p hp hq with g|g
    · exact g
    · exact absurd g aa8
  have P6:∀{b p},φ b=Wf p->p.c<w.heap.size:=λhp=>by
    obtain⟨_,_,_,_,_,_,_,_,_,hc,_⟩:=h.dom _ _ hp;exact lt_of_heap hc
  let φ2:bI:=λb=>if b<H.n then φ b else φ' b
  have o2:∀{b},b<H.n->φ2 b=φ b:=λhb=>ip hb
  have n2:∀{b}, ¬b<H.n->φ2 b=φ' b:=λhb=>iN hb
  have le1:gJ φ' φ2:=λb p hp=>by
    by_cases hb:b<H.n
    · rw[o2 hb];exact P1 hp hb
    · rw[n2 hb];exact hp
  have le2:gJ φ φ2:=λb p hp=>by rw[o2 (lt hp)];exact hp
  have gold:∀{b},b<H.n->(H.graft H1).get b=H.get b:=λhb=>H5 hn hb
  have gnew:∀{b p},φ' b=Wf p->¬b<H.n->(H.graft H1).get b=H1.get b:=λhp hb=>by
    obtain⟨x,_,_,_,hx,_⟩:=h1.dom _ _ hp;rw[WN aa hx,hx]
  have cellE:∀{c i},c<w.heap.size->w'.cell? ⟨c,i,Vc⟩=w.cell? ⟨c,i,Vc⟩:=λhc=>by simp[wO.cell?,P4 hc]
  have frzE:∀{c i},c<w.heap.size->w'.frozen? ⟨c,i,Vc⟩=w.frozen? ⟨c,i,Vc⟩:=λhc=>by simp[wO.frozen?,P4 hc]
  refine⟨φ2,le1,⟨?_, ?_, ?_, ?_, ?_⟩,⟨le2,E.size,λc hc _=>P4 hc, ?_, ?_, ?_,E.os,E.out⟩, ?_⟩
  · intro g hg
    obtain⟨p,q1,q2⟩:=h.glob g hg;exact⟨p,le2 _ _ q1,q2⟩
  · intro b p hp
    by_cases hb:b<H.n
    · rw[o2 hb]at hp
      obtain⟨x,cs,e,fz,q1,q2,q3,q4,q5,q6,q7⟩:=h.dom b p hp;exact⟨x,cs,e,fz,by rw[gold hb,q1],q2,q3,q4,q5,by rw[P4 (P6 hp)];exact q6,q7⟩
    · rw[n2 hb]at hp
      rw[gnew hp hb];exact h1.dom b p hp
  · intro b p x i v hp hx hs hv
    by_cases hb:b<H.n
    · rw[o2 hb]at hp
      rw[gold hb]at hx;obtain⟨v',q1,q2⟩:=h.cell b p x i v hp hx hs hv;exact⟨v',by rw[cellE (P6 hp)];exact q1,aC.mono le2 _ _ q2⟩
    · rw[n2 hb]at hp
      rw[gnew hp hb]at hx;obtain⟨v',q1,q2⟩:=h1.cell b p x i v hp hx hs hv;exact⟨v',q1,aC.mono le1 _ _ q2⟩
  · intro b p x i hp hx hw hi
    by_cases hb:b<H.n
    · rw[o2 hb]at hp
      rw[gold hb]at hx;rw[frzE (P6 hp)];exact h.frz b p x i hp hx hw hi
    · rw[n2 hb]at hp
      rw[gnew hp hb]at hx;exact h1.frz b p x i hp hx hw hi
  · intro b b' p p' x x' hp hp' hx hx' hs hs' MT hc
    by_cases hb:b<H.n
    · rw[o2 hb]at hp
      rw[gold hb]at hx;by_cases hb':b'<H.n
      · rw[o2 hb']at hp'
        rw[gold hb']at hx';exact h.sep b b' p p' x x' hp hp' hx hx' hs hs' MT hc
      · rw[n2 hb']at hp'
        have:=P6 hp;have:=P5 hp' aa;omega
    · rw[n2 hb]at hp
      rw[gnew hp hb]at hx;by_cases hb':b'<H.n
      · rw[o2 hb']at hp'
        have:=P6 hp';have:=P5 hp aa;omega
      · rw[n2 hb']at hp'
        rw[gnew hp' hb']at hx';exact h1.sep b b' p p' x x' hp hp' hx hx' hs hs' MT hc
  · intro b p hp hq
    by_cases hb:b<H.n
    · rw[o2 hb,hq]at hp;cases hp
    · rw[n2 hb]at hp
      exact .inl (P5 hp aa)
  · intro b p x' hp hx hs hw
    rw[gold (lt hp)]at hx;exact⟨x',hx,hs,hw⟩
  · intro b x _ hx _ _
    rw[gold (AH.get_lt hx)];exact hx
  · intro b p hp hq
    by_cases hb:b<H.n
    · rw[o2 hb,hq]at hp;cases hp
    · exact .inl aa
def apart(X:dh)(cf:fW)(B:Nat):fW:=λg args H=>if eH args=Th then match cf g args (H.bare X B)with
 |some (v,H')=>Wf (v,H.graft H')
 |none=>Vc else Vc
theorem aet{B:Nat}{a:au}{o:oR}{rid:Option Nat}{r:vl×AH}(h:jL X cf B H a o=Wf r)(hc:tw o.op=Th):iC X (apart X cf B) rid H a o=Wf r:=by
 unfold jL at h;unfold iC;split at h
 .rename_i c ho;rw[ho]at hc;have hb:py c.callee=SM:=by simpa[tw]using hc
  simp[hb,Zg,iF];cases hg:pF (ev X a) c with
  |none=>rw[hg]at h;cases h
  |some q=>rw[hg]at h;exact h
 .cases h
theorem alr{B:Nat}:H.graft (H.bare X B)=H:=by
 show AH.mk H.n ((List.range (H.n-H.n)).map _++H.l)=H
 rw[Y5];rfl
theorem aqd{B:Nat}(hG:∀g,X.glob g=Th->g<B)(hev:jT cf)(hcf:uW X cf):uW X (apart X cf B):=by
 intro f args H v H' hv;unfold apart at hv;split at hv
 .rename_i hp;split at hv
  .rename_i v1 H1 h1;cases hv;rcases hcf f args _ _ _ h1 with⟨q1,q2,q3,q4,q5⟩|⟨q1,q2⟩
   .subst q2;exact .inl ⟨q1,alr,q3,q4,q5⟩
   .refine .inr ⟨q1,λφ w GS h ha=>?_⟩;have e:=(aE.of_plain args hp _).1 ha;refine Calls.mono (q2 (rH X B φ) w GS (ap0 hG h) ((aE.of_plain args hp _).2 e)) ?_;rintro e w' ⟨φ',v',he,hr,hh,hE,hN⟩;obtain⟨φ2,k1,k2,k3,k4⟩:=als h hh hE hN (hev _ _ _ _ _ h1).n;exact⟨φ2,v',he,aC.mono k1 _ _ hr,k2,k3,k4⟩
  .cases hv
 .cases hv
theorem Qy(hev:jT cf)(hcf:uW X cf)(h:bB X φ H w){a a':au}{LT:Act}(ha:aE φ a LT.tmps.toList){o:oR}(ho:yf o=Th){RM:Array oR}{RC:Option Nat}{i:Nat}{H':AH}(hG:∀B,RC=Wf B->∀g,X.glob g=Th->g<B)
  (DQ:Ready X φ H o (RC.map (· + i))) (hs:dV X cf RM RC i o a H=Wf (a',H')) {K:Act->wO->Prop} {Q:eX->Act->wO->Prop}
  (hK:∀φ' act' w',aE φ' a' act'.tmps.toList->act'.defers=LT.defers->bB X φ' H' w'->cE φ H w φ' H' w'->cY H.n (RC.map (· + i)) φ φ'->K act' w') {r:Option Nat} :
  if Region.wanted o (yielded RM LT.tmps)then o.wpIn (Fw r) 0 X.P LT w K Q else(∀f,o.about X.P w LT.eval=Wf f->(Fw r).fn f)∧K (LT.put o.dst undef) w:=by
 rw[acf ha];unfold dV at hs;split at hs
 .rename_i hw;rw[ip hw];split at hs
  .rename_i v1 H1 hd;simp[Z9,Z5]at hs;obtain⟨rfl,rfl⟩:=hs;unfold gF at hd;split at hd
   .rename_i v2 H2 hdo;split at hd
    .cases hd
    .simp[Z9,Z5]at hd;obtain⟨rfl,rfl⟩:=hd;unfold nL at hdo;split at hdo
     .rename_i hso;simp[Z7]at hso;cases RC with
      |none=>cases hso.1
      | some B=>
       have hcb:tw o.op=Th:=by
        have:=hso.2;unfold od at this
        grind
       exact ZB (aqd (hG B rfl) hev hcf) h ha ho DQ (aet hdo hcb) (λφ' v' w' k1 k2 k3 k4=>hK φ' _ w' (La (aE.mono k3.le _ _ ha) k1 _) (put_defers _ _ _) k2 k3 k4)
     exact ZB hcf h ha ho DQ hdo (λφ' v' w' k1 k2 k3 k4=>hK φ' _ w' (La (aE.mono k3.le _ _ ha) k1 _) (put_defers _ _ _) k2 k3 k4)
   trivial
  trivial
 .rename_i hw;rw[iN hw];simp[Z9,Z5]at hs;obtain⟨rfl,rfl⟩:=hs;refine⟨λ_ _=>trivial,?_⟩
  grind[La,aC.undef,put_defers,cE.refl,cY.refl]
theorem bN.trans{LT ic:Act}{a1 a':au}{H1 H':AH}{K:Act->wO->Prop}{φ1:bI}{w1:wO}{L L1:Nat}(hK:bN X L φ H w LT a' H' K)(hd:mQ w LT.defers w1 ic.defers)(h1:bB X φ1 H1 w1)(he:cE φ H w φ1 H1 w1)
  (hn:cY L Vc φ φ1) (hl:L<=L1):bN X L1 φ1 H1 w1 ic a' H' K:=
 λφ' act' w' k1 k2 k3 k4 k5=>hK φ' act' w' k1 (hd.trans h1 k4 he.size k2) k3 (he.trans k4) (hn.trans k5 hl)
theorem UT{r:Option Nat}(hcf:uW X cf)(hev:jT cf){RM:Array oR}{Q:eX->Act->wO->Prop}:∀(l:List oR)(i:Nat)(a a':au)(H H':AH)(φ:bI)(w:wO)(LT:Act),
  bB X φ H w->aE φ a LT.tmps.toList->(∀o∈l,yf o=Th)->jN X cf RM Vc i l a H=Wf (a',H')->bN X H.n φ H w LT a' H' (Q .normal)->wpListIn (Fw r) 0 X.P RM Q l LT w
 | [],i,a,a',H,H',φ,w,LT,h,ha,_,hr,hK=>by
  simp[jN,Z9,Z5]at hr;obtain⟨rfl,rfl⟩:=hr;exact hK φ LT w ha (mQ.of_eq rfl) h (cE.refl _ _ _) (cY.refl _ _ _)
 | o::l,i,a,a',H,H',φ,w,LT,h,ha,ho,hr,hK=>by
  simp[jN]at hr;split at hr
  .rename_i a1 H1 hs;unfold wpListIn
   exact Qy hev hcf h ha (ho o ac) (λB hB=>by cases hB) (λt r z _ hr _=>by cases hr) hs (λφ1 ic w1 k1 k2 k3 k4 k5=>
    UT hcf hev l (i+1) a1 a' H1 H' φ1 w1 ic k3 k1 (λx hx=>ho x ae) hr (bN.trans (a1:=a1) hK (mQ.of_eq k2) k3 k4 k5 (Fi hev hs).n))
  trivial
theorem Uh(M:ax)(k:Nat):∀(l:List Edge)(s:Nat),(l.foldl (λs e=>if Region.binds .any e then s|||2^e.on|||M.getD e.on 0 else s) s).testBit k=Th ->
  s.testBit k=Th∨∃e∈l,Region.binds .any e=Th∧(k=e.on∨(M.getD e.on 0).testBit k=Th)
 |[],s,h=>.inl h
 | e::l,s,h=>by
  simp only[List.foldl_cons]at h;rcases Uh M k l _ h with h|⟨e',h1,h2⟩
  .split at h
   .rename_i hb;simp only[Nat.testBit_or,X4,Nat.testBit_two_pow,dT]at h;rcases h with(h|h)|h
    .grind
    .exact .inr ⟨e,ac,hb,.inl h.symm⟩
    .exact .inr ⟨e,ac,hb,.inr h⟩
   grind
  grind
def rem(RM:Array oR)(listed:Array Bool):List (oR×Nat):=RM.toList.zipIdx.filter λx=>!listed.getD x.2 Th
theorem Sx(RM:Array oR)(listed:Array Bool):(rem RM listed).Pairwise (λx y=>x.2<y.2):=by
 have:∀(l:List oR)(n:Nat),(l.zipIdx n).Pairwise (λx y=>x.2<y.2):=by
  intro l
  induction l with
  |nil=>simp
  | cons o l ih=>
   grind[List.zipIdx_cons,List.pairwise_cons]
 exact(this _ _).filter _
theorem C6{RM:Array oR}{o:oR}:(o,i)∈rem RM listed↔RM[i]?=Wf o∧listed.getD i Th=SM:=by simp[rem,List.mem_zipIdx_iff_getElem?]
theorem ag1{RM:Array oR}{o:oR}(h:(o,i)∈rem RM listed)(hi:i<listed.size):
  ∃pre post,rem RM listed=pre++(o,i)::post∧rem RM (listed.setIfInBounds i Th)=pre++post∧∀x∈pre,x.2<i:=by
 obtain⟨pre,post,e⟩:=List.append_of_mem h;have hs:=Sx RM listed;rw[e,List.pairwise_append,List.pairwise_cons]at hs;obtain⟨_,⟨h1,_⟩,h2⟩:=hs;have hpre:∀x∈pre,x.2<i:=λx hx=>h2 x hx (o,i) ac
 refine⟨pre,post,e,?_,hpre⟩
 have hf:rem RM (listed.setIfInBounds i Th)=(rem RM listed).filter λx=>x.2 !=i:=by
  unfold rem;rw[List.filter_filter];apply List.filter_congr;rintro⟨x,j⟩ hx;by_cases hj:j=i
  .simp_all
  .rw[getD_set_ne Th (λe=>hj e.symm)]
   grind
 grind[List.filter_eq_self]
theorem amM{r:Option Nat}(hcf:uW X cf)(hev:jT cf){RM:Array oR}{B:Nat}{Q:eX->Act->wO->Prop}(hops:∀o∈RM.toList,yf o=Th)(hd:YN X.P RM=Th)(hG:∀g,X.glob g=Th->g<B):
  ∀(fuel:Nat)(listed:Array Bool)(a a':au)(H H':AH)(φ:bI)(w:wO)(LT:Act),listed.size=RM.size->RW (rem RM listed)=fuel ->
   (∀j,listed.getD j SM=Th->∀k,(((Region.before RM).toList).getD j 0).testBit k=Th->listed.getD k SM=Th) ->
   B+RM.size<=H.n->(∀i o,RM[i]?=Wf o->listed.getD i Th=SM->Ready X φ H o (Wf (B+i))) ->
   bB X φ H w->aE φ a LT.tmps.toList->sk X cf RM B (rem RM listed) a H=Wf (a',H')->bN X B φ H w LT a' H' (Q .normal)->wpAnyIn (Fw r) 0 X.P .any RM Q fuel listed LT w:=by
 have D:=Zz.1 hd
 have Dat:∀{i:Nat}{o:oR},RM[i]?=Wf o ->
   ((Region.before RM).toList).getD i 0=Ui (Region.before RM).toList o∧(∀e∈o.after.toList,Region.binds .any e=Th->e.on<i) ∧
   ∀j x,RM[j]?=Wf x->j<i->(((Region.before RM).toList).getD i 0).testBit j=SM->M5 X.P RM j i x o=Th:=by
  intro i o ho;have:=D (o,i) ae;simp only[Z7,beq_iff_eq,Zz,X4,Y6,dT]at this;obtain⟨⟨d1,d2⟩,d3⟩:=this;refine⟨d1,λe he hb=>?_,λj x hx hj hbit=>?_⟩
  .grind
  .rcases d3 (x,j) ae with(h|h)|h
   .omega
   .grind
   omega
 intro fuel
 induction fuel with
 | zero=>
  intro listed a a' H H' φ w LT hsz Rg hcl hB DQ h ha hr hK;have hrem:rem RM listed=[]:=Yd.1 Rg;rw[hrem]at hr;simp[sk,Z9,Z5]at hr;obtain⟨rfl,rfl⟩:=hr;refine⟨?_,hK φ LT w ha (mQ.of_eq rfl) h (cE.refl _ _ _) (cY.refl _ _ _)⟩;apply List.eq_nil_iff_forall_not_mem.2;intro i hi;rw[mem_ready]at hi;obtain⟨hnl,o,ho,_⟩:=hi
  have:(o,i)∈rem RM listed:=C6.2 ⟨ho,hnl⟩
  grind
 | succ fuel ih=>
  intro listed a a' H H' φ w LT hsz Rg hcl hB DQ h ha hr hK;constructor
  ·-- Wf operation is ready
   intro hnil;cases hrem:rem RM listed with
   |nil=>grind
   | cons x rest=>
    obtain⟨o,i⟩:=x;have hm:(o,i)∈rem RM listed:=by rw[hrem];simp
    obtain⟨ho,hl⟩:=C6.1 hm
    have PJ:i<RM.size:=by
     rcases Zi i RM.size with h'|h'
     .exact h'
     .grind
    have hin:i∈Region.ready .any RM listed:=by
     rw[mem_ready];refine⟨hl,o,ho,λe he hb=>?_⟩;have hlow:=(Dat ho).2.1 e ae hb
     -- what lies below the first that is left is listed
     have hes:e.on<RM.size:=aa;cases Fm:listed.getD e.on SM with
     |true=>rfl
     | false=>
      have:(RM[e.on],e.on)∈rem RM listed:=C6.2 ⟨ac,by
       have hls:e.on<listed.size:=aa
       grind⟩
      grind[Sx,List.pairwise_cons]
    grind
  .intro i hi;rw[mem_ready]at hi;obtain⟨hnl,o,ho,hedge⟩:=hi
   have PJ:i<RM.size:=by
    rcases Zi i RM.size with h'|h'
    .exact h'
    .grind
   have hm:(o,i)∈rem RM listed:=C6.2 ⟨ho,hnl⟩;obtain⟨pre,post,e1,e2,e3⟩:=ag1 hm aa;obtain⟨m1,m2,m3⟩:=Dat ho
   -- the ancestors are listed
   have hanc:∀k,(((Region.before RM).toList).getD i 0).testBit k=Th->listed.getD k SM=Th:=by
    intro k hk;rw[m1]at hk;rcases Uh _ k _ _ hk with hk|⟨e,he,hb,hk⟩
    .grind
    .grind
   have hF:∀x∈pre,O3 X RM x.2 i x.1 o:=by
    rintro⟨x,j⟩ hx;have hxm:(x,j)∈rem RM listed:=by rw[e1];simp[hx]
    obtain⟨hxo,hxl⟩:=C6.1 hxm;have hji:j<i:=e3 _ hx
    have hbit:(((Region.before RM).toList).getD i 0).testBit j=SM:=by
     cases hb:(((Region.before RM).toList).getD i 0).testBit j with
     |false=>rfl
     | true=>
      have:=hanc j hb;have hjs:j<listed.size:=aa
      grind
    have:=m3 j x hxo hji hbit;simp[M5,Z7,Y6,X4,Xg]at this;obtain⟨⟨⟨⟨⟨f1,f2⟩,f3⟩,f4⟩,f5⟩,f6⟩:=this;refine⟨aa,f1,?_,?_,?_,Yb.2 ae,Yb.2 ae,?_,?_⟩
    .grind
    .grind
    .grind
    .grind
    .grind
   have hog:yf o=Th:=hops o ae
   have hgood:Good X RM a H o:=by
    intro hw he hl b hb
    -- what the operation looks into is described
    have Is:∀x∈o.op.operands,t8 x=Th:=λx hx=>X1.1 hog x hx
    have E:∀{x},x∈o.op.operands->aC φ (ev X a x) (LT.eval x):=λhx=>dE h ha (Is _ hx)
    have T:∀{x:oP}{b:Nat},x∈o.op.operands->iZ (ev X a x)=Wf b->∃y,H.get b=Wf y∧y.st≠0:=by
     intro x b hx ht;have hr:=E hx;unfold iZ at ht;split at ht
     .rename_i p hp;rw[hp]at hr;simp[Z9]at ht;subst ht;simp[aC]at hr;obtain⟨_,_,_,_,q,hq,_⟩:=hr;obtain⟨y,_,_,_,y1,y2,_⟩:=h.dom _ _ hq
      grind
     .rename_i p n c hp;rw[hp]at hr;simp[Z9]at ht;subst ht;obtain⟨_,_,_,hs⟩:=oh hr;rcases hs with⟨_,_,q,hq,_⟩|⟨_,_,_,_,q,hq⟩
      .obtain⟨y,_,_,_,y1,y2,_⟩:=h.dom _ _ hq
       grind
      .obtain⟨y,_,_,_,y1,y2,_⟩:=h.dom _ _ hq
       grind
     .cases ht
    unfold touch at hb;split at hb
    .grind[Op.operands]
    .rename_i t x lo hi2 mx DS;refine T (x:=x) (by grind[Op.operands]) ?_;split at hb
     .rename_i p _ _ hx;rw[hx];exact hb
     trivial
    .rename_i s d x DS;refine T (x:=x) (by grind[Op.operands]) ?_;split at hb
     .rename_i p _ _ hx;rw[hx];exact hb
     trivial
    .grind[Op.operands,Call.operands,Array.mem_of_getElem?]
    .cases hb
   rw[e1]at hr;obtain⟨a1,H1,hs,hr1⟩:=RE hev pre post a H (a',H') hF hgood hB hr;unfold wpOpIn;rw[ho];refine Qy hev hcf h ha hog (λB' hB'=>by cases hB';exact hG) ae hs (λφ1 ic w1 k1 k2 k3 k4 k5=>?_);have Fm:=(Fi hev hs).n
   have k5':cY B Vc φ φ1:=λb p q1 q2=>by
    rcases k5 b p q1 q2 with g|g
    .exact .inl aa
    .simp[Option.map_some,Z9]at g;exact .inl aa
   refine ih (listed.setIfInBounds i Th) a1 a' H1 H' φ1 w1 ic ae ?_ ?_ aa ?_ k3 k1 ae (bN.trans (a1:=a1) hK (mQ.of_eq k2) k3 k4 k5' (Z8 _))
   rotate_left 2
   ·-- the blocks that lie ready stay
    intro j x hx hl t r z DS hr hz
    have hjlt:j<RM.size:=by
     rcases Zi j RM.size with h'|h'
     .exact h'
     .grind
    have hji:j≠i:=by
     intro e';subst e';simp[Za,Array.getElem?_setIfInBounds,hsz,hjlt]at hl
    rw[getD_set_ne Th (λe=>hji e.symm)]at hl;obtain⟨q1,q2⟩:=DQ j x hx hl t r z DS hr hz;simp[Z9]at hr;subst hr
    have hn1:φ1 (B+j)=Vc:=by
     cases hq:φ1 (B+j)with
     |none=>rfl
     | some p=>
      rcases k5 _ p hq q1 with g|g
      .omega
      grind
    exact⟨hn1,k4.abs _ _ hn1 q2 rfl (by simp[fresh])⟩
   .grind
   .intro j hj k hk;by_cases hji:j=i
    .grind[getD_set_true]
    .rw[getD_set_ne SM (λe=>hji e.symm)]at hj
     grind[getD_set_true]
variable{X:dh}{cf:fW}
theorem Gr:∀(l:List oR)(H:AH)(b:Nat)(x:bv),H.get b=Wf x->(im X.P l H).get b=Wf x
 |[],_,_,_,h=>h
 |o::l,H,b,x,h=>Gr l (H.push (nH X.P H.n o)) b x (by grind[AH.get_push_old,AH.get_lt])
theorem SQ:∀(l:List oR)(H:AH),cF H (im X.P l H)
 |[],H=>cF.refl H
 |o::l,H=>(cF.push H (nH X.P H.n o)).trans (SQ l _)
theorem Ld:∀(l:List oR)(H:AH),(im X.P l H).n=H.n+RW l
 |[],H=>rfl
 | o::l,H=>by
  rw[im,Ld l]
  grind[AH.push]
theorem Le:∀(l:List oR)(H:AH)(i:Nat)(o:oR),l[i]?=Wf o->(im X.P l H).get (H.n+i)=Wf (nH X.P (H.n+i) o)
 |[],_,i,_,h=>by simp at h
 | o::l,H,0,x,h=>by
  grind[im.eq_2,Gr,AH.get_push_new]
 | o::l,H,i+1,x,h=>by
  rw[im];have:=Le l (H.push (nH X.P H.n o)) i x cU;have e:(H.push (nH X.P H.n o)).n=H.n+1:=rfl;rw[e,show H.n+1+i=H.n+(i+1) by omega]at this;omega
theorem bB.of_get{φ:bI}{H H':AH}{w:wO}(h:bB X φ H w)(hg:∀b x,H.get b=Wf x->H'.get b=Wf x):bB X φ H' w∧cE φ H w φ H' w:=by
 have back:∀b p x,φ b=Wf p->H'.get b=Wf x->H.get b=Wf x:=by
  intro b p x hp hx;obtain⟨y,_,_,_,hy,_⟩:=h.dom b p hp;rw[hg b y hy]at hx;cases hx;exact hy
 refine ⟨⟨h.glob,λb p hp=>?_,λb p x i v hp hx h1 hv=>h.cell b p x i v hp (back b p x hp hx) h1 hv,λb p x i hp hx h1 hi=>h.frz b p x i hp (back b p x hp hx) h1 hi,?_⟩,
  ⟨gJ.refl φ,Z8 _,λ_ _ _=>rfl,λb p hb hn=>(by grind),λb p x hp hx h1 h2=>⟨x,back b p x hp hx,h1,h2⟩,λb x _ hx _ _=>hg b x hx,rfl,rfl⟩⟩
 .obtain⟨x,cs,e,fz,hx,rest⟩:=h.dom b p hp
  grind
 grind[sep]
theorem ag2(hm:X.P.follows .mixedOrders=Th)(hcf:uW X cf)(hev:jT cf){φ:bI}{H H':AH}{w:wO}(h:bB X φ H w){a a':au}{LT:Act}(ha:aE φ a LT.tmps.toList)
  {id:Nat} {RM:Array oR} {draw:Bool} (Is:kv X.P (.region id RM draw)=Th) (hr:pX X cf RM draw a H=Wf (a',H')) {Q:eX->Act->wO->Prop} {r:Option Nat}
  (hK:bN X H.n φ H w LT a' H' (Q .normal)):(Code.region id RM draw).wpIn (Fw r) 0 X.P Q LT w:=by
 simp only[kv,Z7,Zz]at Is;obtain⟨ho,hd⟩:=Is;unfold pX at hr;cases draw with
 | false=>
  grind[wpIn_region_list,UT]
 | true=>
  simp[iT]at hr;simp[Wg,We]at hd;rw[Rz]at hr;obtain⟨g1,g2⟩:=h.of_get (H':=im X.P RM.toList H) (λb x hx=>Gr _ _ _ _ hx);have hw:bB X φ (im X.P RM.toList H) {w with drawn:=w.drawn+1}:=g1.same_heap rfl;have hE:cE φ H w φ (im X.P RM.toList H) {w with drawn:=w.drawn+1}:=g2.trans (cE.same_heap rfl)
  have hrem:rem RM (Array.replicate RM.size SM)=RM.toList.zipIdx:=by
   unfold rem;rw[List.filter_eq_self];rintro⟨o,i⟩ hx;rw[List.mem_zipIdx_iff_getElem?]at hx
   have hi:i<RM.size:=by
    rcases Zi i RM.size with h'|h'
    .exact h'
    .grind
   simp[Za,hi]
  have hnone:∀i,φ (H.n+i)=Vc:=λi=>by
   cases hq:φ (H.n+i)with
   |none=>rfl
   | some p=>
    obtain⟨x,_,_,_,hx,_⟩:=h.dom _ _ hq;have:=AH.get_lt hx;omega
  refine wpIn_region_any hm (amM hcf hev ho hd (λg hg=>by obtain⟨p,hp,_⟩:=h.glob g hg;obtain⟨x,_,_,_,hx,_⟩:=h.dom _ _ hp;exact AH.get_lt hx) RM.size (Array.replicate RM.size SM) a a' (im X.P RM.toList H) H' φ _ LT ac xP ?_ (by simp[Ld]) ?_ hw ha ae (bN.trans (a1:=a) hK (mQ.of_eq rfl) hw hE (cY.refl _ _ _) (Z8 _)))
  rotate_left
  .intro i o hoi _ t r z DS hr hz;simp[Z9]at hr;subst hr
   simp_all[Le,nH]
  intro j hj;simp[Za,Array.getElem?_replicate]at hj
  grind
theorem Sj{pre run:au->AH->Jq}{sq:AH->Prop}{ps:List Tmp}{a:au}
  (h1:∀a H e a' H',pre a H=Wf (e,a',H')->cF H H') (h2:∀a H e a' H',run a H=Wf (e,a',H')->cF H H') :
  ∀(xs:List au)(H:AH)(e:eX)(a':au)(H':AH),jW pre run sq ps a xs H=Wf (e,a',H')->cF H H'
 | [],H,e,a',H',h=>by
  grind[jW,cF.refl]
 | x::xs,H,e,a',H',h=>by
  simp only[jW]at h;split at h
  .split at h
   .rename_i a1 H1 hp;split at h
    .rename_i H2 hr;split at h
     .exact((h1 _ _ _ _ _ hp).trans (h2 _ _ _ _ _ hr)).trans (Sj h1 h2 xs _ _ _ _ h)
     .cases h
    .grind[cF.trans]
    .cases h
   .cases h
  .cases h
theorem Il(hev:jT cf):∀(n:Nat)(c:Code)(a:au)(H:AH)(e:eX)(a':au)(H':AH),cS X cf n c a H=Wf (e,a',H')->cF H H':=by
 have runL_evo:∀(RM:Array oR)(RC:Option Nat)(l:List oR)(i:Nat)(a:au)(H:AH)(a':au)(H':AH),jN X cf RM RC i l a H=Wf (a',H')->cF H H':=by
  intro RM RC l
  induction l with
  |nil=>grind[jN,cF.refl]
  | cons o l ih=>
   intro i a H a' H' h;simp[jN]at h;split at h
   .rename_i a1 H1 hs;exact(Fi hev hs).trans (ih _ _ _ _ _ h)
   .cases h
 intro n
 induction n with
 |zero=>simp[cS]
 | succ n ih=>
  intro c a H e a' H' h;cases c<;>simp only[cS]at h
  case skip=>grind[cF.refl]
  case label=>grind[cF.refl]
  case exit=>grind[cF.refl]
  case ret=>grind[cF.refl]
  case region id RM draw=>
   grind[pX,cF.trans,SQ]
  case seq x y=>
   grind[cF.trans]
  case cond x t f=>
   grind
  case block id c=>
   grind
  case loop c=>
   grind[cF.trans]
  case scope c=>grind
  case rangeFunc g ps asF body=>
   grind[Sj]
  all_goals cases h
theorem bB.grow{φ:bI}{H:AH}{w:wO}(h:bB X φ H w)(hs:w.heap.size<=w'.heap.size)(hf:∀c,c<w.heap.size->w'.heap[c]?=w.heap[c]?)(ho:w'.os=w.os)(hu:w'.output=w.output):bB X φ H w'∧cE φ H w φ H w':=by
 have lt:∀b p,φ b=Wf p->p.c<w.heap.size:=λb p hp=>by
  obtain⟨x,cs,e,fz,_,_,_,_,_,hc,_⟩:=h.dom b p hp
  grind
 refine⟨⟨h.glob,λb p hp=>?_,λb p x i v hp hx h1 hv=>?_,λb p x i hp hx h1 hi=>?_,h.sep⟩,⟨gJ.refl φ,hs,λc hc _=>hf c hc,λb p h1 h2=>(by grind),λb p x' _ hx h1 h2=>⟨x',hx,h1,h2⟩,λb x _ hx _ _=>hx,ho,hu⟩⟩
 .rw[hf _ (lt b p hp)];exact h.dom b p hp
 .grind[cell,wO.cell?]
 .have:=h.frz b p x i hp hx h1 hi
  grind[wO.frozen?]
theorem bB.same_cells{φ:bI}{H:AH}{w:wO}(h:bB X φ H w)(hf:∀b p,φ b=Wf p->w'.heap[p.c]?=w.heap[p.c]?):bB X φ H w':=by
 refine⟨h.glob,λb p hp=>?_,λb p x i v hp hx h1 hv=>?_,λb p x i hp hx h1 hi=>?_,h.sep⟩
 .rw[hf _ _ hp];exact h.dom b p hp
 .grind[cell,wO.cell?]
 .have:=h.frz b p x i hp hx h1 hi
  grind[wO.frozen?]
theorem bB.putOther{φ:bI}{H:AH}{w:wO}(h:bB X φ H w){o o':Obj}(hl:w.heap[l]?=Wf o)(ho:o.isCells=SM):bB X φ H (w.putObj l o'):=by
 refine h.same_cells λb p hp=>wO.putObj_heap_other λe=>?_
 obtain⟨_,cs,e',fz,_,_,_,_,_,hcs,_⟩:=h.dom b p hp
 grind[Obj.isCells]
theorem cE.putOther{φ:bI}{H0 H:AH}{w:wO}(h:cE φ0 H0 w0 φ H w)(o':Obj)(hl:w0.heap.size<=l):cE φ0 H0 w0 φ H (w.putObj l o'):=
 ⟨h.le,by simpa using h.size,λc hc hn=>(wO.putObj_heap_other aa).trans (h.frame c hc hn),h.new,h.back,h.abs,h.os,h.out⟩
theorem SO{φ:bI}:∀(ps:List Tmp)(x:au)(a:au)(tmps:Array vl),aE φ a tmps.toList->eH x=Th ->
  aE φ (putP ps x a) ((ps.zip x).foldl (λt (q:Tmp×vl)=>t.setIfInBounds q.1 q.2) tmps).toList
 |[],x,a,tmps,h,_=>by trivial
 |p::ps,[],a,tmps,h,_=>by trivial
 | p::ps,x::xs,a,tmps,h,hp=>by
  simp[eH,Z7]at hp;simp[putP,List.zip_cons_cons,List.foldl_cons];refine SO ps xs _ _ ?_ hp.2
  grind[aE.set,lR]
def MH:eX->Option Code
 |.ret=>Wf .ret
 |.exit j=>Wf (.exit j)
 |_=>Vc
theorem ahd(hX:Ji X){n:Nat}
  (ih:∀(c:Code)(a:au)(H:AH)(e:eX)(a':au)(H':AH),cS X cf n c a H=Wf (e,a',H') →
   (e=.normal∨e=.ret∨∃j,e=.exit j) ∧
   ∀(r:Option Nat)(φ:bI)(w:wO)(LT:Act)(Q:eX→Act→wO→Prop),(r=Vc∨mW c=Th)→kv X.P c=Th→bB X φ H w→aE φ a LT.tmps.toList→bN X H.n φ H w LT a' H' (Q e)→c.wpIn (Fw r) 0 X.P Q LT w)
  (hev:∀(c:Code)(a:au)(H:AH)(e:eX)(a':au)(H':AH),cS X cf n c a H=Wf (e,a',H')→cF H H')
  {g:oP} {ps:Array Tmp} {asF body:Code} {a:au} {H:AH} {gf:fI} {lb:au} {xs:List au} {e:eX} {a':au} {H':AH}
  (hg:ev X a g=.func (.func gf) ⟨[]⟩ ⟨lb⟩) (hs:X.seq gf lb H=Wf xs)
  (h:jW (λa H=>cS X cf n asF a H) (λa H=>cS X cf n body a H) (λH'=>X.seq gf lb H'=Wf xs∧X.seqK gf lb H'=X.seqK gf lb H) ps.toList a xs H=Wf (e,a',H')) :
  (e=.normal∨e=.ret∨∃j,e=.exit j) ∧
  ∀(φ:bI)(w:wO)(LT:Act)(Q:eX→Act→wO→Prop),kv X.P (.rangeFunc g ps asF body)=Th→bB X φ H w→aE φ a LT.tmps.toList→bN X H.n φ H w LT a' H' (Q e)→(Code.rangeFunc g ps asF body).wpIn (Fw Vc) 0 X.P Q LT w:=by
 obtain⟨DP,⟨fg,hfg1,hfg2,hfg3⟩,hseq⟩:=hX gf lb H xs hs
 -- how it ends
 have kinds:∀(l:List au)(H0:AH),jW (λa H=>cS X cf n asF a H) (λa H=>cS X cf n body a H) (λH'=>X.seq gf lb H'=Wf xs∧X.seqK gf lb H'=X.seqK gf lb H) ps.toList a l H0=Wf (e,a',H')→(e=.normal∨e=.ret∨∃j,e=.exit j)∧a'=a:=by
  intro l
  induction l with
  | nil=>
   grind[jW]
  | cons x l ihl=>
   grind[jW]
 obtain⟨hk,rfl⟩:=kinds _ _ h;refine⟨hk,λφ w LT Q Is hh ha hK=>?_⟩;simp[kv,Z7]at Is;obtain⟨⟨⟨⟨hog,hoa⟩,hob⟩,hna⟩,hnb⟩:=Is;have hgr:=dE hh ha hog;rw[hg]at hgr;simp only[aC]at hgr;obtain⟨_,x',lb',eg,r1,r2⟩:=hgr;simp[aE]at r1;subst r1;obtain⟨View,hview,hcall⟩:=hseq φ w lb' hh r2;apply wpIn_rangeFunc;intro fn _
 obtain⟨rec,hrec⟩:∃rec:LoopState→Option Code→Loop,rec=λst pe=>{state:=st,pending:=pe,fn,tmps:=LT.tmps,params:=ps,assign:=asF,body,defers:=w.heap.size}:=⟨_,rfl⟩
 obtain⟨W1,hW1⟩:=bZ ((w.alloc (.deferred (Wf []))).alloc (.loop (rec .ready Vc)))
 have hL1:W1.heap[w.heap.size+1]?=Wf (.loop (rec .ready Vc)):=by
  rw[← hW1];have:=wO.alloc_heap_new (w.alloc (.deferred (Wf []))) (.loop (rec .ready Vc));rwa [wO.size_alloc]at this
 have hD1:W1.heap[w.heap.size]?=Wf (.deferred (Wf [])):=by
  rw[← hW1];exact(heap_alloc_old ac).trans (wO.alloc_heap_new w _)
 have hE1:bB X φ H W1∧cE φ H w φ H W1:=by
  refine hh.grow ?_ ?_ ?_ ?_
  .grind
  .intro c hc;rw[← hW1];exact(heap_alloc_old (by simp;omega)).trans (heap_alloc_old hc)
  .rw[← hW1];rfl
  .rw[← hW1];rfl
 refine ⟨w.heap.size+1,[{target:=.collected w.heap.size,args:=#[]}],W1,{target:=.fn (.func gf) ⟨lb'⟩,args:=#[.func (.yield (w.heap.size+1)) #[] #[]]},W1,gf,
  #[.func (.yield (w.heap.size+1)) #[] #[]]++⟨lb'⟩,W1,?_,?_,λ_ _=>trivial,?_,λh=>(by cases h),?_⟩
 .grind[run_enterLoop_outer]
 .simp only[resolve,eg];simp[go_sem]
 .have f2':¬fg.body=Vc:=by intro h0;simp[h0]at hfg2
  have f3':¬fg.name = "runtime.NumGoroutine" :=by simpa using hfg3
  simp[invoke,callFunc,hfg1,f2',f3',go_sem]
 ·obtain ⟨J,hJ⟩:∃J:Nat→wO→Prop,J=λi W=>∃φi Hi,jW (λa H=>cS X cf n asF a H) (λa H=>cS X cf n body a H) (λH'=>X.seq gf lb H'=Wf xs∧X.seqK gf lb H'=X.seqK gf lb H) ps.toList a' (xs.drop i) Hi=Wf (e,a',H')∧bB X φi Hi W∧cE φ H w φi Hi W ∧
   cY H.n Vc φ φi∧H.n≤Hi.n∧(X.seq gf lb Hi=Wf xs∧X.seqK gf lb Hi=X.seqK gf lb H)∧W.heap[w.heap.size+1]?=Wf (.loop (rec .ready Vc))∧W.heap[w.heap.size]?=Wf (.deferred (Wf [])):=⟨_,rfl⟩
  obtain⟨Jx,hJx⟩:∃Jx:Nat→wO→Prop,Jx=λi W=>∃φi c,bB X φi H' W∧cE φ H w φi H' W∧cY H.n Vc φ φi∧MH e=Wf c∧W.heap[w.heap.size+1]?=Wf (.loop (rec .done (Wf c)))∧W.heap[w.heap.size]?=Wf (.deferred (Wf [])):=⟨_,rfl⟩
  have key:=hcall (w.heap.size+1) J Jx W1 ?_ ?_ ?_
  .refine CallsIn.mono key ?_;rintro en W ⟨⟨v,rfl⟩,hW⟩
   have fin:∀(φi:bI)(st:LoopState)(pe:Option Code),bB X φi H' W→cE φ H w φi H' W→cY H.n Vc φ φi→W.heap[w.heap.size+1]?=Wf (.loop (rec st pe))→W.heap[w.heap.size]?=Wf (.deferred (Wf []))→st≠.busy →
     (Instr.endLoop (w.heap.size+1)).run X.P W=.ok pe (W.putObj (w.heap.size+1) (.loop {rec st pe with state:=.exhausted})) ∧
     Q e {LT with defers:=[{target:=.collected w.heap.size,args:=#[]}]++LT.defers} (W.putObj (w.heap.size+1) (.loop {rec st pe with state:=.exhausted})):=by
    intro φi st pe q1 q2 q3 q4 q5 q6;refine⟨?_,hK φi _ _ (aE.mono q2.le _ _ ha) ⟨[w.heap.size],aM,ac,?_⟩ (q1.putOther q4 rfl) (q2.putOther _ aa) q3⟩
    .grind[run_endLoop]
    .grind[wO.putObj_heap_other]
   rcases hW with hW|⟨i,hW⟩
   .rw[hJ]at hW;obtain⟨φi,Hi,k1,k2,k3,k4,_,_,k5,k6⟩:=hW;rw[List.drop_length]at k1;simp only[jW,Z9,Z5]at k1;obtain⟨rfl,_,rfl⟩:=k1;obtain⟨g1,g2⟩:=fin φi .ready Vc k2 k3 k4 k5 k6 ac;exact⟨Vc,_,g1,g2⟩
   .rw[hJx]at hW;obtain⟨φi,c,k2,k3,k4,kj,k5,k6⟩:=hW;obtain⟨g1,g2⟩:=fin φi .done (Wf c) k2 k3 k4 k5 k6 ac;refine⟨Wf c,_,g1,?_⟩
    grind[MH,wpIn_ret,wpIn_exit]
  .grind[cE.le,aE.mono]
  ·-- a round
   intro i x W hW hx;rw[hJ]at hW;obtain⟨φi,Hi,k1,k2,k3,k4,kn,k7,k5,k6⟩:=hW
   have hi:i<RW xs:=by
    rcases Zi i (RW xs) with h'|h'
    .exact h'
    .grind
   rw[List.getElem?_eq_getElem hi]at hx;simp[Z9]at hx;rw[Yw hi,hx]at k1;simp only[jW]at k1;split at k1
   case isFalse=>cases k1
   rename_i Rg;split at k1
   case h_2=>cases k1
   rename_i a1 H1 hpre;have hy:=run_yield (P:=X.P) (args:=x.toArray) k5 ae;rw[hrec]at hy;refine⟨fn,_,asF,body,hy,roundIn_of_wpIn trivial ?_⟩;have PJ:w.heap.size+1<W.heap.size:=lt_of_heap k5
   have ht:aE φi (putP ps.toList x a') ((ps.zip x.toArray).foldl (λtmps (t,v)=>tmps.setIfInBounds t v) LT.tmps).toList:=by
    have:=SO (φ:=φi) ps.toList x a' LT.tmps (aE.mono k3.le _ _ ha) (DP x ae);rw[← Array.foldl_toList,Array.toList_zip];exact this
   refine(ih _ _ _ _ _ _ hpre).2 (Wf (w.heap.size+1)) φi W _ _ (.inr hna) hoa k2 ht ?_;intro φ1 ic W2 q1 _ q3 q4 q5;have l2:=q4.other k2 k5 rfl;have d2:=q4.other k2 k6 rfl;refine⟨_,run_beginRound l2 (by rw[hrec]),?_⟩;have hn1:=(hev _ _ _ _ _ _ hpre).n;have e2:cE φ H w φ1 H1 (W2.putObj (w.heap.size+1) (.loop {rec .ready Vc with state:=.busy})):=(k3.trans q4).putOther _ aa
   have n2:cY H.n Vc φ φ1:=k4.trans q5 kn;have r2':bB X φ1 H1 (W2.putObj (w.heap.size+1) (.loop {rec .ready Vc with state:=.busy})):=q3.putOther l2 rfl;have l3:(W2.putObj (w.heap.size+1) (.loop {rec .ready Vc with state:=.busy})).heap[w.heap.size+1]?=Wf (.loop {rec .ready Vc with state:=.busy}):=wO.putObj_heap_same (lt_of_heap l2)
   have d3:(W2.putObj (w.heap.size+1) (.loop {rec .ready Vc with state:=.busy})).heap[w.heap.size]?=Wf (.deferred (Wf [])):=(wO.putObj_heap_other aa).trans d2
   have fin:∀(jump:Option Code)(φ2:bI)(H2:AH)(W3:wO),bB X φ2 H2 W3→cE φ1 H1 (W2.putObj (w.heap.size+1) (.loop {rec .ready Vc with state:=.busy})) φ2 H2 W3→cY H1.n Vc φ1 φ2 →
     (Instr.endRound (w.heap.size+1) jump).run X.P W3=.ok (.bool jump.isNone) (W3.putObj (w.heap.size+1) (.loop (rec (if jump.isNone then .ready else .done) jump))) ∧
     bB X φ2 H2 (W3.putObj (w.heap.size+1) (.loop (rec (if jump.isNone then .ready else .done) jump)))∧cE φ H w φ2 H2 (W3.putObj (w.heap.size+1) (.loop (rec (if jump.isNone then .ready else .done) jump)))∧cY H.n Vc φ φ2 ∧
     (W3.putObj (w.heap.size+1) (.loop (rec (if jump.isNone then .ready else .done) jump))).heap[w.heap.size+1]?=Wf (.loop (rec (if jump.isNone then .ready else .done) jump)) ∧
     (W3.putObj (w.heap.size+1) (.loop (rec (if jump.isNone then .ready else .done) jump))).heap[w.heap.size]?=Wf (.deferred (Wf [])):=by
    intro jump φ2 H2 W3 p1 p2 p3;have l4:=p2.other r2' l3 rfl;have d4:=p2.other r2' d3 rfl;refine⟨?_,p1.putOther l4 rfl,(e2.trans p2).putOther _ aa,n2.trans p3 (Z1 kn hn1),wO.putObj_heap_same (lt_of_heap l4),(wO.putObj_heap_other aa).trans d4⟩;have:=run_endRound (P:=X.P) jump l4;rw[hrec]at this ⊢;exact this
   split at k1
   .rename_i a2 H2 hrun;split at k1
    .rename_i hsq;refine(ih _ _ _ _ _ _ hrun).2 (Wf (w.heap.size+1)) φ1 _ _ _ (.inr hnb) hob r2' q1 ?_;intro φ2 act2 W3 p1 _ p3 p4 p5;obtain⟨f1,f2,f3,f4,f5,f6⟩:=fin Vc φ2 H2 W3 p3 p4 p5;refine⟨_,_,f1,.inl ⟨rfl,?_⟩⟩;rw[hJ];exact⟨φ2,H2,k1,f2,f3,f4,Z1 kn (Z1 hn1 (hev _ _ _ _ _ _ hrun).n),hsq,f5,f6⟩
    trivial
   .rename_i e1 a2 H2 MT hrun;simp only[Z9,Z5]at k1;obtain⟨rfl,_,rfl⟩:=k1;refine(ih _ _ _ _ _ _ hrun).2 (Wf (w.heap.size+1)) φ1 _ _ _ (.inr hnb) hob r2' q1 ?_;intro φ2 act2 W3 p1 _ p3 p4 p5
    have done:∀c,MH e1=Wf c→∃v w',(Instr.endRound (w.heap.size+1) (Wf c)).run X.P W3=.ok v w'∧((Ending.returned v=.returned (.bool Th)∧J (i+1) w')∨(Ending.returned v=.returned (.bool SM)∧Jx (i+1) w')):=by
     intro c hc;obtain⟨f1,f2,f3,f4,f5,f6⟩:=fin (Wf c) φ2 H2 W3 p3 p4 p5;refine⟨_,_,f1,.inr ⟨rfl,?_⟩⟩;rw[hJx];exact⟨φ2,c,f2,f3,f4,hc,f5,f6⟩
    rcases hk with rfl|rfl|⟨j,rfl⟩
    .trivial
    .exact done .ret rfl
    .exact done (.exit j) rfl
   trivial
  grind[cY.refl]
theorem amC(hX:Ji X)(hm:X.P.follows .mixedOrders=Th)(hcf:uW X cf)(hev:jT cf):∀(n:Nat),
  (∀(c:Code)(a:au)(H:AH)(e:eX)(a':au)(H':AH),cS X cf n c a H=Wf (e,a',H') ->
   (e=.normal∨e=.ret∨∃j,e=.exit j) ∧
   ∀(r:Option Nat)(φ:bI)(w:wO)(LT:Act)(Q:eX->Act->wO->Prop),(r=Vc∨mW c=Th)->kv X.P c=Th->bB X φ H w->aE φ a LT.tmps.toList->bN X H.n φ H w LT a' H' (Q e)->c.wpIn (Fw r) 0 X.P Q LT w) ∧
  (∀(c:Code)(a:au)(H:AH)(e:eX)(a':au)(H':AH),cS X cf n (.loop c) a H=Wf (e,a',H') ->
   ∀(r:Option Nat)(φ:bI)(w:wO)(LT:Act)(Q:eX->Act->wO->Prop),(r=Vc∨mW c=Th)->kv X.P c=Th->bB X φ H w->aE φ a LT.tmps.toList->bN X H.n φ H w LT a' H' (Q e)->Code.roundsIn (Fw r) 0 X.P c Q n LT w):=by
 intro n
 induction n with
 |zero=>simp[cS]
 | succ n ih=>
  obtain⟨ih1,ih2⟩:=ih
  have rounds:∀(c:Code)(a:au)(H:AH)(e:eX)(a':au)(H':AH),cS X cf (n+1) (.loop c) a H=Wf (e,a',H') ->
    (e=.normal∨e=.ret∨∃j,e=.exit j)∧∀(r:Option Nat)(φ:bI)(w:wO)(LT:Act)(Q:eX->Act->wO->Prop),(r=Vc∨mW c=Th)->kv X.P c=Th->bB X φ H w->aE φ a LT.tmps.toList->bN X H.n φ H w LT a' H' (Q e)->Code.roundsIn (Fw r) 0 X.P c Q (n+1) LT w:=by
   intro c a H e a' H' h;simp[cS]at h;split at h
   .rename_i a1 H1 h1;obtain⟨k1,k2⟩:=ih1 _ _ _ _ _ _ h1;refine⟨(ih1 _ _ _ _ _ _ h).1,λr φ w LT Q hrf Is hh ha hK=>?_⟩;rw[roundsIn_succ];refine k2 r φ w LT _ hrf Is hh ha (λφ1 ic w1 q1 q2 q3 q4 q5=>?_);exact ih2 _ _ _ _ _ _ h r φ1 w1 ic Q hrf Is q3 q1 (bN.trans (a1:=a1) hK q2 q3 q4 q5 (Il hev _ _ _ _ _ _ _ h1).n)
   .rename_i MT;obtain⟨k1,k2⟩:=ih1 _ _ _ _ _ _ h;refine⟨k1,λr φ w LT Q hrf Is hh ha hK=>?_⟩;rw[roundsIn_succ];refine k2 r φ w LT _ hrf Is hh ha (λφ1 ic w1 q1 q2 q3 q4 q5=>?_);rcases k1 with rfl|rfl|⟨j,rfl⟩
    .grind
    .exact hK φ1 ic w1 q1 q2 q3 q4 q5
    .exact hK φ1 ic w1 q1 q2 q3 q4 q5
  refine⟨?_,λc a H e a' H' h=>(rounds c a H e a' H' h).2⟩;intro c a H e a' H' h;cases c
  case loop c=>
   obtain⟨k1,k2⟩:=rounds c a H e a' H' h;refine⟨k1,λr φ w LT Q hrf Is hh ha hK=>wpIn_loop_rounds (n+1) (k2 r φ w LT Q cU cU hh ha hK)⟩
  all_goals simp only[cS]at h
  case skip=>
   simp[Z9,Z5]at h;obtain⟨rfl,rfl,rfl⟩:=h;exact⟨.inl rfl,λr φ w LT Q _ _ hh ha hK=>wpIn_skip (hK φ LT w ha (mQ.of_eq rfl) hh (cE.refl _ _ _) (cY.refl _ _ _))⟩
  case label l=>
   simp[Z9,Z5]at h;obtain⟨rfl,rfl,rfl⟩:=h;exact⟨.inl rfl,λr φ w LT Q _ _ hh ha hK=>wpIn_label (hK φ LT w ha (mQ.of_eq rfl) hh (cE.refl _ _ _) (cY.refl _ _ _))⟩
  case exit j=>
   simp[Z9,Z5]at h;obtain⟨rfl,rfl,rfl⟩:=h;exact⟨.inr (.inr ⟨j,rfl⟩),λr φ w LT Q _ _ hh ha hK=>wpIn_exit (hK φ LT w ha (mQ.of_eq rfl) hh (cE.refl _ _ _) (cY.refl _ _ _))⟩
  case ret=>
   simp[Z9,Z5]at h;obtain⟨rfl,rfl,rfl⟩:=h;exact⟨.inr (.inl rfl),λr φ w LT Q _ _ hh ha hK=>wpIn_ret (hK φ LT w ha (mQ.of_eq rfl) hh (cE.refl _ _ _) (cY.refl _ _ _))⟩
  case region id RM draw=>
   grind[ag2]
  case seq x y=>
   split at h
   .rename_i a1 H1 h1;obtain⟨k1,k2⟩:=ih1 _ _ _ _ _ _ h1;obtain⟨m1,m2⟩:=ih1 _ _ _ _ _ _ h;refine⟨m1,λr φ w LT Q hrf Is hh ha hK=>?_⟩;simp[kv,Z7]at Is;refine wpIn_seq (k2 r φ w LT _ (hrf.imp id λh=>by grind[mW]) Is.1 hh ha (λφ1 ic w1 q1 q2 q3 q4 q5=>?_))
    exact m2 r φ1 w1 ic Q (hrf.imp id λh=>by grind[mW]) Is.2 q3 q1 (bN.trans (a1:=a1) hK q2 q3 q4 q5 (Il hev _ _ _ _ _ _ _ h1).n)
   .rename_i MT;obtain⟨k1,k2⟩:=ih1 _ _ _ _ _ _ h;refine⟨k1,λr φ w LT Q hrf Is hh ha hK=>?_⟩;simp[kv,Z7]at Is;refine wpIn_seq (k2 r φ w LT _ (hrf.imp id λh=>by grind[mW]) Is.1 hh ha (λφ1 ic w1 q1 q2 q3 q4 q5=>?_));rcases k1 with rfl|rfl|⟨j,rfl⟩
    .grind
    .exact hK φ1 ic w1 q1 q2 q3 q4 q5
    .exact hK φ1 ic w1 q1 q2 q3 q4 q5
  case cond x t f=>
   split at h
   .rename_i hx;obtain⟨k1,k2⟩:=ih1 _ _ _ _ _ _ h;refine⟨k1,λr φ w LT Q hrf Is hh ha hK=>?_⟩;simp[kv,Z7]at Is;have hr:=dE hh ha Is.1.1
    grind[wpIn_cond_true,Gi,mW]
   .rename_i hx;obtain⟨k1,k2⟩:=ih1 _ _ _ _ _ _ h;refine⟨k1,λr φ w LT Q hrf Is hh ha hK=>?_⟩;simp[kv,Z7]at Is;have hr:=dE hh ha Is.1.1
    grind[wpIn_cond_false,Gi,mW]
   .cases h
  case block id c=>
   split at h
   .rename_i j a1 H1 h1;simp[Z9,Z5]at h;obtain⟨rfl,rfl,rfl⟩:=h;obtain⟨k1,k2⟩:=ih1 _ _ _ _ _ _ h1;refine⟨?_,λr φ w LT Q hrf Is hh ha hK=>?_⟩
    .grind
    .refine wpIn_block (k2 r φ w LT _ cU cU hh ha (λφ1 ic w1 q1 q2 q3 q4 q5=>?_));have:=hK φ1 ic w1 q1 q2 q3 q4 q5
     grind[eX.inBlock]
   .rename_i MT;obtain⟨k1,k2⟩:=ih1 _ _ _ _ _ _ h;refine⟨k1,λr φ w LT Q hrf Is hh ha hK=>wpIn_block (k2 r φ w LT _ cU cU hh ha (λφ1 ic w1 q1 q2 q3 q4 q5=>?_))⟩;have:=hK φ1 ic w1 q1 q2 q3 q4 q5;rcases k1 with rfl|rfl|⟨j,rfl⟩
    .exact this
    .exact this
    grind
  case scope c=>
   obtain⟨k1,k2⟩:=ih1 _ _ _ _ _ _ h;refine⟨k1,λr φ w LT Q hrf Is hh ha hK=>?_⟩;have hr0:r=Vc:=by simpa[mW]using hrf
   subst hr0;refine wpIn_wide.2 (wp_scope_straight ((wpIn_wide (n:=0)).1 (k2 Vc φ w LT _ (.inl rfl) cU hh ha (λφ1 ic w1 q1 q2 q3 q4 q5=>?_))));have:=hK φ1 ic w1 q1 q2 q3 q4 q5;rcases k1 with rfl|rfl|⟨j,rfl⟩<;>exact this
  case rangeFunc g ps asF body=>
   split at h
   .rename_i gf lb hg;split at h
    .rename_i xs hs;obtain⟨k1,k2⟩:=ahd hX ih1 (λc a H e a' H' k=>Il hev n c a H e a' H' k) hg hs h;refine⟨k1,λr φ w LT Q hrf Is hh ha hK=>?_⟩;have hr0:r=Vc:=by simpa[mW]using hrf
     grind
    .cases h
   .cases h
  all_goals cases h
theorem Ss{φ:bI}{H:AH}{w:wO}(h:bB X φ H w){a:au}{tmps:Array vl}(ha:aE φ a tmps.toList):∀(l:List ResultVar)(vs:au),l.mapM (sr X.P H a)=Wf vs ->
  ∃ vs',(l.mapM (λ(r:ResultVar)=>(match r with
   |.tmp t=>pure (tmps.getD t undef)
   |.cell a t=>do loadVar t (<-asAddr (tmps.getD a undef)):Sem vl))).run X.P w=.ok vs' w∧aE φ vs vs'
 | [],vs,hv=>by
  simp_all[aE.nil]
 | r::l,vs,hv=>by
  rw[List.mapM_cons]at hv;cases h1:sr X.P H a r with
  |none=>grind
  | some v=>
   cases h2:l.mapM (sr X.P H a)with
   |none=>grind
   | some us=>
    simp[h1,h2]at hv;subst hv;obtain⟨us',g1,g2⟩:=Ss h ha l us h2
    have hone:∃v',((match r with
      |.tmp t=>pure (tmps.getD t undef)
      |.cell a t=>do loadVar t (<-asAddr (tmps.getD a undef)):Sem vl)).run X.P w=.ok v' w∧aC φ v v':=by
     have hg:∀t,aC φ (a.getD t undef) (tmps.getD t undef):=λt=>by
      have:=ha.getD t
      simp_all
     cases r with
     | tmp t=>
      simp only[sr,Z9]at h1;subst h1
      simp_all
     | cell x t=>
      simp only[sr]at h1;obtain⟨v',k1,k2⟩:=UC h h1 (hg x);refine⟨v',?_,k2⟩
      -- the address is there
      have hx:=hg x;unfold qg at h1
      grind[vU,asAddr,Instr.loadAt,Instr.sureAddr]
    obtain⟨v',k1,k2⟩:=hone
    simp_all[aE.cons]
theorem agT{φ:bI}{H:AH}{w:wO}(h:bB X φ H w){a:au}(ha:aE φ a tmps.toList){fn:Func}{v:vl}(hv:vS X.P fn a H=Wf v):
  ∃v',(results fn tmps).run X.P w=.ok v' w∧aC φ v v':=by
 unfold vS at hv
 have key:∀vs,fn.results.toList.mapM (sr X.P H a)=Wf vs->∃vs',(fn.results.mapM (λ(r:ResultVar)=>(match r with
   |.tmp t=>pure (tmps.getD t undef)
   |.cell a t=>do loadVar t (<-asAddr (tmps.getD a undef)):Sem vl))).run X.P w=.ok (List.toArray vs') w∧aE φ vs vs':=by
  intro vs hvs;obtain⟨vs',g1,g2⟩:=Ss h ha _ _ hvs;refine⟨vs',?_,g2⟩;rw[Array.mapM_eq_mapM_toList];simp only[Sem.run_map,g1,Result.andThen_ok]
 split at hv
 .rename_i u hu;simp[Z9]at hv;subst hv;obtain⟨vs',g1,g2⟩:=key _ hu;simp only[aE]at g2;obtain⟨u',_,rfl,k,rfl⟩:=g2;refine⟨u',?_,k⟩;unfold results;rw[Sem.run_bind];refine Eq.trans (RT (λr=>Result.andThen r λ(a:Array vl) w'=>Sem.run X.P (pure (if h:a.size=1 then a[0]else vl.tuple a)) w') g1) ?_;simp
 .rename_i vs MT hu;simp[Z9]at hv;subst hv;obtain⟨vs',g1,g2⟩:=key _ hu;refine⟨.tuple vs'.toArray,?_,by grind[aC]⟩;unfold results;rw[Sem.run_bind];refine Eq.trans (RT (λr=>Result.andThen r λ(a:Array vl) w'=>Sem.run X.P (pure (if h:a.size=1 then a[0]else vl.tuple a)) w') g1) ?_
  have hl:¬RW vs'=1:=by
   rw[<-g2.length];intro h1;obtain⟨u,rfl⟩:=List.length_eq_one_iff.1 h1;exact MT u rfl
  simp[hl]
 trivial
theorem U7{φ:bI}{H:AH}{fn:Func}{tmps:Array vl}{w0:wO}{φ0:bI}{H0:AH}{R:Ending->wO->Prop}{n:Nat}{F:Fence} :
  ∀(ds:ax)(w:wO),ds.Nodup->(∀D∈ds,w0.heap.size<=D∧w.heap[D]?=Wf (.deferred (Wf [])))->bB X φ H w->cE φ0 H0 w0 φ H w ->
   (∀w',bB X φ H w'->cE φ0 H0 w0 φ H w'->LeavesInM F n X.P fn tmps R [] .returning w')->LeavesInM F n X.P fn tmps R (marks ds) .returning w
 |[],w,_,_,hh,he,hk=>hk w hh he
 | D::ds,w,hn,hd,hh,he,hk=>by
  have h0:=hd D ac;rw[Xx]at hn;refine⟨ac,.inl ⟨D,_,rfl,run_takeDeferred h0.2,?_⟩⟩;refine U7 ds _ hn.2 (λD' hD'=>⟨(hd D' ae).1,(wO.putObj_heap_other ?_).trans (hd D' ae).2⟩) (hh.putOther h0.2 rfl) (he.putOther _ h0.1) hk
  grind
theorem aaE{f:fI}{H:AH}{v:vl}{H':AH}:dR X (n+1) f args H=Wf (v,H')->(X.orc f args=Wf v∧H'=H)∨(
  X.allow f=Th∧∃fn c e a,X.P.funcs[f]?=Wf fn∧fn.body=Wf c∧cS X (dR X n) n c (args++So (fn.ntmps-RW args) undef) H=Wf (e,a,H')∧(e=.normal∨e=.ret)∧vS X.P fn a H'=Wf v):=by
 intro h;simp[dR]at h;split at h
 .grind
 right;split at h
 case isFalse=>cases h
 rename_i DQ;split at h
 case h_2=>cases h
 rename_i fn hfn;split at h
 case h_2=>cases h
 rename_i c hc;refine⟨DQ,fn,c,?_⟩;split at h
 .grind[Z3]
 .grind[Z3]
 .cases h
theorem Oo:∀n,jT (dR X n)
 |0=>λf args H v H' h=>by cases h
 | n+1=>λf args H v H' h=>by
  have ih:=Oo n;rcases aaE h with⟨_,rfl⟩|⟨_,fn,c,e,a,_,_,he,_,_⟩
  .exact cF.refl _
  .exact Il ih n c _ H e a H' he
theorem ao6(hX:O1 X):∀n,uW X (dR X n)∧jT (dR X n):=by
 intro n
 induction n with
 |zero=>exact⟨λf args H v H' h=>by trivial,λf args H v H' h=>by trivial⟩
 | succ n ih=>
  obtain⟨ih1,ih2⟩:=ih;refine⟨?_,?_⟩
  .intro f args H v H' h;rcases aaE h with⟨ho,rfl⟩|⟨DQ,fn,c,e,a,hfn,hc,he,hee,hres⟩
   .obtain⟨p1,p2,p3|⟨p3,p4⟩⟩:=hX.orc _ _ _ ho
    .exact .inl ⟨ho,rfl,p1,p2,p3⟩
    refine .inr ⟨p3,λφ w GS hh ha=>?_⟩
    have hargs:GS=args.toArray:=by
     have:=(aE.of_plain _ p1 _).1 ha;rw[<-this]
    subst hargs;refine Calls.mono (p4 w) ?_;rintro en w' ⟨rfl,q1,q2,q3,q4⟩;obtain⟨g1,g2⟩:=hh.grow q1 q2 q3 q4
    grind[lR,cY.refl]
   have hokf:=hX.fns f fn DQ hfn;simp only[GJ,Z7,hc]at hokf;refine .inr ⟨⟨fn,hfn,ae,ae⟩,?_⟩;intro φ w GS hh ha;obtain⟨_,k2⟩:=(amC hX.seq hX.mixed ih1 ih2 n).1 c _ H e a H' he;refine(callsIn_wide (n:=0)).1 (callsIn_of_wp_marks hfn hc trivial (k2 Vc φ w _ _ (.inl rfl) hokf.2 hh ?_ ?_))
   .have hl:RW args=GS.size:=by simpa using ha.length
    grind[Array.toList_replicate,aE.append,aE.replicate,aC.undef]
   .intro φ1 ic w1 q1 q2 q3 q4 q5;obtain⟨ds,hds,n1,n2⟩:=q2
    have main:LeavesInM Fence.wide 0 X.P fn ic.tmps (λe w'=>∃φ' v',e=.returned v'∧aC φ' v v'∧bB X φ' H' w'∧cE φ H w φ' H' w'∧cY H.n Vc φ φ') ic.defers .returning w1:=by
     rw[hds,show(({tmps:=GS++Array.replicate (fn.ntmps-GS.size) undef,defers:=[]}:Act).defers)=[]from rfl,Zo];refine U7 ds w1 n1 n2 q3 q4 (λw' g3 g4=>?_);obtain⟨v',g1,g2⟩:=agT g3 q1 hres;exact⟨v',g1,φ1,v',rfl,g2,g3,g4,q5⟩
    rcases hee with rfl|rfl
    .exact main
    trivial
  .exact Oo (n+1)
theorem ao2(hX:O1 X){n:Nat}{f:fI}{args:au}{H H':AH}{v:vl}(h:dR X n f args H=Wf (v,H')){φ:bI}{w:wO}{GS:Array vl}
  (hh:bB X φ H w) (ha:aE φ args GS.toList) (h0:∀a,X.orc f a=Vc) :
  Calls X.P f GS w λe w'=>∃φ' v',e=.returned v'∧aC φ' v v'∧bB X φ' H' w'∧cE φ H w φ' H' w'∧cY H.n Vc φ φ':=by
 rcases(ao6 hX n).1 f args H v H' h with⟨g,_⟩|⟨_,g⟩
 .rw[h0]at g;cases g
 .exact g φ w GS hh ha
