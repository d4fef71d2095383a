/- The types of the program, as far as they matter: a table. Printed by gen.py. -/
import Derived.Test.YtaiahkcmdnaooaaGreatDoorQVmA
import Derived.Test.YtaiahkcmdnaooaaGreatDoorQVmB
import Derived.Test.YtaiahkcmdnaooaaGreatDoorProg
set_option linter.unusedVariables false
set_option linter.unusedSimpArgs false
namespace Go.Vm
open Go Go.Am
abbrev ai:TyI:=⟨.f,1,8,[.pl .nilFunc],false⟩
abbrev gN:TyI:=⟨.o,1,0,[],false⟩
abbrev Cj:TyI:=⟨.p,1,8,[.pl (.pointer none)],false⟩
abbrev Jp:TyI:=⟨.i .i64,1,8,[.int .i64 0],false⟩
abbrev Jo:TyI:=⟨.i .u8,1,1,[.int .u8 0],false⟩
abbrev Jn:TyI:=⟨.s,1,16,[.str []],false⟩
abbrev MV:TyI:=⟨.i .u64,1,8,[.int .u64 0],false⟩
abbrev MU:TyI:=⟨.it,1,16,[.pl .nilIface],false⟩
abbrev MS:TyI:=⟨.i .i32,1,4,[.int .i32 0],false⟩
abbrev MR:TyI:=⟨.sl 3,1,24,[.pl (.slice none 0 0)],false⟩
abbrev M7:TyI:=⟨.st [(0,1),(1,1),(2,1),(3,1)],4,24,[.int .i64 0,.int .i64 0,.bool false,.int .u8 0],false⟩
abbrev M6:TyI:=⟨.st [(0,1),(1,1)],2,24,[.str [],.int .u64 0],false⟩
abbrev M5:TyI:=⟨.st [(0,1)],1,8,[.pl (.pointer none)],false⟩
abbrev M4:TyI:=⟨.sl 56,1,24,[.pl (.slice none 0 0)],false⟩
abbrev M3:TyI:=⟨.ar 4 41,8,8,[.int .i8 0,.int .u8 0,.int .i8 0,.int .u8 0,.int .i8 0,.int .u8 0,.int .i8 0,.int .u8 0],false⟩
abbrev M2:TyI:=⟨.st [(0,1),(1,1)],2,32,[.int .u8 0,.pl (.slice none 0 0)],false⟩
abbrev M1:TyI:=⟨.st [(0,1),(1,1),(2,1)],3,40,[.int .i64 0,.int .i64 0,.pl (.slice none 0 0)],false⟩
abbrev M0:TyI:=⟨.st [(0,1),(1,1),(2,1)],3,64,[.pl (.slice none 0 0),.pl (.slice none 0 0),.str []],false⟩
abbrev MZ:TyI:=⟨.sl 199,1,24,[.pl (.slice none 0 0)],false⟩
abbrev MY:TyI:=⟨.st [(0,1),(1,1),(2,1)],3,48,[.str [],.str [],.pl .nilIface],false⟩
abbrev MX:TyI:=⟨.st [(0,1),(1,1),(2,1),(3,1)],4,40,[.pl (.pointer none),.pl (.pointer none),.pl (.pointer none),.str []],false⟩
abbrev MW:TyI:=⟨.st [(0,1),(1,1),(2,1),(3,1),(4,1),(5,1),(6,1),(7,1),(8,1),(9,1),(10,1)],11,48,[.int .u64 0,.int .u64 0,.int .u32 0,.int .u8 0,.int .u8 0,.int .u8 0,.int .u8 0,.pl .nilFunc,.pl (.pointer none),.int .i32 0,.int .i32 0],false⟩
abbrev slQ(n:Nat):TyI:=⟨.sl n,1,24,[.pl (.slice none 0 0)],false⟩
def WN:List TyI:=[
 gN,ai,Jp,Jp,⟨.b,1,1,[.bool false],false⟩,Jo,Jo,M7,M7,Jn,Jn,Jn,MV,M6,M6,Cj]
def WM:List TyI:=[
 Cj,Cj,M5,M5,MU,MS,⟨.i .i8,1,1,[.int .i8 0],false⟩,⟨.ar 4 22,4,4,[.int .i8 0,.int .i8 0,.int .i8 0,.int .i8 0],false⟩,ai,MR,MR,ai,MR,ai,Jp,gN]
def WL:List TyI:=[
 ai,M4,M4,ai,gN,ai,ai,ai,⟨.st [(0,1),(1,1)],2,2,[.int .i8 0,.int .u8 0],false⟩,⟨.st [(0,1),(1,1)],2,2,[.int .i8 0,.int .u8 0],true⟩,M3,M3,⟨.i .u16,1,2,[.int .u16 0],false⟩,ai,gN,ai]
def WK:List TyI:=[
 Jn,gN,ai,ai,ai,ai,ai,⟨.st [(0,1),(1,1)],2,32,[.str [],.str []],false⟩,⟨.st [(0,1),(1,1)],2,32,[.str [],.str []],true⟩,ai,ai,slQ 23,M2,M2,⟨.st [(0,1),(1,1),(2,1)],3,3,[.int .u8 0,.int .u8 0,.int .u8 0],false⟩,⟨.st [(0,1),(1,1),(2,1)],3,3,[.int .u8 0,.int .u8 0,.int .u8 0],true⟩]
def WJ:List TyI:=[
 slQ 28,gN,ai,ai,ai,ai,M1,M1,ai,gN,ai,ai,ai,ai,gN,ai]
def WI:List TyI:=[
 slQ 34,gN,ai,ai,ai,ai,ai,ai,ai,ai,ai,ai,ai,ai,gN,ai]
def WH:List TyI:=[
 ai,ai,⟨.st [(0,1),(1,1),(2,1)],3,24,[.int .i64 0,.int .i64 0,.int .i64 0],false⟩,⟨.st [(0,1),(1,1),(2,1)],3,24,[.int .i64 0,.int .i64 0,.int .i64 0],true⟩,gN,ai,gN,ai,ai,ai,ai,slQ 26,ai,ai,ai,ai]
def WG:List TyI:=[
 ai,ai,ai,ai,ai,ai,ai,ai,ai,ai,gN,ai,ai,ai,ai,ai]
def WE:List TyI:=[
 ai,slQ 48,M0,M0,ai,ai,ai,ai,ai,ai,ai,ai,ai,ai,gN,ai]
def WC:List TyI:=[
 ai,ai,gN,ai,ai,ai,ai,ai,gN,ai,ai,ai,gN,ai,ai,ai]
def Ur:List TyI:=[
 gN,ai,ai,ai,ai,ai,ai,ai,ai,ai,ai,gN,ai,ai,ai,ai]
def Uq:List TyI:=[
 ai,ai,ai,ai,ai,gN,ai,ai,ai,ai,ai,ai,ai,ai,ai,ai]
def Up:List TyI:=[
 ai,ai,ai,MU,MU,gN,ai,MV,gN,ai,ai,MZ,MZ,ai,ai,ai]
def Uo:List TyI:=[
 ai,ai,ai,MV,ai,ai,ai,ai,gN,ai,ai,ai,gN,ai,ai,gN]
def Un:List TyI:=[
 ai,gN,ai,ai,ai,ai,gN,ai,ai,slQ 5,ai,ai,gN,ai,ai,ai]
def Um:List TyI:=[
 ⟨.ar 24 5,24,24,List.replicate 24 (.int .u8 0),false⟩,ai,ai,gN,ai,Jp,Cj,ai,ai,gN,ai,ai,⟨.i .u32,1,4,[.int .u32 0],false⟩,ai,ai,⟨.ar 20 199,20,160,List.replicate 20 (.int .u64 0),false⟩]
def Ul:List TyI:=[
 ⟨.ar 65 5,65,65,List.replicate 65 (.int .u8 0),false⟩,ai,MY,MY,ai,ai,ai,Cj,Cj,⟨.st [(0,1)],1,16,[.str []],false⟩,⟨.st [(0,1)],1,16,[.str []],false⟩,⟨.ar 32 5,32,32,List.replicate 32 (.int .u8 0),false⟩,⟨.ar 64 5,64,64,List.replicate 64 (.int .u8 0),false⟩,ai,MX,MX]
def Uk:List TyI:=[
 ⟨.ar 0 16,0,0,[],false⟩,⟨.st [(0,0)],0,0,[],false⟩,⟨.st [(0,0)],0,0,[],false⟩,Jo,Jo,ai,MS,MS,MW,MW,⟨.o,1,8,[.pl (.pointer none)],false⟩]
def yR:List (List TyI):=[WN,WM,WL,WK,WJ,WI,WH,WG,WE,WC,Ur,Uq,Up,Uo,Un,Um,Ul,Uk]
def TN:List Nat:=[0,1,222,223,224,225,226,227,228,229,230,231,232,233,234,235,236,237,238,239,240,241,242,243,244,245,246,247]
def kz:Nat:=0
namespace F
def aj:FuncId:=12
def cQ:FuncId:=13
def eO:FuncId:=16
def jX:FuncId:=18
def dj:FuncId:=19
def gk:FuncId:=22
def mj:FuncId:=25
def iQ:FuncId:=27
def mp:FuncId:=28
def kY:FuncId:=30
def cC:FuncId:=31
def dE:FuncId:=32
def dV:FuncId:=33
def cu:FuncId:=37
def pA:FuncId:=38
def nQ:FuncId:=40
def kX:FuncId:=42
def dU:FuncId:=48
def md:FuncId:=49
def aM:FuncId:=51
def bU:FuncId:=53
def df:FuncId:=54
def hO:FuncId:=55
def gj:FuncId:=56
def eV:FuncId:=57
def fW:FuncId:=58
def jW:FuncId:=59
def bZ:FuncId:=60
def dZ:FuncId:=62
def gh:FuncId:=63
def eM:FuncId:=65
def iE:FuncId:=66
def dF:FuncId:=67
def je:FuncId:=68
def bN:FuncId:=69
def jG:FuncId:=70
def iR:FuncId:=71
def aL:FuncId:=72
def jR:FuncId:=73
def bE:FuncId:=74
def jH:FuncId:=75
def oz:FuncId:=76
def fV:FuncId:=77
def rW:FuncId:=78
def eN:FuncId:=80
def dY:FuncId:=81
def dC:FuncId:=82
def jV:FuncId:=84
def qd:FuncId:=85
def j7:FuncId:=86
def bT:FuncId:=87
def pz:FuncId:=91
def fC:FuncId:=92
def bR:FuncId:=93
def aE:FuncId:=94
def kV:FuncId:=95
def j6:FuncId:=97
def fX:FuncId:=100
def iz:FuncId:=101
def iP:FuncId:=102
def eU:FuncId:=104
def fJ:FuncId:=105
def kK:FuncId:=106
def gH:FuncId:=107
def dt:FuncId:=108
def cn:FuncId:=109
def bp:FuncId:=110
def gQ:FuncId:=111
def aP:FuncId:=112
def aF:FuncId:=113
def fw:FuncId:=114
def fe:FuncId:=115
def kW:FuncId:=116
def j4:FuncId:=117
def gU:FuncId:=118
def kS:FuncId:=122
def eD:FuncId:=123
def strconv_Itoa:FuncId:=124
def bj:FuncId:=127
def aN:FuncId:=128
def bK:FuncId:=129
def fh:FuncId:=130
def bI:FuncId:=131
def gm:FuncId:=132
def ib:FuncId:=133
def jE:FuncId:=134
def jF:FuncId:=138
def dw:FuncId:=139
def f9:FuncId:=140
def aW:FuncId:=141
def iW:FuncId:=142
def bP:FuncId:=143
def fS:FuncId:=144
def dS:FuncId:=145
def dX:FuncId:=146
def oe:FuncId:=147
def dz:FuncId:=148
def aQ:FuncId:=149
def jD:FuncId:=150
def kT:FuncId:=151
def aI:FuncId:=152
def gC:FuncId:=153
def jS:FuncId:=155
def gz:FuncId:=156
def iA:FuncId:=157
def strconv_Atoi:FuncId:=159
def d7:FuncId:=160
def gI:FuncId:=161
def bW:FuncId:=162
def bO:FuncId:=163
def ay:FuncId:=164
def aJ:FuncId:=165
def cF:FuncId:=166
def bb:FuncId:=167
def mn:FuncId:=168
def nU:FuncId:=169
def qe:FuncId:=170
def ew:FuncId:=171
def js:FuncId:=172
def nP:FuncId:=173
def eA:FuncId:=174
def cJ:FuncId:=175
def gT:FuncId:=176
def size_digits:FuncId:=177
def bJ:FuncId:=178
def bV:FuncId:=179
def cG:FuncId:=180
def io:FuncId:=181
def nK:FuncId:=182
def jT:FuncId:=183
def a6:FuncId:=184
def cE:FuncId:=185
def fc:FuncId:=186
def xA:FuncId:=187
def gn:FuncId:=188
def eC:FuncId:=189
def bA:FuncId:=190
def ii:FuncId:=191
def et:FuncId:=192
def tY:FuncId:=193
def gr:FuncId:=194
def fT:FuncId:=195
def bG:FuncId:=196
def fv:FuncId:=197
def fB:FuncId:=198
def cD:FuncId:=199
def bv:FuncId:=200
def mW:FuncId:=201
def dW:FuncId:=206
def cU:FuncId:=207
def qE:FuncId:=208
def dD:FuncId:=209
def ja:FuncId:=211
def d9:FuncId:=212
def ef:FuncId:=213
end F
end Go.Vm
namespace Go.Vm
open Go Go.Am
noncomputable section
def PR:List TyI->Nat->TyI
 | [],_=>⟨.o,0,0,[],false⟩
 | x::_,0=>x
 | _::l,n+1=>PR l n
def Fe:List (List TyI)->Nat->List TyI
 | [],_=>[]
 | x::_,0=>x
 | _::l,n+1=>Fe l n
def lW:Nat->List UInt8->Nat
 | a,[]=>a
 | a,c::l=>lW (a*10+(c.toNat-48)) l
def kN (c:UInt8):Bool:=Nat.ble 48 c.toNat && Nat.ble c.toNat 57
def FY:List Value->Option Value
 | [.string s,.int .i64 a,.int .i64 b]=>if a=10∧b=64∧s.data.toList≠[]∧s.data.toList.all kN=true∧s.data.toList.length<=1000∧lW 0 s.data.toList<10000000000000000000 then some (.tuple #[.int .u64 (lW 0 s.data.toList),.nilIface]) else none
 | _=>none
def JC:List Value->Option Value
 | [.string s,.int .i64 a,.int .i64 b]=>if a=10∧b=64 then (match s.data.toList with
  | 45::l=>if l≠[]∧l.all kN=true∧l.length<=1000∧lW 0 l<9223372036854775808 then some (.tuple #[.int .i64 (-(lW 0 l:Int)),.nilIface]) else none
  | l=>if l≠[]∧l.all kN=true∧l.length<=1000∧lW 0 l<9223372036854775808 then some (.tuple #[.int .i64 (lW 0 l),.nilIface]) else none) else none
 | _=>none
def Io:Value->Bool
 | .slice ..=>true
 | _=>false
def EO (H:AH) (p q:Value):Option (List (List Value)):=match m5 H 1 p,m5 H 1 q with
 | some (k,xs),some (k',ys)=>if k=k'∧xs.length=k∧ys.length=k∧k<4611686018427387904∧(Io p && Io q)=true∧(xs.all fun v=>plain v && okCell v)=true∧(ys.all fun v=>plain v && okCell v)=true then some ((xs.zip ys).map fun x=>[x.1,x.2]) else none
 | _,_=>none
def zq (f:FuncId) (lb:List Value) (H:AH):Option (List (List Value)):=match Nat.beq f F.cJ with
 | true=>match lb with
  | [.pointer (some ⟨b,o,none⟩)]=>match bD H b o 3 with
   | some [p,q,_]=>EO H p q
   | _=>none
  | _=>none
 | false=>match Nat.beq f F.qe with
  | true=>match lb with
   | [.pointer (some ⟨b,o,none⟩),.pointer (some ⟨b',o',none⟩)]=>match bD H b o 1,bD H b' o' 1 with
    | some [p],some [q]=>EO H p q
    | _,_=>none
   | _=>none
  | false=>none
def FH (f:FuncId) (lb:List Value) (H:AH):List Value:=match lb with
 | [.pointer (some ⟨b,o,none⟩)]=>(bD H b o 3).getD []
 | [.pointer (some ⟨b,o,none⟩),.pointer (some ⟨b',o',none⟩)]=>(bD H b o 1).getD []++(bD H b' o' 1).getD []
 | _=>[]
def lits:List D->Option (List Value)
 | []=>some []
 | x::l=>match x,lits l with
  | .int k n,some r=>some (.int k n::r)
  | .str s,some r=>some (.string ⟨⟨s⟩⟩::r)
  | _,_=>none
def slD:D->Option (Nat × List D)
 | .sl n l=>some (n,l)
 | .pl (.slice none 0 0)=>some (0,[])
 | _=>none
def KC (p q:D):Option (List (List Value)):=match slD p,slD q with
 | some (k,l),some (k',m)=>match lits l,lits m with
  | some xs,some ys=>if k=k'∧xs.length=k∧ys.length=k∧k<4611686018427387904 then some ((xs.zip ys).map fun x=>[x.1,x.2]) else none
  | _,_=>none
 | _,_=>none
def SC (f:FuncId) (cs:List V):Option (List (List Value)):=match Nat.beq f F.cJ with
 | true=>match cs with
  | [.dptr [p,q,_] 0]=>KC p q
  | _=>none
 | false=>match Nat.beq f F.qe with
  | true=>match cs with
   | [.dptr [p] 0,.dptr [q] 0]=>KC p q
   | _=>none
  | false=>none
def X:Cfg:={ P:=Go.Proofs.Tryz.prog,allow:=ek TN,glob:=fun g=>Nat.beq g kz,orc:=fun f args=>(match Nat.beq f F.dW with
 | true=>FY args
 | false=>match Nat.beq f F.eA with
  | true=>JC args
  | false=>none),seq:=zq,seqK:=FH }
def FZ:List D:=[.int .u64 1,.int .u64 10,.int .u64 100,.int .u64 1000,.int .u64 10000,.int .u64 100000,.int .u64 1000000,.int .u64 10000000,.int .u64 100000000,.int .u64 1000000000,.int .u64 10000000000,.int .u64 100000000000,
 .int .u64 1000000000000,.int .u64 10000000000000,.int .u64 100000000000000,.int .u64 1000000000000000,.int .u64 10000000000000000,.int .u64 100000000000000000,.int .u64 1000000000000000000,.int .u64 10000000000000000000]
def Y:iK:={ X:=X,ty:=fun t=>PR (Fe yR (t / 16)) (t % 16),glob:=fun g=>(match Nat.beq g kz with
 | true=>some FZ
 | false=>none),seq:=SC }
end
end Go.Vm
set_option maxRecDepth 100000
namespace Go.Vm
open Go Go.Am
def Tv:Value->Value->Bool
 | .pointer none,.pointer none=>true
 | .slice none a b,.slice none c d=>a == c && b == d
 | .nilFunc,.nilFunc=>true
 | .nilIface,.nilIface=>true
 | .map none,.map none=>true
 | .chan none,.chan none=>true
 | _,_=>false
theorem QR {x y:Value} (h:Tv x y=true):x=y:=by
 unfold Tv at h;split at h <;> first | rfl | (simp at h;obtain ⟨rfl,rfl⟩:=h;rfl) | cases h
def Tw:D->D->Bool
 | .int k a,.int l b=>decide (k=l) && decide (a=b)
 | .bool a,.bool b=>a == b
 | .str a,.str b=>a == b
 | .pl a,.pl b=>Tv a b
 | _,_=>false
theorem QS {x y:D} (h:Tw x y=true):x=y:=by
 unfold Tw at h;split at h
 ·simp at h;obtain ⟨rfl,rfl⟩:=h;rfl
 ·simp at h;subst h;rfl
 ·simp at h;subst h;rfl
 ·rw [QR h]
 ·cases h
def OK:List D->List D->Bool
 | [],[]=>true
 | x::l,y::m=>Tw x y && OK l m
 | _,_=>false
theorem J3:∀ {l m:List D},OK l m=true->l=m
 | [],[],_=>rfl
 | x::l,y::m,h=>by
  simp only [OK,Z8] at h;rw [QS h.1,J3 h.2]
 | [],_::_,h=>by cases h
 | _::_,[],h=>by cases h
def Oc (P:Program) (t:TypeId) (k:Ty):Bool:=match k with
 | .i k=>match P.underlying t with | some (.int k')=>decide (k'=k) | _=>false
 | .b=>match P.underlying t with | some .bool=>true | _=>false
 | .s=>match P.underlying t with | some .string=>true | _=>false
 | .p=>match P.underlying t with | some (.pointer _)=>true | _=>false
 | .f=>match P.underlying t with | some (.func ..)=>true | _=>false
 | .it=>match P.underlying t with | some (.interface _)=>true | _=>false
 | .sl e=>match P.underlying t with | some (.slice e')=>e' == e | _=>false
 | .ar n e=>match P.underlying t with | some (.array n' e')=>n' == n && e' == e | _=>false
 | .st fs=>match P.underlying t with | some (.struct gs)=>decide (gs.toList.map (fun f=>(f.offset,szO P f.type))=fs.map fun p=>(p.1,some p.2)) | _=>false
 | .o=>true
def Ik (P:Program) (t:TypeId):D->Bool
 | .int _ _=>match P.underlying t with | some (.int _)=>true | _=>false
 | .bool _=>match P.underlying t with | some .bool=>true | _=>false
 | .str _=>match P.underlying t with | some .string=>true | _=>false
 | _=>false
theorem Ls {P:Program} {t:TypeId} {d:D} (h:Ik P t d=true):JV P t d:=by
 unfold Ik at h;split at h
 ·split at h
  ·rename_i hu;exact ⟨_,hu⟩
  ·cases h
 ·split at h
  ·rename_i hu;exact hu
  ·cases h
 ·split at h
  ·rename_i hu;exact hu
  ·cases h
 ·cases h
def OC (P:Program) (t:TypeId) (z:List D):Bool:=match P.underlying t with
 | some (.struct gs) => !P.stoodInHeld t && !P.eqGuardType P.depth t && decide (gs.size = z.length) && (gs.toList.zipIdx.zip z).all fun x => x.1.1.offset == x.1.2 && x.1.1.name != "_" && Ik P x.1.1.type x.2
 | _=>false
theorem OB {P:Program} {t:TypeId} {z:List D} (h:OC P t z=true):EN P t z:=by
 unfold OC at h;split at h
 ·rename_i gs hu;simp only [Z8,Zb,decide_eq_true_eq,Zv] at h;obtain ⟨⟨⟨h1,h2⟩,h3⟩,h4⟩:=h;refine ⟨gs,hu,h1,h2,h3,fun i f d hf hd=>?_⟩
  have:=h4 ((f,i),d) (by
   apply Xq (i:=i);rw [List.getElem?_zip_eq_some];exact ⟨by rw [List.getElem?_zipIdx,hf];simp,hd⟩)
  simp only [beq_iff_eq,bne_iff_ne] at this;exact ⟨this.1.1,this.1.2,Ls this.2⟩
 ·cases h
def tyB (P:Program) (t:TypeId) (i:TyI):Bool:=(!i.eq || OC P t i.z) && match i.k with
 | .o=>true
 | k=>Oc P t k && decide (szO P t=some i.sz) && decide (nj P t=some i.bytes) && match fR P t with
  | some z=>plain z && z.cells.size == i.sz && (z.cells.toList.all fun c=>plain c && okCell c) && OK (z.cells.toList.map gF) i.z
  | none=>false
theorem I6 {P : Program} {t : TypeId} {i : TyI} (h : tyB P t i = true) : AX P t i := by
  unfold tyB at h;rw [Z8] at h;obtain ⟨h0, h⟩ := h
  have heq : i.eq = true -> EN P t i.z := fun e => by
    rw [e] at h0;exact OB (by simpa using h0)
  by_cases hk : i.k = .o
  · exact ⟨by rw [hk];trivial, fun h => absurd hk h, fun h => absurd hk h, fun h => absurd hk h, heq⟩
  · have h2 : Oc P t i.k = true ∧ szO P t = some i.sz ∧ nj P t = some i.bytes ∧ (match fR P t with
        | some z => plain z && z.cells.size == i.sz && (z.cells.toList.all fun c => plain c && okCell c) && OK (z.cells.toList.map gF) i.z
        | none => false) = true := by
      split at h
      · rename_i e;exact absurd e hk
      · simp only [Z8, decide_eq_true_eq] at h
        exact ⟨h.1.1.1, h.1.1.2, h.1.2, h.2⟩
    obtain ⟨h1, h2, h3, h4⟩ := h2;refine ⟨?_, fun _ => h2, fun _ => h3, fun _ => ?_, heq⟩
    · unfold Oc at h1
      cases hq : i.k <;> rw [hq] at h1 <;> dsimp only at h1 ⊢
      all_goals first
        | trivial
        | (split at h1
           · rename_i hu
             first
               | (simp only [decide_eq_true_eq] at h1;subst h1;exact hu)
               | exact hu
               | exact ⟨_, hu⟩
               | exact ⟨_, _, _, hu⟩
               | (simp only [beq_iff_eq] at h1;subst h1;exact hu)
               | (simp only [Z8, beq_iff_eq] at h1;obtain ⟨rfl, rfl⟩ := h1;exact hu)
               | (simp only [decide_eq_true_eq] at h1;exact ⟨_, hu, h1⟩)
           · cases h1)
    · split at h4
      · rename_i z hz
        simp only [Z8, beq_iff_eq, Zv] at h4;refine ⟨z, hz, h4.1.1.1, J3 h4.2, h4.1.1.2, fun c hc => ?_⟩;have := h4.1.2 c hc;exact this
      · cases h4
theorem vT:∀ (l:List (List TyI)) (n:Nat),l.length<=n->Fe l n=[]
 | [],_,_=>rfl
 | _::_,0,h=>by simp at h
 | _::l,n+1,h=>vT l n (by simpa using h)
theorem Sp:(List.range (16*yR.length)).all (fun t=>tyB Y.X.P t (Y.ty t))=true:=aG
section
variable {F:Nat->Prop} {H:AH}
theorem uV:∀ {l:List D} {xs:List Value},lits l=some xs->(∀ v∈xs,okZ v)∧∀ ws,RDs F H l ws->ws=xs
 | [],xs,h=>by
  simp only [lits,Z9] at h;subst h;exact ⟨fun v hv=>(by cases hv),fun ws hw=>by simpa only [RDs] using hw⟩
 | x::l,xs,h=>by
  unfold lits at h;split at h
  ·rename_i k n r hr;simp only [Z9] at h;subst h;obtain ⟨q1,q2⟩:=uV hr;refine ⟨fun v hv=>?_,fun ws hw=>?_⟩
   ·rcases Zr.1 hv with rfl | hv
    ·exact ⟨rfl,rfl⟩
    ·exact q1 v hv
   ·simp only [RDs,RD] at hw;obtain ⟨v,us,rfl,rfl,h2⟩:=hw;rw [q2 us h2]
  ·rename_i s r hr;simp only [Z9] at h;subst h;obtain ⟨q1,q2⟩:=uV hr;refine ⟨fun v hv=>?_,fun ws hw=>?_⟩
   ·rcases Zr.1 hv with rfl | hv
    ·exact ⟨rfl,rfl⟩
    ·exact q1 v hv
   ·simp only [RDs,RD] at hw;obtain ⟨v,us,rfl,rfl,h2⟩:=hw;rw [q2 us h2]
  ·cases h
theorem MC {p:D} {k:Nat} {l:List D} {xs:List Value} (h:slD p=some (k,l)) (hl:lits l=some xs) (hk:xs.length=k) {w:Value} (hw:RD F H p w):m5 H 1 w=some (k,xs):=by
 obtain ⟨q1,q2⟩:=uV (F:=F) (H:=H) hl;unfold slD at h;split at h
 ·rename_i n l';simp only [Z9,Z6] at h;obtain ⟨rfl,rfl⟩:=h;simp only [RD] at hw;rcases hw with ⟨rfl,rfl,h3⟩ | ⟨c,o,cap,vs,m,rfl,h1,h2,h3,h4,h5,h6,h7,h8⟩
  ·simp only [lits,Z9] at hl;subst hl;rcases h3 with rfl | ⟨c,o,cap,rfl,_⟩
   ·rfl
   ·simp [m5]
  ·have e:=q2 vs h7;subst e
   have hl:l'.length=n:=by
    rw [<- hk,K4 h6]
   simp only [m5,X8];rw [if_neg aa,<- hl,h6];simp
 ·simp only [Z9,Z6] at h;obtain ⟨rfl,rfl⟩:=h;simp only [lits,Z9] at hl;subst hl;simp only [RD] at hw;obtain ⟨rfl,_⟩:=hw;rfl
 ·cases h
theorem MB {p:D} {k:Nat} {l:List D} (h:slD p=some (k,l)) {w:Value} (hw:RD F H p w):Io w=true:=by
 unfold slD at h;split at h
 ·rename_i n l';simp only [RD] at hw;rcases hw with ⟨_,_,h3⟩ | ⟨c,o,cap,vs,m,rfl,_⟩
  ·rcases h3 with rfl | ⟨c,o,cap,rfl,_⟩ <;> rfl
  ·rfl
 ·simp only [RD] at hw;obtain ⟨rfl,_⟩:=hw;rfl
 ·cases h
theorem yd {p q:D} {xs:List (List Value)} (h:KC p q=some xs):(∀ z∈xs,∀ v∈z,okZ v)∧∀ v w,RD F H p v->RD F H q w->EO H v w=some xs:=by
 unfold KC at h;split at h
 case h_2=>cases h
 rename_i k l k' m hp hq;split at h
 case h_2=>cases h
 rename_i us vs hl hm;split at h
 case isFalse=>cases h
 rename_i hc;simp only [Z9] at h;subst h;have o1:=(uV (F:=F) (H:=H) hl).1;have o2:=(uV (F:=F) (H:=H) hm).1;refine ⟨fun z hz v hv=>?_,fun v w hv hw=>?_⟩
 ·obtain ⟨⟨a,b⟩,hab,rfl⟩:=Y5.1 hz;have:=List.of_mem_zip hab;simp only [Zr,Y6,or_false] at hv;rcases hv with rfl | rfl
  ·exact o1 _ this.1
  ·exact o2 _ this.2
 ·unfold EO;rw [MC hp hl hc.2.1 hv,MC hq hm (hc.2.2.1.trans hc.1) hw];have c1:(us.all fun v=>plain v && okCell v)=true:=Zv.2 fun x hx=>by have:=o1 x hx;simp [this.1,this.2]
  have c2:(vs.all fun v=>plain v && okCell v)=true:=Zv.2 fun x hx=>by have:=o2 x hx;simp [this.1,this.2]
  exact if_pos ⟨hc.1,hc.2.1,hc.2.2.1,hc.2.2.2,by rw [MB hp hv,MB hq hw];rfl,c1,c2⟩
end
theorem yOk:YOk Y where
 seq gf cs xs h0:=by
  have h:SC gf cs=some xs:=h0;clear h0;unfold SC at h;split at h
  ·rename_i hg;split at h
   ·rename_i p q d;refine ⟨(yd (F:=fun _=>True) (H:=⟨0,[]⟩) h).1,fun φ F H hp lb hr=>?_⟩;simp only [RVs,RV] at hr;obtain ⟨v,_,rfl,⟨c,o,vs,rfl,hF,hrd,hd⟩,rfl⟩:=hr;simp only [RDs] at hd;obtain ⟨v1,_,rfl,d1,v2,_,rfl,d2,v3,_,rfl,d3,rfl⟩:=hd;rw [show ([p,q,d]:List D).length=3 from rfl] at hrd;refine ⟨?_,fun F' H' hl=>?_⟩
    ·rw [show Y.X.seq=zq from rfl];unfold zq;rw [hg];simp only [Nat.add_zero];rw [hrd];exact (yd h).2 _ _ d1 d2
    ·rw [show Y.X.seqK=FH from rfl];simp only [FH,Nat.add_zero];rw [kZ (hl.keep c hF)]
   ·cases h
  ·rename_i hg;split at h
   ·rename_i hg2;split at h
    ·rename_i p q;refine ⟨(yd (F:=fun _=>True) (H:=⟨0,[]⟩) h).1,fun φ F H hp lb hr=>?_⟩;simp only [RVs,RV] at hr;obtain ⟨v,_,rfl,⟨c,o,vs,rfl,hF,hrd,hd⟩,v',_,rfl,⟨c',o',vs',rfl,hF',hrd',hd'⟩,rfl⟩:=hr;simp only [RDs] at hd hd';obtain ⟨v1,_,rfl,d1,rfl⟩:=hd;obtain ⟨v2,_,rfl,d2,rfl⟩:=hd';rw [show ([p]:List D).length=1 from rfl] at hrd;rw [show ([q]:List D).length=1 from rfl] at hrd'
     refine ⟨?_,fun F' H' hl=>?_⟩
     ·rw [show Y.X.seq=zq from rfl];unfold zq;rw [hg,hg2];simp only [Nat.add_zero];rw [hrd,hrd'];exact (yd h).2 _ _ d1 d2
     ·rw [show Y.X.seqK=FH from rfl];simp only [FH,Nat.add_zero];rw [kZ (hl.keep c hF),kZ (hl.keep c' hF')]
    ·cases h
   ·cases h
 ty t:=by
  by_cases ht:t<16*yR.length
  ·exact I6 (Zv.1 Sp t (Xb.2 ht))
  ·refine I6 ?_
   have:(Y.ty t).k=.o:=by
    show (PR (Fe yR (t / 16)) (t % 16)).k=.o
    have h2:∀ t n:Nat,¬ t<16*n->n<=t / 16:=fun t n hn=>by omega
    rw [vT yR (t / 16) (h2 t _ ht)];rfl
   have h2:(Y.ty t).eq=false:=by
    show (PR (Fe yR (t / 16)) (t % 16)).eq=false
    have h2:∀ t n:Nat,¬ t<16*n->n<=t / 16:=fun t n hn=>by omega
    rw [vT yR (t / 16) (h2 t _ ht)];rfl
   unfold tyB;rw [this,h2];rfl
end Go.Vm
namespace Go.Vm
open Go Go.Am
theorem AQ {x:Prop} {o:Option V} {k k':V->Prop} (h1:x=bnd o k) (h:∀ v,k v=k' v):x=bnd o k':=by rw [h1,funext h]
theorem An {x:Prop} {o:V} {i:Nat} {k k':V->Prop} (h1:x=ext o i k) (h:∀ v,k v=k' v):x=ext o i k':=by rw [h1,funext h]
theorem tP {x:Prop} {a b:V} {h0:Hp} {op:BinOp} {k k':V->Prop} (h1:x=tQ h0 op a b k) (h:∀ v,k v=k' v):x=tQ h0 op a b k':=by rw [h1,funext h]
theorem qC {x:Prop} {T:(V->Hp->Prop)->Prop} {k k':V->Hp->Prop} (h1:x=T k) (h:∀ v h,k v h=k' v h):x=T k':=by
 rw [h1,show k=k' from funext fun v=>funext fun y=>h v y]
theorem AM {x:Prop} {C:nr} {h0:Hp} {f:V} {a:List V} {k k':V->Hp->Prop} (h1:x=cal C h0 f a k) (h:∀ v h,k v h=k' v h):x=cal C h0 f a k':=qC h1 h
theorem AN {x:Prop} {C:nm} {h0:Hp} {f:V} {a:List V} {s:Nat} {k k':V->Hp->Prop} (h1:x=cai C h0 f a s k) (h:∀ v h,k v h=k' v h):x=cai C h0 f a s k':=qC h1 h
theorem AU {x:Prop} {s:Nat} {cs:List V} {h0:Hp} {k k':V->Hp->Prop} (h1:x=alV s cs h0 k) (h:∀ v h,k v h=k' v h):x=alV s cs h0 k':=qC h1 h
theorem AV {x:Prop} {s n:Nat} {cs:List D} {h0:Hp} {k k':V->Hp->Prop} (h1:x=alD s n cs h0 k) (h:∀ v h,k v h=k' v h):x=alD s n cs h0 k':=qC h1 h
theorem uf {x:Prop} {s:Nat} {v0:V} {h0:Hp} {k k':V->Hp->Prop} (h1:x=iI s v0 h0 k) (h:∀ v h,k v h=k' v h):x=iI s v0 h0 k':=qC h1 h
theorem tV {x:Prop} {n:Nat} {z:List D} {ps:List (Nat × V)} {h0:Hp} {k k':V->Hp->Prop} (h1:x=eh n z ps h0 k) (h:∀ v h,k v h=k' v h):x=eh n z ps h0 k':=qC h1 h
theorem tU {x:Prop} {s n:Nat} {z:List D} {ps:List (Nat × V)} {h0:Hp} {k k':V->Hp->Prop} (h1:x=tf s n z ps h0 k) (h:∀ v h,k v h=k' v h):x=tf s n z ps h0 k':=qC h1 h
theorem zK {x:Prop} {s n:Nat} {z:List D} {h0:Hp} {a b:V} {k k':V->Hp->Prop} (h1:x=mkS s n z h0 a b k) (h:∀ v h,k v h=k' v h):x=mkS s n z h0 a b k':=qC h1 h
theorem zb {x:Prop} {n:Nat} {h0:Hp} {a b:V} {k k':V->Hp->Prop} (h1:x=stD h0 n a b k) (h:∀ v h,k v h=k' v h):x=stD h0 n a b k':=qC h1 h
theorem AT {x:Prop} {dr:Bool} {s n m:Nat} {h0:Hp} {a b:V} {k k':V->Hp->Prop} (h1:x=apV dr s n m a b h0 k) (h:∀ v h,k v h=k' v h):x=apV dr s n m a b h0 k':=qC h1 h
theorem Se {x:Prop} {dr:Bool} {s n m:Nat} {z:List D} {h0:Hp} {a b:V} {k k':V->Hp->Prop} (h1:x=apZ dr s n m z a b h0 k) (h:∀ v h,k v h=k' v h):x=apZ dr s n m z a b h0 k':=qC h1 h
theorem Ir {x:Prop} {c:V} {w:Bool} {h0:Hp} {T:(V->Hp->Prop)->Prop} {k k':V->Hp->Prop} (h1:x=gd c w h0 T k) (h:∀ v h,k v h=k' v h):x=gd c w h0 T k':=qC h1 h
theorem AI {x:Prop} {c:V} {A A' B B':Prop} (h1:x=cnd c A B) (ha:A=A') (hb:B=B'):x=cnd c A' B':=by rw [h1,ha,hb]
theorem Il {x:Prop} {k k':List V->Hp->Prop} {T T':(List V->Hp->Prop)->Prop} (h1:x=jn k T) (hk:∀ l h,k l h=k' l h) (hT:∀ q,T q=T' q):x=jn k' T':=by
 rw [h1,show k=k' from funext fun v=>funext fun y=>hk v y,show T=T' from funext hT]
theorem Ih {x:Prop} {s s':bh} {clr:List Nat} {h0 h2:Hp} {l:List V} {k k':KL} (h1:x=lp s clr h0 l h2 k) (hs:∀ l h q,s l h q=s' l h q) (hk:∀ ex l h,k ex l h=k' ex l h):x=lp s' clr h0 l h2 k':=by
 rw [h1,show s=s' from funext fun a=>funext fun b=>funext fun c=>hs a b c,show k=k' from funext fun a=>funext fun b=>funext fun c=>hk a b c]
theorem Ap {x:Prop} {e ex:Exit} {q q':List V->Hp->Prop} {r r':List (Exit × (List V->Hp->Prop))} {l:List V} {h:Hp} (h1:x=exK ((e,q)::r) ex l h) (hq:∀ l h,q l h=q' l h) (hr:exK r ex l h=exK r' ex l h):x=exK ((e,q')::r') ex l h:=by
 rw [h1,show q=q' from funext fun v=>funext fun y=>hq v y];simp only [exK];split
 ·rfl
 ·exact hr
theorem tW {x y:Prop} {v:V} {k:V->Prop} (h1:x=bnd (some v) k) (h2:k v=y):x=y:=h1.trans h2
noncomputable def gl (g:Nat):V:=match Y.glob g with
 | some cs=>.dptr cs 0
 | none=>.junk
end Go.Vm
