/- The types of the program, as far as they matter: a table. Printed by gen.py. -/
import Derived.Test.YtaiahkcmdnaooaaGreatDoorQVmA
import Derived.Test.YtaiahkcmdnaooaaGreatDoorQVmB
import Derived.Test.YtaiahkcmdnaooaaGreatDoorProg
set_option linter.unusedVariables false
set_option linter.unusedSimpArgs false
namespace Go.Vm
open Go Go.Am
abbrev aj:TyI:=⟨.f,1,8,[.pl .nilFunc],false⟩
abbrev iS:TyI:=⟨.o,1,0,[],false⟩
abbrev E3:TyI:=⟨.p,1,8,[.pl (.pointer none)],false⟩
abbrev MA:TyI:=⟨.i .i64,1,8,[.int .i64 0],false⟩
abbrev Mz:TyI:=⟨.i .u8,1,1,[.int .u8 0],false⟩
abbrev My:TyI:=⟨.s,1,16,[.str []],false⟩
abbrev Qd:TyI:=⟨.i .u64,1,8,[.int .u64 0],false⟩
abbrev Qc:TyI:=⟨.it,1,16,[.pl .nilIface],false⟩
abbrev Qb:TyI:=⟨.i .i32,1,4,[.int .i32 0],false⟩
abbrev Qa:TyI:=⟨.sl 3,1,24,[.pl (.slice none 0 0)],false⟩
abbrev Qp:TyI:=⟨.st [(0,1),(1,1),(2,1),(3,1)],4,24,[.int .i64 0,.int .i64 0,.bool false,.int .u8 0],false⟩
abbrev Qo:TyI:=⟨.st [(0,1),(1,1)],2,24,[.str [],.int .u64 0],false⟩
abbrev Qn:TyI:=⟨.st [(0,1)],1,8,[.pl (.pointer none)],false⟩
abbrev Qm:TyI:=⟨.sl 56,1,24,[.pl (.slice none 0 0)],false⟩
abbrev Ql:TyI:=⟨.ar 4 41,8,8,[.int .i8 0,.int .u8 0,.int .i8 0,.int .u8 0,.int .i8 0,.int .u8 0,.int .i8 0,.int .u8 0],false⟩
abbrev Qk:TyI:=⟨.st [(0,1),(1,1)],2,32,[.int .u8 0,.pl (.slice none 0 0)],false⟩
abbrev Qj:TyI:=⟨.st [(0,1),(1,1),(2,1)],3,40,[.int .i64 0,.int .i64 0,.pl (.slice none 0 0)],false⟩
abbrev Qi:TyI:=⟨.st [(0,1),(1,1),(2,1)],3,64,[.pl (.slice none 0 0),.pl (.slice none 0 0),.str []],false⟩
abbrev Qh:TyI:=⟨.sl 199,1,24,[.pl (.slice none 0 0)],false⟩
abbrev Qg:TyI:=⟨.st [(0,1),(1,1),(2,1)],3,48,[.str [],.str [],.pl .nilIface],false⟩
abbrev Qf:TyI:=⟨.st [(0,1),(1,1),(2,1),(3,1)],4,40,[.pl (.pointer none),.pl (.pointer none),.pl (.pointer none),.str []],false⟩
abbrev Qe:TyI:=⟨.st [(0,1),(1,1),(2,1),(3,1),(4,1),(5,1),(6,1),(7,1),(8,1),(9,1),(10,1)],11,48,[.int .u64 0,.int .u64 0,.int .u32 0,.int .u8 0,.int .u8 0,.int .u8 0,.int .u8 0,.pl .nilFunc,.pl (.pointer none),.int .i32 0,.int .i32 0],false⟩
abbrev slQ(n:Nat):TyI:=⟨.sl n,1,24,[.pl (.slice none 0 0)],false⟩
def ab8:List TyI:=[
 iS,aj,MA,MA,⟨.b,1,1,[.bool false],false⟩,Mz,Mz,Qp,Qp,My,My,My,Qd,Qo,Qo,E3]
def ab7:List TyI:=[
 E3,E3,Qn,Qn,Qc,Qb,⟨.i .i8,1,1,[.int .i8 0],false⟩,⟨.ar 4 22,4,4,[.int .i8 0,.int .i8 0,.int .i8 0,.int .i8 0],false⟩,aj,Qa,Qa,aj,Qa,aj,MA,iS]
def ab6:List TyI:=[
 aj,Qm,Qm,aj,iS,aj,aj,aj,⟨.st [(0,1),(1,1)],2,2,[.int .i8 0,.int .u8 0],false⟩,⟨.st [(0,1),(1,1)],2,2,[.int .i8 0,.int .u8 0],true⟩,Ql,Ql,⟨.i .u16,1,2,[.int .u16 0],false⟩,aj,iS,aj]
def ab5:List TyI:=[
 My,iS,aj,aj,aj,aj,aj,⟨.st [(0,1),(1,1)],2,32,[.str [],.str []],false⟩,⟨.st [(0,1),(1,1)],2,32,[.str [],.str []],true⟩,aj,aj,slQ 23,Qk,Qk,⟨.st [(0,1),(1,1),(2,1)],3,3,[.int .u8 0,.int .u8 0,.int .u8 0],false⟩,⟨.st [(0,1),(1,1),(2,1)],3,3,[.int .u8 0,.int .u8 0,.int .u8 0],true⟩]
def ab4:List TyI:=[
 slQ 28,iS,aj,aj,aj,aj,Qj,Qj,aj,iS,aj,aj,aj,aj,iS,aj]
def ab3:List TyI:=[
 slQ 34,iS,aj,aj,aj,aj,aj,aj,aj,aj,aj,aj,aj,aj,iS,aj]
def ab2:List TyI:=[
 aj,aj,⟨.st [(0,1),(1,1),(2,1)],3,24,[.int .i64 0,.int .i64 0,.int .i64 0],false⟩,⟨.st [(0,1),(1,1),(2,1)],3,24,[.int .i64 0,.int .i64 0,.int .i64 0],true⟩,iS,aj,iS,aj,aj,aj,aj,slQ 26,aj,aj,aj,aj]
def ab1:List TyI:=[
 aj,aj,aj,aj,aj,aj,aj,aj,aj,aj,iS,aj,aj,aj,aj,aj]
def ab0:List TyI:=[
 aj,slQ 48,Qi,Qi,aj,aj,aj,aj,aj,aj,aj,aj,aj,aj,iS,aj]
def abZ:List TyI:=[
 aj,aj,iS,aj,aj,aj,aj,aj,iS,aj,aj,aj,iS,aj,aj,aj]
def ZO:List TyI:=[
 iS,aj,aj,aj,aj,aj,aj,aj,aj,aj,aj,iS,aj,aj,aj,aj]
def ZN:List TyI:=[
 aj,aj,aj,aj,aj,iS,aj,aj,aj,aj,aj,aj,aj,aj,aj,aj]
def ZM:List TyI:=[
 aj,aj,aj,Qc,Qc,iS,aj,Qd,iS,aj,aj,Qh,Qh,aj,aj,aj]
def ZL:List TyI:=[
 aj,aj,aj,Qd,aj,aj,aj,aj,iS,aj,aj,aj,iS,aj,aj,iS]
def ZK:List TyI:=[
 aj,iS,aj,aj,aj,aj,iS,aj,aj,slQ 5,aj,aj,iS,aj,aj,aj]
def ZJ:List TyI:=[
 ⟨.ar 24 5,24,24,List.replicate 24 (.int .u8 0),false⟩,aj,aj,iS,aj,MA,E3,aj,aj,iS,aj,aj,⟨.i .u32,1,4,[.int .u32 0],false⟩,aj,aj,⟨.ar 20 199,20,160,List.replicate 20 (.int .u64 0),false⟩]
def ZI:List TyI:=[
 ⟨.ar 65 5,65,65,List.replicate 65 (.int .u8 0),false⟩,aj,Qg,Qg,aj,aj,aj,E3,E3,⟨.st [(0,1)],1,16,[.str []],false⟩,⟨.st [(0,1)],1,16,[.str []],false⟩,⟨.ar 32 5,32,32,List.replicate 32 (.int .u8 0),false⟩,⟨.ar 64 5,64,64,List.replicate 64 (.int .u8 0),false⟩,aj,Qf,Qf]
def ZH:List TyI:=[
 ⟨.ar 0 16,0,0,[],false⟩,⟨.st [(0,0)],0,0,[],false⟩,⟨.st [(0,0)],0,0,[],false⟩,Mz,Mz,aj,Qb,Qb,Qe,Qe,⟨.o,1,8,[.pl (.pointer none)],false⟩]
def BQ:List (List TyI):=[ab8,ab7,ab6,ab5,ab4,ab3,ab2,ab1,ab0,abZ,ZO,ZN,ZM,ZL,ZK,ZJ,ZI,ZH]
def YC:List Nat:=[0,1,222,223,224,225,226,227,228,229,230,231,232,233,234,235,236,237,238,239,240,241,242,243,244,245,246,247]
def mh:Nat:=0
namespace F
def bG:FuncId:=5
def bD:FuncId:=9
def bN:FuncId:=10
def aX:FuncId:=11
def aT:FuncId:=13
def dY:FuncId:=14
def dy:FuncId:=15
def fX:FuncId:=16
def fS:FuncId:=17
def jY:FuncId:=18
def dw:FuncId:=19
def mU:FuncId:=25
def fp:FuncId:=26
def fk:FuncId:=27
def mV:FuncId:=28
def dE:FuncId:=29
def jT:FuncId:=30
def aU:FuncId:=31
def bY:FuncId:=32
def d6:FuncId:=35
def fJ:FuncId:=37
def qE:FuncId:=38
def qh:FuncId:=40
def ot:FuncId:=42
def iL:FuncId:=43
def ni:FuncId:=44
def nf:FuncId:=45
def cQ:FuncId:=46
def cS:FuncId:=47
def iu:FuncId:=48
def mQ:FuncId:=49
def bK:FuncId:=50
def bV:FuncId:=51
def cE:FuncId:=52
def cG:FuncId:=53
def jf:FuncId:=55
def ir:FuncId:=56
def jt:FuncId:=57
def il:FuncId:=58
def lZ:FuncId:=59
def cO:FuncId:=60
def gB:FuncId:=62
def js:FuncId:=63
def fV:FuncId:=65
def jL:FuncId:=66
def eN:FuncId:=67
def lh:FuncId:=68
def cu:FuncId:=69
def lu:FuncId:=70
def jZ:FuncId:=71
def aN:FuncId:=72
def jU:FuncId:=73
def bR:FuncId:=74
def j3:FuncId:=75
def dQ:FuncId:=76
def aY:FuncId:=77
def fW:FuncId:=80
def gh:FuncId:=81
def eG:FuncId:=82
def lY:FuncId:=84
def oP:FuncId:=85
def j7:FuncId:=86
def cC:FuncId:=87
def kD:FuncId:=88
def kA:FuncId:=89
def vn:FuncId:=90
def qD:FuncId:=91
def gP:FuncId:=92
def cD:FuncId:=93
def aI:FuncId:=94
def nh:FuncId:=95
def dM:FuncId:=96
def mn:FuncId:=97
def vy:FuncId:=98
def qj:FuncId:=99
def im:FuncId:=100
def jG:FuncId:=101
def jX:FuncId:=102
def gZ:FuncId:=104
def gY:FuncId:=105
def mT:FuncId:=106
def iJ:FuncId:=107
def eu:FuncId:=108
def cZ:FuncId:=109
def bB:FuncId:=110
def iV:FuncId:=111
def aR:FuncId:=112
def aJ:FuncId:=113
def gK:FuncId:=114
def gA:FuncId:=115
def nj:FuncId:=116
def mi:FuncId:=117
def dC:FuncId:=118
def oZ:FuncId:=119
def mW:FuncId:=121
def m7:FuncId:=122
def fR:FuncId:=123
def strconv_Itoa:FuncId:=124
def bE:FuncId:=125
def mf:FuncId:=126
def bw:FuncId:=127
def aO:FuncId:=128
def b9:FuncId:=129
def iy:FuncId:=130
def bZ:FuncId:=131
def jj:FuncId:=132
def jk:FuncId:=133
def lf:FuncId:=134
def sI:FuncId:=135
def qi:FuncId:=136
def cg:FuncId:=137
def lj:FuncId:=138
def eD:FuncId:=139
def iq:FuncId:=140
def bc:FuncId:=141
def j6:FuncId:=142
def cY:FuncId:=143
def ii:FuncId:=144
def fe:FuncId:=145
def fj:FuncId:=146
def qC:FuncId:=147
def fB:FuncId:=148
def aS:FuncId:=149
def k9:FuncId:=150
def m8:FuncId:=151
def aK:FuncId:=152
def iF:FuncId:=153
def lU:FuncId:=155
def iA:FuncId:=156
def jI:FuncId:=157
def bC:FuncId:=158
def strconv_Atoi:FuncId:=159
def fA:FuncId:=160
def iM:FuncId:=161
def cM:FuncId:=162
def cx:FuncId:=163
def aA:FuncId:=164
def aL:FuncId:=165
def du:FuncId:=166
def bn:FuncId:=167
def ow:FuncId:=168
def qq:FuncId:=169
def me:FuncId:=170
def fI:FuncId:=171
def kH:FuncId:=172
def qg:FuncId:=173
def fO:FuncId:=174
def dD:FuncId:=175
def iY:FuncId:=176
def size_digits:FuncId:=177
def b6:FuncId:=178
def cJ:FuncId:=179
def ek:FuncId:=180
def jv:FuncId:=181
def pX:FuncId:=182
def lV:FuncId:=183
def bj:FuncId:=184
def dp:FuncId:=185
def gz:FuncId:=186
def Az:FuncId:=187
def iv:FuncId:=188
def fP:FuncId:=189
def bJ:FuncId:=190
def jp:FuncId:=191
def fG:FuncId:=192
def wU:FuncId:=193
def iw:FuncId:=194
def ij:FuncId:=195
def bT:FuncId:=196
def gJ:FuncId:=197
def gO:FuncId:=198
def dk:FuncId:=199
def bH:FuncId:=200
def pf:FuncId:=201
def fh:FuncId:=206
def dP:FuncId:=207
def tW:FuncId:=208
def eH:FuncId:=209
def kf:FuncId:=211
def fD:FuncId:=212
def fE:FuncId:=213
end F
end Go.Vm
namespace Go.Vm
open Go Go.Am
noncomputable section
def Tg:List TyI->Nat->TyI
 | [],_=>⟨.o,0,0,[],false⟩
 | x::_,0=>x
 | _::l,n+1=>Tg l n
def Ih:List (List TyI)->Nat->List TyI
 | [],_=>[]
 | x::_,0=>x
 | _::l,n+1=>Ih l n
def nZ:Nat->List UInt8->Nat
 | a,[]=>a
 | a,c::l=>nZ (a*10+(c.toNat-48)) l
def mZ (c:UInt8):Bool:=Nat.ble 48 c.toNat && Nat.ble c.toNat 57
def I6:List Value->Option Value
 | [.string s,.int .i64 a,.int .i64 b]=>if a=10∧b=64∧s.data.toList≠[]∧s.data.toList.all mZ=true∧s.data.toList.length<=1000∧nZ 0 s.data.toList<10000000000000000000 then some (.tuple #[.int .u64 (nZ 0 s.data.toList),.nilIface]) else none
 | _=>none
def ML:List Value->Option Value
 | [.string s,.int .i64 a,.int .i64 b]=>if a=10∧b=64 then (match s.data.toList with
  | 45::l=>if l≠[]∧l.all mZ=true∧l.length<=1000∧nZ 0 l<9223372036854775808 then some (.tuple #[.int .i64 (-(nZ 0 l:Int)),.nilIface]) else none
  | l=>if l≠[]∧l.all mZ=true∧l.length<=1000∧nZ 0 l<9223372036854775808 then some (.tuple #[.int .i64 (nZ 0 l),.nilIface]) else none) else none
 | _=>none
def LF:Value->Bool
 | .slice ..=>true
 | _=>false
def HI (H:AH) (p q:Value):Option (List (List Value)):=match oU H 1 p,oU H 1 q with
 | some (k,xs),some (k',ys)=>if k=k'∧xs.length=k∧ys.length=k∧k<4611686018427387904∧(LF p && LF q)=true∧(xs.all fun v=>plain v && okCell v)=true∧(ys.all fun v=>plain v && okCell v)=true then some ((xs.zip ys).map fun x=>[x.1,x.2]) else none
 | _,_=>none
def Cg (f:FuncId) (lb:List Value) (H:AH):Option (List (List Value)):=match Nat.beq f F.dD with
 | true=>match lb with
  | [.pointer (some ⟨b,o,none⟩)]=>match bP H b o 3 with
   | some [p,q,_]=>HI H p q
   | _=>none
  | _=>none
 | false=>match Nat.beq f F.me with
  | true=>match lb with
   | [.pointer (some ⟨b,o,none⟩),.pointer (some ⟨b',o',none⟩)]=>match bP H b o 1,bP H b' o' 1 with
    | some [p],some [q]=>HI H p q
    | _,_=>none
   | _=>none
  | false=>none
def IG (f:FuncId) (lb:List Value) (H:AH):List Value:=match lb with
 | [.pointer (some ⟨b,o,none⟩)]=>(bP H b o 3).getD []
 | [.pointer (some ⟨b,o,none⟩),.pointer (some ⟨b',o',none⟩)]=>(bP H b o 1).getD []++(bP H b' o' 1).getD []
 | _=>[]
def lits:List D->Option (List Value)
 | []=>some []
 | x::l=>match x,lits l with
  | .int k n,some r=>some (.int k n::r)
  | .str s,some r=>some (.string ⟨⟨s⟩⟩::r)
  | _,_=>none
def slD:D->Option (Nat × List D)
 | .sl n l=>some (n,l)
 | .pl (.slice none 0 0)=>some (0,[])
 | _=>none
def HJ (p q:D):Option (List (List Value)):=match slD p,slD q with
 | some (k,l),some (k',m)=>match lits l,lits m with
  | some xs,some ys=>if k=k'∧xs.length=k∧ys.length=k∧k<4611686018427387904 then some ((xs.zip ys).map fun x=>[x.1,x.2]) else none
  | _,_=>none
 | _,_=>none
def VU (f:FuncId) (cs:List V):Option (List (List Value)):=match Nat.beq f F.dD with
 | true=>match cs with
  | [.dptr [p,q,_] 0]=>HJ p q
  | _=>none
 | false=>match Nat.beq f F.me with
  | true=>match cs with
   | [.dptr [p] 0,.dptr [q] 0]=>HJ p q
   | _=>none
  | false=>none
def X:Cfg:={ P:=Go.Proofs.Tryz.prog,allow:=eC YC,glob:=fun g=>Nat.beq g mh,orc:=fun f args=>(match Nat.beq f F.fh with
 | true=>I6 args
 | false=>match Nat.beq f F.fO with
  | true=>ML args
  | false=>none),seq:=Cg,seqK:=IG }
def I8:List D:=[.int .u64 1,.int .u64 10,.int .u64 100,.int .u64 1000,.int .u64 10000,.int .u64 100000,.int .u64 1000000,.int .u64 10000000,.int .u64 100000000,.int .u64 1000000000,.int .u64 10000000000,.int .u64 100000000000,
 .int .u64 1000000000000,.int .u64 10000000000000,.int .u64 100000000000000,.int .u64 1000000000000000,.int .u64 10000000000000000,.int .u64 100000000000000000,.int .u64 1000000000000000000,.int .u64 10000000000000000000]
def Y:jQ:={ X:=X,ty:=fun t=>Tg (Ih BQ (t / 16)) (t % 16),glob:=fun g=>(match Nat.beq g mh with
 | true=>some I8
 | false=>none),seq:=VU }
end
end Go.Vm
set_option maxRecDepth 100000
namespace Go.Vm
open Go Go.Am
def XM:Value->Value->Bool
 | .pointer none,.pointer none=>true
 | .slice none a b,.slice none c d=>a == c && b == d
 | .nilFunc,.nilFunc=>true
 | .nilIface,.nilIface=>true
 | .map none,.map none=>true
 | .chan none,.chan none=>true
 | _,_=>false
theorem Us {x y:Value} (h:XM x y=true):x=y:=by
 unfold XM at h;split at h <;> first | rfl | (simp at h;obtain ⟨rfl,rfl⟩:=h;rfl) | cases h
def XN:D->D->Bool
 | .int k a,.int l b=>decide (k=l) && decide (a=b)
 | .bool a,.bool b=>a == b
 | .str a,.str b=>a == b
 | .pl a,.pl b=>XM a b
 | _,_=>false
theorem Ut {x y:D} (h:XN x y=true):x=y:=by
 unfold XN at h;split at h
 ·simp at h;obtain ⟨rfl,rfl⟩:=h;rfl
 ·simp at h;subst h;rfl
 ·simp at h;subst h;rfl
 ·rw [Us h]
 ·cases h
def R7:List D->List D->Bool
 | [],[]=>true
 | x::l,y::m=>XN x y && R7 l m
 | _,_=>false
theorem Nk:∀ {l m:List D},R7 l m=true->l=m
 | [],[],_=>rfl
 | x::l,y::m,h=>by
  simp only [R7,Z8] at h;rw [Ut h.1,Nk h.2]
 | [],_::_,h=>by cases h
 | _::_,[],h=>by cases h
def Ry (P:Program) (t:TypeId) (k:Ty):Bool:=match k with
 | .i k=>match P.underlying t with | some (.int k')=>decide (k'=k) | _=>false
 | .b=>match P.underlying t with | some .bool=>true | _=>false
 | .s=>match P.underlying t with | some .string=>true | _=>false
 | .p=>match P.underlying t with | some (.pointer _)=>true | _=>false
 | .f=>match P.underlying t with | some (.func ..)=>true | _=>false
 | .it=>match P.underlying t with | some (.interface _)=>true | _=>false
 | .sl e=>match P.underlying t with | some (.slice e')=>e' == e | _=>false
 | .ar n e=>match P.underlying t with | some (.array n' e')=>n' == n && e' == e | _=>false
 | .st fs=>match P.underlying t with | some (.struct gs)=>decide (gs.toList.map (fun f=>(f.offset,szO P f.type))=fs.map fun p=>(p.1,some p.2)) | _=>false
 | .o=>true
def LD (P:Program) (t:TypeId):D->Bool
 | .int _ _=>match P.underlying t with | some (.int _)=>true | _=>false
 | .bool _=>match P.underlying t with | some .bool=>true | _=>false
 | .str _=>match P.underlying t with | some .string=>true | _=>false
 | _=>false
theorem ON {P:Program} {t:TypeId} {d:D} (h:LD P t d=true):M8 P t d:=by
 unfold LD at h;split at h
 ·split at h
  ·rename_i hu;exact ⟨_,hu⟩
  ·cases h
 ·split at h
  ·rename_i hu;exact hu
  ·cases h
 ·split at h
  ·rename_i hu;exact hu
  ·cases h
 ·cases h
def RY (P:Program) (t:TypeId) (z:List D):Bool:=match P.underlying t with
 | some (.struct gs) => !P.stoodInHeld t && !P.eqGuardType P.depth t && decide (gs.size = z.length) && (gs.toList.zipIdx.zip z).all fun x => x.1.1.offset == x.1.2 && x.1.1.name != "_" && LD P x.1.1.type x.2
 | _=>false
theorem RX {P:Program} {t:TypeId} {z:List D} (h:RY P t z=true):HG P t z:=by
 unfold RY at h;split at h
 ·rename_i gs hu;simp only [Z8,Y7,decide_eq_true_eq,Zu] at h;obtain ⟨⟨⟨h1,h2⟩,h3⟩,h4⟩:=h;refine ⟨gs,hu,h1,h2,h3,fun i f d hf hd=>?_⟩
  have:=h4 ((f,i),d) (by
   apply Yo (i:=i);rw [List.getElem?_zip_eq_some];exact ⟨by rw [List.getElem?_zipIdx,hf];simp,hd⟩)
  simp only [beq_iff_eq,bne_iff_ne] at this;exact ⟨this.1.1,this.1.2,ON this.2⟩
 ·cases h
def tyB (P:Program) (t:TypeId) (i:TyI):Bool:=(!i.eq || RY P t i.z) && match i.k with
 | .o=>true
 | k=>Ry P t k && decide (szO P t=some i.sz) && decide (pE P t=some i.bytes) && match ig P t with
  | some z=>plain z && z.cells.size == i.sz && (z.cells.toList.all fun c=>plain c && okCell c) && R7 (z.cells.toList.map iD) i.z
  | none=>false
theorem Mi {P : Program} {t : TypeId} {i : TyI} (h : tyB P t i = true) : DL P t i := by
  unfold tyB at h;rw [Z8] at h;obtain ⟨h0, h⟩ := h
  have heq : i.eq = true -> HG P t i.z := fun e => by
    rw [e] at h0;exact RX (by simpa using h0)
  by_cases hk : i.k = .o
  · exact ⟨by rw [hk];trivial, fun h => absurd hk h, fun h => absurd hk h, fun h => absurd hk h, heq⟩
  · have h2 : Ry P t i.k = true ∧ szO P t = some i.sz ∧ pE P t = some i.bytes ∧ (match ig P t with
        | some z => plain z && z.cells.size == i.sz && (z.cells.toList.all fun c => plain c && okCell c) && R7 (z.cells.toList.map iD) i.z
        | none => false) = true := by
      split at h
      · rename_i e;exact absurd e hk
      · simp only [Z8, decide_eq_true_eq] at h
        exact ⟨h.1.1.1, h.1.1.2, h.1.2, h.2⟩
    obtain ⟨h1, h2, h3, h4⟩ := h2;refine ⟨?_, fun _ => h2, fun _ => h3, fun _ => ?_, heq⟩
    · unfold Ry at h1
      cases hq : i.k <;> rw [hq] at h1 <;> dsimp only at h1 ⊢
      all_goals first
        | trivial
        | (split at h1
           · rename_i hu
             first
               | (simp only [decide_eq_true_eq] at h1;subst h1;exact hu)
               | exact hu
               | exact ⟨_, hu⟩
               | exact ⟨_, _, _, hu⟩
               | (simp only [beq_iff_eq] at h1;subst h1;exact hu)
               | (simp only [Z8, beq_iff_eq] at h1;obtain ⟨rfl, rfl⟩ := h1;exact hu)
               | (simp only [decide_eq_true_eq] at h1;exact ⟨_, hu, h1⟩)
           · cases h1)
    · split at h4
      · rename_i z hz
        simp only [Z8, beq_iff_eq, Zu] at h4;refine ⟨z, hz, h4.1.1.1, Nk h4.2, h4.1.1.2, fun c hc => ?_⟩;have := h4.1.2 c hc;exact this
      · cases h4
theorem yL:∀ (l:List (List TyI)) (n:Nat),l.length<=n->Ih l n=[]
 | [],_,_=>rfl
 | _::_,0,h=>by simp at h
 | _::l,n+1,h=>yL l n (by simpa using h)
theorem VM:(List.range (16*BQ.length)).all (fun t=>tyB Y.X.P t (Y.ty t))=true:=aE
section
variable {F:Nat->Prop} {H:AH}
theorem xN:∀ {l:List D} {xs:List Value},lits l=some xs->(∀ v∈xs,okZ v)∧∀ ws,RDs F H l ws->ws=xs
 | [],xs,h=>by
  simp only [lits,Z9] at h;subst h;exact ⟨fun v hv=>(by cases hv),fun ws hw=>by simpa only [RDs] using hw⟩
 | x::l,xs,h=>by
  unfold lits at h;split at h
  ·rename_i k n r hr;simp only [Z9] at h;subst h;obtain ⟨q1,q2⟩:=xN hr;refine ⟨fun v hv=>?_,fun ws hw=>?_⟩
   ·rcases Zt.1 hv with rfl | hv
    ·exact ⟨rfl,rfl⟩
    ·exact q1 v hv
   ·simp only [RDs,RD] at hw;obtain ⟨v,us,rfl,rfl,h2⟩:=hw;rw [q2 us h2]
  ·rename_i s r hr;simp only [Z9] at h;subst h;obtain ⟨q1,q2⟩:=xN hr;refine ⟨fun v hv=>?_,fun ws hw=>?_⟩
   ·rcases Zt.1 hv with rfl | hv
    ·exact ⟨rfl,rfl⟩
    ·exact q1 v hv
   ·simp only [RDs,RD] at hw;obtain ⟨v,us,rfl,rfl,h2⟩:=hw;rw [q2 us h2]
  ·cases h
theorem PX {p:D} {k:Nat} {l:List D} {xs:List Value} (h:slD p=some (k,l)) (hl:lits l=some xs) (hk:xs.length=k) {w:Value} (hw:RD F H p w):oU H 1 w=some (k,xs):=by
 obtain ⟨q1,q2⟩:=xN (F:=F) (H:=H) hl;unfold slD at h;split at h
 ·rename_i n l';simp only [Z9,Z6] at h;obtain ⟨rfl,rfl⟩:=h;simp only [RD] at hw;rcases hw with ⟨rfl,rfl,h3⟩ | ⟨c,o,cap,vs,m,rfl,h1,h2,h3,h4,h5,h6,h7,h8⟩
  ·simp only [lits,Z9] at hl;subst hl;rcases h3 with rfl | ⟨c,o,cap,rfl,_⟩
   ·rfl
   ·simp [oU]
  ·have e:=q2 vs h7;subst e
   have hl:l'.length=n:=by
    rw [<- hk,Oq h6]
   simp only [oU,Yb];rw [if_neg aa,<- hl,h6];simp
 ·simp only [Z9,Z6] at h;obtain ⟨rfl,rfl⟩:=h;simp only [lits,Z9] at hl;subst hl;simp only [RD] at hw;obtain ⟨rfl,_⟩:=hw;rfl
 ·cases h
theorem PW {p:D} {k:Nat} {l:List D} (h:slD p=some (k,l)) {w:Value} (hw:RD F H p w):LF w=true:=by
 unfold slD at h;split at h
 ·rename_i n l';simp only [RD] at hw;rcases hw with ⟨_,_,h3⟩ | ⟨c,o,cap,vs,m,rfl,_⟩
  ·rcases h3 with rfl | ⟨c,o,cap,rfl,_⟩ <;> rfl
  ·rfl
 ·simp only [RD] at hw;obtain ⟨rfl,_⟩:=hw;rfl
 ·cases h
theorem A3 {p q:D} {xs:List (List Value)} (h:HJ p q=some xs):(∀ z∈xs,∀ v∈z,okZ v)∧∀ v w,RD F H p v->RD F H q w->HI H v w=some xs:=by
 unfold HJ at h;split at h
 case h_2=>cases h
 rename_i k l k' m hp hq;split at h
 case h_2=>cases h
 rename_i us vs hl hm;split at h
 case isFalse=>cases h
 rename_i hc;simp only [Z9] at h;subst h;have o1:=(xN (F:=F) (H:=H) hl).1;have o2:=(xN (F:=F) (H:=H) hm).1;refine ⟨fun z hz v hv=>?_,fun v w hv hw=>?_⟩
 ·obtain ⟨⟨a,b⟩,hab,rfl⟩:=Zi.1 hz;have:=Wu hab;simp only [Zt,Zf,or_false] at hv;rcases hv with rfl | rfl
  ·exact o1 _ this.1
  ·exact o2 _ this.2
 ·unfold HI;rw [PX hp hl hc.2.1 hv,PX hq hm (hc.2.2.1.trans hc.1) hw];have c1:(us.all fun v=>plain v && okCell v)=true:=Zu.2 fun x hx=>by have:=o1 x hx;simp [this.1,this.2]
  have c2:(vs.all fun v=>plain v && okCell v)=true:=Zu.2 fun x hx=>by have:=o2 x hx;simp [this.1,this.2]
  exact if_pos ⟨hc.1,hc.2.1,hc.2.2.1,hc.2.2.2,by rw [PW hp hv,PW hq hw];rfl,c1,c2⟩
end
theorem yOk:YOk Y where
 seq gf cs xs h0:=by
  have h:VU gf cs=some xs:=h0;clear h0;unfold VU at h;split at h
  ·rename_i hg;split at h
   ·rename_i p q d;refine ⟨(A3 (F:=fun _=>True) (H:=⟨0,[]⟩) h).1,fun φ F H hp lb hr=>?_⟩;simp only [RVs,RV] at hr;obtain ⟨v,_,rfl,⟨c,o,vs,rfl,hF,hrd,hd⟩,rfl⟩:=hr;simp only [RDs] at hd;obtain ⟨v1,_,rfl,d1,v2,_,rfl,d2,v3,_,rfl,d3,rfl⟩:=hd;rw [show ([p,q,d]:List D).length=3 from rfl] at hrd;refine ⟨?_,fun F' H' hl=>?_⟩
    ·rw [show Y.X.seq=Cg from rfl];unfold Cg;rw [hg];simp only [Nat.add_zero];rw [hrd];exact (A3 h).2 _ _ d1 d2
    ·rw [show Y.X.seqK=IG from rfl];simp only [IG,Nat.add_zero];rw [nm (hl.keep c hF)]
   ·cases h
  ·rename_i hg;split at h
   ·rename_i hg2;split at h
    ·rename_i p q;refine ⟨(A3 (F:=fun _=>True) (H:=⟨0,[]⟩) h).1,fun φ F H hp lb hr=>?_⟩;simp only [RVs,RV] at hr;obtain ⟨v,_,rfl,⟨c,o,vs,rfl,hF,hrd,hd⟩,v',_,rfl,⟨c',o',vs',rfl,hF',hrd',hd'⟩,rfl⟩:=hr;simp only [RDs] at hd hd';obtain ⟨v1,_,rfl,d1,rfl⟩:=hd;obtain ⟨v2,_,rfl,d2,rfl⟩:=hd';rw [show ([p]:List D).length=1 from rfl] at hrd;rw [show ([q]:List D).length=1 from rfl] at hrd'
     refine ⟨?_,fun F' H' hl=>?_⟩
     ·rw [show Y.X.seq=Cg from rfl];unfold Cg;rw [hg,hg2];simp only [Nat.add_zero];rw [hrd,hrd'];exact (A3 h).2 _ _ d1 d2
     ·rw [show Y.X.seqK=IG from rfl];simp only [IG,Nat.add_zero];rw [nm (hl.keep c hF),nm (hl.keep c' hF')]
    ·cases h
   ·cases h
 ty t:=by
  by_cases ht:t<16*BQ.length
  ·exact Mi (Zu.1 VM t (Xj.2 ht))
  ·refine Mi ?_
   have:(Y.ty t).k=.o:=by
    show (Tg (Ih BQ (t / 16)) (t % 16)).k=.o
    have h2:∀ t n:Nat,¬ t<16*n->n<=t / 16:=fun t n hn=>by omega
    rw [yL BQ (t / 16) (h2 t _ ht)];rfl
   have h2:(Y.ty t).eq=false:=by
    show (Tg (Ih BQ (t / 16)) (t % 16)).eq=false
    have h2:∀ t n:Nat,¬ t<16*n->n<=t / 16:=fun t n hn=>by omega
    rw [yL BQ (t / 16) (h2 t _ ht)];rfl
   unfold tyB;rw [this,h2];rfl
end Go.Vm
namespace Go.Vm
open Go Go.Am
theorem aa0 {x:Prop} {o:Option V} {k k':V->Prop} (h1:x=bnd o k) (h:∀ v,k v=k' v):x=bnd o k':=by rw [h1,funext h]
theorem aaH {x:Prop} {o:V} {i:Nat} {k k':V->Prop} (h1:x=ext o i k) (h:∀ v,k v=k' v):x=ext o i k':=by rw [h1,funext h]
theorem WE {x:Prop} {a b:V} {h0:Hp} {op:BinOp} {k k':V->Prop} (h1:x=GR h0 op a b k) (h:∀ v,k v=k' v):x=GR h0 op a b k':=by rw [h1,funext h]
theorem uB {x:Prop} {T:(V->Hp->Prop)->Prop} {k k':V->Hp->Prop} (h1:x=T k) (h:∀ v h,k v h=k' v h):x=T k':=by
 rw [h1,show k=k' from funext fun v=>funext fun y=>h v y]
theorem aaV {x:Prop} {C:pG} {h0:Hp} {f:V} {a:List V} {k k':V->Hp->Prop} (h1:x=cal C h0 f a k) (h:∀ v h,k v h=k' v h):x=cal C h0 f a k':=uB h1 h
theorem aaX {x:Prop} {C:pF} {h0:Hp} {f:V} {a:List V} {s:Nat} {k k':V->Hp->Prop} (h1:x=cai C h0 f a s k) (h:∀ v h,k v h=k' v h):x=cai C h0 f a s k':=uB h1 h
theorem aa7 {x:Prop} {s:Nat} {cs:List V} {h0:Hp} {k k':V->Hp->Prop} (h1:x=alV s cs h0 k) (h:∀ v h,k v h=k' v h):x=alV s cs h0 k':=uB h1 h
theorem aa8 {x:Prop} {s n:Nat} {cs:List D} {h0:Hp} {k k':V->Hp->Prop} (h1:x=alD s n cs h0 k) (h:∀ v h,k v h=k' v h):x=alD s n cs h0 k':=uB h1 h
theorem XY {x:Prop} {s:Nat} {v0:V} {h0:Hp} {k k':V->Hp->Prop} (h1:x=iR s v0 h0 k) (h:∀ v h,k v h=k' v h):x=iR s v0 h0 k':=uB h1 h
theorem WO {x:Prop} {n:Nat} {z:List D} {ps:List (Nat × V)} {h0:Hp} {k k':V->Hp->Prop} (h1:x=dW n z ps h0 k) (h:∀ v h,k v h=k' v h):x=dW n z ps h0 k':=uB h1 h
theorem WN {x:Prop} {s n:Nat} {z:List D} {ps:List (Nat × V)} {h0:Hp} {k k':V->Hp->Prop} (h1:x=En s n z ps h0 k) (h:∀ v h,k v h=k' v h):x=En s n z ps h0 k':=uB h1 h
theorem aap {x:Prop} {s n:Nat} {z:List D} {h0:Hp} {a b:V} {k k':V->Hp->Prop} (h1:x=mkS s n z h0 a b k) (h:∀ v h,k v h=k' v h):x=mkS s n z h0 a b k':=uB h1 h
theorem ZT {x:Prop} {n:Nat} {h0:Hp} {a b:V} {k k':V->Hp->Prop} (h1:x=stD h0 n a b k) (h:∀ v h,k v h=k' v h):x=stD h0 n a b k':=uB h1 h
theorem aa6 {x:Prop} {dr:Bool} {s n m:Nat} {h0:Hp} {a b:V} {k k':V->Hp->Prop} (h1:x=apV dr s n m a b h0 k) (h:∀ v h,k v h=k' v h):x=apV dr s n m a b h0 k':=uB h1 h
theorem acQ {x:Prop} {c:V} {w:Bool} {h0:Hp} {T:(V->Hp->Prop)->Prop} {k k':V->Hp->Prop} (h1:x=gd c w h0 T k) (h:∀ v h,k v h=k' v h):x=gd c w h0 T k':=uB h1 h
theorem aaS {x:Prop} {c:V} {A A' B B':Prop} (h1:x=cnd c A B) (ha:A=A') (hb:B=B'):x=cnd c A' B':=by rw [h1,ha,hb]
theorem acI {x:Prop} {k k':List V->Hp->Prop} {T T':(List V->Hp->Prop)->Prop} (h1:x=jn k T) (hk:∀ l h,k l h=k' l h) (hT:∀ q,T q=T' q):x=jn k' T':=by
 rw [h1,show k=k' from funext fun v=>funext fun y=>hk v y,show T=T' from funext hT]
theorem acE {x:Prop} {s s':aQ} {clr:List Nat} {h0 h2:Hp} {l:List V} {k k':KL} (h1:x=lp s clr h0 l h2 k) (hs:∀ l h q,s l h q=s' l h q) (hk:∀ ex l h,k ex l h=k' ex l h):x=lp s' clr h0 l h2 k':=by
 rw [h1,show s=s' from funext fun a=>funext fun b=>funext fun c=>hs a b c,show k=k' from funext fun a=>funext fun b=>funext fun c=>hk a b c]
theorem aaI {x:Prop} {e ex:Exit} {q q':List V->Hp->Prop} {r r':List (Exit × (List V->Hp->Prop))} {l:List V} {h:Hp} (h1:x=exK ((e,q)::r) ex l h) (hq:∀ l h,q l h=q' l h) (hr:exK r ex l h=exK r' ex l h):x=exK ((e,q')::r') ex l h:=by
 rw [h1,show q=q' from funext fun v=>funext fun y=>hq v y];simp only [exK];split
 ·rfl
 ·exact hr
theorem WP {x y:Prop} {v:V} {k:V->Prop} (h1:x=bnd (some v) k) (h2:k v=y):x=y:=h1.trans h2
noncomputable def gl (g:Nat):V:=match Y.glob g with
 | some cs=>.dptr cs 0
 | none=>.junk
end Go.Vm
