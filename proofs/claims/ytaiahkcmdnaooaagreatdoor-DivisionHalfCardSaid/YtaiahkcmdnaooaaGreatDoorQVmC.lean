/- The types of the program, as far as they matter: a table. Printed by gen.py. -/
import Derived.Test.YtaiahkcmdnaooaaGreatDoorQVmA
import Derived.Test.YtaiahkcmdnaooaaGreatDoorQVmB
import Derived.Test.YtaiahkcmdnaooaaGreatDoorProg
set_option linter.unusedVariables false
set_option linter.unusedSimpArgs false
namespace Go.Vm
open Go Go.Am
abbrev aj:TyI:=⟨.f,1,8,[.pl .nilFunc],false⟩
abbrev iv:TyI:=⟨.o,1,0,[],false⟩
abbrev DI:TyI:=⟨.p,1,8,[.pl (.pointer none)],false⟩
abbrev K5:TyI:=⟨.i .i64,1,8,[.int .i64 0],false⟩
abbrev K4:TyI:=⟨.i .u8,1,1,[.int .u8 0],false⟩
abbrev K3:TyI:=⟨.s,1,16,[.str []],false⟩
abbrev OM:TyI:=⟨.i .u64,1,8,[.int .u64 0],false⟩
abbrev OL:TyI:=⟨.it,1,16,[.pl .nilIface],false⟩
abbrev OK:TyI:=⟨.i .i32,1,4,[.int .i32 0],false⟩
abbrev OJ:TyI:=⟨.sl 3,1,24,[.pl (.slice none 0 0)],false⟩
abbrev OY:TyI:=⟨.st [(0,1),(1,1),(2,1),(3,1)],4,24,[.int .i64 0,.int .i64 0,.bool false,.int .u8 0],false⟩
abbrev OX:TyI:=⟨.st [(0,1),(1,1)],2,24,[.str [],.int .u64 0],false⟩
abbrev OW:TyI:=⟨.st [(0,1)],1,8,[.pl (.pointer none)],false⟩
abbrev OV:TyI:=⟨.sl 56,1,24,[.pl (.slice none 0 0)],false⟩
abbrev OU:TyI:=⟨.ar 4 41,8,8,[.int .i8 0,.int .u8 0,.int .i8 0,.int .u8 0,.int .i8 0,.int .u8 0,.int .i8 0,.int .u8 0],false⟩
abbrev OT:TyI:=⟨.st [(0,1),(1,1)],2,32,[.int .u8 0,.pl (.slice none 0 0)],false⟩
abbrev OS:TyI:=⟨.st [(0,1),(1,1),(2,1)],3,40,[.int .i64 0,.int .i64 0,.pl (.slice none 0 0)],false⟩
abbrev OR:TyI:=⟨.st [(0,1),(1,1),(2,1)],3,64,[.pl (.slice none 0 0),.pl (.slice none 0 0),.str []],false⟩
abbrev OQ:TyI:=⟨.sl 199,1,24,[.pl (.slice none 0 0)],false⟩
abbrev OP:TyI:=⟨.st [(0,1),(1,1),(2,1)],3,48,[.str [],.str [],.pl .nilIface],false⟩
abbrev OO:TyI:=⟨.st [(0,1),(1,1),(2,1),(3,1)],4,40,[.pl (.pointer none),.pl (.pointer none),.pl (.pointer none),.str []],false⟩
abbrev ON:TyI:=⟨.st [(0,1),(1,1),(2,1),(3,1),(4,1),(5,1),(6,1),(7,1),(8,1),(9,1),(10,1)],11,48,[.int .u64 0,.int .u64 0,.int .u32 0,.int .u8 0,.int .u8 0,.int .u8 0,.int .u8 0,.pl .nilFunc,.pl (.pointer none),.int .i32 0,.int .i32 0],false⟩
abbrev slQ(n:Nat):TyI:=⟨.sl n,1,24,[.pl (.slice none 0 0)],false⟩
def aaW:List TyI:=[
 iv,aj,K5,K5,⟨.b,1,1,[.bool false],false⟩,K4,K4,OY,OY,K3,K3,K3,OM,OX,OX,DI]
def aaV:List TyI:=[
 DI,DI,OW,OW,OL,OK,⟨.i .i8,1,1,[.int .i8 0],false⟩,⟨.ar 4 22,4,4,[.int .i8 0,.int .i8 0,.int .i8 0,.int .i8 0],false⟩,aj,OJ,OJ,aj,OJ,aj,K5,iv]
def aaU:List TyI:=[
 aj,OV,OV,aj,iv,aj,aj,aj,⟨.st [(0,1),(1,1)],2,2,[.int .i8 0,.int .u8 0],false⟩,⟨.st [(0,1),(1,1)],2,2,[.int .i8 0,.int .u8 0],true⟩,OU,OU,⟨.i .u16,1,2,[.int .u16 0],false⟩,aj,iv,aj]
def aaT:List TyI:=[
 K3,iv,aj,aj,aj,aj,aj,⟨.st [(0,1),(1,1)],2,32,[.str [],.str []],false⟩,⟨.st [(0,1),(1,1)],2,32,[.str [],.str []],true⟩,aj,aj,slQ 23,OT,OT,⟨.st [(0,1),(1,1),(2,1)],3,3,[.int .u8 0,.int .u8 0,.int .u8 0],false⟩,⟨.st [(0,1),(1,1),(2,1)],3,3,[.int .u8 0,.int .u8 0,.int .u8 0],true⟩]
def aaS:List TyI:=[
 slQ 28,iv,aj,aj,aj,aj,OS,OS,aj,iv,aj,aj,aj,aj,iv,aj]
def aaR:List TyI:=[
 slQ 34,iv,aj,aj,aj,aj,aj,aj,aj,aj,aj,aj,aj,aj,iv,aj]
def aaQ:List TyI:=[
 aj,aj,⟨.st [(0,1),(1,1),(2,1)],3,24,[.int .i64 0,.int .i64 0,.int .i64 0],false⟩,⟨.st [(0,1),(1,1),(2,1)],3,24,[.int .i64 0,.int .i64 0,.int .i64 0],true⟩,iv,aj,iv,aj,aj,aj,aj,slQ 26,aj,aj,aj,aj]
def aaP:List TyI:=[
 aj,aj,aj,aj,aj,aj,aj,aj,aj,aj,iv,aj,aj,aj,aj,aj]
def aaO:List TyI:=[
 aj,slQ 48,OR,OR,aj,aj,aj,aj,aj,aj,aj,aj,aj,aj,iv,aj]
def aaN:List TyI:=[
 aj,aj,iv,aj,aj,aj,aj,aj,iv,aj,aj,aj,iv,aj,aj,aj]
def XA:List TyI:=[
 iv,aj,aj,aj,aj,aj,aj,aj,aj,aj,aj,iv,aj,aj,aj,aj]
def WZ:List TyI:=[
 aj,aj,aj,aj,aj,iv,aj,aj,aj,aj,aj,aj,aj,aj,aj,aj]
def WY:List TyI:=[
 aj,aj,aj,OL,OL,iv,aj,OM,iv,aj,aj,OQ,OQ,aj,aj,aj]
def WX:List TyI:=[
 aj,aj,aj,OM,aj,aj,aj,aj,iv,aj,aj,aj,iv,aj,aj,iv]
def WW:List TyI:=[
 aj,iv,aj,aj,aj,aj,iv,aj,aj,slQ 5,aj,aj,iv,aj,aj,aj]
def WV:List TyI:=[
 ⟨.ar 24 5,24,24,List.replicate 24 (.int .u8 0),false⟩,aj,aj,iv,aj,K5,DI,aj,aj,iv,aj,aj,⟨.i .u32,1,4,[.int .u32 0],false⟩,aj,aj,⟨.ar 20 199,20,160,List.replicate 20 (.int .u64 0),false⟩]
def WU:List TyI:=[
 ⟨.ar 65 5,65,65,List.replicate 65 (.int .u8 0),false⟩,aj,OP,OP,aj,aj,aj,DI,DI,⟨.st [(0,1)],1,16,[.str []],false⟩,⟨.st [(0,1)],1,16,[.str []],false⟩,⟨.ar 32 5,32,32,List.replicate 32 (.int .u8 0),false⟩,⟨.ar 64 5,64,64,List.replicate 64 (.int .u8 0),false⟩,aj,OO,OO]
def WT:List TyI:=[
 ⟨.ar 0 16,0,0,[],false⟩,⟨.st [(0,0)],0,0,[],false⟩,⟨.st [(0,0)],0,0,[],false⟩,K4,K4,aj,OK,OK,ON,ON,⟨.o,1,8,[.pl (.pointer none)],false⟩]
def Az:List (List TyI):=[aaW,aaV,aaU,aaT,aaS,aaR,aaQ,aaP,aaO,aaN,XA,WZ,WY,WX,WW,WV,WU,WT]
def VL:List Nat:=[0,1,222,223,224,225,226,227,228,229,230,231,232,233,234,235,236,237,238,239,240,241,242,243,244,245,246,247]
def k8:Nat:=0
namespace F
def bO:FuncId:=8
def bz:FuncId:=9
def bW:FuncId:=13
def dM:FuncId:=14
def cV:FuncId:=15
def fD:FuncId:=16
def iE:FuncId:=18
def dR:FuncId:=19
def j6:FuncId:=22
def nz:FuncId:=25
def fS:FuncId:=26
def fv:FuncId:=27
def kz:FuncId:=28
def eN:FuncId:=29
def ky:FuncId:=30
def bB:FuncId:=31
def eO:FuncId:=35
def uu:FuncId:=36
def dD:FuncId:=37
def nU:FuncId:=38
def pD:FuncId:=39
def mD:FuncId:=40
def qM:FuncId:=41
def mC:FuncId:=42
def il:FuncId:=43
def mA:FuncId:=44
def nh:FuncId:=45
def fw:FuncId:=46
def dF:FuncId:=47
def b6:FuncId:=51
def dp:FuncId:=53
def iM:FuncId:=55
def j5:FuncId:=56
def j4:FuncId:=57
def gU:FuncId:=58
def kV:FuncId:=59
def cw:FuncId:=60
def fP:FuncId:=62
def gY:FuncId:=63
def fB:FuncId:=65
def jm:FuncId:=66
def fu:FuncId:=67
def kw:FuncId:=68
def bN:FuncId:=69
def md:FuncId:=70
def iF:FuncId:=71
def aN:FuncId:=72
def kN:FuncId:=73
def cD:FuncId:=74
def me:FuncId:=75
def o9:FuncId:=79
def fC:FuncId:=80
def fG:FuncId:=81
def dZ:FuncId:=82
def pF:FuncId:=83
def kU:FuncId:=84
def oJ:FuncId:=85
def jF:FuncId:=86
def dG:FuncId:=87
def kY:FuncId:=88
def jW:FuncId:=89
def uj:FuncId:=90
def pC:FuncId:=91
def iA:FuncId:=92
def cr:FuncId:=93
def aH:FuncId:=94
def lz:FuncId:=97
def gV:FuncId:=100
def jg:FuncId:=101
def jB:FuncId:=102
def gK:FuncId:=104
def gJ:FuncId:=105
def mb:FuncId:=106
def ik:FuncId:=107
def dV:FuncId:=108
def cM:FuncId:=109
def bq:FuncId:=110
def iy:FuncId:=111
def aQ:FuncId:=112
def aF:FuncId:=113
def gm:FuncId:=114
def fO:FuncId:=115
def mB:FuncId:=116
def lf:FuncId:=117
def mL:FuncId:=119
def A3:FuncId:=120
def nA:FuncId:=121
def mq:FuncId:=122
def ft:FuncId:=123
def strconv_Itoa:FuncId:=124
def aU:FuncId:=125
def kX:FuncId:=126
def bm:FuncId:=127
def aO:FuncId:=128
def bV:FuncId:=129
def hO:FuncId:=130
def bR:FuncId:=131
def iO:FuncId:=132
def iP:FuncId:=133
def kx:FuncId:=138
def dX:FuncId:=139
def gX:FuncId:=140
def aW:FuncId:=141
def jE:FuncId:=142
def cJ:FuncId:=143
def iB:FuncId:=144
def eH:FuncId:=145
def eM:FuncId:=146
def pB:FuncId:=147
def eV:FuncId:=148
def aR:FuncId:=149
def kv:FuncId:=150
def mr:FuncId:=151
def aK:FuncId:=152
def ig:FuncId:=153
def u7:FuncId:=154
def kR:FuncId:=155
def ib:FuncId:=156
def ji:FuncId:=157
def bu:FuncId:=158
def strconv_Atoi:FuncId:=159
def eU:FuncId:=160
def im:FuncId:=161
def cj:FuncId:=162
def b9:FuncId:=163
def aA:FuncId:=164
def aL:FuncId:=165
def cU:FuncId:=166
def bc:FuncId:=167
def rM:FuncId:=170
def fj:FuncId:=171
def j3:FuncId:=172
def o8:FuncId:=173
def fp:FuncId:=174
def cZ:FuncId:=175
def iC:FuncId:=176
def size_digits:FuncId:=177
def bS:FuncId:=178
def ci:FuncId:=179
def dS:FuncId:=180
def iX:FuncId:=181
def oX:FuncId:=182
def kS:FuncId:=183
def a6:FuncId:=184
def cT:FuncId:=185
def fN:FuncId:=186
def za:FuncId:=187
def gZ:FuncId:=188
def fq:FuncId:=189
def bG:FuncId:=190
def iS:FuncId:=191
def fe:FuncId:=192
def vK:FuncId:=193
def hH:FuncId:=194
def gS:FuncId:=195
def bM:FuncId:=196
def gj:FuncId:=197
def gv:FuncId:=198
def cS:FuncId:=199
def bE:FuncId:=200
def nY:FuncId:=201
def eJ:FuncId:=206
def dz:FuncId:=207
def sL:FuncId:=208
def d8:FuncId:=209
def jJ:FuncId:=211
def eZ:FuncId:=212
def fc:FuncId:=213
end F
end Go.Vm
namespace Go.Vm
open Go Go.Am
noncomputable section
def RP:List TyI->Nat->TyI
 | [],_=>⟨.o,0,0,[],false⟩
 | x::_,0=>x
 | _::l,n+1=>RP l n
def GN:List (List TyI)->Nat->List TyI
 | [],_=>[]
 | x::_,0=>x
 | _::l,n+1=>GN l n
def m7:Nat->List UInt8->Nat
 | a,[]=>a
 | a,c::l=>m7 (a*10+(c.toNat-48)) l
def mi (c:UInt8):Bool:=Nat.ble 48 c.toNat && Nat.ble c.toNat 57
def Hy:List Value->Option Value
 | [.string s,.int .i64 a,.int .i64 b]=>if a=10∧b=64∧s.data.toList≠[]∧s.data.toList.all mi=true∧s.data.toList.length<=1000∧m7 0 s.data.toList<10000000000000000000 then some (.tuple #[.int .u64 (m7 0 s.data.toList),.nilIface]) else none
 | _=>none
def Lh:List Value->Option Value
 | [.string s,.int .i64 a,.int .i64 b]=>if a=10∧b=64 then (match s.data.toList with
  | 45::l=>if l≠[]∧l.all mi=true∧l.length<=1000∧m7 0 l<9223372036854775808 then some (.tuple #[.int .i64 (-(m7 0 l:Int)),.nilIface]) else none
  | l=>if l≠[]∧l.all mi=true∧l.length<=1000∧m7 0 l<9223372036854775808 then some (.tuple #[.int .i64 (m7 0 l),.nilIface]) else none) else none
 | _=>none
def J7:Value->Bool
 | .slice ..=>true
 | _=>false
def Gk (H:AH) (p q:Value):Option (List (List Value)):=match nS H 1 p,nS H 1 q with
 | some (k,xs),some (k',ys)=>if k=k'∧xs.length=k∧ys.length=k∧k<4611686018427387904∧(J7 p && J7 q)=true∧(xs.all fun v=>plain v && okCell v)=true∧(ys.all fun v=>plain v && okCell v)=true then some ((xs.zip ys).map fun x=>[x.1,x.2]) else none
 | _,_=>none
def AW (f:FuncId) (lb:List Value) (H:AH):Option (List (List Value)):=match Nat.beq f F.cZ with
 | true=>match lb with
  | [.pointer (some ⟨b,o,none⟩)]=>match bK H b o 3 with
   | some [p,q,_]=>Gk H p q
   | _=>none
  | _=>none
 | false=>match Nat.beq f F.rM with
  | true=>match lb with
   | [.pointer (some ⟨b,o,none⟩),.pointer (some ⟨b',o',none⟩)]=>match bK H b o 1,bK H b' o' 1 with
    | some [p],some [q]=>Gk H p q
    | _,_=>none
   | _=>none
  | false=>none
def G9 (f:FuncId) (lb:List Value) (H:AH):List Value:=match lb with
 | [.pointer (some ⟨b,o,none⟩)]=>(bK H b o 3).getD []
 | [.pointer (some ⟨b,o,none⟩),.pointer (some ⟨b',o',none⟩)]=>(bK H b o 1).getD []++(bK H b' o' 1).getD []
 | _=>[]
def lits:List D->Option (List Value)
 | []=>some []
 | x::l=>match x,lits l with
  | .int k n,some r=>some (.int k n::r)
  | .str s,some r=>some (.string ⟨⟨s⟩⟩::r)
  | _,_=>none
def slD:D->Option (Nat × List D)
 | .sl n l=>some (n,l)
 | .pl (.slice none 0 0)=>some (0,[])
 | _=>none
def Ms (p q:D):Option (List (List Value)):=match slD p,slD q with
 | some (k,l),some (k',m)=>match lits l,lits m with
  | some xs,some ys=>if k=k'∧xs.length=k∧ys.length=k∧k<4611686018427387904 then some ((xs.zip ys).map fun x=>[x.1,x.2]) else none
  | _,_=>none
 | _,_=>none
def UO (f:FuncId) (cs:List V):Option (List (List Value)):=match Nat.beq f F.cZ with
 | true=>match cs with
  | [.dptr [p,q,_] 0]=>Ms p q
  | _=>none
 | false=>match Nat.beq f F.rM with
  | true=>match cs with
   | [.dptr [p] 0,.dptr [q] 0]=>Ms p q
   | _=>none
  | false=>none
def X:Cfg:={ P:=Go.Proofs.Tryz.prog,allow:=eh VL,glob:=fun g=>Nat.beq g k8,orc:=fun f args=>(match Nat.beq f F.eJ with
 | true=>Hy args
 | false=>match Nat.beq f F.fp with
  | true=>Lh args
  | false=>none),seq:=AW,seqK:=G9 }
def HA:List D:=[.int .u64 1,.int .u64 10,.int .u64 100,.int .u64 1000,.int .u64 10000,.int .u64 100000,.int .u64 1000000,.int .u64 10000000,.int .u64 100000000,.int .u64 1000000000,.int .u64 10000000000,.int .u64 100000000000,
 .int .u64 1000000000000,.int .u64 10000000000000,.int .u64 100000000000000,.int .u64 1000000000000000,.int .u64 10000000000000000,.int .u64 100000000000000000,.int .u64 1000000000000000000,.int .u64 10000000000000000000]
def Y:jt:={ X:=X,ty:=fun t=>RP (GN Az (t / 16)) (t % 16),glob:=fun g=>(match Nat.beq g k8 with
 | true=>some HA
 | false=>none),seq:=UO }
end
end Go.Vm
set_option maxRecDepth 100000
namespace Go.Vm
open Go Go.Am
def Vx:Value->Value->Bool
 | .pointer none,.pointer none=>true
 | .slice none a b,.slice none c d=>a == c && b == d
 | .nilFunc,.nilFunc=>true
 | .nilIface,.nilIface=>true
 | .map none,.map none=>true
 | .chan none,.chan none=>true
 | _,_=>false
theorem S7 {x y:Value} (h:Vx x y=true):x=y:=by
 unfold Vx at h;split at h <;> first | rfl | (simp at h;obtain ⟨rfl,rfl⟩:=h;rfl) | cases h
def Vy:D->D->Bool
 | .int k a,.int l b=>decide (k=l) && decide (a=b)
 | .bool a,.bool b=>a == b
 | .str a,.str b=>a == b
 | .pl a,.pl b=>Vx a b
 | _,_=>false
theorem S8 {x y:D} (h:Vy x y=true):x=y:=by
 unfold Vy at h;split at h
 ·simp at h;obtain ⟨rfl,rfl⟩:=h;rfl
 ·simp at h;subst h;rfl
 ·simp at h;subst h;rfl
 ·rw [S7 h]
 ·cases h
def QF:List D->List D->Bool
 | [],[]=>true
 | x::l,y::m=>Vy x y && QF l m
 | _,_=>false
theorem LJ:∀ {l m:List D},QF l m=true->l=m
 | [],[],_=>rfl
 | x::l,y::m,h=>by
  simp only [QF,Z8] at h;rw [S8 h.1,LJ h.2]
 | [],_::_,h=>by cases h
 | _::_,[],h=>by cases h
def Qa (P:Program) (t:TypeId) (k:Ty):Bool:=match k with
 | .i k=>match P.underlying t with | some (.int k')=>decide (k'=k) | _=>false
 | .b=>match P.underlying t with | some .bool=>true | _=>false
 | .s=>match P.underlying t with | some .string=>true | _=>false
 | .p=>match P.underlying t with | some (.pointer _)=>true | _=>false
 | .f=>match P.underlying t with | some (.func ..)=>true | _=>false
 | .it=>match P.underlying t with | some (.interface _)=>true | _=>false
 | .sl e=>match P.underlying t with | some (.slice e')=>e' == e | _=>false
 | .ar n e=>match P.underlying t with | some (.array n' e')=>n' == n && e' == e | _=>false
 | .st fs=>match P.underlying t with | some (.struct gs)=>decide (gs.toList.map (fun f=>(f.offset,szO P f.type))=fs.map fun p=>(p.1,some p.2)) | _=>false
 | .o=>true
def J5 (P:Program) (t:TypeId):D->Bool
 | .int _ _=>match P.underlying t with | some (.int _)=>true | _=>false
 | .bool _=>match P.underlying t with | some .bool=>true | _=>false
 | .str _=>match P.underlying t with | some .string=>true | _=>false
 | _=>false
theorem Nf {P:Program} {t:TypeId} {d:D} (h:J5 P t d=true):Lz P t d:=by
 unfold J5 at h;split at h
 ·split at h
  ·rename_i hu;exact ⟨_,hu⟩
  ·cases h
 ·split at h
  ·rename_i hu;exact hu
  ·cases h
 ·split at h
  ·rename_i hu;exact hu
  ·cases h
 ·cases h
def Qx (P:Program) (t:TypeId) (z:List D):Bool:=match P.underlying t with
 | some (.struct gs) => !P.stoodInHeld t && !P.eqGuardType P.depth t && decide (gs.size = z.length) && (gs.toList.zipIdx.zip z).all fun x => x.1.1.offset == x.1.2 && x.1.1.name != "_" && J5 P x.1.1.type x.2
 | _=>false
theorem Qw {P:Program} {t:TypeId} {z:List D} (h:Qx P t z=true):Gj P t z:=by
 unfold Qx at h;split at h
 ·rename_i gs hu;simp only [Z8,Y5,decide_eq_true_eq,Zu] at h;obtain ⟨⟨⟨h1,h2⟩,h3⟩,h4⟩:=h;refine ⟨gs,hu,h1,h2,h3,fun i f d hf hd=>?_⟩
  have:=h4 ((f,i),d) (by
   apply Ym (i:=i);rw [List.getElem?_zip_eq_some];exact ⟨by rw [List.getElem?_zipIdx,hf];simp,hd⟩)
  simp only [beq_iff_eq,bne_iff_ne] at this;exact ⟨this.1.1,this.1.2,Nf this.2⟩
 ·cases h
def tyB (P:Program) (t:TypeId) (i:TyI):Bool:=(!i.eq || Qx P t i.z) && match i.k with
 | .o=>true
 | k=>Qa P t k && decide (szO P t=some i.sz) && decide (oo P t=some i.bytes) && match gR P t with
  | some z=>plain z && z.cells.size == i.sz && (z.cells.toList.all fun c=>plain c && okCell c) && QF (z.cells.toList.map ii) i.z
  | none=>false
theorem KN {P : Program} {t : TypeId} {i : TyI} (h : tyB P t i = true) : Cl P t i := by
  unfold tyB at h;rw [Z8] at h;obtain ⟨h0, h⟩ := h
  have heq : i.eq = true -> Gj P t i.z := fun e => by
    rw [e] at h0;exact Qw (by simpa using h0)
  by_cases hk : i.k = .o
  · exact ⟨by rw [hk];trivial, fun h => absurd hk h, fun h => absurd hk h, fun h => absurd hk h, heq⟩
  · have h2 : Qa P t i.k = true ∧ szO P t = some i.sz ∧ oo P t = some i.bytes ∧ (match gR P t with
        | some z => plain z && z.cells.size == i.sz && (z.cells.toList.all fun c => plain c && okCell c) && QF (z.cells.toList.map ii) i.z
        | none => false) = true := by
      split at h
      · rename_i e;exact absurd e hk
      · simp only [Z8, decide_eq_true_eq] at h
        exact ⟨h.1.1.1, h.1.1.2, h.1.2, h.2⟩
    obtain ⟨h1, h2, h3, h4⟩ := h2;refine ⟨?_, fun _ => h2, fun _ => h3, fun _ => ?_, heq⟩
    · unfold Qa at h1
      cases hq : i.k <;> rw [hq] at h1 <;> dsimp only at h1 ⊢
      all_goals first
        | trivial
        | (split at h1
           · rename_i hu
             first
               | (simp only [decide_eq_true_eq] at h1;subst h1;exact hu)
               | exact hu
               | exact ⟨_, hu⟩
               | exact ⟨_, _, _, hu⟩
               | (simp only [beq_iff_eq] at h1;subst h1;exact hu)
               | (simp only [Z8, beq_iff_eq] at h1;obtain ⟨rfl, rfl⟩ := h1;exact hu)
               | (simp only [decide_eq_true_eq] at h1;exact ⟨_, hu, h1⟩)
           · cases h1)
    · split at h4
      · rename_i z hz
        simp only [Z8, beq_iff_eq, Zu] at h4;refine ⟨z, hz, h4.1.1.1, LJ h4.2, h4.1.1.2, fun c hc => ?_⟩;have := h4.1.2 c hc;exact this
      · cases h4
theorem xz:∀ (l:List (List TyI)) (n:Nat),l.length<=n->GN l n=[]
 | [],_,_=>rfl
 | _::_,0,h=>by simp at h
 | _::l,n+1,h=>xz l n (by simpa using h)
theorem UF:(List.range (16*Az.length)).all (fun t=>tyB Y.X.P t (Y.ty t))=true:=aJ
section
variable {F:Nat->Prop} {H:AH}
theorem wJ:∀ {l:List D} {xs:List Value},lits l=some xs->(∀ v∈xs,okZ v)∧∀ ws,RDs F H l ws->ws=xs
 | [],xs,h=>by
  simp only [lits,Z9] at h;subst h;exact ⟨fun v hv=>(by cases hv),fun ws hw=>by simpa only [RDs] using hw⟩
 | x::l,xs,h=>by
  unfold lits at h;split at h
  ·rename_i k n r hr;simp only [Z9] at h;subst h;obtain ⟨q1,q2⟩:=wJ hr;refine ⟨fun v hv=>?_,fun ws hw=>?_⟩
   ·rcases Zr.1 hv with rfl | hv
    ·exact ⟨rfl,rfl⟩
    ·exact q1 v hv
   ·simp only [RDs,RD] at hw;obtain ⟨v,us,rfl,rfl,h2⟩:=hw;rw [q2 us h2]
  ·rename_i s r hr;simp only [Z9] at h;subst h;obtain ⟨q1,q2⟩:=wJ hr;refine ⟨fun v hv=>?_,fun ws hw=>?_⟩
   ·rcases Zr.1 hv with rfl | hv
    ·exact ⟨rfl,rfl⟩
    ·exact q1 v hv
   ·simp only [RDs,RD] at hw;obtain ⟨v,us,rfl,rfl,h2⟩:=hw;rw [q2 us h2]
  ·cases h
theorem Oq {p:D} {k:Nat} {l:List D} {xs:List Value} (h:slD p=some (k,l)) (hl:lits l=some xs) (hk:xs.length=k) {w:Value} (hw:RD F H p w):nS H 1 w=some (k,xs):=by
 obtain ⟨q1,q2⟩:=wJ (F:=F) (H:=H) hl;unfold slD at h;split at h
 ·rename_i n l';simp only [Z9,Z6] at h;obtain ⟨rfl,rfl⟩:=h;simp only [RD] at hw;rcases hw with ⟨rfl,rfl,h3⟩ | ⟨c,o,cap,vs,m,rfl,h1,h2,h3,h4,h5,h6,h7,h8⟩
  ·simp only [lits,Z9] at hl;subst hl;rcases h3 with rfl | ⟨c,o,cap,rfl,_⟩
   ·rfl
   ·simp [nS]
  ·have e:=q2 vs h7;subst e
   have hl:l'.length=n:=by
    rw [<- hk,MS h6]
   simp only [nS,X7];rw [if_neg aa,<- hl,h6];simp
 ·simp only [Z9,Z6] at h;obtain ⟨rfl,rfl⟩:=h;simp only [lits,Z9] at hl;subst hl;simp only [RD] at hw;obtain ⟨rfl,_⟩:=hw;rfl
 ·cases h
theorem Oo {p:D} {k:Nat} {l:List D} (h:slD p=some (k,l)) {w:Value} (hw:RD F H p w):J7 w=true:=by
 unfold slD at h;split at h
 ·rename_i n l';simp only [RD] at hw;rcases hw with ⟨_,_,h3⟩ | ⟨c,o,cap,vs,m,rfl,_⟩
  ·rcases h3 with rfl | ⟨c,o,cap,rfl,_⟩ <;> rfl
  ·rfl
 ·simp only [RD] at hw;obtain ⟨rfl,_⟩:=hw;rfl
 ·cases h
theorem zJ {p q:D} {xs:List (List Value)} (h:Ms p q=some xs):(∀ z∈xs,∀ v∈z,okZ v)∧∀ v w,RD F H p v->RD F H q w->Gk H v w=some xs:=by
 unfold Ms at h;split at h
 case h_2=>cases h
 rename_i k l k' m hp hq;split at h
 case h_2=>cases h
 rename_i us vs hl hm;split at h
 case isFalse=>cases h
 rename_i hc;simp only [Z9] at h;subst h;have o1:=(wJ (F:=F) (H:=H) hl).1;have o2:=(wJ (F:=F) (H:=H) hm).1;refine ⟨fun z hz v hv=>?_,fun v w hv hw=>?_⟩
 ·obtain ⟨⟨a,b⟩,hab,rfl⟩:=Zg.1 hz;have:=List.of_mem_zip hab;simp only [Zr,Zc,or_false] at hv;rcases hv with rfl | rfl
  ·exact o1 _ this.1
  ·exact o2 _ this.2
 ·unfold Gk;rw [Oq hp hl hc.2.1 hv,Oq hq hm (hc.2.2.1.trans hc.1) hw];have c1:(us.all fun v=>plain v && okCell v)=true:=Zu.2 fun x hx=>by have:=o1 x hx;simp [this.1,this.2]
  have c2:(vs.all fun v=>plain v && okCell v)=true:=Zu.2 fun x hx=>by have:=o2 x hx;simp [this.1,this.2]
  exact if_pos ⟨hc.1,hc.2.1,hc.2.2.1,hc.2.2.2,by rw [Oo hp hv,Oo hq hw];rfl,c1,c2⟩
end
theorem yOk:YOk Y where
 seq gf cs xs h0:=by
  have h:UO gf cs=some xs:=h0;clear h0;unfold UO at h;split at h
  ·rename_i hg;split at h
   ·rename_i p q d;refine ⟨(zJ (F:=fun _=>True) (H:=⟨0,[]⟩) h).1,fun φ F H hp lb hr=>?_⟩;simp only [RVs,RV] at hr;obtain ⟨v,_,rfl,⟨c,o,vs,rfl,hF,hrd,hd⟩,rfl⟩:=hr;simp only [RDs] at hd;obtain ⟨v1,_,rfl,d1,v2,_,rfl,d2,v3,_,rfl,d3,rfl⟩:=hd;rw [show ([p,q,d]:List D).length=3 from rfl] at hrd;refine ⟨?_,fun F' H' hl=>?_⟩
    ·rw [show Y.X.seq=AW from rfl];unfold AW;rw [hg];simp only [Nat.add_zero];rw [hrd];exact (zJ h).2 _ _ d1 d2
    ·rw [show Y.X.seqK=G9 from rfl];simp only [G9,Nat.add_zero];rw [mE (hl.keep c hF)]
   ·cases h
  ·rename_i hg;split at h
   ·rename_i hg2;split at h
    ·rename_i p q;refine ⟨(zJ (F:=fun _=>True) (H:=⟨0,[]⟩) h).1,fun φ F H hp lb hr=>?_⟩;simp only [RVs,RV] at hr;obtain ⟨v,_,rfl,⟨c,o,vs,rfl,hF,hrd,hd⟩,v',_,rfl,⟨c',o',vs',rfl,hF',hrd',hd'⟩,rfl⟩:=hr;simp only [RDs] at hd hd';obtain ⟨v1,_,rfl,d1,rfl⟩:=hd;obtain ⟨v2,_,rfl,d2,rfl⟩:=hd';rw [show ([p]:List D).length=1 from rfl] at hrd;rw [show ([q]:List D).length=1 from rfl] at hrd'
     refine ⟨?_,fun F' H' hl=>?_⟩
     ·rw [show Y.X.seq=AW from rfl];unfold AW;rw [hg,hg2];simp only [Nat.add_zero];rw [hrd,hrd'];exact (zJ h).2 _ _ d1 d2
     ·rw [show Y.X.seqK=G9 from rfl];simp only [G9,Nat.add_zero];rw [mE (hl.keep c hF),mE (hl.keep c' hF')]
    ·cases h
   ·cases h
 ty t:=by
  by_cases ht:t<16*Az.length
  ·exact KN (Zu.1 UF t (Wj.2 ht))
  ·refine KN ?_
   have:(Y.ty t).k=.o:=by
    show (RP (GN Az (t / 16)) (t % 16)).k=.o
    have h2:∀ t n:Nat,¬ t<16*n->n<=t / 16:=fun t n hn=>by omega
    rw [xz Az (t / 16) (h2 t _ ht)];rfl
   have h2:(Y.ty t).eq=false:=by
    show (RP (GN Az (t / 16)) (t % 16)).eq=false
    have h2:∀ t n:Nat,¬ t<16*n->n<=t / 16:=fun t n hn=>by omega
    rw [xz Az (t / 16) (h2 t _ ht)];rfl
   unfold tyB;rw [this,h2];rfl
end Go.Vm
namespace Go.Vm
open Go Go.Am
theorem Uv {x:Prop} {o:Option V} {k k':V->Prop} (h1:x=bnd o k) (h:∀ v,k v=k' v):x=bnd o k':=by rw [h1,funext h]
theorem Ul {x:Prop} {o:V} {i:Nat} {k k':V->Prop} (h1:x=ext o i k) (h:∀ v,k v=k' v):x=ext o i k':=by rw [h1,funext h]
theorem PE {x:Prop} {a b:V} {h0:Hp} {op:BinOp} {k k':V->Prop} (h1:x=CQ h0 op a b k) (h:∀ v,k v=k' v):x=CQ h0 op a b k':=by rw [h1,funext h]
theorem tC {x:Prop} {T:(V->Hp->Prop)->Prop} {k k':V->Hp->Prop} (h1:x=T k) (h:∀ v h,k v h=k' v h):x=T k':=by
 rw [h1,show k=k' from funext fun v=>funext fun y=>h v y]
theorem Us {x:Prop} {C:pS} {h0:Hp} {f:V} {a:List V} {k k':V->Hp->Prop} (h1:x=cal C h0 f a k) (h:∀ v h,k v h=k' v h):x=cal C h0 f a k':=tC h1 h
theorem Ut {x:Prop} {C:ou} {h0:Hp} {f:V} {a:List V} {s:Nat} {k k':V->Hp->Prop} (h1:x=cai C h0 f a s k) (h:∀ v h,k v h=k' v h):x=cai C h0 f a s k':=tC h1 h
theorem Uy {x:Prop} {s:Nat} {cs:List V} {h0:Hp} {k k':V->Hp->Prop} (h1:x=alV s cs h0 k) (h:∀ v h,k v h=k' v h):x=alV s cs h0 k':=tC h1 h
theorem Uz {x:Prop} {s n:Nat} {cs:List D} {h0:Hp} {k k':V->Hp->Prop} (h1:x=alD s n cs h0 k) (h:∀ v h,k v h=k' v h):x=alD s n cs h0 k':=tC h1 h
theorem Rk {x:Prop} {s:Nat} {v0:V} {h0:Hp} {k k':V->Hp->Prop} (h1:x=jS s v0 h0 k) (h:∀ v h,k v h=k' v h):x=jS s v0 h0 k':=tC h1 h
theorem PZ {x:Prop} {n:Nat} {z:List D} {ps:List (Nat × V)} {h0:Hp} {k k':V->Hp->Prop} (h1:x=dw n z ps h0 k) (h:∀ v h,k v h=k' v h):x=dw n z ps h0 k':=tC h1 h
theorem PX {x:Prop} {s n:Nat} {z:List D} {ps:List (Nat × V)} {h0:Hp} {k k':V->Hp->Prop} (h1:x=By s n z ps h0 k) (h:∀ v h,k v h=k' v h):x=By s n z ps h0 k':=tC h1 h
theorem Ua {x:Prop} {s n:Nat} {z:List D} {h0:Hp} {a b:V} {k k':V->Hp->Prop} (h1:x=mkS s n z h0 a b k) (h:∀ v h,k v h=k' v h):x=mkS s n z h0 a b k':=tC h1 h
theorem TZ {x:Prop} {n:Nat} {h0:Hp} {a b:V} {k k':V->Hp->Prop} (h1:x=stD h0 n a b k) (h:∀ v h,k v h=k' v h):x=stD h0 n a b k':=tC h1 h
theorem Uw {x:Prop} {dr:Bool} {s n m:Nat} {h0:Hp} {a b:V} {k k':V->Hp->Prop} (h1:x=apV dr s n m a b h0 k) (h:∀ v h,k v h=k' v h):x=apV dr s n m a b h0 k':=tC h1 h
theorem YS {x:Prop} {c:V} {w:Bool} {h0:Hp} {T:(V->Hp->Prop)->Prop} {k k':V->Hp->Prop} (h1:x=gd c w h0 T k) (h:∀ v h,k v h=k' v h):x=gd c w h0 T k':=tC h1 h
theorem Ur {x:Prop} {c:V} {A A' B B':Prop} (h1:x=cnd c A B) (ha:A=A') (hb:B=B'):x=cnd c A' B':=by rw [h1,ha,hb]
theorem YK {x:Prop} {k k':List V->Hp->Prop} {T T':(List V->Hp->Prop)->Prop} (h1:x=jn k T) (hk:∀ l h,k l h=k' l h) (hT:∀ q,T q=T' q):x=jn k' T':=by
 rw [h1,show k=k' from funext fun v=>funext fun y=>hk v y,show T=T' from funext hT]
theorem YA {x:Prop} {s s':bj} {clr:List Nat} {h0 h2:Hp} {l:List V} {k k':KL} (h1:x=lp s clr h0 l h2 k) (hs:∀ l h q,s l h q=s' l h q) (hk:∀ ex l h,k ex l h=k' ex l h):x=lp s' clr h0 l h2 k':=by
 rw [h1,show s=s' from funext fun a=>funext fun b=>funext fun c=>hs a b c,show k=k' from funext fun a=>funext fun b=>funext fun c=>hk a b c]
theorem Uo {x:Prop} {e ex:Exit} {q q':List V->Hp->Prop} {r r':List (Exit × (List V->Hp->Prop))} {l:List V} {h:Hp} (h1:x=exK ((e,q)::r) ex l h) (hq:∀ l h,q l h=q' l h) (hr:exK r ex l h=exK r' ex l h):x=exK ((e,q')::r') ex l h:=by
 rw [h1,show q=q' from funext fun v=>funext fun y=>hq v y];simp only [exK];split
 ·rfl
 ·exact hr
theorem P2 {x y:Prop} {v:V} {k:V->Prop} (h1:x=bnd (some v) k) (h2:k v=y):x=y:=h1.trans h2
noncomputable def gl (g:Nat):V:=match Y.glob g with
 | some cs=>.dptr cs 0
 | none=>.junk
end Go.Vm
