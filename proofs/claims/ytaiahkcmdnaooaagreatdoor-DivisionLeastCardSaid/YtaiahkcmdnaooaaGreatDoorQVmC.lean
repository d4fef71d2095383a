/- The types of the program, as far as they matter: a table. Printed by gen.py. -/
import Derived.Test.YtaiahkcmdnaooaaGreatDoorQVmA
import Derived.Test.YtaiahkcmdnaooaaGreatDoorQVmB
import Derived.Test.YtaiahkcmdnaooaaGreatDoorProg
set_option linter.unusedVariables false
set_option linter.unusedSimpArgs false
namespace Go.Vm
open Go Go.Am
abbrev ai:TyI:=⟨.f,1,8,[.pl .nilFunc],false⟩
abbrev ii:TyI:=⟨.o,1,0,[],false⟩
abbrev Cw:TyI:=⟨.p,1,8,[.pl (.pointer none)],false⟩
abbrev JS:TyI:=⟨.i .i64,1,8,[.int .i64 0],false⟩
abbrev JR:TyI:=⟨.i .u8,1,1,[.int .u8 0],false⟩
abbrev JQ:TyI:=⟨.s,1,16,[.str []],false⟩
abbrev Nl:TyI:=⟨.i .u64,1,8,[.int .u64 0],false⟩
abbrev Nk:TyI:=⟨.it,1,16,[.pl .nilIface],false⟩
abbrev Nj:TyI:=⟨.i .i32,1,4,[.int .i32 0],false⟩
abbrev Ni:TyI:=⟨.sl 3,1,24,[.pl (.slice none 0 0)],false⟩
abbrev Ny:TyI:=⟨.st [(0,1),(1,1),(2,1),(3,1)],4,24,[.int .i64 0,.int .i64 0,.bool false,.int .u8 0],false⟩
abbrev Nx:TyI:=⟨.st [(0,1),(1,1)],2,24,[.str [],.int .u64 0],false⟩
abbrev Nw:TyI:=⟨.st [(0,1)],1,8,[.pl (.pointer none)],false⟩
abbrev Nv:TyI:=⟨.sl 56,1,24,[.pl (.slice none 0 0)],false⟩
abbrev Nu:TyI:=⟨.ar 4 41,8,8,[.int .i8 0,.int .u8 0,.int .i8 0,.int .u8 0,.int .i8 0,.int .u8 0,.int .i8 0,.int .u8 0],false⟩
abbrev Nt:TyI:=⟨.st [(0,1),(1,1)],2,32,[.int .u8 0,.pl (.slice none 0 0)],false⟩
abbrev Ns:TyI:=⟨.st [(0,1),(1,1),(2,1)],3,40,[.int .i64 0,.int .i64 0,.pl (.slice none 0 0)],false⟩
abbrev Nr:TyI:=⟨.st [(0,1),(1,1),(2,1)],3,64,[.pl (.slice none 0 0),.pl (.slice none 0 0),.str []],false⟩
abbrev Nq:TyI:=⟨.sl 199,1,24,[.pl (.slice none 0 0)],false⟩
abbrev Np:TyI:=⟨.st [(0,1),(1,1),(2,1)],3,48,[.str [],.str [],.pl .nilIface],false⟩
abbrev Nn:TyI:=⟨.st [(0,1),(1,1),(2,1),(3,1)],4,40,[.pl (.pointer none),.pl (.pointer none),.pl (.pointer none),.str []],false⟩
abbrev Nm:TyI:=⟨.st [(0,1),(1,1),(2,1),(3,1),(4,1),(5,1),(6,1),(7,1),(8,1),(9,1),(10,1)],11,48,[.int .u64 0,.int .u64 0,.int .u32 0,.int .u8 0,.int .u8 0,.int .u8 0,.int .u8 0,.pl .nilFunc,.pl (.pointer none),.int .i32 0,.int .i32 0],false⟩
abbrev slQ(n:Nat):TyI:=⟨.sl n,1,24,[.pl (.slice none 0 0)],false⟩
def XR:List TyI:=[
 ii,ai,JS,JS,⟨.b,1,1,[.bool false],false⟩,JR,JR,Ny,Ny,JQ,JQ,JQ,Nl,Nx,Nx,Cw]
def XQ:List TyI:=[
 Cw,Cw,Nw,Nw,Nk,Nj,⟨.i .i8,1,1,[.int .i8 0],false⟩,⟨.ar 4 22,4,4,[.int .i8 0,.int .i8 0,.int .i8 0,.int .i8 0],false⟩,ai,Ni,Ni,ai,Ni,ai,JS,ii]
def XP:List TyI:=[
 ai,Nv,Nv,ai,ii,ai,ai,ai,⟨.st [(0,1),(1,1)],2,2,[.int .i8 0,.int .u8 0],false⟩,⟨.st [(0,1),(1,1)],2,2,[.int .i8 0,.int .u8 0],true⟩,Nu,Nu,⟨.i .u16,1,2,[.int .u16 0],false⟩,ai,ii,ai]
def XO:List TyI:=[
 JQ,ii,ai,ai,ai,ai,ai,⟨.st [(0,1),(1,1)],2,32,[.str [],.str []],false⟩,⟨.st [(0,1),(1,1)],2,32,[.str [],.str []],true⟩,ai,ai,slQ 23,Nt,Nt,⟨.st [(0,1),(1,1),(2,1)],3,3,[.int .u8 0,.int .u8 0,.int .u8 0],false⟩,⟨.st [(0,1),(1,1),(2,1)],3,3,[.int .u8 0,.int .u8 0,.int .u8 0],true⟩]
def XN:List TyI:=[
 slQ 28,ii,ai,ai,ai,ai,Ns,Ns,ai,ii,ai,ai,ai,ai,ii,ai]
def XM:List TyI:=[
 slQ 34,ii,ai,ai,ai,ai,ai,ai,ai,ai,ai,ai,ai,ai,ii,ai]
def XL:List TyI:=[
 ai,ai,⟨.st [(0,1),(1,1),(2,1)],3,24,[.int .i64 0,.int .i64 0,.int .i64 0],false⟩,⟨.st [(0,1),(1,1),(2,1)],3,24,[.int .i64 0,.int .i64 0,.int .i64 0],true⟩,ii,ai,ii,ai,ai,ai,ai,slQ 26,ai,ai,ai,ai]
def XK:List TyI:=[
 ai,ai,ai,ai,ai,ai,ai,ai,ai,ai,ii,ai,ai,ai,ai,ai]
def XJ:List TyI:=[
 ai,slQ 48,Nr,Nr,ai,ai,ai,ai,ai,ai,ai,ai,ai,ai,ii,ai]
def XI:List TyI:=[
 ai,ai,ii,ai,ai,ai,ai,ai,ii,ai,ai,ai,ii,ai,ai,ai]
def Uz:List TyI:=[
 ii,ai,ai,ai,ai,ai,ai,ai,ai,ai,ai,ii,ai,ai,ai,ai]
def Uy:List TyI:=[
 ai,ai,ai,ai,ai,ii,ai,ai,ai,ai,ai,ai,ai,ai,ai,ai]
def Ux:List TyI:=[
 ai,ai,ai,Nk,Nk,ii,ai,Nl,ii,ai,ai,Nq,Nq,ai,ai,ai]
def Uw:List TyI:=[
 ai,ai,ai,Nl,ai,ai,ai,ai,ii,ai,ai,ai,ii,ai,ai,ii]
def Uv:List TyI:=[
 ai,ii,ai,ai,ai,ai,ii,ai,ai,slQ 5,ai,ai,ii,ai,ai,ai]
def Uu:List TyI:=[
 ⟨.ar 24 5,24,24,List.replicate 24 (.int .u8 0),false⟩,ai,ai,ii,ai,JS,Cw,ai,ai,ii,ai,ai,⟨.i .u32,1,4,[.int .u32 0],false⟩,ai,ai,⟨.ar 20 199,20,160,List.replicate 20 (.int .u64 0),false⟩]
def Ut:List TyI:=[
 ⟨.ar 65 5,65,65,List.replicate 65 (.int .u8 0),false⟩,ai,Np,Np,ai,ai,ai,Cw,Cw,⟨.st [(0,1)],1,16,[.str []],false⟩,⟨.st [(0,1)],1,16,[.str []],false⟩,⟨.ar 32 5,32,32,List.replicate 32 (.int .u8 0),false⟩,⟨.ar 64 5,64,64,List.replicate 64 (.int .u8 0),false⟩,ai,Nn,Nn]
def Us:List TyI:=[
 ⟨.ar 0 16,0,0,[],false⟩,⟨.st [(0,0)],0,0,[],false⟩,⟨.st [(0,0)],0,0,[],false⟩,JR,JR,ai,Nj,Nj,Nm,Nm,⟨.o,1,8,[.pl (.pointer none)],false⟩]
def zq:List (List TyI):=[XR,XQ,XP,XO,XN,XM,XL,XK,XJ,XI,Uz,Uy,Ux,Uw,Uv,Uu,Ut,Us]
def TZ:List Nat:=[0,1,222,223,224,225,226,227,228,229,230,231,232,233,234,235,236,237,238,239,240,241,242,243,244,245,246,247]
def jX:Nat:=0
namespace F
def bK:FuncId:=6
def bb:FuncId:=7
def bR:FuncId:=13
def dz:FuncId:=14
def cO:FuncId:=15
def dZ:FuncId:=16
def dW:FuncId:=17
def fW:FuncId:=18
def dG:FuncId:=19
def lj:FuncId:=25
def ew:FuncId:=26
def fL:FuncId:=27
def lm:FuncId:=28
def eA:FuncId:=29
def j7:FuncId:=30
def bJ:FuncId:=31
def dQ:FuncId:=33
def cr:FuncId:=34
def fS:FuncId:=37
def ot:FuncId:=38
def nY:FuncId:=40
def lJ:FuncId:=42
def fh:FuncId:=46
def dX:FuncId:=50
def bW:FuncId:=51
def dD:FuncId:=53
def jf:FuncId:=55
def gJ:FuncId:=56
def gI:FuncId:=57
def gE:FuncId:=58
def kA:FuncId:=59
def cn:FuncId:=60
def hO:FuncId:=62
def iI:FuncId:=63
def fj:FuncId:=65
def iY:FuncId:=66
def fe:FuncId:=67
def j5:FuncId:=68
def bT:FuncId:=69
def lh:FuncId:=70
def ji:FuncId:=71
def aN:FuncId:=72
def kt:FuncId:=73
def cw:FuncId:=74
def ln:FuncId:=75
def hH:FuncId:=78
def fk:FuncId:=80
def fq:FuncId:=81
def dR:FuncId:=82
def kz:FuncId:=84
def nH:FuncId:=85
def kI:FuncId:=86
def dK:FuncId:=87
def oo:FuncId:=91
def il:FuncId:=92
def ci:FuncId:=93
def aH:FuncId:=94
def c8:FuncId:=96
def kH:FuncId:=97
def gF:FuncId:=100
def iS:FuncId:=101
def jh:FuncId:=102
def gk:FuncId:=104
def gj:FuncId:=105
def lf:FuncId:=106
def gY:FuncId:=107
def dL:FuncId:=108
def cE:FuncId:=109
def bu:FuncId:=110
def ik:FuncId:=111
def aR:FuncId:=112
def aG:FuncId:=113
def fM:FuncId:=114
def fB:FuncId:=115
def lI:FuncId:=116
def kE:FuncId:=117
def lF:FuncId:=122
def fc:FuncId:=123
def strconv_Itoa:FuncId:=124
def bm:FuncId:=127
def aO:FuncId:=128
def bP:FuncId:=129
def gM:FuncId:=130
def bM:FuncId:=131
def iB:FuncId:=132
def iC:FuncId:=133
def j6:FuncId:=138
def dP:FuncId:=139
def gH:FuncId:=140
def aW:FuncId:=141
def jm:FuncId:=142
def cD:FuncId:=143
def im:FuncId:=144
def ek:FuncId:=145
def eu:FuncId:=146
def om:FuncId:=147
def eD:FuncId:=148
def aS:FuncId:=149
def j3:FuncId:=150
def lG:FuncId:=151
def aJ:FuncId:=152
def gS:FuncId:=153
def kv:FuncId:=155
def gO:FuncId:=156
def iU:FuncId:=157
def strconv_Atoi:FuncId:=159
def eC:FuncId:=160
def ia:FuncId:=161
def cg:FuncId:=162
def bX:FuncId:=163
def ay:FuncId:=164
def aK:FuncId:=165
def cN:FuncId:=166
def bc:FuncId:=167
def qj:FuncId:=170
def eQ:FuncId:=171
def jI:FuncId:=172
def nX:FuncId:=173
def eY:FuncId:=174
def cT:FuncId:=175
def ip:FuncId:=176
def size_digits:FuncId:=177
def bO:FuncId:=178
def b9:FuncId:=179
def dI:FuncId:=180
def iK:FuncId:=181
def nR:FuncId:=182
def kw:FuncId:=183
def aZ:FuncId:=184
def cL:FuncId:=185
def fA:FuncId:=186
def xZ:FuncId:=187
def gK:FuncId:=188
def eZ:FuncId:=189
def bC:FuncId:=190
def iG:FuncId:=191
def eN:FuncId:=192
def uC:FuncId:=193
def gL:FuncId:=194
def gC:FuncId:=195
def bI:FuncId:=196
def fK:FuncId:=197
def fR:FuncId:=198
def cJ:FuncId:=199
def bA:FuncId:=200
def mW:FuncId:=201
def et:FuncId:=206
def dj:FuncId:=207
def qK:FuncId:=208
def dT:FuncId:=209
def js:FuncId:=211
def eH:FuncId:=212
def eJ:FuncId:=213
end F
end Go.Vm
namespace Go.Vm
open Go Go.Am
noncomputable section
def P6:List TyI->Nat->TyI
 | [],_=>⟨.o,0,0,[],false⟩
 | x::_,0=>x
 | _::l,n+1=>P6 l n
def FF:List (List TyI)->Nat->List TyI
 | [],_=>[]
 | x::_,0=>x
 | _::l,n+1=>FF l n
def mr:Nat->List UInt8->Nat
 | a,[]=>a
 | a,c::l=>mr (a*10+(c.toNat-48)) l
def lC (c:UInt8):Bool:=Nat.ble 48 c.toNat && Nat.ble c.toNat 57
def Gm:List Value->Option Value
 | [.string s,.int .i64 a,.int .i64 b]=>if a=10∧b=64∧s.data.toList≠[]∧s.data.toList.all lC=true∧s.data.toList.length<=1000∧mr 0 s.data.toList<10000000000000000000 then some (.tuple #[.int .u64 (mr 0 s.data.toList),.nilIface]) else none
 | _=>none
def J5:List Value->Option Value
 | [.string s,.int .i64 a,.int .i64 b]=>if a=10∧b=64 then (match s.data.toList with
  | 45::l=>if l≠[]∧l.all lC=true∧l.length<=1000∧mr 0 l<9223372036854775808 then some (.tuple #[.int .i64 (-(mr 0 l:Int)),.nilIface]) else none
  | l=>if l≠[]∧l.all lC=true∧l.length<=1000∧mr 0 l<9223372036854775808 then some (.tuple #[.int .i64 (mr 0 l),.nilIface]) else none) else none
 | _=>none
def IX:Value->Bool
 | .slice ..=>true
 | _=>false
def E9 (H:AH) (p q:Value):Option (List (List Value)):=match mD H 1 p,mD H 1 q with
 | some (k,xs),some (k',ys)=>if k=k'∧xs.length=k∧ys.length=k∧k<4611686018427387904∧(IX p && IX q)=true∧(xs.all fun v=>plain v && okCell v)=true∧(ys.all fun v=>plain v && okCell v)=true then some ((xs.zip ys).map fun x=>[x.1,x.2]) else none
 | _,_=>none
def zP (f:FuncId) (lb:List Value) (H:AH):Option (List (List Value)):=match Nat.beq f F.cT with
 | true=>match lb with
  | [.pointer (some ⟨b,o,none⟩)]=>match bE H b o 3 with
   | some [p,q,_]=>E9 H p q
   | _=>none
  | _=>none
 | false=>match Nat.beq f F.qj with
  | true=>match lb with
   | [.pointer (some ⟨b,o,none⟩),.pointer (some ⟨b',o',none⟩)]=>match bE H b o 1,bE H b' o' 1 with
    | some [p],some [q]=>E9 H p q
    | _,_=>none
   | _=>none
  | false=>none
def F5 (f:FuncId) (lb:List Value) (H:AH):List Value:=match lb with
 | [.pointer (some ⟨b,o,none⟩)]=>(bE H b o 3).getD []
 | [.pointer (some ⟨b,o,none⟩),.pointer (some ⟨b',o',none⟩)]=>(bE H b o 1).getD []++(bE H b' o' 1).getD []
 | _=>[]
def lits:List D->Option (List Value)
 | []=>some []
 | x::l=>match x,lits l with
  | .int k n,some r=>some (.int k n::r)
  | .str s,some r=>some (.string ⟨⟨s⟩⟩::r)
  | _,_=>none
def slD:D->Option (Nat × List D)
 | .sl n l=>some (n,l)
 | .pl (.slice none 0 0)=>some (0,[])
 | _=>none
def K3 (p q:D):Option (List (List Value)):=match slD p,slD q with
 | some (k,l),some (k',m)=>match lits l,lits m with
  | some xs,some ys=>if k=k'∧xs.length=k∧ys.length=k∧k<4611686018427387904 then some ((xs.zip ys).map fun x=>[x.1,x.2]) else none
  | _,_=>none
 | _,_=>none
def SN (f:FuncId) (cs:List V):Option (List (List Value)):=match Nat.beq f F.cT with
 | true=>match cs with
  | [.dptr [p,q,_] 0]=>K3 p q
  | _=>none
 | false=>match Nat.beq f F.qj with
  | true=>match cs with
   | [.dptr [p] 0,.dptr [q] 0]=>K3 p q
   | _=>none
  | false=>none
def X:Cfg:={ P:=Go.Proofs.Tryz.prog,allow:=dM TZ,glob:=fun g=>Nat.beq g jX,orc:=fun f args=>(match Nat.beq f F.et with
 | true=>Gm args
 | false=>match Nat.beq f F.eY with
  | true=>J5 args
  | false=>none),seq:=zP,seqK:=F5 }
def Gp:List D:=[.int .u64 1,.int .u64 10,.int .u64 100,.int .u64 1000,.int .u64 10000,.int .u64 100000,.int .u64 1000000,.int .u64 10000000,.int .u64 100000000,.int .u64 1000000000,.int .u64 10000000000,.int .u64 100000000000,
 .int .u64 1000000000000,.int .u64 10000000000000,.int .u64 100000000000000,.int .u64 1000000000000000,.int .u64 10000000000000000,.int .u64 100000000000000000,.int .u64 1000000000000000000,.int .u64 10000000000000000000]
def Y:jd:={ X:=X,ty:=fun t=>P6 (FF zq (t / 16)) (t % 16),glob:=fun g=>(match Nat.beq g jX with
 | true=>some Gp
 | false=>none),seq:=SN }
end
end Go.Vm
set_option maxRecDepth 100000
namespace Go.Vm
open Go Go.Am
def TL:Value->Value->Bool
 | .pointer none,.pointer none=>true
 | .slice none a b,.slice none c d=>a == c && b == d
 | .nilFunc,.nilFunc=>true
 | .nilIface,.nilIface=>true
 | .map none,.map none=>true
 | .chan none,.chan none=>true
 | _,_=>false
theorem Q7 {x y:Value} (h:TL x y=true):x=y:=by
 unfold TL at h;split at h <;> first | rfl | (simp at h;obtain ⟨rfl,rfl⟩:=h;rfl) | cases h
def TM:D->D->Bool
 | .int k a,.int l b=>decide (k=l) && decide (a=b)
 | .bool a,.bool b=>a == b
 | .str a,.str b=>a == b
 | .pl a,.pl b=>TL a b
 | _,_=>false
theorem Q8 {x y:D} (h:TM x y=true):x=y:=by
 unfold TM at h;split at h
 ·simp at h;obtain ⟨rfl,rfl⟩:=h;rfl
 ·simp at h;subst h;rfl
 ·simp at h;subst h;rfl
 ·rw [Q7 h]
 ·cases h
def O5:List D->List D->Bool
 | [],[]=>true
 | x::l,y::m=>TM x y && O5 l m
 | _,_=>false
theorem Kx:∀ {l m:List D},O5 l m=true->l=m
 | [],[],_=>rfl
 | x::l,y::m,h=>by
  simp only [O5,Z7] at h;rw [Q8 h.1,Kx h.2]
 | [],_::_,h=>by cases h
 | _::_,[],h=>by cases h
def OB (P:Program) (t:TypeId) (k:Ty):Bool:=match k with
 | .i k=>match P.underlying t with | some (.int k')=>decide (k'=k) | _=>false
 | .b=>match P.underlying t with | some .bool=>true | _=>false
 | .s=>match P.underlying t with | some .string=>true | _=>false
 | .p=>match P.underlying t with | some (.pointer _)=>true | _=>false
 | .f=>match P.underlying t with | some (.func ..)=>true | _=>false
 | .it=>match P.underlying t with | some (.interface _)=>true | _=>false
 | .sl e=>match P.underlying t with | some (.slice e')=>e' == e | _=>false
 | .ar n e=>match P.underlying t with | some (.array n' e')=>n' == n && e' == e | _=>false
 | .st fs=>match P.underlying t with | some (.struct gs)=>decide (gs.toList.map (fun f=>(f.offset,szO P f.type))=fs.map fun p=>(p.1,some p.2)) | _=>false
 | .o=>true
def IU (P:Program) (t:TypeId):D->Bool
 | .int _ _=>match P.underlying t with | some (.int _)=>true | _=>false
 | .bool _=>match P.underlying t with | some .bool=>true | _=>false
 | .str _=>match P.underlying t with | some .string=>true | _=>false
 | _=>false
theorem LU {P:Program} {t:TypeId} {d:D} (h:IU P t d=true):Km P t d:=by
 unfold IU at h;split at h
 ·split at h
  ·rename_i hu;exact ⟨_,hu⟩
  ·cases h
 ·split at h
  ·rename_i hu;exact hu
  ·cases h
 ·split at h
  ·rename_i hu;exact hu
  ·cases h
 ·cases h
def OW (P:Program) (t:TypeId) (z:List D):Bool:=match P.underlying t with
 | some (.struct gs) => !P.stoodInHeld t && !P.eqGuardType P.depth t && decide (gs.size = z.length) && (gs.toList.zipIdx.zip z).all fun x => x.1.1.offset == x.1.2 && x.1.1.name != "_" && IU P x.1.1.type x.2
 | _=>false
theorem OV {P:Program} {t:TypeId} {z:List D} (h:OW P t z=true):E8 P t z:=by
 unfold OW at h;split at h
 ·rename_i gs hu;simp only [Z7,Y9,decide_eq_true_eq,Zx] at h;obtain ⟨⟨⟨h1,h2⟩,h3⟩,h4⟩:=h;refine ⟨gs,hu,h1,h2,h3,fun i f d hf hd=>?_⟩
  have:=h4 ((f,i),d) (by
   apply Y6 (i:=i);rw [List.getElem?_zip_eq_some];exact ⟨by rw [List.getElem?_zipIdx,hf];simp,hd⟩)
  simp only [beq_iff_eq,bne_iff_ne] at this;exact ⟨this.1.1,this.1.2,LU this.2⟩
 ·cases h
def tyB (P:Program) (t:TypeId) (i:TyI):Bool:=(!i.eq || OW P t i.z) && match i.k with
 | .o=>true
 | k=>OB P t k && decide (szO P t=some i.sz) && decide (nj P t=some i.bytes) && match gB P t with
  | some z=>plain z && z.cells.size == i.sz && (z.cells.toList.all fun c=>plain c && okCell c) && O5 (z.cells.toList.map gV) i.z
  | none=>false
theorem JC {P : Program} {t : TypeId} {i : TyI} (h : tyB P t i = true) : Sz P t i := by
  unfold tyB at h;rw [Z7] at h;obtain ⟨h0, h⟩ := h
  have heq : i.eq = true -> E8 P t i.z := fun e => by
    rw [e] at h0;exact OV (by simpa using h0)
  by_cases hk : i.k = .o
  · exact ⟨by rw [hk];trivial, fun h => absurd hk h, fun h => absurd hk h, fun h => absurd hk h, heq⟩
  · have h2 : OB P t i.k = true ∧ szO P t = some i.sz ∧ nj P t = some i.bytes ∧ (match gB P t with
        | some z => plain z && z.cells.size == i.sz && (z.cells.toList.all fun c => plain c && okCell c) && O5 (z.cells.toList.map gV) i.z
        | none => false) = true := by
      split at h
      · rename_i e;exact absurd e hk
      · simp only [Z7, decide_eq_true_eq] at h
        exact ⟨h.1.1.1, h.1.1.2, h.1.2, h.2⟩
    obtain ⟨h1, h2, h3, h4⟩ := h2;refine ⟨?_, fun _ => h2, fun _ => h3, fun _ => ?_, heq⟩
    · unfold OB at h1
      cases hq : i.k <;> rw [hq] at h1 <;> dsimp only at h1 ⊢
      all_goals first
        | trivial
        | (split at h1
           · rename_i hu
             first
               | (simp only [decide_eq_true_eq] at h1;subst h1;exact hu)
               | exact hu
               | exact ⟨_, hu⟩
               | exact ⟨_, _, _, hu⟩
               | (simp only [beq_iff_eq] at h1;subst h1;exact hu)
               | (simp only [Z7, beq_iff_eq] at h1;obtain ⟨rfl, rfl⟩ := h1;exact hu)
               | (simp only [decide_eq_true_eq] at h1;exact ⟨_, hu, h1⟩)
           · cases h1)
    · split at h4
      · rename_i z hz
        simp only [Z7, beq_iff_eq, Zx] at h4;refine ⟨z, hz, h4.1.1.1, Kx h4.2, h4.1.1.2, fun c hc => ?_⟩;have := h4.1.2 c hc;exact this
      · cases h4
theorem wC:∀ (l:List (List TyI)) (n:Nat),l.length<=n->FF l n=[]
 | [],_,_=>rfl
 | _::_,0,h=>by simp at h
 | _::l,n+1,h=>wC l n (by simpa using h)
theorem SF:(List.range (16*zq.length)).all (fun t=>tyB Y.X.P t (Y.ty t))=true:=aM
section
variable {F:Nat->Prop} {H:AH}
theorem vt:∀ {l:List D} {xs:List Value},lits l=some xs->(∀ v∈xs,okZ v)∧∀ ws,RDs F H l ws->ws=xs
 | [],xs,h=>by
  simp only [lits,Z9] at h;subst h;exact ⟨fun v hv=>(by cases hv),fun ws hw=>by simpa only [RDs] using hw⟩
 | x::l,xs,h=>by
  unfold lits at h;split at h
  ·rename_i k n r hr;simp only [Z9] at h;subst h;obtain ⟨q1,q2⟩:=vt hr;refine ⟨fun v hv=>?_,fun ws hw=>?_⟩
   ·rcases Zt.1 hv with rfl | hv
    ·exact ⟨rfl,rfl⟩
    ·exact q1 v hv
   ·simp only [RDs,RD] at hw;obtain ⟨v,us,rfl,rfl,h2⟩:=hw;rw [q2 us h2]
  ·rename_i s r hr;simp only [Z9] at h;subst h;obtain ⟨q1,q2⟩:=vt hr;refine ⟨fun v hv=>?_,fun ws hw=>?_⟩
   ·rcases Zt.1 hv with rfl | hv
    ·exact ⟨rfl,rfl⟩
    ·exact q1 v hv
   ·simp only [RDs,RD] at hw;obtain ⟨v,us,rfl,rfl,h2⟩:=hw;rw [q2 us h2]
  ·cases h
theorem M4 {p:D} {k:Nat} {l:List D} {xs:List Value} (h:slD p=some (k,l)) (hl:lits l=some xs) (hk:xs.length=k) {w:Value} (hw:RD F H p w):mD H 1 w=some (k,xs):=by
 obtain ⟨q1,q2⟩:=vt (F:=F) (H:=H) hl;unfold slD at h;split at h
 ·rename_i n l';simp only [Z9,Z8] at h;obtain ⟨rfl,rfl⟩:=h;simp only [RD] at hw;rcases hw with ⟨rfl,rfl,h3⟩ | ⟨c,o,cap,vs,m,rfl,h1,h2,h3,h4,h5,h6,h7,h8⟩
  ·simp only [lits,Z9] at hl;subst hl;rcases h3 with rfl | ⟨c,o,cap,rfl,_⟩
   ·rfl
   ·simp [mD]
  ·have e:=q2 vs h7;subst e
   have hl:l'.length=n:=by
    rw [<- hk,Ls h6]
   simp only [mD,Yg];rw [if_neg aa,<- hl,h6];simp
 ·simp only [Z9,Z8] at h;obtain ⟨rfl,rfl⟩:=h;simp only [lits,Z9] at hl;subst hl;simp only [RD] at hw;obtain ⟨rfl,_⟩:=hw;rfl
 ·cases h
theorem M3 {p:D} {k:Nat} {l:List D} (h:slD p=some (k,l)) {w:Value} (hw:RD F H p w):IX w=true:=by
 unfold slD at h;split at h
 ·rename_i n l';simp only [RD] at hw;rcases hw with ⟨_,_,h3⟩ | ⟨c,o,cap,vs,m,rfl,_⟩
  ·rcases h3 with rfl | ⟨c,o,cap,rfl,_⟩ <;> rfl
  ·rfl
 ·simp only [RD] at hw;obtain ⟨rfl,_⟩:=hw;rfl
 ·cases h
theorem yC {p q:D} {xs:List (List Value)} (h:K3 p q=some xs):(∀ z∈xs,∀ v∈z,okZ v)∧∀ v w,RD F H p v->RD F H q w->E9 H v w=some xs:=by
 unfold K3 at h;split at h
 case h_2=>cases h
 rename_i k l k' m hp hq;split at h
 case h_2=>cases h
 rename_i us vs hl hm;split at h
 case isFalse=>cases h
 rename_i hc;simp only [Z9] at h;subst h;have o1:=(vt (F:=F) (H:=H) hl).1;have o2:=(vt (F:=F) (H:=H) hm).1;refine ⟨fun z hz v hv=>?_,fun v w hv hw=>?_⟩
 ·obtain ⟨⟨a,b⟩,hab,rfl⟩:=Zc.1 hz;have:=List.of_mem_zip hab;simp only [Zt,Zd,or_false] at hv;rcases hv with rfl | rfl
  ·exact o1 _ this.1
  ·exact o2 _ this.2
 ·unfold E9;rw [M4 hp hl hc.2.1 hv,M4 hq hm (hc.2.2.1.trans hc.1) hw];have c1:(us.all fun v=>plain v && okCell v)=true:=Zx.2 fun x hx=>by have:=o1 x hx;simp [this.1,this.2]
  have c2:(vs.all fun v=>plain v && okCell v)=true:=Zx.2 fun x hx=>by have:=o2 x hx;simp [this.1,this.2]
  exact if_pos ⟨hc.1,hc.2.1,hc.2.2.1,hc.2.2.2,by rw [M3 hp hv,M3 hq hw];rfl,c1,c2⟩
end
theorem yOk:YOk Y where
 seq gf cs xs h0:=by
  have h:SN gf cs=some xs:=h0;clear h0;unfold SN at h;split at h
  ·rename_i hg;split at h
   ·rename_i p q d;refine ⟨(yC (F:=fun _=>True) (H:=⟨0,[]⟩) h).1,fun φ F H hp lb hr=>?_⟩;simp only [RVs,RV] at hr;obtain ⟨v,_,rfl,⟨c,o,vs,rfl,hF,hrd,hd⟩,rfl⟩:=hr;simp only [RDs] at hd;obtain ⟨v1,_,rfl,d1,v2,_,rfl,d2,v3,_,rfl,d3,rfl⟩:=hd;rw [show ([p,q,d]:List D).length=3 from rfl] at hrd;refine ⟨?_,fun F' H' hl=>?_⟩
    ·rw [show Y.X.seq=zP from rfl];unfold zP;rw [hg];simp only [Nat.add_zero];rw [hrd];exact (yC h).2 _ _ d1 d2
    ·rw [show Y.X.seqK=F5 from rfl];simp only [F5,Nat.add_zero];rw [lK (hl.keep c hF)]
   ·cases h
  ·rename_i hg;split at h
   ·rename_i hg2;split at h
    ·rename_i p q;refine ⟨(yC (F:=fun _=>True) (H:=⟨0,[]⟩) h).1,fun φ F H hp lb hr=>?_⟩;simp only [RVs,RV] at hr;obtain ⟨v,_,rfl,⟨c,o,vs,rfl,hF,hrd,hd⟩,v',_,rfl,⟨c',o',vs',rfl,hF',hrd',hd'⟩,rfl⟩:=hr;simp only [RDs] at hd hd';obtain ⟨v1,_,rfl,d1,rfl⟩:=hd;obtain ⟨v2,_,rfl,d2,rfl⟩:=hd';rw [show ([p]:List D).length=1 from rfl] at hrd;rw [show ([q]:List D).length=1 from rfl] at hrd'
     refine ⟨?_,fun F' H' hl=>?_⟩
     ·rw [show Y.X.seq=zP from rfl];unfold zP;rw [hg,hg2];simp only [Nat.add_zero];rw [hrd,hrd'];exact (yC h).2 _ _ d1 d2
     ·rw [show Y.X.seqK=F5 from rfl];simp only [F5,Nat.add_zero];rw [lK (hl.keep c hF),lK (hl.keep c' hF')]
    ·cases h
   ·cases h
 ty t:=by
  by_cases ht:t<16*zq.length
  ·exact JC (Zx.1 SF t (Wh.2 ht))
  ·refine JC ?_
   have:(Y.ty t).k=.o:=by
    show (P6 (FF zq (t / 16)) (t % 16)).k=.o
    have h2:∀ t n:Nat,¬ t<16*n->n<=t / 16:=fun t n hn=>by omega
    rw [wC zq (t / 16) (h2 t _ ht)];rfl
   have h2:(Y.ty t).eq=false:=by
    show (P6 (FF zq (t / 16)) (t % 16)).eq=false
    have h2:∀ t n:Nat,¬ t<16*n->n<=t / 16:=fun t n hn=>by omega
    rw [wC zq (t / 16) (h2 t _ ht)];rfl
   unfold tyB;rw [this,h2];rfl
end Go.Vm
namespace Go.Vm
open Go Go.Am
theorem Vw {x:Prop} {o:Option V} {k k':V->Prop} (h1:x=bnd o k) (h:∀ v,k v=k' v):x=bnd o k':=by rw [h1,funext h]
theorem Vf {x:Prop} {o:V} {i:Nat} {k k':V->Prop} (h1:x=ext o i k) (h:∀ v,k v=k' v):x=ext o i k':=by rw [h1,funext h]
theorem S5 {x:Prop} {a b:V} {h0:Hp} {op:BinOp} {k k':V->Prop} (h1:x=Ek h0 op a b k) (h:∀ v,k v=k' v):x=Ek h0 op a b k':=by rw [h1,funext h]
theorem rJ {x:Prop} {T:(V->Hp->Prop)->Prop} {k k':V->Hp->Prop} (h1:x=T k) (h:∀ v h,k v h=k' v h):x=T k':=by
 rw [h1,show k=k' from funext fun v=>funext fun y=>h v y]
theorem Vr {x:Prop} {C:oN} {h0:Hp} {f:V} {a:List V} {k k':V->Hp->Prop} (h1:x=cal C h0 f a k) (h:∀ v h,k v h=k' v h):x=cal C h0 f a k':=rJ h1 h
theorem Vt {x:Prop} {C:nr} {h0:Hp} {f:V} {a:List V} {s:Nat} {k k':V->Hp->Prop} (h1:x=cai C h0 f a s k) (h:∀ v h,k v h=k' v h):x=cai C h0 f a s k':=rJ h1 h
theorem VG {x:Prop} {s:Nat} {cs:List V} {h0:Hp} {k k':V->Hp->Prop} (h1:x=alV s cs h0 k) (h:∀ v h,k v h=k' v h):x=alV s cs h0 k':=rJ h1 h
theorem VH {x:Prop} {s n:Nat} {cs:List D} {h0:Hp} {k k':V->Hp->Prop} (h1:x=alD s n cs h0 k) (h:∀ v h,k v h=k' v h):x=alD s n cs h0 k':=rJ h1 h
theorem TW {x:Prop} {s:Nat} {v0:V} {h0:Hp} {k k':V->Hp->Prop} (h1:x=jZ s v0 h0 k) (h:∀ v h,k v h=k' v h):x=jZ s v0 h0 k':=rJ h1 h
theorem Ti {x:Prop} {n:Nat} {z:List D} {ps:List (Nat × V)} {h0:Hp} {k k':V->Hp->Prop} (h1:x=dN n z ps h0 k) (h:∀ v h,k v h=k' v h):x=dN n z ps h0 k':=rJ h1 h
theorem Tg {x:Prop} {s n:Nat} {z:List D} {ps:List (Nat × V)} {h0:Hp} {k k':V->Hp->Prop} (h1:x=BV s n z ps h0 k) (h:∀ v h,k v h=k' v h):x=BV s n z ps h0 k':=rJ h1 h
theorem UX {x:Prop} {s n:Nat} {z:List D} {h0:Hp} {a b:V} {k k':V->Hp->Prop} (h1:x=mkS s n z h0 a b k) (h:∀ v h,k v h=k' v h):x=mkS s n z h0 a b k':=rJ h1 h
theorem UD {x:Prop} {n:Nat} {h0:Hp} {a b:V} {k k':V->Hp->Prop} (h1:x=stD h0 n a b k) (h:∀ v h,k v h=k' v h):x=stD h0 n a b k':=rJ h1 h
theorem VF {x:Prop} {dr:Bool} {s n m:Nat} {h0:Hp} {a b:V} {k k':V->Hp->Prop} (h1:x=apV dr s n m a b h0 k) (h:∀ v h,k v h=k' v h):x=apV dr s n m a b h0 k':=rJ h1 h
theorem ZB {x:Prop} {c:V} {w:Bool} {h0:Hp} {T:(V->Hp->Prop)->Prop} {k k':V->Hp->Prop} (h1:x=gd c w h0 T k) (h:∀ v h,k v h=k' v h):x=gd c w h0 T k':=rJ h1 h
theorem Vp {x:Prop} {c:V} {A A' B B':Prop} (h1:x=cnd c A B) (ha:A=A') (hb:B=B'):x=cnd c A' B':=by rw [h1,ha,hb]
theorem YW {x:Prop} {k k':List V->Hp->Prop} {T T':(List V->Hp->Prop)->Prop} (h1:x=jn k T) (hk:∀ l h,k l h=k' l h) (hT:∀ q,T q=T' q):x=jn k' T':=by
 rw [h1,show k=k' from funext fun v=>funext fun y=>hk v y,show T=T' from funext hT]
theorem YT {x:Prop} {s s':bz} {clr:List Nat} {h0 h2:Hp} {l:List V} {k k':KL} (h1:x=lp s clr h0 l h2 k) (hs:∀ l h q,s l h q=s' l h q) (hk:∀ ex l h,k ex l h=k' ex l h):x=lp s' clr h0 l h2 k':=by
 rw [h1,show s=s' from funext fun a=>funext fun b=>funext fun c=>hs a b c,show k=k' from funext fun a=>funext fun b=>funext fun c=>hk a b c]
theorem Vg {x:Prop} {e ex:Exit} {q q':List V->Hp->Prop} {r r':List (Exit × (List V->Hp->Prop))} {l:List V} {h:Hp} (h1:x=exK ((e,q)::r) ex l h) (hq:∀ l h,q l h=q' l h) (hr:exK r ex l h=exK r' ex l h):x=exK ((e,q')::r') ex l h:=by
 rw [h1,show q=q' from funext fun v=>funext fun y=>hq v y];simp only [exK];split
 ·rfl
 ·exact hr
theorem Tj {x y:Prop} {v:V} {k:V->Prop} (h1:x=bnd (some v) k) (h2:k v=y):x=y:=h1.trans h2
noncomputable def gl (g:Nat):V:=match Y.glob g with
 | some cs=>.dptr cs 0
 | none=>.junk
end Go.Vm
