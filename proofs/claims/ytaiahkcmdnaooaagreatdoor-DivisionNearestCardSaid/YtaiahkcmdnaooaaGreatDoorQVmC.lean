/- The types of the program, as far as they matter: a table. Printed by gen.py. -/
import Derived.Test.YtaiahkcmdnaooaaGreatDoorQVmA
import Derived.Test.YtaiahkcmdnaooaaGreatDoorQVmB
import Derived.Test.YtaiahkcmdnaooaaGreatDoorProg
set_option linter.unusedVariables false
namespace Go.Vm
open Go Go.Am
def Uw:List TyI:=[
 ⟨.o,1,0,[],false⟩,
 ⟨.f,1,8,[.pl .nilFunc],false⟩,
 ⟨.i .i64,1,8,[.int .i64 0],false⟩,
 ⟨.i .i64,1,8,[.int .i64 0],false⟩,
 ⟨.b,1,1,[.bool false],false⟩,
 ⟨.i .u8,1,1,[.int .u8 0],false⟩,
 ⟨.i .u8,1,1,[.int .u8 0],false⟩,
 ⟨.st [(0,1),(1,1),(2,1),(3,1)],4,24,[.int .i64 0,.int .i64 0,.bool false,.int .u8 0],false⟩,
 ⟨.st [(0,1),(1,1),(2,1),(3,1)],4,24,[.int .i64 0,.int .i64 0,.bool false,.int .u8 0],false⟩,
 ⟨.s,1,16,[.str []],false⟩,
 ⟨.s,1,16,[.str []],false⟩,
 ⟨.s,1,16,[.str []],false⟩,
 ⟨.i .u64,1,8,[.int .u64 0],false⟩,
 ⟨.st [(0,1),(1,1)],2,24,[.str [],.int .u64 0],false⟩,
 ⟨.st [(0,1),(1,1)],2,24,[.str [],.int .u64 0],false⟩,
 ⟨.p,1,8,[.pl (.pointer none)],false⟩]
def Uv:List TyI:=[
 ⟨.p,1,8,[.pl (.pointer none)],false⟩,
 ⟨.p,1,8,[.pl (.pointer none)],false⟩,
 ⟨.st [(0,1)],1,8,[.pl (.pointer none)],false⟩,
 ⟨.st [(0,1)],1,8,[.pl (.pointer none)],false⟩,
 ⟨.it,1,16,[.pl .nilIface],false⟩,
 ⟨.i .i32,1,4,[.int .i32 0],false⟩,
 ⟨.i .i8,1,1,[.int .i8 0],false⟩,
 ⟨.ar 4 22,4,4,[.int .i8 0,.int .i8 0,.int .i8 0,.int .i8 0],false⟩,
 ⟨.f,1,8,[.pl .nilFunc],false⟩,
 ⟨.sl 3,1,24,[.pl (.slice none 0 0)],false⟩,
 ⟨.sl 3,1,24,[.pl (.slice none 0 0)],false⟩,
 ⟨.f,1,8,[.pl .nilFunc],false⟩,
 ⟨.sl 3,1,24,[.pl (.slice none 0 0)],false⟩,
 ⟨.f,1,8,[.pl .nilFunc],false⟩,
 ⟨.i .i64,1,8,[.int .i64 0],false⟩,
 ⟨.o,1,0,[],false⟩]
def Uu:List TyI:=[
 ⟨.f,1,8,[.pl .nilFunc],false⟩,
 ⟨.sl 56,1,24,[.pl (.slice none 0 0)],false⟩,
 ⟨.sl 56,1,24,[.pl (.slice none 0 0)],false⟩,
 ⟨.f,1,8,[.pl .nilFunc],false⟩,
 ⟨.o,1,0,[],false⟩,
 ⟨.f,1,8,[.pl .nilFunc],false⟩,
 ⟨.f,1,8,[.pl .nilFunc],false⟩,
 ⟨.f,1,8,[.pl .nilFunc],false⟩,
 ⟨.st [(0,1),(1,1)],2,2,[.int .i8 0,.int .u8 0],false⟩,
 ⟨.st [(0,1),(1,1)],2,2,[.int .i8 0,.int .u8 0],true⟩,
 ⟨.ar 4 41,8,8,[.int .i8 0,.int .u8 0,.int .i8 0,.int .u8 0,.int .i8 0,.int .u8 0,.int .i8 0,.int .u8 0],false⟩,
 ⟨.ar 4 41,8,8,[.int .i8 0,.int .u8 0,.int .i8 0,.int .u8 0,.int .i8 0,.int .u8 0,.int .i8 0,.int .u8 0],false⟩,
 ⟨.i .u16,1,2,[.int .u16 0],false⟩,
 ⟨.f,1,8,[.pl .nilFunc],false⟩,
 ⟨.o,1,0,[],false⟩,
 ⟨.f,1,8,[.pl .nilFunc],false⟩]
def Ut:List TyI:=[
 ⟨.s,1,16,[.str []],false⟩,
 ⟨.o,1,0,[],false⟩,
 ⟨.f,1,8,[.pl .nilFunc],false⟩,
 ⟨.f,1,8,[.pl .nilFunc],false⟩,
 ⟨.f,1,8,[.pl .nilFunc],false⟩,
 ⟨.f,1,8,[.pl .nilFunc],false⟩,
 ⟨.f,1,8,[.pl .nilFunc],false⟩,
 ⟨.st [(0,1),(1,1)],2,32,[.str [],.str []],false⟩,
 ⟨.st [(0,1),(1,1)],2,32,[.str [],.str []],true⟩,
 ⟨.f,1,8,[.pl .nilFunc],false⟩,
 ⟨.f,1,8,[.pl .nilFunc],false⟩,
 ⟨.sl 23,1,24,[.pl (.slice none 0 0)],false⟩,
 ⟨.st [(0,1),(1,1)],2,32,[.int .u8 0,.pl (.slice none 0 0)],false⟩,
 ⟨.st [(0,1),(1,1)],2,32,[.int .u8 0,.pl (.slice none 0 0)],false⟩,
 ⟨.st [(0,1),(1,1),(2,1)],3,3,[.int .u8 0,.int .u8 0,.int .u8 0],false⟩,
 ⟨.st [(0,1),(1,1),(2,1)],3,3,[.int .u8 0,.int .u8 0,.int .u8 0],true⟩]
def Us:List TyI:=[
 ⟨.sl 28,1,24,[.pl (.slice none 0 0)],false⟩,
 ⟨.o,1,0,[],false⟩,
 ⟨.f,1,8,[.pl .nilFunc],false⟩,
 ⟨.f,1,8,[.pl .nilFunc],false⟩,
 ⟨.f,1,8,[.pl .nilFunc],false⟩,
 ⟨.f,1,8,[.pl .nilFunc],false⟩,
 ⟨.st [(0,1),(1,1),(2,1)],3,40,[.int .i64 0,.int .i64 0,.pl (.slice none 0 0)],false⟩,
 ⟨.st [(0,1),(1,1),(2,1)],3,40,[.int .i64 0,.int .i64 0,.pl (.slice none 0 0)],false⟩,
 ⟨.f,1,8,[.pl .nilFunc],false⟩,
 ⟨.o,1,0,[],false⟩,
 ⟨.f,1,8,[.pl .nilFunc],false⟩,
 ⟨.f,1,8,[.pl .nilFunc],false⟩,
 ⟨.f,1,8,[.pl .nilFunc],false⟩,
 ⟨.f,1,8,[.pl .nilFunc],false⟩,
 ⟨.o,1,0,[],false⟩,
 ⟨.f,1,8,[.pl .nilFunc],false⟩]
def Ur:List TyI:=[
 ⟨.sl 34,1,24,[.pl (.slice none 0 0)],false⟩,
 ⟨.o,1,0,[],false⟩,
 ⟨.f,1,8,[.pl .nilFunc],false⟩,
 ⟨.f,1,8,[.pl .nilFunc],false⟩,
 ⟨.f,1,8,[.pl .nilFunc],false⟩,
 ⟨.f,1,8,[.pl .nilFunc],false⟩,
 ⟨.f,1,8,[.pl .nilFunc],false⟩,
 ⟨.f,1,8,[.pl .nilFunc],false⟩,
 ⟨.f,1,8,[.pl .nilFunc],false⟩,
 ⟨.f,1,8,[.pl .nilFunc],false⟩,
 ⟨.f,1,8,[.pl .nilFunc],false⟩,
 ⟨.f,1,8,[.pl .nilFunc],false⟩,
 ⟨.f,1,8,[.pl .nilFunc],false⟩,
 ⟨.f,1,8,[.pl .nilFunc],false⟩,
 ⟨.o,1,0,[],false⟩,
 ⟨.f,1,8,[.pl .nilFunc],false⟩]
def Uq:List TyI:=[
 ⟨.f,1,8,[.pl .nilFunc],false⟩,
 ⟨.f,1,8,[.pl .nilFunc],false⟩,
 ⟨.st [(0,1),(1,1),(2,1)],3,24,[.int .i64 0,.int .i64 0,.int .i64 0],false⟩,
 ⟨.st [(0,1),(1,1),(2,1)],3,24,[.int .i64 0,.int .i64 0,.int .i64 0],true⟩,
 ⟨.o,1,0,[],false⟩,
 ⟨.f,1,8,[.pl .nilFunc],false⟩,
 ⟨.o,1,0,[],false⟩,
 ⟨.f,1,8,[.pl .nilFunc],false⟩,
 ⟨.f,1,8,[.pl .nilFunc],false⟩,
 ⟨.f,1,8,[.pl .nilFunc],false⟩,
 ⟨.f,1,8,[.pl .nilFunc],false⟩,
 ⟨.sl 26,1,24,[.pl (.slice none 0 0)],false⟩,
 ⟨.f,1,8,[.pl .nilFunc],false⟩,
 ⟨.f,1,8,[.pl .nilFunc],false⟩,
 ⟨.f,1,8,[.pl .nilFunc],false⟩,
 ⟨.f,1,8,[.pl .nilFunc],false⟩]
def Up:List TyI:=[
 ⟨.f,1,8,[.pl .nilFunc],false⟩,
 ⟨.f,1,8,[.pl .nilFunc],false⟩,
 ⟨.f,1,8,[.pl .nilFunc],false⟩,
 ⟨.f,1,8,[.pl .nilFunc],false⟩,
 ⟨.f,1,8,[.pl .nilFunc],false⟩,
 ⟨.f,1,8,[.pl .nilFunc],false⟩,
 ⟨.f,1,8,[.pl .nilFunc],false⟩,
 ⟨.f,1,8,[.pl .nilFunc],false⟩,
 ⟨.f,1,8,[.pl .nilFunc],false⟩,
 ⟨.f,1,8,[.pl .nilFunc],false⟩,
 ⟨.o,1,0,[],false⟩,
 ⟨.f,1,8,[.pl .nilFunc],false⟩,
 ⟨.f,1,8,[.pl .nilFunc],false⟩,
 ⟨.f,1,8,[.pl .nilFunc],false⟩,
 ⟨.f,1,8,[.pl .nilFunc],false⟩,
 ⟨.f,1,8,[.pl .nilFunc],false⟩]
def Uo:List TyI:=[
 ⟨.f,1,8,[.pl .nilFunc],false⟩,
 ⟨.sl 48,1,24,[.pl (.slice none 0 0)],false⟩,
 ⟨.st [(0,1),(1,1),(2,1)],3,64,[.pl (.slice none 0 0),.pl (.slice none 0 0),.str []],false⟩,
 ⟨.st [(0,1),(1,1),(2,1)],3,64,[.pl (.slice none 0 0),.pl (.slice none 0 0),.str []],false⟩,
 ⟨.f,1,8,[.pl .nilFunc],false⟩,
 ⟨.f,1,8,[.pl .nilFunc],false⟩,
 ⟨.f,1,8,[.pl .nilFunc],false⟩,
 ⟨.f,1,8,[.pl .nilFunc],false⟩,
 ⟨.f,1,8,[.pl .nilFunc],false⟩,
 ⟨.f,1,8,[.pl .nilFunc],false⟩,
 ⟨.f,1,8,[.pl .nilFunc],false⟩,
 ⟨.f,1,8,[.pl .nilFunc],false⟩,
 ⟨.f,1,8,[.pl .nilFunc],false⟩,
 ⟨.f,1,8,[.pl .nilFunc],false⟩,
 ⟨.o,1,0,[],false⟩,
 ⟨.f,1,8,[.pl .nilFunc],false⟩]
def Un:List TyI:=[
 ⟨.f,1,8,[.pl .nilFunc],false⟩,
 ⟨.f,1,8,[.pl .nilFunc],false⟩,
 ⟨.o,1,0,[],false⟩,
 ⟨.f,1,8,[.pl .nilFunc],false⟩,
 ⟨.f,1,8,[.pl .nilFunc],false⟩,
 ⟨.f,1,8,[.pl .nilFunc],false⟩,
 ⟨.f,1,8,[.pl .nilFunc],false⟩,
 ⟨.f,1,8,[.pl .nilFunc],false⟩,
 ⟨.o,1,0,[],false⟩,
 ⟨.f,1,8,[.pl .nilFunc],false⟩,
 ⟨.f,1,8,[.pl .nilFunc],false⟩,
 ⟨.f,1,8,[.pl .nilFunc],false⟩,
 ⟨.o,1,0,[],false⟩,
 ⟨.f,1,8,[.pl .nilFunc],false⟩,
 ⟨.f,1,8,[.pl .nilFunc],false⟩,
 ⟨.f,1,8,[.pl .nilFunc],false⟩]
def Se:List TyI:=[
 ⟨.o,1,0,[],false⟩,
 ⟨.f,1,8,[.pl .nilFunc],false⟩,
 ⟨.f,1,8,[.pl .nilFunc],false⟩,
 ⟨.f,1,8,[.pl .nilFunc],false⟩,
 ⟨.f,1,8,[.pl .nilFunc],false⟩,
 ⟨.f,1,8,[.pl .nilFunc],false⟩,
 ⟨.f,1,8,[.pl .nilFunc],false⟩,
 ⟨.f,1,8,[.pl .nilFunc],false⟩,
 ⟨.f,1,8,[.pl .nilFunc],false⟩,
 ⟨.f,1,8,[.pl .nilFunc],false⟩,
 ⟨.f,1,8,[.pl .nilFunc],false⟩,
 ⟨.o,1,0,[],false⟩,
 ⟨.f,1,8,[.pl .nilFunc],false⟩,
 ⟨.f,1,8,[.pl .nilFunc],false⟩,
 ⟨.f,1,8,[.pl .nilFunc],false⟩,
 ⟨.f,1,8,[.pl .nilFunc],false⟩]
def Sd:List TyI:=[
 ⟨.f,1,8,[.pl .nilFunc],false⟩,
 ⟨.f,1,8,[.pl .nilFunc],false⟩,
 ⟨.f,1,8,[.pl .nilFunc],false⟩,
 ⟨.f,1,8,[.pl .nilFunc],false⟩,
 ⟨.f,1,8,[.pl .nilFunc],false⟩,
 ⟨.o,1,0,[],false⟩,
 ⟨.f,1,8,[.pl .nilFunc],false⟩,
 ⟨.f,1,8,[.pl .nilFunc],false⟩,
 ⟨.f,1,8,[.pl .nilFunc],false⟩,
 ⟨.f,1,8,[.pl .nilFunc],false⟩,
 ⟨.f,1,8,[.pl .nilFunc],false⟩,
 ⟨.f,1,8,[.pl .nilFunc],false⟩,
 ⟨.f,1,8,[.pl .nilFunc],false⟩,
 ⟨.f,1,8,[.pl .nilFunc],false⟩,
 ⟨.f,1,8,[.pl .nilFunc],false⟩,
 ⟨.f,1,8,[.pl .nilFunc],false⟩]
def Sb:List TyI:=[
 ⟨.f,1,8,[.pl .nilFunc],false⟩,
 ⟨.f,1,8,[.pl .nilFunc],false⟩,
 ⟨.f,1,8,[.pl .nilFunc],false⟩,
 ⟨.it,1,16,[.pl .nilIface],false⟩,
 ⟨.it,1,16,[.pl .nilIface],false⟩,
 ⟨.o,1,0,[],false⟩,
 ⟨.f,1,8,[.pl .nilFunc],false⟩,
 ⟨.i .u64,1,8,[.int .u64 0],false⟩,
 ⟨.o,1,0,[],false⟩,
 ⟨.f,1,8,[.pl .nilFunc],false⟩,
 ⟨.f,1,8,[.pl .nilFunc],false⟩,
 ⟨.sl 199,1,24,[.pl (.slice none 0 0)],false⟩,
 ⟨.sl 199,1,24,[.pl (.slice none 0 0)],false⟩,
 ⟨.f,1,8,[.pl .nilFunc],false⟩,
 ⟨.f,1,8,[.pl .nilFunc],false⟩,
 ⟨.f,1,8,[.pl .nilFunc],false⟩]
def Sa:List TyI:=[
 ⟨.f,1,8,[.pl .nilFunc],false⟩,
 ⟨.f,1,8,[.pl .nilFunc],false⟩,
 ⟨.f,1,8,[.pl .nilFunc],false⟩,
 ⟨.i .u64,1,8,[.int .u64 0],false⟩,
 ⟨.f,1,8,[.pl .nilFunc],false⟩,
 ⟨.f,1,8,[.pl .nilFunc],false⟩,
 ⟨.f,1,8,[.pl .nilFunc],false⟩,
 ⟨.f,1,8,[.pl .nilFunc],false⟩,
 ⟨.o,1,0,[],false⟩,
 ⟨.f,1,8,[.pl .nilFunc],false⟩,
 ⟨.f,1,8,[.pl .nilFunc],false⟩,
 ⟨.f,1,8,[.pl .nilFunc],false⟩,
 ⟨.o,1,0,[],false⟩,
 ⟨.f,1,8,[.pl .nilFunc],false⟩,
 ⟨.f,1,8,[.pl .nilFunc],false⟩,
 ⟨.o,1,0,[],false⟩]
def R9:List TyI:=[
 ⟨.f,1,8,[.pl .nilFunc],false⟩,
 ⟨.o,1,0,[],false⟩,
 ⟨.f,1,8,[.pl .nilFunc],false⟩,
 ⟨.f,1,8,[.pl .nilFunc],false⟩,
 ⟨.f,1,8,[.pl .nilFunc],false⟩,
 ⟨.f,1,8,[.pl .nilFunc],false⟩,
 ⟨.o,1,0,[],false⟩,
 ⟨.f,1,8,[.pl .nilFunc],false⟩,
 ⟨.f,1,8,[.pl .nilFunc],false⟩,
 ⟨.sl 5,1,24,[.pl (.slice none 0 0)],false⟩,
 ⟨.f,1,8,[.pl .nilFunc],false⟩,
 ⟨.f,1,8,[.pl .nilFunc],false⟩,
 ⟨.o,1,0,[],false⟩,
 ⟨.f,1,8,[.pl .nilFunc],false⟩,
 ⟨.f,1,8,[.pl .nilFunc],false⟩,
 ⟨.f,1,8,[.pl .nilFunc],false⟩]
def R8:List TyI:=[
 ⟨.ar 24 5,24,24,List.replicate 24 (.int .u8 0),false⟩,
 ⟨.f,1,8,[.pl .nilFunc],false⟩,
 ⟨.f,1,8,[.pl .nilFunc],false⟩,
 ⟨.o,1,0,[],false⟩,
 ⟨.f,1,8,[.pl .nilFunc],false⟩,
 ⟨.i .i64,1,8,[.int .i64 0],false⟩,
 ⟨.p,1,8,[.pl (.pointer none)],false⟩,
 ⟨.f,1,8,[.pl .nilFunc],false⟩,
 ⟨.f,1,8,[.pl .nilFunc],false⟩,
 ⟨.o,1,0,[],false⟩,
 ⟨.f,1,8,[.pl .nilFunc],false⟩,
 ⟨.f,1,8,[.pl .nilFunc],false⟩,
 ⟨.i .u32,1,4,[.int .u32 0],false⟩,
 ⟨.f,1,8,[.pl .nilFunc],false⟩,
 ⟨.f,1,8,[.pl .nilFunc],false⟩,
 ⟨.ar 20 199,20,160,List.replicate 20 (.int .u64 0),false⟩]
def R7:List TyI:=[
 ⟨.ar 65 5,65,65,List.replicate 65 (.int .u8 0),false⟩,
 ⟨.f,1,8,[.pl .nilFunc],false⟩,
 ⟨.st [(0,1),(1,1),(2,1)],3,48,[.str [],.str [],.pl .nilIface],false⟩,
 ⟨.st [(0,1),(1,1),(2,1)],3,48,[.str [],.str [],.pl .nilIface],false⟩,
 ⟨.f,1,8,[.pl .nilFunc],false⟩,
 ⟨.f,1,8,[.pl .nilFunc],false⟩,
 ⟨.f,1,8,[.pl .nilFunc],false⟩,
 ⟨.p,1,8,[.pl (.pointer none)],false⟩,
 ⟨.p,1,8,[.pl (.pointer none)],false⟩,
 ⟨.st [(0,1)],1,16,[.str []],false⟩,
 ⟨.st [(0,1)],1,16,[.str []],false⟩,
 ⟨.ar 32 5,32,32,List.replicate 32 (.int .u8 0),false⟩,
 ⟨.ar 64 5,64,64,List.replicate 64 (.int .u8 0),false⟩,
 ⟨.f,1,8,[.pl .nilFunc],false⟩,
 ⟨.st [(0,1),(1,1),(2,1),(3,1)],4,40,[.pl (.pointer none),.pl (.pointer none),.pl (.pointer none),.str []],false⟩,
 ⟨.st [(0,1),(1,1),(2,1),(3,1)],4,40,[.pl (.pointer none),.pl (.pointer none),.pl (.pointer none),.str []],false⟩]
def R6:List TyI:=[
 ⟨.ar 0 16,0,0,[],false⟩,
 ⟨.st [(0,0)],0,0,[],false⟩,
 ⟨.st [(0,0)],0,0,[],false⟩,
 ⟨.i .u8,1,1,[.int .u8 0],false⟩,
 ⟨.i .u8,1,1,[.int .u8 0],false⟩,
 ⟨.f,1,8,[.pl .nilFunc],false⟩,
 ⟨.i .i32,1,4,[.int .i32 0],false⟩,
 ⟨.i .i32,1,4,[.int .i32 0],false⟩,
 ⟨.st [(0,1),(1,1),(2,1),(3,1),(4,1),(5,1),(6,1),(7,1),(8,1),(9,1),(10,1)],11,48,[.int .u64 0,.int .u64 0,.int .u32 0,.int .u8 0,.int .u8 0,.int .u8 0,.int .u8 0,.pl .nilFunc,.pl (.pointer none),.int .i32 0,.int .i32 0],false⟩,
 ⟨.st [(0,1),(1,1),(2,1),(3,1),(4,1),(5,1),(6,1),(7,1),(8,1),(9,1),(10,1)],11,48,[.int .u64 0,.int .u64 0,.int .u32 0,.int .u8 0,.int .u8 0,.int .u8 0,.int .u8 0,.pl .nilFunc,.pl (.pointer none),.int .i32 0,.int .i32 0],false⟩,
 ⟨.o,1,8,[.pl (.pointer none)],false⟩]
def xD:List (List TyI):=[Uw,Uv,Uu,Ut,Us,Ur,Uq,Up,Uo,Un,Se,Sd,Sb,Sa,R9,R8,R7,R6]
def Rn:List Nat:=[0,1,222,223,224,225,226,227,228,229,230,231,232,233,234,235,236,237,238,239,240,241,242,243,244,245,246,247]
def jQ:Nat:=0
namespace F
def bv:FuncId:=4
def dp:FuncId:=13
def eB:FuncId:=16
def jO:FuncId:=18
def cV:FuncId:=19
def cO:FuncId:=20
def dN:FuncId:=21
def je:FuncId:=22
def bY:FuncId:=23
def iq:FuncId:=24
def kw:FuncId:=25
def cS:FuncId:=26
def fe:FuncId:=27
def jz:FuncId:=28
def jy:FuncId:=30
def bE:FuncId:=31
def fp:FuncId:=37
def ou:FuncId:=38
def mQ:FuncId:=40
def lu:FuncId:=42
def bF:FuncId:=51
def du:FuncId:=53
def iy:FuncId:=55
def jd:FuncId:=56
def jc:FuncId:=57
def fN:FuncId:=58
def jN:FuncId:=59
def bO:FuncId:=60
def ci:FuncId:=61
def dP:FuncId:=62
def fR:FuncId:=63
def eO:FuncId:=64
def dz:FuncId:=65
def gA:FuncId:=66
def eh:FuncId:=67
def jv:FuncId:=68
def bD:FuncId:=69
def kv:FuncId:=70
def iC:FuncId:=71
def aE:FuncId:=72
def gR:FuncId:=73
def cG:FuncId:=74
def iD:FuncId:=75
def eA:FuncId:=80
def eG:FuncId:=81
def dh:FuncId:=82
def jM:FuncId:=84
def o5:FuncId:=85
def jX:FuncId:=86
def cY:FuncId:=87
def ot:FuncId:=91
def gH:FuncId:=92
def bM:FuncId:=93
def ax:FuncId:=94
def jW:FuncId:=97
def fO:FuncId:=100
def il:FuncId:=101
def iB:FuncId:=102
def dM:FuncId:=103
def fC:FuncId:=104
def fB:FuncId:=105
def ku:FuncId:=106
def gv:FuncId:=107
def cZ:FuncId:=108
def bV:FuncId:=109
def aZ:FuncId:=110
def gG:FuncId:=111
def aH:FuncId:=112
def av:FuncId:=113
def fh:FuncId:=114
def eN:FuncId:=115
def kG:FuncId:=116
def jU:FuncId:=117
def kC:FuncId:=122
def ef:FuncId:=123
def eD:FuncId:=124
def aW:FuncId:=127
def aF:FuncId:=128
def bA:FuncId:=129
def fU:FuncId:=130
def bw:FuncId:=131
def gU:FuncId:=132
def gV:FuncId:=133
def jw:FuncId:=138
def df:FuncId:=139
def fP:FuncId:=140
def aL:FuncId:=141
def iH:FuncId:=142
def bU:FuncId:=143
def gI:FuncId:=144
def dJ:FuncId:=145
def dL:FuncId:=146
def m5:FuncId:=147
def dS:FuncId:=148
def aI:FuncId:=149
def ju:FuncId:=150
def kD:FuncId:=151
def aB:FuncId:=152
def gj:FuncId:=153
def jH:FuncId:=155
def fW:FuncId:=156
def io:FuncId:=157
def eE:FuncId:=159
def dR:FuncId:=160
def gB:FuncId:=161
def bL:FuncId:=162
def bG:FuncId:=163
def ah:FuncId:=164
def aC:FuncId:=165
def cg:FuncId:=166
def aR:FuncId:=167
def o7:FuncId:=170
def dY:FuncId:=171
def jb:FuncId:=172
def mP:FuncId:=173
def d8:FuncId:=174
def cl:FuncId:=175
def gJ:FuncId:=176
def size_digits:FuncId:=177
def bz:FuncId:=178
def bK:FuncId:=179
def cW:FuncId:=180
def ib:FuncId:=181
def mK:FuncId:=182
def jI:FuncId:=183
def aP:FuncId:=184
def b9:FuncId:=185
def eM:FuncId:=186
def wu:FuncId:=187
def fS:FuncId:=188
def d9:FuncId:=189
def bh:FuncId:=190
def gZ:FuncId:=191
def dW:FuncId:=192
def s7:FuncId:=193
def fT:FuncId:=194
def fL:FuncId:=195
def bp:FuncId:=196
def fc:FuncId:=197
def fk:FuncId:=198
def b6:FuncId:=199
def bc:FuncId:=200
def lY:FuncId:=201
def dK:FuncId:=206
def cE:FuncId:=207
def pL:FuncId:=208
def dj:FuncId:=209
def iL:FuncId:=211
def dU:FuncId:=212
def dV:FuncId:=213
end F
end Go.Vm
namespace Go.Vm
open Go Go.Am
noncomputable section
def NC:List TyI->Nat->TyI
 | [],_=>⟨.o,0,0,[],false⟩
 | x::_,0=>x
 | _::l,n+1=>NC l n
def Dp:List (List TyI)->Nat->List TyI
 | [],_=>[]
 | x::_,0=>x
 | _::l,n+1=>Dp l n
def k8:Nat->List UInt8->Nat
 | a,[]=>a
 | a,c::l=>k8 (a*10+(c.toNat-48)) l
def kz (c:UInt8):Bool:=Nat.ble 48 c.toNat && Nat.ble c.toNat 57
def Ej:List Value->Option Value
 | [.string s,.int .i64 a,.int .i64 b]=>if a=10∧b=64∧s.data.toList≠[]∧s.data.toList.all kz=true∧s.data.toList.length<=1000∧k8 0 s.data.toList<10000000000000000000 then some (.tuple #[.int .u64 (k8 0 s.data.toList),.nilIface]) else none
 | _=>none
def HS:List Value->Option Value
 | [.string s,.int .i64 a,.int .i64 b]=>if a=10∧b=64 then (match s.data.toList with
  | 45::l=>if l≠[]∧l.all kz=true∧l.length<=1000∧k8 0 l<9223372036854775808 then some (.tuple #[.int .i64 (-(k8 0 l:Int)),.nilIface]) else none
  | l=>if l≠[]∧l.all kz=true∧l.length<=1000∧k8 0 l<9223372036854775808 then some (.tuple #[.int .i64 (k8 0 l),.nilIface]) else none) else none
 | _=>none
def GK:Value->Bool
 | .slice ..=>true
 | _=>false
def CZ (H:AH) (p q:Value):Option (List (List Value)):=match lj H 1 p,lj H 1 q with
 | some (k,xs),some (k',ys)=>if k=k'∧xs.length=k∧ys.length=k∧k<4611686018427387904∧(GK p && GK q)=true∧(xs.all fun v=>plain v && okCell v)=true∧(ys.all fun v=>plain v && okCell v)=true then some ((xs.zip ys).map fun x=>[x.1,x.2]) else none
 | _,_=>none
def xX (f:FuncId) (lb:List Value) (H:AH):Option (List (List Value)):=match Nat.beq f F.cl with
 | true=>match lb with
  | [.pointer (some ⟨b,o,none⟩)]=>match bi H b o 3 with
   | some [p,q,_]=>CZ H p q
   | _=>none
  | _=>none
 | false=>match Nat.beq f F.o7 with
  | true=>match lb with
   | [.pointer (some ⟨b,o,none⟩),.pointer (some ⟨b',o',none⟩)]=>match bi H b o 1,bi H b' o' 1 with
    | some [p],some [q]=>CZ H p q
    | _,_=>none
   | _=>none
  | false=>none
def DW (f:FuncId) (lb:List Value) (H:AH):List Value:=match lb with
 | [.pointer (some ⟨b,o,none⟩)]=>(bi H b o 3).getD []
 | [.pointer (some ⟨b,o,none⟩),.pointer (some ⟨b',o',none⟩)]=>(bi H b o 1).getD []++(bi H b' o' 1).getD []
 | _=>[]
def lits:List D->Option (List Value)
 | []=>some []
 | x::l=>match x,lits l with
  | .int k n,some r=>some (.int k n::r)
  | .str s,some r=>some (.string ⟨⟨s⟩⟩::r)
  | _,_=>none
def slD:D->Option (Nat × List D)
 | .sl n l=>some (n,l)
 | .pl (.slice none 0 0)=>some (0,[])
 | _=>none
def IW (p q:D):Option (List (List Value)):=match slD p,slD q with
 | some (k,l),some (k',m)=>match lits l,lits m with
  | some xs,some ys=>if k=k'∧xs.length=k∧ys.length=k∧k<4611686018427387904 then some ((xs.zip ys).map fun x=>[x.1,x.2]) else none
  | _,_=>none
 | _,_=>none
def Qh (f:FuncId) (cs:List V):Option (List (List Value)):=match Nat.beq f F.cl with
 | true=>match cs with
  | [.dptr [p,q,_] 0]=>IW p q
  | _=>none
 | false=>match Nat.beq f F.o7 with
  | true=>match cs with
   | [.dptr [p] 0,.dptr [q] 0]=>IW p q
   | _=>none
  | false=>none
def X:Cfg:={ P:=Go.Proofs.Tryz.prog,allow:=dw Rn,glob:=fun g=>Nat.beq g jQ,orc:=fun f args=>(match Nat.beq f F.dK with
 | true=>Ej args
 | false=>match Nat.beq f F.d8 with
  | true=>HS args
  | false=>none),seq:=xX,seqK:=DW }
def El:List D:=[.int .u64 1,.int .u64 10,.int .u64 100,.int .u64 1000,.int .u64 10000,.int .u64 100000,.int .u64 1000000,.int .u64 10000000,.int .u64 100000000,.int .u64 1000000000,.int .u64 10000000000,.int .u64 100000000000,
 .int .u64 1000000000000,.int .u64 10000000000000,.int .u64 100000000000000,.int .u64 1000000000000000,.int .u64 10000000000000000,.int .u64 100000000000000000,.int .u64 1000000000000000000,.int .u64 10000000000000000000]
def Y:iw:={ X:=X,ty:=fun t=>NC (Dp xD (t / 16)) (t % 16),glob:=fun g=>(match Nat.beq g jQ with
 | true=>some El
 | false=>none),seq:=Qh }
end
end Go.Vm
set_option maxRecDepth 100000
namespace Go.Vm
open Go Go.Am
def Q5:Value->Value->Bool
 | .pointer none,.pointer none=>true
 | .slice none a b,.slice none c d=>a == c && b == d
 | .nilFunc,.nilFunc=>true
 | .nilIface,.nilIface=>true
 | .map none,.map none=>true
 | .chan none,.chan none=>true
 | _,_=>false
theorem OI {x y:Value} (h:Q5 x y=true):x=y:=by
 unfold Q5 at h;split at h <;> first | rfl | (simp at h;obtain ⟨rfl,rfl⟩:=h;rfl) | cases h
def Q6:D->D->Bool
 | .int k a,.int l b=>decide (k=l) && decide (a=b)
 | .bool a,.bool b=>a == b
 | .str a,.str b=>a == b
 | .pl a,.pl b=>Q5 a b
 | _,_=>false
theorem OJ {x y:D} (h:Q6 x y=true):x=y:=by
 unfold Q6 at h;split at h
 ·simp at h;obtain ⟨rfl,rfl⟩:=h;rfl
 ·simp at h;subst h;rfl
 ·simp at h;subst h;rfl
 ·rw [OI h]
 ·cases h
def My:List D->List D->Bool
 | [],[]=>true
 | x::l,y::m=>Q6 x y && My l m
 | _,_=>false
theorem Il:∀ {l m:List D},My l m=true->l=m
 | [],[],_=>rfl
 | x::l,y::m,h=>by
  simp only [My,Z8] at h;rw [OJ h.1,Il h.2]
 | [],_::_,h=>by cases h
 | _::_,[],h=>by cases h
def L5 (P:Program) (t:TypeId) (k:Ty):Bool:=match k with
 | .i k=>match P.underlying t with | some (.int k')=>decide (k'=k) | _=>false
 | .b=>match P.underlying t with | some .bool=>true | _=>false
 | .s=>match P.underlying t with | some .string=>true | _=>false
 | .p=>match P.underlying t with | some (.pointer _)=>true | _=>false
 | .f=>match P.underlying t with | some (.func ..)=>true | _=>false
 | .it=>match P.underlying t with | some (.interface _)=>true | _=>false
 | .sl e=>match P.underlying t with | some (.slice e')=>e' == e | _=>false
 | .ar n e=>match P.underlying t with | some (.array n' e')=>n' == n && e' == e | _=>false
 | .st fs=>match P.underlying t with | some (.struct gs)=>decide (gs.toList.map (fun f=>(f.offset,szO P f.type))=fs.map fun p=>(p.1,some p.2)) | _=>false
 | .o=>true
def GI (P:Program) (t:TypeId):D->Bool
 | .int _ _=>match P.underlying t with | some (.int _)=>true | _=>false
 | .bool _=>match P.underlying t with | some .bool=>true | _=>false
 | .str _=>match P.underlying t with | some .string=>true | _=>false
 | _=>false
theorem JM {P:Program} {t:TypeId} {d:D} (h:GI P t d=true):Ie P t d:=by
 unfold GI at h;split at h
 ·split at h
  ·rename_i hu;exact ⟨_,hu⟩
  ·cases h
 ·split at h
  ·rename_i hu;exact hu
  ·cases h
 ·split at h
  ·rename_i hu;exact hu
  ·cases h
 ·cases h
def Mq (P:Program) (t:TypeId) (z:List D):Bool:=match P.underlying t with
 | some (.struct gs) => !P.stoodInHeld t && !P.eqGuardType P.depth t && decide (gs.size = z.length) && (gs.toList.zipIdx.zip z).all fun x => x.1.1.offset == x.1.2 && x.1.1.name != "_" && GI P x.1.1.type x.2
 | _=>false
theorem Mp {P:Program} {t:TypeId} {z:List D} (h:Mq P t z=true):CY P t z:=by
 unfold Mq at h;split at h
 ·rename_i gs hu;simp only [Z8,Zc,decide_eq_true_eq,Zz] at h;obtain ⟨⟨⟨h1,h2⟩,h3⟩,h4⟩:=h;refine ⟨gs,hu,h1,h2,h3,fun i f d hf hd=>?_⟩
  have:=h4 ((f,i),d) (by
   apply Y6 (i:=i);rw [List.getElem?_zip_eq_some];exact ⟨by rw [List.getElem?_zipIdx,hf];simp,hd⟩)
  simp only [beq_iff_eq,bne_iff_ne] at this;exact ⟨this.1.1,this.1.2,JM this.2⟩
 ·cases h
def tyB (P:Program) (t:TypeId) (i:TyI):Bool:=(!i.eq || Mq P t i.z) && match i.k with
 | .o=>true
 | k=>L5 P t k && decide (szO P t=some i.sz) && decide (mj P t=some i.bytes) && match fK P t with
  | some z=>plain z && z.cells.size == i.sz && (z.cells.toList.all fun c=>plain c && okCell c) && My (z.cells.toList.map gn) i.z
  | none=>false
theorem Hq {P : Program} {t : TypeId} {i : TyI} (h : tyB P t i = true) : PZ P t i := by
  unfold tyB at h;rw [Z8] at h;obtain ⟨h0, h⟩ := h
  have heq : i.eq = true -> CY P t i.z := fun e => by
    rw [e] at h0;exact Mp (by simpa using h0)
  by_cases hk : i.k = .o
  · exact ⟨by rw [hk];trivial, fun h => absurd hk h, fun h => absurd hk h, fun h => absurd hk h, heq⟩
  · have h2 : L5 P t i.k = true ∧ szO P t = some i.sz ∧ mj P t = some i.bytes ∧ (match fK P t with
        | some z => plain z && z.cells.size == i.sz && (z.cells.toList.all fun c => plain c && okCell c) && My (z.cells.toList.map gn) i.z
        | none => false) = true := by
      split at h
      · rename_i e;exact absurd e hk
      · simp only [Z8, decide_eq_true_eq] at h
        exact ⟨h.1.1.1, h.1.1.2, h.1.2, h.2⟩
    obtain ⟨h1, h2, h3, h4⟩ := h2;refine ⟨?_, fun _ => h2, fun _ => h3, fun _ => ?_, heq⟩
    · unfold L5 at h1
      cases hq : i.k <;> rw [hq] at h1 <;> dsimp only at h1 ⊢
      all_goals first
        | trivial
        | (split at h1
           · rename_i hu
             first
               | (simp only [decide_eq_true_eq] at h1;subst h1;exact hu)
               | exact hu
               | exact ⟨_, hu⟩
               | exact ⟨_, _, _, hu⟩
               | (simp only [beq_iff_eq] at h1;subst h1;exact hu)
               | (simp only [Z8, beq_iff_eq] at h1;obtain ⟨rfl, rfl⟩ := h1;exact hu)
               | (simp only [decide_eq_true_eq] at h1;exact ⟨_, hu, h1⟩)
           · cases h1)
    · split at h4
      · rename_i z hz
        simp only [Z8, beq_iff_eq, Zz] at h4;refine ⟨z, hz, h4.1.1.1, Il h4.2, h4.1.1.2, fun c hc => ?_⟩;have := h4.1.2 c hc;exact this
      · cases h4
theorem uU:∀ (l:List (List TyI)) (n:Nat),l.length<=n->Dp l n=[]
 | [],_,_=>rfl
 | _::_,0,h=>by simp at h
 | _::l,n+1,h=>uU l n (by simpa using h)
theorem P7:(List.range (16*xD.length)).all (fun t=>tyB Y.X.P t (Y.ty t))=true:=by decide +kernel
section
variable {F:Nat->Prop} {H:AH}
theorem t6:∀ {l:List D} {xs:List Value},lits l=some xs->(∀ v∈xs,okZ v)∧∀ ws,RDs F H l ws->ws=xs
 | [],xs,h=>by
  simp only [lits,Z9] at h;subst h;exact ⟨fun v hv=>(by cases hv),fun ws hw=>by simpa only [RDs] using hw⟩
 | x::l,xs,h=>by
  unfold lits at h;split at h
  ·rename_i k n r hr;simp only [Z9] at h;subst h;obtain ⟨q1,q2⟩:=t6 hr;refine ⟨fun v hv=>?_,fun ws hw=>?_⟩
   ·rcases Zt.1 hv with rfl | hv
    ·exact ⟨rfl,rfl⟩
    ·exact q1 v hv
   ·simp only [RDs,RD] at hw;obtain ⟨v,us,rfl,rfl,h2⟩:=hw;rw [q2 us h2]
  ·rename_i s r hr;simp only [Z9] at h;subst h;obtain ⟨q1,q2⟩:=t6 hr;refine ⟨fun v hv=>?_,fun ws hw=>?_⟩
   ·rcases Zt.1 hv with rfl | hv
    ·exact ⟨rfl,rfl⟩
    ·exact q1 v hv
   ·simp only [RDs,RD] at hw;obtain ⟨v,us,rfl,rfl,h2⟩:=hw;rw [q2 us h2]
  ·cases h
theorem KQ {p:D} {k:Nat} {l:List D} {xs:List Value} (h:slD p=some (k,l)) (hl:lits l=some xs) (hk:xs.length=k) {w:Value} (hw:RD F H p w):lj H 1 w=some (k,xs):=by
 obtain ⟨q1,q2⟩:=t6 (F:=F) (H:=H) hl;unfold slD at h;split at h
 ·rename_i n l';simp only [Z9,Prod.mk.injEq] at h;obtain ⟨rfl,rfl⟩:=h;simp only [RD] at hw;rcases hw with ⟨rfl,rfl,h3⟩ | ⟨c,o,cap,vs,m,rfl,h1,h2,h3,h4,h5,h6,h7,h8⟩
  ·simp only [lits,Z9] at hl;subst hl;rcases h3 with rfl | ⟨c,o,cap,rfl,_⟩
   ·rfl
   ·simp [lj]
  ·have e:=q2 vs h7;subst e
   have hl:l'.length=n:=by
    rw [<- hk,Jo h6]
   simp only [lj,Yl];rw [if_neg (by omega),<- hl,h6];simp
 ·simp only [Z9,Prod.mk.injEq] at h;obtain ⟨rfl,rfl⟩:=h;simp only [lits,Z9] at hl;subst hl;simp only [RD] at hw;obtain ⟨rfl,_⟩:=hw;rfl
 ·cases h
theorem KP {p:D} {k:Nat} {l:List D} (h:slD p=some (k,l)) {w:Value} (hw:RD F H p w):GK w=true:=by
 unfold slD at h;split at h
 ·rename_i n l';simp only [RD] at hw;rcases hw with ⟨_,_,h3⟩ | ⟨c,o,cap,vs,m,rfl,_⟩
  ·rcases h3 with rfl | ⟨c,o,cap,rfl,_⟩ <;> rfl
  ·rfl
 ·simp only [RD] at hw;obtain ⟨rfl,_⟩:=hw;rfl
 ·cases h
theorem wW {p q:D} {xs:List (List Value)} (h:IW p q=some xs):(∀ z∈xs,∀ v∈z,okZ v)∧∀ v w,RD F H p v->RD F H q w->CZ H v w=some xs:=by
 unfold IW at h;split at h
 case h_2=>cases h
 rename_i k l k' m hp hq;split at h
 case h_2=>cases h
 rename_i us vs hl hm;split at h
 case isFalse=>cases h
 rename_i hc;simp only [Z9] at h;subst h;have o1:=(t6 (F:=F) (H:=H) hl).1;have o2:=(t6 (F:=F) (H:=H) hm).1;refine ⟨fun z hz v hv=>?_,fun v w hv hw=>?_⟩
 ·obtain ⟨⟨a,b⟩,hab,rfl⟩:=Zd.1 hz;have:=List.of_mem_zip hab;simp only [Zt,Zb,or_false] at hv;rcases hv with rfl | rfl
  ·exact o1 _ this.1
  ·exact o2 _ this.2
 ·unfold CZ;rw [KQ hp hl hc.2.1 hv,KQ hq hm (hc.2.2.1.trans hc.1) hw];have c1:(us.all fun v=>plain v && okCell v)=true:=Zz.2 fun x hx=>by have:=o1 x hx;simp [this.1,this.2]
  have c2:(vs.all fun v=>plain v && okCell v)=true:=Zz.2 fun x hx=>by have:=o2 x hx;simp [this.1,this.2]
  exact if_pos ⟨hc.1,hc.2.1,hc.2.2.1,hc.2.2.2,by rw [KP hp hv,KP hq hw];rfl,c1,c2⟩
end
theorem yOk:YOk Y where
 seq gf cs xs h0:=by
  have h:Qh gf cs=some xs:=h0;clear h0;unfold Qh at h;split at h
  ·rename_i hg;split at h
   ·rename_i p q d;refine ⟨(wW (F:=fun _=>True) (H:=⟨0,[]⟩) h).1,fun φ F H hp lb hr=>?_⟩;simp only [RVs,RV] at hr;obtain ⟨v,_,rfl,⟨c,o,vs,rfl,hF,hrd,hd⟩,rfl⟩:=hr;simp only [RDs] at hd;obtain ⟨v1,_,rfl,d1,v2,_,rfl,d2,v3,_,rfl,d3,rfl⟩:=hd;rw [show ([p,q,d]:List D).length=3 from rfl] at hrd;refine ⟨?_,fun F' H' hl=>?_⟩
    ·rw [show Y.X.seq=xX from rfl];unfold xX;rw [hg];simp only [Nat.add_zero];rw [hrd];exact (wW h).2 _ _ d1 d2
    ·rw [show Y.X.seqK=DW from rfl];simp only [DW,Nat.add_zero];rw [kH (hl.keep c hF)]
   ·cases h
  ·rename_i hg;split at h
   ·rename_i hg2;split at h
    ·rename_i p q;refine ⟨(wW (F:=fun _=>True) (H:=⟨0,[]⟩) h).1,fun φ F H hp lb hr=>?_⟩;simp only [RVs,RV] at hr;obtain ⟨v,_,rfl,⟨c,o,vs,rfl,hF,hrd,hd⟩,v',_,rfl,⟨c',o',vs',rfl,hF',hrd',hd'⟩,rfl⟩:=hr;simp only [RDs] at hd hd';obtain ⟨v1,_,rfl,d1,rfl⟩:=hd;obtain ⟨v2,_,rfl,d2,rfl⟩:=hd';rw [show ([p]:List D).length=1 from rfl] at hrd;rw [show ([q]:List D).length=1 from rfl] at hrd'
     refine ⟨?_,fun F' H' hl=>?_⟩
     ·rw [show Y.X.seq=xX from rfl];unfold xX;rw [hg,hg2];simp only [Nat.add_zero];rw [hrd,hrd'];exact (wW h).2 _ _ d1 d2
     ·rw [show Y.X.seqK=DW from rfl];simp only [DW,Nat.add_zero];rw [kH (hl.keep c hF),kH (hl.keep c' hF')]
    ·cases h
   ·cases h
 ty t:=by
  by_cases ht:t<16*xD.length
  ·exact Hq (Zz.1 P7 t (Ws.2 ht))
  ·refine Hq ?_
   have:(Y.ty t).k=.o:=by
    show (NC (Dp xD (t / 16)) (t % 16)).k=.o
    have h2:∀ t n:Nat,¬ t<16*n->n<=t / 16:=fun t n hn=>by omega
    rw [uU xD (t / 16) (h2 t _ ht)];rfl
   have h2:(Y.ty t).eq=false:=by
    show (NC (Dp xD (t / 16)) (t % 16)).eq=false
    have h2:∀ t n:Nat,¬ t<16*n->n<=t / 16:=fun t n hn=>by omega
    rw [uU xD (t / 16) (h2 t _ ht)];rfl
   unfold tyB;rw [this,h2];rfl
end Go.Vm
namespace Go.Vm
open Go Go.Am
theorem Tn {x:Prop} {o:Option V} {k k':V->Prop} (h1:x=bnd o k) (h:∀ v,k v=k' v):x=bnd o k':=by rw [h1,funext h]
theorem S5 {x:Prop} {o:V} {i:Nat} {k k':V->Prop} (h1:x=ext o i k) (h:∀ v,k v=k' v):x=ext o i k':=by rw [h1,funext h]
theorem Qv {x:Prop} {a b:V} {h0:Hp} {op:BinOp} {k k':V->Prop} (h1:x=Cd h0 op a b k) (h:∀ v,k v=k' v):x=Cd h0 op a b k':=by rw [h1,funext h]
theorem qu {x:Prop} {T:(V->Hp->Prop)->Prop} {k k':V->Hp->Prop} (h1:x=T k) (h:∀ v h,k v h=k' v h):x=T k':=by
 rw [h1,show k=k' from funext fun v=>funext fun y=>h v y]
theorem Ti {x:Prop} {C:mq} {h0:Hp} {f:V} {a:List V} {k k':V->Hp->Prop} (h1:x=cal C h0 f a k) (h:∀ v h,k v h=k' v h):x=cal C h0 f a k':=qu h1 h
theorem Tk {x:Prop} {C:mp} {h0:Hp} {f:V} {a:List V} {s:Nat} {k k':V->Hp->Prop} (h1:x=cai C h0 f a s k) (h:∀ v h,k v h=k' v h):x=cai C h0 f a s k':=qu h1 h
theorem Tv {x:Prop} {s:Nat} {cs:List V} {h0:Hp} {k k':V->Hp->Prop} (h1:x=alV s cs h0 k) (h:∀ v h,k v h=k' v h):x=alV s cs h0 k':=qu h1 h
theorem Tw {x:Prop} {s n:Nat} {cs:List D} {h0:Hp} {k k':V->Hp->Prop} (h1:x=alD s n cs h0 k) (h:∀ v h,k v h=k' v h):x=alD s n cs h0 k':=qu h1 h
theorem Rj {x:Prop} {s:Nat} {v0:V} {h0:Hp} {k k':V->Hp->Prop} (h1:x=jK s v0 h0 k) (h:∀ v h,k v h=k' v h):x=jK s v0 h0 k':=qu h1 h
theorem QF {x:Prop} {n:Nat} {z:List D} {ps:List (Nat × V)} {h0:Hp} {k k':V->Hp->Prop} (h1:x=dd n z ps h0 k) (h:∀ v h,k v h=k' v h):x=dd n z ps h0 k':=qu h1 h
theorem QE {x:Prop} {s n:Nat} {z:List D} {ps:List (Nat × V)} {h0:Hp} {k k':V->Hp->Prop} (h1:x=yC s n z ps h0 k) (h:∀ v h,k v h=k' v h):x=yC s n z ps h0 k':=qu h1 h
theorem SI {x:Prop} {s n:Nat} {z:List D} {h0:Hp} {a b:V} {k k':V->Hp->Prop} (h1:x=mkS s n z h0 a b k) (h:∀ v h,k v h=k' v h):x=mkS s n z h0 a b k':=qu h1 h
theorem Sk {x:Prop} {n:Nat} {h0:Hp} {a b:V} {k k':V->Hp->Prop} (h1:x=stD h0 n a b k) (h:∀ v h,k v h=k' v h):x=stD h0 n a b k':=qu h1 h
theorem Tu {x:Prop} {dr:Bool} {s n m:Nat} {h0:Hp} {a b:V} {k k':V->Hp->Prop} (h1:x=apV dr s n m a b h0 k) (h:∀ v h,k v h=k' v h):x=apV dr s n m a b h0 k':=qu h1 h
theorem U7 {x:Prop} {c:V} {w:Bool} {h0:Hp} {T:(V->Hp->Prop)->Prop} {k k':V->Hp->Prop} (h1:x=gd c w h0 T k) (h:∀ v h,k v h=k' v h):x=gd c w h0 T k':=qu h1 h
theorem Tf {x:Prop} {c:V} {A A' B B':Prop} (h1:x=cnd c A B) (ha:A=A') (hb:B=B'):x=cnd c A' B':=by rw [h1,ha,hb]
theorem U2 {x:Prop} {k k':List V->Hp->Prop} {T T':(List V->Hp->Prop)->Prop} (h1:x=jn k T) (hk:∀ l h,k l h=k' l h) (hT:∀ q,T q=T' q):x=jn k' T':=by
 rw [h1,show k=k' from funext fun v=>funext fun y=>hk v y,show T=T' from funext hT]
theorem UY {x:Prop} {s s':bq} {clr:List Nat} {h0 h2:Hp} {l:List V} {k k':KL} (h1:x=lp s clr h0 l h2 k) (hs:∀ l h q,s l h q=s' l h q) (hk:∀ ex l h,k ex l h=k' ex l h):x=lp s' clr h0 l h2 k':=by
 rw [h1,show s=s' from funext fun a=>funext fun b=>funext fun c=>hs a b c,show k=k' from funext fun a=>funext fun b=>funext fun c=>hk a b c]
theorem S6 {x:Prop} {e ex:Exit} {q q':List V->Hp->Prop} {r r':List (Exit × (List V->Hp->Prop))} {l:List V} {h:Hp} (h1:x=exK ((e,q)::r) ex l h) (hq:∀ l h,q l h=q' l h) (hr:exK r ex l h=exK r' ex l h):x=exK ((e,q')::r') ex l h:=by
 rw [h1,show q=q' from funext fun v=>funext fun y=>hq v y];simp only [exK];split
 ·rfl
 ·exact hr
theorem QG {x y:Prop} {v:V} {k:V->Prop} (h1:x=bnd (some v) k) (h2:k v=y):x=y:=h1.trans h2
noncomputable def gl (g:Nat):V:=match Y.glob g with
 | some cs=>.dptr cs 0
 | none=>.junk
end Go.Vm
