/- The types of the program, as far as they matter: a table. Printed by gen.py. -/
import Derived.Test.YtbdajblfnkoagaaGreatDoorQVmA
import Derived.Test.YtbdajblfnkoagaaGreatDoorQVmB
import Derived.Test.YtbdajblfnkoagaaGreatDoorProg
set_option linter.unusedVariables false
set_option linter.unusedSimpArgs false
namespace Go.Vm
open Go Go.Am
def tyR0:List TyI:=[
 ⟨.o,1,0,[],false⟩,
 ⟨.f,1,8,[.pl .nilFunc],false⟩,
 ⟨.i .i64,1,8,[.int .i64 0],true⟩,
 ⟨.i .i64,1,8,[.int .i64 0],true⟩,
 ⟨.b,1,1,[.bool false],true⟩,
 ⟨.i .u8,1,1,[.int .u8 0],true⟩,
 ⟨.i .u8,1,1,[.int .u8 0],true⟩,
 ⟨.st [(0,1),(1,1),(2,1),(3,1)],4,24,[.int .i64 0,.int .i64 0,.bool false,.int .u8 0],true⟩,
 ⟨.st [(0,1),(1,1),(2,1),(3,1)],4,24,[.int .i64 0,.int .i64 0,.bool false,.int .u8 0],true⟩,
 ⟨.s,1,16,[.str []],true⟩,
 ⟨.s,1,16,[.str []],true⟩,
 ⟨.s,1,16,[.str []],true⟩,
 ⟨.i .u64,1,8,[.int .u64 0],true⟩,
 ⟨.st [(0,1),(1,1)],2,24,[.str [],.int .u64 0],true⟩,
 ⟨.st [(0,1),(1,1)],2,24,[.str [],.int .u64 0],true⟩,
 ⟨.p,1,8,[.pl (.pointer none)],false⟩]
def tyR1:List TyI:=[
 ⟨.p,1,8,[.pl (.pointer none)],false⟩,
 ⟨.p,1,8,[.pl (.pointer none)],false⟩,
 ⟨.st [(0,1)],1,8,[.pl (.pointer none)],false⟩,
 ⟨.st [(0,1)],1,8,[.pl (.pointer none)],false⟩,
 ⟨.it,1,16,[.pl .nilIface],false⟩,
 ⟨.i .i32,1,4,[.int .i32 0],true⟩,
 ⟨.sl 25,1,24,[.pl (.slice none 0 0)],false⟩,
 ⟨.sl 25,1,24,[.pl (.slice none 0 0)],false⟩,
 ⟨.sl 3,1,24,[.pl (.slice none 0 0)],false⟩,
 ⟨.sl 3,1,24,[.pl (.slice none 0 0)],false⟩,
 ⟨.f,1,8,[.pl .nilFunc],false⟩,
 ⟨.f,1,8,[.pl .nilFunc],false⟩,
 ⟨.f,1,8,[.pl .nilFunc],false⟩,
 ⟨.sl 32,1,24,[.pl (.slice none 0 0)],false⟩,
 ⟨.f,1,8,[.pl .nilFunc],false⟩,
 ⟨.st [(0,1),(1,1)],2,32,[.bool false,.pl (.slice none 0 0)],false⟩]
def tyR2:List TyI:=[
 ⟨.st [(0,1),(1,1)],2,32,[.bool false,.pl (.slice none 0 0)],false⟩,
 ⟨.f,1,8,[.pl .nilFunc],false⟩,
 ⟨.f,1,8,[.pl .nilFunc],false⟩,
 ⟨.o,1,0,[],false⟩,
 ⟨.f,1,8,[.pl .nilFunc],false⟩,
 ⟨.f,1,8,[.pl .nilFunc],false⟩,
 ⟨.f,1,8,[.pl .nilFunc],false⟩,
 ⟨.f,1,8,[.pl .nilFunc],false⟩,
 ⟨.sl 47,1,24,[.pl (.slice none 0 0)],false⟩,
 ⟨.st [(0,1),(1,1)],2,48,[.pl (.slice none 0 0),.pl (.slice none 0 0)],false⟩,
 ⟨.st [(0,1),(1,1)],2,48,[.pl (.slice none 0 0),.pl (.slice none 0 0)],false⟩,
 ⟨.st [(0,1),(1,1)],2,32,[.int .i64 0,.pl (.slice none 0 0)],false⟩,
 ⟨.st [(0,1),(1,1)],2,32,[.int .i64 0,.pl (.slice none 0 0)],false⟩,
 ⟨.f,1,8,[.pl .nilFunc],false⟩,
 ⟨.st [(0,1),(1,1)],2,40,[.str [],.pl (.slice none 0 0)],false⟩,
 ⟨.st [(0,1),(1,1)],2,40,[.str [],.pl (.slice none 0 0)],false⟩]
def tyR3:List TyI:=[
 ⟨.f,1,8,[.pl .nilFunc],false⟩,
 ⟨.s,1,16,[.str []],true⟩,
 ⟨.st [(0,1),(1,1)],2,32,[.str [],.str []],true⟩,
 ⟨.st [(0,1),(1,1)],2,32,[.str [],.str []],true⟩,
 ⟨.sl 3,1,24,[.pl (.slice none 0 0)],false⟩,
 ⟨.sl 51,1,24,[.pl (.slice none 0 0)],false⟩,
 ⟨.sl 51,1,24,[.pl (.slice none 0 0)],false⟩,
 ⟨.f,1,8,[.pl .nilFunc],false⟩,
 ⟨.f,1,8,[.pl .nilFunc],false⟩,
 ⟨.f,1,8,[.pl .nilFunc],false⟩,
 ⟨.i .i64,1,8,[.int .i64 0],true⟩,
 ⟨.f,1,8,[.pl .nilFunc],false⟩,
 ⟨.f,1,8,[.pl .nilFunc],false⟩,
 ⟨.f,1,8,[.pl .nilFunc],false⟩,
 ⟨.st [(0,1),(1,1),(2,1)],3,32,[.int .i64 0,.int .i64 0,.str []],true⟩,
 ⟨.st [(0,1),(1,1),(2,1)],3,32,[.int .i64 0,.int .i64 0,.str []],true⟩]
def tyR4:List TyI:=[
 ⟨.f,1,8,[.pl .nilFunc],false⟩,
 ⟨.o,1,0,[],false⟩,
 ⟨.f,1,8,[.pl .nilFunc],false⟩,
 ⟨.f,1,8,[.pl .nilFunc],false⟩,
 ⟨.f,1,8,[.pl .nilFunc],false⟩,
 ⟨.f,1,8,[.pl .nilFunc],false⟩,
 ⟨.f,1,8,[.pl .nilFunc],false⟩,
 ⟨.sl 63,1,24,[.pl (.slice none 0 0)],false⟩,
 ⟨.st [(0,1),(1,1),(2,1)],3,40,[.int .i64 0,.int .i64 0,.pl (.slice none 0 0)],false⟩,
 ⟨.st [(0,1),(1,1),(2,1)],3,40,[.int .i64 0,.int .i64 0,.pl (.slice none 0 0)],false⟩,
 ⟨.st [(0,1),(1,1),(2,1)],3,72,[.pl (.slice none 0 0),.pl (.slice none 0 0),.pl (.slice none 0 0)],false⟩,
 ⟨.st [(0,1),(1,1),(2,1)],3,72,[.pl (.slice none 0 0),.pl (.slice none 0 0),.pl (.slice none 0 0)],false⟩,
 ⟨.f,1,8,[.pl .nilFunc],false⟩,
 ⟨.f,1,8,[.pl .nilFunc],false⟩,
 ⟨.f,1,8,[.pl .nilFunc],false⟩,
 ⟨.f,1,8,[.pl .nilFunc],false⟩]
def tyR5:List TyI:=[
 ⟨.f,1,8,[.pl .nilFunc],false⟩,
 ⟨.f,1,8,[.pl .nilFunc],false⟩,
 ⟨.f,1,8,[.pl .nilFunc],false⟩,
 ⟨.f,1,8,[.pl .nilFunc],false⟩,
 ⟨.f,1,8,[.pl .nilFunc],false⟩,
 ⟨.f,1,8,[.pl .nilFunc],false⟩,
 ⟨.o,1,0,[],false⟩,
 ⟨.f,1,8,[.pl .nilFunc],false⟩,
 ⟨.sl 135,1,24,[.pl (.slice none 0 0)],false⟩,
 ⟨.sl 135,1,24,[.pl (.slice none 0 0)],false⟩,
 ⟨.st [(0,1),(1,1)],2,32,[.bool false,.pl (.slice none 0 0)],false⟩,
 ⟨.st [(0,1),(1,1)],2,32,[.bool false,.pl (.slice none 0 0)],false⟩,
 ⟨.f,1,8,[.pl .nilFunc],false⟩,
 ⟨.f,1,8,[.pl .nilFunc],false⟩,
 ⟨.f,1,8,[.pl .nilFunc],false⟩,
 ⟨.f,1,8,[.pl .nilFunc],false⟩]
def tyR6:List TyI:=[
 ⟨.f,1,8,[.pl .nilFunc],false⟩,
 ⟨.sl 29,1,24,[.pl (.slice none 0 0)],false⟩,
 ⟨.sl 29,1,24,[.pl (.slice none 0 0)],false⟩,
 ⟨.f,1,8,[.pl .nilFunc],false⟩,
 ⟨.f,1,8,[.pl .nilFunc],false⟩,
 ⟨.o,1,0,[],false⟩,
 ⟨.f,1,8,[.pl .nilFunc],false⟩,
 ⟨.sl 23,1,24,[.pl (.slice none 0 0)],false⟩,
 ⟨.f,1,8,[.pl .nilFunc],false⟩,
 ⟨.f,1,8,[.pl .nilFunc],false⟩,
 ⟨.f,1,8,[.pl .nilFunc],false⟩,
 ⟨.f,1,8,[.pl .nilFunc],false⟩,
 ⟨.f,1,8,[.pl .nilFunc],false⟩,
 ⟨.st [(0,2),(2,1)],3,56,[.bool false,.pl (.slice none 0 0),.pl (.slice none 0 0)],false⟩,
 ⟨.st [(0,2),(2,1)],3,56,[.bool false,.pl (.slice none 0 0),.pl (.slice none 0 0)],false⟩,
 ⟨.o,1,0,[],false⟩]
def tyR7:List TyI:=[
 ⟨.f,1,8,[.pl .nilFunc],false⟩,
 ⟨.f,1,8,[.pl .nilFunc],false⟩,
 ⟨.f,1,8,[.pl .nilFunc],false⟩,
 ⟨.o,1,0,[],false⟩,
 ⟨.f,1,8,[.pl .nilFunc],false⟩,
 ⟨.o,1,0,[],false⟩,
 ⟨.f,1,8,[.pl .nilFunc],false⟩,
 ⟨.f,1,8,[.pl .nilFunc],false⟩,
 ⟨.f,1,8,[.pl .nilFunc],false⟩,
 ⟨.f,1,8,[.pl .nilFunc],false⟩,
 ⟨.f,1,8,[.pl .nilFunc],false⟩,
 ⟨.f,1,8,[.pl .nilFunc],false⟩,
 ⟨.f,1,8,[.pl .nilFunc],false⟩,
 ⟨.f,1,8,[.pl .nilFunc],false⟩,
 ⟨.it,1,16,[.pl .nilIface],false⟩,
 ⟨.it,1,16,[.pl .nilIface],false⟩]
def tyR8:List TyI:=[
 ⟨.o,1,0,[],false⟩,
 ⟨.f,1,8,[.pl .nilFunc],false⟩,
 ⟨.sl 110,1,24,[.pl (.slice none 0 0)],false⟩,
 ⟨.o,1,0,[],false⟩,
 ⟨.f,1,8,[.pl .nilFunc],false⟩,
 ⟨.f,1,8,[.pl .nilFunc],false⟩,
 ⟨.f,1,8,[.pl .nilFunc],false⟩,
 ⟨.i .u32,1,4,[.int .u32 0],true⟩,
 ⟨.f,1,8,[.pl .nilFunc],false⟩,
 ⟨.f,1,8,[.pl .nilFunc],false⟩,
 ⟨.f,1,8,[.pl .nilFunc],false⟩,
 ⟨.f,1,8,[.pl .nilFunc],false⟩,
 ⟨.i .u64,1,8,[.int .u64 0],true⟩,
 ⟨.sl 40,1,24,[.pl (.slice none 0 0)],false⟩,
 ⟨.f,1,8,[.pl .nilFunc],false⟩,
 ⟨.f,1,8,[.pl .nilFunc],false⟩]
def tyR9:List TyI:=[
 ⟨.f,1,8,[.pl .nilFunc],false⟩,
 ⟨.f,1,8,[.pl .nilFunc],false⟩,
 ⟨.f,1,8,[.pl .nilFunc],false⟩,
 ⟨.f,1,8,[.pl .nilFunc],false⟩,
 ⟨.f,1,8,[.pl .nilFunc],false⟩,
 ⟨.f,1,8,[.pl .nilFunc],false⟩,
 ⟨.f,1,8,[.pl .nilFunc],false⟩,
 ⟨.i .u64,1,8,[.int .u64 0],true⟩,
 ⟨.sl 4,1,24,[.pl (.slice none 0 0)],false⟩,
 ⟨.o,1,0,[],false⟩,
 ⟨.f,1,8,[.pl .nilFunc],false⟩,
 ⟨.f,1,8,[.pl .nilFunc],false⟩,
 ⟨.o,1,0,[],false⟩,
 ⟨.f,1,8,[.pl .nilFunc],false⟩,
 ⟨.p,1,8,[.pl (.pointer none)],false⟩,
 ⟨.sl 5,1,24,[.pl (.slice none 0 0)],false⟩]
def tyR10:List TyI:=[
 ⟨.st [(0,1),(1,1)],2,32,[.pl (.pointer none),.pl (.slice none 0 0)],false⟩,
 ⟨.st [(0,1),(1,1)],2,32,[.pl (.pointer none),.pl (.slice none 0 0)],false⟩,
 ⟨.f,1,8,[.pl .nilFunc],false⟩,
 ⟨.f,1,8,[.pl .nilFunc],false⟩,
 ⟨.f,1,8,[.pl .nilFunc],false⟩,
 ⟨.f,1,8,[.pl .nilFunc],false⟩,
 ⟨.f,1,8,[.pl .nilFunc],false⟩,
 ⟨.f,1,8,[.pl .nilFunc],false⟩,
 ⟨.f,1,8,[.pl .nilFunc],false⟩,
 ⟨.o,1,0,[],false⟩,
 ⟨.f,1,8,[.pl .nilFunc],false⟩,
 ⟨.f,1,8,[.pl .nilFunc],false⟩,
 ⟨.o,1,0,[],false⟩,
 ⟨.f,1,8,[.pl .nilFunc],false⟩,
 ⟨.f,1,8,[.pl .nilFunc],false⟩,
 ⟨.o,1,0,[],false⟩]
def tyR11:List TyI:=[
 ⟨.f,1,8,[.pl .nilFunc],false⟩,
 ⟨.f,1,8,[.pl .nilFunc],false⟩,
 ⟨.f,1,8,[.pl .nilFunc],false⟩,
 ⟨.p,1,8,[.pl (.pointer none)],false⟩,
 ⟨.f,1,8,[.pl .nilFunc],false⟩,
 ⟨.o,1,0,[],false⟩,
 ⟨.f,1,8,[.pl .nilFunc],false⟩,
 ⟨.f,1,8,[.pl .nilFunc],false⟩,
 ⟨.f,1,8,[.pl .nilFunc],false⟩,
 ⟨.f,1,8,[.pl .nilFunc],false⟩,
 ⟨.o,1,0,[],false⟩,
 ⟨.f,1,8,[.pl .nilFunc],false⟩,
 ⟨.f,1,8,[.pl .nilFunc],false⟩,
 ⟨.o,1,0,[],false⟩,
 ⟨.f,1,8,[.pl .nilFunc],false⟩,
 ⟨.o,1,0,[],false⟩]
def tyR12:List TyI:=[
 ⟨.f,1,8,[.pl .nilFunc],false⟩,
 ⟨.p,1,8,[.pl (.pointer none)],false⟩,
 ⟨.i .i64,1,8,[.int .i64 0],true⟩,
 ⟨.o,1,0,[],false⟩,
 ⟨.f,1,8,[.pl .nilFunc],false⟩,
 ⟨.p,1,8,[.pl (.pointer none)],false⟩,
 ⟨.f,1,8,[.pl .nilFunc],false⟩,
 ⟨.f,1,8,[.pl .nilFunc],false⟩,
 ⟨.f,1,8,[.pl .nilFunc],false⟩,
 ⟨.f,1,8,[.pl .nilFunc],false⟩,
 ⟨.f,1,8,[.pl .nilFunc],false⟩,
 ⟨.f,1,8,[.pl .nilFunc],false⟩,
 ⟨.f,1,8,[.pl .nilFunc],false⟩,
 ⟨.f,1,8,[.pl .nilFunc],false⟩,
 ⟨.f,1,8,[.pl .nilFunc],false⟩,
 ⟨.sl 140,1,24,[.pl (.slice none 0 0)],false⟩]
def tyR13:List TyI:=[
 ⟨.sl 140,1,24,[.pl (.slice none 0 0)],false⟩,
 ⟨.f,1,8,[.pl .nilFunc],false⟩,
 ⟨.st [(0,1),(1,1),(2,1)],3,56,[.pl (.slice none 0 0),.pl (.slice none 0 0),.int .i64 0],false⟩,
 ⟨.st [(0,1),(1,1),(2,1)],3,56,[.pl (.slice none 0 0),.pl (.slice none 0 0),.int .i64 0],false⟩,
 ⟨.f,1,8,[.pl .nilFunc],false⟩,
 ⟨.f,1,8,[.pl .nilFunc],false⟩,
 ⟨.o,1,0,[],false⟩,
 ⟨.f,1,8,[.pl .nilFunc],false⟩,
 ⟨.f,1,8,[.pl .nilFunc],false⟩,
 ⟨.sl 140,1,24,[.pl (.slice none 0 0)],false⟩,
 ⟨.f,1,8,[.pl .nilFunc],false⟩,
 ⟨.f,1,8,[.pl .nilFunc],false⟩,
 ⟨.f,1,8,[.pl .nilFunc],false⟩,
 ⟨.f,1,8,[.pl .nilFunc],false⟩,
 ⟨.f,1,8,[.pl .nilFunc],false⟩,
 ⟨.f,1,8,[.pl .nilFunc],false⟩]
def tyR14:List TyI:=[
 ⟨.ar 24 5,24,24,List.replicate 24 (.int .u8 0),false⟩,
 ⟨.f,1,8,[.pl .nilFunc],false⟩,
 ⟨.o,1,0,[],false⟩,
 ⟨.f,1,8,[.pl .nilFunc],false⟩,
 ⟨.o,1,8,[.pl (.pointer none)],false⟩,
 ⟨.f,1,8,[.pl .nilFunc],false⟩,
 ⟨.f,1,8,[.pl .nilFunc],false⟩,
 ⟨.o,1,0,[],false⟩,
 ⟨.f,1,8,[.pl .nilFunc],false⟩,
 ⟨.f,1,8,[.pl .nilFunc],false⟩,
 ⟨.st [(0,1),(1,1),(2,1)],3,48,[.str [],.str [],.pl .nilIface],false⟩,
 ⟨.st [(0,1),(1,1),(2,1)],3,48,[.str [],.str [],.pl .nilIface],false⟩,
 ⟨.f,1,8,[.pl .nilFunc],false⟩,
 ⟨.f,1,8,[.pl .nilFunc],false⟩,
 ⟨.f,1,8,[.pl .nilFunc],false⟩,
 ⟨.o,1,0,[],false⟩]
def tyR15:List TyI:=[
 ⟨.f,1,8,[.pl .nilFunc],false⟩,
 ⟨.f,1,8,[.pl .nilFunc],false⟩,
 ⟨.f,1,8,[.pl .nilFunc],false⟩,
 ⟨.f,1,8,[.pl .nilFunc],false⟩,
 ⟨.f,1,8,[.pl .nilFunc],false⟩,
 ⟨.ar 20 140,20,160,List.replicate 20 (.int .u64 0),false⟩,
 ⟨.ar 65 5,65,65,List.replicate 65 (.int .u8 0),false⟩,
 ⟨.f,1,8,[.pl .nilFunc],false⟩,
 ⟨.f,1,8,[.pl .nilFunc],false⟩,
 ⟨.p,1,8,[.pl (.pointer none)],false⟩,
 ⟨.st [(0,1)],1,16,[.str []],true⟩,
 ⟨.st [(0,1)],1,16,[.str []],true⟩,
 ⟨.o,1,0,[],false⟩,
 ⟨.f,1,8,[.pl .nilFunc],false⟩,
 ⟨.f,1,8,[.pl .nilFunc],false⟩,
 ⟨.o,1,0,[],false⟩]
def tyR16:List TyI:=[
 ⟨.f,1,8,[.pl .nilFunc],false⟩,
 ⟨.o,1,0,[],false⟩,
 ⟨.f,1,8,[.pl .nilFunc],false⟩,
 ⟨.ar 32 5,32,32,List.replicate 32 (.int .u8 0),false⟩,
 ⟨.ar 64 5,64,64,List.replicate 64 (.int .u8 0),false⟩,
 ⟨.f,1,8,[.pl .nilFunc],false⟩,
 ⟨.st [(0,1),(1,1),(2,1),(3,1)],4,40,[.pl (.pointer none),.pl (.pointer none),.pl (.pointer none),.str []],false⟩,
 ⟨.st [(0,1),(1,1),(2,1),(3,1)],4,40,[.pl (.pointer none),.pl (.pointer none),.pl (.pointer none),.str []],false⟩,
 ⟨.ar 0 16,0,0,[],false⟩,
 ⟨.st [(0,0)],0,0,[],false⟩,
 ⟨.st [(0,0)],0,0,[],false⟩,
 ⟨.i .u8,1,1,[.int .u8 0],true⟩,
 ⟨.i .u8,1,1,[.int .u8 0],true⟩,
 ⟨.f,1,8,[.pl .nilFunc],false⟩,
 ⟨.i .i32,1,4,[.int .i32 0],true⟩,
 ⟨.i .i32,1,4,[.int .i32 0],true⟩]
def tyR17:List TyI:=[
 ⟨.st [(0,1),(1,1),(2,1),(3,1),(4,1),(5,1),(6,1),(7,1),(8,1),(9,1),(10,1)],11,48,[.int .u64 0,.int .u64 0,.int .u32 0,.int .u8 0,.int .u8 0,.int .u8 0,.int .u8 0,.pl .nilFunc,.pl (.pointer none),.int .i32 0,.int .i32 0],false⟩,
 ⟨.st [(0,1),(1,1),(2,1),(3,1),(4,1),(5,1),(6,1),(7,1),(8,1),(9,1),(10,1)],11,48,[.int .u64 0,.int .u64 0,.int .u32 0,.int .u8 0,.int .u8 0,.int .u8 0,.int .u8 0,.pl .nilFunc,.pl (.pointer none),.int .i32 0,.int .i32 0],false⟩]
def tyTab:List (List TyI):=[tyR0,tyR1,tyR2,tyR3,tyR4,tyR5,tyR6,tyR7,tyR8,tyR9,tyR10,tyR11,tyR12,tyR13,tyR14,tyR15,tyR16,tyR17]
def barred:List Nat:=[0,1,187,188,194,213,214,215,216,217,218,219,220,221,222,223,224,225,226,227,228,229,230,231,232,233,234,235,236,237,238,239]
def powG:Nat:=2
namespace F
def schismalaw55_CheckerNumbers:FuncId:=6
def schismalaw55_known:FuncId:=8
def schismaref03_MulW:FuncId:=14
def schismaref03_Of:FuncId:=15
def checker_Member:FuncId:=18
def checker_Form:FuncId:=19
def schismalaw55_short:FuncId:=27
def checker_Number:FuncId:=28
def schismalaw03_Right:FuncId:=29
def checker_Primes:FuncId:=30
def prime_Check:FuncId:=31
def checker_Size:FuncId:=32
def schismalaw55_sizeRight:FuncId:=33
def checker_Bounds:FuncId:=34
def prime_IsPrime:FuncId:=37
def schismaref03_From:FuncId:=38
def schismaref03_To:FuncId:=39
def checker_Sign:FuncId:=41
def schismalaw55_of:FuncId:=42
def checker_Temperament:FuncId:=43
def slices_ContainsFunc_api_Row_int:FuncId:=47
def schismaref03_trim:FuncId:=49
def schismaref03_above:FuncId:=51
def schismaref03_minus:FuncId:=52
def schismaref03_Int:FuncId:=53
def checker_matrix:FuncId:=55
def checker_near:FuncId:=56
def checker_dot:FuncId:=57
def checker_column:FuncId:=58
def checker_integer_equal:FuncId:=59
def checker_number:FuncId:=60
def checker_pivot:FuncId:=61
def checker_integer_add:FuncId:=67
def checker_integer_times:FuncId:=68
def slices_ContainsFunc_api_Rational_api_Rational:FuncId:=71
def schismalaw55_short_F1:FuncId:=72
def checker_parts:FuncId:=73
def schismaref03_Right:FuncId:=74
def checker_isPrime:FuncId:=75
def checker_short:FuncId:=76
def size_Check:FuncId:=77
def checker_read:FuncId:=78
def checker_logarithm:FuncId:=79
def checker_order:FuncId:=80
def strconv_Itoa:FuncId:=84
def strings_Repeat:FuncId:=85
def strings_HasPrefix:FuncId:=86
def strconv_Atoi:FuncId:=87
def schismaref03_NegW:FuncId:=88
def checker_list:FuncId:=89
def checker_fraction_zero:FuncId:=90
def checker_nothing:FuncId:=91
def checker_fraction_add:FuncId:=92
def checker_fraction_times:FuncId:=93
def schismaref03_Frac:FuncId:=94
def checker_full:FuncId:=95
def slices_IndexFunc_api_Row_int:FuncId:=97
def checker_near_F1:FuncId:=98
def checker_of:FuncId:=99
def checker_pivot_F1:FuncId:=100
def checker_plus:FuncId:=102
def checker_less:FuncId:=103
def checker_product:FuncId:=104
def slices_IndexFunc_api_Rational_api_Rational:FuncId:=106
def checker_common:FuncId:=107
def schismaref03_Canonical:FuncId:=108
def schismaref03_SignW:FuncId:=109
def schismaref03_GcdW:FuncId:=110
def size_check:FuncId:=111
def checker_bits:FuncId:=112
def checker_shift:FuncId:=113
def whole_Check:FuncId:=114
def whole_Of:FuncId:=116
def i_strconv_Itoa:FuncId:=120
def math_bits_Mul:FuncId:=121
def strings_Builder_Grow:FuncId:=122
def strings_Builder_WriteString:FuncId:=123
def strings_Builder_Len:FuncId:=124
def strings_Builder_String:FuncId:=125
def i_stringslite_HasPrefix:FuncId:=126
def i_strconv_Atoi:FuncId:=127
def strconv_toError:FuncId:=128
def schismaref03_Make:FuncId:=129
def checker_determinant:FuncId:=130
def checker_trim:FuncId:=131
def checker_divide:FuncId:=132
def strings_TrimPrefix:FuncId:=133
def schismaref03_divide:FuncId:=134
def fraction_Check:FuncId:=135
def size_short:FuncId:=136
def slices_Clone_checker_natural_uint32:FuncId:=137
def whole_split:FuncId:=138
def decimal_Check:FuncId:=139
def math_bits_Len64:FuncId:=141
def whole_little:FuncId:=144
def i_strconv_FormatInt:FuncId:=150
def math_bits_Mul32:FuncId:=151
def math_bits_Mul64:FuncId:=152
def i_strconv_ParseInt:FuncId:=155
def schismaref03_little:FuncId:=160
def slices_Delete_int_int:FuncId:=161
def slices_Clone_int_int:FuncId:=162
def checker_integer_turned:FuncId:=163
def i_stringslite_TrimPrefix:FuncId:=164
def schismaref03_times:FuncId:=165
def whole_Sign:FuncId:=166
def whole_Gcd:FuncId:=167
def whole_Abs:FuncId:=168
def decimal_Canonical:FuncId:=169
def decimal_both:FuncId:=175
def decimal_Of:FuncId:=176
def decimal_cut:FuncId:=177
def decimal_pieces_back:FuncId:=178
def decimal_pieces_trim:FuncId:=179
def decimal_pieces_text:FuncId:=180
def decimal_pieces_take:FuncId:=181
def decimal_pieces_times:FuncId:=182
def i_strconv_small:FuncId:=183
def i_strconv_numDigits:FuncId:=184
def i_strconv_formatBase10:FuncId:=185
def i_strconv_formatBits:FuncId:=186
def whole_gcd:FuncId:=192
def decimal_Gcd:FuncId:=193
def decimal_Small:FuncId:=195
def strconv_FormatUint:FuncId:=196
def slices_Reverse_byte_byte:FuncId:=197
def i_strconv_log10Pow2:FuncId:=198
def i_strconv_bool2_int:FuncId:=199
def decimal_DivMod:FuncId:=204
def strconv_ParseUint:FuncId:=205
def i_strconv_FormatUint:FuncId:=206
def decimal_pieces_compare:FuncId:=209
def decimal_pieces_small:FuncId:=210
def decimal_pieces_divide:FuncId:=211
def decimal_pieces_scaled:FuncId:=212
end F
end Go.Vm
namespace Go.Vm
open Go Go.Am
noncomputable section
def tget:List TyI→Nat→TyI
 | [],_=>⟨.o,0,0,[],false⟩
 | x :: _,0=>x
 | _ :: l,n+1=>tget l n
def tgets:List (List TyI)→Nat→List TyI
 | [],_=>[]
 | x :: _,0=>x
 | _ :: l,n+1=>tgets l n
def dval:Nat→List UInt8→Nat
 | a,[]=>a
 | a,c :: l=>dval (a * 10+(c.toNat - 48)) l
def digitB (c:UInt8):Bool:=Nat.ble 48 c.toNat && Nat.ble c.toNat 57
def puOrc:List Value→Option Value
 | [.string s,.int .i64 a,.int .i64 b]=>if a=10∧b=64∧s.data.toList≠[]∧s.data.toList.all digitB=true∧s.data.toList.length≤1000∧dval 0 s.data.toList < 10000000000000000000 then some (.tuple #[.int .u64 (dval 0 s.data.toList),.nilIface]) else none
 | _=>none
def X:Cfg:={ P:=Go.Proofs.Tryz.prog,allow:=notIn barred,glob:=fun g=>Nat.beq g powG,orc:=fun f args=>match Nat.beq f F.strconv_ParseUint with
 | true=>puOrc args
 | false=>none }
def powC:List D:=[.int .u64 1,.int .u64 10,.int .u64 100,.int .u64 1000,.int .u64 10000,.int .u64 100000,.int .u64 1000000,.int .u64 10000000,.int .u64 100000000,.int .u64 1000000000,.int .u64 10000000000,.int .u64 100000000000,
 .int .u64 1000000000000,.int .u64 10000000000000,.int .u64 100000000000000,.int .u64 1000000000000000,.int .u64 10000000000000000,.int .u64 100000000000000000,.int .u64 1000000000000000000,.int .u64 10000000000000000000]
def Y:VCfg:={ X:=X,ty:=fun t=>tget (tgets tyTab (t / 16)) (t % 16),glob:=fun g=>match Nat.beq g powG with
 | true=>some powC
 | false=>none }
end
end Go.Vm
set_option maxRecDepth 100000
namespace Go.Vm
open Go Go.Am
def eqPl:Value→Value→Bool
 | .pointer none,.pointer none=>true
 | .slice none a b,.slice none c d=>a == c && b == d
 | .nilFunc,.nilFunc=>true
 | .nilIface,.nilIface=>true
 | .map none,.map none=>true
 | .chan none,.chan none=>true
 | _,_=>false
theorem eqPl_eq {x y:Value} (h:eqPl x y=true):x=y:=by
 unfold eqPl at h
 split at h <;> first | rfl | (simp at h; obtain ⟨rfl,rfl⟩:=h; rfl) | cases h
def eqD0:D→D→Bool
 | .int k a,.int l b=>decide (k=l) && decide (a=b)
 | .bool a,.bool b=>a == b
 | .str a,.str b=>a == b
 | .pl a,.pl b=>eqPl a b
 | _,_=>false
theorem eqD0_eq {x y:D} (h:eqD0 x y=true):x=y:=by
 unfold eqD0 at h
 split at h
 ·simp at h; obtain ⟨rfl,rfl⟩:=h; rfl
 ·simp at h; subst h; rfl
 ·simp at h; subst h; rfl
 ·rw [eqPl_eq h]
 ·cases h
def eqDL:List D→List D→Bool
 | [],[]=>true
 | x :: l,y :: m=>eqD0 x y && eqDL l m
 | _,_=>false
theorem eqDL_eq:∀ {l m:List D},eqDL l m=true→l=m
 | [],[],_=>rfl
 | x :: l,y :: m,h=>by
  simp only [eqDL,Bool.and_eq_true] at h
  rw [eqD0_eq h.1,eqDL_eq h.2]
 | [],_ :: _,h=>by cases h
 | _ :: _,[],h=>by cases h
def kindB (P:Program) (t:TypeId) (k:Ty):Bool:=match k with
 | .i k=>match P.underlying t with | some (.int k')=>decide (k'=k) | _=>false
 | .b=>match P.underlying t with | some .bool=>true | _=>false
 | .s=>match P.underlying t with | some .string=>true | _=>false
 | .p=>match P.underlying t with | some (.pointer _)=>true | _=>false
 | .f=>match P.underlying t with | some (.func ..)=>true | _=>false
 | .it=>match P.underlying t with | some (.interface _)=>true | _=>false
 | .sl e=>match P.underlying t with | some (.slice e')=>e' == e | _=>false
 | .ar n e=>match P.underlying t with | some (.array n' e')=>n' == n && e' == e | _=>false
 | .st fs=>match P.underlying t with | some (.struct gs)=>decide (gs.toList.map (fun f=>(f.offset,szO P f.type))=fs.map fun p=>(p.1,some p.2)) | _=>false
 | .o=>true
def tyB (P:Program) (t:TypeId) (i:TyI):Bool:=match i.k with
 | .o=>true
 | k=>kindB P t k && decide (szO P t=some i.sz) && decide (bytesO P t=some i.bytes) && match zeroO P t with
  | some z=>plain z && z.cells.size == i.sz && (z.cells.toList.all fun c=>plain c && okCell c) && eqDL (z.cells.toList.map litD) i.z
  | none=>false
theorem tyB_rel {P : Program} {t : TypeId} {i : TyI} (h : tyB P t i = true) : TyRel P t i := by
  by_cases hk : i.k = .o
  · exact ⟨by rw [hk]; trivial, fun h => absurd hk h, fun h => absurd hk h, fun h => absurd hk h⟩
  · have h2 : kindB P t i.k = true ∧ szO P t = some i.sz ∧ bytesO P t = some i.bytes ∧ (match zeroO P t with
        | some z => plain z && z.cells.size == i.sz && (z.cells.toList.all fun c => plain c && okCell c) && eqDL (z.cells.toList.map litD) i.z
        | none => false) = true := by
      unfold tyB at h
      split at h
      · rename_i e; exact absurd e hk
      · simp only [Bool.and_eq_true, decide_eq_true_eq] at h
        exact ⟨h.1.1.1, h.1.1.2, h.1.2, h.2⟩
    obtain ⟨h1, h2, h3, h4⟩ := h2
    refine ⟨?_, fun _ => h2, fun _ => h3, fun _ => ?_⟩
    · unfold kindB at h1
      cases hq : i.k <;> rw [hq] at h1 <;> dsimp only at h1 ⊢
      all_goals first
        | trivial
        | (split at h1
           · rename_i hu
             first
               | (simp only [decide_eq_true_eq] at h1; subst h1; exact hu)
               | exact hu
               | exact ⟨_, hu⟩
               | exact ⟨_, _, _, hu⟩
               | (simp only [beq_iff_eq] at h1; subst h1; exact hu)
               | (simp only [Bool.and_eq_true, beq_iff_eq] at h1; obtain ⟨rfl, rfl⟩ := h1; exact hu)
               | (simp only [decide_eq_true_eq] at h1; exact ⟨_, hu, h1⟩)
           · cases h1)
    · split at h4
      · rename_i z hz
        simp only [Bool.and_eq_true, beq_iff_eq, List.all_eq_true] at h4
        refine ⟨z, hz, h4.1.1.1, eqDL_eq h4.2, h4.1.1.2, fun c hc => ?_⟩
        have := h4.1.2 c hc
        exact this
      · cases h4
theorem tgets_big:∀ (l:List (List TyI)) (n:Nat),l.length≤n→tgets l n=[]
 | [],_,_=>rfl
 | _ :: _,0,h=>by simp at h
 | _ :: l,n+1,h=>tgets_big l n (by simpa using h)
theorem tys_ok:(List.range (16 * tyTab.length)).all (fun t=>tyB Y.X.P t (Y.ty t))=true:=by decide +kernel
theorem yOk:YOk Y where
 ty t:=by
  by_cases ht:t < 16 * tyTab.length
  ·exact tyB_rel (List.all_eq_true.1 tys_ok t (List.mem_range.2 ht))
  ·refine tyB_rel ?_
   have:(Y.ty t).k=.o:=by
    show (tget (tgets tyTab (t / 16)) (t % 16)).k=.o
    have h2:∀ t n:Nat,¬ t < 16 * n→n≤t / 16:=fun t n hn=>by omega
    rw [tgets_big tyTab (t / 16) (h2 t _ ht)]; rfl
   unfold tyB
   rw [this]
end Go.Vm
namespace Go.Vm
open Go Go.Am
theorem bnd_e {x:Prop} {o:Option V} {k k':V→Prop} (h1:x=bnd o k) (h:∀ v,k v=k' v):x=bnd o k':=by rw [h1,funext h]
theorem ext_e {x:Prop} {o:V} {i:Nat} {k k':V→Prop} (h1:x=ext o i k) (h:∀ v,k v=k' v):x=ext o i k':=by rw [h1,funext h]
theorem nilD_e {x:Prop} {a b:V} {h0:Hp} {op:BinOp} {k k':V→Prop} (h1:x=nilD h0 op a b k) (h:∀ v,k v=k' v):x=nilD h0 op a b k':=by rw [h1,funext h]
theorem two_e {x:Prop} {T:(V→Hp→Prop)→Prop} {k k':V→Hp→Prop} (h1:x=T k) (h:∀ v h,k v h=k' v h):x=T k':=by
 rw [h1,show k=k' from funext fun v=>funext fun y=>h v y]
theorem cal_e {x:Prop} {C:Calls1} {h0:Hp} {f:V} {a:List V} {k k':V→Hp→Prop} (h1:x=cal C h0 f a k) (h:∀ v h,k v h=k' v h):x=cal C h0 f a k':=two_e h1 h
theorem cai_e {x:Prop} {C:Calls2} {h0:Hp} {f:V} {a:List V} {s:Nat} {k k':V→Hp→Prop} (h1:x=cai C h0 f a s k) (h:∀ v h,k v h=k' v h):x=cai C h0 f a s k':=two_e h1 h
theorem alV_e {x:Prop} {s:Nat} {cs:List V} {h0:Hp} {k k':V→Hp→Prop} (h1:x=alV s cs h0 k) (h:∀ v h,k v h=k' v h):x=alV s cs h0 k':=two_e h1 h
theorem alD_e {x:Prop} {s n:Nat} {cs:List D} {h0:Hp} {k k':V→Hp→Prop} (h1:x=alD s n cs h0 k) (h:∀ v h,k v h=k' v h):x=alD s n cs h0 k':=two_e h1 h
theorem boxD_e {x:Prop} {s:Nat} {v0:V} {h0:Hp} {k k':V→Hp→Prop} (h1:x=boxD s v0 h0 k) (h:∀ v h,k v h=k' v h):x=boxD s v0 h0 k':=two_e h1 h
theorem lisD_e {x:Prop} {n:Nat} {z:List D} {ps:List (Nat × V)} {h0:Hp} {k k':V→Hp→Prop} (h1:x=lisD n z ps h0 k) (h:∀ v h,k v h=k' v h):x=lisD n z ps h0 k':=two_e h1 h
theorem lisS_e {x:Prop} {s n:Nat} {z:List D} {ps:List (Nat × V)} {h0:Hp} {k k':V→Hp→Prop} (h1:x=lisS s n z ps h0 k) (h:∀ v h,k v h=k' v h):x=lisS s n z ps h0 k':=two_e h1 h
theorem mkS_e {x:Prop} {s n:Nat} {z:List D} {h0:Hp} {a b:V} {k k':V→Hp→Prop} (h1:x=mkS s n z h0 a b k) (h:∀ v h,k v h=k' v h):x=mkS s n z h0 a b k':=two_e h1 h
theorem stD_e {x:Prop} {n:Nat} {h0:Hp} {a b:V} {k k':V→Hp→Prop} (h1:x=stD h0 n a b k) (h:∀ v h,k v h=k' v h):x=stD h0 n a b k':=two_e h1 h
theorem apV_e {x:Prop} {dr:Bool} {s n m:Nat} {h0:Hp} {a b:V} {k k':V→Hp→Prop} (h1:x=apV dr s n m a b h0 k) (h:∀ v h,k v h=k' v h):x=apV dr s n m a b h0 k':=two_e h1 h
theorem gd_e {x:Prop} {c:V} {w:Bool} {h0:Hp} {T:(V→Hp→Prop)→Prop} {k k':V→Hp→Prop} (h1:x=gd c w h0 T k) (h:∀ v h,k v h=k' v h):x=gd c w h0 T k':=two_e h1 h
theorem cnd_e {x:Prop} {c:V} {A A' B B':Prop} (h1:x=cnd c A B) (ha:A=A') (hb:B=B'):x=cnd c A' B':=by rw [h1,ha,hb]
theorem jn_e {x:Prop} {k k':List V→Hp→Prop} {T T':(List V→Hp→Prop)→Prop} (h1:x=jn k T) (hk:∀ l h,k l h=k' l h) (hT:∀ q,T q=T' q):x=jn k' T':=by
 rw [h1,show k=k' from funext fun v=>funext fun y=>hk v y,show T=T' from funext hT]
theorem lp_e {x:Prop} {s s':StepT} {clr:List Nat} {h0 h2:Hp} {l:List V} {k k':KL} (h1:x=lp s clr h0 l h2 k) (hs:∀ l h q,s l h q=s' l h q) (hk:∀ ex l h,k ex l h=k' ex l h):x=lp s' clr h0 l h2 k':=by
 rw [h1,show s=s' from funext fun a=>funext fun b=>funext fun c=>hs a b c,show k=k' from funext fun a=>funext fun b=>funext fun c=>hk a b c]
theorem exK_e {x:Prop} {e ex:Exit} {q q':List V→Hp→Prop} {r r':List (Exit × (List V→Hp→Prop))} {l:List V} {h:Hp} (h1:x=exK ((e,q) :: r) ex l h) (hq:∀ l h,q l h=q' l h) (hr:exK r ex l h=exK r' ex l h):x=exK ((e,q') :: r') ex l h:=by
 rw [h1,show q=q' from funext fun v=>funext fun y=>hq v y]
 simp only [exK]
 split
 ·rfl
 ·exact hr
theorem leaf_e {x y:Prop} {v:V} {k:V→Prop} (h1:x=bnd (some v) k) (h2:k v=y):x=y:=h1.trans h2
end Go.Vm
namespace Go.Vm
open Go Go.Am
noncomputable def gl (g:Nat):V:=match Y.glob g with
 | some cs=>.dptr cs 0
 | none=>.junk
end Go.Vm
