/- The tables of this seat: its types, and how its functions are carried out on data. -/
import Derived.Test.YtkpnnfhodlanjaaDoorPiW
import Derived.Test.YtkpnnfhodlanjaaDoorChecked
import Derived.KernelRfl
set_option linter.unusedSimpArgs false
set_option linter.unusedVariables false
set_option linter.unnecessarySimpa false
namespace Go.Proofs.YtkpnnfhodlanjaaDoor
open Go.Eng Go.Pi
abbrev ty3:Nat:=3
abbrev ty5:Nat:=5
abbrev ty9:Nat:=9
abbrev a2H:Nat:=23
abbrev b9W:Nat:=24
abbrev b2Q:Nat:=25
abbrev a1h:Nat:=27
abbrev a2p:Nat:=28
abbrev b8b:Nat:=29
abbrev a0j:Nat:=34
abbrev a0m:Nat:=36
abbrev a0c:Nat:=38
abbrev a0d:Nat:=41
abbrev a3H:Nat:=47
abbrev a2Z:Nat:=54
abbrev a9Q:Nat:=55
abbrev a6d:Nat:=64
abbrev b3n:Nat:=72
abbrev a3f:Nat:=74
abbrev a0B:Nat:=83
abbrev a7V:Nat:=90
abbrev b9X:Nat:=125
abbrev a5G:Nat:=13
abbrev a5H:Nat:=4
abbrev a3X:Nat:=6
abbrev a3W:Nat:=8
abbrev a3Y:Nat:=9
abbrev a3v:Nat:=10
abbrev b4r:Nat:=11
abbrev a9U:Nat:=12
abbrev a3Z:Nat:=14
abbrev a3w:Nat:=15
abbrev a4a:Nat:=16
abbrev a3x:Nat:=17
abbrev b5G:Nat:=18
abbrev b5F:Nat:=20
abbrev a4b:Nat:=21
abbrev b6O:Nat:=22
abbrev a3y:Nat:=23
abbrev a8J:Nat:=24
abbrev a8K:Nat:=25
abbrev a7g:Nat:=26
abbrev a8L:Nat:=27
abbrev a8M:Nat:=28
abbrev b1l:Nat:=29
abbrev a8N:Nat:=30
abbrev b1m:Nat:=31
abbrev a8H:Nat:=32
abbrev b6N:Nat:=40
abbrev a3z:Nat:=41
abbrev a8O:Nat:=42
abbrev a8P:Nat:=43
abbrev a7h:Nat:=44
abbrev a8Q:Nat:=45
abbrev a8R:Nat:=46
abbrev b1n:Nat:=47
abbrev a8S:Nat:=48
abbrev b0z:Nat:=49
abbrev a7i:Nat:=50
abbrev a7j:Nat:=51
abbrev a7k:Nat:=52
abbrev a5K:Nat:=53
abbrev a7l:Nat:=54
abbrev a7m:Nat:=56
abbrev a5L:Nat:=57
abbrev a7n:Nat:=58
abbrev a4c:Nat:=59
abbrev a4d:Nat:=61
noncomputable def ti3:TI:=⟨.int .i64,1,8,[.int .i64 0],[]⟩
noncomputable def ti5:TI:=⟨.int .u8,1,1,[.int .u8 0],[]⟩
noncomputable def ti9:TI:=⟨.str,1,16,[.str []],[]⟩
noncomputable def b7m:TI:=⟨.sl 27,1,24,[.nils],[]⟩
noncomputable def b7V:TI:=⟨.sl 125,1,24,[.nils],[]⟩
noncomputable def b7W:TI:=⟨.sl 90,1,24,[.nils],[]⟩
noncomputable def b7l:TI:=⟨.st [(3,0,1),(3,1,1),(3,2,1),(3,3,1),(24,4,1),(3,5,1),(3,6,1),(9,7,1),(9,8,1),(25,9,1)],10,128,[.int .i64 0,.int .i64 0,.int .i64 0,.int .i64 0,.nils,.int .i64 0,.int .i64 0,.str [],.str [],.nils],[]⟩
noncomputable def a9L:TI:=⟨.sl 47,1,24,[.nils],[]⟩
noncomputable def b7X:TI:=⟨.int .i64,1,8,[.int .i64 0],[]⟩
noncomputable def a7D:TI:=⟨.sl 38,1,24,[.nils],[]⟩
noncomputable def a9M:TI:=⟨.sl 41,1,24,[.nils],[]⟩
noncomputable def a7E:TI:=⟨.st [(27,0,10),(9,10,1),(3,11,1)],12,152,[.int .i64 0,.int .i64 0,.int .i64 0,.int .i64 0,.nils,.int .i64 0,.int .i64 0,.str [],.str [],.nils,.str [],.int .i64 0],[]⟩
noncomputable def a9N:TI:=⟨.st [(3,0,1),(3,1,1)],2,16,[.int .i64 0,.int .i64 0],[]⟩
noncomputable def a9O:TI:=⟨.st [(27,0,10),(27,10,10)],20,256,[.int .i64 0,.int .i64 0,.int .i64 0,.int .i64 0,.nils,.int .i64 0,.int .i64 0,.str [],.str [],.nils,.int .i64 0,.int .i64 0,.int .i64 0,.int .i64 0,.nils,.int .i64 0,.int .i64 0,.str [],.str [],.nils],[]⟩
noncomputable def b5a:TI:=⟨.int .u64,1,8,[.int .u64 0],[]⟩
noncomputable def b8a:TI:=⟨.sl 3,1,24,[.nils],[]⟩
noncomputable def b1H:TI:=⟨.int .i64,1,8,[.int .i64 0],[]⟩
noncomputable def b7Y:TI:=⟨.int .u32,1,4,[.int .u32 0],[]⟩
noncomputable def b1G:TI:=⟨.int .u64,1,8,[.int .u64 0],[]⟩
noncomputable def b1I:TI:=⟨.int .u64,1,8,[.int .u64 0],[]⟩
noncomputable def b4Z:TI:=⟨.st [(9,0,1),(9,1,1)],2,32,[.str [],.str []],[]⟩
noncomputable def b7Z:TI:=⟨.st [(3,0,1),(3,1,1),(9,2,1)],3,32,[.int .i64 0,.int .i64 0,.str []],[]⟩
noncomputable def b7U:List (Option TI):=[none,none,none,some ti3,none,some ti5,none,none,none,some ti9,none,none,none,none,none,none,none,none,none,none,none,none,none,some b7m,some b7V,some b7W,none,some b7l,some a9L,some b7X,none,none,none,none,some a7D,none,some a9M,none,some a7E,none,none,some a9N,none,none,none,none,none,some a9O,none,none,none,none,none,none,some b5a,some b8a,none,none,none,none,none,none,none,none,some b1H,none,none,none,none,none,none,none,some b7Y,none,some b1G,none,none,none,none,none,none,none,none,some b1I,none,none,none,none,none,none,some b4Z,none,none,none,none,none,none,none,none,none,none,none,none,none,none,none,none,none,none,none,none,none,none,none,none,none,none,none,none,none,none,none,none,none,none,some b7Z]
noncomputable def tab:Tab:=b2N b7U
theorem tk3:a3e Tryd.prog 3=some ti3∧a1D Tryd.prog 3=true:=⟨by kernel_rfl,by kernel_rfl⟩
theorem tk5:a3e Tryd.prog 5=some ti5∧a1D Tryd.prog 5=true:=⟨by kernel_rfl,by kernel_rfl⟩
theorem tk9:a3e Tryd.prog 9=some ti9∧a1D Tryd.prog 9=true:=⟨by kernel_rfl,by kernel_rfl⟩
theorem b9z:a3e Tryd.prog 23=some b7m∧a1D Tryd.prog 23=true:=⟨by kernel_rfl,by kernel_rfl⟩
theorem b9A:a3e Tryd.prog 24=some b7V∧a1D Tryd.prog 24=true:=⟨by kernel_rfl,by kernel_rfl⟩
theorem b9B:a3e Tryd.prog 25=some b7W∧a1D Tryd.prog 25=true:=⟨by kernel_rfl,by kernel_rfl⟩
theorem b9C:a3e Tryd.prog 27=some b7l∧a1D Tryd.prog 27=true:=⟨by kernel_rfl,by kernel_rfl⟩
theorem b9D:a3e Tryd.prog 28=some a9L∧a1D Tryd.prog 28=true:=⟨by kernel_rfl,by kernel_rfl⟩
theorem b9E:a3e Tryd.prog 29=some b7X∧a1D Tryd.prog 29=true:=⟨by kernel_rfl,by kernel_rfl⟩
theorem b9F:a3e Tryd.prog 34=some a7D∧a1D Tryd.prog 34=true:=⟨by kernel_rfl,by kernel_rfl⟩
theorem b9G:a3e Tryd.prog 36=some a9M∧a1D Tryd.prog 36=true:=⟨by kernel_rfl,by kernel_rfl⟩
theorem b9H:a3e Tryd.prog 38=some a7E∧a1D Tryd.prog 38=true:=⟨by kernel_rfl,by kernel_rfl⟩
theorem b9I:a3e Tryd.prog 41=some a9N∧a1D Tryd.prog 41=true:=⟨by kernel_rfl,by kernel_rfl⟩
theorem b9J:a3e Tryd.prog 47=some a9O∧a1D Tryd.prog 47=true:=⟨by kernel_rfl,by kernel_rfl⟩
theorem b9K:a3e Tryd.prog 54=some b5a∧a1D Tryd.prog 54=true:=⟨by kernel_rfl,by kernel_rfl⟩
theorem b9L:a3e Tryd.prog 55=some b8a∧a1D Tryd.prog 55=true:=⟨by kernel_rfl,by kernel_rfl⟩
theorem b9M:a3e Tryd.prog 64=some b1H∧a1D Tryd.prog 64=true:=⟨by kernel_rfl,by kernel_rfl⟩
theorem b9N:a3e Tryd.prog 72=some b7Y∧a1D Tryd.prog 72=true:=⟨by kernel_rfl,by kernel_rfl⟩
theorem b9O:a3e Tryd.prog 74=some b1G∧a1D Tryd.prog 74=true:=⟨by kernel_rfl,by kernel_rfl⟩
theorem b9P:a3e Tryd.prog 83=some b1I∧a1D Tryd.prog 83=true:=⟨by kernel_rfl,by kernel_rfl⟩
theorem b9Q:a3e Tryd.prog 90=some b4Z∧a1D Tryd.prog 90=true:=⟨by kernel_rfl,by kernel_rfl⟩
theorem b7n:a3e Tryd.prog 125=some b7Z∧a1D Tryd.prog 125=true:=⟨by kernel_rfl,by kernel_rfl⟩
theorem b4Y:TabOK Tryd.prog tab:=b0Z (show a5s Tryd.prog 0 b7U from ⟨tk3,tk5,tk9,b9z,b9A,b9B,b9C,b9D,b9E,b9F,b9G,b9H,b9I,b9J,b9K,b9L,b9M,b9N,b9O,b9P,b9Q,b7n,trivial⟩)
theorem b7S:Tryd.prog.follows .mixedOrders=true:=by kernel_rfl
def fi_ (f:Func) (n:Nat) (k z b:List Nat) (s:Bool):FnI:=⟨f.body.getD .skip,f.results.toList,⟨n,k,z,b⟩,s⟩
noncomputable def i4:=fi_ Tryd.f4 10 [0] [] [] false
noncomputable def i6:=fi_ Tryd.f6 23 [0,1,2,3,4,6] [3,4] [] false
noncomputable def i8:=fi_ Tryd.f8 28 [0,1,2,3,4] [2,3,25] [] false
noncomputable def i9:=fi_ Tryd.f9 14 [0,1,4] [] [] false
noncomputable def i10:=fi_ Tryd.f10 17 [0,1,2,3,4] [2,3,15] [] false
noncomputable def i11:=fi_ Tryd.f11 18 [0,2,3,5,6,7,8,9,14] [] [] false
noncomputable def i12:=fi_ Tryd.f12 20 [0,1,4,5,6,11,12,13,16,19] [] [] false
noncomputable def i14:=fi_ Tryd.f14 14 [0,1,4] [] [] false
noncomputable def i15:=fi_ Tryd.f15 24 [0,1,2,3,4] [2,3,22] [] false
noncomputable def i16:=fi_ Tryd.f16 148 [0,1,2,3,4,10,11,12,13,14,15,16,17,18,19,20,25,32,39,56,75,80,97,125] [] [] false
noncomputable def i17:=fi_ Tryd.f17 8 [0,2] [] [] false
noncomputable def i18:=fi_ Tryd.f18 6 [0,2] [] [] false
noncomputable def i20:=fi_ Tryd.f20 12 [0,1,2,4,5] [2] [] false
noncomputable def i21:=fi_ Tryd.f21 148 [0,1,2,3,4,10,11,12,13,14,15,16,17,18,19,20,25,32,39,56,75,80,97,125] [] [] false
noncomputable def i22:=fi_ Tryd.f22 20 [0,1,4,5,6,11,12,13,16,19] [] [] false
noncomputable def i23:=fi_ Tryd.f23 53 [0,1,2,3,8,9,14,34] [] [] false
noncomputable def i24:=fi_ Tryd.f24 60 [0,1,2,3,8,9,10,11,12,21,33] [] [] false
noncomputable def i25:=fi_ Tryd.f25 67 [0,1,2,8,9,10,11,12,17,35,45] [] [] true
noncomputable def i26:=fi_ Tryd.f26 63 [0,1,2,3,8,9,10,11,12,13,14,34,36,55,57,60] [] [] true
noncomputable def i27:=fi_ Tryd.f27 34 [0,1,2,8,9,15] [] [] false
noncomputable def i28:=fi_ Tryd.f28 141 [0,1,2,3,8,9,10,11,12,16,36,41,45,65,69,84,104,109,124] [] [] false
noncomputable def i29:=fi_ Tryd.f29 90 [0,1,2,3,4,10,11,12,47,65,70] [] [] false
noncomputable def i30:=fi_ Tryd.f30 178 [0,1,2,3,4,10,11,12,13,47,66,71,120,139,144] [] [] false
noncomputable def i31:=fi_ Tryd.f31 19 [0,2,4,8] [] [] false
noncomputable def i32:=fi_ Tryd.f32 25 [0,2,4,8,14] [] [] false
noncomputable def i40:=fi_ Tryd.f40 21 [0,1,4,5,7,8,9,10,11,17] [7] [] false
noncomputable def i41:=fi_ Tryd.f41 53 [0,1,2,3,8,9,14,34] [] [] false
noncomputable def i42:=fi_ Tryd.f42 60 [0,1,2,3,8,9,10,11,12,21,33] [] [] false
noncomputable def i43:=fi_ Tryd.f43 67 [0,1,2,8,9,10,11,12,17,35,45] [] [] true
noncomputable def i44:=fi_ Tryd.f44 63 [0,1,2,3,8,9,10,11,12,13,14,34,36,55,57,60] [] [] true
noncomputable def i45:=fi_ Tryd.f45 34 [0,1,2,8,9,15] [] [] false
noncomputable def i46:=fi_ Tryd.f46 141 [0,1,2,3,8,9,10,11,12,16,36,41,45,65,69,84,104,109,124] [] [] false
noncomputable def i47:=fi_ Tryd.f47 90 [0,1,2,3,4,10,11,12,47,65,70] [] [] false
noncomputable def i48:=fi_ Tryd.f48 178 [0,1,2,3,4,10,11,12,13,47,66,71,120,139,144] [] [] false
noncomputable def i49:=fi_ Tryd.f49 6 [0,2] [] [] false
noncomputable def i50:=fi_ Tryd.f50 82 [0,1,2,3,4,10,11,18,40,58] [] [] false
noncomputable def i51:=fi_ Tryd.f51 7 [0,2] [] [] false
noncomputable def i52:=fi_ Tryd.f52 33 [0,2] [] [] false
noncomputable def i53:=fi_ Tryd.f53 18 [0,1,2,3,8] [] [] false
noncomputable def i54:=fi_ Tryd.f54 41 [0,1,2,3,4,5,12] [] [] false
noncomputable def i56:=fi_ Tryd.f56 82 [0,1,2,3,4,10,11,18,40,58] [] [] false
noncomputable def i57:=fi_ Tryd.f57 18 [0,1,2,3,8] [] [] false
noncomputable def i58:=fi_ Tryd.f58 41 [0,1,2,3,4,5,12] [] [] false
noncomputable def i59:=fi_ Tryd.f59 32 [0,1,2,3,4,10,11,22] [] [] false
noncomputable def i61:=fi_ Tryd.f61 32 [0,1,2,3,4,10,11,22] [] [] false
noncomputable def b6P:List (Nat × FnI):=[(4,i4),(6,i6),(8,i8),(9,i9),(10,i10),(11,i11),(12,i12),(14,i14),(15,i15),(16,i16),(17,i17),(18,i18),(20,i20),(21,i21),(22,i22),(23,i23),(24,i24),(25,i25),(26,i26),(27,i27),(28,i28),(29,i29),(30,i30),(31,i31),(32,i32),(40,i40),(41,i41),(42,i42),(43,i43),(44,i44),(45,i45),(46,i46),(47,i47),(48,i48),(49,i49),(50,i50),(51,i51),(52,i52),(53,i53),(54,i54),(56,i56),(57,i57),(58,i58),(59,i59),(61,i61)]
noncomputable def Fs:FuncId→Option FnI:=b4t b6P
theorem fk4:FnOK Tryd.prog 4 i4 := .of Tryd.func4 (by kernel_rfl) (by kernel_rfl) (by kernel_rfl) Tryd.call4
theorem fk6:FnOK Tryd.prog 6 i6 := .of Tryd.func6 (by kernel_rfl) (by kernel_rfl) (by kernel_rfl) Tryd.call6
theorem fk8:FnOK Tryd.prog 8 i8 := .of Tryd.func8 (by kernel_rfl) (by kernel_rfl) (by kernel_rfl) Tryd.call8
theorem fk9:FnOK Tryd.prog 9 i9 := .of Tryd.func9 (by kernel_rfl) (by kernel_rfl) (by kernel_rfl) Tryd.call9
theorem b8i:FnOK Tryd.prog 10 i10 := .of Tryd.func10 (by kernel_rfl) (by kernel_rfl) (by kernel_rfl) Tryd.call10
theorem b8j:FnOK Tryd.prog 11 i11 := .of Tryd.func11 (by kernel_rfl) (by kernel_rfl) (by kernel_rfl) Tryd.call11
theorem b8k:FnOK Tryd.prog 12 i12 := .of Tryd.func12 (by kernel_rfl) (by kernel_rfl) (by kernel_rfl) Tryd.call12
theorem b8l:FnOK Tryd.prog 14 i14 := .of Tryd.func14 (by kernel_rfl) (by kernel_rfl) (by kernel_rfl) Tryd.call14
theorem b8m:FnOK Tryd.prog 15 i15 := .of Tryd.func15 (by kernel_rfl) (by kernel_rfl) (by kernel_rfl) Tryd.call15
theorem b8n:FnOK Tryd.prog 16 i16 := .of Tryd.func16 (by kernel_rfl) (by kernel_rfl) (by kernel_rfl) Tryd.call16
theorem b8o:FnOK Tryd.prog 17 i17 := .of Tryd.func17 (by kernel_rfl) (by kernel_rfl) (by kernel_rfl) Tryd.call17
theorem b8p:FnOK Tryd.prog 18 i18 := .of Tryd.func18 (by kernel_rfl) (by kernel_rfl) (by kernel_rfl) Tryd.call18
theorem b8q:FnOK Tryd.prog 20 i20 := .of Tryd.func20 (by kernel_rfl) (by kernel_rfl) (by kernel_rfl) Tryd.call20
theorem b8r:FnOK Tryd.prog 21 i21 := .of Tryd.func21 (by kernel_rfl) (by kernel_rfl) (by kernel_rfl) Tryd.call21
theorem b8s:FnOK Tryd.prog 22 i22 := .of Tryd.func22 (by kernel_rfl) (by kernel_rfl) (by kernel_rfl) Tryd.call22
theorem b8t:FnOK Tryd.prog 23 i23 := .of Tryd.func23 (by kernel_rfl) (by kernel_rfl) (by kernel_rfl) Tryd.call23
theorem b8u:FnOK Tryd.prog 24 i24 := .of Tryd.func24 (by kernel_rfl) (by kernel_rfl) (by kernel_rfl) Tryd.call24
theorem b8v:FnOK Tryd.prog 25 i25 := .of Tryd.func25 (by kernel_rfl) (by kernel_rfl) (by kernel_rfl) Tryd.call25
theorem b8w:FnOK Tryd.prog 26 i26 := .of Tryd.func26 (by kernel_rfl) (by kernel_rfl) (by kernel_rfl) Tryd.call26
theorem b8x:FnOK Tryd.prog 27 i27 := .of Tryd.func27 (by kernel_rfl) (by kernel_rfl) (by kernel_rfl) Tryd.call27
theorem b8y:FnOK Tryd.prog 28 i28 := .of Tryd.func28 (by kernel_rfl) (by kernel_rfl) (by kernel_rfl) Tryd.call28
theorem b8z:FnOK Tryd.prog 29 i29 := .of Tryd.func29 (by kernel_rfl) (by kernel_rfl) (by kernel_rfl) Tryd.call29
theorem b8A:FnOK Tryd.prog 30 i30 := .of Tryd.func30 (by kernel_rfl) (by kernel_rfl) (by kernel_rfl) Tryd.call30
theorem b8B:FnOK Tryd.prog 31 i31 := .of Tryd.func31 (by kernel_rfl) (by kernel_rfl) (by kernel_rfl) Tryd.call31
theorem b8C:FnOK Tryd.prog 32 i32 := .of Tryd.func32 (by kernel_rfl) (by kernel_rfl) (by kernel_rfl) Tryd.call32
theorem b8D:FnOK Tryd.prog 40 i40 := .of Tryd.func40 (by kernel_rfl) (by kernel_rfl) (by kernel_rfl) Tryd.call40
theorem b8E:FnOK Tryd.prog 41 i41 := .of Tryd.func41 (by kernel_rfl) (by kernel_rfl) (by kernel_rfl) Tryd.call41
theorem b8F:FnOK Tryd.prog 42 i42 := .of Tryd.func42 (by kernel_rfl) (by kernel_rfl) (by kernel_rfl) Tryd.call42
theorem b8G:FnOK Tryd.prog 43 i43 := .of Tryd.func43 (by kernel_rfl) (by kernel_rfl) (by kernel_rfl) Tryd.call43
theorem b8H:FnOK Tryd.prog 44 i44 := .of Tryd.func44 (by kernel_rfl) (by kernel_rfl) (by kernel_rfl) Tryd.call44
theorem b8I:FnOK Tryd.prog 45 i45 := .of Tryd.func45 (by kernel_rfl) (by kernel_rfl) (by kernel_rfl) Tryd.call45
theorem b8J:FnOK Tryd.prog 46 i46 := .of Tryd.func46 (by kernel_rfl) (by kernel_rfl) (by kernel_rfl) Tryd.call46
theorem b8K:FnOK Tryd.prog 47 i47 := .of Tryd.func47 (by kernel_rfl) (by kernel_rfl) (by kernel_rfl) Tryd.call47
theorem b8L:FnOK Tryd.prog 48 i48 := .of Tryd.func48 (by kernel_rfl) (by kernel_rfl) (by kernel_rfl) Tryd.call48
theorem b8M:FnOK Tryd.prog 49 i49 := .of Tryd.func49 (by kernel_rfl) (by kernel_rfl) (by kernel_rfl) Tryd.call49
theorem b8N:FnOK Tryd.prog 50 i50 := .of Tryd.func50 (by kernel_rfl) (by kernel_rfl) (by kernel_rfl) Tryd.call50
theorem b8O:FnOK Tryd.prog 51 i51 := .of Tryd.func51 (by kernel_rfl) (by kernel_rfl) (by kernel_rfl) Tryd.call51
theorem b8P:FnOK Tryd.prog 52 i52 := .of Tryd.func52 (by kernel_rfl) (by kernel_rfl) (by kernel_rfl) Tryd.call52
theorem b8Q:FnOK Tryd.prog 53 i53 := .of Tryd.func53 (by kernel_rfl) (by kernel_rfl) (by kernel_rfl) Tryd.call53
theorem b8R:FnOK Tryd.prog 54 i54 := .of Tryd.func54 (by kernel_rfl) (by kernel_rfl) (by kernel_rfl) Tryd.call54
theorem b8S:FnOK Tryd.prog 56 i56 := .of Tryd.func56 (by kernel_rfl) (by kernel_rfl) (by kernel_rfl) Tryd.call56
theorem b8T:FnOK Tryd.prog 57 i57 := .of Tryd.func57 (by kernel_rfl) (by kernel_rfl) (by kernel_rfl) Tryd.call57
theorem b8U:FnOK Tryd.prog 58 i58 := .of Tryd.func58 (by kernel_rfl) (by kernel_rfl) (by kernel_rfl) Tryd.call58
theorem b8V:FnOK Tryd.prog 59 i59 := .of Tryd.func59 (by kernel_rfl) (by kernel_rfl) (by kernel_rfl) Tryd.call59
theorem b8W:FnOK Tryd.prog 61 i61 := .of Tryd.func61 (by kernel_rfl) (by kernel_rfl) (by kernel_rfl) Tryd.call61
theorem b6Q:b0e Tryd.prog b6P:=⟨fk4,fk6,fk8,fk9,b8i,b8j,b8k,b8l,b8m,b8n,b8o,b8p,b8q,b8r,b8s,b8t,b8u,b8v,b8w,b8x,b8y,b8z,b8A,b8B,b8C,b8D,b8E,b8F,b8G,b8H,b8I,b8J,b8K,b8L,b8M,b8N,b8O,b8P,b8Q,b8R,b8S,b8T,b8U,b8V,b8W,trivial⟩
noncomputable def gl:Nat→Option D:=fun _=>none
noncomputable def xt:a0F:=fun _ _ _=>none
theorem b9S (X:Cx):a1f Tryd.prog X xt:=fun f args h d h' hd=>by cases hd
noncomputable def X:Cx:=⟨tab,gl,xt⟩
noncomputable def R:a0F:=run X Fs
theorem er (fi:FnI) {f:FuncId} {args:List D} {h:Hp} {x:Option (D × Hp)} (hf:Fs f=some fi) (hx:fnR X R a0v fi args h=x):R f args h=x:=(b1C hf args h).trans hx
theorem b7M:a1f Tryd.prog X R:=b1D (X:=X) b4Y b7S (b9S X) (a8T b6P b6Q)
end Go.Proofs.YtkpnnfhodlanjaaDoor
