/- The tables of this seat: its types, and how its functions are carried out on data. -/
import Derived.Test.YtkpnnfhodlanjaaGreatDoorPiW
import Derived.Test.YtkpnnfhodlanjaaGreatDoorChecked
import Derived.KernelRfl
set_option linter.unusedSimpArgs false
set_option linter.unusedVariables false
set_option linter.unnecessarySimpa false
namespace Go.Proofs.YtkpnnfhodlanjaaGreatDoor
open Go.Eng Go.Pi
abbrev ty3:Nat:=3
abbrev ty5:Nat:=5
abbrev ty9:Nat:=9
abbrev a3h:Nat:=22
abbrev a2o:Nat:=24
abbrev a0P:Nat:=28
abbrev b4V:Nat:=29
abbrev a3s:Nat:=33
abbrev a3F:Nat:=34
abbrev a0C:Nat:=36
abbrev a1q:Nat:=38
abbrev c0T:Nat:=40
abbrev a0I:Nat:=48
abbrev a0l:Nat:=50
abbrev a1d:Nat:=52
abbrev a0u:Nat:=53
abbrev a0v:Nat:=55
abbrev a0h:Nat:=57
abbrev a0i:Nat:=59
abbrev a2a:Nat:=66
abbrev a3r:Nat:=68
abbrev a3D:Nat:=69
abbrev a2n:Nat:=71
abbrev a3t:Nat:=75
abbrev a4i:Nat:=82
abbrev a8e:Nat:=100
abbrev b8e:Nat:=107
abbrev a2m:Nat:=109
abbrev a7f:Nat:=111
abbrev a2s:Nat:=113
abbrev a0T:Nat:=129
abbrev a7B:Nat:=31
abbrev a4S:Nat:=6
abbrev a4n:Nat:=7
abbrev b5u:Nat:=9
abbrev b6E:Nat:=10
abbrev a3O:Nat:=11
abbrev a3P:Nat:=12
abbrev a2f:Nat:=13
abbrev c3x:Nat:=14
abbrev c1D:Nat:=15
abbrev a7F:Nat:=16
abbrev a2x:Nat:=17
abbrev a5B:Nat:=19
abbrev a5F:Nat:=20
abbrev a4T:Nat:=21
abbrev b9M:Nat:=22
abbrev b3r:Nat:=23
abbrev c3A:Nat:=24
abbrev c1E:Nat:=25
abbrev b9L:Nat:=26
abbrev c1F:Nat:=27
abbrev a3v:Nat:=28
abbrev a7A:Nat:=29
abbrev c1B:Nat:=30
abbrev a5G:Nat:=32
abbrev a4U:Nat:=33
abbrev a5H:Nat:=34
abbrev a4V:Nat:=35
abbrev c1K:Nat:=36
abbrev c3C:Nat:=37
abbrev c3D:Nat:=38
abbrev c1H:Nat:=39
abbrev a7G:Nat:=40
abbrev a7H:Nat:=41
abbrev a5C:Nat:=42
abbrev b1P:Nat:=43
abbrev a9L:Nat:=44
abbrev a5D:Nat:=45
abbrev b1A:Nat:=46
abbrev c1G:Nat:=48
abbrev a5I:Nat:=49
abbrev c3B:Nat:=50
abbrev a4W:Nat:=51
abbrev b1E:Nat:=52
abbrev b1F:Nat:=53
abbrev a9D:Nat:=54
abbrev b1G:Nat:=55
abbrev b1H:Nat:=56
abbrev b5r:Nat:=57
abbrev b1I:Nat:=58
abbrev b5s:Nat:=59
abbrev b1D:Nat:=60
abbrev c1I:Nat:=61
abbrev c1C:Nat:=62
abbrev c1J:Nat:=63
abbrev b9N:Nat:=64
abbrev b1Q:Nat:=65
abbrev a5E:Nat:=66
abbrev b1R:Nat:=67
abbrev a4m:Nat:=68
abbrev c3z:Nat:=69
abbrev b1B:Nat:=70
abbrev c3y:Nat:=78
abbrev a4X:Nat:=79
abbrev b1J:Nat:=80
abbrev b1K:Nat:=81
abbrev a9E:Nat:=82
abbrev b1L:Nat:=83
abbrev b1M:Nat:=84
abbrev b5t:Nat:=85
abbrev b1N:Nat:=86
abbrev b4k:Nat:=87
abbrev a9F:Nat:=88
abbrev a9G:Nat:=89
abbrev a9H:Nat:=90
abbrev a7D:Nat:=91
abbrev a9I:Nat:=92
abbrev b4l:Nat:=93
abbrev a9B:Nat:=94
abbrev b1S:Nat:=95
abbrev a9C:Nat:=96
abbrev a9J:Nat:=98
abbrev a7E:Nat:=99
abbrev a9K:Nat:=100
abbrev a5J:Nat:=101
abbrev b1C:Nat:=102
abbrev a5K:Nat:=104
noncomputable def ti3:TI:=⟨.int .i64,1,8,[.int .i64 0],[]⟩
noncomputable def ti5:TI:=⟨.int .u8,1,1,[.int .u8 0],[]⟩
noncomputable def ti9:TI:=⟨.str,1,16,[.str []],[]⟩
noncomputable def ti22:TI:=⟨.sl 5,1,24,[.nils],[]⟩
noncomputable def c0R:TI:=⟨.sl 36,1,24,[.nils],[]⟩
noncomputable def ti1271:TI:=⟨.sl 38,1,24,[.nils],[]⟩
noncomputable def c5K:TI:=⟨.int .i64,1,8,[.int .i64 0],[]⟩
noncomputable def c4A:TI:=⟨.sl 111,1,24,[.nils],[]⟩
noncomputable def c4B:TI:=⟨.sl 113,1,24,[.nils],[]⟩
noncomputable def c0Q:TI:=⟨.st [(3,0,1),(3,1,1),(3,2,1),(3,3,1),(33,4,1),(3,5,1),(3,6,1),(9,7,1),(9,8,1),(34,9,1)],10,128,[.int .i64 0,.int .i64 0,.int .i64 0,.int .i64 0,.nils,.int .i64 0,.int .i64 0,.str [],.str [],.nils],[]⟩
noncomputable def ti1286:TI:=⟨.st [(36,0,10),(36,10,10)],20,256,[.int .i64 0,.int .i64 0,.int .i64 0,.int .i64 0,.nils,.int .i64 0,.int .i64 0,.str [],.str [],.nils,.int .i64 0,.int .i64 0,.int .i64 0,.int .i64 0,.nils,.int .i64 0,.int .i64 0,.str [],.str [],.nils],[]⟩
noncomputable def b5T:TI:=⟨.int .u16,1,2,[.int .u16 0],[]⟩
noncomputable def b3l:TI:=⟨.sl 50,1,24,[.nils],[]⟩
noncomputable def ti1321:TI:=⟨.st [(3,0,1),(9,1,1),(9,2,1),(3,3,1),(48,4,1)],5,72,[.int .i64 0,.str [],.str [],.int .i64 0,.nils],[]⟩
noncomputable def b7D:TI:=⟨.sl 9,1,24,[.nils],[]⟩
noncomputable def b0e:TI:=⟨.sl 57,1,24,[.nils],[]⟩
noncomputable def b3j:TI:=⟨.sl 59,1,24,[.nils],[]⟩
noncomputable def b0f:TI:=⟨.st [(36,0,10),(9,10,1),(3,11,1)],12,152,[.int .i64 0,.int .i64 0,.int .i64 0,.int .i64 0,.nils,.int .i64 0,.int .i64 0,.str [],.str [],.nils,.str [],.int .i64 0],[]⟩
noncomputable def b3k:TI:=⟨.st [(3,0,1),(3,1,1)],2,16,[.int .i64 0,.int .i64 0],[]⟩
noncomputable def c4C:TI:=⟨.st [(9,0,1),(36,1,10)],11,144,[.str [],.int .i64 0,.int .i64 0,.int .i64 0,.int .i64 0,.nils,.int .i64 0,.int .i64 0,.str [],.str [],.nils],[]⟩
noncomputable def ti101:TI:=⟨.st [(22,0,1),(3,1,1)],2,32,[.nils,.int .i64 0],[]⟩
noncomputable def b4T:TI:=⟨.sl 71,1,24,[.nils],[]⟩
noncomputable def b3i:TI:=⟨.sl 66,1,24,[.nils],[]⟩
noncomputable def c4E:TI:=⟨.sl 3,1,24,[.nils],[]⟩
noncomputable def c0P:TI:=⟨.int .u64,1,8,[.int .u64 0],[]⟩
noncomputable def b5U:TI:=⟨.int .i64,1,8,[.int .i64 0],[]⟩
noncomputable def c5L:TI:=⟨.int .u32,1,4,[.int .u32 0],[]⟩
noncomputable def b5S:TI:=⟨.int .u64,1,8,[.int .u64 0],[]⟩
noncomputable def c4D:TI:=⟨.st [(3,0,1),(3,1,1),(9,2,1)],3,32,[.int .i64 0,.int .i64 0,.str []],[]⟩
noncomputable def b7C:TI:=⟨.st [(9,0,1),(9,1,1)],2,32,[.str [],.str []],[]⟩
noncomputable def b5V:TI:=⟨.int .u64,1,8,[.int .u64 0],[]⟩
noncomputable def c5J:List (Option TI):=[none,none,none,some ti3,none,some ti5,none,none,none,some ti9,none,none,none,none,none,none,none,none,none,none,none,none,some ti22,none,some c0R,none,none,none,some ti1271,some c5K,none,none,none,some c4A,some c4B,none,some c0Q,none,some ti1286,none,some b5T,none,none,none,none,none,none,none,some b3l,none,some ti1321,none,some b7D,some b0e,none,some b3j,none,some b0f,none,some b3k,none,none,none,none,none,none,some c4C,none,some ti101,some b4T,none,some b3i,none,none,none,some c4E,none,none,none,none,none,none,some c0P,none,none,none,none,none,none,none,none,none,none,none,none,none,none,none,none,none,some b5U,none,none,none,none,none,none,some c5L,none,some b5S,none,some c4D,none,some b7C,none,none,none,none,none,none,none,none,none,none,none,none,none,none,none,some b5V]
noncomputable def tab:Tab:=b7A c5J
theorem tk3:a3g Tryz.prog 3=some ti3∧a1G Tryz.prog 3=true:=⟨by kernel_rfl,by kernel_rfl⟩
theorem tk5:a3g Tryz.prog 5=some ti5∧a1G Tryz.prog 5=true:=⟨by kernel_rfl,by kernel_rfl⟩
theorem tk9:a3g Tryz.prog 9=some ti9∧a1G Tryz.prog 9=true:=⟨by kernel_rfl,by kernel_rfl⟩
theorem c8j:a3g Tryz.prog 22=some ti22∧a1G Tryz.prog 22=true:=⟨by kernel_rfl,by kernel_rfl⟩
theorem c8k:a3g Tryz.prog 24=some c0R∧a1G Tryz.prog 24=true:=⟨by kernel_rfl,by kernel_rfl⟩
theorem c8l:a3g Tryz.prog 28=some ti1271∧a1G Tryz.prog 28=true:=⟨by kernel_rfl,by kernel_rfl⟩
theorem c8m:a3g Tryz.prog 29=some c5K∧a1G Tryz.prog 29=true:=⟨by kernel_rfl,by kernel_rfl⟩
theorem c8n:a3g Tryz.prog 33=some c4A∧a1G Tryz.prog 33=true:=⟨by kernel_rfl,by kernel_rfl⟩
theorem c8o:a3g Tryz.prog 34=some c4B∧a1G Tryz.prog 34=true:=⟨by kernel_rfl,by kernel_rfl⟩
theorem c8p:a3g Tryz.prog 36=some c0Q∧a1G Tryz.prog 36=true:=⟨by kernel_rfl,by kernel_rfl⟩
theorem c8q:a3g Tryz.prog 38=some ti1286∧a1G Tryz.prog 38=true:=⟨by kernel_rfl,by kernel_rfl⟩
theorem c8r:a3g Tryz.prog 40=some b5T∧a1G Tryz.prog 40=true:=⟨by kernel_rfl,by kernel_rfl⟩
theorem c8s:a3g Tryz.prog 48=some b3l∧a1G Tryz.prog 48=true:=⟨by kernel_rfl,by kernel_rfl⟩
theorem c8t:a3g Tryz.prog 50=some ti1321∧a1G Tryz.prog 50=true:=⟨by kernel_rfl,by kernel_rfl⟩
theorem c8u:a3g Tryz.prog 52=some b7D∧a1G Tryz.prog 52=true:=⟨by kernel_rfl,by kernel_rfl⟩
theorem c8v:a3g Tryz.prog 53=some b0e∧a1G Tryz.prog 53=true:=⟨by kernel_rfl,by kernel_rfl⟩
theorem c8w:a3g Tryz.prog 55=some b3j∧a1G Tryz.prog 55=true:=⟨by kernel_rfl,by kernel_rfl⟩
theorem c8x:a3g Tryz.prog 57=some b0f∧a1G Tryz.prog 57=true:=⟨by kernel_rfl,by kernel_rfl⟩
theorem c8y:a3g Tryz.prog 59=some b3k∧a1G Tryz.prog 59=true:=⟨by kernel_rfl,by kernel_rfl⟩
theorem c8z:a3g Tryz.prog 66=some c4C∧a1G Tryz.prog 66=true:=⟨by kernel_rfl,by kernel_rfl⟩
theorem c8A:a3g Tryz.prog 68=some ti101∧a1G Tryz.prog 68=true:=⟨by kernel_rfl,by kernel_rfl⟩
theorem c8B:a3g Tryz.prog 69=some b4T∧a1G Tryz.prog 69=true:=⟨by kernel_rfl,by kernel_rfl⟩
theorem c8C:a3g Tryz.prog 71=some b3i∧a1G Tryz.prog 71=true:=⟨by kernel_rfl,by kernel_rfl⟩
theorem c8D:a3g Tryz.prog 75=some c4E∧a1G Tryz.prog 75=true:=⟨by kernel_rfl,by kernel_rfl⟩
theorem c8E:a3g Tryz.prog 82=some c0P∧a1G Tryz.prog 82=true:=⟨by kernel_rfl,by kernel_rfl⟩
theorem c4F:a3g Tryz.prog 100=some b5U∧a1G Tryz.prog 100=true:=⟨by kernel_rfl,by kernel_rfl⟩
theorem c4G:a3g Tryz.prog 107=some c5L∧a1G Tryz.prog 107=true:=⟨by kernel_rfl,by kernel_rfl⟩
theorem c4H:a3g Tryz.prog 109=some b5S∧a1G Tryz.prog 109=true:=⟨by kernel_rfl,by kernel_rfl⟩
theorem c4I:a3g Tryz.prog 111=some c4D∧a1G Tryz.prog 111=true:=⟨by kernel_rfl,by kernel_rfl⟩
theorem c4J:a3g Tryz.prog 113=some b7C∧a1G Tryz.prog 113=true:=⟨by kernel_rfl,by kernel_rfl⟩
theorem c4K:a3g Tryz.prog 129=some b5V∧a1G Tryz.prog 129=true:=⟨by kernel_rfl,by kernel_rfl⟩
theorem c0N:TabOK Tryz.prog tab:=b4R (show a7j Tryz.prog 0 c5J from ⟨tk3,tk5,tk9,c8j,c8k,c8l,c8m,c8n,c8o,c8p,c8q,c8r,c8s,c8t,c8u,c8v,c8w,c8x,c8y,c8z,c8A,c8B,c8C,c8D,c8E,c4F,c4G,c4H,c4I,c4J,c4K,trivial⟩)
theorem c5H:Tryz.prog.follows .mixedOrders=true:=by kernel_rfl
def fi_ (f:Func) (n:Nat) (k z b:List Nat) (s:Bool):FnI:=⟨f.body.getD .skip,f.results.toList,⟨n,k,z,b⟩,s⟩
noncomputable def i6:=fi_ Tryz.f6 10 [0] [] [] false
noncomputable def i7:=fi_ Tryz.f7 38 [0,2,3,4,5,6,7,8,9,10,25] [30] [] false
noncomputable def i9:=fi_ Tryz.f9 10 [0,1,2,3,4] [2,3] [] false
noncomputable def i10:=fi_ Tryz.f10 43 [0,1,2,3,4,5,16,27] [2,3] [] false
noncomputable def i11:=fi_ Tryz.f11 23 [0,1,2,3,4,6] [3,4] [] false
noncomputable def i12:=fi_ Tryz.f12 43 [0,1,4,5,10,14,42] [] [] false
noncomputable def i13:=fi_ Tryz.f13 35 [0,1,4,5,12] [] [] false
noncomputable def i14:=fi_ Tryz.f14 13 [0,1,4] [] [] false
noncomputable def i15:=fi_ Tryz.f15 56 [0,1,4,5,6,7,8,9,14,24,33,44] [] [] false
noncomputable def i16:=fi_ Tryz.f16 27 [0,1,2,4,5,6,10,18] [2,24] [] true
noncomputable def i17:=fi_ Tryz.f17 131 [0,1,4,5,6,7,8,12,15,16,25,33,41,46,63,68,82,90,99,102,118] [19,27,35,47,52,91,108,127] [] true
noncomputable def i19:=fi_ Tryz.f19 28 [0,1,2,3,4] [2,3,25] [] false
noncomputable def i20:=fi_ Tryz.f20 14 [0,1,4] [] [] false
noncomputable def i21:=fi_ Tryz.f21 17 [0,1,2,3,4] [2,3,15] [] false
noncomputable def i22:=fi_ Tryz.f22 18 [0,2,3,5,6,7,8,9,14] [] [] false
noncomputable def i23:=fi_ Tryz.f23 20 [0,1,4,5,6,11,12,13,16,19] [] [] false
noncomputable def i24:=fi_ Tryz.f24 86 [0,1,2,3,4,5,6] [2,3,1000006] [] true
noncomputable def i25:=fi_ Tryz.f25 13 [0,2] [] [] false
noncomputable def i26:=fi_ Tryz.f26 45 [0,1,2,6,7,8,9,10,11,12,16,24] [12,35,42] [] true
noncomputable def i27:=fi_ Tryz.f27 34 [0,1,3,4,5,6,19] [3,28] [] true
noncomputable def i28:=fi_ Tryz.f28 163 [0,1,2,3,4,6,7,8,10,11,12,13,14,16,17,29,37,44,60,70,115,130,136,146,147,153,162] [2,3] [] false
noncomputable def i29:=fi_ Tryz.f29 8 [0,2] [3] [] false
noncomputable def i30:=fi_ Tryz.f30 12 [0,2,3] [4] [] false
noncomputable def i32:=fi_ Tryz.f32 14 [0,1,4] [] [] false
noncomputable def i33:=fi_ Tryz.f33 24 [0,1,2,3,4] [2,3,22] [] false
noncomputable def i34:=fi_ Tryz.f34 148 [0,1,2,3,4,10,11,12,13,14,15,16,17,18,19,20,25,32,39,56,75,80,97,125] [] [] false
noncomputable def i35:=fi_ Tryz.f35 8 [0,2] [] [] false
noncomputable def i36:=fi_ Tryz.f36 6 [0,2] [] [] false
noncomputable def i37:=fi_ Tryz.f37 26 [0,1,4,5,10,14,25] [] [] false
noncomputable def i38:=fi_ Tryz.f38 26 [0,1,4,5,10,14,25] [] [] false
noncomputable def i39:=fi_ Tryz.f39 94 [0,1,2,3,8,9,10,11,12,13,14,24,51,56] [41,64,77,82] [] true
noncomputable def i40:=fi_ Tryz.f40 40 [0,1,4,5,6,7,8,13,23] [] [] false
noncomputable def i41:=fi_ Tryz.f41 42 [0,2,3,4,5,6,10,16,22,34] [25,38] [] true
noncomputable def i42:=fi_ Tryz.f42 25 [0,1,2,3,4,9,13] [1] [] false
noncomputable def i43:=fi_ Tryz.f43 16 [0,1,4,5,6] [] [] false
noncomputable def i44:=fi_ Tryz.f44 24 [0,1,4,5,12,23] [] [] false
noncomputable def i45:=fi_ Tryz.f45 41 [0,1,2,4,5,6,7,12,17,22,27,31] [2] [] false
noncomputable def i46:=fi_ Tryz.f46 20 [0,1,2,4,5,6,7,15] [2] [] false
noncomputable def i48:=fi_ Tryz.f48 12 [0,1,2,4,5] [2] [] false
noncomputable def i49:=fi_ Tryz.f49 148 [0,1,2,3,4,10,11,12,13,14,15,16,17,18,19,20,25,32,39,56,75,80,97,125] [] [] false
noncomputable def i50:=fi_ Tryz.f50 20 [0,1,4,5,6,11,12,13,16,19] [] [] false
noncomputable def i51:=fi_ Tryz.f51 53 [0,1,2,3,8,9,14,34] [] [] false
noncomputable def i52:=fi_ Tryz.f52 60 [0,1,2,3,8,9,10,11,12,21,33] [] [] false
noncomputable def i53:=fi_ Tryz.f53 67 [0,1,2,8,9,10,11,12,17,35,45] [] [] true
noncomputable def i54:=fi_ Tryz.f54 63 [0,1,2,3,8,9,10,11,12,13,14,34,36,55,57,60] [] [] true
noncomputable def i55:=fi_ Tryz.f55 34 [0,1,2,8,9,15] [] [] false
noncomputable def i56:=fi_ Tryz.f56 141 [0,1,2,3,8,9,10,11,12,16,36,41,45,65,69,84,104,109,124] [] [] false
noncomputable def i57:=fi_ Tryz.f57 90 [0,1,2,3,4,10,11,12,47,65,70] [] [] false
noncomputable def i58:=fi_ Tryz.f58 178 [0,1,2,3,4,10,11,12,13,47,66,71,120,139,144] [] [] false
noncomputable def i59:=fi_ Tryz.f59 19 [0,2,4,8] [] [] false
noncomputable def i60:=fi_ Tryz.f60 25 [0,2,4,8,14] [] [] false
noncomputable def i61:=fi_ Tryz.f61 24 [0,2,3,4,10] [14] [] false
noncomputable def i62:=fi_ Tryz.f62 19 [0,2,4,5,10] [] [] false
noncomputable def i63:=fi_ Tryz.f63 8 [0,2] [3] [] false
noncomputable def i64:=fi_ Tryz.f64 27 [0,2,3,4,5,10,15] [6,24] [] true
noncomputable def i65:=fi_ Tryz.f65 32 [0,2,3,23] [] [] false
noncomputable def i66:=fi_ Tryz.f66 29 [0,2,3,4,9] [] [] true
noncomputable def i67:=fi_ Tryz.f67 32 [0,1,4,5,6,8,27] [] [] false
noncomputable def i68:=fi_ Tryz.f68 29 [0,2,3,4,8,21,23] [15,24] [] true
noncomputable def i69:=fi_ Tryz.f69 25 [0,1,4,5,6,10,19] [] [] false
noncomputable def i70:=fi_ Tryz.f70 8 [0,2,3] [] [] false
noncomputable def i78:=fi_ Tryz.f78 21 [0,1,4,5,7,8,9,10,11,17] [7] [] false
noncomputable def i79:=fi_ Tryz.f79 53 [0,1,2,3,8,9,14,34] [] [] false
noncomputable def i80:=fi_ Tryz.f80 60 [0,1,2,3,8,9,10,11,12,21,33] [] [] false
noncomputable def i81:=fi_ Tryz.f81 67 [0,1,2,8,9,10,11,12,17,35,45] [] [] true
noncomputable def i82:=fi_ Tryz.f82 63 [0,1,2,3,8,9,10,11,12,13,14,34,36,55,57,60] [] [] true
noncomputable def i83:=fi_ Tryz.f83 34 [0,1,2,8,9,15] [] [] false
noncomputable def i84:=fi_ Tryz.f84 141 [0,1,2,3,8,9,10,11,12,16,36,41,45,65,69,84,104,109,124] [] [] false
noncomputable def i85:=fi_ Tryz.f85 90 [0,1,2,3,4,10,11,12,47,65,70] [] [] false
noncomputable def i86:=fi_ Tryz.f86 178 [0,1,2,3,4,10,11,12,13,47,66,71,120,139,144] [] [] false
noncomputable def i87:=fi_ Tryz.f87 6 [0,2] [] [] false
noncomputable def i88:=fi_ Tryz.f88 82 [0,1,2,3,4,10,11,18,40,58] [] [] false
noncomputable def i89:=fi_ Tryz.f89 7 [0,2] [] [] false
noncomputable def i90:=fi_ Tryz.f90 33 [0,2] [] [] false
noncomputable def i91:=fi_ Tryz.f91 18 [0,1,2,3,8] [] [] false
noncomputable def i92:=fi_ Tryz.f92 41 [0,1,2,3,4,5,12] [] [] false
noncomputable def i93:=fi_ Tryz.f93 12 [0,2,3] [4] [] false
noncomputable def i94:=fi_ Tryz.f94 112 [0,1,4,5,6,7,8,9,10,11,21,43,79] [25,30,37,68,75,98,105] [] true
noncomputable def i95:=fi_ Tryz.f95 18 [0,1,4] [] [] false
noncomputable def i96:=fi_ Tryz.f96 53 [0,2,3,4,5,6,15,25,29,36,49] [] [] false
noncomputable def i98:=fi_ Tryz.f98 82 [0,1,2,3,4,10,11,18,40,58] [] [] false
noncomputable def i99:=fi_ Tryz.f99 18 [0,1,2,3,8] [] [] false
noncomputable def c3I:FnI:=⟨Tryz.f100.body.getD .skip,Tryz.f100.results.toList,⟨41,[0,1,2,3,4,5,12],[],[]⟩,false⟩
noncomputable def c3J:FnI:=⟨Tryz.f101.body.getD .skip,Tryz.f101.results.toList,⟨32,[0,1,2,3,4,10,11,22],[],[]⟩,false⟩
noncomputable def c3K:FnI:=⟨Tryz.f102.body.getD .skip,Tryz.f102.results.toList,⟨9,[0,2],[],[]⟩,false⟩
noncomputable def c3L:FnI:=⟨Tryz.f104.body.getD .skip,Tryz.f104.results.toList,⟨32,[0,1,2,3,4,10,11,22],[],[]⟩,false⟩
noncomputable def c3E:List (Nat × FnI):=[(6,i6),(7,i7),(9,i9),(10,i10),(11,i11),(12,i12),(13,i13),(14,i14),(15,i15),(16,i16),(17,i17),(19,i19),(20,i20),(21,i21),(22,i22),(23,i23),(24,i24),(25,i25),(26,i26),(27,i27),(28,i28),(29,i29),(30,i30),(32,i32),(33,i33),(34,i34),(35,i35),(36,i36),(37,i37),(38,i38),(39,i39),(40,i40),(41,i41),(42,i42),(43,i43),(44,i44),(45,i45),(46,i46),(48,i48),(49,i49),(50,i50),(51,i51),(52,i52),(53,i53),(54,i54),(55,i55),(56,i56),(57,i57),(58,i58),(59,i59),(60,i60),(61,i61),(62,i62),(63,i63),(64,i64),(65,i65),(66,i66),(67,i67),(68,i68),(69,i69),(70,i70),(78,i78),(79,i79),(80,i80),(81,i81),(82,i82),(83,i83),(84,i84),(85,i85),(86,i86),(87,i87),(88,i88),(89,i89),(90,i90),(91,i91),(92,i92),(93,i93),(94,i94),(95,i95),(96,i96),(98,i98),(99,i99),(100,c3I),(101,c3J),(102,c3K),(104,c3L)]
noncomputable def Fs:FuncId→Option FnI:=b9P c3E
theorem fk6:FnOK Tryz.prog 6 i6 := .of Tryz.func6 (by kernel_rfl) (by kernel_rfl) (by kernel_rfl) Tryz.call6
theorem fk7:FnOK Tryz.prog 7 i7 := .of Tryz.func7 (by kernel_rfl) (by kernel_rfl) (by kernel_rfl) Tryz.call7
theorem fk9:FnOK Tryz.prog 9 i9 := .of Tryz.func9 (by kernel_rfl) (by kernel_rfl) (by kernel_rfl) Tryz.call9
theorem c5Y:FnOK Tryz.prog 10 i10 := .of Tryz.func10 (by kernel_rfl) (by kernel_rfl) (by kernel_rfl) Tryz.call10
theorem c5Z:FnOK Tryz.prog 11 i11 := .of Tryz.func11 (by kernel_rfl) (by kernel_rfl) (by kernel_rfl) Tryz.call11
theorem c6a:FnOK Tryz.prog 12 i12 := .of Tryz.func12 (by kernel_rfl) (by kernel_rfl) (by kernel_rfl) Tryz.call12
theorem c6b:FnOK Tryz.prog 13 i13 := .of Tryz.func13 (by kernel_rfl) (by kernel_rfl) (by kernel_rfl) Tryz.call13
theorem c6c:FnOK Tryz.prog 14 i14 := .of Tryz.func14 (by kernel_rfl) (by kernel_rfl) (by kernel_rfl) Tryz.call14
theorem c6d:FnOK Tryz.prog 15 i15 := .of Tryz.func15 (by kernel_rfl) (by kernel_rfl) (by kernel_rfl) Tryz.call15
theorem c6e:FnOK Tryz.prog 16 i16 := .of Tryz.func16 (by kernel_rfl) (by kernel_rfl) (by kernel_rfl) Tryz.call16
theorem c6f:FnOK Tryz.prog 17 i17 := .of Tryz.func17 (by kernel_rfl) (by kernel_rfl) (by kernel_rfl) Tryz.call17
theorem c6h:FnOK Tryz.prog 19 i19 := .of Tryz.func19 (by kernel_rfl) (by kernel_rfl) (by kernel_rfl) Tryz.call19
theorem c6i:FnOK Tryz.prog 20 i20 := .of Tryz.func20 (by kernel_rfl) (by kernel_rfl) (by kernel_rfl) Tryz.call20
theorem c6j:FnOK Tryz.prog 21 i21 := .of Tryz.func21 (by kernel_rfl) (by kernel_rfl) (by kernel_rfl) Tryz.call21
theorem c6k:FnOK Tryz.prog 22 i22 := .of Tryz.func22 (by kernel_rfl) (by kernel_rfl) (by kernel_rfl) Tryz.call22
theorem c6l:FnOK Tryz.prog 23 i23 := .of Tryz.func23 (by kernel_rfl) (by kernel_rfl) (by kernel_rfl) Tryz.call23
theorem c6m:FnOK Tryz.prog 24 i24 := .of Tryz.func24 (by kernel_rfl) (by kernel_rfl) (by kernel_rfl) Tryz.call24
theorem c6n:FnOK Tryz.prog 25 i25 := .of Tryz.func25 (by kernel_rfl) (by kernel_rfl) (by kernel_rfl) Tryz.call25
theorem c6o:FnOK Tryz.prog 26 i26 := .of Tryz.func26 (by kernel_rfl) (by kernel_rfl) (by kernel_rfl) Tryz.call26
theorem c6p:FnOK Tryz.prog 27 i27 := .of Tryz.func27 (by kernel_rfl) (by kernel_rfl) (by kernel_rfl) Tryz.call27
theorem c6q:FnOK Tryz.prog 28 i28 := .of Tryz.func28 (by kernel_rfl) (by kernel_rfl) (by kernel_rfl) Tryz.call28
theorem c6r:FnOK Tryz.prog 29 i29 := .of Tryz.func29 (by kernel_rfl) (by kernel_rfl) (by kernel_rfl) Tryz.call29
theorem c6s:FnOK Tryz.prog 30 i30 := .of Tryz.func30 (by kernel_rfl) (by kernel_rfl) (by kernel_rfl) Tryz.call30
theorem c6t:FnOK Tryz.prog 32 i32 := .of Tryz.func32 (by kernel_rfl) (by kernel_rfl) (by kernel_rfl) Tryz.call32
theorem c6u:FnOK Tryz.prog 33 i33 := .of Tryz.func33 (by kernel_rfl) (by kernel_rfl) (by kernel_rfl) Tryz.call33
theorem c6v:FnOK Tryz.prog 34 i34 := .of Tryz.func34 (by kernel_rfl) (by kernel_rfl) (by kernel_rfl) Tryz.call34
theorem c6w:FnOK Tryz.prog 35 i35 := .of Tryz.func35 (by kernel_rfl) (by kernel_rfl) (by kernel_rfl) Tryz.call35
theorem c6x:FnOK Tryz.prog 36 i36 := .of Tryz.func36 (by kernel_rfl) (by kernel_rfl) (by kernel_rfl) Tryz.call36
theorem c6y:FnOK Tryz.prog 37 i37 := .of Tryz.func37 (by kernel_rfl) (by kernel_rfl) (by kernel_rfl) Tryz.call37
theorem c6z:FnOK Tryz.prog 38 i38 := .of Tryz.func38 (by kernel_rfl) (by kernel_rfl) (by kernel_rfl) Tryz.call38
theorem c6A:FnOK Tryz.prog 39 i39 := .of Tryz.func39 (by kernel_rfl) (by kernel_rfl) (by kernel_rfl) Tryz.call39
theorem c6B:FnOK Tryz.prog 40 i40 := .of Tryz.func40 (by kernel_rfl) (by kernel_rfl) (by kernel_rfl) Tryz.call40
theorem c6C:FnOK Tryz.prog 41 i41 := .of Tryz.func41 (by kernel_rfl) (by kernel_rfl) (by kernel_rfl) Tryz.call41
theorem c6D:FnOK Tryz.prog 42 i42 := .of Tryz.func42 (by kernel_rfl) (by kernel_rfl) (by kernel_rfl) Tryz.call42
theorem c6E:FnOK Tryz.prog 43 i43 := .of Tryz.func43 (by kernel_rfl) (by kernel_rfl) (by kernel_rfl) Tryz.call43
theorem c6F:FnOK Tryz.prog 44 i44 := .of Tryz.func44 (by kernel_rfl) (by kernel_rfl) (by kernel_rfl) Tryz.call44
theorem c6G:FnOK Tryz.prog 45 i45 := .of Tryz.func45 (by kernel_rfl) (by kernel_rfl) (by kernel_rfl) Tryz.call45
theorem c6H:FnOK Tryz.prog 46 i46 := .of Tryz.func46 (by kernel_rfl) (by kernel_rfl) (by kernel_rfl) Tryz.call46
theorem c6I:FnOK Tryz.prog 48 i48 := .of Tryz.func48 (by kernel_rfl) (by kernel_rfl) (by kernel_rfl) Tryz.call48
theorem c6J:FnOK Tryz.prog 49 i49 := .of Tryz.func49 (by kernel_rfl) (by kernel_rfl) (by kernel_rfl) Tryz.call49
theorem c6K:FnOK Tryz.prog 50 i50 := .of Tryz.func50 (by kernel_rfl) (by kernel_rfl) (by kernel_rfl) Tryz.call50
theorem c6L:FnOK Tryz.prog 51 i51 := .of Tryz.func51 (by kernel_rfl) (by kernel_rfl) (by kernel_rfl) Tryz.call51
theorem c6M:FnOK Tryz.prog 52 i52 := .of Tryz.func52 (by kernel_rfl) (by kernel_rfl) (by kernel_rfl) Tryz.call52
theorem c6N:FnOK Tryz.prog 53 i53 := .of Tryz.func53 (by kernel_rfl) (by kernel_rfl) (by kernel_rfl) Tryz.call53
theorem c6O:FnOK Tryz.prog 54 i54 := .of Tryz.func54 (by kernel_rfl) (by kernel_rfl) (by kernel_rfl) Tryz.call54
theorem c6P:FnOK Tryz.prog 55 i55 := .of Tryz.func55 (by kernel_rfl) (by kernel_rfl) (by kernel_rfl) Tryz.call55
theorem c6Q:FnOK Tryz.prog 56 i56 := .of Tryz.func56 (by kernel_rfl) (by kernel_rfl) (by kernel_rfl) Tryz.call56
theorem c6R:FnOK Tryz.prog 57 i57 := .of Tryz.func57 (by kernel_rfl) (by kernel_rfl) (by kernel_rfl) Tryz.call57
theorem c6S:FnOK Tryz.prog 58 i58 := .of Tryz.func58 (by kernel_rfl) (by kernel_rfl) (by kernel_rfl) Tryz.call58
theorem c6T:FnOK Tryz.prog 59 i59 := .of Tryz.func59 (by kernel_rfl) (by kernel_rfl) (by kernel_rfl) Tryz.call59
theorem c6U:FnOK Tryz.prog 60 i60 := .of Tryz.func60 (by kernel_rfl) (by kernel_rfl) (by kernel_rfl) Tryz.call60
theorem c6V:FnOK Tryz.prog 61 i61 := .of Tryz.func61 (by kernel_rfl) (by kernel_rfl) (by kernel_rfl) Tryz.call61
theorem c6W:FnOK Tryz.prog 62 i62 := .of Tryz.func62 (by kernel_rfl) (by kernel_rfl) (by kernel_rfl) Tryz.call62
theorem c6X:FnOK Tryz.prog 63 i63 := .of Tryz.func63 (by kernel_rfl) (by kernel_rfl) (by kernel_rfl) Tryz.call63
theorem c6Y:FnOK Tryz.prog 64 i64 := .of Tryz.func64 (by kernel_rfl) (by kernel_rfl) (by kernel_rfl) Tryz.call64
theorem c6Z:FnOK Tryz.prog 65 i65 := .of Tryz.func65 (by kernel_rfl) (by kernel_rfl) (by kernel_rfl) Tryz.call65
theorem c7a:FnOK Tryz.prog 66 i66 := .of Tryz.func66 (by kernel_rfl) (by kernel_rfl) (by kernel_rfl) Tryz.call66
theorem c7b:FnOK Tryz.prog 67 i67 := .of Tryz.func67 (by kernel_rfl) (by kernel_rfl) (by kernel_rfl) Tryz.call67
theorem c7c:FnOK Tryz.prog 68 i68 := .of Tryz.func68 (by kernel_rfl) (by kernel_rfl) (by kernel_rfl) Tryz.call68
theorem c7d:FnOK Tryz.prog 69 i69 := .of Tryz.func69 (by kernel_rfl) (by kernel_rfl) (by kernel_rfl) Tryz.call69
theorem c7e:FnOK Tryz.prog 70 i70 := .of Tryz.func70 (by kernel_rfl) (by kernel_rfl) (by kernel_rfl) Tryz.call70
theorem c7f:FnOK Tryz.prog 78 i78 := .of Tryz.func78 (by kernel_rfl) (by kernel_rfl) (by kernel_rfl) Tryz.call78
theorem c7g:FnOK Tryz.prog 79 i79 := .of Tryz.func79 (by kernel_rfl) (by kernel_rfl) (by kernel_rfl) Tryz.call79
theorem c7h:FnOK Tryz.prog 80 i80 := .of Tryz.func80 (by kernel_rfl) (by kernel_rfl) (by kernel_rfl) Tryz.call80
theorem c7i:FnOK Tryz.prog 81 i81 := .of Tryz.func81 (by kernel_rfl) (by kernel_rfl) (by kernel_rfl) Tryz.call81
theorem c7j:FnOK Tryz.prog 82 i82 := .of Tryz.func82 (by kernel_rfl) (by kernel_rfl) (by kernel_rfl) Tryz.call82
theorem c7k:FnOK Tryz.prog 83 i83 := .of Tryz.func83 (by kernel_rfl) (by kernel_rfl) (by kernel_rfl) Tryz.call83
theorem c7l:FnOK Tryz.prog 84 i84 := .of Tryz.func84 (by kernel_rfl) (by kernel_rfl) (by kernel_rfl) Tryz.call84
theorem c7m:FnOK Tryz.prog 85 i85 := .of Tryz.func85 (by kernel_rfl) (by kernel_rfl) (by kernel_rfl) Tryz.call85
theorem c7n:FnOK Tryz.prog 86 i86 := .of Tryz.func86 (by kernel_rfl) (by kernel_rfl) (by kernel_rfl) Tryz.call86
theorem c7o:FnOK Tryz.prog 87 i87 := .of Tryz.func87 (by kernel_rfl) (by kernel_rfl) (by kernel_rfl) Tryz.call87
theorem c7p:FnOK Tryz.prog 88 i88 := .of Tryz.func88 (by kernel_rfl) (by kernel_rfl) (by kernel_rfl) Tryz.call88
theorem c7q:FnOK Tryz.prog 89 i89 := .of Tryz.func89 (by kernel_rfl) (by kernel_rfl) (by kernel_rfl) Tryz.call89
theorem c7r:FnOK Tryz.prog 90 i90 := .of Tryz.func90 (by kernel_rfl) (by kernel_rfl) (by kernel_rfl) Tryz.call90
theorem c7s:FnOK Tryz.prog 91 i91 := .of Tryz.func91 (by kernel_rfl) (by kernel_rfl) (by kernel_rfl) Tryz.call91
theorem c7t:FnOK Tryz.prog 92 i92 := .of Tryz.func92 (by kernel_rfl) (by kernel_rfl) (by kernel_rfl) Tryz.call92
theorem c7u:FnOK Tryz.prog 93 i93 := .of Tryz.func93 (by kernel_rfl) (by kernel_rfl) (by kernel_rfl) Tryz.call93
theorem c7v:FnOK Tryz.prog 94 i94 := .of Tryz.func94 (by kernel_rfl) (by kernel_rfl) (by kernel_rfl) Tryz.call94
theorem c7w:FnOK Tryz.prog 95 i95 := .of Tryz.func95 (by kernel_rfl) (by kernel_rfl) (by kernel_rfl) Tryz.call95
theorem c7x:FnOK Tryz.prog 96 i96 := .of Tryz.func96 (by kernel_rfl) (by kernel_rfl) (by kernel_rfl) Tryz.call96
theorem c7y:FnOK Tryz.prog 98 i98 := .of Tryz.func98 (by kernel_rfl) (by kernel_rfl) (by kernel_rfl) Tryz.call98
theorem c7z:FnOK Tryz.prog 99 i99 := .of Tryz.func99 (by kernel_rfl) (by kernel_rfl) (by kernel_rfl) Tryz.call99
theorem c3t:FnOK Tryz.prog 100 c3I := .of Tryz.func100 (by kernel_rfl) (by kernel_rfl) (by kernel_rfl) Tryz.call100
theorem c3u:FnOK Tryz.prog 101 c3J := .of Tryz.func101 (by kernel_rfl) (by kernel_rfl) (by kernel_rfl) Tryz.call101
theorem c3v:FnOK Tryz.prog 102 c3K := .of Tryz.func102 (by kernel_rfl) (by kernel_rfl) (by kernel_rfl) Tryz.call102
theorem c3w:FnOK Tryz.prog 104 c3L := .of Tryz.func104 (by kernel_rfl) (by kernel_rfl) (by kernel_rfl) Tryz.call104
theorem c3F:b3J Tryz.prog c3E:=⟨fk6,fk7,fk9,c5Y,c5Z,c6a,c6b,c6c,c6d,c6e,c6f,c6h,c6i,c6j,c6k,c6l,c6m,c6n,c6o,c6p,c6q,c6r,c6s,c6t,c6u,c6v,c6w,c6x,c6y,c6z,c6A,c6B,c6C,c6D,c6E,c6F,c6G,c6H,c6I,c6J,c6K,c6L,c6M,c6N,c6O,c6P,c6Q,c6R,c6S,c6T,c6U,c6V,c6W,c6X,c6Y,c6Z,c7a,c7b,c7c,c7d,c7e,c7f,c7g,c7h,c7i,c7j,c7k,c7l,c7m,c7n,c7o,c7p,c7q,c7r,c7s,c7t,c7u,c7v,c7w,c7x,c7y,c7z,c3t,c3u,c3v,c3w,trivial⟩
noncomputable def gl:Nat→Option D:=fun _=>none
noncomputable def xt:a0Z:=fun _ _ _=>none
theorem c8H (X:Cx):a1I Tryz.prog X xt:=fun f args h d h' hd=>by cases hd
noncomputable def X:Cx:=⟨tab,gl,xt⟩
noncomputable def R:a0Z:=run X Fs
theorem er (fi:FnI) {f:FuncId} {args:List D} {h:Hp} {x:Option (D × Hp)} (hf:Fs f=some fi) (hx:fnR X R a0z fi args h=x):R f args h=x:=(b5N hf args h).trans hx
theorem c5n:a1I Tryz.prog X R:=b5O (X:=X) c0N c5H (c8H X) (b1T c3E c3F)
end Go.Proofs.YtkpnnfhodlanjaaGreatDoor
