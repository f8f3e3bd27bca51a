/- The tables of this seat: its types, and how its functions are carried out on data. -/
import Derived.Test.YtehgglgadbmecaaGreatDoorIW
import Derived.Test.YtehgglgadbmecaaGreatDoorChecked
import Derived.KernelRfl
set_option linter.unusedSimpArgs false
set_option linter.unusedVariables false
set_option linter.unnecessarySimpa false
namespace Go.Proofs.YtehgglgadbmecaaGreatDoor
open Go.Eng Go.Pi
abbrev ty3:Nat:=3
abbrev ty4:Nat:=4
abbrev ty5:Nat:=5
abbrev ty9:Nat:=9
abbrev a5m:Nat:=22
abbrev a0E:Nat:=24
abbrev a3Y:Nat:=25
abbrev a0t:Nat:=29
abbrev a0h:Nat:=33
abbrev a8s:Nat:=38
abbrev a5r:Nat:=39
abbrev a0R:Nat:=41
abbrev a0V:Nat:=46
abbrev a0k:Nat:=48
abbrev a3x:Nat:=54
abbrev a4v:Nat:=55
abbrev a0S:Nat:=57
abbrev a0d:Nat:=63
abbrev a3s:Nat:=87
abbrev a3C:Nat:=89
abbrev a2r:Nat:=91
abbrev a2j:Nat:=93
abbrev a0J:Nat:=95
abbrev a0O:Nat:=96
abbrev a0o:Nat:=98
abbrev a1U:Nat:=105
abbrev a4u:Nat:=121
abbrev a3B:Nat:=123
abbrev b3X:Nat:=125
abbrev a7V:Nat:=61
abbrev a5H:Nat:=5
abbrev a5I:Nat:=6
abbrev a7L:Nat:=7
abbrev a5J:Nat:=8
abbrev a5b:Nat:=9
abbrev a5K:Nat:=11
abbrev a5a:Nat:=12
abbrev a5c:Nat:=13
abbrev b0i:Nat:=14
abbrev a7Q:Nat:=15
abbrev b0j:Nat:=16
abbrev b0k:Nat:=17
abbrev b0l:Nat:=18
abbrev c3H:Nat:=19
abbrev a9X:Nat:=20
abbrev c1I:Nat:=21
abbrev a3S:Nat:=22
abbrev a9Y:Nat:=23
abbrev a9Z:Nat:=24
abbrev b0a:Nat:=25
abbrev b2o:Nat:=26
abbrev a7R:Nat:=27
abbrev a7S:Nat:=28
abbrev a5N:Nat:=29
abbrev c0v:Nat:=30
abbrev c0w:Nat:=31
abbrev a4Y:Nat:=32
abbrev b2w:Nat:=33
abbrev b0m:Nat:=34
abbrev b2p:Nat:=36
abbrev b0b:Nat:=37
abbrev a7M:Nat:=38
abbrev b0c:Nat:=39
abbrev b5Z:Nat:=40
abbrev a7N:Nat:=41
abbrev b2x:Nat:=42
abbrev b0o:Nat:=43
abbrev a7T:Nat:=44
abbrev b0p:Nat:=45
abbrev a7U:Nat:=46
abbrev b0q:Nat:=47
abbrev a5d:Nat:=48
abbrev a5L:Nat:=50
abbrev b2y:Nat:=51
abbrev b5Y:Nat:=52
abbrev b2q:Nat:=53
abbrev c0u:Nat:=54
abbrev c1K:Nat:=55
abbrev c1J:Nat:=56
abbrev b2r:Nat:=57
abbrev b0r:Nat:=58
abbrev c1P:Nat:=59
abbrev b2s:Nat:=60
abbrev b0d:Nat:=62
abbrev a5M:Nat:=63
abbrev c3J:Nat:=64
abbrev b0s:Nat:=65
abbrev c1M:Nat:=68
abbrev c3K:Nat:=69
abbrev b0e:Nat:=70
abbrev b0f:Nat:=71
abbrev a5f:Nat:=72
abbrev a4p:Nat:=73
abbrev c3L:Nat:=74
abbrev c1L:Nat:=76
abbrev a4Z:Nat:=77
abbrev a4o:Nat:=78
abbrev c1N:Nat:=80
abbrev c1H:Nat:=81
abbrev c1O:Nat:=82
abbrev c0x:Nat:=83
abbrev b0g:Nat:=84
abbrev b2t:Nat:=85
abbrev b2z:Nat:=86
abbrev b4Y:Nat:=87
abbrev c3I:Nat:=95
abbrev b2u:Nat:=96
abbrev b4Z:Nat:=98
abbrev c3G:Nat:=99
abbrev b0h:Nat:=100
abbrev b6a:Nat:=101
abbrev a7W:Nat:=102
abbrev a7O:Nat:=104
abbrev b6b:Nat:=105
abbrev b6c:Nat:=106
abbrev b6d:Nat:=108
noncomputable def ti3:TI:=⟨.int .i64,1,8,[.int .i64 0],[]⟩
noncomputable def ti4:TI:=⟨.bool,1,1,[.bool false],[]⟩
noncomputable def ti5:TI:=⟨.int .u8,1,1,[.int .u8 0],[]⟩
noncomputable def ti9:TI:=⟨.str,1,16,[.str []],[]⟩
noncomputable def c1T:TI:=⟨.sl 5,1,24,[.nils],[]⟩
noncomputable def b8q:TI:=⟨.sl 9,1,24,[.nils],[]⟩
noncomputable def c1j:TI:=⟨.sl 41,1,24,[.nils],[]⟩
noncomputable def a5Z:TI:=⟨.sl 48,1,24,[.nils],[]⟩
noncomputable def ti1229:TI:=⟨.sl 63,1,24,[.nils],[]⟩
noncomputable def c5c:TI:=⟨.sl 125,1,24,[.nils],[]⟩
noncomputable def c5d:TI:=⟨.sl 123,1,24,[.nils],[]⟩
noncomputable def c1i:TI:=⟨.st [(3,0,1),(3,1,1),(3,2,1),(3,3,1),(38,4,1),(3,5,1),(3,6,1),(9,7,1),(9,8,1),(39,9,1)],10,128,[.int .i64 0,.int .i64 0,.int .i64 0,.int .i64 0,.nils,.int .i64 0,.int .i64 0,.str [],.str [],.nils],[]⟩
noncomputable def c5g:TI:=⟨.sl 3,1,24,[.nils],[]⟩
noncomputable def ti1146:TI:=⟨.st [(24,0,1),(46,1,1),(3,2,1)],3,56,[.nils,.nils,.int .i64 0],[]⟩
noncomputable def b6B:TI:=⟨.st [(3,0,1),(9,1,1)],2,24,[.int .i64 0,.str []],[]⟩
noncomputable def b6C:TI:=⟨.sl 54,1,24,[.nils],[]⟩
noncomputable def b3N:TI:=⟨.sl 98,1,24,[.nils],[]⟩
noncomputable def ti1237:TI:=⟨.st [(24,0,1),(3,1,1),(3,2,1)],3,40,[.nils,.int .i64 0,.int .i64 0],[]⟩
noncomputable def ti101:TI:=⟨.st [(22,0,1),(3,1,1)],2,32,[.nils,.int .i64 0],[]⟩
noncomputable def b5C:TI:=⟨.sl 91,1,24,[.nils],[]⟩
noncomputable def b3M:TI:=⟨.sl 93,1,24,[.nils],[]⟩
noncomputable def c5e:TI:=⟨.st [(9,0,1),(41,1,10)],11,144,[.str [],.int .i64 0,.int .i64 0,.int .i64 0,.int .i64 0,.nils,.int .i64 0,.int .i64 0,.str [],.str [],.nils],[]⟩
noncomputable def b3O:TI:=⟨.sl 4,1,24,[.nils],[]⟩
noncomputable def b0L:TI:=⟨.sl 24,1,24,[.nils],[]⟩
noncomputable def ti1168:TI:=⟨.st [(24,0,1),(46,1,1),(95,2,1),(96,3,1)],4,96,[.nils,.nils,.nils,.nils],[]⟩
noncomputable def c1h:TI:=⟨.int .u64,1,8,[.int .u64 0],[]⟩
noncomputable def b6A:TI:=⟨.int .u64,1,8,[.int .u64 0],[]⟩
noncomputable def b8p:TI:=⟨.st [(9,0,1),(9,1,1)],2,32,[.str [],.str []],[]⟩
noncomputable def c5f:TI:=⟨.st [(3,0,1),(3,1,1),(9,2,1)],3,32,[.int .i64 0,.int .i64 0,.str []],[]⟩
noncomputable def c6h:List (Option TI):=[none,none,none,some ti3,some ti4,some ti5,none,none,none,some ti9,none,none,none,none,none,none,none,none,none,none,none,none,some c1T,none,some b8q,some c1j,none,none,none,some a5Z,none,none,none,some ti1229,none,none,none,none,some c5c,some c5d,none,some c1i,none,none,none,none,some c5g,none,some ti1146,none,none,none,none,none,some b6B,some b6C,none,some b3N,none,none,none,none,none,some ti1237,none,none,none,none,none,none,none,none,none,none,none,none,none,none,none,none,none,none,none,none,none,none,none,some ti101,none,some b5C,none,some b3M,none,some c5e,none,some b3O,some b0L,none,some ti1168,none,none,none,none,none,none,some c1h,none,none,none,none,none,none,none,none,none,none,none,none,none,none,none,some b6A,none,some b8p,none,some c5f]
noncomputable def tab:Tab:=b8n c6h
theorem tk3:a3r Tryz.prog 3=some ti3∧a1C Tryz.prog 3=true:=⟨by kernel_rfl,by kernel_rfl⟩
theorem tk4:a3r Tryz.prog 4=some ti4∧a1C Tryz.prog 4=true:=⟨by kernel_rfl,by kernel_rfl⟩
theorem tk5:a3r Tryz.prog 5=some ti5∧a1C Tryz.prog 5=true:=⟨by kernel_rfl,by kernel_rfl⟩
theorem tk9:a3r Tryz.prog 9=some ti9∧a1C Tryz.prog 9=true:=⟨by kernel_rfl,by kernel_rfl⟩
theorem c8U:a3r Tryz.prog 22=some c1T∧a1C Tryz.prog 22=true:=⟨by kernel_rfl,by kernel_rfl⟩
theorem c8V:a3r Tryz.prog 24=some b8q∧a1C Tryz.prog 24=true:=⟨by kernel_rfl,by kernel_rfl⟩
theorem c8W:a3r Tryz.prog 25=some c1j∧a1C Tryz.prog 25=true:=⟨by kernel_rfl,by kernel_rfl⟩
theorem c8X:a3r Tryz.prog 29=some a5Z∧a1C Tryz.prog 29=true:=⟨by kernel_rfl,by kernel_rfl⟩
theorem c8Y:a3r Tryz.prog 33=some ti1229∧a1C Tryz.prog 33=true:=⟨by kernel_rfl,by kernel_rfl⟩
theorem c8Z:a3r Tryz.prog 38=some c5c∧a1C Tryz.prog 38=true:=⟨by kernel_rfl,by kernel_rfl⟩
theorem c9a:a3r Tryz.prog 39=some c5d∧a1C Tryz.prog 39=true:=⟨by kernel_rfl,by kernel_rfl⟩
theorem c9b:a3r Tryz.prog 41=some c1i∧a1C Tryz.prog 41=true:=⟨by kernel_rfl,by kernel_rfl⟩
theorem c9c:a3r Tryz.prog 46=some c5g∧a1C Tryz.prog 46=true:=⟨by kernel_rfl,by kernel_rfl⟩
theorem c9d:a3r Tryz.prog 48=some ti1146∧a1C Tryz.prog 48=true:=⟨by kernel_rfl,by kernel_rfl⟩
theorem c9e:a3r Tryz.prog 54=some b6B∧a1C Tryz.prog 54=true:=⟨by kernel_rfl,by kernel_rfl⟩
theorem c9f:a3r Tryz.prog 55=some b6C∧a1C Tryz.prog 55=true:=⟨by kernel_rfl,by kernel_rfl⟩
theorem c9g:a3r Tryz.prog 57=some b3N∧a1C Tryz.prog 57=true:=⟨by kernel_rfl,by kernel_rfl⟩
theorem c9h:a3r Tryz.prog 63=some ti1237∧a1C Tryz.prog 63=true:=⟨by kernel_rfl,by kernel_rfl⟩
theorem c9i:a3r Tryz.prog 87=some ti101∧a1C Tryz.prog 87=true:=⟨by kernel_rfl,by kernel_rfl⟩
theorem c9j:a3r Tryz.prog 89=some b5C∧a1C Tryz.prog 89=true:=⟨by kernel_rfl,by kernel_rfl⟩
theorem c9k:a3r Tryz.prog 91=some b3M∧a1C Tryz.prog 91=true:=⟨by kernel_rfl,by kernel_rfl⟩
theorem c9l:a3r Tryz.prog 93=some c5e∧a1C Tryz.prog 93=true:=⟨by kernel_rfl,by kernel_rfl⟩
theorem c9m:a3r Tryz.prog 95=some b3O∧a1C Tryz.prog 95=true:=⟨by kernel_rfl,by kernel_rfl⟩
theorem c9n:a3r Tryz.prog 96=some b0L∧a1C Tryz.prog 96=true:=⟨by kernel_rfl,by kernel_rfl⟩
theorem c9o:a3r Tryz.prog 98=some ti1168∧a1C Tryz.prog 98=true:=⟨by kernel_rfl,by kernel_rfl⟩
theorem c5h:a3r Tryz.prog 105=some c1h∧a1C Tryz.prog 105=true:=⟨by kernel_rfl,by kernel_rfl⟩
theorem c5i:a3r Tryz.prog 121=some b6A∧a1C Tryz.prog 121=true:=⟨by kernel_rfl,by kernel_rfl⟩
theorem c5j:a3r Tryz.prog 123=some b8p∧a1C Tryz.prog 123=true:=⟨by kernel_rfl,by kernel_rfl⟩
theorem c5k:a3r Tryz.prog 125=some c5f∧a1C Tryz.prog 125=true:=⟨by kernel_rfl,by kernel_rfl⟩
theorem b8m:TabOK Tryz.prog tab:=b5A (show a7o Tryz.prog 0 c6h from ⟨tk3,tk4,tk5,tk9,c8U,c8V,c8W,c8X,c8Y,c8Z,c9a,c9b,c9c,c9d,c9e,c9f,c9g,c9h,c9i,c9j,c9k,c9l,c9m,c9n,c9o,c5h,c5i,c5j,c5k,trivial⟩)
theorem c5Y:Tryz.prog.follows .mixedOrders=true:=by kernel_rfl
def fi_ (f:Func) (n:Nat) (k z b:List Nat) (s:Bool):FnI:=⟨f.body.getD .skip,f.results.toList,⟨n,k,z,b⟩,s⟩
noncomputable def i5:=fi_ Tryz.f5 29 [0,1] [2,4,5,7] [] false
noncomputable def i6:=fi_ Tryz.f6 17 [0,2,3,4,5,6] [] [] false
noncomputable def i7:=fi_ Tryz.f7 14 [0,1,4,5] [7] [] false
noncomputable def i8:=fi_ Tryz.f8 56 [0,1,4,5,10,14,55] [] [] false
noncomputable def i9:=fi_ Tryz.f9 35 [0,1,4,5,6,8,15,16,17,18] [8,27,31] [] true
noncomputable def i11:=fi_ Tryz.f11 13 [0,1,4,5] [] [] true
noncomputable def i12:=fi_ Tryz.f12 29 [0,1,3,4,5,6,7,12] [3,26] [] true
noncomputable def i13:=fi_ Tryz.f13 69 [0,1,2,3,4,6,8,9,10,11,12,13,22,45] [6,13,67] [] true
noncomputable def i14:=fi_ Tryz.f14 83 [0,1,2,3,8,9,10,11,12,18,28,49,56] [] [] true
noncomputable def i15:=fi_ Tryz.f15 55 [0,1,4,5,10,14,54] [] [] false
noncomputable def i16:=fi_ Tryz.f16 18 [0,2,3,5,6,7,8,9] [5] [] false
noncomputable def i17:=fi_ Tryz.f17 19 [0,2,3,4,8] [] [] false
noncomputable def i18:=fi_ Tryz.f18 37 [0,1,4,5,6,10] [25,32] [2000019] true
noncomputable def i19:=fi_ Tryz.f19 13 [0,1,4] [] [] false
noncomputable def i20:=fi_ Tryz.f20 19 [0,2,3,12] [4,9,16] [] true
noncomputable def i21:=fi_ Tryz.f21 56 [0,1,4,5,6,7,8,9,14,24,33,44] [] [] false
noncomputable def i22:=fi_ Tryz.f22 35 [0,1,4,5,12] [] [] false
noncomputable def i23:=fi_ Tryz.f23 30 [1,4,5,6,10] [27] [2000019,2000025] true
noncomputable def i24:=fi_ Tryz.f24 24 [0,1,2,6,7,8,12] [] [] false
noncomputable def i25:=fi_ Tryz.f25 26 [0,1,4,5,10,14,25] [] [] false
noncomputable def i26:=fi_ Tryz.f26 26 [0,1,4,5,10,14,25] [] [] false
noncomputable def i27:=fi_ Tryz.f27 8 [0,2,4] [5] [] false
noncomputable def i28:=fi_ Tryz.f28 9 [0,1] [] [] false
noncomputable def i29:=fi_ Tryz.f29 17 [0,1,2,3,4] [2,3,15] [] false
noncomputable def i30:=fi_ Tryz.f30 18 [0,2,3,5,6,7,8,9,14] [] [] false
noncomputable def i31:=fi_ Tryz.f31 20 [0,1,4,5,6,11,12,13,16,19] [] [] false
noncomputable def i32:=fi_ Tryz.f32 8 [0,1,4] [] [] false
noncomputable def i33:=fi_ Tryz.f33 12 [0,1,4] [] [] false
noncomputable def i34:=fi_ Tryz.f34 8 [0,2,4] [5] [] true
noncomputable def i36:=fi_ Tryz.f36 8 [0,2,4] [5] [] false
noncomputable def i37:=fi_ Tryz.f37 9 [0,1] [] [] false
noncomputable def i38:=fi_ Tryz.f38 17 [0,1,2,3,4] [2,3,15] [] false
noncomputable def i39:=fi_ Tryz.f39 11 [0,1,2,6] [1] [] false
noncomputable def i40:=fi_ Tryz.f40 12 [0,1,4] [] [] false
noncomputable def i41:=fi_ Tryz.f41 41 [0,1,2,4,5,6,7,12,17,22,27,31] [2] [] false
noncomputable def i42:=fi_ Tryz.f42 9 [0,1,2,3] [] [] false
noncomputable def i43:=fi_ Tryz.f43 49 [0,1,2,6,7,8,9,10,11,17,31] [] [] false
noncomputable def i44:=fi_ Tryz.f44 9 [0,1,2,4] [2] [] false
noncomputable def i45:=fi_ Tryz.f45 33 [0,1,4,5,6,9,17,27] [] [] true
noncomputable def i46:=fi_ Tryz.f46 17 [0,1,2,3,4] [2,3,15] [] false
noncomputable def i47:=fi_ Tryz.f47 42 [0,1,4,5,6,7,12,19,29] [7] [] false
noncomputable def i48:=fi_ Tryz.f48 10 [0,1,2,3] [2] [] false
noncomputable def i50:=fi_ Tryz.f50 48 [0,1,4,5,15,26,35,36,42] [] [] false
noncomputable def i51:=fi_ Tryz.f51 36 [0,1,3,4,5,6,21] [3,30] [] true
noncomputable def i52:=fi_ Tryz.f52 94 [0,1,4,5,6,7,8,12,69] [81] [] true
noncomputable def i53:=fi_ Tryz.f53 8 [0,2] [3] [] false
noncomputable def i54:=fi_ Tryz.f54 45 [0,1,2,6,7,8,9,10,11,12,16,24] [12,35,42] [] true
noncomputable def i55:=fi_ Tryz.f55 34 [0,1,3,4,5,6,19] [3,28] [] true
noncomputable def i56:=fi_ Tryz.f56 13 [0,2] [] [] false
noncomputable def i57:=fi_ Tryz.f57 17 [0,1,2,3,7,8] [7,15] [] false
noncomputable def i58:=fi_ Tryz.f58 63 [0,1,2,6,7,8,9,13,30,35,54] [] [] false
noncomputable def i59:=fi_ Tryz.f59 6 [0,2] [] [] false
noncomputable def i60:=fi_ Tryz.f60 36 [0,1,4,5,6,7,8,9,10,11,12,19,28,35] [] [] false
noncomputable def i62:=fi_ Tryz.f62 63 [0,1,2,6,7,8,9,13,30,35,54] [] [] false
noncomputable def i63:=fi_ Tryz.f63 29 [0,2,3,4,8,21,23] [15,24] [] true
noncomputable def i64:=fi_ Tryz.f64 25 [0,1,4,5,6,10,19] [] [] false
noncomputable def i65:=fi_ Tryz.f65 19 [0,1,4,5,7,8,9,16] [] [] false
noncomputable def i68:=fi_ Tryz.f68 94 [0,1,2,3,8,9,10,11,12,13,14,24,51,56] [41,64,77,82] [] true
noncomputable def i69:=fi_ Tryz.f69 43 [0,1,2,3,4,5,16,27] [2,3] [] false
noncomputable def i70:=fi_ Tryz.f70 84 [0,1,2,6,7,8,9,10,20,32,37,59,71] [53,67,79] [] true
noncomputable def i71:=fi_ Tryz.f71 87 [0,1,2,5,6,7,8,9,10,11,12,13,14,15,16,24,39,40,44,51,56,65] [5,9,67,71,76,81] [] true
noncomputable def i72:=fi_ Tryz.f72 53 [0,1,2,3,8,9,14,34] [] [] false
noncomputable def i73:=fi_ Tryz.f73 220 [0,1,2,3,4,10,11,12,13,14,15,16,17,18,19,20,21,22,23,24,28,33,50,58,80,85,103,110,140,151,171,185,199,213] [] [] false
noncomputable def i74:=fi_ Tryz.f74 20 [0,1,4,5,6,11,12,13,16,19] [] [] false
noncomputable def i76:=fi_ Tryz.f76 12 [0,1,2,4,5] [2] [] false
noncomputable def i77:=fi_ Tryz.f77 53 [0,1,2,3,8,9,14,34] [] [] false
noncomputable def i78:=fi_ Tryz.f78 220 [0,1,2,3,4,10,11,12,13,14,15,16,17,18,19,20,21,22,23,24,28,33,50,58,80,85,103,110,140,151,171,185,199,213] [] [] false
noncomputable def i80:=fi_ Tryz.f80 24 [0,2,3,4,10] [14] [] false
noncomputable def i81:=fi_ Tryz.f81 19 [0,2,4,5,10] [] [] false
noncomputable def i82:=fi_ Tryz.f82 8 [0,2] [3] [] false
noncomputable def i83:=fi_ Tryz.f83 27 [0,2,3,4,5,10,15] [6,24] [] true
noncomputable def i84:=fi_ Tryz.f84 147 [0,1,2,4,5,6,7,8,9,10,11,18,42,43,53,76,82,105,111] [4,5,131,136,141] [] true
noncomputable def i85:=fi_ Tryz.f85 20 [0,1,2,4,5,6,7,15] [2] [] false
noncomputable def i86:=fi_ Tryz.f86 58 [0,1,2,3,4,10,11,20,23] [] [] false
noncomputable def i87:=fi_ Tryz.f87 6 [0,2] [] [] false
noncomputable def i95:=fi_ Tryz.f95 21 [0,1,4,5,7,8,9,10,11,17] [7] [] false
noncomputable def i96:=fi_ Tryz.f96 58 [0,1,2,3,4,10,11,20,23] [] [] false
noncomputable def i98:=fi_ Tryz.f98 12 [0,2,3] [4] [] false
noncomputable def i99:=fi_ Tryz.f99 12 [0,2,3] [4] [] false
noncomputable def c3S:FnI:=⟨Tryz.f100.body.getD .skip,Tryz.f100.results.toList,⟨29,[0,2,3,4,9],[],[]⟩,true⟩
noncomputable def c3T:FnI:=⟨Tryz.f101.body.getD .skip,Tryz.f101.results.toList,⟨8,[0,2,3],[],[]⟩,false⟩
noncomputable def c3U:FnI:=⟨Tryz.f102.body.getD .skip,Tryz.f102.results.toList,⟨38,[0,1,2,3,10,13],[],[]⟩,false⟩
noncomputable def c3V:FnI:=⟨Tryz.f104.body.getD .skip,Tryz.f104.results.toList,⟨38,[0,1,2,3,10,13],[],[]⟩,false⟩
noncomputable def c3W:FnI:=⟨Tryz.f105.body.getD .skip,Tryz.f105.results.toList,⟨112,[0,1,4,5,6,7,8,9,10,11,21,43,79],[25,30,37,68,75,98,105],[]⟩,true⟩
noncomputable def c3X:FnI:=⟨Tryz.f106.body.getD .skip,Tryz.f106.results.toList,⟨53,[0,2,3,4,5,6,15,25,29,36,49],[],[]⟩,false⟩
noncomputable def c3Y:FnI:=⟨Tryz.f108.body.getD .skip,Tryz.f108.results.toList,⟨9,[0,2],[],[]⟩,false⟩
noncomputable def c3M:List (Nat × FnI):=[(5,i5),(6,i6),(7,i7),(8,i8),(9,i9),(11,i11),(12,i12),(13,i13),(14,i14),(15,i15),(16,i16),(17,i17),(18,i18),(19,i19),(20,i20),(21,i21),(22,i22),(23,i23),(24,i24),(25,i25),(26,i26),(27,i27),(28,i28),(29,i29),(30,i30),(31,i31),(32,i32),(33,i33),(34,i34),(36,i36),(37,i37),(38,i38),(39,i39),(40,i40),(41,i41),(42,i42),(43,i43),(44,i44),(45,i45),(46,i46),(47,i47),(48,i48),(50,i50),(51,i51),(52,i52),(53,i53),(54,i54),(55,i55),(56,i56),(57,i57),(58,i58),(59,i59),(60,i60),(62,i62),(63,i63),(64,i64),(65,i65),(68,i68),(69,i69),(70,i70),(71,i71),(72,i72),(73,i73),(74,i74),(76,i76),(77,i77),(78,i78),(80,i80),(81,i81),(82,i82),(83,i83),(84,i84),(85,i85),(86,i86),(87,i87),(95,i95),(96,i96),(98,i98),(99,i99),(100,c3S),(101,c3T),(102,c3U),(104,c3V),(105,c3W),(106,c3X),(108,c3Y)]
noncomputable def Fs:FuncId→Option FnI:=c0z c3M
theorem fk5:FnOK Tryz.prog 5 i5 := .of Tryz.func5 (by kernel_rfl) (by kernel_rfl) (by kernel_rfl) Tryz.call5
theorem fk6:FnOK Tryz.prog 6 i6 := .of Tryz.func6 (by kernel_rfl) (by kernel_rfl) (by kernel_rfl) Tryz.call6
theorem fk7:FnOK Tryz.prog 7 i7 := .of Tryz.func7 (by kernel_rfl) (by kernel_rfl) (by kernel_rfl) Tryz.call7
theorem fk8:FnOK Tryz.prog 8 i8 := .of Tryz.func8 (by kernel_rfl) (by kernel_rfl) (by kernel_rfl) Tryz.call8
theorem fk9:FnOK Tryz.prog 9 i9 := .of Tryz.func9 (by kernel_rfl) (by kernel_rfl) (by kernel_rfl) Tryz.call9
theorem c6F:FnOK Tryz.prog 11 i11 := .of Tryz.func11 (by kernel_rfl) (by kernel_rfl) (by kernel_rfl) Tryz.call11
theorem c6G:FnOK Tryz.prog 12 i12 := .of Tryz.func12 (by kernel_rfl) (by kernel_rfl) (by kernel_rfl) Tryz.call12
theorem c6H:FnOK Tryz.prog 13 i13 := .of Tryz.func13 (by kernel_rfl) (by kernel_rfl) (by kernel_rfl) Tryz.call13
theorem c6I:FnOK Tryz.prog 14 i14 := .of Tryz.func14 (by kernel_rfl) (by kernel_rfl) (by kernel_rfl) Tryz.call14
theorem c6J:FnOK Tryz.prog 15 i15 := .of Tryz.func15 (by kernel_rfl) (by kernel_rfl) (by kernel_rfl) Tryz.call15
theorem c6K:FnOK Tryz.prog 16 i16 := .of Tryz.func16 (by kernel_rfl) (by kernel_rfl) (by kernel_rfl) Tryz.call16
theorem c6L:FnOK Tryz.prog 17 i17 := .of Tryz.func17 (by kernel_rfl) (by kernel_rfl) (by kernel_rfl) Tryz.call17
theorem c6M:FnOK Tryz.prog 18 i18 := .of Tryz.func18 (by kernel_rfl) (by kernel_rfl) (by kernel_rfl) Tryz.call18
theorem c6N:FnOK Tryz.prog 19 i19 := .of Tryz.func19 (by kernel_rfl) (by kernel_rfl) (by kernel_rfl) Tryz.call19
theorem c6O:FnOK Tryz.prog 20 i20 := .of Tryz.func20 (by kernel_rfl) (by kernel_rfl) (by kernel_rfl) Tryz.call20
theorem c6P:FnOK Tryz.prog 21 i21 := .of Tryz.func21 (by kernel_rfl) (by kernel_rfl) (by kernel_rfl) Tryz.call21
theorem c6Q:FnOK Tryz.prog 22 i22 := .of Tryz.func22 (by kernel_rfl) (by kernel_rfl) (by kernel_rfl) Tryz.call22
theorem c6R:FnOK Tryz.prog 23 i23 := .of Tryz.func23 (by kernel_rfl) (by kernel_rfl) (by kernel_rfl) Tryz.call23
theorem c6S:FnOK Tryz.prog 24 i24 := .of Tryz.func24 (by kernel_rfl) (by kernel_rfl) (by kernel_rfl) Tryz.call24
theorem c6T:FnOK Tryz.prog 25 i25 := .of Tryz.func25 (by kernel_rfl) (by kernel_rfl) (by kernel_rfl) Tryz.call25
theorem c6U:FnOK Tryz.prog 26 i26 := .of Tryz.func26 (by kernel_rfl) (by kernel_rfl) (by kernel_rfl) Tryz.call26
theorem c6V:FnOK Tryz.prog 27 i27 := .of Tryz.func27 (by kernel_rfl) (by kernel_rfl) (by kernel_rfl) Tryz.call27
theorem c6W:FnOK Tryz.prog 28 i28 := .of Tryz.func28 (by kernel_rfl) (by kernel_rfl) (by kernel_rfl) Tryz.call28
theorem c6X:FnOK Tryz.prog 29 i29 := .of Tryz.func29 (by kernel_rfl) (by kernel_rfl) (by kernel_rfl) Tryz.call29
theorem c6Y:FnOK Tryz.prog 30 i30 := .of Tryz.func30 (by kernel_rfl) (by kernel_rfl) (by kernel_rfl) Tryz.call30
theorem c6Z:FnOK Tryz.prog 31 i31 := .of Tryz.func31 (by kernel_rfl) (by kernel_rfl) (by kernel_rfl) Tryz.call31
theorem c7a:FnOK Tryz.prog 32 i32 := .of Tryz.func32 (by kernel_rfl) (by kernel_rfl) (by kernel_rfl) Tryz.call32
theorem c7b:FnOK Tryz.prog 33 i33 := .of Tryz.func33 (by kernel_rfl) (by kernel_rfl) (by kernel_rfl) Tryz.call33
theorem c7c:FnOK Tryz.prog 34 i34 := .of Tryz.func34 (by kernel_rfl) (by kernel_rfl) (by kernel_rfl) Tryz.call34
theorem c7e:FnOK Tryz.prog 36 i36 := .of Tryz.func36 (by kernel_rfl) (by kernel_rfl) (by kernel_rfl) Tryz.call36
theorem c7f:FnOK Tryz.prog 37 i37 := .of Tryz.func37 (by kernel_rfl) (by kernel_rfl) (by kernel_rfl) Tryz.call37
theorem c7g:FnOK Tryz.prog 38 i38 := .of Tryz.func38 (by kernel_rfl) (by kernel_rfl) (by kernel_rfl) Tryz.call38
theorem c7h:FnOK Tryz.prog 39 i39 := .of Tryz.func39 (by kernel_rfl) (by kernel_rfl) (by kernel_rfl) Tryz.call39
theorem c7i:FnOK Tryz.prog 40 i40 := .of Tryz.func40 (by kernel_rfl) (by kernel_rfl) (by kernel_rfl) Tryz.call40
theorem c7j:FnOK Tryz.prog 41 i41 := .of Tryz.func41 (by kernel_rfl) (by kernel_rfl) (by kernel_rfl) Tryz.call41
theorem c7k:FnOK Tryz.prog 42 i42 := .of Tryz.func42 (by kernel_rfl) (by kernel_rfl) (by kernel_rfl) Tryz.call42
theorem c7l:FnOK Tryz.prog 43 i43 := .of Tryz.func43 (by kernel_rfl) (by kernel_rfl) (by kernel_rfl) Tryz.call43
theorem c7m:FnOK Tryz.prog 44 i44 := .of Tryz.func44 (by kernel_rfl) (by kernel_rfl) (by kernel_rfl) Tryz.call44
theorem c7n:FnOK Tryz.prog 45 i45 := .of Tryz.func45 (by kernel_rfl) (by kernel_rfl) (by kernel_rfl) Tryz.call45
theorem c7o:FnOK Tryz.prog 46 i46 := .of Tryz.func46 (by kernel_rfl) (by kernel_rfl) (by kernel_rfl) Tryz.call46
theorem c7p:FnOK Tryz.prog 47 i47 := .of Tryz.func47 (by kernel_rfl) (by kernel_rfl) (by kernel_rfl) Tryz.call47
theorem c7q:FnOK Tryz.prog 48 i48 := .of Tryz.func48 (by kernel_rfl) (by kernel_rfl) (by kernel_rfl) Tryz.call48
theorem c7r:FnOK Tryz.prog 50 i50 := .of Tryz.func50 (by kernel_rfl) (by kernel_rfl) (by kernel_rfl) Tryz.call50
theorem c7s:FnOK Tryz.prog 51 i51 := .of Tryz.func51 (by kernel_rfl) (by kernel_rfl) (by kernel_rfl) Tryz.call51
theorem c7t:FnOK Tryz.prog 52 i52 := .of Tryz.func52 (by kernel_rfl) (by kernel_rfl) (by kernel_rfl) Tryz.call52
theorem c7u:FnOK Tryz.prog 53 i53 := .of Tryz.func53 (by kernel_rfl) (by kernel_rfl) (by kernel_rfl) Tryz.call53
theorem c7v:FnOK Tryz.prog 54 i54 := .of Tryz.func54 (by kernel_rfl) (by kernel_rfl) (by kernel_rfl) Tryz.call54
theorem c7w:FnOK Tryz.prog 55 i55 := .of Tryz.func55 (by kernel_rfl) (by kernel_rfl) (by kernel_rfl) Tryz.call55
theorem c7x:FnOK Tryz.prog 56 i56 := .of Tryz.func56 (by kernel_rfl) (by kernel_rfl) (by kernel_rfl) Tryz.call56
theorem c7y:FnOK Tryz.prog 57 i57 := .of Tryz.func57 (by kernel_rfl) (by kernel_rfl) (by kernel_rfl) Tryz.call57
theorem c7z:FnOK Tryz.prog 58 i58 := .of Tryz.func58 (by kernel_rfl) (by kernel_rfl) (by kernel_rfl) Tryz.call58
theorem c7A:FnOK Tryz.prog 59 i59 := .of Tryz.func59 (by kernel_rfl) (by kernel_rfl) (by kernel_rfl) Tryz.call59
theorem c7B:FnOK Tryz.prog 60 i60 := .of Tryz.func60 (by kernel_rfl) (by kernel_rfl) (by kernel_rfl) Tryz.call60
theorem c7C:FnOK Tryz.prog 62 i62 := .of Tryz.func62 (by kernel_rfl) (by kernel_rfl) (by kernel_rfl) Tryz.call62
theorem c7D:FnOK Tryz.prog 63 i63 := .of Tryz.func63 (by kernel_rfl) (by kernel_rfl) (by kernel_rfl) Tryz.call63
theorem c7E:FnOK Tryz.prog 64 i64 := .of Tryz.func64 (by kernel_rfl) (by kernel_rfl) (by kernel_rfl) Tryz.call64
theorem c7F:FnOK Tryz.prog 65 i65 := .of Tryz.func65 (by kernel_rfl) (by kernel_rfl) (by kernel_rfl) Tryz.call65
theorem c7G:FnOK Tryz.prog 68 i68 := .of Tryz.func68 (by kernel_rfl) (by kernel_rfl) (by kernel_rfl) Tryz.call68
theorem c7H:FnOK Tryz.prog 69 i69 := .of Tryz.func69 (by kernel_rfl) (by kernel_rfl) (by kernel_rfl) Tryz.call69
theorem c7I:FnOK Tryz.prog 70 i70 := .of Tryz.func70 (by kernel_rfl) (by kernel_rfl) (by kernel_rfl) Tryz.call70
theorem c7J:FnOK Tryz.prog 71 i71 := .of Tryz.func71 (by kernel_rfl) (by kernel_rfl) (by kernel_rfl) Tryz.call71
theorem c7K:FnOK Tryz.prog 72 i72 := .of Tryz.func72 (by kernel_rfl) (by kernel_rfl) (by kernel_rfl) Tryz.call72
theorem c7L:FnOK Tryz.prog 73 i73 := .of Tryz.func73 (by kernel_rfl) (by kernel_rfl) (by kernel_rfl) Tryz.call73
theorem c7M:FnOK Tryz.prog 74 i74 := .of Tryz.func74 (by kernel_rfl) (by kernel_rfl) (by kernel_rfl) Tryz.call74
theorem c7N:FnOK Tryz.prog 76 i76 := .of Tryz.func76 (by kernel_rfl) (by kernel_rfl) (by kernel_rfl) Tryz.call76
theorem c7O:FnOK Tryz.prog 77 i77 := .of Tryz.func77 (by kernel_rfl) (by kernel_rfl) (by kernel_rfl) Tryz.call77
theorem c7P:FnOK Tryz.prog 78 i78 := .of Tryz.func78 (by kernel_rfl) (by kernel_rfl) (by kernel_rfl) Tryz.call78
theorem c7Q:FnOK Tryz.prog 80 i80 := .of Tryz.func80 (by kernel_rfl) (by kernel_rfl) (by kernel_rfl) Tryz.call80
theorem c7R:FnOK Tryz.prog 81 i81 := .of Tryz.func81 (by kernel_rfl) (by kernel_rfl) (by kernel_rfl) Tryz.call81
theorem c7S:FnOK Tryz.prog 82 i82 := .of Tryz.func82 (by kernel_rfl) (by kernel_rfl) (by kernel_rfl) Tryz.call82
theorem c7T:FnOK Tryz.prog 83 i83 := .of Tryz.func83 (by kernel_rfl) (by kernel_rfl) (by kernel_rfl) Tryz.call83
theorem c7U:FnOK Tryz.prog 84 i84 := .of Tryz.func84 (by kernel_rfl) (by kernel_rfl) (by kernel_rfl) Tryz.call84
theorem c7V:FnOK Tryz.prog 85 i85 := .of Tryz.func85 (by kernel_rfl) (by kernel_rfl) (by kernel_rfl) Tryz.call85
theorem c7W:FnOK Tryz.prog 86 i86 := .of Tryz.func86 (by kernel_rfl) (by kernel_rfl) (by kernel_rfl) Tryz.call86
theorem c7X:FnOK Tryz.prog 87 i87 := .of Tryz.func87 (by kernel_rfl) (by kernel_rfl) (by kernel_rfl) Tryz.call87
theorem c7Y:FnOK Tryz.prog 95 i95 := .of Tryz.func95 (by kernel_rfl) (by kernel_rfl) (by kernel_rfl) Tryz.call95
theorem c7Z:FnOK Tryz.prog 96 i96 := .of Tryz.func96 (by kernel_rfl) (by kernel_rfl) (by kernel_rfl) Tryz.call96
theorem c8a:FnOK Tryz.prog 98 i98 := .of Tryz.func98 (by kernel_rfl) (by kernel_rfl) (by kernel_rfl) Tryz.call98
theorem c8b:FnOK Tryz.prog 99 i99 := .of Tryz.func99 (by kernel_rfl) (by kernel_rfl) (by kernel_rfl) Tryz.call99
theorem c3z:FnOK Tryz.prog 100 c3S := .of Tryz.func100 (by kernel_rfl) (by kernel_rfl) (by kernel_rfl) Tryz.call100
theorem c3A:FnOK Tryz.prog 101 c3T := .of Tryz.func101 (by kernel_rfl) (by kernel_rfl) (by kernel_rfl) Tryz.call101
theorem c3B:FnOK Tryz.prog 102 c3U := .of Tryz.func102 (by kernel_rfl) (by kernel_rfl) (by kernel_rfl) Tryz.call102
theorem c3C:FnOK Tryz.prog 104 c3V := .of Tryz.func104 (by kernel_rfl) (by kernel_rfl) (by kernel_rfl) Tryz.call104
theorem c3D:FnOK Tryz.prog 105 c3W := .of Tryz.func105 (by kernel_rfl) (by kernel_rfl) (by kernel_rfl) Tryz.call105
theorem c3E:FnOK Tryz.prog 106 c3X := .of Tryz.func106 (by kernel_rfl) (by kernel_rfl) (by kernel_rfl) Tryz.call106
theorem c3F:FnOK Tryz.prog 108 c3Y := .of Tryz.func108 (by kernel_rfl) (by kernel_rfl) (by kernel_rfl) Tryz.call108
theorem c3N:b4l Tryz.prog c3M:=⟨fk5,fk6,fk7,fk8,fk9,c6F,c6G,c6H,c6I,c6J,c6K,c6L,c6M,c6N,c6O,c6P,c6Q,c6R,c6S,c6T,c6U,c6V,c6W,c6X,c6Y,c6Z,c7a,c7b,c7c,c7e,c7f,c7g,c7h,c7i,c7j,c7k,c7l,c7m,c7n,c7o,c7p,c7q,c7r,c7s,c7t,c7u,c7v,c7w,c7x,c7y,c7z,c7A,c7B,c7C,c7D,c7E,c7F,c7G,c7H,c7I,c7J,c7K,c7L,c7M,c7N,c7O,c7P,c7Q,c7R,c7S,c7T,c7U,c7V,c7W,c7X,c7Y,c7Z,c8a,c8b,c3z,c3A,c3B,c3C,c3D,c3E,c3F,trivial⟩
noncomputable def gl:Nat→Option D:=fun _=>none
abbrev a5e:Nat:=49
noncomputable def xt:a0Q:=fun f args h=>if f=a5e then a8A a0d ti1237 args h else none
theorem c9C (X:Cx):a1A Tryz.prog X xt:=fun f args h d h' hd g vs hi hgl hr=>by
 unfold xt at hd
 split at hd
 ·rename_i hf
  subst hf
  exact b7A b8m c0D Tryz.call49 c4m (show tab 33=some ti1229 from rfl) rfl (show tab 63=some ti1237 from rfl) (show tab 3=some ti3 from rfl) rfl rfl (by decide) hd hi hr
 ·skip
  cases hd
noncomputable def X:Cx:=⟨tab,gl,xt⟩
noncomputable def R:a0Q:=run X Fs
theorem er (fi:FnI) {f:FuncId} {args:List D} {h:Hp} {x:Option (D × Hp)} (hf:Fs f=some fi) (hx:fnR X R a0B fi args h=x):R f args h=x:=(b6x hf args h).trans hx
theorem c5I:a1A Tryz.prog X R:=b6y (X:=X) b8m c5Y (c9C X) (b2A c3M c3N)
theorem a7k (args:List D) (h:Hp):R a5e args h=a8A a0d ti1237 args h:=(b3A (X:=X) (F:=Fs) (by kernel_rfl) _ _).trans (by simp only [X,xt,if_true,if_false])
end Go.Proofs.YtehgglgadbmecaaGreatDoor
