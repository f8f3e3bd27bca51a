/- The tables of this seat: its types, and how its functions are carried out on data. -/
import Derived.Test.YtehgglgadbmecaaDoorIW
import Derived.Test.YtehgglgadbmecaaDoorChecked
import Derived.KernelRfl
set_option linter.unusedSimpArgs false
set_option linter.unusedVariables false
set_option linter.unnecessarySimpa false
namespace Go.Proofs.YtehgglgadbmecaaDoor
open Go.Eng Go.Pi
abbrev ty3:Nat:=3
abbrev ty4:Nat:=4
abbrev ty5:Nat:=5
abbrev ty9:Nat:=9
abbrev a5c:Nat:=22
abbrev a0C:Nat:=24
abbrev a3U:Nat:=25
abbrev a0r:Nat:=29
abbrev a0u:Nat:=31
abbrev a7H:Nat:=33
abbrev a4V:Nat:=34
abbrev a0O:Nat:=36
abbrev a0j:Nat:=38
abbrev a1c:Nat:=40
abbrev a0h:Nat:=42
abbrev a3f:Nat:=53
abbrev a4e:Nat:=54
abbrev a0P:Nat:=56
abbrev a3b:Nat:=66
abbrev a3m:Nat:=68
abbrev a2h:Nat:=70
abbrev a1X:Nat:=72
abbrev a0G:Nat:=87
abbrev a0L:Nat:=88
abbrev a0k:Nat:=90
abbrev a2S:Nat:=96
abbrev b2X:Nat:=110
abbrev a3l:Nat:=119
abbrev a4d:Nat:=125
abbrev a7k:Nat:=41
abbrev a7a:Nat:=4
abbrev a7b:Nat:=5
abbrev a7c:Nat:=7
abbrev a7h:Nat:=8
abbrev a7d:Nat:=9
abbrev b1o:Nat:=10
abbrev c1G:Nat:=11
abbrev a9g:Nat:=12
abbrev c0d:Nat:=13
abbrev a3A:Nat:=14
abbrev a5q:Nat:=15
abbrev a9h:Nat:=17
abbrev a9i:Nat:=18
abbrev b1p:Nat:=19
abbrev a9j:Nat:=20
abbrev a7e:Nat:=21
abbrev c0i:Nat:=22
abbrev c0j:Nat:=23
abbrev a9k:Nat:=24
abbrev a5o:Nat:=25
abbrev b4Q:Nat:=26
abbrev b1r:Nat:=27
abbrev b8W:Nat:=28
abbrev c0f:Nat:=29
abbrev c0e:Nat:=30
abbrev b1w:Nat:=31
abbrev b1y:Nat:=32
abbrev a9t:Nat:=33
abbrev a7i:Nat:=34
abbrev b1x:Nat:=35
abbrev a9u:Nat:=36
abbrev a7j:Nat:=37
abbrev a9v:Nat:=38
abbrev a4I:Nat:=39
abbrev b1s:Nat:=42
abbrev a9l:Nat:=43
abbrev c0m:Nat:=44
abbrev b1t:Nat:=45
abbrev c0h:Nat:=46
abbrev c1J:Nat:=47
abbrev a9w:Nat:=48
abbrev c0g:Nat:=52
abbrev a9m:Nat:=53
abbrev a9n:Nat:=54
abbrev a4H:Nat:=55
abbrev a3X:Nat:=56
abbrev c1K:Nat:=57
abbrev c0k:Nat:=58
abbrev c0c:Nat:=59
abbrev c0l:Nat:=60
abbrev b8X:Nat:=61
abbrev c1H:Nat:=70
abbrev b1q:Nat:=71
abbrev a9o:Nat:=72
abbrev a9p:Nat:=73
abbrev b1u:Nat:=74
abbrev a7f:Nat:=75
abbrev b1v:Nat:=76
abbrev b3N:Nat:=77
abbrev b3O:Nat:=78
abbrev c1F:Nat:=79
abbrev a9q:Nat:=82
abbrev b4R:Nat:=83
abbrev a5p:Nat:=84
abbrev c1I:Nat:=85
abbrev a7g:Nat:=86
abbrev b4S:Nat:=88
abbrev b4T:Nat:=89
abbrev b4U:Nat:=94
noncomputable def ti3:TI:=⟨.int .i64,1,8,[.int .i64 0],[]⟩
noncomputable def ti4:TI:=⟨.bool,1,1,[.bool false],[]⟩
noncomputable def ti5:TI:=⟨.int .u8,1,1,[.int .u8 0],[]⟩
noncomputable def ti9:TI:=⟨.str,1,16,[.str []],[]⟩
noncomputable def c2L:TI:=⟨.sl 5,1,24,[.nils],[]⟩
noncomputable def b7g:TI:=⟨.sl 9,1,24,[.nils],[]⟩
noncomputable def b9H:TI:=⟨.sl 36,1,24,[.nils],[]⟩
noncomputable def ti1229:TI:=⟨.sl 38,1,24,[.nils],[]⟩
noncomputable def a5A:TI:=⟨.sl 42,1,24,[.nils],[]⟩
noncomputable def c2M:TI:=⟨.sl 110,1,24,[.nils],[]⟩
noncomputable def c2N:TI:=⟨.sl 119,1,24,[.nils],[]⟩
noncomputable def b9G:TI:=⟨.st [(3,0,1),(3,1,1),(3,2,1),(3,3,1),(33,4,1),(3,5,1),(3,6,1),(9,7,1),(9,8,1),(34,9,1)],10,128,[.int .i64 0,.int .i64 0,.int .i64 0,.int .i64 0,.nils,.int .i64 0,.int .i64 0,.str [],.str [],.nils],[]⟩
noncomputable def ti1237:TI:=⟨.st [(24,0,1),(3,1,1),(3,2,1)],3,40,[.nils,.int .i64 0,.int .i64 0],[]⟩
noncomputable def c2Q:TI:=⟨.sl 3,1,24,[.nils],[]⟩
noncomputable def ti1146:TI:=⟨.st [(24,0,1),(40,1,1),(3,2,1)],3,56,[.nils,.nils,.int .i64 0],[]⟩
noncomputable def b5u:TI:=⟨.st [(3,0,1),(9,1,1)],2,24,[.int .i64 0,.str []],[]⟩
noncomputable def b5v:TI:=⟨.sl 53,1,24,[.nils],[]⟩
noncomputable def b2N:TI:=⟨.sl 90,1,24,[.nils],[]⟩
noncomputable def ti101:TI:=⟨.st [(22,0,1),(3,1,1)],2,32,[.nils,.int .i64 0],[]⟩
noncomputable def b4q:TI:=⟨.sl 70,1,24,[.nils],[]⟩
noncomputable def b2M:TI:=⟨.sl 72,1,24,[.nils],[]⟩
noncomputable def c2O:TI:=⟨.st [(9,0,1),(36,1,10)],11,144,[.str [],.int .i64 0,.int .i64 0,.int .i64 0,.int .i64 0,.nils,.int .i64 0,.int .i64 0,.str [],.str [],.nils],[]⟩
noncomputable def b2O:TI:=⟨.sl 4,1,24,[.nils],[]⟩
noncomputable def a9R:TI:=⟨.sl 24,1,24,[.nils],[]⟩
noncomputable def ti1168:TI:=⟨.st [(24,0,1),(40,1,1),(87,2,1),(88,3,1)],4,96,[.nils,.nils,.nils,.nils],[]⟩
noncomputable def b9F:TI:=⟨.int .u64,1,8,[.int .u64 0],[]⟩
noncomputable def c2P:TI:=⟨.st [(3,0,1),(3,1,1),(9,2,1)],3,32,[.int .i64 0,.int .i64 0,.str []],[]⟩
noncomputable def b7f:TI:=⟨.st [(9,0,1),(9,1,1)],2,32,[.str [],.str []],[]⟩
noncomputable def b5t:TI:=⟨.int .u64,1,8,[.int .u64 0],[]⟩
noncomputable def c3O:List (Option TI):=[none,none,none,some ti3,some ti4,some ti5,none,none,none,some ti9,none,none,none,none,none,none,none,none,none,none,none,none,some c2L,none,some b7g,some b9H,none,none,none,some ti1229,none,some a5A,none,some c2M,some c2N,none,some b9G,none,some ti1237,none,some c2Q,none,some ti1146,none,none,none,none,none,none,none,none,none,none,some b5u,some b5v,none,some b2N,none,none,none,none,none,none,none,none,none,some ti101,none,some b4q,none,some b2M,none,some c2O,none,none,none,none,none,none,none,none,none,none,none,none,none,none,some b2O,some a9R,none,some ti1168,none,none,none,none,none,some b9F,none,none,none,none,none,none,none,none,none,none,none,none,none,some c2P,none,none,none,none,none,none,none,none,some b7f,none,none,none,none,none,some b5t]
noncomputable def tab:Tab:=b7d c3O
theorem tk3:a3a Tryd.prog 3=some ti3∧a1w Tryd.prog 3=true:=⟨by kernel_rfl,by kernel_rfl⟩
theorem tk4:a3a Tryd.prog 4=some ti4∧a1w Tryd.prog 4=true:=⟨by kernel_rfl,by kernel_rfl⟩
theorem tk5:a3a Tryd.prog 5=some ti5∧a1w Tryd.prog 5=true:=⟨by kernel_rfl,by kernel_rfl⟩
theorem tk9:a3a Tryd.prog 9=some ti9∧a1w Tryd.prog 9=true:=⟨by kernel_rfl,by kernel_rfl⟩
theorem c6g:a3a Tryd.prog 22=some c2L∧a1w Tryd.prog 22=true:=⟨by kernel_rfl,by kernel_rfl⟩
theorem c6h:a3a Tryd.prog 24=some b7g∧a1w Tryd.prog 24=true:=⟨by kernel_rfl,by kernel_rfl⟩
theorem c6i:a3a Tryd.prog 25=some b9H∧a1w Tryd.prog 25=true:=⟨by kernel_rfl,by kernel_rfl⟩
theorem c6j:a3a Tryd.prog 29=some ti1229∧a1w Tryd.prog 29=true:=⟨by kernel_rfl,by kernel_rfl⟩
theorem c6k:a3a Tryd.prog 31=some a5A∧a1w Tryd.prog 31=true:=⟨by kernel_rfl,by kernel_rfl⟩
theorem c6l:a3a Tryd.prog 33=some c2M∧a1w Tryd.prog 33=true:=⟨by kernel_rfl,by kernel_rfl⟩
theorem c6m:a3a Tryd.prog 34=some c2N∧a1w Tryd.prog 34=true:=⟨by kernel_rfl,by kernel_rfl⟩
theorem c6n:a3a Tryd.prog 36=some b9G∧a1w Tryd.prog 36=true:=⟨by kernel_rfl,by kernel_rfl⟩
theorem c6o:a3a Tryd.prog 38=some ti1237∧a1w Tryd.prog 38=true:=⟨by kernel_rfl,by kernel_rfl⟩
theorem c6p:a3a Tryd.prog 40=some c2Q∧a1w Tryd.prog 40=true:=⟨by kernel_rfl,by kernel_rfl⟩
theorem c6q:a3a Tryd.prog 42=some ti1146∧a1w Tryd.prog 42=true:=⟨by kernel_rfl,by kernel_rfl⟩
theorem c6r:a3a Tryd.prog 53=some b5u∧a1w Tryd.prog 53=true:=⟨by kernel_rfl,by kernel_rfl⟩
theorem c6s:a3a Tryd.prog 54=some b5v∧a1w Tryd.prog 54=true:=⟨by kernel_rfl,by kernel_rfl⟩
theorem c6t:a3a Tryd.prog 56=some b2N∧a1w Tryd.prog 56=true:=⟨by kernel_rfl,by kernel_rfl⟩
theorem c6u:a3a Tryd.prog 66=some ti101∧a1w Tryd.prog 66=true:=⟨by kernel_rfl,by kernel_rfl⟩
theorem c6v:a3a Tryd.prog 68=some b4q∧a1w Tryd.prog 68=true:=⟨by kernel_rfl,by kernel_rfl⟩
theorem c6w:a3a Tryd.prog 70=some b2M∧a1w Tryd.prog 70=true:=⟨by kernel_rfl,by kernel_rfl⟩
theorem c6x:a3a Tryd.prog 72=some c2O∧a1w Tryd.prog 72=true:=⟨by kernel_rfl,by kernel_rfl⟩
theorem c6y:a3a Tryd.prog 87=some b2O∧a1w Tryd.prog 87=true:=⟨by kernel_rfl,by kernel_rfl⟩
theorem c6z:a3a Tryd.prog 88=some a9R∧a1w Tryd.prog 88=true:=⟨by kernel_rfl,by kernel_rfl⟩
theorem c6A:a3a Tryd.prog 90=some ti1168∧a1w Tryd.prog 90=true:=⟨by kernel_rfl,by kernel_rfl⟩
theorem c6B:a3a Tryd.prog 96=some b9F∧a1w Tryd.prog 96=true:=⟨by kernel_rfl,by kernel_rfl⟩
theorem c2R:a3a Tryd.prog 110=some c2P∧a1w Tryd.prog 110=true:=⟨by kernel_rfl,by kernel_rfl⟩
theorem c2S:a3a Tryd.prog 119=some b7f∧a1w Tryd.prog 119=true:=⟨by kernel_rfl,by kernel_rfl⟩
theorem c2T:a3a Tryd.prog 125=some b5t∧a1w Tryd.prog 125=true:=⟨by kernel_rfl,by kernel_rfl⟩
theorem b7c:TabOK Tryd.prog tab:=b4o (show a6F Tryd.prog 0 c3O from ⟨tk3,tk4,tk5,tk9,c6g,c6h,c6i,c6j,c6k,c6l,c6m,c6n,c6o,c6p,c6q,c6r,c6s,c6t,c6u,c6v,c6w,c6x,c6y,c6z,c6A,c6B,c2R,c2S,c2T,trivial⟩)
theorem c3G:Tryd.prog.follows .mixedOrders=true:=by kernel_rfl
def fi_ (f:Func) (n:Nat) (k z b:List Nat) (s:Bool):FnI:=⟨f.body.getD .skip,f.results.toList,⟨n,k,z,b⟩,s⟩
noncomputable def i4:=fi_ Tryd.f4 29 [0,1] [2,4,5,7] [] false
noncomputable def i5:=fi_ Tryd.f5 17 [0,2,3,4,5,6] [] [] false
noncomputable def i7:=fi_ Tryd.f7 14 [0,1,4,5] [7] [] false
noncomputable def i8:=fi_ Tryd.f8 18 [0,2,3,5,6,7,8,9] [5] [] false
noncomputable def i9:=fi_ Tryd.f9 26 [0,1,4,5,10,14,25] [] [] false
noncomputable def i10:=fi_ Tryd.f10 13 [0,1,4,5] [] [] true
noncomputable def i11:=fi_ Tryd.f11 13 [0,1,4] [] [] false
noncomputable def i12:=fi_ Tryd.f12 19 [0,2,3,12] [4,9,16] [] true
noncomputable def i13:=fi_ Tryd.f13 56 [0,1,4,5,6,7,8,9,14,24,33,44] [] [] false
noncomputable def i14:=fi_ Tryd.f14 35 [0,1,4,5,12] [] [] false
noncomputable def i15:=fi_ Tryd.f15 69 [0,1,2,3,4,6,8,9,10,11,12,13,22,45] [6,13,67] [] true
noncomputable def i17:=fi_ Tryd.f17 30 [1,4,5,6,10] [27] [2000019,2000025] true
noncomputable def i18:=fi_ Tryd.f18 24 [0,1,2,6,7,8,12] [] [] false
noncomputable def i19:=fi_ Tryd.f19 8 [0,2,4] [5] [] false
noncomputable def i20:=fi_ Tryd.f20 9 [0,1] [] [] false
noncomputable def i21:=fi_ Tryd.f21 17 [0,1,2,3,4] [2,3,15] [] false
noncomputable def i22:=fi_ Tryd.f22 18 [0,2,3,5,6,7,8,9,14] [] [] false
noncomputable def i23:=fi_ Tryd.f23 20 [0,1,4,5,6,11,12,13,16,19] [] [] false
noncomputable def i24:=fi_ Tryd.f24 11 [0,1,2,6] [1] [] false
noncomputable def i25:=fi_ Tryd.f25 8 [0,1,4] [] [] false
noncomputable def i26:=fi_ Tryd.f26 12 [0,1,4] [] [] false
noncomputable def i27:=fi_ Tryd.f27 8 [0,2] [3] [] false
noncomputable def i28:=fi_ Tryd.f28 45 [0,1,2,6,7,8,9,10,11,12,16,24] [12,35,42] [] true
noncomputable def i29:=fi_ Tryd.f29 34 [0,1,3,4,5,6,19] [3,28] [] true
noncomputable def i30:=fi_ Tryd.f30 13 [0,2] [] [] false
noncomputable def i31:=fi_ Tryd.f31 8 [0,2,4] [5] [] false
noncomputable def i32:=fi_ Tryd.f32 9 [0,1,2,3] [] [] false
noncomputable def i33:=fi_ Tryd.f33 49 [0,1,2,6,7,8,9,10,11,17,31] [] [] false
noncomputable def i34:=fi_ Tryd.f34 9 [0,1,2,4] [2] [] false
noncomputable def i35:=fi_ Tryd.f35 8 [0,2,4] [5] [] true
noncomputable def i36:=fi_ Tryd.f36 33 [0,1,4,5,6,9,17,27] [] [] true
noncomputable def i37:=fi_ Tryd.f37 17 [0,1,2,3,4] [2,3,15] [] false
noncomputable def i38:=fi_ Tryd.f38 42 [0,1,4,5,6,7,12,19,29] [7] [] false
noncomputable def i39:=fi_ Tryd.f39 10 [0,1,2,3] [2] [] false
noncomputable def i42:=fi_ Tryd.f42 17 [0,1,2,3,7,8] [7,15] [] false
noncomputable def i43:=fi_ Tryd.f43 63 [0,1,2,6,7,8,9,13,30,35,54] [] [] false
noncomputable def i44:=fi_ Tryd.f44 6 [0,2] [] [] false
noncomputable def i45:=fi_ Tryd.f45 36 [0,1,4,5,6,7,8,9,10,11,12,19,28,35] [] [] false
noncomputable def i46:=fi_ Tryd.f46 94 [0,1,2,3,8,9,10,11,12,13,14,24,51,56] [41,64,77,82] [] true
noncomputable def i47:=fi_ Tryd.f47 43 [0,1,2,3,4,5,16,27] [2,3] [] false
noncomputable def i48:=fi_ Tryd.f48 19 [0,1,4,5,7,8,9,16] [] [] false
noncomputable def i52:=fi_ Tryd.f52 12 [0,1,2,4,5] [2] [] false
noncomputable def i53:=fi_ Tryd.f53 84 [0,1,2,6,7,8,9,10,20,32,37,59,71] [53,67,79] [] true
noncomputable def i54:=fi_ Tryd.f54 87 [0,1,2,5,6,7,8,9,10,11,12,13,14,15,16,24,39,40,44,51,56,65] [5,9,67,71,76,81] [] true
noncomputable def i55:=fi_ Tryd.f55 53 [0,1,2,3,8,9,14,34] [] [] false
noncomputable def i56:=fi_ Tryd.f56 220 [0,1,2,3,4,10,11,12,13,14,15,16,17,18,19,20,21,22,23,24,28,33,50,58,80,85,103,110,140,151,171,185,199,213] [] [] false
noncomputable def i57:=fi_ Tryd.f57 20 [0,1,4,5,6,11,12,13,16,19] [] [] false
noncomputable def i58:=fi_ Tryd.f58 24 [0,2,3,4,10] [14] [] false
noncomputable def i59:=fi_ Tryd.f59 19 [0,2,4,5,10] [] [] false
noncomputable def i60:=fi_ Tryd.f60 8 [0,2] [3] [] false
noncomputable def i61:=fi_ Tryd.f61 27 [0,2,3,4,5,10,15] [6,24] [] true
noncomputable def i70:=fi_ Tryd.f70 21 [0,1,4,5,7,8,9,10,11,17] [7] [] false
noncomputable def i71:=fi_ Tryd.f71 48 [0,1,4,5,15,26,35,36,42] [] [] false
noncomputable def i72:=fi_ Tryd.f72 147 [0,1,2,4,5,6,7,8,9,10,11,18,42,43,53,76,82,105,111] [4,5,131,136,141] [] true
noncomputable def i73:=fi_ Tryd.f73 29 [0,1,3,4,5,6,7,12] [3,26] [] true
noncomputable def i74:=fi_ Tryd.f74 20 [0,1,2,4,5,6,7,15] [2] [] false
noncomputable def i75:=fi_ Tryd.f75 41 [0,1,2,4,5,6,7,12,17,22,27,31] [2] [] false
noncomputable def i76:=fi_ Tryd.f76 58 [0,1,2,3,4,10,11,20,23] [] [] false
noncomputable def i77:=fi_ Tryd.f77 6 [0,2] [] [] false
noncomputable def i78:=fi_ Tryd.f78 12 [0,2,3] [4] [] false
noncomputable def i79:=fi_ Tryd.f79 12 [0,2,3] [4] [] false
noncomputable def i82:=fi_ Tryd.f82 29 [0,2,3,4,9] [] [] true
noncomputable def i83:=fi_ Tryd.f83 8 [0,2,3] [] [] false
noncomputable def i84:=fi_ Tryd.f84 29 [0,2,3,4,8,21,23] [15,24] [] true
noncomputable def i85:=fi_ Tryd.f85 25 [0,1,4,5,6,10,19] [] [] false
noncomputable def i86:=fi_ Tryd.f86 38 [0,1,2,3,10,13] [] [] false
noncomputable def i88:=fi_ Tryd.f88 112 [0,1,4,5,6,7,8,9,10,11,21,43,79] [25,30,37,68,75,98,105] [] true
noncomputable def i89:=fi_ Tryd.f89 53 [0,2,3,4,5,6,15,25,29,36,49] [] [] false
noncomputable def i94:=fi_ Tryd.f94 9 [0,2] [] [] false
noncomputable def c1L:List (Nat × FnI):=[(4,i4),(5,i5),(7,i7),(8,i8),(9,i9),(10,i10),(11,i11),(12,i12),(13,i13),(14,i14),(15,i15),(17,i17),(18,i18),(19,i19),(20,i20),(21,i21),(22,i22),(23,i23),(24,i24),(25,i25),(26,i26),(27,i27),(28,i28),(29,i29),(30,i30),(31,i31),(32,i32),(33,i33),(34,i34),(35,i35),(36,i36),(37,i37),(38,i38),(39,i39),(42,i42),(43,i43),(44,i44),(45,i45),(46,i46),(47,i47),(48,i48),(52,i52),(53,i53),(54,i54),(55,i55),(56,i56),(57,i57),(58,i58),(59,i59),(60,i60),(61,i61),(70,i70),(71,i71),(72,i72),(73,i73),(74,i74),(75,i75),(76,i76),(77,i77),(78,i78),(79,i79),(82,i82),(83,i83),(84,i84),(85,i85),(86,i86),(88,i88),(89,i89),(94,i94)]
noncomputable def Fs:FuncId→Option FnI:=b8Z c1L
theorem fk4:FnOK Tryd.prog 4 i4 := .of Tryd.func4 (by kernel_rfl) (by kernel_rfl) (by kernel_rfl) Tryd.call4
theorem fk5:FnOK Tryd.prog 5 i5 := .of Tryd.func5 (by kernel_rfl) (by kernel_rfl) (by kernel_rfl) Tryd.call5
theorem fk7:FnOK Tryd.prog 7 i7 := .of Tryd.func7 (by kernel_rfl) (by kernel_rfl) (by kernel_rfl) Tryd.call7
theorem fk8:FnOK Tryd.prog 8 i8 := .of Tryd.func8 (by kernel_rfl) (by kernel_rfl) (by kernel_rfl) Tryd.call8
theorem fk9:FnOK Tryd.prog 9 i9 := .of Tryd.func9 (by kernel_rfl) (by kernel_rfl) (by kernel_rfl) Tryd.call9
theorem c4e:FnOK Tryd.prog 10 i10 := .of Tryd.func10 (by kernel_rfl) (by kernel_rfl) (by kernel_rfl) Tryd.call10
theorem c4f:FnOK Tryd.prog 11 i11 := .of Tryd.func11 (by kernel_rfl) (by kernel_rfl) (by kernel_rfl) Tryd.call11
theorem c4g:FnOK Tryd.prog 12 i12 := .of Tryd.func12 (by kernel_rfl) (by kernel_rfl) (by kernel_rfl) Tryd.call12
theorem c4h:FnOK Tryd.prog 13 i13 := .of Tryd.func13 (by kernel_rfl) (by kernel_rfl) (by kernel_rfl) Tryd.call13
theorem c4i:FnOK Tryd.prog 14 i14 := .of Tryd.func14 (by kernel_rfl) (by kernel_rfl) (by kernel_rfl) Tryd.call14
theorem c4j:FnOK Tryd.prog 15 i15 := .of Tryd.func15 (by kernel_rfl) (by kernel_rfl) (by kernel_rfl) Tryd.call15
theorem c4l:FnOK Tryd.prog 17 i17 := .of Tryd.func17 (by kernel_rfl) (by kernel_rfl) (by kernel_rfl) Tryd.call17
theorem c4m:FnOK Tryd.prog 18 i18 := .of Tryd.func18 (by kernel_rfl) (by kernel_rfl) (by kernel_rfl) Tryd.call18
theorem c4n:FnOK Tryd.prog 19 i19 := .of Tryd.func19 (by kernel_rfl) (by kernel_rfl) (by kernel_rfl) Tryd.call19
theorem c4o:FnOK Tryd.prog 20 i20 := .of Tryd.func20 (by kernel_rfl) (by kernel_rfl) (by kernel_rfl) Tryd.call20
theorem c4p:FnOK Tryd.prog 21 i21 := .of Tryd.func21 (by kernel_rfl) (by kernel_rfl) (by kernel_rfl) Tryd.call21
theorem c4q:FnOK Tryd.prog 22 i22 := .of Tryd.func22 (by kernel_rfl) (by kernel_rfl) (by kernel_rfl) Tryd.call22
theorem c4r:FnOK Tryd.prog 23 i23 := .of Tryd.func23 (by kernel_rfl) (by kernel_rfl) (by kernel_rfl) Tryd.call23
theorem c4s:FnOK Tryd.prog 24 i24 := .of Tryd.func24 (by kernel_rfl) (by kernel_rfl) (by kernel_rfl) Tryd.call24
theorem c4t:FnOK Tryd.prog 25 i25 := .of Tryd.func25 (by kernel_rfl) (by kernel_rfl) (by kernel_rfl) Tryd.call25
theorem c4u:FnOK Tryd.prog 26 i26 := .of Tryd.func26 (by kernel_rfl) (by kernel_rfl) (by kernel_rfl) Tryd.call26
theorem c4v:FnOK Tryd.prog 27 i27 := .of Tryd.func27 (by kernel_rfl) (by kernel_rfl) (by kernel_rfl) Tryd.call27
theorem c4w:FnOK Tryd.prog 28 i28 := .of Tryd.func28 (by kernel_rfl) (by kernel_rfl) (by kernel_rfl) Tryd.call28
theorem c4x:FnOK Tryd.prog 29 i29 := .of Tryd.func29 (by kernel_rfl) (by kernel_rfl) (by kernel_rfl) Tryd.call29
theorem c4y:FnOK Tryd.prog 30 i30 := .of Tryd.func30 (by kernel_rfl) (by kernel_rfl) (by kernel_rfl) Tryd.call30
theorem c4z:FnOK Tryd.prog 31 i31 := .of Tryd.func31 (by kernel_rfl) (by kernel_rfl) (by kernel_rfl) Tryd.call31
theorem c4A:FnOK Tryd.prog 32 i32 := .of Tryd.func32 (by kernel_rfl) (by kernel_rfl) (by kernel_rfl) Tryd.call32
theorem c4B:FnOK Tryd.prog 33 i33 := .of Tryd.func33 (by kernel_rfl) (by kernel_rfl) (by kernel_rfl) Tryd.call33
theorem c4C:FnOK Tryd.prog 34 i34 := .of Tryd.func34 (by kernel_rfl) (by kernel_rfl) (by kernel_rfl) Tryd.call34
theorem c4D:FnOK Tryd.prog 35 i35 := .of Tryd.func35 (by kernel_rfl) (by kernel_rfl) (by kernel_rfl) Tryd.call35
theorem c4E:FnOK Tryd.prog 36 i36 := .of Tryd.func36 (by kernel_rfl) (by kernel_rfl) (by kernel_rfl) Tryd.call36
theorem c4F:FnOK Tryd.prog 37 i37 := .of Tryd.func37 (by kernel_rfl) (by kernel_rfl) (by kernel_rfl) Tryd.call37
theorem c4G:FnOK Tryd.prog 38 i38 := .of Tryd.func38 (by kernel_rfl) (by kernel_rfl) (by kernel_rfl) Tryd.call38
theorem c4H:FnOK Tryd.prog 39 i39 := .of Tryd.func39 (by kernel_rfl) (by kernel_rfl) (by kernel_rfl) Tryd.call39
theorem c4I:FnOK Tryd.prog 42 i42 := .of Tryd.func42 (by kernel_rfl) (by kernel_rfl) (by kernel_rfl) Tryd.call42
theorem c4J:FnOK Tryd.prog 43 i43 := .of Tryd.func43 (by kernel_rfl) (by kernel_rfl) (by kernel_rfl) Tryd.call43
theorem c4K:FnOK Tryd.prog 44 i44 := .of Tryd.func44 (by kernel_rfl) (by kernel_rfl) (by kernel_rfl) Tryd.call44
theorem c4L:FnOK Tryd.prog 45 i45 := .of Tryd.func45 (by kernel_rfl) (by kernel_rfl) (by kernel_rfl) Tryd.call45
theorem c4M:FnOK Tryd.prog 46 i46 := .of Tryd.func46 (by kernel_rfl) (by kernel_rfl) (by kernel_rfl) Tryd.call46
theorem c4N:FnOK Tryd.prog 47 i47 := .of Tryd.func47 (by kernel_rfl) (by kernel_rfl) (by kernel_rfl) Tryd.call47
theorem c4O:FnOK Tryd.prog 48 i48 := .of Tryd.func48 (by kernel_rfl) (by kernel_rfl) (by kernel_rfl) Tryd.call48
theorem c4P:FnOK Tryd.prog 52 i52 := .of Tryd.func52 (by kernel_rfl) (by kernel_rfl) (by kernel_rfl) Tryd.call52
theorem c4Q:FnOK Tryd.prog 53 i53 := .of Tryd.func53 (by kernel_rfl) (by kernel_rfl) (by kernel_rfl) Tryd.call53
theorem c4R:FnOK Tryd.prog 54 i54 := .of Tryd.func54 (by kernel_rfl) (by kernel_rfl) (by kernel_rfl) Tryd.call54
theorem c4S:FnOK Tryd.prog 55 i55 := .of Tryd.func55 (by kernel_rfl) (by kernel_rfl) (by kernel_rfl) Tryd.call55
theorem c4T:FnOK Tryd.prog 56 i56 := .of Tryd.func56 (by kernel_rfl) (by kernel_rfl) (by kernel_rfl) Tryd.call56
theorem c4U:FnOK Tryd.prog 57 i57 := .of Tryd.func57 (by kernel_rfl) (by kernel_rfl) (by kernel_rfl) Tryd.call57
theorem c4V:FnOK Tryd.prog 58 i58 := .of Tryd.func58 (by kernel_rfl) (by kernel_rfl) (by kernel_rfl) Tryd.call58
theorem c4W:FnOK Tryd.prog 59 i59 := .of Tryd.func59 (by kernel_rfl) (by kernel_rfl) (by kernel_rfl) Tryd.call59
theorem c4X:FnOK Tryd.prog 60 i60 := .of Tryd.func60 (by kernel_rfl) (by kernel_rfl) (by kernel_rfl) Tryd.call60
theorem c4Y:FnOK Tryd.prog 61 i61 := .of Tryd.func61 (by kernel_rfl) (by kernel_rfl) (by kernel_rfl) Tryd.call61
theorem c4Z:FnOK Tryd.prog 70 i70 := .of Tryd.func70 (by kernel_rfl) (by kernel_rfl) (by kernel_rfl) Tryd.call70
theorem c5a:FnOK Tryd.prog 71 i71 := .of Tryd.func71 (by kernel_rfl) (by kernel_rfl) (by kernel_rfl) Tryd.call71
theorem c5b:FnOK Tryd.prog 72 i72 := .of Tryd.func72 (by kernel_rfl) (by kernel_rfl) (by kernel_rfl) Tryd.call72
theorem c5c:FnOK Tryd.prog 73 i73 := .of Tryd.func73 (by kernel_rfl) (by kernel_rfl) (by kernel_rfl) Tryd.call73
theorem c5d:FnOK Tryd.prog 74 i74 := .of Tryd.func74 (by kernel_rfl) (by kernel_rfl) (by kernel_rfl) Tryd.call74
theorem c5e:FnOK Tryd.prog 75 i75 := .of Tryd.func75 (by kernel_rfl) (by kernel_rfl) (by kernel_rfl) Tryd.call75
theorem c5f:FnOK Tryd.prog 76 i76 := .of Tryd.func76 (by kernel_rfl) (by kernel_rfl) (by kernel_rfl) Tryd.call76
theorem c5g:FnOK Tryd.prog 77 i77 := .of Tryd.func77 (by kernel_rfl) (by kernel_rfl) (by kernel_rfl) Tryd.call77
theorem c5h:FnOK Tryd.prog 78 i78 := .of Tryd.func78 (by kernel_rfl) (by kernel_rfl) (by kernel_rfl) Tryd.call78
theorem c5i:FnOK Tryd.prog 79 i79 := .of Tryd.func79 (by kernel_rfl) (by kernel_rfl) (by kernel_rfl) Tryd.call79
theorem c5j:FnOK Tryd.prog 82 i82 := .of Tryd.func82 (by kernel_rfl) (by kernel_rfl) (by kernel_rfl) Tryd.call82
theorem c5k:FnOK Tryd.prog 83 i83 := .of Tryd.func83 (by kernel_rfl) (by kernel_rfl) (by kernel_rfl) Tryd.call83
theorem c5l:FnOK Tryd.prog 84 i84 := .of Tryd.func84 (by kernel_rfl) (by kernel_rfl) (by kernel_rfl) Tryd.call84
theorem c5m:FnOK Tryd.prog 85 i85 := .of Tryd.func85 (by kernel_rfl) (by kernel_rfl) (by kernel_rfl) Tryd.call85
theorem c5n:FnOK Tryd.prog 86 i86 := .of Tryd.func86 (by kernel_rfl) (by kernel_rfl) (by kernel_rfl) Tryd.call86
theorem c5o:FnOK Tryd.prog 88 i88 := .of Tryd.func88 (by kernel_rfl) (by kernel_rfl) (by kernel_rfl) Tryd.call88
theorem c5p:FnOK Tryd.prog 89 i89 := .of Tryd.func89 (by kernel_rfl) (by kernel_rfl) (by kernel_rfl) Tryd.call89
theorem c5q:FnOK Tryd.prog 94 i94 := .of Tryd.func94 (by kernel_rfl) (by kernel_rfl) (by kernel_rfl) Tryd.call94
theorem c1M:b3c Tryd.prog c1L:=⟨fk4,fk5,fk7,fk8,fk9,c4e,c4f,c4g,c4h,c4i,c4j,c4l,c4m,c4n,c4o,c4p,c4q,c4r,c4s,c4t,c4u,c4v,c4w,c4x,c4y,c4z,c4A,c4B,c4C,c4D,c4E,c4F,c4G,c4H,c4I,c4J,c4K,c4L,c4M,c4N,c4O,c4P,c4Q,c4R,c4S,c4T,c4U,c4V,c4W,c4X,c4Y,c4Z,c5a,c5b,c5c,c5d,c5e,c5f,c5g,c5h,c5i,c5j,c5k,c5l,c5m,c5n,c5o,c5p,c5q,trivial⟩
noncomputable def gl:Nat→Option D:=fun _=>none
abbrev a4J:Nat:=40
noncomputable def xt:a0M:=fun f args h=>if f=a4J then a7S a0j ti1237 args h else none
theorem c6J (X:Cx):a1v Tryd.prog X xt:=fun f args h d h' hd g vs hi hgl hr=>by
 unfold xt at hd
 split at hd
 ·rename_i hf
  subst hf
  exact b6r b7c b9e Tryd.call40 c2d (show tab 29=some ti1229 from rfl) rfl (show tab 38=some ti1237 from rfl) (show tab 3=some ti3 from rfl) rfl rfl (by decide) hd hi hr
 ·skip
  cases hd
noncomputable def X:Cx:=⟨tab,gl,xt⟩
noncomputable def R:a0M:=run X Fs
theorem er (fi:FnI) {f:FuncId} {args:List D} {h:Hp} {x:Option (D × Hp)} (hf:Fs f=some fi) (hx:fnR X R a0F fi args h=x):R f args h=x:=(b5q hf args h).trans hx
theorem c3p:a1v Tryd.prog X R:=b5r (X:=X) b7c c3G (c6J X) (b1A c1L c1M)
theorem a6A (args:List D) (h:Hp):R a4J args h=a7S a0j ti1237 args h:=(b2B (X:=X) (F:=Fs) (by kernel_rfl) _ _).trans (by simp only [X,xt,if_true,if_false])
end Go.Proofs.YtehgglgadbmecaaDoor
