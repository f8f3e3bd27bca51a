/- The tables of this seat: its types, and how its functions are carried out on data. -/
import Derived.Test.YtjmndhbabkjebaaGreatDoorPiW
import Derived.Test.YtjmndhbabkjebaaGreatDoorChecked
import Derived.KernelRfl
set_option linter.unusedSimpArgs false
set_option linter.unusedVariables false
set_option linter.unnecessarySimpa false
namespace Go.Proofs.YtjmndhbabkjebaaGreatDoor
open Go.Eng Go.Pi
abbrev ty3:Nat:=3
abbrev ty4:Nat:=4
abbrev ty5:Nat:=5
abbrev ty9:Nat:=9
abbrev a0N:Nat:=22
abbrev b9j:Nat:=23
abbrev a0C:Nat:=27
abbrev a1x:Nat:=28
abbrev a0f:Nat:=30
abbrev a0K:Nat:=35
abbrev a1i:Nat:=36
abbrev a1e:Nat:=37
abbrev a0E:Nat:=39
abbrev a0L:Nat:=41
abbrev a8y:Nat:=44
abbrev a5I:Nat:=45
abbrev a0V:Nat:=49
abbrev a5h:Nat:=51
abbrev a3M:Nat:=59
abbrev b1W:Nat:=66
abbrev a1o:Nat:=71
abbrev a0x:Nat:=75
abbrev a5W:Nat:=81
abbrev a1Q:Nat:=85
abbrev a0l:Nat:=87
abbrev a2Q:Nat:=97
abbrev a3d:Nat:=98
abbrev a5i:Nat:=102
abbrev a2y:Nat:=104
abbrev c2o:Nat:=124
abbrev a6G:Nat:=125
abbrev a4j:Nat:=129
abbrev a2a:Nat:=131
abbrev b5i:Nat:=156
abbrev a7Y:Nat:=21
abbrev a9d:Nat:=23
abbrev c3a:Nat:=6
abbrev a7i:Nat:=7
abbrev a5n:Nat:=8
abbrev a5z:Nat:=9
abbrev a9a:Nat:=10
abbrev a7V:Nat:=11
abbrev a7Z:Nat:=12
abbrev a7k:Nat:=13
abbrev a2l:Nat:=14
abbrev a4Q:Nat:=15
abbrev a4E:Nat:=16
abbrev a7l:Nat:=17
abbrev a9c:Nat:=18
abbrev a7j:Nat:=19
abbrev b4s:Nat:=20
abbrev b4t:Nat:=22
abbrev a9e:Nat:=24
abbrev b4u:Nat:=25
abbrev b4c:Nat:=26
abbrev b4v:Nat:=28
abbrev b4o:Nat:=29
abbrev b1r:Nat:=30
abbrev d1x:Nat:=31
abbrev a6L:Nat:=32
abbrev c6R:Nat:=33
abbrev c8D:Nat:=34
abbrev b1s:Nat:=35
abbrev a4a:Nat:=36
abbrev b4i:Nat:=37
abbrev b4p:Nat:=38
abbrev b1u:Nat:=39
abbrev b7C:Nat:=40
abbrev b1t:Nat:=41
abbrev a4T:Nat:=42
abbrev b4q:Nat:=43
abbrev a2B:Nat:=44
abbrev b4w:Nat:=45
abbrev b7A:Nat:=46
abbrev b7B:Nat:=47
abbrev c8E:Nat:=49
abbrev c8F:Nat:=50
abbrev a5E:Nat:=51
abbrev b1o:Nat:=52
abbrev a4D:Nat:=53
abbrev b4j:Nat:=54
abbrev b4g:Nat:=55
abbrev b7D:Nat:=56
abbrev a9b:Nat:=57
abbrev a3t:Nat:=58
abbrev b1n:Nat:=59
abbrev d1y:Nat:=60
abbrev c8G:Nat:=62
abbrev b1h:Nat:=63
abbrev b4d:Nat:=64
abbrev b4e:Nat:=65
abbrev b7n:Nat:=66
abbrev b1i:Nat:=67
abbrev a6w:Nat:=68
abbrev b4h:Nat:=69
abbrev a7h:Nat:=70
abbrev a4S:Nat:=71
abbrev b1p:Nat:=72
abbrev b1q:Nat:=73
abbrev d1z:Nat:=74
abbrev c8H:Nat:=75
abbrev a8Z:Nat:=76
abbrev b1j:Nat:=77
abbrev b7o:Nat:=78
abbrev b7p:Nat:=79
abbrev b1k:Nat:=80
abbrev b7g:Nat:=81
abbrev b7i:Nat:=82
abbrev b3Y:Nat:=83
abbrev b3Z:Nat:=84
abbrev a6x:Nat:=85
abbrev a4R:Nat:=86
abbrev b7q:Nat:=87
abbrev b7h:Nat:=88
abbrev b1l:Nat:=89
abbrev a7W:Nat:=90
abbrev b7r:Nat:=91
abbrev b7s:Nat:=92
abbrev b7j:Nat:=93
abbrev b4a:Nat:=94
abbrev b7t:Nat:=95
abbrev b7u:Nat:=96
abbrev b4f:Nat:=97
abbrev c1B:Nat:=98
abbrev b7k:Nat:=99
abbrev a7X:Nat:=100
abbrev a7g:Nat:=101
abbrev b4b:Nat:=103
abbrev b7l:Nat:=104
abbrev b7w:Nat:=105
abbrev b7m:Nat:=106
abbrev b1m:Nat:=107
abbrev b7x:Nat:=123
abbrev b7y:Nat:=124
abbrev b7z:Nat:=125
abbrev b4k:Nat:=126
abbrev b4l:Nat:=127
abbrev b4m:Nat:=128
abbrev a6y:Nat:=129
noncomputable def ti3:TI:=⟨.int .i64,1,8,[.int .i64 0],[]⟩
noncomputable def ti4:TI:=⟨.bool,1,1,[.bool false],[]⟩
noncomputable def ti5:TI:=⟨.int .u8,1,1,[.int .u8 0],[]⟩
noncomputable def ti9:TI:=⟨.str,1,16,[.str []],[]⟩
noncomputable def ti22:TI:=⟨.sl 5,1,24,[.nils],[]⟩
noncomputable def c2l:TI:=⟨.int .u16,1,2,[.int .u16 0],[]⟩
noncomputable def b9f:TI:=⟨.sl 35,1,24,[.nils],[]⟩
noncomputable def c4t:TI:=⟨.sl 41,1,24,[.nils],[]⟩
noncomputable def ti1197:TI:=⟨.st [(3,0,1),(27,1,1),(28,2,1)],3,56,[.int .i64 0,.nils,.nils],[]⟩
noncomputable def b9g:TI:=⟨.st [(3,0,1),(3,1,1)],2,16,[.int .i64 0,.int .i64 0],[]⟩
noncomputable def d3m:TI:=⟨.sl 71,1,24,[.nils],[]⟩
noncomputable def c8U:TI:=⟨.sl 75,1,24,[.nils],[]⟩
noncomputable def ti31:TI:=⟨.st [(3,0,1),(3,1,1),(3,2,1),(3,3,1),(36,4,1),(3,5,1),(3,6,1),(9,7,1),(9,8,1),(37,9,1)],10,128,[.int .i64 0,.int .i64 0,.int .i64 0,.int .i64 0,.nils,.int .i64 0,.int .i64 0,.str [],.str [],.nils],[]⟩
noncomputable def d3o:TI:=⟨.st [(9,0,1),(39,1,10)],11,144,[.str [],.int .i64 0,.int .i64 0,.int .i64 0,.int .i64 0,.nils,.int .i64 0,.int .i64 0,.str [],.str [],.nils],[]⟩
noncomputable def c2m:TI:=⟨.sl 30,1,24,[.nils],[]⟩
noncomputable def d3Y:TI:=⟨.int .i64,1,8,[.int .i64 0],[]⟩
noncomputable def c2i:TI:=⟨.int .u64,1,8,[.int .u64 0],[]⟩
noncomputable def b9d:TI:=⟨.sl 22,1,24,[.nils],[]⟩
noncomputable def d3q:TI:=⟨.sl 3,1,24,[.nils],[]⟩
noncomputable def ti80:TI:=⟨.st [(22,0,1),(3,1,1)],2,32,[.nils,.int .i64 0],[]⟩
noncomputable def d3p:TI:=⟨.st [(3,0,1),(3,1,1),(9,2,1)],3,32,[.int .i64 0,.int .i64 0,.str []],[]⟩
noncomputable def ti109:TI:=⟨.st [(9,0,1),(9,1,1)],2,32,[.str [],.str []],[]⟩
noncomputable def c8r:TI:=⟨.int .u64,1,8,[.int .u64 0],[]⟩
noncomputable def ti1223:TI:=⟨.st [(22,0,1),(4,1,1)],2,32,[.nils,.bool false],[]⟩
noncomputable def ti1108:TI:=⟨.st [(22,0,1),(3,1,1),(4,2,1)],3,40,[.nils,.int .i64 0,.bool false],[]⟩
noncomputable def c2n:TI:=⟨.arr 3 3,3,24,[.int .i64 0,.int .i64 0,.int .i64 0],[]⟩
noncomputable def d3Z:TI:=⟨.sl 9,1,24,[.nils],[]⟩
noncomputable def c2j:TI:=⟨.ptr 104,1,8,[.nilp],[("logtide/event.count",some 123),("logtide/event.number",some 124),("logtide/event.text",some 125)]⟩
noncomputable def ti1101:TI:=⟨.st [(22,0,1)],1,24,[.nils],[]⟩
noncomputable def b9h:TI:=⟨.ptr 3,1,8,[.nilp],[]⟩
noncomputable def b9i:TI:=⟨.sl 124,1,24,[.nils],[]⟩
noncomputable def c2k:TI:=⟨.ptr 131,1,8,[.nilp],[("logtide/event.count",some 126),("logtide/event.number",some 127),("logtide/event.take",some 129),("logtide/event.text",some 128)]⟩
noncomputable def ti1106:TI:=⟨.st [(22,0,1),(4,1,1)],2,32,[.nils,.bool false],[]⟩
noncomputable def b9e:TI:=⟨.arr 256 5,256,256,[.int .u8 0,.int .u8 0,.int .u8 0,.int .u8 0,.int .u8 0,.int .u8 0,.int .u8 0,.int .u8 0,.int .u8 0,.int .u8 0,.int .u8 0,.int .u8 0,.int .u8 0,.int .u8 0,.int .u8 0,.int .u8 0,.int .u8 0,.int .u8 0,.int .u8 0,.int .u8 0,.int .u8 0,.int .u8 0,.int .u8 0,.int .u8 0,.int .u8 0,.int .u8 0,.int .u8 0,.int .u8 0,.int .u8 0,.int .u8 0,.int .u8 0,.int .u8 0,.int .u8 0,.int .u8 0,.int .u8 0,.int .u8 0,.int .u8 0,.int .u8 0,.int .u8 0,.int .u8 0,.int .u8 0,.int .u8 0,.int .u8 0,.int .u8 0,.int .u8 0,.int .u8 0,.int .u8 0,.int .u8 0,.int .u8 0,.int .u8 0,.int .u8 0,.int .u8 0,.int .u8 0,.int .u8 0,.int .u8 0,.int .u8 0,.int .u8 0,.int .u8 0,.int .u8 0,.int .u8 0,.int .u8 0,.int .u8 0,.int .u8 0,.int .u8 0,.int .u8 0,.int .u8 0,.int .u8 0,.int .u8 0,.int .u8 0,.int .u8 0,.int .u8 0,.int .u8 0,.int .u8 0,.int .u8 0,.int .u8 0,.int .u8 0,.int .u8 0,.int .u8 0,.int .u8 0,.int .u8 0,.int .u8 0,.int .u8 0,.int .u8 0,.int .u8 0,.int .u8 0,.int .u8 0,.int .u8 0,.int .u8 0,.int .u8 0,.int .u8 0,.int .u8 0,.int .u8 0,.int .u8 0,.int .u8 0,.int .u8 0,.int .u8 0,.int .u8 0,.int .u8 0,.int .u8 0,.int .u8 0,.int .u8 0,.int .u8 0,.int .u8 0,.int .u8 0,.int .u8 0,.int .u8 0,.int .u8 0,.int .u8 0,.int .u8 0,.int .u8 0,.int .u8 0,.int .u8 0,.int .u8 0,.int .u8 0,.int .u8 0,.int .u8 0,.int .u8 0,.int .u8 0,.int .u8 0,.int .u8 0,.int .u8 0,.int .u8 0,.int .u8 0,.int .u8 0,.int .u8 0,.int .u8 0,.int .u8 0,.int .u8 0,.int .u8 0,.int .u8 0,.int .u8 0,.int .u8 0,.int .u8 0,.int .u8 0,.int .u8 0,.int .u8 0,.int .u8 0,.int .u8 0,.int .u8 0,.int .u8 0,.int .u8 0,.int .u8 0,.int .u8 0,.int .u8 0,.int .u8 0,.int .u8 0,.int .u8 0,.int .u8 0,.int .u8 0,.int .u8 0,.int .u8 0,.int .u8 0,.int .u8 0,.int .u8 0,.int .u8 0,.int .u8 0,.int .u8 0,.int .u8 0,.int .u8 0,.int .u8 0,.int .u8 0,.int .u8 0,.int .u8 0,.int .u8 0,.int .u8 0,.int .u8 0,.int .u8 0,.int .u8 0,.int .u8 0,.int .u8 0,.int .u8 0,.int .u8 0,.int .u8 0,.int .u8 0,.int .u8 0,.int .u8 0,.int .u8 0,.int .u8 0,.int .u8 0,.int .u8 0,.int .u8 0,.int .u8 0,.int .u8 0,.int .u8 0,.int .u8 0,.int .u8 0,.int .u8 0,.int .u8 0,.int .u8 0,.int .u8 0,.int .u8 0,.int .u8 0,.int .u8 0,.int .u8 0,.int .u8 0,.int .u8 0,.int .u8 0,.int .u8 0,.int .u8 0,.int .u8 0,.int .u8 0,.int .u8 0,.int .u8 0,.int .u8 0,.int .u8 0,.int .u8 0,.int .u8 0,.int .u8 0,.int .u8 0,.int .u8 0,.int .u8 0,.int .u8 0,.int .u8 0,.int .u8 0,.int .u8 0,.int .u8 0,.int .u8 0,.int .u8 0,.int .u8 0,.int .u8 0,.int .u8 0,.int .u8 0,.int .u8 0,.int .u8 0,.int .u8 0,.int .u8 0,.int .u8 0,.int .u8 0,.int .u8 0,.int .u8 0,.int .u8 0,.int .u8 0,.int .u8 0,.int .u8 0,.int .u8 0,.int .u8 0,.int .u8 0,.int .u8 0,.int .u8 0,.int .u8 0,.int .u8 0,.int .u8 0,.int .u8 0,.int .u8 0,.int .u8 0,.int .u8 0,.int .u8 0,.int .u8 0,.int .u8 0,.int .u8 0,.int .u8 0,.int .u8 0,.int .u8 0,.int .u8 0,.int .u8 0,.int .u8 0],[]⟩
noncomputable def d3X:List (Option TI):=[none,none,none,some ti3,some ti4,some ti5,none,none,none,some ti9,none,none,none,none,none,none,none,none,none,none,none,none,some ti22,some c2l,none,none,none,some b9f,some c4t,none,some ti1197,none,none,none,none,some b9g,some d3m,some c8U,none,some ti31,none,some d3o,none,none,some c2m,some d3Y,none,none,none,some c2i,none,some b9d,none,none,none,none,none,none,none,some d3q,none,none,none,none,none,none,some ti80,none,none,none,none,some d3p,none,none,none,some ti109,none,none,none,none,none,some c8r,none,none,none,some ti1223,none,some ti1108,none,none,none,none,none,none,none,none,none,some c2n,some d3Z,none,none,none,some c2j,none,some ti1101,none,none,none,none,none,none,none,none,none,none,none,none,none,none,none,none,none,none,none,some b9h,some b9i,none,none,none,some c2k,none,some ti1106,none,none,none,none,none,none,none,none,none,none,none,none,none,none,none,none,none,none,none,none,none,none,none,none,some b9e]
noncomputable def tab:Tab:=c4r d3X
theorem tk3:a4G Tryz.prog 3=some ti3∧a2v Tryz.prog 3=true:=⟨by kernel_rfl,by kernel_rfl⟩
theorem tk4:a4G Tryz.prog 4=some ti4∧a2v Tryz.prog 4=true:=⟨by kernel_rfl,by kernel_rfl⟩
theorem tk5:a4G Tryz.prog 5=some ti5∧a2v Tryz.prog 5=true:=⟨by kernel_rfl,by kernel_rfl⟩
theorem tk9:a4G Tryz.prog 9=some ti9∧a2v Tryz.prog 9=true:=⟨by kernel_rfl,by kernel_rfl⟩
theorem d6y:a4G Tryz.prog 22=some ti22∧a2v Tryz.prog 22=true:=⟨by kernel_rfl,by kernel_rfl⟩
theorem d6z:a4G Tryz.prog 23=some c2l∧a2v Tryz.prog 23=true:=⟨by kernel_rfl,by kernel_rfl⟩
theorem d6A:a4G Tryz.prog 27=some b9f∧a2v Tryz.prog 27=true:=⟨by kernel_rfl,by kernel_rfl⟩
theorem d6B:a4G Tryz.prog 28=some c4t∧a2v Tryz.prog 28=true:=⟨by kernel_rfl,by kernel_rfl⟩
theorem d6C:a4G Tryz.prog 30=some ti1197∧a2v Tryz.prog 30=true:=⟨by kernel_rfl,by kernel_rfl⟩
theorem d6D:a4G Tryz.prog 35=some b9g∧a2v Tryz.prog 35=true:=⟨by kernel_rfl,by kernel_rfl⟩
theorem d6E:a4G Tryz.prog 36=some d3m∧a2v Tryz.prog 36=true:=⟨by kernel_rfl,by kernel_rfl⟩
theorem d6F:a4G Tryz.prog 37=some c8U∧a2v Tryz.prog 37=true:=⟨by kernel_rfl,by kernel_rfl⟩
theorem d6G:a4G Tryz.prog 39=some ti31∧a2v Tryz.prog 39=true:=⟨by kernel_rfl,by kernel_rfl⟩
theorem d6H:a4G Tryz.prog 41=some d3o∧a2v Tryz.prog 41=true:=⟨by kernel_rfl,by kernel_rfl⟩
theorem d6I:a4G Tryz.prog 44=some c2m∧a2v Tryz.prog 44=true:=⟨by kernel_rfl,by kernel_rfl⟩
theorem d6J:a4G Tryz.prog 45=some d3Y∧a2v Tryz.prog 45=true:=⟨by kernel_rfl,by kernel_rfl⟩
theorem d6K:a4G Tryz.prog 49=some c2i∧a2v Tryz.prog 49=true:=⟨by kernel_rfl,by kernel_rfl⟩
theorem d6L:a4G Tryz.prog 51=some b9d∧a2v Tryz.prog 51=true:=⟨by kernel_rfl,by kernel_rfl⟩
theorem d6M:a4G Tryz.prog 59=some d3q∧a2v Tryz.prog 59=true:=⟨by kernel_rfl,by kernel_rfl⟩
theorem d6N:a4G Tryz.prog 66=some ti80∧a2v Tryz.prog 66=true:=⟨by kernel_rfl,by kernel_rfl⟩
theorem d6O:a4G Tryz.prog 71=some d3p∧a2v Tryz.prog 71=true:=⟨by kernel_rfl,by kernel_rfl⟩
theorem d6P:a4G Tryz.prog 75=some ti109∧a2v Tryz.prog 75=true:=⟨by kernel_rfl,by kernel_rfl⟩
theorem d6Q:a4G Tryz.prog 81=some c8r∧a2v Tryz.prog 81=true:=⟨by kernel_rfl,by kernel_rfl⟩
theorem d6R:a4G Tryz.prog 85=some ti1223∧a2v Tryz.prog 85=true:=⟨by kernel_rfl,by kernel_rfl⟩
theorem d6S:a4G Tryz.prog 87=some ti1108∧a2v Tryz.prog 87=true:=⟨by kernel_rfl,by kernel_rfl⟩
theorem d6T:a4G Tryz.prog 97=some c2n∧a2v Tryz.prog 97=true:=⟨by kernel_rfl,by kernel_rfl⟩
theorem d6U:a4G Tryz.prog 98=some d3Z∧a2v Tryz.prog 98=true:=⟨by kernel_rfl,by kernel_rfl⟩
theorem d3r:a4G Tryz.prog 102=some c2j∧a2v Tryz.prog 102=true:=⟨by kernel_rfl,by kernel_rfl⟩
theorem d3s:a4G Tryz.prog 104=some ti1101∧a2v Tryz.prog 104=true:=⟨by kernel_rfl,by kernel_rfl⟩
theorem d3t:a4G Tryz.prog 124=some b9h∧a2v Tryz.prog 124=true:=⟨by kernel_rfl,by kernel_rfl⟩
theorem d3u:a4G Tryz.prog 125=some b9i∧a2v Tryz.prog 125=true:=⟨by kernel_rfl,by kernel_rfl⟩
theorem d3v:a4G Tryz.prog 129=some c2k∧a2v Tryz.prog 129=true:=⟨by kernel_rfl,by kernel_rfl⟩
theorem d3w:a4G Tryz.prog 131=some ti1106∧a2v Tryz.prog 131=true:=⟨by kernel_rfl,by kernel_rfl⟩
theorem d3x:a4G Tryz.prog 156=some b9e∧a2v Tryz.prog 156=true:=⟨by kernel_rfl,by kernel_rfl⟩
theorem c4q:TabOK Tryz.prog tab:=c1h (show b0I Tryz.prog 0 d3X from ⟨tk3,tk4,tk5,tk9,d6y,d6z,d6A,d6B,d6C,d6D,d6E,d6F,d6G,d6H,d6I,d6J,d6K,d6L,d6M,d6N,d6O,d6P,d6Q,d6R,d6S,d6T,d6U,d3r,d3s,d3t,d3u,d3v,d3w,d3x,trivial⟩)
theorem d3T:Tryz.prog.follows .mixedOrders=true:=by kernel_rfl
def fi_ (f:Func) (n:Nat) (k z b:List Nat) (s:Bool):FnI:=⟨f.body.getD .skip,f.results.toList,⟨n,k,z,b⟩,s⟩
noncomputable def i6:=fi_ Tryz.f6 15 [0,1,4,8] [] [] false
noncomputable def i7:=fi_ Tryz.f7 16 [0,2,3] [] [] true
noncomputable def i8:=fi_ Tryz.f8 33 [0,1,4,11] [] [] false
noncomputable def i9:=fi_ Tryz.f9 18 [0,2,3,7] [4] [] false
noncomputable def i10:=fi_ Tryz.f10 147 [0,1,3,4,5,6,18,28,52,57,62,67,72,77,82,87,99,104,116,119,132,138] [6,45,124,129,135,141] [] true
noncomputable def i11:=fi_ Tryz.f11 52 [0,2,3,4,5,10,24,25,26] [3,43,48] [] true
noncomputable def i12:=fi_ Tryz.f12 79 [0,1,2,3,4,5,7,9,10,11,15,30,31,32,33,50,51,52,53,62] [1,7,9,19] [] true
noncomputable def i13:=fi_ Tryz.f13 28 [0,1,2,3,4,5,6,13] [1] [] true
noncomputable def i14:=fi_ Tryz.f14 24 [0,1,2,6,7,11] [21] [] false
noncomputable def i15:=fi_ Tryz.f15 21 [0,2,3,4,8] [] [] false
noncomputable def i16:=fi_ Tryz.f16 114 [0,2,3,4,5,6,7,8,9,12,18,28,40,60,83,109] [70,90] [107] true
noncomputable def i17:=fi_ Tryz.f17 66 [0,2,3,4,6,7,9,10,11,14,22,28,51,61] [5,8,10] [] true
noncomputable def i18:=fi_ Tryz.f18 24 [0,1,2,3,4] [2,3] [] false
noncomputable def i19:=fi_ Tryz.f19 20 [0,1,3,4,5,6,7,14] [3] [] true
noncomputable def i20:=fi_ Tryz.f20 20 [0,1,3,4,5,6,7,14] [3] [] true
noncomputable def i22:=fi_ Tryz.f22 39 [0,2,3,4,5,6,13,17] [6] [] true
noncomputable def i24:=fi_ Tryz.f24 31 [0,2,3,4,6,7,11,21] [5,28] [] true
noncomputable def i25:=fi_ Tryz.f25 26 [0,1,4,5,10,14,25] [] [] false
noncomputable def i26:=fi_ Tryz.f26 16 [0,1,4,6,11] [] [] false
noncomputable def i28:=fi_ Tryz.f28 38 [0,1,4,5,6,15,19] [] [] true
noncomputable def i29:=fi_ Tryz.f29 20 [0,2,3,4,6,11] [17] [] true
noncomputable def i30:=fi_ Tryz.f30 99 [0,1,4,5,6,7,8,9,10,11,12,13,14,30,52,53,54] [90,95] [] true
noncomputable def i31:=fi_ Tryz.f31 13 [0,2] [] [] false
noncomputable def i32:=fi_ Tryz.f32 12 [0,1,4] [] [] false
noncomputable def i33:=fi_ Tryz.f33 21 [0,1,4,5,6,12] [17] [] false
noncomputable def i34:=fi_ Tryz.f34 49 [0,2,3,4] [4,15,21,24,1000003] [] true
noncomputable def i35:=fi_ Tryz.f35 56 [0,1,2,3,5,8,13,29,31,32,33,34,44,55] [1,5] [] false
noncomputable def i36:=fi_ Tryz.f36 23 [0,1,2,6,7,12] [20] [] false
noncomputable def i37:=fi_ Tryz.f37 39 [0,1,2,3,4,5,9] [] [] true
noncomputable def i38:=fi_ Tryz.f38 21 [0,2,3,5,6,7,8,9] [] [] false
noncomputable def i39:=fi_ Tryz.f39 131 [0,1,2,3,4,5,6,7,8,9,10,13,18,34,39,57,67,82,112,125] [1] [] true
noncomputable def i40:=fi_ Tryz.f40 8 [0,1,4] [] [] false
noncomputable def i41:=fi_ Tryz.f41 19 [0,2,3,5,6,7,8,9] [] [] false
noncomputable def i42:=fi_ Tryz.f42 39 [0,1,4,5,18] [] [] false
noncomputable def i43:=fi_ Tryz.f43 37 [0,2,3,4,5,22] [3] [] true
noncomputable def i44:=fi_ Tryz.f44 47 [0,1,2,4,5,6,7,20,25] [] [] true
noncomputable def i45:=fi_ Tryz.f45 111 [0,2,3,4,5,6,7,8,9,10,11,12,14,34,66,79] [10,52,89] [] true
noncomputable def i46:=fi_ Tryz.f46 26 [0,1,4,5,10,14,25] [] [] false
noncomputable def i47:=fi_ Tryz.f47 27 [0,1,4,5,10,14,26] [] [] false
noncomputable def i49:=fi_ Tryz.f49 25 [0,2,3,5,6,7,8,9,14] [6,18,21] [] true
noncomputable def i50:=fi_ Tryz.f50 38 [0,1,2,3,8,9,10,11,17,25] [31] [] true
noncomputable def i51:=fi_ Tryz.f51 64 [0,1,2,3,4,7,13,18,33,63] [1,3] [] false
noncomputable def i52:=fi_ Tryz.f52 191 [0,1,4,6,7,8,9,33,34,35,36,52,53,54,62,145,146,147,155] [33,69,162] [] false
noncomputable def i53:=fi_ Tryz.f53 23 [0,1,2,6,7,12] [20] [] false
noncomputable def i54:=fi_ Tryz.f54 20 [0,2,3,5,6,7,8,9] [] [] false
noncomputable def i55:=fi_ Tryz.f55 25 [0,1,2,3,4,5,6,10] [1] [] true
noncomputable def i56:=fi_ Tryz.f56 18 [0,1,4] [] [] false
noncomputable def i57:=fi_ Tryz.f57 67 [0,2,3,4,5,6,7,10,24,36,62] [] [60] true
noncomputable def i58:=fi_ Tryz.f58 13 [0,1,2,3,4] [] [] true
noncomputable def i59:=fi_ Tryz.f59 147 [0,2,3,4,5,6,7,9,10,31,47,142] [8] [] true
noncomputable def i60:=fi_ Tryz.f60 86 [0,1,2,3,4,5,6] [2,3,1000006] [] true
noncomputable def i62:=fi_ Tryz.f62 98 [0,2,4,5,31,47,57,68,80] [8,13,18,23,28,34,39,44,50,54,60,65,71,76,83,88,93] [] false
noncomputable def i63:=fi_ Tryz.f63 57 [0,1,2,3,4,5,6,16,29,40,48,54,56] [1] [] true
noncomputable def i64:=fi_ Tryz.f64 28 [0,1,2] [1] [] false
noncomputable def i65:=fi_ Tryz.f65 75 [0,1,2,4,5,6,7,8,9,14,22,23,24,25,64,69] [2] [] true
noncomputable def i66:=fi_ Tryz.f66 9 [0,1,4] [] [] false
noncomputable def i67:=fi_ Tryz.f67 6 [0,1,2] [1] [] false
noncomputable def i68:=fi_ Tryz.f68 71 [0,1,2,3,4,5,6,9,16,22,31,56,61,70] [1,3] [] false
noncomputable def i69:=fi_ Tryz.f69 102 [0,1,2,3,4,5,6,35,83] [1,3] [] false
noncomputable def i70:=fi_ Tryz.f70 19 [0,2,3,5,6,7,8,9] [] [] false
noncomputable def i71:=fi_ Tryz.f71 46 [0,1,2,3,4,5,24] [] [] true
noncomputable def i72:=fi_ Tryz.f72 46 [0,1,2,3,4,5,6,7,19] [42] [] true
noncomputable def i73:=fi_ Tryz.f73 40 [0,1,2,3,4,5,6,7,19] [36] [] true
noncomputable def i74:=fi_ Tryz.f74 26 [0,1,4,5,10,14,25] [] [] false
noncomputable def i75:=fi_ Tryz.f75 26 [0,1,4,5,10,14,25] [] [] false
noncomputable def i76:=fi_ Tryz.f76 15 [0,1,2,6] [] [] false
noncomputable def i77:=fi_ Tryz.f77 44 [0,2,3,5,6,9,10,11,12,13,19,28,42] [5] [] false
noncomputable def i78:=fi_ Tryz.f78 26 [0,1,4,5,10,12,13,14,24] [] [] false
noncomputable def i79:=fi_ Tryz.f79 9 [0,1,4] [] [] false
noncomputable def i80:=fi_ Tryz.f80 7 [0,1,2] [1] [] false
noncomputable def i81:=fi_ Tryz.f81 19 [0,1,4,5,7,8,9,16] [] [] false
noncomputable def i82:=fi_ Tryz.f82 68 [0,1,2,3,4,5,6,7,21,25,29,40,48,54,58,67] [1] [] false
noncomputable def i83:=fi_ Tryz.f83 38 [0,1,2,37] [1] [] false
noncomputable def i84:=fi_ Tryz.f84 74 [0,1,2,4,5,6,7,11,15,22,64,69] [2,7] [] false
noncomputable def i85:=fi_ Tryz.f85 12 [0,1,4] [] [] false
noncomputable def i86:=fi_ Tryz.f86 9 [0,1,4] [] [] false
noncomputable def i87:=fi_ Tryz.f87 38 [0,2,4,22,24,25,26,27,36] [] [] true
noncomputable def i88:=fi_ Tryz.f88 8 [0,2,4] [5] [] false
noncomputable def i89:=fi_ Tryz.f89 9 [0,1] [] [] false
noncomputable def i90:=fi_ Tryz.f90 10 [0,1,2,3,4] [2,3] [] false
noncomputable def i91:=fi_ Tryz.f91 8 [0,1,4] [] [] false
noncomputable def i92:=fi_ Tryz.f92 19 [0,1,4,5,7,8,9,16] [] [] false
noncomputable def i93:=fi_ Tryz.f93 14 [0,2] [] [] false
noncomputable def i94:=fi_ Tryz.f94 89 [0,2,3,4,5,6,7,10,14,23,27,54,87] [37] [] true
noncomputable def i95:=fi_ Tryz.f95 8 [0,2] [] [] false
noncomputable def i96:=fi_ Tryz.f96 12 [0,2] [] [] false
noncomputable def i97:=fi_ Tryz.f97 63 [0,1,2,6,7,8,9,13,30,35,54] [] [] false
noncomputable def i98:=fi_ Tryz.f98 8 [0,1,4] [] [] false
noncomputable def i99:=fi_ Tryz.f99 40 [0,2,3,22,26,39] [] [] false
noncomputable def d1E:FnI:=⟨Tryz.f100.body.getD .skip,Tryz.f100.results.toList,⟨53,[0,1,2,3,8,9,14,34],[],[]⟩,false⟩
noncomputable def d1F:FnI:=⟨Tryz.f101.body.getD .skip,Tryz.f101.results.toList,⟨220,[0,1,2,3,4,10,11,12,13,14,15,16,17,18,19,20,21,22,23,24,28,33,50,58,80,85,103,110,140,151,171,185,199,213],[],[]⟩,false⟩
noncomputable def d1G:FnI:=⟨Tryz.f103.body.getD .skip,Tryz.f103.results.toList,⟨17,[0,2],[],[]⟩,false⟩
noncomputable def d1H:FnI:=⟨Tryz.f104.body.getD .skip,Tryz.f104.results.toList,⟨13,[0,2],[],[]⟩,false⟩
noncomputable def d1I:FnI:=⟨Tryz.f105.body.getD .skip,Tryz.f105.results.toList,⟨58,[0,1,2,3,4,10,11,20,23],[],[]⟩,false⟩
noncomputable def d1J:FnI:=⟨Tryz.f106.body.getD .skip,Tryz.f106.results.toList,⟨9,[0,2],[],[]⟩,false⟩
noncomputable def d1K:FnI:=⟨Tryz.f107.body.getD .skip,Tryz.f107.results.toList,⟨38,[0,1,2,3,10,13],[],[]⟩,false⟩
noncomputable def d1L:FnI:=⟨Tryz.f123.body.getD .skip,Tryz.f123.results.toList,⟨16,[0,1,4],[],[]⟩,false⟩
noncomputable def d1M:FnI:=⟨Tryz.f124.body.getD .skip,Tryz.f124.results.toList,⟨16,[0,1],[],[]⟩,false⟩
noncomputable def d1N:FnI:=⟨Tryz.f125.body.getD .skip,Tryz.f125.results.toList,⟨21,[0,1],[],[]⟩,false⟩
noncomputable def d1O:FnI:=⟨Tryz.f126.body.getD .skip,Tryz.f126.results.toList,⟨28,[0,4,5,23],[],[]⟩,false⟩
noncomputable def d1P:FnI:=⟨Tryz.f127.body.getD .skip,Tryz.f127.results.toList,⟨10,[0,1],[],[]⟩,false⟩
noncomputable def d1Q:FnI:=⟨Tryz.f128.body.getD .skip,Tryz.f128.results.toList,⟨22,[0,1,4,5,17],[],[]⟩,false⟩
noncomputable def d1R:FnI:=⟨Tryz.f129.body.getD .skip,Tryz.f129.results.toList,⟨42,[0,1,4,5,22],[],[]⟩,false⟩
noncomputable def d1A:List (Nat × FnI):=[(6,i6),(7,i7),(8,i8),(9,i9),(10,i10),(11,i11),(12,i12),(13,i13),(14,i14),(15,i15),(16,i16),(17,i17),(18,i18),(19,i19),(20,i20),(22,i22),(24,i24),(25,i25),(26,i26),(28,i28),(29,i29),(30,i30),(31,i31),(32,i32),(33,i33),(34,i34),(35,i35),(36,i36),(37,i37),(38,i38),(39,i39),(40,i40),(41,i41),(42,i42),(43,i43),(44,i44),(45,i45),(46,i46),(47,i47),(49,i49),(50,i50),(51,i51),(52,i52),(53,i53),(54,i54),(55,i55),(56,i56),(57,i57),(58,i58),(59,i59),(60,i60),(62,i62),(63,i63),(64,i64),(65,i65),(66,i66),(67,i67),(68,i68),(69,i69),(70,i70),(71,i71),(72,i72),(73,i73),(74,i74),(75,i75),(76,i76),(77,i77),(78,i78),(79,i79),(80,i80),(81,i81),(82,i82),(83,i83),(84,i84),(85,i85),(86,i86),(87,i87),(88,i88),(89,i89),(90,i90),(91,i91),(92,i92),(93,i93),(94,i94),(95,i95),(96,i96),(97,i97),(98,i98),(99,i99),(100,d1E),(101,d1F),(103,d1G),(104,d1H),(105,d1I),(106,d1J),(107,d1K),(123,d1L),(124,d1M),(125,d1N),(126,d1O),(127,d1P),(128,d1Q),(129,d1R)]
noncomputable def Fs:FuncId→Option FnI:=c6T d1A
theorem fk6:FnOK Tryz.prog 6 i6 := .of Tryz.func6 (by kernel_rfl) (by kernel_rfl) (by kernel_rfl) Tryz.call6
theorem fk7:FnOK Tryz.prog 7 i7 := .of Tryz.func7 (by kernel_rfl) (by kernel_rfl) (by kernel_rfl) Tryz.call7
theorem fk8:FnOK Tryz.prog 8 i8 := .of Tryz.func8 (by kernel_rfl) (by kernel_rfl) (by kernel_rfl) Tryz.call8
theorem fk9:FnOK Tryz.prog 9 i9 := .of Tryz.func9 (by kernel_rfl) (by kernel_rfl) (by kernel_rfl) Tryz.call9
theorem d4m:FnOK Tryz.prog 10 i10 := .of Tryz.func10 (by kernel_rfl) (by kernel_rfl) (by kernel_rfl) Tryz.call10
theorem d4o:FnOK Tryz.prog 11 i11 := .of Tryz.func11 (by kernel_rfl) (by kernel_rfl) (by kernel_rfl) Tryz.call11
theorem d4p:FnOK Tryz.prog 12 i12 := .of Tryz.func12 (by kernel_rfl) (by kernel_rfl) (by kernel_rfl) Tryz.call12
theorem d4q:FnOK Tryz.prog 13 i13 := .of Tryz.func13 (by kernel_rfl) (by kernel_rfl) (by kernel_rfl) Tryz.call13
theorem d4r:FnOK Tryz.prog 14 i14 := .of Tryz.func14 (by kernel_rfl) (by kernel_rfl) (by kernel_rfl) Tryz.call14
theorem d4s:FnOK Tryz.prog 15 i15 := .of Tryz.func15 (by kernel_rfl) (by kernel_rfl) (by kernel_rfl) Tryz.call15
theorem d3P:FnOK Tryz.prog 16 i16 := .of Tryz.func16 (by kernel_rfl) (by kernel_rfl) (by kernel_rfl) Tryz.call16
theorem d4t:FnOK Tryz.prog 17 i17 := .of Tryz.func17 (by kernel_rfl) (by kernel_rfl) (by kernel_rfl) Tryz.call17
theorem d4u:FnOK Tryz.prog 18 i18 := .of Tryz.func18 (by kernel_rfl) (by kernel_rfl) (by kernel_rfl) Tryz.call18
theorem d4v:FnOK Tryz.prog 19 i19 := .of Tryz.func19 (by kernel_rfl) (by kernel_rfl) (by kernel_rfl) Tryz.call19
theorem d4w:FnOK Tryz.prog 20 i20 := .of Tryz.func20 (by kernel_rfl) (by kernel_rfl) (by kernel_rfl) Tryz.call20
theorem d4x:FnOK Tryz.prog 22 i22 := .of Tryz.func22 (by kernel_rfl) (by kernel_rfl) (by kernel_rfl) Tryz.call22
theorem d4y:FnOK Tryz.prog 24 i24 := .of Tryz.func24 (by kernel_rfl) (by kernel_rfl) (by kernel_rfl) Tryz.call24
theorem d4z:FnOK Tryz.prog 25 i25 := .of Tryz.func25 (by kernel_rfl) (by kernel_rfl) (by kernel_rfl) Tryz.call25
theorem d4A:FnOK Tryz.prog 26 i26 := .of Tryz.func26 (by kernel_rfl) (by kernel_rfl) (by kernel_rfl) Tryz.call26
theorem d4C:FnOK Tryz.prog 28 i28 := .of Tryz.func28 (by kernel_rfl) (by kernel_rfl) (by kernel_rfl) Tryz.call28
theorem d4D:FnOK Tryz.prog 29 i29 := .of Tryz.func29 (by kernel_rfl) (by kernel_rfl) (by kernel_rfl) Tryz.call29
theorem d4E:FnOK Tryz.prog 30 i30 := .of Tryz.func30 (by kernel_rfl) (by kernel_rfl) (by kernel_rfl) Tryz.call30
theorem d4F:FnOK Tryz.prog 31 i31 := .of Tryz.func31 (by kernel_rfl) (by kernel_rfl) (by kernel_rfl) Tryz.call31
theorem d4G:FnOK Tryz.prog 32 i32 := .of Tryz.func32 (by kernel_rfl) (by kernel_rfl) (by kernel_rfl) Tryz.call32
theorem d4H:FnOK Tryz.prog 33 i33 := .of Tryz.func33 (by kernel_rfl) (by kernel_rfl) (by kernel_rfl) Tryz.call33
theorem d4I:FnOK Tryz.prog 34 i34 := .of Tryz.func34 (by kernel_rfl) (by kernel_rfl) (by kernel_rfl) Tryz.call34
theorem d4J:FnOK Tryz.prog 35 i35 := .of Tryz.func35 (by kernel_rfl) (by kernel_rfl) (by kernel_rfl) Tryz.call35
theorem d4K:FnOK Tryz.prog 36 i36 := .of Tryz.func36 (by kernel_rfl) (by kernel_rfl) (by kernel_rfl) Tryz.call36
theorem d4L:FnOK Tryz.prog 37 i37 := .of Tryz.func37 (by kernel_rfl) (by kernel_rfl) (by kernel_rfl) Tryz.call37
theorem d4M:FnOK Tryz.prog 38 i38 := .of Tryz.func38 (by kernel_rfl) (by kernel_rfl) (by kernel_rfl) Tryz.call38
theorem d4N:FnOK Tryz.prog 39 i39 := .of Tryz.func39 (by kernel_rfl) (by kernel_rfl) (by kernel_rfl) Tryz.call39
theorem d4O:FnOK Tryz.prog 40 i40 := .of Tryz.func40 (by kernel_rfl) (by kernel_rfl) (by kernel_rfl) Tryz.call40
theorem d4P:FnOK Tryz.prog 41 i41 := .of Tryz.func41 (by kernel_rfl) (by kernel_rfl) (by kernel_rfl) Tryz.call41
theorem d4Q:FnOK Tryz.prog 42 i42 := .of Tryz.func42 (by kernel_rfl) (by kernel_rfl) (by kernel_rfl) Tryz.call42
theorem d4R:FnOK Tryz.prog 43 i43 := .of Tryz.func43 (by kernel_rfl) (by kernel_rfl) (by kernel_rfl) Tryz.call43
theorem d4S:FnOK Tryz.prog 44 i44 := .of Tryz.func44 (by kernel_rfl) (by kernel_rfl) (by kernel_rfl) Tryz.call44
theorem d4T:FnOK Tryz.prog 45 i45 := .of Tryz.func45 (by kernel_rfl) (by kernel_rfl) (by kernel_rfl) Tryz.call45
theorem d4U:FnOK Tryz.prog 46 i46 := .of Tryz.func46 (by kernel_rfl) (by kernel_rfl) (by kernel_rfl) Tryz.call46
theorem d4V:FnOK Tryz.prog 47 i47 := .of Tryz.func47 (by kernel_rfl) (by kernel_rfl) (by kernel_rfl) Tryz.call47
theorem d4W:FnOK Tryz.prog 49 i49 := .of Tryz.func49 (by kernel_rfl) (by kernel_rfl) (by kernel_rfl) Tryz.call49
theorem d4X:FnOK Tryz.prog 50 i50 := .of Tryz.func50 (by kernel_rfl) (by kernel_rfl) (by kernel_rfl) Tryz.call50
theorem d4Y:FnOK Tryz.prog 51 i51 := .of Tryz.func51 (by kernel_rfl) (by kernel_rfl) (by kernel_rfl) Tryz.call51
theorem d4Z:FnOK Tryz.prog 52 i52 := .of Tryz.func52 (by kernel_rfl) (by kernel_rfl) (by kernel_rfl) Tryz.call52
theorem d5a:FnOK Tryz.prog 53 i53 := .of Tryz.func53 (by kernel_rfl) (by kernel_rfl) (by kernel_rfl) Tryz.call53
theorem d5b:FnOK Tryz.prog 54 i54 := .of Tryz.func54 (by kernel_rfl) (by kernel_rfl) (by kernel_rfl) Tryz.call54
theorem d5c:FnOK Tryz.prog 55 i55 := .of Tryz.func55 (by kernel_rfl) (by kernel_rfl) (by kernel_rfl) Tryz.call55
theorem d5d:FnOK Tryz.prog 56 i56 := .of Tryz.func56 (by kernel_rfl) (by kernel_rfl) (by kernel_rfl) Tryz.call56
theorem d5e:FnOK Tryz.prog 57 i57 := .of Tryz.func57 (by kernel_rfl) (by kernel_rfl) (by kernel_rfl) Tryz.call57
theorem d5f:FnOK Tryz.prog 58 i58 := .of Tryz.func58 (by kernel_rfl) (by kernel_rfl) (by kernel_rfl) Tryz.call58
theorem d5g:FnOK Tryz.prog 59 i59 := .of Tryz.func59 (by kernel_rfl) (by kernel_rfl) (by kernel_rfl) Tryz.call59
theorem d5h:FnOK Tryz.prog 60 i60 := .of Tryz.func60 (by kernel_rfl) (by kernel_rfl) (by kernel_rfl) Tryz.call60
theorem d5i:FnOK Tryz.prog 62 i62 := .of Tryz.func62 (by kernel_rfl) (by kernel_rfl) (by kernel_rfl) Tryz.call62
theorem d5j:FnOK Tryz.prog 63 i63 := .of Tryz.func63 (by kernel_rfl) (by kernel_rfl) (by kernel_rfl) Tryz.call63
theorem d5k:FnOK Tryz.prog 64 i64 := .of Tryz.func64 (by kernel_rfl) (by kernel_rfl) (by kernel_rfl) Tryz.call64
theorem d5l:FnOK Tryz.prog 65 i65 := .of Tryz.func65 (by kernel_rfl) (by kernel_rfl) (by kernel_rfl) Tryz.call65
theorem d5m:FnOK Tryz.prog 66 i66 := .of Tryz.func66 (by kernel_rfl) (by kernel_rfl) (by kernel_rfl) Tryz.call66
theorem d5o:FnOK Tryz.prog 67 i67 := .of Tryz.func67 (by kernel_rfl) (by kernel_rfl) (by kernel_rfl) Tryz.call67
theorem d5p:FnOK Tryz.prog 68 i68 := .of Tryz.func68 (by kernel_rfl) (by kernel_rfl) (by kernel_rfl) Tryz.call68
theorem d5q:FnOK Tryz.prog 69 i69 := .of Tryz.func69 (by kernel_rfl) (by kernel_rfl) (by kernel_rfl) Tryz.call69
theorem d5r:FnOK Tryz.prog 70 i70 := .of Tryz.func70 (by kernel_rfl) (by kernel_rfl) (by kernel_rfl) Tryz.call70
theorem d5s:FnOK Tryz.prog 71 i71 := .of Tryz.func71 (by kernel_rfl) (by kernel_rfl) (by kernel_rfl) Tryz.call71
theorem d5t:FnOK Tryz.prog 72 i72 := .of Tryz.func72 (by kernel_rfl) (by kernel_rfl) (by kernel_rfl) Tryz.call72
theorem d5u:FnOK Tryz.prog 73 i73 := .of Tryz.func73 (by kernel_rfl) (by kernel_rfl) (by kernel_rfl) Tryz.call73
theorem d5v:FnOK Tryz.prog 74 i74 := .of Tryz.func74 (by kernel_rfl) (by kernel_rfl) (by kernel_rfl) Tryz.call74
theorem d5w:FnOK Tryz.prog 75 i75 := .of Tryz.func75 (by kernel_rfl) (by kernel_rfl) (by kernel_rfl) Tryz.call75
theorem d5x:FnOK Tryz.prog 76 i76 := .of Tryz.func76 (by kernel_rfl) (by kernel_rfl) (by kernel_rfl) Tryz.call76
theorem d5y:FnOK Tryz.prog 77 i77 := .of Tryz.func77 (by kernel_rfl) (by kernel_rfl) (by kernel_rfl) Tryz.call77
theorem d5z:FnOK Tryz.prog 78 i78 := .of Tryz.func78 (by kernel_rfl) (by kernel_rfl) (by kernel_rfl) Tryz.call78
theorem d5A:FnOK Tryz.prog 79 i79 := .of Tryz.func79 (by kernel_rfl) (by kernel_rfl) (by kernel_rfl) Tryz.call79
theorem d5B:FnOK Tryz.prog 80 i80 := .of Tryz.func80 (by kernel_rfl) (by kernel_rfl) (by kernel_rfl) Tryz.call80
theorem d5C:FnOK Tryz.prog 81 i81 := .of Tryz.func81 (by kernel_rfl) (by kernel_rfl) (by kernel_rfl) Tryz.call81
theorem d5D:FnOK Tryz.prog 82 i82 := .of Tryz.func82 (by kernel_rfl) (by kernel_rfl) (by kernel_rfl) Tryz.call82
theorem d5E:FnOK Tryz.prog 83 i83 := .of Tryz.func83 (by kernel_rfl) (by kernel_rfl) (by kernel_rfl) Tryz.call83
theorem d5F:FnOK Tryz.prog 84 i84 := .of Tryz.func84 (by kernel_rfl) (by kernel_rfl) (by kernel_rfl) Tryz.call84
theorem d5G:FnOK Tryz.prog 85 i85 := .of Tryz.func85 (by kernel_rfl) (by kernel_rfl) (by kernel_rfl) Tryz.call85
theorem d5H:FnOK Tryz.prog 86 i86 := .of Tryz.func86 (by kernel_rfl) (by kernel_rfl) (by kernel_rfl) Tryz.call86
theorem d5I:FnOK Tryz.prog 87 i87 := .of Tryz.func87 (by kernel_rfl) (by kernel_rfl) (by kernel_rfl) Tryz.call87
theorem d5J:FnOK Tryz.prog 88 i88 := .of Tryz.func88 (by kernel_rfl) (by kernel_rfl) (by kernel_rfl) Tryz.call88
theorem d5K:FnOK Tryz.prog 89 i89 := .of Tryz.func89 (by kernel_rfl) (by kernel_rfl) (by kernel_rfl) Tryz.call89
theorem d5L:FnOK Tryz.prog 90 i90 := .of Tryz.func90 (by kernel_rfl) (by kernel_rfl) (by kernel_rfl) Tryz.call90
theorem d5M:FnOK Tryz.prog 91 i91 := .of Tryz.func91 (by kernel_rfl) (by kernel_rfl) (by kernel_rfl) Tryz.call91
theorem d5N:FnOK Tryz.prog 92 i92 := .of Tryz.func92 (by kernel_rfl) (by kernel_rfl) (by kernel_rfl) Tryz.call92
theorem d5O:FnOK Tryz.prog 93 i93 := .of Tryz.func93 (by kernel_rfl) (by kernel_rfl) (by kernel_rfl) Tryz.call93
theorem d5P:FnOK Tryz.prog 94 i94 := .of Tryz.func94 (by kernel_rfl) (by kernel_rfl) (by kernel_rfl) Tryz.call94
theorem d5Q:FnOK Tryz.prog 95 i95 := .of Tryz.func95 (by kernel_rfl) (by kernel_rfl) (by kernel_rfl) Tryz.call95
theorem d5R:FnOK Tryz.prog 96 i96 := .of Tryz.func96 (by kernel_rfl) (by kernel_rfl) (by kernel_rfl) Tryz.call96
theorem d5S:FnOK Tryz.prog 97 i97 := .of Tryz.func97 (by kernel_rfl) (by kernel_rfl) (by kernel_rfl) Tryz.call97
theorem d5T:FnOK Tryz.prog 98 i98 := .of Tryz.func98 (by kernel_rfl) (by kernel_rfl) (by kernel_rfl) Tryz.call98
theorem d5U:FnOK Tryz.prog 99 i99 := .of Tryz.func99 (by kernel_rfl) (by kernel_rfl) (by kernel_rfl) Tryz.call99
theorem d1i:FnOK Tryz.prog 100 d1E := .of Tryz.func100 (by kernel_rfl) (by kernel_rfl) (by kernel_rfl) Tryz.call100
theorem d1j:FnOK Tryz.prog 101 d1F := .of Tryz.func101 (by kernel_rfl) (by kernel_rfl) (by kernel_rfl) Tryz.call101
theorem d1k:FnOK Tryz.prog 103 d1G := .of Tryz.func103 (by kernel_rfl) (by kernel_rfl) (by kernel_rfl) Tryz.call103
theorem d1l:FnOK Tryz.prog 104 d1H := .of Tryz.func104 (by kernel_rfl) (by kernel_rfl) (by kernel_rfl) Tryz.call104
theorem d1m:FnOK Tryz.prog 105 d1I := .of Tryz.func105 (by kernel_rfl) (by kernel_rfl) (by kernel_rfl) Tryz.call105
theorem d1o:FnOK Tryz.prog 106 d1J := .of Tryz.func106 (by kernel_rfl) (by kernel_rfl) (by kernel_rfl) Tryz.call106
theorem d1p:FnOK Tryz.prog 107 d1K := .of Tryz.func107 (by kernel_rfl) (by kernel_rfl) (by kernel_rfl) Tryz.call107
theorem d1q:FnOK Tryz.prog 123 d1L := .of Tryz.func123 (by kernel_rfl) (by kernel_rfl) (by kernel_rfl) Tryz.call123
theorem d1r:FnOK Tryz.prog 124 d1M := .of Tryz.func124 (by kernel_rfl) (by kernel_rfl) (by kernel_rfl) Tryz.call124
theorem d1s:FnOK Tryz.prog 125 d1N := .of Tryz.func125 (by kernel_rfl) (by kernel_rfl) (by kernel_rfl) Tryz.call125
theorem d1t:FnOK Tryz.prog 126 d1O := .of Tryz.func126 (by kernel_rfl) (by kernel_rfl) (by kernel_rfl) Tryz.call126
theorem d1u:FnOK Tryz.prog 127 d1P := .of Tryz.func127 (by kernel_rfl) (by kernel_rfl) (by kernel_rfl) Tryz.call127
theorem d1v:FnOK Tryz.prog 128 d1Q := .of Tryz.func128 (by kernel_rfl) (by kernel_rfl) (by kernel_rfl) Tryz.call128
theorem d1w:FnOK Tryz.prog 129 d1R := .of Tryz.func129 (by kernel_rfl) (by kernel_rfl) (by kernel_rfl) Tryz.call129
theorem d1B:b9x Tryz.prog d1A:=⟨fk6,fk7,fk8,fk9,d4m,d4o,d4p,d4q,d4r,d4s,d3P,d4t,d4u,d4v,d4w,d4x,d4y,d4z,d4A,d4C,d4D,d4E,d4F,d4G,d4H,d4I,d4J,d4K,d4L,d4M,d4N,d4O,d4P,d4Q,d4R,d4S,d4T,d4U,d4V,d4W,d4X,d4Y,d4Z,d5a,d5b,d5c,d5d,d5e,d5f,d5g,d5h,d5i,d5j,d5k,d5l,d5m,d5o,d5p,d5q,d5r,d5s,d5t,d5u,d5v,d5w,d5x,d5y,d5z,d5A,d5B,d5C,d5D,d5E,d5F,d5G,d5H,d5I,d5J,d5K,d5L,d5M,d5N,d5O,d5P,d5Q,d5R,d5S,d5T,d5U,d1i,d1j,d1k,d1l,d1m,d1o,d1p,d1q,d1r,d1s,d1t,d1u,d1v,d1w,trivial⟩
def kinZ:List Int:=[0,0,0,0,0,0,0,0,0,4,0,0,0,0,0,0,0,0,0,0,0,0,0,0,0,0,0,0,0,0,0,0,4,0,0,0,0,0,0,0,0,0,0,0,0,0,0,0,1,1,1,1,1,1,1,1,1,1,0,0,0,0,0,0,0,2,2,2,2,2,2,2,2,2,2,2,2,2,2,2,2,2,2,2,2,2,2,2,2,2,2,0,0,0,0,0,0,2,2,2,2,2,2,2,2,2,2,2,2,2,2,2,2,2,2,2,2,2,2,2,2,2,2,0,0,0,0,0,0,0,0,0,0,0,0,0,0,0,0,0,0,0,0,0,0,0,0,0,0,0,0,0,0,0,0,0,0,0,0,0,0,0,0,0,0,0,0,0,0,0,0,0,0,0,0,0,0,0,0,0,0,0,0,0,0,0,0,0,0,0,0,0,0,0,0,0,0,0,0,0,0,0,0,0,0,0,0,0,0,0,0,0,0,0,0,0,0,0,0,0,0,0,0,0,0,0,0,0,0,0,0,0,0,0,0,0,0,0,0,0,0,0,0,0,0,0,0,0,0,0,0,0,0,0,0,0]
def kin:List D:=kinZ.map fun z => .int .u8 z
noncomputable def gl:Nat→Option D:=fun i=>if i=0 then some (.fptr kin) else none
abbrev b7v:Nat:=102
theorem c6O (vs:Array Value) (w:World):(callFunc 102 vs).run Tryz.prog w=((Extern.BytealgCompare.compare vs).run Tryz.prog w).andThen fun v w' => .ok (.value v) w':=run_callFunc_extern Tryz.func102 (by kernel_rfl) (by kernel_rfl) (by kernel_rfl) (by kernel_rfl) vs w
theorem b9S {args:List D} {h h':Hp} {d:D} (hd:c8B args h=some (d,h')) {g:Gh} {vs:List Value} (hi:Inv g h) (hr:RepL g vs args):a4M Tryz.prog 102 vs g h' d:=by
 unfold c8B at hd
 split at hd
 ·injection hd with hd
  injection hd with h1 h2
  subst h1;subst h2
  exact b6I c6O hi hr
 ·cases hd
noncomputable def xt:a1A:=fun f args h=>if f=b7v then c8B args h else none
theorem d6Y (X:Cx):a2z Tryz.prog X xt:=fun f args h d h' hd g vs hi hgl hr=>by
 unfold xt at hd
 split at hd
 ·rename_i hf
  subst hf
  exact b9S hd hi hr
 ·skip
  cases hd
noncomputable def X:Cx:=⟨tab,gl,xt⟩
noncomputable def R:a1A:=run X Fs
theorem er (fi:FnI) {f:FuncId} {args:List D} {h:Hp} {x:Option (D × Hp)} (hf:Fs f=some fi) (hx:fnR X R a0P fi args h=x):R f args h=x:=(c2c hf args h).trans hx
theorem d3J:a2z Tryz.prog X R:=c2d (X:=X) c4q d3T (d6Y X) (b7E d1A d1B)
theorem d6W (a b:List UInt8) (h:Hp):R b7v [.str a,.str b] h=some (.int .i64 (Lib.compareBytes a b),h):=(b5b (X:=X) (F:=Fs) (by kernel_rfl) _ _).trans (by simp [X,xt,c8B])
end Go.Proofs.YtjmndhbabkjebaaGreatDoor
