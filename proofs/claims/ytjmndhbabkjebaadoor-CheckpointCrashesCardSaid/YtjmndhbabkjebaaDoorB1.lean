/- The tables of this seat: its types, and how its functions are carried out on data. -/
import Derived.Test.YtjmndhbabkjebaaDoorPiW
import Derived.Test.YtjmndhbabkjebaaDoorChecked
import Derived.KernelRfl
set_option linter.unusedSimpArgs false
set_option linter.unusedVariables false
set_option linter.unnecessarySimpa false
namespace Go.Proofs.YtjmndhbabkjebaaDoor
open Go.Eng Go.Pi
abbrev ty3:Nat:=3
abbrev ty4:Nat:=4
abbrev ty5:Nat:=5
abbrev ty9:Nat:=9
abbrev a0G:Nat:=22
abbrev b8X:Nat:=23
abbrev a0N:Nat:=27
abbrev a1N:Nat:=28
abbrev a0m:Nat:=30
abbrev a4c:Nat:=31
abbrev a4d:Nat:=32
abbrev b0J:Nat:=35
abbrev a1f:Nat:=44
abbrev a9P:Nat:=46
abbrev a2n:Nat:=57
abbrev a1P:Nat:=58
abbrev a1m:Nat:=59
abbrev a0F:Nat:=61
abbrev a0P:Nat:=63
abbrev a1z:Nat:=66
abbrev a4b:Nat:=78
abbrev a1T:Nat:=80
abbrev a1F:Nat:=84
abbrev a1g:Nat:=89
abbrev a2M:Nat:=94
abbrev b8W:Nat:=105
abbrev a5r:Nat:=106
abbrev a0t:Nat:=110
abbrev a5s:Nat:=111
abbrev a3u:Nat:=121
abbrev a1q:Nat:=123
abbrev b2q:Nat:=133
abbrev a5M:Nat:=9
abbrev a7t:Nat:=19
abbrev c1g:Nat:=5
abbrev a5B:Nat:=6
abbrev a6H:Nat:=7
abbrev a5g:Nat:=8
abbrev a7s:Nat:=10
abbrev c6h:Nat:=12
abbrev b1L:Nat:=13
abbrev a9h:Nat:=14
abbrev b1M:Nat:=15
abbrev b4J:Nat:=17
abbrev b4K:Nat:=18
abbrev b1A:Nat:=20
abbrev a9i:Nat:=21
abbrev a3p:Nat:=22
abbrev b1E:Nat:=23
abbrev b1N:Nat:=24
abbrev a5h:Nat:=26
abbrev c6i:Nat:=27
abbrev c4p:Nat:=28
abbrev a5U:Nat:=29
abbrev a4w:Nat:=30
abbrev a9g:Nat:=31
abbrev a3E:Nat:=32
abbrev b1F:Nat:=33
abbrev b4L:Nat:=34
abbrev a9j:Nat:=35
abbrev a3N:Nat:=36
abbrev b1O:Nat:=37
abbrev c6j:Nat:=38
abbrev c6k:Nat:=39
abbrev c4q:Nat:=40
abbrev c4r:Nat:=41
abbrev a8Z:Nat:=42
abbrev b1B:Nat:=43
abbrev b1C:Nat:=44
abbrev b4v:Nat:=45
abbrev a9a:Nat:=46
abbrev b4M:Nat:=47
abbrev a9f:Nat:=48
abbrev c4s:Nat:=49
abbrev a7r:Nat:=50
abbrev a9b:Nat:=51
abbrev b4w:Nat:=52
abbrev b4x:Nat:=53
abbrev a9c:Nat:=54
abbrev b4t:Nat:=55
abbrev a5L:Nat:=56
abbrev c4t:Nat:=57
abbrev b4y:Nat:=58
abbrev b4u:Nat:=59
abbrev a9d:Nat:=60
abbrev a6F:Nat:=61
abbrev b4z:Nat:=62
abbrev b4A:Nat:=63
abbrev b4B:Nat:=64
abbrev b4C:Nat:=65
abbrev b1D:Nat:=66
abbrev b8q:Nat:=67
abbrev a6G:Nat:=68
abbrev a5K:Nat:=69
abbrev b4E:Nat:=71
abbrev a9e:Nat:=72
abbrev b4F:Nat:=89
abbrev b4G:Nat:=90
abbrev b4H:Nat:=91
abbrev b1G:Nat:=92
abbrev b1H:Nat:=93
abbrev b1I:Nat:=94
abbrev a5f:Nat:=95
noncomputable def ti3:TI:=⟨.int .i64,1,8,[.int .i64 0],[]⟩
noncomputable def ti4:TI:=⟨.bool,1,1,[.bool false],[]⟩
noncomputable def ti5:TI:=⟨.int .u8,1,1,[.int .u8 0],[]⟩
noncomputable def ti9:TI:=⟨.str,1,16,[.str []],[]⟩
noncomputable def ti22:TI:=⟨.sl 5,1,24,[.nils],[]⟩
noncomputable def b8U:TI:=⟨.int .u16,1,2,[.int .u16 0],[]⟩
noncomputable def b6i:TI:=⟨.sl 44,1,24,[.nils],[]⟩
noncomputable def c0N:TI:=⟨.sl 63,1,24,[.nils],[]⟩
noncomputable def ti1197:TI:=⟨.st [(3,0,1),(27,1,1),(28,2,1)],3,56,[.int .i64 0,.nils,.nils],[]⟩
noncomputable def b6m:TI:=⟨.sl 30,1,24,[.nils],[]⟩
noncomputable def c4F:TI:=⟨.sl 3,1,24,[.nils],[]⟩
noncomputable def c8e:TI:=⟨.int .i64,1,8,[.int .i64 0],[]⟩
noncomputable def b6j:TI:=⟨.st [(3,0,1),(3,1,1)],2,16,[.int .i64 0,.int .i64 0],[]⟩
noncomputable def ti80:TI:=⟨.st [(22,0,1),(3,1,1)],2,32,[.nils,.int .i64 0],[]⟩
noncomputable def b8V:TI:=⟨.arr 3 3,3,24,[.int .i64 0,.int .i64 0,.int .i64 0],[]⟩
noncomputable def c7l:TI:=⟨.sl 66,1,24,[.nils],[]⟩
noncomputable def c4E:TI:=⟨.sl 110,1,24,[.nils],[]⟩
noncomputable def ti31:TI:=⟨.st [(3,0,1),(3,1,1),(3,2,1),(3,3,1),(58,4,1),(3,5,1),(3,6,1),(9,7,1),(9,8,1),(59,9,1)],10,128,[.int .i64 0,.int .i64 0,.int .i64 0,.int .i64 0,.nils,.int .i64 0,.int .i64 0,.str [],.str [],.nils],[]⟩
noncomputable def c7m:TI:=⟨.st [(9,0,1),(61,1,10)],11,144,[.str [],.int .i64 0,.int .i64 0,.int .i64 0,.int .i64 0,.nils,.int .i64 0,.int .i64 0,.str [],.str [],.nils],[]⟩
noncomputable def c7o:TI:=⟨.st [(3,0,1),(3,1,1),(9,2,1)],3,32,[.int .i64 0,.int .i64 0,.str []],[]⟩
noncomputable def b8S:TI:=⟨.ptr 80,1,8,[.nilp],[("logtide/event.count",some 89),("logtide/event.number",some 90),("logtide/event.text",some 91)]⟩
noncomputable def ti1101:TI:=⟨.st [(22,0,1)],1,24,[.nils],[]⟩
noncomputable def b8R:TI:=⟨.int .u64,1,8,[.int .u64 0],[]⟩
noncomputable def ti1223:TI:=⟨.st [(22,0,1),(4,1,1)],2,32,[.nils,.bool false],[]⟩
noncomputable def c8f:TI:=⟨.sl 9,1,24,[.nils],[]⟩
noncomputable def b6k:TI:=⟨.ptr 3,1,8,[.nilp],[]⟩
noncomputable def b6l:TI:=⟨.sl 105,1,24,[.nils],[]⟩
noncomputable def ti109:TI:=⟨.st [(9,0,1),(9,1,1)],2,32,[.str [],.str []],[]⟩
noncomputable def c4a:TI:=⟨.int .u64,1,8,[.int .u64 0],[]⟩
noncomputable def b8T:TI:=⟨.ptr 123,1,8,[.nilp],[("logtide/event.count",some 92),("logtide/event.number",some 93),("logtide/event.take",some 95),("logtide/event.text",some 94)]⟩
noncomputable def ti1106:TI:=⟨.st [(22,0,1),(4,1,1)],2,32,[.nils,.bool false],[]⟩
noncomputable def b6h:TI:=⟨.arr 256 5,256,256,[.int .u8 0,.int .u8 0,.int .u8 0,.int .u8 0,.int .u8 0,.int .u8 0,.int .u8 0,.int .u8 0,.int .u8 0,.int .u8 0,.int .u8 0,.int .u8 0,.int .u8 0,.int .u8 0,.int .u8 0,.int .u8 0,.int .u8 0,.int .u8 0,.int .u8 0,.int .u8 0,.int .u8 0,.int .u8 0,.int .u8 0,.int .u8 0,.int .u8 0,.int .u8 0,.int .u8 0,.int .u8 0,.int .u8 0,.int .u8 0,.int .u8 0,.int .u8 0,.int .u8 0,.int .u8 0,.int .u8 0,.int .u8 0,.int .u8 0,.int .u8 0,.int .u8 0,.int .u8 0,.int .u8 0,.int .u8 0,.int .u8 0,.int .u8 0,.int .u8 0,.int .u8 0,.int .u8 0,.int .u8 0,.int .u8 0,.int .u8 0,.int .u8 0,.int .u8 0,.int .u8 0,.int .u8 0,.int .u8 0,.int .u8 0,.int .u8 0,.int .u8 0,.int .u8 0,.int .u8 0,.int .u8 0,.int .u8 0,.int .u8 0,.int .u8 0,.int .u8 0,.int .u8 0,.int .u8 0,.int .u8 0,.int .u8 0,.int .u8 0,.int .u8 0,.int .u8 0,.int .u8 0,.int .u8 0,.int .u8 0,.int .u8 0,.int .u8 0,.int .u8 0,.int .u8 0,.int .u8 0,.int .u8 0,.int .u8 0,.int .u8 0,.int .u8 0,.int .u8 0,.int .u8 0,.int .u8 0,.int .u8 0,.int .u8 0,.int .u8 0,.int .u8 0,.int .u8 0,.int .u8 0,.int .u8 0,.int .u8 0,.int .u8 0,.int .u8 0,.int .u8 0,.int .u8 0,.int .u8 0,.int .u8 0,.int .u8 0,.int .u8 0,.int .u8 0,.int .u8 0,.int .u8 0,.int .u8 0,.int .u8 0,.int .u8 0,.int .u8 0,.int .u8 0,.int .u8 0,.int .u8 0,.int .u8 0,.int .u8 0,.int .u8 0,.int .u8 0,.int .u8 0,.int .u8 0,.int .u8 0,.int .u8 0,.int .u8 0,.int .u8 0,.int .u8 0,.int .u8 0,.int .u8 0,.int .u8 0,.int .u8 0,.int .u8 0,.int .u8 0,.int .u8 0,.int .u8 0,.int .u8 0,.int .u8 0,.int .u8 0,.int .u8 0,.int .u8 0,.int .u8 0,.int .u8 0,.int .u8 0,.int .u8 0,.int .u8 0,.int .u8 0,.int .u8 0,.int .u8 0,.int .u8 0,.int .u8 0,.int .u8 0,.int .u8 0,.int .u8 0,.int .u8 0,.int .u8 0,.int .u8 0,.int .u8 0,.int .u8 0,.int .u8 0,.int .u8 0,.int .u8 0,.int .u8 0,.int .u8 0,.int .u8 0,.int .u8 0,.int .u8 0,.int .u8 0,.int .u8 0,.int .u8 0,.int .u8 0,.int .u8 0,.int .u8 0,.int .u8 0,.int .u8 0,.int .u8 0,.int .u8 0,.int .u8 0,.int .u8 0,.int .u8 0,.int .u8 0,.int .u8 0,.int .u8 0,.int .u8 0,.int .u8 0,.int .u8 0,.int .u8 0,.int .u8 0,.int .u8 0,.int .u8 0,.int .u8 0,.int .u8 0,.int .u8 0,.int .u8 0,.int .u8 0,.int .u8 0,.int .u8 0,.int .u8 0,.int .u8 0,.int .u8 0,.int .u8 0,.int .u8 0,.int .u8 0,.int .u8 0,.int .u8 0,.int .u8 0,.int .u8 0,.int .u8 0,.int .u8 0,.int .u8 0,.int .u8 0,.int .u8 0,.int .u8 0,.int .u8 0,.int .u8 0,.int .u8 0,.int .u8 0,.int .u8 0,.int .u8 0,.int .u8 0,.int .u8 0,.int .u8 0,.int .u8 0,.int .u8 0,.int .u8 0,.int .u8 0,.int .u8 0,.int .u8 0,.int .u8 0,.int .u8 0,.int .u8 0,.int .u8 0,.int .u8 0,.int .u8 0,.int .u8 0,.int .u8 0,.int .u8 0,.int .u8 0,.int .u8 0,.int .u8 0,.int .u8 0,.int .u8 0,.int .u8 0,.int .u8 0,.int .u8 0,.int .u8 0,.int .u8 0,.int .u8 0,.int .u8 0,.int .u8 0,.int .u8 0,.int .u8 0,.int .u8 0,.int .u8 0,.int .u8 0,.int .u8 0,.int .u8 0,.int .u8 0,.int .u8 0,.int .u8 0],[]⟩
noncomputable def c8d:List (Option TI):=[none,none,none,some ti3,some ti4,some ti5,none,none,none,some ti9,none,none,none,none,none,none,none,none,none,none,none,none,some ti22,some b8U,none,none,none,some b6i,some c0N,none,some ti1197,some b6m,some c4F,none,none,some c8e,none,none,none,none,none,none,none,none,some b6j,none,some ti80,none,none,none,none,none,none,none,none,none,none,some b8V,some c7l,some c4E,none,some ti31,none,some c7m,none,none,some c7o,none,none,none,none,none,none,none,none,none,none,none,some b8S,none,some ti1101,none,none,none,some b8R,none,none,none,none,some ti1223,none,none,none,none,some c8f,none,none,none,none,none,none,none,none,none,none,some b6k,some b6l,none,none,none,some ti109,some c4a,none,none,none,none,none,none,none,none,none,some b8T,none,some ti1106,none,none,none,none,none,none,none,none,none,some b6h]
noncomputable def tab:Tab:=c0L c8d
theorem tk3:a3I Tryd.prog 3=some ti3∧a1U Tryd.prog 3=true:=⟨by kernel_rfl,by kernel_rfl⟩
theorem tk4:a3I Tryd.prog 4=some ti4∧a1U Tryd.prog 4=true:=⟨by kernel_rfl,by kernel_rfl⟩
theorem tk5:a3I Tryd.prog 5=some ti5∧a1U Tryd.prog 5=true:=⟨by kernel_rfl,by kernel_rfl⟩
theorem tk9:a3I Tryd.prog 9=some ti9∧a1U Tryd.prog 9=true:=⟨by kernel_rfl,by kernel_rfl⟩
theorem d0b:a3I Tryd.prog 22=some ti22∧a1U Tryd.prog 22=true:=⟨by kernel_rfl,by kernel_rfl⟩
theorem d0c:a3I Tryd.prog 23=some b8U∧a1U Tryd.prog 23=true:=⟨by kernel_rfl,by kernel_rfl⟩
theorem d0d:a3I Tryd.prog 27=some b6i∧a1U Tryd.prog 27=true:=⟨by kernel_rfl,by kernel_rfl⟩
theorem d0e:a3I Tryd.prog 28=some c0N∧a1U Tryd.prog 28=true:=⟨by kernel_rfl,by kernel_rfl⟩
theorem d0f:a3I Tryd.prog 30=some ti1197∧a1U Tryd.prog 30=true:=⟨by kernel_rfl,by kernel_rfl⟩
theorem d0g:a3I Tryd.prog 31=some b6m∧a1U Tryd.prog 31=true:=⟨by kernel_rfl,by kernel_rfl⟩
theorem d0h:a3I Tryd.prog 32=some c4F∧a1U Tryd.prog 32=true:=⟨by kernel_rfl,by kernel_rfl⟩
theorem d0i:a3I Tryd.prog 35=some c8e∧a1U Tryd.prog 35=true:=⟨by kernel_rfl,by kernel_rfl⟩
theorem d0j:a3I Tryd.prog 44=some b6j∧a1U Tryd.prog 44=true:=⟨by kernel_rfl,by kernel_rfl⟩
theorem d0k:a3I Tryd.prog 46=some ti80∧a1U Tryd.prog 46=true:=⟨by kernel_rfl,by kernel_rfl⟩
theorem d0l:a3I Tryd.prog 57=some b8V∧a1U Tryd.prog 57=true:=⟨by kernel_rfl,by kernel_rfl⟩
theorem d0m:a3I Tryd.prog 58=some c7l∧a1U Tryd.prog 58=true:=⟨by kernel_rfl,by kernel_rfl⟩
theorem d0n:a3I Tryd.prog 59=some c4E∧a1U Tryd.prog 59=true:=⟨by kernel_rfl,by kernel_rfl⟩
theorem d0o:a3I Tryd.prog 61=some ti31∧a1U Tryd.prog 61=true:=⟨by kernel_rfl,by kernel_rfl⟩
theorem d0p:a3I Tryd.prog 63=some c7m∧a1U Tryd.prog 63=true:=⟨by kernel_rfl,by kernel_rfl⟩
theorem d0q:a3I Tryd.prog 66=some c7o∧a1U Tryd.prog 66=true:=⟨by kernel_rfl,by kernel_rfl⟩
theorem d0r:a3I Tryd.prog 78=some b8S∧a1U Tryd.prog 78=true:=⟨by kernel_rfl,by kernel_rfl⟩
theorem d0s:a3I Tryd.prog 80=some ti1101∧a1U Tryd.prog 80=true:=⟨by kernel_rfl,by kernel_rfl⟩
theorem d0t:a3I Tryd.prog 84=some b8R∧a1U Tryd.prog 84=true:=⟨by kernel_rfl,by kernel_rfl⟩
theorem d0u:a3I Tryd.prog 89=some ti1223∧a1U Tryd.prog 89=true:=⟨by kernel_rfl,by kernel_rfl⟩
theorem d0v:a3I Tryd.prog 94=some c8f∧a1U Tryd.prog 94=true:=⟨by kernel_rfl,by kernel_rfl⟩
theorem c7p:a3I Tryd.prog 105=some b6k∧a1U Tryd.prog 105=true:=⟨by kernel_rfl,by kernel_rfl⟩
theorem c7q:a3I Tryd.prog 106=some b6l∧a1U Tryd.prog 106=true:=⟨by kernel_rfl,by kernel_rfl⟩
theorem c7r:a3I Tryd.prog 110=some ti109∧a1U Tryd.prog 110=true:=⟨by kernel_rfl,by kernel_rfl⟩
theorem c7s:a3I Tryd.prog 111=some c4a∧a1U Tryd.prog 111=true:=⟨by kernel_rfl,by kernel_rfl⟩
theorem c7t:a3I Tryd.prog 121=some b8T∧a1U Tryd.prog 121=true:=⟨by kernel_rfl,by kernel_rfl⟩
theorem c7u:a3I Tryd.prog 123=some ti1106∧a1U Tryd.prog 123=true:=⟨by kernel_rfl,by kernel_rfl⟩
theorem c7v:a3I Tryd.prog 133=some b6h∧a1U Tryd.prog 133=true:=⟨by kernel_rfl,by kernel_rfl⟩
theorem c0K:TabOK Tryd.prog tab:=b7P (show a8G Tryd.prog 0 c8d from ⟨tk3,tk4,tk5,tk9,d0b,d0c,d0d,d0e,d0f,d0g,d0h,d0i,d0j,d0k,d0l,d0m,d0n,d0o,d0p,d0q,d0r,d0s,d0t,d0u,d0v,c7p,c7q,c7r,c7s,c7t,c7u,c7v,trivial⟩)
theorem c7Z:Tryd.prog.follows .mixedOrders=true:=by kernel_rfl
def fi_ (f:Func) (n:Nat) (k z b:List Nat) (s:Bool):FnI:=⟨f.body.getD .skip,f.results.toList,⟨n,k,z,b⟩,s⟩
noncomputable def i5:=fi_ Tryd.f5 15 [0,1,4,8] [] [] false
noncomputable def i6:=fi_ Tryd.f6 33 [0,1,4,11] [] [] false
noncomputable def i7:=fi_ Tryd.f7 16 [0,2,3] [] [] true
noncomputable def i8:=fi_ Tryd.f8 20 [0,1,3,4,5,6,7,14] [3] [] true
noncomputable def i10:=fi_ Tryd.f10 24 [0,1,2,3,4] [2,3] [] false
noncomputable def i12:=fi_ Tryd.f12 13 [0,2] [] [] false
noncomputable def i13:=fi_ Tryd.f13 20 [0,2,3,4,6,11] [17] [] true
noncomputable def i14:=fi_ Tryd.f14 99 [0,1,4,5,6,7,8,9,10,11,12,13,14,30,52,53,54] [90,95] [] true
noncomputable def i15:=fi_ Tryd.f15 79 [0,1,2,3,4,5,7,9,10,11,15,30,31,32,33,50,51,52,53,62] [1,7,9,19] [] true
noncomputable def i17:=fi_ Tryd.f17 26 [0,1,4,5,10,14,25] [] [] false
noncomputable def i18:=fi_ Tryd.f18 27 [0,1,4,5,10,14,26] [] [] false
noncomputable def i20:=fi_ Tryd.f20 52 [0,2,3,4,5,10,24,25,26] [3,43,48] [] true
noncomputable def i21:=fi_ Tryd.f21 56 [0,1,2,3,5,8,13,29,31,32,33,34,44,55] [1,5] [] false
noncomputable def i22:=fi_ Tryd.f22 23 [0,1,2,6,7,12] [20] [] false
noncomputable def i23:=fi_ Tryd.f23 39 [0,1,2,3,4,5,9] [] [] true
noncomputable def i24:=fi_ Tryd.f24 21 [0,2,3,5,6,7,8,9] [] [] false
noncomputable def i26:=fi_ Tryd.f26 114 [0,2,3,4,5,6,7,8,9,12,18,28,40,60,83,109] [70,90] [107] true
noncomputable def i27:=fi_ Tryd.f27 86 [0,1,2,3,4,5,6] [2,3,1000006] [] true
noncomputable def i28:=fi_ Tryd.f28 49 [0,2,3,4] [4,15,21,24,1000003] [] true
noncomputable def i29:=fi_ Tryd.f29 12 [0,1,4] [] [] false
noncomputable def i30:=fi_ Tryd.f30 64 [0,1,2,3,4,7,13,18,33,63] [1,3] [] false
noncomputable def i31:=fi_ Tryd.f31 191 [0,1,4,6,7,8,9,33,34,35,36,52,53,54,62,145,146,147,155] [33,69,162] [] false
noncomputable def i32:=fi_ Tryd.f32 23 [0,1,2,6,7,12] [20] [] false
noncomputable def i33:=fi_ Tryd.f33 20 [0,2,3,5,6,7,8,9] [] [] false
noncomputable def i34:=fi_ Tryd.f34 8 [0,1,4] [] [] false
noncomputable def i35:=fi_ Tryd.f35 19 [0,2,3,5,6,7,8,9] [] [] false
noncomputable def i36:=fi_ Tryd.f36 39 [0,1,4,5,18] [] [] false
noncomputable def i37:=fi_ Tryd.f37 37 [0,2,3,4,5,22] [3] [] true
noncomputable def i38:=fi_ Tryd.f38 26 [0,1,4,5,10,14,25] [] [] false
noncomputable def i39:=fi_ Tryd.f39 26 [0,1,4,5,10,14,25] [] [] false
noncomputable def i40:=fi_ Tryd.f40 25 [0,2,3,5,6,7,8,9,14] [6,18,21] [] true
noncomputable def i41:=fi_ Tryd.f41 38 [0,1,2,3,8,9,10,11,17,25] [31] [] true
noncomputable def i42:=fi_ Tryd.f42 57 [0,1,2,3,4,5,6,16,29,40,48,54,56] [1] [] true
noncomputable def i43:=fi_ Tryd.f43 28 [0,1,2] [1] [] false
noncomputable def i44:=fi_ Tryd.f44 75 [0,1,2,4,5,6,7,8,9,14,22,23,24,25,64,69] [2] [] true
noncomputable def i45:=fi_ Tryd.f45 9 [0,1,4] [] [] false
noncomputable def i46:=fi_ Tryd.f46 6 [0,1,2] [1] [] false
noncomputable def i47:=fi_ Tryd.f47 18 [0,1,4] [] [] false
noncomputable def i48:=fi_ Tryd.f48 67 [0,2,3,4,5,6,7,10,24,36,62] [] [60] true
noncomputable def i49:=fi_ Tryd.f49 98 [0,2,4,5,31,47,57,68,80] [8,13,18,23,28,34,39,44,50,54,60,65,71,76,83,88,93] [] false
noncomputable def i50:=fi_ Tryd.f50 15 [0,1,2,6] [] [] false
noncomputable def i51:=fi_ Tryd.f51 44 [0,2,3,5,6,9,10,11,12,13,19,28,42] [5] [] false
noncomputable def i52:=fi_ Tryd.f52 26 [0,1,4,5,10,12,13,14,24] [] [] false
noncomputable def i53:=fi_ Tryd.f53 9 [0,1,4] [] [] false
noncomputable def i54:=fi_ Tryd.f54 7 [0,1,2] [1] [] false
noncomputable def i55:=fi_ Tryd.f55 19 [0,1,4,5,7,8,9,16] [] [] false
noncomputable def i56:=fi_ Tryd.f56 19 [0,2,3,5,6,7,8,9] [] [] false
noncomputable def i57:=fi_ Tryd.f57 21 [0,1,4,5,6,12] [17] [] false
noncomputable def i58:=fi_ Tryd.f58 38 [0,2,4,22,24,25,26,27,36] [] [] true
noncomputable def i59:=fi_ Tryd.f59 8 [0,2,4] [5] [] false
noncomputable def i60:=fi_ Tryd.f60 9 [0,1] [] [] false
noncomputable def i61:=fi_ Tryd.f61 10 [0,1,2,3,4] [2,3] [] false
noncomputable def i62:=fi_ Tryd.f62 8 [0,1,4] [] [] false
noncomputable def i63:=fi_ Tryd.f63 19 [0,1,4,5,7,8,9,16] [] [] false
noncomputable def i64:=fi_ Tryd.f64 8 [0,2] [] [] false
noncomputable def i65:=fi_ Tryd.f65 12 [0,2] [] [] false
noncomputable def i66:=fi_ Tryd.f66 63 [0,1,2,6,7,8,9,13,30,35,54] [] [] false
noncomputable def i67:=fi_ Tryd.f67 8 [0,1,4] [] [] false
noncomputable def i68:=fi_ Tryd.f68 53 [0,1,2,3,8,9,14,34] [] [] false
noncomputable def i69:=fi_ Tryd.f69 220 [0,1,2,3,4,10,11,12,13,14,15,16,17,18,19,20,21,22,23,24,28,33,50,58,80,85,103,110,140,151,171,185,199,213] [] [] false
noncomputable def i71:=fi_ Tryd.f71 58 [0,1,2,3,4,10,11,20,23] [] [] false
noncomputable def i72:=fi_ Tryd.f72 38 [0,1,2,3,10,13] [] [] false
noncomputable def i89:=fi_ Tryd.f89 16 [0,1,4] [] [] false
noncomputable def i90:=fi_ Tryd.f90 16 [0,1] [] [] false
noncomputable def i91:=fi_ Tryd.f91 21 [0,1] [] [] false
noncomputable def i92:=fi_ Tryd.f92 28 [0,4,5,23] [] [] false
noncomputable def i93:=fi_ Tryd.f93 10 [0,1] [] [] false
noncomputable def i94:=fi_ Tryd.f94 22 [0,1,4,5,17] [] [] false
noncomputable def i95:=fi_ Tryd.f95 42 [0,1,4,5,22] [] [] false
noncomputable def c6l:List (Nat × FnI):=[(5,i5),(6,i6),(7,i7),(8,i8),(10,i10),(12,i12),(13,i13),(14,i14),(15,i15),(17,i17),(18,i18),(20,i20),(21,i21),(22,i22),(23,i23),(24,i24),(26,i26),(27,i27),(28,i28),(29,i29),(30,i30),(31,i31),(32,i32),(33,i33),(34,i34),(35,i35),(36,i36),(37,i37),(38,i38),(39,i39),(40,i40),(41,i41),(42,i42),(43,i43),(44,i44),(45,i45),(46,i46),(47,i47),(48,i48),(49,i49),(50,i50),(51,i51),(52,i52),(53,i53),(54,i54),(55,i55),(56,i56),(57,i57),(58,i58),(59,i59),(60,i60),(61,i61),(62,i62),(63,i63),(64,i64),(65,i65),(66,i66),(67,i67),(68,i68),(69,i69),(71,i71),(72,i72),(89,i89),(90,i90),(91,i91),(92,i92),(93,i93),(94,i94),(95,i95)]
noncomputable def Fs:FuncId→Option FnI:=c2T c6l
theorem fk5:FnOK Tryd.prog 5 i5 := .of Tryd.func5 (by kernel_rfl) (by kernel_rfl) (by kernel_rfl) Tryd.call5
theorem fk6:FnOK Tryd.prog 6 i6 := .of Tryd.func6 (by kernel_rfl) (by kernel_rfl) (by kernel_rfl) Tryd.call6
theorem fk7:FnOK Tryd.prog 7 i7 := .of Tryd.func7 (by kernel_rfl) (by kernel_rfl) (by kernel_rfl) Tryd.call7
theorem fk8:FnOK Tryd.prog 8 i8 := .of Tryd.func8 (by kernel_rfl) (by kernel_rfl) (by kernel_rfl) Tryd.call8
theorem c8k:FnOK Tryd.prog 10 i10 := .of Tryd.func10 (by kernel_rfl) (by kernel_rfl) (by kernel_rfl) Tryd.call10
theorem c8m:FnOK Tryd.prog 12 i12 := .of Tryd.func12 (by kernel_rfl) (by kernel_rfl) (by kernel_rfl) Tryd.call12
theorem c8o:FnOK Tryd.prog 13 i13 := .of Tryd.func13 (by kernel_rfl) (by kernel_rfl) (by kernel_rfl) Tryd.call13
theorem c8p:FnOK Tryd.prog 14 i14 := .of Tryd.func14 (by kernel_rfl) (by kernel_rfl) (by kernel_rfl) Tryd.call14
theorem c8q:FnOK Tryd.prog 15 i15 := .of Tryd.func15 (by kernel_rfl) (by kernel_rfl) (by kernel_rfl) Tryd.call15
theorem c8r:FnOK Tryd.prog 17 i17 := .of Tryd.func17 (by kernel_rfl) (by kernel_rfl) (by kernel_rfl) Tryd.call17
theorem c8s:FnOK Tryd.prog 18 i18 := .of Tryd.func18 (by kernel_rfl) (by kernel_rfl) (by kernel_rfl) Tryd.call18
theorem c8t:FnOK Tryd.prog 20 i20 := .of Tryd.func20 (by kernel_rfl) (by kernel_rfl) (by kernel_rfl) Tryd.call20
theorem c8u:FnOK Tryd.prog 21 i21 := .of Tryd.func21 (by kernel_rfl) (by kernel_rfl) (by kernel_rfl) Tryd.call21
theorem c8v:FnOK Tryd.prog 22 i22 := .of Tryd.func22 (by kernel_rfl) (by kernel_rfl) (by kernel_rfl) Tryd.call22
theorem c8w:FnOK Tryd.prog 23 i23 := .of Tryd.func23 (by kernel_rfl) (by kernel_rfl) (by kernel_rfl) Tryd.call23
theorem c8x:FnOK Tryd.prog 24 i24 := .of Tryd.func24 (by kernel_rfl) (by kernel_rfl) (by kernel_rfl) Tryd.call24
theorem c7P:FnOK Tryd.prog 26 i26 := .of Tryd.func26 (by kernel_rfl) (by kernel_rfl) (by kernel_rfl) Tryd.call26
theorem c8y:FnOK Tryd.prog 27 i27 := .of Tryd.func27 (by kernel_rfl) (by kernel_rfl) (by kernel_rfl) Tryd.call27
theorem c8z:FnOK Tryd.prog 28 i28 := .of Tryd.func28 (by kernel_rfl) (by kernel_rfl) (by kernel_rfl) Tryd.call28
theorem c8A:FnOK Tryd.prog 29 i29 := .of Tryd.func29 (by kernel_rfl) (by kernel_rfl) (by kernel_rfl) Tryd.call29
theorem c8B:FnOK Tryd.prog 30 i30 := .of Tryd.func30 (by kernel_rfl) (by kernel_rfl) (by kernel_rfl) Tryd.call30
theorem c8C:FnOK Tryd.prog 31 i31 := .of Tryd.func31 (by kernel_rfl) (by kernel_rfl) (by kernel_rfl) Tryd.call31
theorem c8D:FnOK Tryd.prog 32 i32 := .of Tryd.func32 (by kernel_rfl) (by kernel_rfl) (by kernel_rfl) Tryd.call32
theorem c8E:FnOK Tryd.prog 33 i33 := .of Tryd.func33 (by kernel_rfl) (by kernel_rfl) (by kernel_rfl) Tryd.call33
theorem c8F:FnOK Tryd.prog 34 i34 := .of Tryd.func34 (by kernel_rfl) (by kernel_rfl) (by kernel_rfl) Tryd.call34
theorem c8G:FnOK Tryd.prog 35 i35 := .of Tryd.func35 (by kernel_rfl) (by kernel_rfl) (by kernel_rfl) Tryd.call35
theorem c8H:FnOK Tryd.prog 36 i36 := .of Tryd.func36 (by kernel_rfl) (by kernel_rfl) (by kernel_rfl) Tryd.call36
theorem c8I:FnOK Tryd.prog 37 i37 := .of Tryd.func37 (by kernel_rfl) (by kernel_rfl) (by kernel_rfl) Tryd.call37
theorem c8J:FnOK Tryd.prog 38 i38 := .of Tryd.func38 (by kernel_rfl) (by kernel_rfl) (by kernel_rfl) Tryd.call38
theorem c8K:FnOK Tryd.prog 39 i39 := .of Tryd.func39 (by kernel_rfl) (by kernel_rfl) (by kernel_rfl) Tryd.call39
theorem c8L:FnOK Tryd.prog 40 i40 := .of Tryd.func40 (by kernel_rfl) (by kernel_rfl) (by kernel_rfl) Tryd.call40
theorem c8M:FnOK Tryd.prog 41 i41 := .of Tryd.func41 (by kernel_rfl) (by kernel_rfl) (by kernel_rfl) Tryd.call41
theorem c8N:FnOK Tryd.prog 42 i42 := .of Tryd.func42 (by kernel_rfl) (by kernel_rfl) (by kernel_rfl) Tryd.call42
theorem c8O:FnOK Tryd.prog 43 i43 := .of Tryd.func43 (by kernel_rfl) (by kernel_rfl) (by kernel_rfl) Tryd.call43
theorem c8P:FnOK Tryd.prog 44 i44 := .of Tryd.func44 (by kernel_rfl) (by kernel_rfl) (by kernel_rfl) Tryd.call44
theorem c8Q:FnOK Tryd.prog 45 i45 := .of Tryd.func45 (by kernel_rfl) (by kernel_rfl) (by kernel_rfl) Tryd.call45
theorem c8R:FnOK Tryd.prog 46 i46 := .of Tryd.func46 (by kernel_rfl) (by kernel_rfl) (by kernel_rfl) Tryd.call46
theorem c8S:FnOK Tryd.prog 47 i47 := .of Tryd.func47 (by kernel_rfl) (by kernel_rfl) (by kernel_rfl) Tryd.call47
theorem c8T:FnOK Tryd.prog 48 i48 := .of Tryd.func48 (by kernel_rfl) (by kernel_rfl) (by kernel_rfl) Tryd.call48
theorem c8U:FnOK Tryd.prog 49 i49 := .of Tryd.func49 (by kernel_rfl) (by kernel_rfl) (by kernel_rfl) Tryd.call49
theorem c8V:FnOK Tryd.prog 50 i50 := .of Tryd.func50 (by kernel_rfl) (by kernel_rfl) (by kernel_rfl) Tryd.call50
theorem c8W:FnOK Tryd.prog 51 i51 := .of Tryd.func51 (by kernel_rfl) (by kernel_rfl) (by kernel_rfl) Tryd.call51
theorem c8X:FnOK Tryd.prog 52 i52 := .of Tryd.func52 (by kernel_rfl) (by kernel_rfl) (by kernel_rfl) Tryd.call52
theorem c8Y:FnOK Tryd.prog 53 i53 := .of Tryd.func53 (by kernel_rfl) (by kernel_rfl) (by kernel_rfl) Tryd.call53
theorem c8Z:FnOK Tryd.prog 54 i54 := .of Tryd.func54 (by kernel_rfl) (by kernel_rfl) (by kernel_rfl) Tryd.call54
theorem c9a:FnOK Tryd.prog 55 i55 := .of Tryd.func55 (by kernel_rfl) (by kernel_rfl) (by kernel_rfl) Tryd.call55
theorem c9b:FnOK Tryd.prog 56 i56 := .of Tryd.func56 (by kernel_rfl) (by kernel_rfl) (by kernel_rfl) Tryd.call56
theorem c9c:FnOK Tryd.prog 57 i57 := .of Tryd.func57 (by kernel_rfl) (by kernel_rfl) (by kernel_rfl) Tryd.call57
theorem c9d:FnOK Tryd.prog 58 i58 := .of Tryd.func58 (by kernel_rfl) (by kernel_rfl) (by kernel_rfl) Tryd.call58
theorem c9e:FnOK Tryd.prog 59 i59 := .of Tryd.func59 (by kernel_rfl) (by kernel_rfl) (by kernel_rfl) Tryd.call59
theorem c9f:FnOK Tryd.prog 60 i60 := .of Tryd.func60 (by kernel_rfl) (by kernel_rfl) (by kernel_rfl) Tryd.call60
theorem c9g:FnOK Tryd.prog 61 i61 := .of Tryd.func61 (by kernel_rfl) (by kernel_rfl) (by kernel_rfl) Tryd.call61
theorem c9h:FnOK Tryd.prog 62 i62 := .of Tryd.func62 (by kernel_rfl) (by kernel_rfl) (by kernel_rfl) Tryd.call62
theorem c9i:FnOK Tryd.prog 63 i63 := .of Tryd.func63 (by kernel_rfl) (by kernel_rfl) (by kernel_rfl) Tryd.call63
theorem c9j:FnOK Tryd.prog 64 i64 := .of Tryd.func64 (by kernel_rfl) (by kernel_rfl) (by kernel_rfl) Tryd.call64
theorem c9k:FnOK Tryd.prog 65 i65 := .of Tryd.func65 (by kernel_rfl) (by kernel_rfl) (by kernel_rfl) Tryd.call65
theorem c9l:FnOK Tryd.prog 66 i66 := .of Tryd.func66 (by kernel_rfl) (by kernel_rfl) (by kernel_rfl) Tryd.call66
theorem c9m:FnOK Tryd.prog 67 i67 := .of Tryd.func67 (by kernel_rfl) (by kernel_rfl) (by kernel_rfl) Tryd.call67
theorem c9n:FnOK Tryd.prog 68 i68 := .of Tryd.func68 (by kernel_rfl) (by kernel_rfl) (by kernel_rfl) Tryd.call68
theorem c9o:FnOK Tryd.prog 69 i69 := .of Tryd.func69 (by kernel_rfl) (by kernel_rfl) (by kernel_rfl) Tryd.call69
theorem c9p:FnOK Tryd.prog 71 i71 := .of Tryd.func71 (by kernel_rfl) (by kernel_rfl) (by kernel_rfl) Tryd.call71
theorem c9q:FnOK Tryd.prog 72 i72 := .of Tryd.func72 (by kernel_rfl) (by kernel_rfl) (by kernel_rfl) Tryd.call72
theorem c9r:FnOK Tryd.prog 89 i89 := .of Tryd.func89 (by kernel_rfl) (by kernel_rfl) (by kernel_rfl) Tryd.call89
theorem c9s:FnOK Tryd.prog 90 i90 := .of Tryd.func90 (by kernel_rfl) (by kernel_rfl) (by kernel_rfl) Tryd.call90
theorem c9t:FnOK Tryd.prog 91 i91 := .of Tryd.func91 (by kernel_rfl) (by kernel_rfl) (by kernel_rfl) Tryd.call91
theorem c9u:FnOK Tryd.prog 92 i92 := .of Tryd.func92 (by kernel_rfl) (by kernel_rfl) (by kernel_rfl) Tryd.call92
theorem c9v:FnOK Tryd.prog 93 i93 := .of Tryd.func93 (by kernel_rfl) (by kernel_rfl) (by kernel_rfl) Tryd.call93
theorem c9w:FnOK Tryd.prog 94 i94 := .of Tryd.func94 (by kernel_rfl) (by kernel_rfl) (by kernel_rfl) Tryd.call94
theorem c9x:FnOK Tryd.prog 95 i95 := .of Tryd.func95 (by kernel_rfl) (by kernel_rfl) (by kernel_rfl) Tryd.call95
theorem c6m:b6v Tryd.prog c6l:=⟨fk5,fk6,fk7,fk8,c8k,c8m,c8o,c8p,c8q,c8r,c8s,c8t,c8u,c8v,c8w,c8x,c7P,c8y,c8z,c8A,c8B,c8C,c8D,c8E,c8F,c8G,c8H,c8I,c8J,c8K,c8L,c8M,c8N,c8O,c8P,c8Q,c8R,c8S,c8T,c8U,c8V,c8W,c8X,c8Y,c8Z,c9a,c9b,c9c,c9d,c9e,c9f,c9g,c9h,c9i,c9j,c9k,c9l,c9m,c9n,c9o,c9p,c9q,c9r,c9s,c9t,c9u,c9v,c9w,c9x,trivial⟩
def kinZ:List Int:=[0,0,0,0,0,0,0,0,0,4,0,0,0,0,0,0,0,0,0,0,0,0,0,0,0,0,0,0,0,0,0,0,4,0,0,0,0,0,0,0,0,0,0,0,0,0,0,0,1,1,1,1,1,1,1,1,1,1,0,0,0,0,0,0,0,2,2,2,2,2,2,2,2,2,2,2,2,2,2,2,2,2,2,2,2,2,2,2,2,2,2,0,0,0,0,0,0,2,2,2,2,2,2,2,2,2,2,2,2,2,2,2,2,2,2,2,2,2,2,2,2,2,2,0,0,0,0,0,0,0,0,0,0,0,0,0,0,0,0,0,0,0,0,0,0,0,0,0,0,0,0,0,0,0,0,0,0,0,0,0,0,0,0,0,0,0,0,0,0,0,0,0,0,0,0,0,0,0,0,0,0,0,0,0,0,0,0,0,0,0,0,0,0,0,0,0,0,0,0,0,0,0,0,0,0,0,0,0,0,0,0,0,0,0,0,0,0,0,0,0,0,0,0,0,0,0,0,0,0,0,0,0,0,0,0,0,0,0,0,0,0,0,0,0,0,0,0,0,0,0,0,0,0,0,0,0]
def kin:List D:=kinZ.map fun z => .int .u8 z
noncomputable def gl:Nat→Option D:=fun i=>if i=0 then some (.fptr kin) else none
abbrev b4D:Nat:=70
theorem c6d (vs:Array Value) (w:World):(callFunc 70 vs).run Tryd.prog w=((Extern.BytealgCompare.compare vs).run Tryd.prog w).andThen fun v w' => .ok (.value v) w':=run_callFunc_extern Tryd.func70 (by kernel_rfl) (by kernel_rfl) (by kernel_rfl) (by kernel_rfl) vs w
theorem b9t {args:List D} {h h':Hp} {d:D} (hd:c4m args h=some (d,h')) {g:Gh} {vs:List Value} (hi:Inv g h) (hr:RepL g vs args):a3J Tryd.prog 70 vs g h' d:=by
 unfold c4m at hd
 split at hd
 ·injection hd with hd
  injection hd with h1 h2
  subst h1;subst h2
  exact b3J c6d hi hr
 ·cases hd
noncomputable def xt:a0W:=fun f args h=>if f=b4D then c4m args h else none
theorem d0x (X:Cx):a1V Tryd.prog X xt:=fun f args h d h' hd g vs hi hgl hr=>by
 unfold xt at hd
 split at hd
 ·rename_i hf
  subst hf
  exact b9t hd hi hr
 ·skip
  cases hd
noncomputable def X:Cx:=⟨tab,gl,xt⟩
noncomputable def R:a0W:=run X Fs
theorem er (fi:FnI) {f:FuncId} {args:List D} {h:Hp} {x:Option (D × Hp)} (hf:Fs f=some fi) (hx:fnR X R a0K fi args h=x):R f args h=x:=(b8O hf args h).trans hx
theorem c7J:a1V Tryd.prog X R:=b8P (X:=X) c0K c7Z (d0x X) (b4N c6l c6m)
theorem d0w (a b:List UInt8) (h:Hp):R b4D [.str a,.str b] h=some (.int .i64 (Lib.compareBytes a b),h):=(b2m (X:=X) (F:=Fs) (by kernel_rfl) _ _).trans (by simp [X,xt,c4m])
end Go.Proofs.YtjmndhbabkjebaaDoor
