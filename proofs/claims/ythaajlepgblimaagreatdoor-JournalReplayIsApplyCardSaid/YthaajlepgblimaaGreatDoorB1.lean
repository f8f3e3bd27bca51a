/- The tables of this seat: its types, and how its functions are carried out on data. -/
import Derived.Test.YthaajlepgblimaaGreatDoorIW
import Derived.Test.YthaajlepgblimaaGreatDoorChecked
import Derived.KernelRfl
set_option linter.unusedSimpArgs false
set_option linter.unusedVariables false
set_option linter.unnecessarySimpa false
namespace Go.Proofs.YthaajlepgblimaaGreatDoor
open Go.Eng Go.Pi
abbrev ty3:Nat:=3
abbrev ty4:Nat:=4
abbrev ty5:Nat:=5
abbrev ty9:Nat:=9
abbrev a0S:Nat:=22
abbrev a0u:Nat:=24
abbrev a0L:Nat:=25
abbrev a1j:Nat:=26
abbrev a1p:Nat:=27
abbrev a0y:Nat:=29
abbrev a0z:Nat:=31
abbrev a1V:Nat:=33
abbrev a5J:Nat:=36
abbrev a2a:Nat:=42
abbrev a0E:Nat:=48
abbrev a1C:Nat:=49
abbrev a0n:Nat:=51
abbrev a3f:Nat:=56
abbrev a3u:Nat:=70
abbrev a1h:Nat:=73
abbrev a5e:Nat:=81
abbrev a0Q:Nat:=84
abbrev a4s:Nat:=100
abbrev a6X:Nat:=102
abbrev b0t:Nat:=105
abbrev a4N:Nat:=106
abbrev a2j:Nat:=108
abbrev a3W:Nat:=112
abbrev a1O:Nat:=114
abbrev a5K:Nat:=129
abbrev a1k:Nat:=134
abbrev a1o:Nat:=136
abbrev a1Z:Nat:=143
abbrev c3g:Nat:=155
abbrev a6r:Nat:=156
abbrev a0T:Nat:=160
abbrev b5o:Nat:=194
abbrev c2s:Nat:=108
abbrev d7l:Nat:=128
abbrev d7m:Nat:=140
abbrev c2q:Nat:=154
abbrev d7j:Nat:=159
abbrev d7k:Nat:=161
abbrev b7Q:Nat:=5
abbrev b7u:Nat:=6
abbrev b4t:Nat:=7
abbrev b1l:Nat:=8
abbrev b4v:Nat:=9
abbrev b4G:Nat:=10
abbrev b7L:Nat:=11
abbrev b4F:Nat:=14
abbrev b7v:Nat:=17
abbrev d3Y:Nat:=18
abbrev b4I:Nat:=20
abbrev b7I:Nat:=22
abbrev b4H:Nat:=24
abbrev d4a:Nat:=25
abbrev b4k:Nat:=26
abbrev b4q:Nat:=27
abbrev b1i:Nat:=28
abbrev b1m:Nat:=29
abbrev a7S:Nat:=30
abbrev b4z:Nat:=31
abbrev b1j:Nat:=32
abbrev a4z:Nat:=33
abbrev b4w:Nat:=34
abbrev a8K:Nat:=35
abbrev a5i:Nat:=36
abbrev b4A:Nat:=37
abbrev b7P:Nat:=38
abbrev b7w:Nat:=42
abbrev a5H:Nat:=43
abbrev b4u:Nat:=45
abbrev b1h:Nat:=46
abbrev b4J:Nat:=47
abbrev b4K:Nat:=48
abbrev b4m:Nat:=49
abbrev b7J:Nat:=52
abbrev d3W:Nat:=53
abbrev b7H:Nat:=55
abbrev c5w:Nat:=56
abbrev b4d:Nat:=57
abbrev b1n:Nat:=58
abbrev a8H:Nat:=59
abbrev b4l:Nat:=60
abbrev d0t:Nat:=61
abbrev b4r:Nat:=62
abbrev a6h:Nat:=63
abbrev b1k:Nat:=64
abbrev a4o:Nat:=65
abbrev b4B:Nat:=66
abbrev b0Z:Nat:=67
abbrev b4x:Nat:=68
abbrev a3N:Nat:=69
abbrev b4y:Nat:=70
abbrev a6R:Nat:=71
abbrev d4e:Nat:=78
abbrev d0r:Nat:=79
abbrev b7K:Nat:=80
abbrev c8b:Nat:=81
abbrev b4s:Nat:=82
abbrev c2r:Nat:=83
abbrev c8d:Nat:=84
abbrev c0W:Nat:=85
abbrev b4p:Nat:=86
abbrev b7x:Nat:=87
abbrev b7y:Nat:=88
abbrev d0u:Nat:=89
abbrev b1a:Nat:=90
abbrev b4n:Nat:=91
abbrev b4o:Nat:=92
abbrev b7z:Nat:=93
abbrev b1b:Nat:=94
abbrev b7o:Nat:=95
abbrev b4f:Nat:=96
abbrev b4g:Nat:=97
abbrev a6j:Nat:=98
abbrev a4A:Nat:=99
abbrev b7m:Nat:=100
abbrev a6i:Nat:=101
abbrev b4c:Nat:=102
abbrev a8G:Nat:=103
abbrev a8F:Nat:=105
abbrev a7R:Nat:=106
abbrev a8L:Nat:=107
abbrev d0y:Nat:=109
abbrev d0w:Nat:=110
abbrev d0q:Nat:=111
abbrev d0x:Nat:=112
abbrev c8e:Nat:=113
abbrev a8I:Nat:=114
abbrev b1c:Nat:=115
abbrev b7A:Nat:=116
abbrev b7B:Nat:=117
abbrev b1d:Nat:=118
abbrev b4e:Nat:=119
abbrev b7p:Nat:=120
abbrev b4h:Nat:=121
abbrev d0s:Nat:=122
abbrev b7n:Nat:=123
abbrev b7q:Nat:=124
abbrev b4i:Nat:=125
abbrev c0V:Nat:=129
abbrev d3X:Nat:=130
abbrev b7C:Nat:=131
abbrev b1e:Nat:=132
abbrev a7T:Nat:=133
abbrev b7D:Nat:=134
abbrev b7E:Nat:=135
abbrev b7r:Nat:=136
abbrev d3Z:Nat:=137
abbrev b7F:Nat:=141
abbrev b7G:Nat:=142
abbrev b1f:Nat:=143
abbrev c2p:Nat:=144
abbrev b4j:Nat:=145
abbrev b7s:Nat:=146
abbrev d4c:Nat:=147
abbrev d0v:Nat:=148
abbrev d4d:Nat:=149
abbrev a6Q:Nat:=153
abbrev b7t:Nat:=156
abbrev c0U:Nat:=157
abbrev b7M:Nat:=178
abbrev b7N:Nat:=179
abbrev b7O:Nat:=180
abbrev b4C:Nat:=181
abbrev b4D:Nat:=182
abbrev b4E:Nat:=183
abbrev a6k:Nat:=184
noncomputable def ti3:TI:=⟨.int .i64,1,8,[.int .i64 0],[]⟩
noncomputable def ti4:TI:=⟨.bool,1,1,[.bool false],[]⟩
noncomputable def ti5:TI:=⟨.int .u8,1,1,[.int .u8 0],[]⟩
noncomputable def ti9:TI:=⟨.str,1,16,[.str []],[]⟩
noncomputable def b9C:TI:=⟨.sl 31,1,24,[.nils],[]⟩
noncomputable def b9B:TI:=⟨.st [(3,0,1),(3,1,1),(22,2,1)],3,40,[.int .i64 0,.int .i64 0,.nils],[]⟩
noncomputable def ti22:TI:=⟨.sl 5,1,24,[.nils],[]⟩
noncomputable def c5I:TI:=⟨.sl 143,1,24,[.nils],[]⟩
noncomputable def d0G:TI:=⟨.sl 160,1,24,[.nils],[]⟩
noncomputable def d6A:TI:=⟨.st [(3,0,1),(3,1,1),(3,2,1),(3,3,1),(26,4,1),(3,5,1),(3,6,1),(9,7,1),(9,8,1),(27,9,1)],10,128,[.int .i64 0,.int .i64 0,.int .i64 0,.int .i64 0,.nils,.int .i64 0,.int .i64 0,.str [],.str [],.nils],[]⟩
noncomputable def d6C:TI:=⟨.st [(9,0,1),(29,1,10)],11,144,[.str [],.int .i64 0,.int .i64 0,.int .i64 0,.int .i64 0,.nils,.int .i64 0,.int .i64 0,.str [],.str [],.nils],[]⟩
noncomputable def b9A:TI:=⟨.sl 24,1,24,[.nils],[]⟩
noncomputable def d7t:TI:=⟨.int .i64,1,8,[.int .i64 0],[]⟩
noncomputable def a8l:TI:=⟨.sl 25,1,24,[.nils],[]⟩
noncomputable def a8k:TI:=⟨.sl 84,1,24,[.nils],[]⟩
noncomputable def ti58:TI:=⟨.sl 134,1,24,[.nils],[]⟩
noncomputable def ti1009:TI:=⟨.st [(48,0,1),(49,1,1)],2,48,[.nils,.nils],[]⟩
noncomputable def d6B:TI:=⟨.sl 29,1,24,[.nils],[]⟩
noncomputable def d7u:TI:=⟨.int .u32,1,4,[.int .u32 0],[]⟩
noncomputable def c3b:TI:=⟨.int .u64,1,8,[.int .u64 0],[]⟩
noncomputable def ti101:TI:=⟨.st [(25,0,1),(3,1,1)],2,32,[.nils,.int .i64 0],[]⟩
noncomputable def ti1006:TI:=⟨.st [(3,0,1),(3,1,1),(3,2,1)],3,24,[.int .i64 0,.int .i64 0,.int .i64 0],[]⟩
noncomputable def c1H:TI:=⟨.sl 22,1,24,[.nils],[]⟩
noncomputable def ti82:TI:=⟨.sl 3,1,24,[.nils],[]⟩
noncomputable def c9T:TI:=⟨.int .u64,1,8,[.int .u64 0],[]⟩
noncomputable def c3d:TI:=⟨.ptr 108,1,8,[.nilp],[("logtide/event.count",some 178),("logtide/event.number",some 179),("logtide/event.text",some 180)]⟩
noncomputable def ti1101:TI:=⟨.st [(25,0,1)],1,24,[.nils],[]⟩
noncomputable def c3e:TI:=⟨.ptr 114,1,8,[.nilp],[("logtide/event.count",some 181),("logtide/event.number",some 182),("logtide/event.take",some 184),("logtide/event.text",some 183)]⟩
noncomputable def ti1106:TI:=⟨.st [(25,0,1),(4,1,1)],2,32,[.nils,.bool false],[]⟩
noncomputable def d7v:TI:=⟨.sl 9,1,24,[.nils],[]⟩
noncomputable def ti106:TI:=⟨.st [(3,0,1),(9,1,1),(3,2,1)],3,32,[.int .i64 0,.str [],.int .i64 0],[]⟩
noncomputable def c3c:TI:=⟨.st [(51,0,2),(56,2,1)],3,72,[.nils,.nils,.nils],[]⟩
noncomputable def ti78:TI:=⟨.st [(3,0,1),(3,1,1),(9,2,1)],3,32,[.int .i64 0,.int .i64 0,.str []],[]⟩
noncomputable def b9D:TI:=⟨.ptr 3,1,8,[.nilp],[]⟩
noncomputable def b9E:TI:=⟨.sl 155,1,24,[.nils],[]⟩
noncomputable def ti109:TI:=⟨.st [(9,0,1),(9,1,1)],2,32,[.str [],.str []],[]⟩
noncomputable def b9z:TI:=⟨.arr 256 5,256,256,[.int .u8 0,.int .u8 0,.int .u8 0,.int .u8 0,.int .u8 0,.int .u8 0,.int .u8 0,.int .u8 0,.int .u8 0,.int .u8 0,.int .u8 0,.int .u8 0,.int .u8 0,.int .u8 0,.int .u8 0,.int .u8 0,.int .u8 0,.int .u8 0,.int .u8 0,.int .u8 0,.int .u8 0,.int .u8 0,.int .u8 0,.int .u8 0,.int .u8 0,.int .u8 0,.int .u8 0,.int .u8 0,.int .u8 0,.int .u8 0,.int .u8 0,.int .u8 0,.int .u8 0,.int .u8 0,.int .u8 0,.int .u8 0,.int .u8 0,.int .u8 0,.int .u8 0,.int .u8 0,.int .u8 0,.int .u8 0,.int .u8 0,.int .u8 0,.int .u8 0,.int .u8 0,.int .u8 0,.int .u8 0,.int .u8 0,.int .u8 0,.int .u8 0,.int .u8 0,.int .u8 0,.int .u8 0,.int .u8 0,.int .u8 0,.int .u8 0,.int .u8 0,.int .u8 0,.int .u8 0,.int .u8 0,.int .u8 0,.int .u8 0,.int .u8 0,.int .u8 0,.int .u8 0,.int .u8 0,.int .u8 0,.int .u8 0,.int .u8 0,.int .u8 0,.int .u8 0,.int .u8 0,.int .u8 0,.int .u8 0,.int .u8 0,.int .u8 0,.int .u8 0,.int .u8 0,.int .u8 0,.int .u8 0,.int .u8 0,.int .u8 0,.int .u8 0,.int .u8 0,.int .u8 0,.int .u8 0,.int .u8 0,.int .u8 0,.int .u8 0,.int .u8 0,.int .u8 0,.int .u8 0,.int .u8 0,.int .u8 0,.int .u8 0,.int .u8 0,.int .u8 0,.int .u8 0,.int .u8 0,.int .u8 0,.int .u8 0,.int .u8 0,.int .u8 0,.int .u8 0,.int .u8 0,.int .u8 0,.int .u8 0,.int .u8 0,.int .u8 0,.int .u8 0,.int .u8 0,.int .u8 0,.int .u8 0,.int .u8 0,.int .u8 0,.int .u8 0,.int .u8 0,.int .u8 0,.int .u8 0,.int .u8 0,.int .u8 0,.int .u8 0,.int .u8 0,.int .u8 0,.int .u8 0,.int .u8 0,.int .u8 0,.int .u8 0,.int .u8 0,.int .u8 0,.int .u8 0,.int .u8 0,.int .u8 0,.int .u8 0,.int .u8 0,.int .u8 0,.int .u8 0,.int .u8 0,.int .u8 0,.int .u8 0,.int .u8 0,.int .u8 0,.int .u8 0,.int .u8 0,.int .u8 0,.int .u8 0,.int .u8 0,.int .u8 0,.int .u8 0,.int .u8 0,.int .u8 0,.int .u8 0,.int .u8 0,.int .u8 0,.int .u8 0,.int .u8 0,.int .u8 0,.int .u8 0,.int .u8 0,.int .u8 0,.int .u8 0,.int .u8 0,.int .u8 0,.int .u8 0,.int .u8 0,.int .u8 0,.int .u8 0,.int .u8 0,.int .u8 0,.int .u8 0,.int .u8 0,.int .u8 0,.int .u8 0,.int .u8 0,.int .u8 0,.int .u8 0,.int .u8 0,.int .u8 0,.int .u8 0,.int .u8 0,.int .u8 0,.int .u8 0,.int .u8 0,.int .u8 0,.int .u8 0,.int .u8 0,.int .u8 0,.int .u8 0,.int .u8 0,.int .u8 0,.int .u8 0,.int .u8 0,.int .u8 0,.int .u8 0,.int .u8 0,.int .u8 0,.int .u8 0,.int .u8 0,.int .u8 0,.int .u8 0,.int .u8 0,.int .u8 0,.int .u8 0,.int .u8 0,.int .u8 0,.int .u8 0,.int .u8 0,.int .u8 0,.int .u8 0,.int .u8 0,.int .u8 0,.int .u8 0,.int .u8 0,.int .u8 0,.int .u8 0,.int .u8 0,.int .u8 0,.int .u8 0,.int .u8 0,.int .u8 0,.int .u8 0,.int .u8 0,.int .u8 0,.int .u8 0,.int .u8 0,.int .u8 0,.int .u8 0,.int .u8 0,.int .u8 0,.int .u8 0,.int .u8 0,.int .u8 0,.int .u8 0,.int .u8 0,.int .u8 0,.int .u8 0,.int .u8 0,.int .u8 0,.int .u8 0,.int .u8 0,.int .u8 0,.int .u8 0,.int .u8 0,.int .u8 0,.int .u8 0,.int .u8 0,.int .u8 0,.int .u8 0,.int .u8 0,.int .u8 0,.int .u8 0,.int .u8 0,.int .u8 0,.int .u8 0,.int .u8 0],[]⟩
noncomputable def d7s:List (Option TI):=[none,none,none,some ti3,some ti4,some ti5,none,none,none,some ti9,none,none,none,none,none,none,none,none,none,none,none,none,some b9C,none,some b9B,some ti22,some c5I,some d0G,none,some d6A,none,some d6C,none,some b9A,none,none,some d7t,none,none,none,none,none,some a8l,none,none,none,none,none,some a8k,some ti58,none,some ti1009,none,none,none,none,some d6B,none,none,none,none,none,none,none,none,none,none,none,none,none,some d7u,none,none,some c3b,none,none,none,none,none,none,none,some ti101,none,none,some ti1006,none,none,none,none,none,none,none,none,none,none,none,none,none,none,none,some c1H,none,some ti82,none,none,some c9T,some c3d,none,some ti1101,none,none,none,some c3e,none,some ti1106,none,none,none,none,none,none,none,none,none,none,none,none,none,none,some d7v,none,none,none,none,some ti106,none,some c3c,none,none,none,none,none,none,some ti78,none,none,none,none,none,none,none,none,none,none,none,some b9D,some b9E,none,none,none,some ti109,none,none,none,none,none,none,none,none,none,none,none,none,none,none,none,none,none,none,none,none,none,none,none,none,none,none,none,none,none,none,none,none,none,some b9z]
noncomputable def tab:Tab:=c5d d7s
theorem tk3:a3V Tryz.prog 3=some ti3∧a1W Tryz.prog 3=true:=⟨by kernel_rfl,by kernel_rfl⟩
theorem tk4:a3V Tryz.prog 4=some ti4∧a1W Tryz.prog 4=true:=⟨by kernel_rfl,by kernel_rfl⟩
theorem tk5:a3V Tryz.prog 5=some ti5∧a1W Tryz.prog 5=true:=⟨by kernel_rfl,by kernel_rfl⟩
theorem tk9:a3V Tryz.prog 9=some ti9∧a1W Tryz.prog 9=true:=⟨by kernel_rfl,by kernel_rfl⟩
theorem d9I:a3V Tryz.prog 22=some b9C∧a1W Tryz.prog 22=true:=⟨by kernel_rfl,by kernel_rfl⟩
theorem d9J:a3V Tryz.prog 24=some b9B∧a1W Tryz.prog 24=true:=⟨by kernel_rfl,by kernel_rfl⟩
theorem d9K:a3V Tryz.prog 25=some ti22∧a1W Tryz.prog 25=true:=⟨by kernel_rfl,by kernel_rfl⟩
theorem d9L:a3V Tryz.prog 26=some c5I∧a1W Tryz.prog 26=true:=⟨by kernel_rfl,by kernel_rfl⟩
theorem d9M:a3V Tryz.prog 27=some d0G∧a1W Tryz.prog 27=true:=⟨by kernel_rfl,by kernel_rfl⟩
theorem d9N:a3V Tryz.prog 29=some d6A∧a1W Tryz.prog 29=true:=⟨by kernel_rfl,by kernel_rfl⟩
theorem d9O:a3V Tryz.prog 31=some d6C∧a1W Tryz.prog 31=true:=⟨by kernel_rfl,by kernel_rfl⟩
theorem d9P:a3V Tryz.prog 33=some b9A∧a1W Tryz.prog 33=true:=⟨by kernel_rfl,by kernel_rfl⟩
theorem d9Q:a3V Tryz.prog 36=some d7t∧a1W Tryz.prog 36=true:=⟨by kernel_rfl,by kernel_rfl⟩
theorem d9R:a3V Tryz.prog 42=some a8l∧a1W Tryz.prog 42=true:=⟨by kernel_rfl,by kernel_rfl⟩
theorem d9S:a3V Tryz.prog 48=some a8k∧a1W Tryz.prog 48=true:=⟨by kernel_rfl,by kernel_rfl⟩
theorem d9T:a3V Tryz.prog 49=some ti58∧a1W Tryz.prog 49=true:=⟨by kernel_rfl,by kernel_rfl⟩
theorem d9U:a3V Tryz.prog 51=some ti1009∧a1W Tryz.prog 51=true:=⟨by kernel_rfl,by kernel_rfl⟩
theorem d9V:a3V Tryz.prog 56=some d6B∧a1W Tryz.prog 56=true:=⟨by kernel_rfl,by kernel_rfl⟩
theorem d9W:a3V Tryz.prog 70=some d7u∧a1W Tryz.prog 70=true:=⟨by kernel_rfl,by kernel_rfl⟩
theorem d9X:a3V Tryz.prog 73=some c3b∧a1W Tryz.prog 73=true:=⟨by kernel_rfl,by kernel_rfl⟩
theorem d9Y:a3V Tryz.prog 81=some ti101∧a1W Tryz.prog 81=true:=⟨by kernel_rfl,by kernel_rfl⟩
theorem d9Z:a3V Tryz.prog 84=some ti1006∧a1W Tryz.prog 84=true:=⟨by kernel_rfl,by kernel_rfl⟩
theorem d6D:a3V Tryz.prog 100=some c1H∧a1W Tryz.prog 100=true:=⟨by kernel_rfl,by kernel_rfl⟩
theorem d6E:a3V Tryz.prog 102=some ti82∧a1W Tryz.prog 102=true:=⟨by kernel_rfl,by kernel_rfl⟩
theorem d6F:a3V Tryz.prog 105=some c9T∧a1W Tryz.prog 105=true:=⟨by kernel_rfl,by kernel_rfl⟩
theorem d6G:a3V Tryz.prog 106=some c3d∧a1W Tryz.prog 106=true:=⟨by kernel_rfl,by kernel_rfl⟩
theorem d6H:a3V Tryz.prog 108=some ti1101∧a1W Tryz.prog 108=true:=⟨by kernel_rfl,by kernel_rfl⟩
theorem d6I:a3V Tryz.prog 112=some c3e∧a1W Tryz.prog 112=true:=⟨by kernel_rfl,by kernel_rfl⟩
theorem d6J:a3V Tryz.prog 114=some ti1106∧a1W Tryz.prog 114=true:=⟨by kernel_rfl,by kernel_rfl⟩
theorem d6K:a3V Tryz.prog 129=some d7v∧a1W Tryz.prog 129=true:=⟨by kernel_rfl,by kernel_rfl⟩
theorem d6L:a3V Tryz.prog 134=some ti106∧a1W Tryz.prog 134=true:=⟨by kernel_rfl,by kernel_rfl⟩
theorem d6M:a3V Tryz.prog 136=some c3c∧a1W Tryz.prog 136=true:=⟨by kernel_rfl,by kernel_rfl⟩
theorem d6N:a3V Tryz.prog 143=some ti78∧a1W Tryz.prog 143=true:=⟨by kernel_rfl,by kernel_rfl⟩
theorem d6O:a3V Tryz.prog 155=some b9D∧a1W Tryz.prog 155=true:=⟨by kernel_rfl,by kernel_rfl⟩
theorem d6P:a3V Tryz.prog 156=some b9E∧a1W Tryz.prog 156=true:=⟨by kernel_rfl,by kernel_rfl⟩
theorem d6Q:a3V Tryz.prog 160=some ti109∧a1W Tryz.prog 160=true:=⟨by kernel_rfl,by kernel_rfl⟩
theorem d6R:a3V Tryz.prog 194=some b9z∧a1W Tryz.prog 194=true:=⟨by kernel_rfl,by kernel_rfl⟩
theorem c5c:TabOK Tryz.prog tab:=c1G (show b0B Tryz.prog 0 d7s from ⟨tk3,tk4,tk5,tk9,d9I,d9J,d9K,d9L,d9M,d9N,d9O,d9P,d9Q,d9R,d9S,d9T,d9U,d9V,d9W,d9X,d9Y,d9Z,d6D,d6E,d6F,d6G,d6H,d6I,d6J,d6K,d6L,d6M,d6N,d6O,d6P,d6Q,d6R,trivial⟩)
theorem d9C:Tryz.prog.follows .mixedOrders=true:=by kernel_rfl
def fi_ (f:Func) (n:Nat) (k z b:List Nat) (s:Bool):FnI:=⟨f.body.getD .skip,f.results.toList,⟨n,k,z,b⟩,s⟩
noncomputable def i5:=fi_ Tryz.f5 99 [0,2,3,5,6,7,8,9,10,11,12,13,14,15,16,17,19,28,42,53,70,83] [14,1000009] [] true
noncomputable def i6:=fi_ Tryz.f6 15 [0,1,2] [4] [] false
noncomputable def i7:=fi_ Tryz.f7 29 [0,2,3,4,5,6,7,15] [] [] false
noncomputable def i8:=fi_ Tryz.f8 47 [0,1,2,3,4,5,7,8,9,13,28,29,30,31,40] [1,7] [] true
noncomputable def i9:=fi_ Tryz.f9 47 [0,1,2,3,4,5,6,7,12,31] [1] [] true
noncomputable def i10:=fi_ Tryz.f10 21 [0,1,3,4,5,6,7,14] [3] [] false
noncomputable def i11:=fi_ Tryz.f11 21 [0,1,3,4,5,6,7,14] [3] [] false
noncomputable def i14:=fi_ Tryz.f14 69 [0,2,3,4,5,6,7,8,9,10,11,14,33,43,66] [7,48,1000004] [] true
noncomputable def i17:=fi_ Tryz.f17 43 [0,1,4,5,6,7,8,16,23] [] [] true
noncomputable def i18:=fi_ Tryz.f18 13 [0,1,4] [] [] false
noncomputable def i20:=fi_ Tryz.f20 53 [0,1,2,4,5,6,7,8,9,11,12,13,14,15,21,22,23,24,33,42] [12,14] [] true
noncomputable def i22:=fi_ Tryz.f22 17 [0,1,2,3,4] [2,3] [] false
noncomputable def i24:=fi_ Tryz.f24 128 [0,1,2,3,4,5,6,7,8,9,10,11,12,13,14,15,19,27,51,63,71,90,120] [2,3,14,124] [] true
noncomputable def i25:=fi_ Tryz.f25 43 [0,1,2,3,4,5,16,27] [2,3] [] false
noncomputable def i26:=fi_ Tryz.f26 37 [0,1,4,5,6,7,16] [35] [] true
noncomputable def i27:=fi_ Tryz.f27 146 [0,1,2,6,7,8,9,10,11,12,13,14,23,33,49,61,62,68,82,116,134] [105,111,125,143] [] true
noncomputable def i28:=fi_ Tryz.f28 35 [0,1,2,4,5,9,11,12,13,14,19,23,30] [1,4] [] false
noncomputable def i29:=fi_ Tryz.f29 16 [0,1,4] [14] [] false
noncomputable def i30:=fi_ Tryz.f30 15 [0,2] [14] [] false
noncomputable def i31:=fi_ Tryz.f31 39 [0,1,2,3,4,5,9] [] [] true
noncomputable def i32:=fi_ Tryz.f32 36 [0,1,2,3,4,5,9,14,25,32,35] [1,4] [] false
noncomputable def i33:=fi_ Tryz.f33 23 [0,1,2,6,7,11] [20] [] false
noncomputable def i34:=fi_ Tryz.f34 25 [0,1,2,3,4,5,6,10] [1] [] true
noncomputable def i35:=fi_ Tryz.f35 13 [0,2] [] [] false
noncomputable def i36:=fi_ Tryz.f36 25 [0,2] [] [] false
noncomputable def i37:=fi_ Tryz.f37 67 [0,2,3,4,5,6,7,10,24,36,62] [] [60] true
noncomputable def i38:=fi_ Tryz.f38 10 [0,1,4] [] [] false
noncomputable def i42:=fi_ Tryz.f42 33 [0,2,3,4,5,9,20,25] [] [] false
noncomputable def i43:=fi_ Tryz.f43 35 [0,1,4,5,12] [] [] false
noncomputable def i45:=fi_ Tryz.f45 70 [0,2,3,4,5,6,7,8,9,14,40,60] [63] [] true
noncomputable def i46:=fi_ Tryz.f46 47 [0,1,2,3,4,5,6,7,8,10,14,27,28,29,30,36] [2,3,10] [] true
noncomputable def i47:=fi_ Tryz.f47 9 [0,1] [] [] false
noncomputable def i48:=fi_ Tryz.f48 13 [0,1,2,3,4,5,9] [2,3] [] false
noncomputable def i49:=fi_ Tryz.f49 28 [0,1,2,3,4] [2,3,25] [] false
noncomputable def i52:=fi_ Tryz.f52 26 [0,1,4,5,10,14,25] [] [] false
noncomputable def i53:=fi_ Tryz.f53 26 [0,1,4,5,10,14,25] [] [] false
noncomputable def i55:=fi_ Tryz.f55 24 [0,1,2,3,6,7,8,17] [3] [] false
noncomputable def i56:=fi_ Tryz.f56 96 [0,1,2,3,8,9,10,12,44,70] [89] [] true
noncomputable def i57:=fi_ Tryz.f57 35 [0,1,2,4,5,6,7,14,23] [] [] true
noncomputable def i58:=fi_ Tryz.f58 33 [0,1,3,4,5,6,7,25] [3,23] [] true
noncomputable def i59:=fi_ Tryz.f59 36 [0,2,3,5,6,8,9,10,11,12,20,25,26,27,28] [] [] false
noncomputable def i60:=fi_ Tryz.f60 10 [0,1,4] [7] [] true
noncomputable def i61:=fi_ Tryz.f61 45 [0,1,2,6,7,8,9,10,11,12,16,24] [12,35,42] [] true
noncomputable def i62:=fi_ Tryz.f62 49 [0,1,2,3,4,5,6,7,27,32] [2,3,44] [] true
noncomputable def i63:=fi_ Tryz.f63 64 [0,1,2,3,4,7,13,18,33,63] [1,3] [] false
noncomputable def i64:=fi_ Tryz.f64 191 [0,1,4,6,7,8,9,33,34,35,36,52,53,54,62,145,146,147,155] [33,69,162] [] false
noncomputable def i65:=fi_ Tryz.f65 23 [0,1,2,6,7,12] [20] [] false
noncomputable def i66:=fi_ Tryz.f66 20 [0,2,3,5,6,7,8,9] [] [] false
noncomputable def i67:=fi_ Tryz.f67 71 [0,1,2,3,4,5,6,9,16,22,31,56,61,70] [1,3] [] false
noncomputable def i68:=fi_ Tryz.f68 102 [0,1,2,3,4,5,6,35,83] [1,3] [] false
noncomputable def i69:=fi_ Tryz.f69 24 [0,1,2,6,7,11] [21] [] false
noncomputable def i70:=fi_ Tryz.f70 21 [0,2,3,4,8] [] [] false
noncomputable def i71:=fi_ Tryz.f71 19 [0,2,3,5,6,7,8,9] [] [] false
noncomputable def i78:=fi_ Tryz.f78 26 [0,1,4,5,10,14,25] [] [] false
noncomputable def i79:=fi_ Tryz.f79 13 [0,2] [] [] false
noncomputable def i80:=fi_ Tryz.f80 8 [0,2,4] [5] [] false
noncomputable def i81:=fi_ Tryz.f81 8 [0,2,4] [5] [] false
noncomputable def i82:=fi_ Tryz.f82 142 [0,1,3,4,5,6,7,8,9,10,11,12,13,14,35,43,49,62,85,121] [10,96,138] [] false
noncomputable def i83:=fi_ Tryz.f83 63 [0,1,2,6,7,8,9,13,30,35,54] [] [] false
noncomputable def i84:=fi_ Tryz.f84 18 [0,2,3,5,6,7,8,9,14] [] [] false
noncomputable def i85:=fi_ Tryz.f85 20 [0,1,4,5,6,11,12,13,16,19] [] [] false
noncomputable def i86:=fi_ Tryz.f86 65 [0,1,2,6,7,8,39] [] [] false
noncomputable def i87:=fi_ Tryz.f87 27 [0,1,4,6,16] [] [] false
noncomputable def i88:=fi_ Tryz.f88 29 [0,2,3,5,6,7,8,9,16,17] [] [] false
noncomputable def i89:=fi_ Tryz.f89 94 [0,1,2,3,8,9,10,11,12,13,14,24,51,56] [41,64,77,82] [] true
noncomputable def i90:=fi_ Tryz.f90 57 [0,1,2,3,4,5,6,16,29,40,48,54,56] [1] [] true
noncomputable def i91:=fi_ Tryz.f91 28 [0,1,2] [1] [] false
noncomputable def i92:=fi_ Tryz.f92 75 [0,1,2,4,5,6,7,8,9,14,22,23,24,25,64,69] [2] [] true
noncomputable def i93:=fi_ Tryz.f93 9 [0,1,4] [] [] false
noncomputable def i94:=fi_ Tryz.f94 6 [0,1,2] [1] [] false
noncomputable def i95:=fi_ Tryz.f95 68 [0,1,2,3,4,5,6,7,21,25,29,40,48,54,58,67] [1] [] false
noncomputable def i96:=fi_ Tryz.f96 38 [0,1,2,37] [1] [] false
noncomputable def i97:=fi_ Tryz.f97 74 [0,1,2,4,5,6,7,11,15,22,64,69] [2,7] [] false
noncomputable def i98:=fi_ Tryz.f98 12 [0,1,4] [] [] false
noncomputable def i99:=fi_ Tryz.f99 9 [0,1,4] [] [] false
noncomputable def d4i:FnI:=⟨Tryz.f100.body.getD .skip,Tryz.f100.results.toList,⟨24,[0,1,2,3,6,7,8,17],[3],[]⟩,false⟩
noncomputable def d4j:FnI:=⟨Tryz.f101.body.getD .skip,Tryz.f101.results.toList,⟨21,[0,1,2,3],[],[]⟩,false⟩
noncomputable def d4k:FnI:=⟨Tryz.f102.body.getD .skip,Tryz.f102.results.toList,⟨33,[0,1,2,3,4,5,6,7,15],[3],[]⟩,true⟩
noncomputable def d4l:FnI:=⟨Tryz.f103.body.getD .skip,Tryz.f103.results.toList,⟨15,[0,1,2,6,7],[],[]⟩,false⟩
noncomputable def d4m:FnI:=⟨Tryz.f105.body.getD .skip,Tryz.f105.results.toList,⟨8,[0,2,4],[5],[]⟩,true⟩
noncomputable def d4o:FnI:=⟨Tryz.f106.body.getD .skip,Tryz.f106.results.toList,⟨8,[0,2,4],[5],[]⟩,false⟩
noncomputable def d4p:FnI:=⟨Tryz.f107.body.getD .skip,Tryz.f107.results.toList,⟨53,[0,1,2,3,8,9,14,34],[],[]⟩,false⟩
noncomputable def d4q:FnI:=⟨Tryz.f109.body.getD .skip,Tryz.f109.results.toList,⟨6,[0,2],[],[]⟩,false⟩
noncomputable def d4r:FnI:=⟨Tryz.f110.body.getD .skip,Tryz.f110.results.toList,⟨24,[0,2,3,4,10],[14],[]⟩,false⟩
noncomputable def d4s:FnI:=⟨Tryz.f111.body.getD .skip,Tryz.f111.results.toList,⟨19,[0,2,4,5,10],[],[]⟩,false⟩
noncomputable def d4t:FnI:=⟨Tryz.f112.body.getD .skip,Tryz.f112.results.toList,⟨8,[0,2],[3],[]⟩,false⟩
noncomputable def d4u:FnI:=⟨Tryz.f113.body.getD .skip,Tryz.f113.results.toList,⟨27,[0,2,3,4,5,10,15],[6,24],[]⟩,true⟩
noncomputable def d4v:FnI:=⟨Tryz.f114.body.getD .skip,Tryz.f114.results.toList,⟨15,[0,1,2,6],[],[]⟩,false⟩
noncomputable def d4w:FnI:=⟨Tryz.f115.body.getD .skip,Tryz.f115.results.toList,⟨44,[0,2,3,5,6,9,10,11,12,13,19,28,42],[5],[]⟩,false⟩
noncomputable def d4x:FnI:=⟨Tryz.f116.body.getD .skip,Tryz.f116.results.toList,⟨26,[0,1,4,5,10,12,13,14,24],[],[]⟩,false⟩
noncomputable def d4y:FnI:=⟨Tryz.f117.body.getD .skip,Tryz.f117.results.toList,⟨9,[0,1,4],[],[]⟩,false⟩
noncomputable def d4z:FnI:=⟨Tryz.f118.body.getD .skip,Tryz.f118.results.toList,⟨7,[0,1,2],[1],[]⟩,false⟩
noncomputable def d4A:FnI:=⟨Tryz.f119.body.getD .skip,Tryz.f119.results.toList,⟨19,[0,1,4,5,7,8,9,16],[],[]⟩,false⟩
noncomputable def d4B:FnI:=⟨Tryz.f120.body.getD .skip,Tryz.f120.results.toList,⟨14,[0,2],[],[]⟩,false⟩
noncomputable def d4C:FnI:=⟨Tryz.f121.body.getD .skip,Tryz.f121.results.toList,⟨89,[0,2,3,4,5,6,7,10,14,23,27,54,87],[37],[]⟩,true⟩
noncomputable def d4D:FnI:=⟨Tryz.f122.body.getD .skip,Tryz.f122.results.toList,⟨42,[0,1,2,3,8,9,10,14,24],[30],[]⟩,true⟩
noncomputable def d4E:FnI:=⟨Tryz.f123.body.getD .skip,Tryz.f123.results.toList,⟨8,[0,1,2,3],[2],[]⟩,false⟩
noncomputable def d4F:FnI:=⟨Tryz.f124.body.getD .skip,Tryz.f124.results.toList,⟨49,[0,1,2,4,6,7,8,9,10,11,17,31],[4],[]⟩,false⟩
noncomputable def d4G:FnI:=⟨Tryz.f125.body.getD .skip,Tryz.f125.results.toList,⟨17,[0,1,2,3,4],[2,3,15],[]⟩,false⟩
noncomputable def d4H:FnI:=⟨Tryz.f129.body.getD .skip,Tryz.f129.results.toList,⟨12,[0,2,3],[4],[]⟩,false⟩
noncomputable def d4I:FnI:=⟨Tryz.f130.body.getD .skip,Tryz.f130.results.toList,⟨12,[0,2,3],[4],[]⟩,false⟩
noncomputable def d4J:FnI:=⟨Tryz.f131.body.getD .skip,Tryz.f131.results.toList,⟨38,[0,2,4,22,24,25,26,27,36],[],[]⟩,true⟩
noncomputable def d4K:FnI:=⟨Tryz.f132.body.getD .skip,Tryz.f132.results.toList,⟨9,[0,1],[],[]⟩,false⟩
noncomputable def d4L:FnI:=⟨Tryz.f133.body.getD .skip,Tryz.f133.results.toList,⟨10,[0,1,2,3,4],[2,3],[]⟩,false⟩
noncomputable def d4M:FnI:=⟨Tryz.f134.body.getD .skip,Tryz.f134.results.toList,⟨8,[0,1,4],[],[]⟩,false⟩
noncomputable def d4N:FnI:=⟨Tryz.f135.body.getD .skip,Tryz.f135.results.toList,⟨19,[0,1,4,5,7,8,9,16],[],[]⟩,false⟩
noncomputable def d4O:FnI:=⟨Tryz.f136.body.getD .skip,Tryz.f136.results.toList,⟨40,[0,2,3,22,26,39],[],[]⟩,false⟩
noncomputable def d4P:FnI:=⟨Tryz.f137.body.getD .skip,Tryz.f137.results.toList,⟨15,[0,1,2,6,7],[],[]⟩,false⟩
noncomputable def d4Q:FnI:=⟨Tryz.f141.body.getD .skip,Tryz.f141.results.toList,⟨8,[0,2],[],[]⟩,false⟩
noncomputable def d4R:FnI:=⟨Tryz.f142.body.getD .skip,Tryz.f142.results.toList,⟨12,[0,2],[],[]⟩,false⟩
noncomputable def d4S:FnI:=⟨Tryz.f143.body.getD .skip,Tryz.f143.results.toList,⟨63,[0,1,2,6,7,8,9,13,30,35,54],[],[]⟩,false⟩
noncomputable def d4T:FnI:=⟨Tryz.f144.body.getD .skip,Tryz.f144.results.toList,⟨8,[0,1,4],[],[]⟩,false⟩
noncomputable def d4U:FnI:=⟨Tryz.f145.body.getD .skip,Tryz.f145.results.toList,⟨17,[0,2],[],[]⟩,false⟩
noncomputable def d4V:FnI:=⟨Tryz.f146.body.getD .skip,Tryz.f146.results.toList,⟨13,[0,2],[],[]⟩,false⟩
noncomputable def d4W:FnI:=⟨Tryz.f147.body.getD .skip,Tryz.f147.results.toList,⟨49,[0,1,2,4,6,7,8,9,10,11,17,31],[4],[]⟩,false⟩
noncomputable def d4X:FnI:=⟨Tryz.f148.body.getD .skip,Tryz.f148.results.toList,⟨17,[0,1,2,3,4],[2,3,15],[]⟩,false⟩
noncomputable def d4Y:FnI:=⟨Tryz.f149.body.getD .skip,Tryz.f149.results.toList,⟨20,[0,1,4,5,6,11,12,13,16,19],[],[]⟩,false⟩
noncomputable def d4Z:FnI:=⟨Tryz.f153.body.getD .skip,Tryz.f153.results.toList,⟨53,[0,1,2,3,8,9,14,34],[],[]⟩,false⟩
noncomputable def d5a:FnI:=⟨Tryz.f156.body.getD .skip,Tryz.f156.results.toList,⟨9,[0,2],[],[]⟩,false⟩
noncomputable def d5b:FnI:=⟨Tryz.f157.body.getD .skip,Tryz.f157.results.toList,⟨6,[0,2],[],[]⟩,false⟩
noncomputable def d5c:FnI:=⟨Tryz.f178.body.getD .skip,Tryz.f178.results.toList,⟨16,[0,1,4],[],[]⟩,false⟩
noncomputable def d5d:FnI:=⟨Tryz.f179.body.getD .skip,Tryz.f179.results.toList,⟨16,[0,1],[],[]⟩,false⟩
noncomputable def d5e:FnI:=⟨Tryz.f180.body.getD .skip,Tryz.f180.results.toList,⟨21,[0,1],[],[]⟩,false⟩
noncomputable def d5f:FnI:=⟨Tryz.f181.body.getD .skip,Tryz.f181.results.toList,⟨28,[0,4,5,23],[],[]⟩,false⟩
noncomputable def d5g:FnI:=⟨Tryz.f182.body.getD .skip,Tryz.f182.results.toList,⟨10,[0,1],[],[]⟩,false⟩
noncomputable def d5h:FnI:=⟨Tryz.f183.body.getD .skip,Tryz.f183.results.toList,⟨22,[0,1,4,5,17],[],[]⟩,false⟩
noncomputable def d5i:FnI:=⟨Tryz.f184.body.getD .skip,Tryz.f184.results.toList,⟨42,[0,1,4,5,22],[],[]⟩,false⟩
noncomputable def d4f:List (Nat × FnI):=[(5,i5),(6,i6),(7,i7),(8,i8),(9,i9),(10,i10),(11,i11),(14,i14),(17,i17),(18,i18),(20,i20),(22,i22),(24,i24),(25,i25),(26,i26),(27,i27),(28,i28),(29,i29),(30,i30),(31,i31),(32,i32),(33,i33),(34,i34),(35,i35),(36,i36),(37,i37),(38,i38),(42,i42),(43,i43),(45,i45),(46,i46),(47,i47),(48,i48),(49,i49),(52,i52),(53,i53),(55,i55),(56,i56),(57,i57),(58,i58),(59,i59),(60,i60),(61,i61),(62,i62),(63,i63),(64,i64),(65,i65),(66,i66),(67,i67),(68,i68),(69,i69),(70,i70),(71,i71),(78,i78),(79,i79),(80,i80),(81,i81),(82,i82),(83,i83),(84,i84),(85,i85),(86,i86),(87,i87),(88,i88),(89,i89),(90,i90),(91,i91),(92,i92),(93,i93),(94,i94),(95,i95),(96,i96),(97,i97),(98,i98),(99,i99),(100,d4i),(101,d4j),(102,d4k),(103,d4l),(105,d4m),(106,d4o),(107,d4p),(109,d4q),(110,d4r),(111,d4s),(112,d4t),(113,d4u),(114,d4v),(115,d4w),(116,d4x),(117,d4y),(118,d4z),(119,d4A),(120,d4B),(121,d4C),(122,d4D),(123,d4E),(124,d4F),(125,d4G),(129,d4H),(130,d4I),(131,d4J),(132,d4K),(133,d4L),(134,d4M),(135,d4N),(136,d4O),(137,d4P),(141,d4Q),(142,d4R),(143,d4S),(144,d4T),(145,d4U),(146,d4V),(147,d4W),(148,d4X),(149,d4Y),(153,d4Z),(156,d5a),(157,d5b),(178,d5c),(179,d5d),(180,d5e),(181,d5f),(182,d5g),(183,d5h),(184,d5i)]
noncomputable def Fs:FuncId→Option FnI:=d0z d4f
theorem fk5:FnOK Tryz.prog 5 i5 := .of Tryz.func5 (by kernel_rfl) (by kernel_rfl) (by kernel_rfl) Tryz.call5
theorem fk6:FnOK Tryz.prog 6 i6 := .of Tryz.func6 (by kernel_rfl) (by kernel_rfl) (by kernel_rfl) Tryz.call6
theorem fk7:FnOK Tryz.prog 7 i7 := .of Tryz.func7 (by kernel_rfl) (by kernel_rfl) (by kernel_rfl) Tryz.call7
theorem fk8:FnOK Tryz.prog 8 i8 := .of Tryz.func8 (by kernel_rfl) (by kernel_rfl) (by kernel_rfl) Tryz.call8
theorem fk9:FnOK Tryz.prog 9 i9 := .of Tryz.func9 (by kernel_rfl) (by kernel_rfl) (by kernel_rfl) Tryz.call9
theorem d7F:FnOK Tryz.prog 10 i10 := .of Tryz.func10 (by kernel_rfl) (by kernel_rfl) (by kernel_rfl) Tryz.call10
theorem d7G:FnOK Tryz.prog 11 i11 := .of Tryz.func11 (by kernel_rfl) (by kernel_rfl) (by kernel_rfl) Tryz.call11
theorem d7H:FnOK Tryz.prog 14 i14 := .of Tryz.func14 (by kernel_rfl) (by kernel_rfl) (by kernel_rfl) Tryz.call14
theorem d7I:FnOK Tryz.prog 17 i17 := .of Tryz.func17 (by kernel_rfl) (by kernel_rfl) (by kernel_rfl) Tryz.call17
theorem d7J:FnOK Tryz.prog 18 i18 := .of Tryz.func18 (by kernel_rfl) (by kernel_rfl) (by kernel_rfl) Tryz.call18
theorem d7K:FnOK Tryz.prog 20 i20 := .of Tryz.func20 (by kernel_rfl) (by kernel_rfl) (by kernel_rfl) Tryz.call20
theorem d7L:FnOK Tryz.prog 22 i22 := .of Tryz.func22 (by kernel_rfl) (by kernel_rfl) (by kernel_rfl) Tryz.call22
theorem d7M:FnOK Tryz.prog 24 i24 := .of Tryz.func24 (by kernel_rfl) (by kernel_rfl) (by kernel_rfl) Tryz.call24
theorem d7N:FnOK Tryz.prog 25 i25 := .of Tryz.func25 (by kernel_rfl) (by kernel_rfl) (by kernel_rfl) Tryz.call25
theorem d7O:FnOK Tryz.prog 26 i26 := .of Tryz.func26 (by kernel_rfl) (by kernel_rfl) (by kernel_rfl) Tryz.call26
theorem d7P:FnOK Tryz.prog 27 i27 := .of Tryz.func27 (by kernel_rfl) (by kernel_rfl) (by kernel_rfl) Tryz.call27
theorem d7Q:FnOK Tryz.prog 28 i28 := .of Tryz.func28 (by kernel_rfl) (by kernel_rfl) (by kernel_rfl) Tryz.call28
theorem d7R:FnOK Tryz.prog 29 i29 := .of Tryz.func29 (by kernel_rfl) (by kernel_rfl) (by kernel_rfl) Tryz.call29
theorem d7S:FnOK Tryz.prog 30 i30 := .of Tryz.func30 (by kernel_rfl) (by kernel_rfl) (by kernel_rfl) Tryz.call30
theorem d7T:FnOK Tryz.prog 31 i31 := .of Tryz.func31 (by kernel_rfl) (by kernel_rfl) (by kernel_rfl) Tryz.call31
theorem d7U:FnOK Tryz.prog 32 i32 := .of Tryz.func32 (by kernel_rfl) (by kernel_rfl) (by kernel_rfl) Tryz.call32
theorem d7V:FnOK Tryz.prog 33 i33 := .of Tryz.func33 (by kernel_rfl) (by kernel_rfl) (by kernel_rfl) Tryz.call33
theorem d7W:FnOK Tryz.prog 34 i34 := .of Tryz.func34 (by kernel_rfl) (by kernel_rfl) (by kernel_rfl) Tryz.call34
theorem d7X:FnOK Tryz.prog 35 i35 := .of Tryz.func35 (by kernel_rfl) (by kernel_rfl) (by kernel_rfl) Tryz.call35
theorem d7Y:FnOK Tryz.prog 36 i36 := .of Tryz.func36 (by kernel_rfl) (by kernel_rfl) (by kernel_rfl) Tryz.call36
theorem d7Z:FnOK Tryz.prog 37 i37 := .of Tryz.func37 (by kernel_rfl) (by kernel_rfl) (by kernel_rfl) Tryz.call37
theorem d8a:FnOK Tryz.prog 38 i38 := .of Tryz.func38 (by kernel_rfl) (by kernel_rfl) (by kernel_rfl) Tryz.call38
theorem d8b:FnOK Tryz.prog 42 i42 := .of Tryz.func42 (by kernel_rfl) (by kernel_rfl) (by kernel_rfl) Tryz.call42
theorem d8c:FnOK Tryz.prog 43 i43 := .of Tryz.func43 (by kernel_rfl) (by kernel_rfl) (by kernel_rfl) Tryz.call43
theorem d8d:FnOK Tryz.prog 45 i45 := .of Tryz.func45 (by kernel_rfl) (by kernel_rfl) (by kernel_rfl) Tryz.call45
theorem d8e:FnOK Tryz.prog 46 i46 := .of Tryz.func46 (by kernel_rfl) (by kernel_rfl) (by kernel_rfl) Tryz.call46
theorem d8f:FnOK Tryz.prog 47 i47 := .of Tryz.func47 (by kernel_rfl) (by kernel_rfl) (by kernel_rfl) Tryz.call47
theorem d8g:FnOK Tryz.prog 48 i48 := .of Tryz.func48 (by kernel_rfl) (by kernel_rfl) (by kernel_rfl) Tryz.call48
theorem d8h:FnOK Tryz.prog 49 i49 := .of Tryz.func49 (by kernel_rfl) (by kernel_rfl) (by kernel_rfl) Tryz.call49
theorem d8i:FnOK Tryz.prog 52 i52 := .of Tryz.func52 (by kernel_rfl) (by kernel_rfl) (by kernel_rfl) Tryz.call52
theorem d8j:FnOK Tryz.prog 53 i53 := .of Tryz.func53 (by kernel_rfl) (by kernel_rfl) (by kernel_rfl) Tryz.call53
theorem d8k:FnOK Tryz.prog 55 i55 := .of Tryz.func55 (by kernel_rfl) (by kernel_rfl) (by kernel_rfl) Tryz.call55
theorem d8l:FnOK Tryz.prog 56 i56 := .of Tryz.func56 (by kernel_rfl) (by kernel_rfl) (by kernel_rfl) Tryz.call56
theorem d8m:FnOK Tryz.prog 57 i57 := .of Tryz.func57 (by kernel_rfl) (by kernel_rfl) (by kernel_rfl) Tryz.call57
theorem d8n:FnOK Tryz.prog 58 i58 := .of Tryz.func58 (by kernel_rfl) (by kernel_rfl) (by kernel_rfl) Tryz.call58
theorem d8o:FnOK Tryz.prog 59 i59 := .of Tryz.func59 (by kernel_rfl) (by kernel_rfl) (by kernel_rfl) Tryz.call59
theorem d8p:FnOK Tryz.prog 60 i60 := .of Tryz.func60 (by kernel_rfl) (by kernel_rfl) (by kernel_rfl) Tryz.call60
theorem d8q:FnOK Tryz.prog 61 i61 := .of Tryz.func61 (by kernel_rfl) (by kernel_rfl) (by kernel_rfl) Tryz.call61
theorem d8r:FnOK Tryz.prog 62 i62 := .of Tryz.func62 (by kernel_rfl) (by kernel_rfl) (by kernel_rfl) Tryz.call62
theorem d8s:FnOK Tryz.prog 63 i63 := .of Tryz.func63 (by kernel_rfl) (by kernel_rfl) (by kernel_rfl) Tryz.call63
theorem d8t:FnOK Tryz.prog 64 i64 := .of Tryz.func64 (by kernel_rfl) (by kernel_rfl) (by kernel_rfl) Tryz.call64
theorem d8u:FnOK Tryz.prog 65 i65 := .of Tryz.func65 (by kernel_rfl) (by kernel_rfl) (by kernel_rfl) Tryz.call65
theorem d8v:FnOK Tryz.prog 66 i66 := .of Tryz.func66 (by kernel_rfl) (by kernel_rfl) (by kernel_rfl) Tryz.call66
theorem d8w:FnOK Tryz.prog 67 i67 := .of Tryz.func67 (by kernel_rfl) (by kernel_rfl) (by kernel_rfl) Tryz.call67
theorem d8x:FnOK Tryz.prog 68 i68 := .of Tryz.func68 (by kernel_rfl) (by kernel_rfl) (by kernel_rfl) Tryz.call68
theorem d8y:FnOK Tryz.prog 69 i69 := .of Tryz.func69 (by kernel_rfl) (by kernel_rfl) (by kernel_rfl) Tryz.call69
theorem d8z:FnOK Tryz.prog 70 i70 := .of Tryz.func70 (by kernel_rfl) (by kernel_rfl) (by kernel_rfl) Tryz.call70
theorem d8A:FnOK Tryz.prog 71 i71 := .of Tryz.func71 (by kernel_rfl) (by kernel_rfl) (by kernel_rfl) Tryz.call71
theorem d8B:FnOK Tryz.prog 78 i78 := .of Tryz.func78 (by kernel_rfl) (by kernel_rfl) (by kernel_rfl) Tryz.call78
theorem d8C:FnOK Tryz.prog 79 i79 := .of Tryz.func79 (by kernel_rfl) (by kernel_rfl) (by kernel_rfl) Tryz.call79
theorem d8D:FnOK Tryz.prog 80 i80 := .of Tryz.func80 (by kernel_rfl) (by kernel_rfl) (by kernel_rfl) Tryz.call80
theorem d8E:FnOK Tryz.prog 81 i81 := .of Tryz.func81 (by kernel_rfl) (by kernel_rfl) (by kernel_rfl) Tryz.call81
theorem d8F:FnOK Tryz.prog 82 i82 := .of Tryz.func82 (by kernel_rfl) (by kernel_rfl) (by kernel_rfl) Tryz.call82
theorem d8G:FnOK Tryz.prog 83 i83 := .of Tryz.func83 (by kernel_rfl) (by kernel_rfl) (by kernel_rfl) Tryz.call83
theorem d8H:FnOK Tryz.prog 84 i84 := .of Tryz.func84 (by kernel_rfl) (by kernel_rfl) (by kernel_rfl) Tryz.call84
theorem d8I:FnOK Tryz.prog 85 i85 := .of Tryz.func85 (by kernel_rfl) (by kernel_rfl) (by kernel_rfl) Tryz.call85
theorem d8J:FnOK Tryz.prog 86 i86 := .of Tryz.func86 (by kernel_rfl) (by kernel_rfl) (by kernel_rfl) Tryz.call86
theorem d8K:FnOK Tryz.prog 87 i87 := .of Tryz.func87 (by kernel_rfl) (by kernel_rfl) (by kernel_rfl) Tryz.call87
theorem d8L:FnOK Tryz.prog 88 i88 := .of Tryz.func88 (by kernel_rfl) (by kernel_rfl) (by kernel_rfl) Tryz.call88
theorem d8M:FnOK Tryz.prog 89 i89 := .of Tryz.func89 (by kernel_rfl) (by kernel_rfl) (by kernel_rfl) Tryz.call89
theorem d8N:FnOK Tryz.prog 90 i90 := .of Tryz.func90 (by kernel_rfl) (by kernel_rfl) (by kernel_rfl) Tryz.call90
theorem d8O:FnOK Tryz.prog 91 i91 := .of Tryz.func91 (by kernel_rfl) (by kernel_rfl) (by kernel_rfl) Tryz.call91
theorem d8P:FnOK Tryz.prog 92 i92 := .of Tryz.func92 (by kernel_rfl) (by kernel_rfl) (by kernel_rfl) Tryz.call92
theorem d8Q:FnOK Tryz.prog 93 i93 := .of Tryz.func93 (by kernel_rfl) (by kernel_rfl) (by kernel_rfl) Tryz.call93
theorem d8R:FnOK Tryz.prog 94 i94 := .of Tryz.func94 (by kernel_rfl) (by kernel_rfl) (by kernel_rfl) Tryz.call94
theorem d8S:FnOK Tryz.prog 95 i95 := .of Tryz.func95 (by kernel_rfl) (by kernel_rfl) (by kernel_rfl) Tryz.call95
theorem d8T:FnOK Tryz.prog 96 i96 := .of Tryz.func96 (by kernel_rfl) (by kernel_rfl) (by kernel_rfl) Tryz.call96
theorem d8U:FnOK Tryz.prog 97 i97 := .of Tryz.func97 (by kernel_rfl) (by kernel_rfl) (by kernel_rfl) Tryz.call97
theorem d8V:FnOK Tryz.prog 98 i98 := .of Tryz.func98 (by kernel_rfl) (by kernel_rfl) (by kernel_rfl) Tryz.call98
theorem d8W:FnOK Tryz.prog 99 i99 := .of Tryz.func99 (by kernel_rfl) (by kernel_rfl) (by kernel_rfl) Tryz.call99
theorem d2U:FnOK Tryz.prog 100 d4i := .of Tryz.func100 (by kernel_rfl) (by kernel_rfl) (by kernel_rfl) Tryz.call100
theorem d2V:FnOK Tryz.prog 101 d4j := .of Tryz.func101 (by kernel_rfl) (by kernel_rfl) (by kernel_rfl) Tryz.call101
theorem d2W:FnOK Tryz.prog 102 d4k := .of Tryz.func102 (by kernel_rfl) (by kernel_rfl) (by kernel_rfl) Tryz.call102
theorem d2X:FnOK Tryz.prog 103 d4l := .of Tryz.func103 (by kernel_rfl) (by kernel_rfl) (by kernel_rfl) Tryz.call103
theorem d2Y:FnOK Tryz.prog 105 d4m := .of Tryz.func105 (by kernel_rfl) (by kernel_rfl) (by kernel_rfl) Tryz.call105
theorem d2Z:FnOK Tryz.prog 106 d4o := .of Tryz.func106 (by kernel_rfl) (by kernel_rfl) (by kernel_rfl) Tryz.call106
theorem d3a:FnOK Tryz.prog 107 d4p := .of Tryz.func107 (by kernel_rfl) (by kernel_rfl) (by kernel_rfl) Tryz.call107
theorem d3c:FnOK Tryz.prog 109 d4q := .of Tryz.func109 (by kernel_rfl) (by kernel_rfl) (by kernel_rfl) Tryz.call109
theorem d3d:FnOK Tryz.prog 110 d4r := .of Tryz.func110 (by kernel_rfl) (by kernel_rfl) (by kernel_rfl) Tryz.call110
theorem d3e:FnOK Tryz.prog 111 d4s := .of Tryz.func111 (by kernel_rfl) (by kernel_rfl) (by kernel_rfl) Tryz.call111
theorem d3f:FnOK Tryz.prog 112 d4t := .of Tryz.func112 (by kernel_rfl) (by kernel_rfl) (by kernel_rfl) Tryz.call112
theorem d3g:FnOK Tryz.prog 113 d4u := .of Tryz.func113 (by kernel_rfl) (by kernel_rfl) (by kernel_rfl) Tryz.call113
theorem d3h:FnOK Tryz.prog 114 d4v := .of Tryz.func114 (by kernel_rfl) (by kernel_rfl) (by kernel_rfl) Tryz.call114
theorem d3i:FnOK Tryz.prog 115 d4w := .of Tryz.func115 (by kernel_rfl) (by kernel_rfl) (by kernel_rfl) Tryz.call115
theorem d3j:FnOK Tryz.prog 116 d4x := .of Tryz.func116 (by kernel_rfl) (by kernel_rfl) (by kernel_rfl) Tryz.call116
theorem d3k:FnOK Tryz.prog 117 d4y := .of Tryz.func117 (by kernel_rfl) (by kernel_rfl) (by kernel_rfl) Tryz.call117
theorem d3l:FnOK Tryz.prog 118 d4z := .of Tryz.func118 (by kernel_rfl) (by kernel_rfl) (by kernel_rfl) Tryz.call118
theorem d3m:FnOK Tryz.prog 119 d4A := .of Tryz.func119 (by kernel_rfl) (by kernel_rfl) (by kernel_rfl) Tryz.call119
theorem d3o:FnOK Tryz.prog 120 d4B := .of Tryz.func120 (by kernel_rfl) (by kernel_rfl) (by kernel_rfl) Tryz.call120
theorem d3p:FnOK Tryz.prog 121 d4C := .of Tryz.func121 (by kernel_rfl) (by kernel_rfl) (by kernel_rfl) Tryz.call121
theorem d3q:FnOK Tryz.prog 122 d4D := .of Tryz.func122 (by kernel_rfl) (by kernel_rfl) (by kernel_rfl) Tryz.call122
theorem d3r:FnOK Tryz.prog 123 d4E := .of Tryz.func123 (by kernel_rfl) (by kernel_rfl) (by kernel_rfl) Tryz.call123
theorem d3s:FnOK Tryz.prog 124 d4F := .of Tryz.func124 (by kernel_rfl) (by kernel_rfl) (by kernel_rfl) Tryz.call124
theorem d3t:FnOK Tryz.prog 125 d4G := .of Tryz.func125 (by kernel_rfl) (by kernel_rfl) (by kernel_rfl) Tryz.call125
theorem d3u:FnOK Tryz.prog 129 d4H := .of Tryz.func129 (by kernel_rfl) (by kernel_rfl) (by kernel_rfl) Tryz.call129
theorem d3v:FnOK Tryz.prog 130 d4I := .of Tryz.func130 (by kernel_rfl) (by kernel_rfl) (by kernel_rfl) Tryz.call130
theorem d3w:FnOK Tryz.prog 131 d4J := .of Tryz.func131 (by kernel_rfl) (by kernel_rfl) (by kernel_rfl) Tryz.call131
theorem d3x:FnOK Tryz.prog 132 d4K := .of Tryz.func132 (by kernel_rfl) (by kernel_rfl) (by kernel_rfl) Tryz.call132
theorem d3y:FnOK Tryz.prog 133 d4L := .of Tryz.func133 (by kernel_rfl) (by kernel_rfl) (by kernel_rfl) Tryz.call133
theorem d3z:FnOK Tryz.prog 134 d4M := .of Tryz.func134 (by kernel_rfl) (by kernel_rfl) (by kernel_rfl) Tryz.call134
theorem d3A:FnOK Tryz.prog 135 d4N := .of Tryz.func135 (by kernel_rfl) (by kernel_rfl) (by kernel_rfl) Tryz.call135
theorem d3B:FnOK Tryz.prog 136 d4O := .of Tryz.func136 (by kernel_rfl) (by kernel_rfl) (by kernel_rfl) Tryz.call136
theorem d3C:FnOK Tryz.prog 137 d4P := .of Tryz.func137 (by kernel_rfl) (by kernel_rfl) (by kernel_rfl) Tryz.call137
theorem d3D:FnOK Tryz.prog 141 d4Q := .of Tryz.func141 (by kernel_rfl) (by kernel_rfl) (by kernel_rfl) Tryz.call141
theorem d3E:FnOK Tryz.prog 142 d4R := .of Tryz.func142 (by kernel_rfl) (by kernel_rfl) (by kernel_rfl) Tryz.call142
theorem d3F:FnOK Tryz.prog 143 d4S := .of Tryz.func143 (by kernel_rfl) (by kernel_rfl) (by kernel_rfl) Tryz.call143
theorem d3G:FnOK Tryz.prog 144 d4T := .of Tryz.func144 (by kernel_rfl) (by kernel_rfl) (by kernel_rfl) Tryz.call144
theorem d3H:FnOK Tryz.prog 145 d4U := .of Tryz.func145 (by kernel_rfl) (by kernel_rfl) (by kernel_rfl) Tryz.call145
theorem d3I:FnOK Tryz.prog 146 d4V := .of Tryz.func146 (by kernel_rfl) (by kernel_rfl) (by kernel_rfl) Tryz.call146
theorem d3J:FnOK Tryz.prog 147 d4W := .of Tryz.func147 (by kernel_rfl) (by kernel_rfl) (by kernel_rfl) Tryz.call147
theorem d3K:FnOK Tryz.prog 148 d4X := .of Tryz.func148 (by kernel_rfl) (by kernel_rfl) (by kernel_rfl) Tryz.call148
theorem d3L:FnOK Tryz.prog 149 d4Y := .of Tryz.func149 (by kernel_rfl) (by kernel_rfl) (by kernel_rfl) Tryz.call149
theorem d3M:FnOK Tryz.prog 153 d4Z := .of Tryz.func153 (by kernel_rfl) (by kernel_rfl) (by kernel_rfl) Tryz.call153
theorem d3N:FnOK Tryz.prog 156 d5a := .of Tryz.func156 (by kernel_rfl) (by kernel_rfl) (by kernel_rfl) Tryz.call156
theorem d3O:FnOK Tryz.prog 157 d5b := .of Tryz.func157 (by kernel_rfl) (by kernel_rfl) (by kernel_rfl) Tryz.call157
theorem d3P:FnOK Tryz.prog 178 d5c := .of Tryz.func178 (by kernel_rfl) (by kernel_rfl) (by kernel_rfl) Tryz.call178
theorem d3Q:FnOK Tryz.prog 179 d5d := .of Tryz.func179 (by kernel_rfl) (by kernel_rfl) (by kernel_rfl) Tryz.call179
theorem d3R:FnOK Tryz.prog 180 d5e := .of Tryz.func180 (by kernel_rfl) (by kernel_rfl) (by kernel_rfl) Tryz.call180
theorem d3S:FnOK Tryz.prog 181 d5f := .of Tryz.func181 (by kernel_rfl) (by kernel_rfl) (by kernel_rfl) Tryz.call181
theorem d3T:FnOK Tryz.prog 182 d5g := .of Tryz.func182 (by kernel_rfl) (by kernel_rfl) (by kernel_rfl) Tryz.call182
theorem d3U:FnOK Tryz.prog 183 d5h := .of Tryz.func183 (by kernel_rfl) (by kernel_rfl) (by kernel_rfl) Tryz.call183
theorem d3V:FnOK Tryz.prog 184 d5i := .of Tryz.func184 (by kernel_rfl) (by kernel_rfl) (by kernel_rfl) Tryz.call184
theorem d4g:c3A Tryz.prog d4f:=⟨fk5,fk6,fk7,fk8,fk9,d7F,d7G,d7H,d7I,d7J,d7K,d7L,d7M,d7N,d7O,d7P,d7Q,d7R,d7S,d7T,d7U,d7V,d7W,d7X,d7Y,d7Z,d8a,d8b,d8c,d8d,d8e,d8f,d8g,d8h,d8i,d8j,d8k,d8l,d8m,d8n,d8o,d8p,d8q,d8r,d8s,d8t,d8u,d8v,d8w,d8x,d8y,d8z,d8A,d8B,d8C,d8D,d8E,d8F,d8G,d8H,d8I,d8J,d8K,d8L,d8M,d8N,d8O,d8P,d8Q,d8R,d8S,d8T,d8U,d8V,d8W,d2U,d2V,d2W,d2X,d2Y,d2Z,d3a,d3c,d3d,d3e,d3f,d3g,d3h,d3i,d3j,d3k,d3l,d3m,d3o,d3p,d3q,d3r,d3s,d3t,d3u,d3v,d3w,d3x,d3y,d3z,d3A,d3B,d3C,d3D,d3E,d3F,d3G,d3H,d3I,d3J,d3K,d3L,d3M,d3N,d3O,d3P,d3Q,d3R,d3S,d3T,d3U,d3V,trivial⟩
def kinZ:List Int:=[0,0,0,0,0,0,0,0,0,4,0,0,0,0,0,0,0,0,0,0,0,0,0,0,0,0,0,0,0,0,0,0,4,0,0,0,0,0,0,0,0,0,0,0,0,0,0,0,1,1,1,1,1,1,1,1,1,1,0,0,0,0,0,0,0,2,2,2,2,2,2,2,2,2,2,2,2,2,2,2,2,2,2,2,2,2,2,2,2,2,2,0,0,0,0,0,0,2,2,2,2,2,2,2,2,2,2,2,2,2,2,2,2,2,2,2,2,2,2,2,2,2,2,0,0,0,0,0,0,0,0,0,0,0,0,0,0,0,0,0,0,0,0,0,0,0,0,0,0,0,0,0,0,0,0,0,0,0,0,0,0,0,0,0,0,0,0,0,0,0,0,0,0,0,0,0,0,0,0,0,0,0,0,0,0,0,0,0,0,0,0,0,0,0,0,0,0,0,0,0,0,0,0,0,0,0,0,0,0,0,0,0,0,0,0,0,0,0,0,0,0,0,0,0,0,0,0,0,0,0,0,0,0,0,0,0,0,0,0,0,0,0,0,0,0,0,0,0,0,0,0,0,0,0,0,0]
def kin:List D:=kinZ.map fun z => .int .u8 z
noncomputable def gl:Nat→Option D:=fun i=>if i=0 then some (.fptr kin) else none
abbrev b1g:Nat:=155
theorem c7Y (vs:Array Value) (w:World):(callFunc 155 vs).run Tryz.prog w=((Extern.BytealgCompare.compare vs).run Tryz.prog w).andThen fun v w' => .ok (.value v) w':=run_callFunc_extern Tryz.func155 (by kernel_rfl) (by kernel_rfl) (by kernel_rfl) (by kernel_rfl) vs w
theorem c0C {args:List D} {h h':Hp} {d:D} (hd:d0k args h=some (d,h')) {g:Gh} {vs:List Value} (hi:Inv g h) (hr:RepL g vs args):CallAt Tryz.prog 155 vs g h' d:=by
 unfold d0k at hd
 split at hd
 ·injection hd with hd
  injection hd with h1 h2
  subst h1;subst h2
  exact b6C c7Y hi hr
 ·cases hd
abbrev a8J:Nat:=104
abbrev c8c:Nat:=138
noncomputable def xt:a1y:=fun f args h=>if f=b1g then d0k args h else if f=a8J then b3M a0Q ti1006 args h else if f=c8c then b3M a1k ti106 args h else none
theorem e0d (X:Cx):a2B Tryz.prog X xt:=fun f args h d h' hd g vs hi hgl hr=>by
 unfold xt at hd
 split at hd
 ·rename_i hf
  subst hf
  exact c0C hd hi hr
 ·skip
  split at hd
  ·rename_i hf
   subst hf
   exact c2w c5c c4d Tryz.call104 c9b (show tab 48=some a8k from rfl) rfl (show tab 84=some ti1006 from rfl) (show tab 3=some ti3 from rfl) rfl rfl (by decide) hd hi hr
  ·skip
   split at hd
   ·rename_i hf
    subst hf
    exact c2w c5c c4e Tryz.call138 c9c (show tab 49=some ti58 from rfl) rfl (show tab 134=some ti106 from rfl) (show tab 3=some ti3 from rfl) rfl rfl (by decide) hd hi hr
   ·skip
    cases hd
noncomputable def X:Cx:=⟨tab,gl,xt⟩
noncomputable def R:a1y:=run X Fs
theorem er (fi:FnI) {f:FuncId} {args:List D} {h:Hp} {x:Option (D × Hp)} (hf:Fs f=some fi) (hx:fnR X R a0J fi args h=x):R f args h=x:=(c9k hf args h).trans hx
theorem d7y:a2B Tryz.prog X R:=c9m (X:=X) c5c d9C (e0d X) (c2u d4f d4g)
theorem e0c (a b:List UInt8) (h:Hp):R b1g [.str a,.str b] h=some (.int .i64 (Lib.compareBytes a b),h):=(b9k (X:=X) (F:=Fs) (by kernel_rfl) _ _).trans (by simp [X,xt,d0k])
theorem c1M (args:List D) (h:Hp):R a8J args h=b3M a0Q ti1006 args h:=(b9k (X:=X) (F:=Fs) (by kernel_rfl) _ _).trans (by simp only [X,xt,show ¬ (a8J=b1g) by decide,if_true,if_false])
theorem d0g (args:List D) (h:Hp):R c8c args h=b3M a1k ti106 args h:=(b9k (X:=X) (F:=Fs) (by kernel_rfl) _ _).trans (by simp only [X,xt,show ¬ (c8c=b1g) by decide,show ¬ (c8c=a8J) by decide,if_true,if_false])
end Go.Proofs.YthaajlepgblimaaGreatDoor
