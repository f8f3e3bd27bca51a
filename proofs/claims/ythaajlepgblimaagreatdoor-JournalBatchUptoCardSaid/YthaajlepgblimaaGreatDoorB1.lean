/- The tables of this seat: its types, and how its functions are carried out on data. -/
import Derived.Test.YthaajlepgblimaaGreatDoorPiW
import Derived.Test.YthaajlepgblimaaGreatDoorChecked
import Derived.KernelRfl
set_option linter.unusedSimpArgs false
set_option linter.unusedVariables false
set_option linter.unnecessarySimpa false
namespace Go.Proofs.YthaajlepgblimaaGreatDoor
open Go.Eng Go.Pi
abbrev ty3 : Nat := 3
abbrev ty4 : Nat := 4
abbrev ty5 : Nat := 5
abbrev ty9 : Nat := 9
abbrev a0K : Nat := 22
abbrev a0q : Nat := 24
abbrev a0H : Nat := 25
abbrev a1u : Nat := 26
abbrev a1c : Nat := 27
abbrev a0E : Nat := 29
abbrev a0D : Nat := 31
abbrev a1G : Nat := 33
abbrev a5n : Nat := 36
abbrev a2i : Nat := 42
abbrev a3p : Nat := 70
abbrev a0J : Nat := 73
abbrev a4V : Nat := 81
abbrev a4p : Nat := 100
abbrev b1i : Nat := 102
abbrev a5m : Nat := 105
abbrev a4K : Nat := 106
abbrev a2j : Nat := 108
abbrev a3J : Nat := 112
abbrev a1M : Nat := 114
abbrev a0m : Nat := 116
abbrev a5r : Nat := 129
abbrev a1A : Nat := 143
abbrev c0O : Nat := 155
abbrev a5Z : Nat := 156
abbrev a0w : Nat := 160
abbrev b3T : Nat := 194
abbrev b6h : Nat := 3
abbrev b5J : Nat := 6
abbrev b3f : Nat := 7
abbrev a8l : Nat := 8
abbrev a8k : Nat := 9
abbrev b6f : Nat := 10
abbrev b3g : Nat := 11
abbrev b0o : Nat := 12
abbrev b5Z : Nat := 13
abbrev b3o : Nat := 14
abbrev b3q : Nat := 15
abbrev b3p : Nat := 16
abbrev b5K : Nat := 17
abbrev c9O : Nat := 18
abbrev b2Z : Nat := 26
abbrev b3d : Nat := 27
abbrev b6a : Nat := 28
abbrev b0B : Nat := 29
abbrev a7s : Nat := 30
abbrev b3j : Nat := 31
abbrev b6b : Nat := 32
abbrev a4s : Nat := 33
abbrev b3h : Nat := 34
abbrev a8m : Nat := 35
abbrev a7v : Nat := 36
abbrev b0w : Nat := 37
abbrev b6g : Nat := 38
abbrev a6y : Nat := 39
abbrev b0x : Nat := 40
abbrev c9P : Nat := 41
abbrev b5M : Nat := 42
abbrev a5q : Nat := 43
abbrev a8i : Nat := 59
abbrev b5L : Nat := 60
abbrev c6N : Nat := 61
abbrev b3e : Nat := 62
abbrev a5P : Nat := 63
abbrev b0y : Nat := 64
abbrev a4h : Nat := 65
abbrev b3k : Nat := 66
abbrev a7r : Nat := 67
abbrev b3i : Nat := 68
abbrev a3A : Nat := 69
abbrev b0v : Nat := 70
abbrev a6z : Nat := 71
abbrev a3d : Nat := 72
abbrev a4u : Nat := 73
abbrev a3B : Nat := 74
abbrev b0z : Nat := 75
abbrev b0A : Nat := 76
abbrev c9Q : Nat := 77
abbrev c6P : Nat := 78
abbrev c6M : Nat := 79
abbrev b5N : Nat := 87
abbrev b5O : Nat := 88
abbrev c6O : Nat := 89
abbrev b0p : Nat := 90
abbrev b3a : Nat := 91
abbrev b3b : Nat := 92
abbrev b5P : Nat := 93
abbrev b0q : Nat := 94
abbrev b5E : Nat := 95
abbrev b2V : Nat := 96
abbrev b2W : Nat := 97
abbrev a5Q : Nat := 98
abbrev a4t : Nat := 99
abbrev b5D : Nat := 106
abbrev c6Q : Nat := 110
abbrev c6L : Nat := 111
abbrev c6R : Nat := 112
abbrev c4U : Nat := 113
abbrev a8j : Nat := 114
abbrev b0r : Nat := 115
abbrev b5Q : Nat := 116
abbrev b5R : Nat := 117
abbrev b0s : Nat := 118
abbrev b5C : Nat := 119
abbrev b5F : Nat := 120
abbrev b2X : Nat := 121
abbrev b9g : Nat := 129
abbrev c9N : Nat := 130
abbrev b5S : Nat := 131
abbrev b0t : Nat := 132
abbrev a7t : Nat := 133
abbrev b5T : Nat := 134
abbrev b5U : Nat := 135
abbrev b5G : Nat := 136
abbrev b5V : Nat := 141
abbrev b5W : Nat := 142
abbrev b3c : Nat := 143
abbrev c0h : Nat := 144
abbrev b2Y : Nat := 145
abbrev b5H : Nat := 146
abbrev a7u : Nat := 153
abbrev a6x : Nat := 154
abbrev b5I : Nat := 156
abbrev b5Y : Nat := 159
abbrev b0u : Nat := 161
abbrev b6c : Nat := 178
abbrev b6d : Nat := 179
abbrev b6e : Nat := 180
abbrev b3l : Nat := 181
abbrev b3m : Nat := 182
abbrev b3n : Nat := 183
abbrev a5R : Nat := 184
noncomputable def ti3 : TI := ⟨.int .i64, 1, 8, [.int .i64 0], []⟩
noncomputable def ti4 : TI := ⟨.bool, 1, 1, [.bool false], []⟩
noncomputable def ti5 : TI := ⟨.int .u8, 1, 1, [.int .u8 0], []⟩
noncomputable def ti9 : TI := ⟨.str, 1, 16, [.str []], []⟩
noncomputable def b8b : TI := ⟨.sl 31, 1, 24, [.nils], []⟩
noncomputable def b8a : TI := ⟨.st [(3, 0, 1), (3, 1, 1), (22, 2, 1)], 3, 40, [.int .i64 0, .int .i64 0, .nils], []⟩
noncomputable def ti22 : TI := ⟨.sl 5, 1, 24, [.nils], []⟩
noncomputable def d1K : TI := ⟨.sl 143, 1, 24, [.nils], []⟩
noncomputable def c7c : TI := ⟨.sl 160, 1, 24, [.nils], []⟩
noncomputable def d2A : TI := ⟨.st [(3, 0, 1), (3, 1, 1), (3, 2, 1), (3, 3, 1), (26, 4, 1), (3, 5, 1), (3, 6, 1), (9, 7, 1), (9, 8, 1), (27, 9, 1)], 10, 128, [.int .i64 0, .int .i64 0, .int .i64 0, .int .i64 0, .nils, .int .i64 0, .int .i64 0, .str [], .str [], .nils], []⟩
noncomputable def d1L : TI := ⟨.st [(9, 0, 1), (29, 1, 10)], 11, 144, [.str [], .int .i64 0, .int .i64 0, .int .i64 0, .int .i64 0, .nils, .int .i64 0, .int .i64 0, .str [], .str [], .nils], []⟩
noncomputable def b7Z : TI := ⟨.sl 24, 1, 24, [.nils], []⟩
noncomputable def d2B : TI := ⟨.int .i64, 1, 8, [.int .i64 0], []⟩
noncomputable def a8w : TI := ⟨.sl 25, 1, 24, [.nils], []⟩
noncomputable def d2C : TI := ⟨.int .u32, 1, 4, [.int .u32 0], []⟩
noncomputable def c0L : TI := ⟨.int .u64, 1, 8, [.int .u64 0], []⟩
noncomputable def ti101 : TI := ⟨.st [(25, 0, 1), (3, 1, 1)], 2, 32, [.nils, .int .i64 0], []⟩
noncomputable def b9I : TI := ⟨.sl 22, 1, 24, [.nils], []⟩
noncomputable def ti82 : TI := ⟨.sl 3, 1, 24, [.nils], []⟩
noncomputable def c6u : TI := ⟨.int .u64, 1, 8, [.int .u64 0], []⟩
noncomputable def c0M : TI := ⟨.ptr 108, 1, 8, [.nilp], [("logtide/event.count", some 178), ("logtide/event.number", some 179), ("logtide/event.text", some 180)]⟩
noncomputable def ti1101 : TI := ⟨.st [(25, 0, 1)], 1, 24, [.nils], []⟩
noncomputable def c0N : TI := ⟨.ptr 114, 1, 8, [.nilp], [("logtide/event.count", some 181), ("logtide/event.number", some 182), ("logtide/event.take", some 184), ("logtide/event.text", some 183)]⟩
noncomputable def ti1106 : TI := ⟨.st [(25, 0, 1), (4, 1, 1)], 2, 32, [.nils, .bool false], []⟩
noncomputable def ti1108 : TI := ⟨.st [(25, 0, 1), (3, 1, 1), (4, 2, 1)], 3, 40, [.nils, .int .i64 0, .bool false], []⟩
noncomputable def d2D : TI := ⟨.sl 9, 1, 24, [.nils], []⟩
noncomputable def d1M : TI := ⟨.st [(3, 0, 1), (3, 1, 1), (9, 2, 1)], 3, 32, [.int .i64 0, .int .i64 0, .str []], []⟩
noncomputable def b8c : TI := ⟨.ptr 3, 1, 8, [.nilp], []⟩
noncomputable def b8d : TI := ⟨.sl 155, 1, 24, [.nils], []⟩
noncomputable def ti109 : TI := ⟨.st [(9, 0, 1), (9, 1, 1)], 2, 32, [.str [], .str []], []⟩
noncomputable def b7Y : TI := ⟨.arr 256 5, 256, 256, [.int .u8 0, .int .u8 0, .int .u8 0, .int .u8 0, .int .u8 0, .int .u8 0, .int .u8 0, .int .u8 0, .int .u8 0, .int .u8 0, .int .u8 0, .int .u8 0, .int .u8 0, .int .u8 0, .int .u8 0, .int .u8 0, .int .u8 0, .int .u8 0, .int .u8 0, .int .u8 0, .int .u8 0, .int .u8 0, .int .u8 0, .int .u8 0, .int .u8 0, .int .u8 0, .int .u8 0, .int .u8 0, .int .u8 0, .int .u8 0, .int .u8 0, .int .u8 0, .int .u8 0, .int .u8 0, .int .u8 0, .int .u8 0, .int .u8 0, .int .u8 0, .int .u8 0, .int .u8 0, .int .u8 0, .int .u8 0, .int .u8 0, .int .u8 0, .int .u8 0, .int .u8 0, .int .u8 0, .int .u8 0, .int .u8 0, .int .u8 0, .int .u8 0, .int .u8 0, .int .u8 0, .int .u8 0, .int .u8 0, .int .u8 0, .int .u8 0, .int .u8 0, .int .u8 0, .int .u8 0, .int .u8 0, .int .u8 0, .int .u8 0, .int .u8 0, .int .u8 0, .int .u8 0, .int .u8 0, .int .u8 0, .int .u8 0, .int .u8 0, .int .u8 0, .int .u8 0, .int .u8 0, .int .u8 0, .int .u8 0, .int .u8 0, .int .u8 0, .int .u8 0, .int .u8 0, .int .u8 0, .int .u8 0, .int .u8 0, .int .u8 0, .int .u8 0, .int .u8 0, .int .u8 0, .int .u8 0, .int .u8 0, .int .u8 0, .int .u8 0, .int .u8 0, .int .u8 0, .int .u8 0, .int .u8 0, .int .u8 0, .int .u8 0, .int .u8 0, .int .u8 0, .int .u8 0, .int .u8 0, .int .u8 0, .int .u8 0, .int .u8 0, .int .u8 0, .int .u8 0, .int .u8 0, .int .u8 0, .int .u8 0, .int .u8 0, .int .u8 0, .int .u8 0, .int .u8 0, .int .u8 0, .int .u8 0, .int .u8 0, .int .u8 0, .int .u8 0, .int .u8 0, .int .u8 0, .int .u8 0, .int .u8 0, .int .u8 0, .int .u8 0, .int .u8 0, .int .u8 0, .int .u8 0, .int .u8 0, .int .u8 0, .int .u8 0, .int .u8 0, .int .u8 0, .int .u8 0, .int .u8 0, .int .u8 0, .int .u8 0, .int .u8 0, .int .u8 0, .int .u8 0, .int .u8 0, .int .u8 0, .int .u8 0, .int .u8 0, .int .u8 0, .int .u8 0, .int .u8 0, .int .u8 0, .int .u8 0, .int .u8 0, .int .u8 0, .int .u8 0, .int .u8 0, .int .u8 0, .int .u8 0, .int .u8 0, .int .u8 0, .int .u8 0, .int .u8 0, .int .u8 0, .int .u8 0, .int .u8 0, .int .u8 0, .int .u8 0, .int .u8 0, .int .u8 0, .int .u8 0, .int .u8 0, .int .u8 0, .int .u8 0, .int .u8 0, .int .u8 0, .int .u8 0, .int .u8 0, .int .u8 0, .int .u8 0, .int .u8 0, .int .u8 0, .int .u8 0, .int .u8 0, .int .u8 0, .int .u8 0, .int .u8 0, .int .u8 0, .int .u8 0, .int .u8 0, .int .u8 0, .int .u8 0, .int .u8 0, .int .u8 0, .int .u8 0, .int .u8 0, .int .u8 0, .int .u8 0, .int .u8 0, .int .u8 0, .int .u8 0, .int .u8 0, .int .u8 0, .int .u8 0, .int .u8 0, .int .u8 0, .int .u8 0, .int .u8 0, .int .u8 0, .int .u8 0, .int .u8 0, .int .u8 0, .int .u8 0, .int .u8 0, .int .u8 0, .int .u8 0, .int .u8 0, .int .u8 0, .int .u8 0, .int .u8 0, .int .u8 0, .int .u8 0, .int .u8 0, .int .u8 0, .int .u8 0, .int .u8 0, .int .u8 0, .int .u8 0, .int .u8 0, .int .u8 0, .int .u8 0, .int .u8 0, .int .u8 0, .int .u8 0, .int .u8 0, .int .u8 0, .int .u8 0, .int .u8 0, .int .u8 0, .int .u8 0, .int .u8 0, .int .u8 0, .int .u8 0, .int .u8 0, .int .u8 0, .int .u8 0, .int .u8 0, .int .u8 0, .int .u8 0, .int .u8 0, .int .u8 0, .int .u8 0, .int .u8 0, .int .u8 0, .int .u8 0, .int .u8 0, .int .u8 0, .int .u8 0, .int .u8 0, .int .u8 0, .int .u8 0, .int .u8 0], []⟩
noncomputable def d2z : List (Option TI) := [none, none, none, some ti3, some ti4, some ti5, none, none, none, some ti9, none, none, none, none, none, none, none, none, none, none, none, none, some b8b, none, some b8a, some ti22, some d1K, some c7c, none, some d2A, none, some d1L, none, some b7Z, none, none, some d2B, none, none, none, none, none, some a8w, none, none, none, none, none, none, none, none, none, none, none, none, none, none, none, none, none, none, none, none, none, none, none, none, none, none, none, some d2C, none, none, some c0L, none, none, none, none, none, none, none, some ti101, none, none, none, none, none, none, none, none, none, none, none, none, none, none, none, none, none, none, some b9I, none, some ti82, none, none, some c6u, some c0M, none, some ti1101, none, none, none, some c0N, none, some ti1106, none, some ti1108, none, none, none, none, none, none, none, none, none, none, none, none, some d2D, none, none, none, none, none, none, none, none, none, none, none, none, none, some d1M, none, none, none, none, none, none, none, none, none, none, none, some b8c, some b8d, none, none, none, some ti109, none, none, none, none, none, none, none, none, none, none, none, none, none, none, none, none, none, none, none, none, none, none, none, none, none, none, none, none, none, none, none, none, none, some b7Y]
noncomputable def tab : Tab := c2u d2z
theorem tk3 : a4J Tryz.prog 3 = some ti3 ∧ a2l Tryz.prog 3 = true := ⟨by kernel_rfl, by kernel_rfl⟩
theorem tk4 : a4J Tryz.prog 4 = some ti4 ∧ a2l Tryz.prog 4 = true := ⟨by kernel_rfl, by kernel_rfl⟩
theorem tk5 : a4J Tryz.prog 5 = some ti5 ∧ a2l Tryz.prog 5 = true := ⟨by kernel_rfl, by kernel_rfl⟩
theorem tk9 : a4J Tryz.prog 9 = some ti9 ∧ a2l Tryz.prog 9 = true := ⟨by kernel_rfl, by kernel_rfl⟩
theorem d4C : a4J Tryz.prog 22 = some b8b ∧ a2l Tryz.prog 22 = true := ⟨by kernel_rfl, by kernel_rfl⟩
theorem d4D : a4J Tryz.prog 24 = some b8a ∧ a2l Tryz.prog 24 = true := ⟨by kernel_rfl, by kernel_rfl⟩
theorem d4E : a4J Tryz.prog 25 = some ti22 ∧ a2l Tryz.prog 25 = true := ⟨by kernel_rfl, by kernel_rfl⟩
theorem d4F : a4J Tryz.prog 26 = some d1K ∧ a2l Tryz.prog 26 = true := ⟨by kernel_rfl, by kernel_rfl⟩
theorem d4G : a4J Tryz.prog 27 = some c7c ∧ a2l Tryz.prog 27 = true := ⟨by kernel_rfl, by kernel_rfl⟩
theorem d4H : a4J Tryz.prog 29 = some d2A ∧ a2l Tryz.prog 29 = true := ⟨by kernel_rfl, by kernel_rfl⟩
theorem d4I : a4J Tryz.prog 31 = some d1L ∧ a2l Tryz.prog 31 = true := ⟨by kernel_rfl, by kernel_rfl⟩
theorem d4J : a4J Tryz.prog 33 = some b7Z ∧ a2l Tryz.prog 33 = true := ⟨by kernel_rfl, by kernel_rfl⟩
theorem d4K : a4J Tryz.prog 36 = some d2B ∧ a2l Tryz.prog 36 = true := ⟨by kernel_rfl, by kernel_rfl⟩
theorem d4L : a4J Tryz.prog 42 = some a8w ∧ a2l Tryz.prog 42 = true := ⟨by kernel_rfl, by kernel_rfl⟩
theorem d4M : a4J Tryz.prog 70 = some d2C ∧ a2l Tryz.prog 70 = true := ⟨by kernel_rfl, by kernel_rfl⟩
theorem d4N : a4J Tryz.prog 73 = some c0L ∧ a2l Tryz.prog 73 = true := ⟨by kernel_rfl, by kernel_rfl⟩
theorem d4O : a4J Tryz.prog 81 = some ti101 ∧ a2l Tryz.prog 81 = true := ⟨by kernel_rfl, by kernel_rfl⟩
theorem d1N : a4J Tryz.prog 100 = some b9I ∧ a2l Tryz.prog 100 = true := ⟨by kernel_rfl, by kernel_rfl⟩
theorem d1O : a4J Tryz.prog 102 = some ti82 ∧ a2l Tryz.prog 102 = true := ⟨by kernel_rfl, by kernel_rfl⟩
theorem d1P : a4J Tryz.prog 105 = some c6u ∧ a2l Tryz.prog 105 = true := ⟨by kernel_rfl, by kernel_rfl⟩
theorem d1Q : a4J Tryz.prog 106 = some c0M ∧ a2l Tryz.prog 106 = true := ⟨by kernel_rfl, by kernel_rfl⟩
theorem d1R : a4J Tryz.prog 108 = some ti1101 ∧ a2l Tryz.prog 108 = true := ⟨by kernel_rfl, by kernel_rfl⟩
theorem d1S : a4J Tryz.prog 112 = some c0N ∧ a2l Tryz.prog 112 = true := ⟨by kernel_rfl, by kernel_rfl⟩
theorem d1T : a4J Tryz.prog 114 = some ti1106 ∧ a2l Tryz.prog 114 = true := ⟨by kernel_rfl, by kernel_rfl⟩
theorem d1U : a4J Tryz.prog 116 = some ti1108 ∧ a2l Tryz.prog 116 = true := ⟨by kernel_rfl, by kernel_rfl⟩
theorem d1V : a4J Tryz.prog 129 = some d2D ∧ a2l Tryz.prog 129 = true := ⟨by kernel_rfl, by kernel_rfl⟩
theorem d1W : a4J Tryz.prog 143 = some d1M ∧ a2l Tryz.prog 143 = true := ⟨by kernel_rfl, by kernel_rfl⟩
theorem d1X : a4J Tryz.prog 155 = some b8c ∧ a2l Tryz.prog 155 = true := ⟨by kernel_rfl, by kernel_rfl⟩
theorem d1Y : a4J Tryz.prog 156 = some b8d ∧ a2l Tryz.prog 156 = true := ⟨by kernel_rfl, by kernel_rfl⟩
theorem d1Z : a4J Tryz.prog 160 = some ti109 ∧ a2l Tryz.prog 160 = true := ⟨by kernel_rfl, by kernel_rfl⟩
theorem d2a : a4J Tryz.prog 194 = some b7Y ∧ a2l Tryz.prog 194 = true := ⟨by kernel_rfl, by kernel_rfl⟩
theorem d1J : TabOK Tryz.prog tab := b9H (show a9P Tryz.prog 0 d2z from ⟨tk3, tk4, tk5, tk9, d4C, d4D, d4E, d4F, d4G, d4H, d4I, d4J, d4K, d4L, d4M, d4N, d4O, d1N, d1O, d1P, d1Q, d1R, d1S, d1T, d1U, d1V, d1W, d1X, d1Y, d1Z, d2a, trivial⟩)
theorem d4x : Tryz.prog.follows .mixedOrders = true := by kernel_rfl
noncomputable def i3 : FnI := ⟨Tryz.f3.body.getD .skip, Tryz.f3.results.toList, ⟨188, [0, 1, 2, 3, 4, 5, 10, 11, 12, 13, 15, 16, 17, 18, 19, 20, 21, 22, 23, 24, 26, 27, 28, 29, 30, 45, 72, 87, 143, 148, 162, 163, 164, 165, 186], [5, 27, 29, 82], [1000162, 3000083]⟩, true⟩
noncomputable def i6 : FnI := ⟨Tryz.f6.body.getD .skip, Tryz.f6.results.toList, ⟨15, [0, 1, 2], [4], []⟩, false⟩
noncomputable def i7 : FnI := ⟨Tryz.f7.body.getD .skip, Tryz.f7.results.toList, ⟨29, [0, 2, 3, 4, 5, 6, 7, 15], [], []⟩, false⟩
noncomputable def i8 : FnI := ⟨Tryz.f8.body.getD .skip, Tryz.f8.results.toList, ⟨47, [0, 1, 2, 3, 4, 5, 7, 8, 9, 13, 28, 29, 30, 31, 40], [1, 7], []⟩, true⟩
noncomputable def i9 : FnI := ⟨Tryz.f9.body.getD .skip, Tryz.f9.results.toList, ⟨47, [0, 1, 2, 3, 4, 5, 6, 7, 12, 31], [1], []⟩, true⟩
noncomputable def i10 : FnI := ⟨Tryz.f10.body.getD .skip, Tryz.f10.results.toList, ⟨21, [0, 1, 3, 4, 5, 6, 7, 14], [3], []⟩, false⟩
noncomputable def i11 : FnI := ⟨Tryz.f11.body.getD .skip, Tryz.f11.results.toList, ⟨21, [0, 1, 3, 4, 5, 6, 7, 14], [3], []⟩, false⟩
noncomputable def i12 : FnI := ⟨Tryz.f12.body.getD .skip, Tryz.f12.results.toList, ⟨26, [0, 1, 4, 5, 10, 14, 25], [], []⟩, false⟩
noncomputable def i13 : FnI := ⟨Tryz.f13.body.getD .skip, Tryz.f13.results.toList, ⟨14, [0, 1, 4, 6], [], []⟩, false⟩
noncomputable def i14 : FnI := ⟨Tryz.f14.body.getD .skip, Tryz.f14.results.toList, ⟨69, [0, 2, 3, 4, 5, 6, 7, 8, 9, 10, 11, 14, 33, 43, 66], [7, 48, 1000004], []⟩, true⟩
noncomputable def i15 : FnI := ⟨Tryz.f15.body.getD .skip, Tryz.f15.results.toList, ⟨70, [0, 2, 3, 4, 5, 6, 7, 8, 9, 10, 11, 14, 29, 32, 44, 67], [7, 49, 1000004], []⟩, true⟩
noncomputable def i16 : FnI := ⟨Tryz.f16.body.getD .skip, Tryz.f16.results.toList, ⟨46, [0, 1, 2, 3, 4, 5, 26, 31, 45], [2, 3], []⟩, false⟩
noncomputable def i17 : FnI := ⟨Tryz.f17.body.getD .skip, Tryz.f17.results.toList, ⟨43, [0, 1, 4, 5, 6, 7, 8, 16, 23], [], []⟩, true⟩
noncomputable def i18 : FnI := ⟨Tryz.f18.body.getD .skip, Tryz.f18.results.toList, ⟨13, [0, 1, 4], [], []⟩, false⟩
noncomputable def i26 : FnI := ⟨Tryz.f26.body.getD .skip, Tryz.f26.results.toList, ⟨37, [0, 1, 4, 5, 6, 7, 16], [35], []⟩, true⟩
noncomputable def i27 : FnI := ⟨Tryz.f27.body.getD .skip, Tryz.f27.results.toList, ⟨146, [0, 1, 2, 6, 7, 8, 9, 10, 11, 12, 13, 14, 23, 33, 49, 61, 62, 68, 82, 116, 134], [105, 111, 125, 143], []⟩, false⟩
noncomputable def i28 : FnI := ⟨Tryz.f28.body.getD .skip, Tryz.f28.results.toList, ⟨35, [0, 1, 2, 4, 5, 9, 11, 12, 13, 14, 19, 23, 30], [1, 4], []⟩, false⟩
noncomputable def i29 : FnI := ⟨Tryz.f29.body.getD .skip, Tryz.f29.results.toList, ⟨16, [0, 1, 4], [14], []⟩, false⟩
noncomputable def i30 : FnI := ⟨Tryz.f30.body.getD .skip, Tryz.f30.results.toList, ⟨15, [0, 2], [14], []⟩, false⟩
noncomputable def i31 : FnI := ⟨Tryz.f31.body.getD .skip, Tryz.f31.results.toList, ⟨39, [0, 1, 2, 3, 4, 5, 9], [], []⟩, true⟩
noncomputable def i32 : FnI := ⟨Tryz.f32.body.getD .skip, Tryz.f32.results.toList, ⟨36, [0, 1, 2, 3, 4, 5, 9, 14, 25, 32, 35], [1, 4], []⟩, false⟩
noncomputable def i33 : FnI := ⟨Tryz.f33.body.getD .skip, Tryz.f33.results.toList, ⟨23, [0, 1, 2, 6, 7, 11], [20], []⟩, false⟩
noncomputable def i34 : FnI := ⟨Tryz.f34.body.getD .skip, Tryz.f34.results.toList, ⟨25, [0, 1, 2, 3, 4, 5, 6, 10], [1], []⟩, true⟩
noncomputable def i35 : FnI := ⟨Tryz.f35.body.getD .skip, Tryz.f35.results.toList, ⟨13, [0, 2], [], []⟩, false⟩
noncomputable def i36 : FnI := ⟨Tryz.f36.body.getD .skip, Tryz.f36.results.toList, ⟨25, [0, 2], [], []⟩, false⟩
noncomputable def i37 : FnI := ⟨Tryz.f37.body.getD .skip, Tryz.f37.results.toList, ⟨67, [0, 2, 3, 4, 5, 6, 7, 10, 24, 36, 62], [], [60]⟩, true⟩
noncomputable def i38 : FnI := ⟨Tryz.f38.body.getD .skip, Tryz.f38.results.toList, ⟨10, [0, 1, 4], [], []⟩, false⟩
noncomputable def i39 : FnI := ⟨Tryz.f39.body.getD .skip, Tryz.f39.results.toList, ⟨20, [0, 2, 3, 4, 8], [], []⟩, false⟩
noncomputable def i40 : FnI := ⟨Tryz.f40.body.getD .skip, Tryz.f40.results.toList, ⟨147, [0, 2, 3, 4, 5, 6, 7, 9, 10, 31, 47, 142], [8], []⟩, true⟩
noncomputable def i41 : FnI := ⟨Tryz.f41.body.getD .skip, Tryz.f41.results.toList, ⟨86, [0, 1, 2, 3, 4, 5, 6], [2, 3, 1000006], []⟩, true⟩
noncomputable def i42 : FnI := ⟨Tryz.f42.body.getD .skip, Tryz.f42.results.toList, ⟨33, [0, 2, 3, 4, 5, 9, 20, 25], [], []⟩, false⟩
noncomputable def i43 : FnI := ⟨Tryz.f43.body.getD .skip, Tryz.f43.results.toList, ⟨35, [0, 1, 4, 5, 12], [], []⟩, false⟩
noncomputable def i59 : FnI := ⟨Tryz.f59.body.getD .skip, Tryz.f59.results.toList, ⟨36, [0, 2, 3, 5, 6, 8, 9, 10, 11, 12, 20, 25, 26, 27, 28], [], []⟩, false⟩
noncomputable def i60 : FnI := ⟨Tryz.f60.body.getD .skip, Tryz.f60.results.toList, ⟨10, [0, 1, 4], [7], []⟩, true⟩
noncomputable def i61 : FnI := ⟨Tryz.f61.body.getD .skip, Tryz.f61.results.toList, ⟨45, [0, 1, 2, 6, 7, 8, 9, 10, 11, 12, 16, 24], [12, 35, 42], []⟩, true⟩
noncomputable def i62 : FnI := ⟨Tryz.f62.body.getD .skip, Tryz.f62.results.toList, ⟨49, [0, 1, 2, 3, 4, 5, 6, 7, 27, 32], [2, 3, 44], []⟩, true⟩
noncomputable def i63 : FnI := ⟨Tryz.f63.body.getD .skip, Tryz.f63.results.toList, ⟨64, [0, 1, 2, 3, 4, 7, 13, 18, 33, 63], [1, 3], []⟩, false⟩
noncomputable def i64 : FnI := ⟨Tryz.f64.body.getD .skip, Tryz.f64.results.toList, ⟨191, [0, 1, 4, 6, 7, 8, 9, 33, 34, 35, 36, 52, 53, 54, 62, 145, 146, 147, 155], [33, 69, 162], []⟩, false⟩
noncomputable def i65 : FnI := ⟨Tryz.f65.body.getD .skip, Tryz.f65.results.toList, ⟨23, [0, 1, 2, 6, 7, 12], [20], []⟩, false⟩
noncomputable def i66 : FnI := ⟨Tryz.f66.body.getD .skip, Tryz.f66.results.toList, ⟨20, [0, 2, 3, 5, 6, 7, 8, 9], [], []⟩, false⟩
noncomputable def i67 : FnI := ⟨Tryz.f67.body.getD .skip, Tryz.f67.results.toList, ⟨71, [0, 1, 2, 3, 4, 5, 6, 9, 16, 22, 31, 56, 61, 70], [1, 3], []⟩, false⟩
noncomputable def i68 : FnI := ⟨Tryz.f68.body.getD .skip, Tryz.f68.results.toList, ⟨102, [0, 1, 2, 3, 4, 5, 6, 35, 83], [1, 3], []⟩, false⟩
noncomputable def i69 : FnI := ⟨Tryz.f69.body.getD .skip, Tryz.f69.results.toList, ⟨24, [0, 1, 2, 6, 7, 11], [21], []⟩, false⟩
noncomputable def i70 : FnI := ⟨Tryz.f70.body.getD .skip, Tryz.f70.results.toList, ⟨21, [0, 2, 3, 4, 8], [], []⟩, false⟩
noncomputable def i71 : FnI := ⟨Tryz.f71.body.getD .skip, Tryz.f71.results.toList, ⟨19, [0, 2, 3, 5, 6, 7, 8, 9], [], []⟩, false⟩
noncomputable def i72 : FnI := ⟨Tryz.f72.body.getD .skip, Tryz.f72.results.toList, ⟨47, [0, 1, 2, 4, 5, 6, 7, 20, 25], [], []⟩, true⟩
noncomputable def i73 : FnI := ⟨Tryz.f73.body.getD .skip, Tryz.f73.results.toList, ⟨46, [0, 1, 2, 3, 4, 5, 24], [], []⟩, true⟩
noncomputable def i74 : FnI := ⟨Tryz.f74.body.getD .skip, Tryz.f74.results.toList, ⟨13, [0, 1, 2, 3, 4], [], []⟩, true⟩
noncomputable def i75 : FnI := ⟨Tryz.f75.body.getD .skip, Tryz.f75.results.toList, ⟨46, [0, 1, 2, 3, 4, 5, 6, 7, 19], [42], []⟩, true⟩
noncomputable def i76 : FnI := ⟨Tryz.f76.body.getD .skip, Tryz.f76.results.toList, ⟨40, [0, 1, 2, 3, 4, 5, 6, 7, 19], [36], []⟩, true⟩
noncomputable def i77 : FnI := ⟨Tryz.f77.body.getD .skip, Tryz.f77.results.toList, ⟨26, [0, 1, 4, 5, 10, 14, 25], [], []⟩, false⟩
noncomputable def i78 : FnI := ⟨Tryz.f78.body.getD .skip, Tryz.f78.results.toList, ⟨26, [0, 1, 4, 5, 10, 14, 25], [], []⟩, false⟩
noncomputable def i79 : FnI := ⟨Tryz.f79.body.getD .skip, Tryz.f79.results.toList, ⟨13, [0, 2], [], []⟩, false⟩
noncomputable def i87 : FnI := ⟨Tryz.f87.body.getD .skip, Tryz.f87.results.toList, ⟨27, [0, 1, 4, 6, 16], [], []⟩, false⟩
noncomputable def i88 : FnI := ⟨Tryz.f88.body.getD .skip, Tryz.f88.results.toList, ⟨29, [0, 2, 3, 5, 6, 7, 8, 9, 16, 17], [], []⟩, false⟩
noncomputable def i89 : FnI := ⟨Tryz.f89.body.getD .skip, Tryz.f89.results.toList, ⟨94, [0, 1, 2, 3, 8, 9, 10, 11, 12, 13, 14, 24, 51, 56], [41, 64, 77, 82], []⟩, true⟩
noncomputable def i90 : FnI := ⟨Tryz.f90.body.getD .skip, Tryz.f90.results.toList, ⟨57, [0, 1, 2, 3, 4, 5, 6, 16, 29, 40, 48, 54, 56], [1], []⟩, true⟩
noncomputable def i91 : FnI := ⟨Tryz.f91.body.getD .skip, Tryz.f91.results.toList, ⟨28, [0, 1, 2], [1], []⟩, false⟩
noncomputable def i92 : FnI := ⟨Tryz.f92.body.getD .skip, Tryz.f92.results.toList, ⟨75, [0, 1, 2, 4, 5, 6, 7, 8, 9, 14, 22, 23, 24, 25, 64, 69], [2], []⟩, true⟩
noncomputable def i93 : FnI := ⟨Tryz.f93.body.getD .skip, Tryz.f93.results.toList, ⟨9, [0, 1, 4], [], []⟩, false⟩
noncomputable def i94 : FnI := ⟨Tryz.f94.body.getD .skip, Tryz.f94.results.toList, ⟨6, [0, 1, 2], [1], []⟩, false⟩
noncomputable def i95 : FnI := ⟨Tryz.f95.body.getD .skip, Tryz.f95.results.toList, ⟨68, [0, 1, 2, 3, 4, 5, 6, 7, 21, 25, 29, 40, 48, 54, 58, 67], [1], []⟩, false⟩
noncomputable def i96 : FnI := ⟨Tryz.f96.body.getD .skip, Tryz.f96.results.toList, ⟨38, [0, 1, 2, 37], [1], []⟩, false⟩
noncomputable def i97 : FnI := ⟨Tryz.f97.body.getD .skip, Tryz.f97.results.toList, ⟨74, [0, 1, 2, 4, 5, 6, 7, 11, 15, 22, 64, 69], [2, 7], []⟩, false⟩
noncomputable def i98 : FnI := ⟨Tryz.f98.body.getD .skip, Tryz.f98.results.toList, ⟨12, [0, 1, 4], [], []⟩, false⟩
noncomputable def i99 : FnI := ⟨Tryz.f99.body.getD .skip, Tryz.f99.results.toList, ⟨9, [0, 1, 4], [], []⟩, false⟩
noncomputable def c9V : FnI := ⟨Tryz.f106.body.getD .skip, Tryz.f106.results.toList, ⟨8, [0, 2, 4], [5], []⟩, false⟩
noncomputable def c9W : FnI := ⟨Tryz.f110.body.getD .skip, Tryz.f110.results.toList, ⟨24, [0, 2, 3, 4, 10], [14], []⟩, false⟩
noncomputable def c9X : FnI := ⟨Tryz.f111.body.getD .skip, Tryz.f111.results.toList, ⟨19, [0, 2, 4, 5, 10], [], []⟩, false⟩
noncomputable def c9Y : FnI := ⟨Tryz.f112.body.getD .skip, Tryz.f112.results.toList, ⟨8, [0, 2], [3], []⟩, false⟩
noncomputable def c9Z : FnI := ⟨Tryz.f113.body.getD .skip, Tryz.f113.results.toList, ⟨27, [0, 2, 3, 4, 5, 10, 15], [6, 24], []⟩, true⟩
noncomputable def d0a : FnI := ⟨Tryz.f114.body.getD .skip, Tryz.f114.results.toList, ⟨15, [0, 1, 2, 6], [], []⟩, false⟩
noncomputable def d0b : FnI := ⟨Tryz.f115.body.getD .skip, Tryz.f115.results.toList, ⟨44, [0, 2, 3, 5, 6, 9, 10, 11, 12, 13, 19, 28, 42], [5], []⟩, false⟩
noncomputable def d0c : FnI := ⟨Tryz.f116.body.getD .skip, Tryz.f116.results.toList, ⟨26, [0, 1, 4, 5, 10, 12, 13, 14, 24], [], []⟩, false⟩
noncomputable def d0d : FnI := ⟨Tryz.f117.body.getD .skip, Tryz.f117.results.toList, ⟨9, [0, 1, 4], [], []⟩, false⟩
noncomputable def d0e : FnI := ⟨Tryz.f118.body.getD .skip, Tryz.f118.results.toList, ⟨7, [0, 1, 2], [1], []⟩, false⟩
noncomputable def d0f : FnI := ⟨Tryz.f119.body.getD .skip, Tryz.f119.results.toList, ⟨19, [0, 1, 4, 5, 7, 8, 9, 16], [], []⟩, false⟩
noncomputable def d0g : FnI := ⟨Tryz.f120.body.getD .skip, Tryz.f120.results.toList, ⟨14, [0, 2], [], []⟩, false⟩
noncomputable def d0h : FnI := ⟨Tryz.f121.body.getD .skip, Tryz.f121.results.toList, ⟨89, [0, 2, 3, 4, 5, 6, 7, 10, 14, 23, 27, 54, 87], [37], []⟩, true⟩
noncomputable def d0i : FnI := ⟨Tryz.f129.body.getD .skip, Tryz.f129.results.toList, ⟨12, [0, 2, 3], [4], []⟩, false⟩
noncomputable def d0j : FnI := ⟨Tryz.f130.body.getD .skip, Tryz.f130.results.toList, ⟨12, [0, 2, 3], [4], []⟩, false⟩
noncomputable def d0k : FnI := ⟨Tryz.f131.body.getD .skip, Tryz.f131.results.toList, ⟨38, [0, 2, 4, 22, 24, 25, 26, 27, 36], [], []⟩, true⟩
noncomputable def d0l : FnI := ⟨Tryz.f132.body.getD .skip, Tryz.f132.results.toList, ⟨9, [0, 1], [], []⟩, false⟩
noncomputable def d0m : FnI := ⟨Tryz.f133.body.getD .skip, Tryz.f133.results.toList, ⟨10, [0, 1, 2, 3, 4], [2, 3], []⟩, false⟩
noncomputable def d0n : FnI := ⟨Tryz.f134.body.getD .skip, Tryz.f134.results.toList, ⟨8, [0, 1, 4], [], []⟩, false⟩
noncomputable def d0o : FnI := ⟨Tryz.f135.body.getD .skip, Tryz.f135.results.toList, ⟨19, [0, 1, 4, 5, 7, 8, 9, 16], [], []⟩, false⟩
noncomputable def d0p : FnI := ⟨Tryz.f136.body.getD .skip, Tryz.f136.results.toList, ⟨40, [0, 2, 3, 22, 26, 39], [], []⟩, false⟩
noncomputable def d0q : FnI := ⟨Tryz.f141.body.getD .skip, Tryz.f141.results.toList, ⟨8, [0, 2], [], []⟩, false⟩
noncomputable def d0r : FnI := ⟨Tryz.f142.body.getD .skip, Tryz.f142.results.toList, ⟨12, [0, 2], [], []⟩, false⟩
noncomputable def d0s : FnI := ⟨Tryz.f143.body.getD .skip, Tryz.f143.results.toList, ⟨63, [0, 1, 2, 6, 7, 8, 9, 13, 30, 35, 54], [], []⟩, false⟩
noncomputable def d0t : FnI := ⟨Tryz.f144.body.getD .skip, Tryz.f144.results.toList, ⟨8, [0, 1, 4], [], []⟩, false⟩
noncomputable def d0u : FnI := ⟨Tryz.f145.body.getD .skip, Tryz.f145.results.toList, ⟨17, [0, 2], [], []⟩, false⟩
noncomputable def d0v : FnI := ⟨Tryz.f146.body.getD .skip, Tryz.f146.results.toList, ⟨13, [0, 2], [], []⟩, false⟩
noncomputable def d0w : FnI := ⟨Tryz.f153.body.getD .skip, Tryz.f153.results.toList, ⟨53, [0, 1, 2, 3, 8, 9, 14, 34], [], []⟩, false⟩
noncomputable def d0x : FnI := ⟨Tryz.f154.body.getD .skip, Tryz.f154.results.toList, ⟨220, [0, 1, 2, 3, 4, 10, 11, 12, 13, 14, 15, 16, 17, 18, 19, 20, 21, 22, 23, 24, 28, 33, 50, 58, 80, 85, 103, 110, 140, 151, 171, 185, 199, 213], [], []⟩, false⟩
noncomputable def d0y : FnI := ⟨Tryz.f156.body.getD .skip, Tryz.f156.results.toList, ⟨9, [0, 2], [], []⟩, false⟩
noncomputable def d0z : FnI := ⟨Tryz.f159.body.getD .skip, Tryz.f159.results.toList, ⟨58, [0, 1, 2, 3, 4, 10, 11, 20, 23], [], []⟩, false⟩
noncomputable def d0A : FnI := ⟨Tryz.f161.body.getD .skip, Tryz.f161.results.toList, ⟨38, [0, 1, 2, 3, 10, 13], [], []⟩, false⟩
noncomputable def d0B : FnI := ⟨Tryz.f178.body.getD .skip, Tryz.f178.results.toList, ⟨16, [0, 1, 4], [], []⟩, false⟩
noncomputable def d0C : FnI := ⟨Tryz.f179.body.getD .skip, Tryz.f179.results.toList, ⟨16, [0, 1], [], []⟩, false⟩
noncomputable def d0D : FnI := ⟨Tryz.f180.body.getD .skip, Tryz.f180.results.toList, ⟨21, [0, 1], [], []⟩, false⟩
noncomputable def d0E : FnI := ⟨Tryz.f181.body.getD .skip, Tryz.f181.results.toList, ⟨28, [0, 4, 5, 23], [], []⟩, false⟩
noncomputable def d0F : FnI := ⟨Tryz.f182.body.getD .skip, Tryz.f182.results.toList, ⟨10, [0, 1], [], []⟩, false⟩
noncomputable def d0G : FnI := ⟨Tryz.f183.body.getD .skip, Tryz.f183.results.toList, ⟨22, [0, 1, 4, 5, 17], [], []⟩, false⟩
noncomputable def d0H : FnI := ⟨Tryz.f184.body.getD .skip, Tryz.f184.results.toList, ⟨42, [0, 1, 4, 5, 22], [], []⟩, false⟩
noncomputable def c9R : List (Nat × FnI) := [(3, i3), (6, i6), (7, i7), (8, i8), (9, i9), (10, i10), (11, i11), (12, i12), (13, i13), (14, i14), (15, i15), (16, i16), (17, i17), (18, i18), (26, i26), (27, i27), (28, i28), (29, i29), (30, i30), (31, i31), (32, i32), (33, i33), (34, i34), (35, i35), (36, i36), (37, i37), (38, i38), (39, i39), (40, i40), (41, i41), (42, i42), (43, i43), (59, i59), (60, i60), (61, i61), (62, i62), (63, i63), (64, i64), (65, i65), (66, i66), (67, i67), (68, i68), (69, i69), (70, i70), (71, i71), (72, i72), (73, i73), (74, i74), (75, i75), (76, i76), (77, i77), (78, i78), (79, i79), (87, i87), (88, i88), (89, i89), (90, i90), (91, i91), (92, i92), (93, i93), (94, i94), (95, i95), (96, i96), (97, i97), (98, i98), (99, i99), (106, c9V), (110, c9W), (111, c9X), (112, c9Y), (113, c9Z), (114, d0a), (115, d0b), (116, d0c), (117, d0d), (118, d0e), (119, d0f), (120, d0g), (121, d0h), (129, d0i), (130, d0j), (131, d0k), (132, d0l), (133, d0m), (134, d0n), (135, d0o), (136, d0p), (141, d0q), (142, d0r), (143, d0s), (144, d0t), (145, d0u), (146, d0v), (153, d0w), (154, d0x), (156, d0y), (159, d0z), (161, d0A), (178, d0B), (179, d0C), (180, d0D), (181, d0E), (182, d0F), (183, d0G), (184, d0H)]
noncomputable def Fs : FuncId → Option FnI := c6S c9R
theorem fk3 : FnOK Tryz.prog 3 i3 := .of Tryz.func3 (by kernel_rfl) (by kernel_rfl) (by kernel_rfl) Tryz.call3
theorem fk6 : FnOK Tryz.prog 6 i6 := .of Tryz.func6 (by kernel_rfl) (by kernel_rfl) (by kernel_rfl) Tryz.call6
theorem fk7 : FnOK Tryz.prog 7 i7 := .of Tryz.func7 (by kernel_rfl) (by kernel_rfl) (by kernel_rfl) Tryz.call7
theorem fk8 : FnOK Tryz.prog 8 i8 := .of Tryz.func8 (by kernel_rfl) (by kernel_rfl) (by kernel_rfl) Tryz.call8
theorem fk9 : FnOK Tryz.prog 9 i9 := .of Tryz.func9 (by kernel_rfl) (by kernel_rfl) (by kernel_rfl) Tryz.call9
theorem d2K : FnOK Tryz.prog 10 i10 := .of Tryz.func10 (by kernel_rfl) (by kernel_rfl) (by kernel_rfl) Tryz.call10
theorem d2L : FnOK Tryz.prog 11 i11 := .of Tryz.func11 (by kernel_rfl) (by kernel_rfl) (by kernel_rfl) Tryz.call11
theorem d2M : FnOK Tryz.prog 12 i12 := .of Tryz.func12 (by kernel_rfl) (by kernel_rfl) (by kernel_rfl) Tryz.call12
theorem d2N : FnOK Tryz.prog 13 i13 := .of Tryz.func13 (by kernel_rfl) (by kernel_rfl) (by kernel_rfl) Tryz.call13
theorem d2O : FnOK Tryz.prog 14 i14 := .of Tryz.func14 (by kernel_rfl) (by kernel_rfl) (by kernel_rfl) Tryz.call14
theorem d2P : FnOK Tryz.prog 15 i15 := .of Tryz.func15 (by kernel_rfl) (by kernel_rfl) (by kernel_rfl) Tryz.call15
theorem d2Q : FnOK Tryz.prog 16 i16 := .of Tryz.func16 (by kernel_rfl) (by kernel_rfl) (by kernel_rfl) Tryz.call16
theorem d2R : FnOK Tryz.prog 17 i17 := .of Tryz.func17 (by kernel_rfl) (by kernel_rfl) (by kernel_rfl) Tryz.call17
theorem d2S : FnOK Tryz.prog 18 i18 := .of Tryz.func18 (by kernel_rfl) (by kernel_rfl) (by kernel_rfl) Tryz.call18
theorem d2T : FnOK Tryz.prog 26 i26 := .of Tryz.func26 (by kernel_rfl) (by kernel_rfl) (by kernel_rfl) Tryz.call26
theorem d2U : FnOK Tryz.prog 27 i27 := .of Tryz.func27 (by kernel_rfl) (by kernel_rfl) (by kernel_rfl) Tryz.call27
theorem d2V : FnOK Tryz.prog 28 i28 := .of Tryz.func28 (by kernel_rfl) (by kernel_rfl) (by kernel_rfl) Tryz.call28
theorem d2W : FnOK Tryz.prog 29 i29 := .of Tryz.func29 (by kernel_rfl) (by kernel_rfl) (by kernel_rfl) Tryz.call29
theorem d2X : FnOK Tryz.prog 30 i30 := .of Tryz.func30 (by kernel_rfl) (by kernel_rfl) (by kernel_rfl) Tryz.call30
theorem d2Y : FnOK Tryz.prog 31 i31 := .of Tryz.func31 (by kernel_rfl) (by kernel_rfl) (by kernel_rfl) Tryz.call31
theorem d2Z : FnOK Tryz.prog 32 i32 := .of Tryz.func32 (by kernel_rfl) (by kernel_rfl) (by kernel_rfl) Tryz.call32
theorem d3a : FnOK Tryz.prog 33 i33 := .of Tryz.func33 (by kernel_rfl) (by kernel_rfl) (by kernel_rfl) Tryz.call33
theorem d3c : FnOK Tryz.prog 34 i34 := .of Tryz.func34 (by kernel_rfl) (by kernel_rfl) (by kernel_rfl) Tryz.call34
theorem d3d : FnOK Tryz.prog 35 i35 := .of Tryz.func35 (by kernel_rfl) (by kernel_rfl) (by kernel_rfl) Tryz.call35
theorem d3e : FnOK Tryz.prog 36 i36 := .of Tryz.func36 (by kernel_rfl) (by kernel_rfl) (by kernel_rfl) Tryz.call36
theorem d3f : FnOK Tryz.prog 37 i37 := .of Tryz.func37 (by kernel_rfl) (by kernel_rfl) (by kernel_rfl) Tryz.call37
theorem d3g : FnOK Tryz.prog 38 i38 := .of Tryz.func38 (by kernel_rfl) (by kernel_rfl) (by kernel_rfl) Tryz.call38
theorem d3h : FnOK Tryz.prog 39 i39 := .of Tryz.func39 (by kernel_rfl) (by kernel_rfl) (by kernel_rfl) Tryz.call39
theorem d3i : FnOK Tryz.prog 40 i40 := .of Tryz.func40 (by kernel_rfl) (by kernel_rfl) (by kernel_rfl) Tryz.call40
theorem d3j : FnOK Tryz.prog 41 i41 := .of Tryz.func41 (by kernel_rfl) (by kernel_rfl) (by kernel_rfl) Tryz.call41
theorem d3k : FnOK Tryz.prog 42 i42 := .of Tryz.func42 (by kernel_rfl) (by kernel_rfl) (by kernel_rfl) Tryz.call42
theorem d3l : FnOK Tryz.prog 43 i43 := .of Tryz.func43 (by kernel_rfl) (by kernel_rfl) (by kernel_rfl) Tryz.call43
theorem d3m : FnOK Tryz.prog 59 i59 := .of Tryz.func59 (by kernel_rfl) (by kernel_rfl) (by kernel_rfl) Tryz.call59
theorem d3o : FnOK Tryz.prog 60 i60 := .of Tryz.func60 (by kernel_rfl) (by kernel_rfl) (by kernel_rfl) Tryz.call60
theorem d3p : FnOK Tryz.prog 61 i61 := .of Tryz.func61 (by kernel_rfl) (by kernel_rfl) (by kernel_rfl) Tryz.call61
theorem d3q : FnOK Tryz.prog 62 i62 := .of Tryz.func62 (by kernel_rfl) (by kernel_rfl) (by kernel_rfl) Tryz.call62
theorem d3r : FnOK Tryz.prog 63 i63 := .of Tryz.func63 (by kernel_rfl) (by kernel_rfl) (by kernel_rfl) Tryz.call63
theorem d3s : FnOK Tryz.prog 64 i64 := .of Tryz.func64 (by kernel_rfl) (by kernel_rfl) (by kernel_rfl) Tryz.call64
theorem d3t : FnOK Tryz.prog 65 i65 := .of Tryz.func65 (by kernel_rfl) (by kernel_rfl) (by kernel_rfl) Tryz.call65
theorem d3u : FnOK Tryz.prog 66 i66 := .of Tryz.func66 (by kernel_rfl) (by kernel_rfl) (by kernel_rfl) Tryz.call66
theorem d3v : FnOK Tryz.prog 67 i67 := .of Tryz.func67 (by kernel_rfl) (by kernel_rfl) (by kernel_rfl) Tryz.call67
theorem d3w : FnOK Tryz.prog 68 i68 := .of Tryz.func68 (by kernel_rfl) (by kernel_rfl) (by kernel_rfl) Tryz.call68
theorem d3x : FnOK Tryz.prog 69 i69 := .of Tryz.func69 (by kernel_rfl) (by kernel_rfl) (by kernel_rfl) Tryz.call69
theorem d3y : FnOK Tryz.prog 70 i70 := .of Tryz.func70 (by kernel_rfl) (by kernel_rfl) (by kernel_rfl) Tryz.call70
theorem d3z : FnOK Tryz.prog 71 i71 := .of Tryz.func71 (by kernel_rfl) (by kernel_rfl) (by kernel_rfl) Tryz.call71
theorem d3A : FnOK Tryz.prog 72 i72 := .of Tryz.func72 (by kernel_rfl) (by kernel_rfl) (by kernel_rfl) Tryz.call72
theorem d3B : FnOK Tryz.prog 73 i73 := .of Tryz.func73 (by kernel_rfl) (by kernel_rfl) (by kernel_rfl) Tryz.call73
theorem d3C : FnOK Tryz.prog 74 i74 := .of Tryz.func74 (by kernel_rfl) (by kernel_rfl) (by kernel_rfl) Tryz.call74
theorem d3D : FnOK Tryz.prog 75 i75 := .of Tryz.func75 (by kernel_rfl) (by kernel_rfl) (by kernel_rfl) Tryz.call75
theorem d3E : FnOK Tryz.prog 76 i76 := .of Tryz.func76 (by kernel_rfl) (by kernel_rfl) (by kernel_rfl) Tryz.call76
theorem d3F : FnOK Tryz.prog 77 i77 := .of Tryz.func77 (by kernel_rfl) (by kernel_rfl) (by kernel_rfl) Tryz.call77
theorem d3G : FnOK Tryz.prog 78 i78 := .of Tryz.func78 (by kernel_rfl) (by kernel_rfl) (by kernel_rfl) Tryz.call78
theorem d3H : FnOK Tryz.prog 79 i79 := .of Tryz.func79 (by kernel_rfl) (by kernel_rfl) (by kernel_rfl) Tryz.call79
theorem d3I : FnOK Tryz.prog 87 i87 := .of Tryz.func87 (by kernel_rfl) (by kernel_rfl) (by kernel_rfl) Tryz.call87
theorem d3J : FnOK Tryz.prog 88 i88 := .of Tryz.func88 (by kernel_rfl) (by kernel_rfl) (by kernel_rfl) Tryz.call88
theorem d3K : FnOK Tryz.prog 89 i89 := .of Tryz.func89 (by kernel_rfl) (by kernel_rfl) (by kernel_rfl) Tryz.call89
theorem d3L : FnOK Tryz.prog 90 i90 := .of Tryz.func90 (by kernel_rfl) (by kernel_rfl) (by kernel_rfl) Tryz.call90
theorem d3M : FnOK Tryz.prog 91 i91 := .of Tryz.func91 (by kernel_rfl) (by kernel_rfl) (by kernel_rfl) Tryz.call91
theorem d3N : FnOK Tryz.prog 92 i92 := .of Tryz.func92 (by kernel_rfl) (by kernel_rfl) (by kernel_rfl) Tryz.call92
theorem d3O : FnOK Tryz.prog 93 i93 := .of Tryz.func93 (by kernel_rfl) (by kernel_rfl) (by kernel_rfl) Tryz.call93
theorem d3P : FnOK Tryz.prog 94 i94 := .of Tryz.func94 (by kernel_rfl) (by kernel_rfl) (by kernel_rfl) Tryz.call94
theorem d3Q : FnOK Tryz.prog 95 i95 := .of Tryz.func95 (by kernel_rfl) (by kernel_rfl) (by kernel_rfl) Tryz.call95
theorem d3R : FnOK Tryz.prog 96 i96 := .of Tryz.func96 (by kernel_rfl) (by kernel_rfl) (by kernel_rfl) Tryz.call96
theorem d3S : FnOK Tryz.prog 97 i97 := .of Tryz.func97 (by kernel_rfl) (by kernel_rfl) (by kernel_rfl) Tryz.call97
theorem d3T : FnOK Tryz.prog 98 i98 := .of Tryz.func98 (by kernel_rfl) (by kernel_rfl) (by kernel_rfl) Tryz.call98
theorem d3U : FnOK Tryz.prog 99 i99 := .of Tryz.func99 (by kernel_rfl) (by kernel_rfl) (by kernel_rfl) Tryz.call99
theorem c9a : FnOK Tryz.prog 106 c9V := .of Tryz.func106 (by kernel_rfl) (by kernel_rfl) (by kernel_rfl) Tryz.call106
theorem c9b : FnOK Tryz.prog 110 c9W := .of Tryz.func110 (by kernel_rfl) (by kernel_rfl) (by kernel_rfl) Tryz.call110
theorem c9c : FnOK Tryz.prog 111 c9X := .of Tryz.func111 (by kernel_rfl) (by kernel_rfl) (by kernel_rfl) Tryz.call111
theorem c9d : FnOK Tryz.prog 112 c9Y := .of Tryz.func112 (by kernel_rfl) (by kernel_rfl) (by kernel_rfl) Tryz.call112
theorem c9e : FnOK Tryz.prog 113 c9Z := .of Tryz.func113 (by kernel_rfl) (by kernel_rfl) (by kernel_rfl) Tryz.call113
theorem c9f : FnOK Tryz.prog 114 d0a := .of Tryz.func114 (by kernel_rfl) (by kernel_rfl) (by kernel_rfl) Tryz.call114
theorem c9g : FnOK Tryz.prog 115 d0b := .of Tryz.func115 (by kernel_rfl) (by kernel_rfl) (by kernel_rfl) Tryz.call115
theorem c9h : FnOK Tryz.prog 116 d0c := .of Tryz.func116 (by kernel_rfl) (by kernel_rfl) (by kernel_rfl) Tryz.call116
theorem c9i : FnOK Tryz.prog 117 d0d := .of Tryz.func117 (by kernel_rfl) (by kernel_rfl) (by kernel_rfl) Tryz.call117
theorem c9j : FnOK Tryz.prog 118 d0e := .of Tryz.func118 (by kernel_rfl) (by kernel_rfl) (by kernel_rfl) Tryz.call118
theorem c9k : FnOK Tryz.prog 119 d0f := .of Tryz.func119 (by kernel_rfl) (by kernel_rfl) (by kernel_rfl) Tryz.call119
theorem c9l : FnOK Tryz.prog 120 d0g := .of Tryz.func120 (by kernel_rfl) (by kernel_rfl) (by kernel_rfl) Tryz.call120
theorem c9m : FnOK Tryz.prog 121 d0h := .of Tryz.func121 (by kernel_rfl) (by kernel_rfl) (by kernel_rfl) Tryz.call121
theorem c9n : FnOK Tryz.prog 129 d0i := .of Tryz.func129 (by kernel_rfl) (by kernel_rfl) (by kernel_rfl) Tryz.call129
theorem c9o : FnOK Tryz.prog 130 d0j := .of Tryz.func130 (by kernel_rfl) (by kernel_rfl) (by kernel_rfl) Tryz.call130
theorem c9p : FnOK Tryz.prog 131 d0k := .of Tryz.func131 (by kernel_rfl) (by kernel_rfl) (by kernel_rfl) Tryz.call131
theorem c9q : FnOK Tryz.prog 132 d0l := .of Tryz.func132 (by kernel_rfl) (by kernel_rfl) (by kernel_rfl) Tryz.call132
theorem c9r : FnOK Tryz.prog 133 d0m := .of Tryz.func133 (by kernel_rfl) (by kernel_rfl) (by kernel_rfl) Tryz.call133
theorem c9s : FnOK Tryz.prog 134 d0n := .of Tryz.func134 (by kernel_rfl) (by kernel_rfl) (by kernel_rfl) Tryz.call134
theorem c9t : FnOK Tryz.prog 135 d0o := .of Tryz.func135 (by kernel_rfl) (by kernel_rfl) (by kernel_rfl) Tryz.call135
theorem c9u : FnOK Tryz.prog 136 d0p := .of Tryz.func136 (by kernel_rfl) (by kernel_rfl) (by kernel_rfl) Tryz.call136
theorem c9v : FnOK Tryz.prog 141 d0q := .of Tryz.func141 (by kernel_rfl) (by kernel_rfl) (by kernel_rfl) Tryz.call141
theorem c9w : FnOK Tryz.prog 142 d0r := .of Tryz.func142 (by kernel_rfl) (by kernel_rfl) (by kernel_rfl) Tryz.call142
theorem c9x : FnOK Tryz.prog 143 d0s := .of Tryz.func143 (by kernel_rfl) (by kernel_rfl) (by kernel_rfl) Tryz.call143
theorem c9y : FnOK Tryz.prog 144 d0t := .of Tryz.func144 (by kernel_rfl) (by kernel_rfl) (by kernel_rfl) Tryz.call144
theorem c9z : FnOK Tryz.prog 145 d0u := .of Tryz.func145 (by kernel_rfl) (by kernel_rfl) (by kernel_rfl) Tryz.call145
theorem c9A : FnOK Tryz.prog 146 d0v := .of Tryz.func146 (by kernel_rfl) (by kernel_rfl) (by kernel_rfl) Tryz.call146
theorem c9B : FnOK Tryz.prog 153 d0w := .of Tryz.func153 (by kernel_rfl) (by kernel_rfl) (by kernel_rfl) Tryz.call153
theorem c9C : FnOK Tryz.prog 154 d0x := .of Tryz.func154 (by kernel_rfl) (by kernel_rfl) (by kernel_rfl) Tryz.call154
theorem c9D : FnOK Tryz.prog 156 d0y := .of Tryz.func156 (by kernel_rfl) (by kernel_rfl) (by kernel_rfl) Tryz.call156
theorem c9E : FnOK Tryz.prog 159 d0z := .of Tryz.func159 (by kernel_rfl) (by kernel_rfl) (by kernel_rfl) Tryz.call159
theorem c9F : FnOK Tryz.prog 161 d0A := .of Tryz.func161 (by kernel_rfl) (by kernel_rfl) (by kernel_rfl) Tryz.call161
theorem c9G : FnOK Tryz.prog 178 d0B := .of Tryz.func178 (by kernel_rfl) (by kernel_rfl) (by kernel_rfl) Tryz.call178
theorem c9H : FnOK Tryz.prog 179 d0C := .of Tryz.func179 (by kernel_rfl) (by kernel_rfl) (by kernel_rfl) Tryz.call179
theorem c9I : FnOK Tryz.prog 180 d0D := .of Tryz.func180 (by kernel_rfl) (by kernel_rfl) (by kernel_rfl) Tryz.call180
theorem c9J : FnOK Tryz.prog 181 d0E := .of Tryz.func181 (by kernel_rfl) (by kernel_rfl) (by kernel_rfl) Tryz.call181
theorem c9K : FnOK Tryz.prog 182 d0F := .of Tryz.func182 (by kernel_rfl) (by kernel_rfl) (by kernel_rfl) Tryz.call182
theorem c9L : FnOK Tryz.prog 183 d0G := .of Tryz.func183 (by kernel_rfl) (by kernel_rfl) (by kernel_rfl) Tryz.call183
theorem c9M : FnOK Tryz.prog 184 d0H := .of Tryz.func184 (by kernel_rfl) (by kernel_rfl) (by kernel_rfl) Tryz.call184
theorem c9S : c1i Tryz.prog c9R := ⟨fk3, fk6, fk7, fk8, fk9, d2K, d2L, d2M, d2N, d2O, d2P, d2Q, d2R, d2S, d2T, d2U, d2V, d2W, d2X, d2Y, d2Z, d3a, d3c, d3d, d3e, d3f, d3g, d3h, d3i, d3j, d3k, d3l, d3m, d3o, d3p, d3q, d3r, d3s, d3t, d3u, d3v, d3w, d3x, d3y, d3z, d3A, d3B, d3C, d3D, d3E, d3F, d3G, d3H, d3I, d3J, d3K, d3L, d3M, d3N, d3O, d3P, d3Q, d3R, d3S, d3T, d3U, c9a, c9b, c9c, c9d, c9e, c9f, c9g, c9h, c9i, c9j, c9k, c9l, c9m, c9n, c9o, c9p, c9q, c9r, c9s, c9t, c9u, c9v, c9w, c9x, c9y, c9z, c9A, c9B, c9C, c9D, c9E, c9F, c9G, c9H, c9I, c9J, c9K, c9L, c9M, trivial⟩
def kinZ : List Int := [0, 0, 0, 0, 0, 0, 0, 0, 0, 4, 0, 0, 0, 0, 0, 0, 0, 0, 0, 0, 0, 0, 0, 0, 0, 0, 0, 0, 0, 0, 0, 0, 4, 0, 0, 0, 0, 0, 0, 0, 0, 0, 0, 0, 0, 0, 0, 0, 1, 1, 1, 1, 1, 1, 1, 1, 1, 1, 0, 0, 0, 0, 0, 0, 0, 2, 2, 2, 2, 2, 2, 2, 2, 2, 2, 2, 2, 2, 2, 2, 2, 2, 2, 2, 2, 2, 2, 2, 2, 2, 2, 0, 0, 0, 0, 0, 0, 2, 2, 2, 2, 2, 2, 2, 2, 2, 2, 2, 2, 2, 2, 2, 2, 2, 2, 2, 2, 2, 2, 2, 2, 2, 2, 0, 0, 0, 0, 0, 0, 0, 0, 0, 0, 0, 0, 0, 0, 0, 0, 0, 0, 0, 0, 0, 0, 0, 0, 0, 0, 0, 0, 0, 0, 0, 0, 0, 0, 0, 0, 0, 0, 0, 0, 0, 0, 0, 0, 0, 0, 0, 0, 0, 0, 0, 0, 0, 0, 0, 0, 0, 0, 0, 0, 0, 0, 0, 0, 0, 0, 0, 0, 0, 0, 0, 0, 0, 0, 0, 0, 0, 0, 0, 0, 0, 0, 0, 0, 0, 0, 0, 0, 0, 0, 0, 0, 0, 0, 0, 0, 0, 0, 0, 0, 0, 0, 0, 0, 0, 0, 0, 0, 0, 0, 0, 0, 0, 0, 0, 0, 0, 0, 0, 0, 0, 0, 0, 0, 0, 0, 0, 0, 0, 0, 0, 0, 0]
def kin : List D := kinZ.map fun z => .int .u8 z
noncomputable def gl : Nat → Option D := fun i => if i = 0 then some (.fptr kin) else none
abbrev b5X : Nat := 155
theorem c4S (vs : Array Value) (w : World) : (callFunc 155 vs).run Tryz.prog w = ((Extern.BytealgCompare.compare vs).run Tryz.prog w).andThen fun v w' => .ok (.value v) w' := run_callFunc_extern Tryz.func155 (by kernel_rfl) (by kernel_rfl) (by kernel_rfl) (by kernel_rfl) vs w
theorem b8O {args : List D} {h h' : Hp} {d : D} (hd : c6I args h = some (d, h')) {g : Gh} {vs : List Value} (hi : Inv g h) (hr : RepL g vs args) : CallAt Tryz.prog 155 vs g h' d := by
 unfold c6I at hd
 split at hd
 ·injection hd with hd
  injection hd with h1 h2
  subst h1; subst h2
  exact b5g c4S hi hr
 ·cases hd
noncomputable def xt : a1y := fun f args h => if f = b5X then c6I args h else none
theorem d4S (X : Cx) : a2D Tryz.prog X xt := fun f args h d h' hd g vs hi hgl hr => by
 unfold xt at hd
 split at hd
 ·rename_i hf
  subst hf
  exact b8O hd hi hr
 ·skip
  cases hd
noncomputable def X : Cx := ⟨tab, gl, xt⟩
noncomputable def R : a1y := run X Fs
theorem er (fi : FnI) {f : FuncId} {args : List D} {h : Hp} {x : Option (D × Hp)} (hf : Fs f = some fi) (hx : fnR X R a0I fi args h = x) : R f args h = x := (c5J hf args h).trans hx
theorem d2F : a2D Tryz.prog X R := c5L (X := X) d1J d4x (d4S X) (c0j c9R c9S)
theorem d4R (a b : List UInt8) (h : Hp) : R b5X [.str a, .str b] h = some (.int .i64 (Lib.compareBytes a b), h) := (c5M (X := X) (F := Fs) (by kernel_rfl) _ _).trans (by simp [X, xt, c6I])
end Go.Proofs.YthaajlepgblimaaGreatDoor
