/- The tables of this seat: its types, and how its functions are carried out on data. -/
import Derived.Test.YtmbjebbjeaafgaaDoorPiW
import Derived.Test.YtmbjebbjeaafgaaDoorChecked
import Derived.KernelRfl
set_option linter.unusedSimpArgs false
set_option linter.unusedVariables false
set_option linter.unnecessarySimpa false
namespace Go.Proofs.YtmbjebbjeaafgaaDoor
open Go.Eng Go.Pi
abbrev ty3 : Nat := 3
abbrev ty4 : Nat := 4
abbrev ty5 : Nat := 5
abbrev ty9 : Nat := 9
abbrev ty22 : Nat := 22
abbrev ty26 : Nat := 26
abbrev ty28 : Nat := 28
abbrev ty29 : Nat := 29
abbrev ty31 : Nat := 31
abbrev ty74 : Nat := 34
abbrev ty34 : Nat := 38
abbrev ty49 : Nat := 41
abbrev ty78 : Nat := 44
abbrev ty80 : Nat := 48
abbrev ty82 : Nat := 51
abbrev ty98 : Nat := 62
abbrev ty109 : Nat := 64
abbrev ty1044 : Nat := 83
abbrev ty134 : Nat := 86
abbrev fn1165 : Nat := 3
abbrev fn9 : Nat := 4
abbrev fn10 : Nat := 5
abbrev fn11 : Nat := 6
abbrev fn12 : Nat := 7
abbrev fn38 : Nat := 8
abbrev fn13 : Nat := 9
abbrev fn1042 : Nat := 10
abbrev fn82 : Nat := 11
abbrev fn39 : Nat := 12
abbrev fn40 : Nat := 13
abbrev fn41 : Nat := 14
abbrev fn42 : Nat := 15
abbrev fn43 : Nat := 16
abbrev fn1043 : Nat := 17
abbrev fn1047 : Nat := 18
abbrev fn1048 : Nat := 19
abbrev fn1049 : Nat := 20
abbrev fn1050 : Nat := 21
abbrev fn94 : Nat := 22
abbrev fn95 : Nat := 23
abbrev fn66 : Nat := 24
abbrev fn67 : Nat := 25
abbrev fn68 : Nat := 26
abbrev fn69 : Nat := 27
abbrev fn70 : Nat := 28
abbrev fn1051 : Nat := 29
abbrev fn1052 : Nat := 30
abbrev fn1053 : Nat := 31
abbrev fn1054 : Nat := 32
abbrev fn1055 : Nat := 33
abbrev fn1006 : Nat := 34
abbrev fn83 : Nat := 35
abbrev fn1056 : Nat := 36
abbrev fn1009 : Nat := 37
abbrev fn1057 : Nat := 38
abbrev fn1058 : Nat := 39
abbrev fn1059 : Nat := 40
abbrev fn1060 : Nat := 41
abbrev fn1061 : Nat := 42
abbrev fn1062 : Nat := 43
abbrev fn1063 : Nat := 44
abbrev fn1064 : Nat := 45
abbrev fn1065 : Nat := 46
abbrev fn1066 : Nat := 47
abbrev fn1068 : Nat := 49
abbrev fn1069 : Nat := 50
noncomputable def ti3 : TI := ⟨.int .i64, 1, 8, [.int .i64 0], []⟩
noncomputable def ti4 : TI := ⟨.bool, 1, 1, [.bool false], []⟩
noncomputable def ti5 : TI := ⟨.int .u8, 1, 1, [.int .u8 0], []⟩
noncomputable def ti9 : TI := ⟨.str, 1, 16, [.str []], []⟩
noncomputable def ti22 : TI := ⟨.sl 5, 1, 24, [.nils], []⟩
noncomputable def ti26 : TI := ⟨.sl 38, 1, 24, [.nils], []⟩
noncomputable def ti28 : TI := ⟨.sl 44, 1, 24, [.nils], []⟩
noncomputable def ti29 : TI := ⟨.sl 64, 1, 24, [.nils], []⟩
noncomputable def ti31 : TI := ⟨.st [(3, 0, 1), (3, 1, 1), (3, 2, 1), (3, 3, 1), (28, 4, 1), (3, 5, 1), (3, 6, 1), (9, 7, 1), (9, 8, 1), (29, 9, 1)], 10, 128, [.int .i64 0, .int .i64 0, .int .i64 0, .int .i64 0, .nils, .int .i64 0, .int .i64 0, .str [], .str [], .nils], []⟩
noncomputable def ti74 : TI := ⟨.st [(9, 0, 1), (31, 1, 10)], 11, 144, [.str [], .int .i64 0, .int .i64 0, .int .i64 0, .int .i64 0, .nils, .int .i64 0, .int .i64 0, .str [], .str [], .nils], []⟩
noncomputable def ti34 : TI := ⟨.st [(9, 0, 1), (9, 1, 1), (9, 2, 1), (9, 3, 1), (3, 4, 1), (4, 5, 1)], 6, 80, [.str [], .str [], .str [], .str [], .int .i64 0, .bool false], []⟩
noncomputable def ti49 : TI := ⟨.int .i64, 1, 8, [.int .i64 0], []⟩
noncomputable def ti78 : TI := ⟨.st [(3, 0, 1), (3, 1, 1), (9, 2, 1)], 3, 32, [.int .i64 0, .int .i64 0, .str []], []⟩
noncomputable def ti80 : TI := ⟨.st [(22, 0, 1), (3, 1, 1)], 2, 32, [.nils, .int .i64 0], []⟩
noncomputable def ti82 : TI := ⟨.sl 3, 1, 24, [.nils], []⟩
noncomputable def ti98 : TI := ⟨.sl 9, 1, 24, [.nils], []⟩
noncomputable def ti109 : TI := ⟨.st [(9, 0, 1), (9, 1, 1)], 2, 32, [.str [], .str []], []⟩
noncomputable def ti1044 : TI := ⟨.arr 256 5, 256, 256, [.int .u8 0, .int .u8 0, .int .u8 0, .int .u8 0, .int .u8 0, .int .u8 0, .int .u8 0, .int .u8 0, .int .u8 0, .int .u8 0, .int .u8 0, .int .u8 0, .int .u8 0, .int .u8 0, .int .u8 0, .int .u8 0, .int .u8 0, .int .u8 0, .int .u8 0, .int .u8 0, .int .u8 0, .int .u8 0, .int .u8 0, .int .u8 0, .int .u8 0, .int .u8 0, .int .u8 0, .int .u8 0, .int .u8 0, .int .u8 0, .int .u8 0, .int .u8 0, .int .u8 0, .int .u8 0, .int .u8 0, .int .u8 0, .int .u8 0, .int .u8 0, .int .u8 0, .int .u8 0, .int .u8 0, .int .u8 0, .int .u8 0, .int .u8 0, .int .u8 0, .int .u8 0, .int .u8 0, .int .u8 0, .int .u8 0, .int .u8 0, .int .u8 0, .int .u8 0, .int .u8 0, .int .u8 0, .int .u8 0, .int .u8 0, .int .u8 0, .int .u8 0, .int .u8 0, .int .u8 0, .int .u8 0, .int .u8 0, .int .u8 0, .int .u8 0, .int .u8 0, .int .u8 0, .int .u8 0, .int .u8 0, .int .u8 0, .int .u8 0, .int .u8 0, .int .u8 0, .int .u8 0, .int .u8 0, .int .u8 0, .int .u8 0, .int .u8 0, .int .u8 0, .int .u8 0, .int .u8 0, .int .u8 0, .int .u8 0, .int .u8 0, .int .u8 0, .int .u8 0, .int .u8 0, .int .u8 0, .int .u8 0, .int .u8 0, .int .u8 0, .int .u8 0, .int .u8 0, .int .u8 0, .int .u8 0, .int .u8 0, .int .u8 0, .int .u8 0, .int .u8 0, .int .u8 0, .int .u8 0, .int .u8 0, .int .u8 0, .int .u8 0, .int .u8 0, .int .u8 0, .int .u8 0, .int .u8 0, .int .u8 0, .int .u8 0, .int .u8 0, .int .u8 0, .int .u8 0, .int .u8 0, .int .u8 0, .int .u8 0, .int .u8 0, .int .u8 0, .int .u8 0, .int .u8 0, .int .u8 0, .int .u8 0, .int .u8 0, .int .u8 0, .int .u8 0, .int .u8 0, .int .u8 0, .int .u8 0, .int .u8 0, .int .u8 0, .int .u8 0, .int .u8 0, .int .u8 0, .int .u8 0, .int .u8 0, .int .u8 0, .int .u8 0, .int .u8 0, .int .u8 0, .int .u8 0, .int .u8 0, .int .u8 0, .int .u8 0, .int .u8 0, .int .u8 0, .int .u8 0, .int .u8 0, .int .u8 0, .int .u8 0, .int .u8 0, .int .u8 0, .int .u8 0, .int .u8 0, .int .u8 0, .int .u8 0, .int .u8 0, .int .u8 0, .int .u8 0, .int .u8 0, .int .u8 0, .int .u8 0, .int .u8 0, .int .u8 0, .int .u8 0, .int .u8 0, .int .u8 0, .int .u8 0, .int .u8 0, .int .u8 0, .int .u8 0, .int .u8 0, .int .u8 0, .int .u8 0, .int .u8 0, .int .u8 0, .int .u8 0, .int .u8 0, .int .u8 0, .int .u8 0, .int .u8 0, .int .u8 0, .int .u8 0, .int .u8 0, .int .u8 0, .int .u8 0, .int .u8 0, .int .u8 0, .int .u8 0, .int .u8 0, .int .u8 0, .int .u8 0, .int .u8 0, .int .u8 0, .int .u8 0, .int .u8 0, .int .u8 0, .int .u8 0, .int .u8 0, .int .u8 0, .int .u8 0, .int .u8 0, .int .u8 0, .int .u8 0, .int .u8 0, .int .u8 0, .int .u8 0, .int .u8 0, .int .u8 0, .int .u8 0, .int .u8 0, .int .u8 0, .int .u8 0, .int .u8 0, .int .u8 0, .int .u8 0, .int .u8 0, .int .u8 0, .int .u8 0, .int .u8 0, .int .u8 0, .int .u8 0, .int .u8 0, .int .u8 0, .int .u8 0, .int .u8 0, .int .u8 0, .int .u8 0, .int .u8 0, .int .u8 0, .int .u8 0, .int .u8 0, .int .u8 0, .int .u8 0, .int .u8 0, .int .u8 0, .int .u8 0, .int .u8 0, .int .u8 0, .int .u8 0, .int .u8 0, .int .u8 0, .int .u8 0, .int .u8 0, .int .u8 0, .int .u8 0, .int .u8 0, .int .u8 0, .int .u8 0, .int .u8 0, .int .u8 0, .int .u8 0, .int .u8 0, .int .u8 0, .int .u8 0, .int .u8 0, .int .u8 0, .int .u8 0], []⟩
noncomputable def ti134 : TI := ⟨.int .u64, 1, 8, [.int .u64 0], []⟩
noncomputable def tabL : List (Option TI) := [none, none, none, some ti3, some ti4, some ti5, none, none, none, some ti9, none, none, none, none, none, none, none, none, none, none, none, none, some ti22, none, none, none, some ti26, none, some ti28, some ti29, none, some ti31, none, none, some ti74, none, none, none, some ti34, none, none, some ti49, none, none, some ti78, none, none, none, some ti80, none, none, some ti82, none, none, none, none, none, none, none, none, none, none, some ti98, none, some ti109, none, none, none, none, none, none, none, none, none, none, none, none, none, none, none, none, none, none, some ti1044, none, none, some ti134]
noncomputable def tab : Tab := tabOf tabL
theorem tk3 : tiOf Tryd.prog 3 = some ti3 ∧ goodT Tryd.prog 3 = true := ⟨by kernel_rfl, by kernel_rfl⟩
theorem tk4 : tiOf Tryd.prog 4 = some ti4 ∧ goodT Tryd.prog 4 = true := ⟨by kernel_rfl, by kernel_rfl⟩
theorem tk5 : tiOf Tryd.prog 5 = some ti5 ∧ goodT Tryd.prog 5 = true := ⟨by kernel_rfl, by kernel_rfl⟩
theorem tk9 : tiOf Tryd.prog 9 = some ti9 ∧ goodT Tryd.prog 9 = true := ⟨by kernel_rfl, by kernel_rfl⟩
theorem tk22 : tiOf Tryd.prog 22 = some ti22 ∧ goodT Tryd.prog 22 = true := ⟨by kernel_rfl, by kernel_rfl⟩
theorem tk26 : tiOf Tryd.prog 26 = some ti26 ∧ goodT Tryd.prog 26 = true := ⟨by kernel_rfl, by kernel_rfl⟩
theorem tk28 : tiOf Tryd.prog 28 = some ti28 ∧ goodT Tryd.prog 28 = true := ⟨by kernel_rfl, by kernel_rfl⟩
theorem tk29 : tiOf Tryd.prog 29 = some ti29 ∧ goodT Tryd.prog 29 = true := ⟨by kernel_rfl, by kernel_rfl⟩
theorem tk31 : tiOf Tryd.prog 31 = some ti31 ∧ goodT Tryd.prog 31 = true := ⟨by kernel_rfl, by kernel_rfl⟩
theorem tk34 : tiOf Tryd.prog 34 = some ti74 ∧ goodT Tryd.prog 34 = true := ⟨by kernel_rfl, by kernel_rfl⟩
theorem tk38 : tiOf Tryd.prog 38 = some ti34 ∧ goodT Tryd.prog 38 = true := ⟨by kernel_rfl, by kernel_rfl⟩
theorem tk41 : tiOf Tryd.prog 41 = some ti49 ∧ goodT Tryd.prog 41 = true := ⟨by kernel_rfl, by kernel_rfl⟩
theorem tk44 : tiOf Tryd.prog 44 = some ti78 ∧ goodT Tryd.prog 44 = true := ⟨by kernel_rfl, by kernel_rfl⟩
theorem tk48 : tiOf Tryd.prog 48 = some ti80 ∧ goodT Tryd.prog 48 = true := ⟨by kernel_rfl, by kernel_rfl⟩
theorem tk51 : tiOf Tryd.prog 51 = some ti82 ∧ goodT Tryd.prog 51 = true := ⟨by kernel_rfl, by kernel_rfl⟩
theorem tk62 : tiOf Tryd.prog 62 = some ti98 ∧ goodT Tryd.prog 62 = true := ⟨by kernel_rfl, by kernel_rfl⟩
theorem tk64 : tiOf Tryd.prog 64 = some ti109 ∧ goodT Tryd.prog 64 = true := ⟨by kernel_rfl, by kernel_rfl⟩
theorem tk83 : tiOf Tryd.prog 83 = some ti1044 ∧ goodT Tryd.prog 83 = true := ⟨by kernel_rfl, by kernel_rfl⟩
theorem tk86 : tiOf Tryd.prog 86 = some ti134 ∧ goodT Tryd.prog 86 = true := ⟨by kernel_rfl, by kernel_rfl⟩
theorem tabOK : TabOK Tryd.prog tab := tabOf_ok (show TabsOK Tryd.prog 0 tabL from ⟨tk3, tk4, tk5, tk9, tk22, tk26, tk28, tk29, tk31, tk34, tk38, tk41, tk44, tk48, tk51, tk62, tk64, tk83, tk86, trivial⟩)
theorem mixo : Tryd.prog.follows .mixedOrders = true := by kernel_rfl
noncomputable def i3 : FnI := ⟨Tryd.f3.body.getD .skip, Tryd.f3.results.toList, ⟨168, [0, 2, 3, 4, 5, 6, 7, 8, 9, 10, 11, 12, 14, 74, 77, 78, 79, 130, 136, 148], [6, 8, 10], []⟩, true⟩
noncomputable def i4 : FnI := ⟨Tryd.f4.body.getD .skip, Tryd.f4.results.toList, ⟨23, [0, 1, 2], [1, 5], []⟩, false⟩
noncomputable def i5 : FnI := ⟨Tryd.f5.body.getD .skip, Tryd.f5.results.toList, ⟨15, [0, 1, 4, 8], [], []⟩, false⟩
noncomputable def i6 : FnI := ⟨Tryd.f6.body.getD .skip, Tryd.f6.results.toList, ⟨39, [0, 2, 3, 4, 5, 9], [16, 20, 23, 26, 36, 1000005], []⟩, true⟩
noncomputable def i7 : FnI := ⟨Tryd.f7.body.getD .skip, Tryd.f7.results.toList, ⟨49, [0, 2, 3, 4], [4, 15, 21, 24, 1000003], []⟩, true⟩
noncomputable def i8 : FnI := ⟨Tryd.f8.body.getD .skip, Tryd.f8.results.toList, ⟨65, [0, 1, 3, 4, 5, 6, 7, 8, 10, 18, 24, 42, 43, 44, 45], [6, 10, 55], []⟩, true⟩
noncomputable def i9 : FnI := ⟨Tryd.f9.body.getD .skip, Tryd.f9.results.toList, ⟨21, [0, 1, 3, 4, 5, 7, 8, 9, 10, 11, 17], [3, 7], []⟩, true⟩
noncomputable def i10 : FnI := ⟨Tryd.f10.body.getD .skip, Tryd.f10.results.toList, ⟨64, [0, 1, 2, 3, 4, 7, 13, 18, 33, 63], [1, 3], []⟩, false⟩
noncomputable def i11 : FnI := ⟨Tryd.f11.body.getD .skip, Tryd.f11.results.toList, ⟨86, [0, 1, 2, 3, 4, 5, 6], [2, 3, 1000006], []⟩, true⟩
noncomputable def i12 : FnI := ⟨Tryd.f12.body.getD .skip, Tryd.f12.results.toList, ⟨33, [0, 1, 4, 11], [], []⟩, false⟩
noncomputable def i13 : FnI := ⟨Tryd.f13.body.getD .skip, Tryd.f13.results.toList, ⟨12, [0, 1, 4], [], []⟩, false⟩
noncomputable def i14 : FnI := ⟨Tryd.f14.body.getD .skip, Tryd.f14.results.toList, ⟨25, [0, 2, 3, 5, 6, 7, 8, 9, 14], [6, 18, 21], []⟩, true⟩
noncomputable def i15 : FnI := ⟨Tryd.f15.body.getD .skip, Tryd.f15.results.toList, ⟨38, [0, 1, 2, 3, 8, 9, 10, 11, 17, 25], [31], []⟩, true⟩
noncomputable def i16 : FnI := ⟨Tryd.f16.body.getD .skip, Tryd.f16.results.toList, ⟨7, [0, 1, 2, 5], [1], []⟩, false⟩
noncomputable def i17 : FnI := ⟨Tryd.f17.body.getD .skip, Tryd.f17.results.toList, ⟨57, [0, 1, 2, 3, 4, 5, 6, 16, 29, 40, 48, 54, 56], [1], []⟩, true⟩
noncomputable def i18 : FnI := ⟨Tryd.f18.body.getD .skip, Tryd.f18.results.toList, ⟨28, [0, 1, 2], [1], []⟩, false⟩
noncomputable def i19 : FnI := ⟨Tryd.f19.body.getD .skip, Tryd.f19.results.toList, ⟨75, [0, 1, 2, 4, 5, 6, 7, 8, 9, 14, 22, 23, 24, 25, 64, 69], [2], []⟩, true⟩
noncomputable def i20 : FnI := ⟨Tryd.f20.body.getD .skip, Tryd.f20.results.toList, ⟨9, [0, 1, 4], [], []⟩, false⟩
noncomputable def i21 : FnI := ⟨Tryd.f21.body.getD .skip, Tryd.f21.results.toList, ⟨6, [0, 1, 2], [1], []⟩, false⟩
noncomputable def i22 : FnI := ⟨Tryd.f22.body.getD .skip, Tryd.f22.results.toList, ⟨26, [0, 1, 4, 5, 10, 14, 25], [], []⟩, false⟩
noncomputable def i23 : FnI := ⟨Tryd.f23.body.getD .skip, Tryd.f23.results.toList, ⟨26, [0, 1, 4, 5, 10, 14, 25], [], []⟩, false⟩
noncomputable def i24 : FnI := ⟨Tryd.f24.body.getD .skip, Tryd.f24.results.toList, ⟨13, [0, 2], [], []⟩, false⟩
noncomputable def i25 : FnI := ⟨Tryd.f25.body.getD .skip, Tryd.f25.results.toList, ⟨98, [0, 2, 4, 5, 31, 47, 57, 68, 80], [8, 13, 18, 23, 28, 34, 39, 44, 50, 54, 60, 65, 71, 76, 83, 88, 93], []⟩, false⟩
noncomputable def i26 : FnI := ⟨Tryd.f26.body.getD .skip, Tryd.f26.results.toList, ⟨3, [0, 2], [1], []⟩, false⟩
noncomputable def i27 : FnI := ⟨Tryd.f27.body.getD .skip, Tryd.f27.results.toList, ⟨21, [0, 1, 2, 3, 4, 5], [2], []⟩, false⟩
noncomputable def i28 : FnI := ⟨Tryd.f28.body.getD .skip, Tryd.f28.results.toList, ⟨21, [0, 1, 4, 5, 7, 8, 9, 10, 11, 17], [7], []⟩, false⟩
noncomputable def i29 : FnI := ⟨Tryd.f29.body.getD .skip, Tryd.f29.results.toList, ⟨15, [0, 1, 2, 6], [], []⟩, false⟩
noncomputable def i30 : FnI := ⟨Tryd.f30.body.getD .skip, Tryd.f30.results.toList, ⟨44, [0, 2, 3, 5, 6, 9, 10, 11, 12, 13, 19, 28, 42], [5], []⟩, false⟩
noncomputable def i31 : FnI := ⟨Tryd.f31.body.getD .skip, Tryd.f31.results.toList, ⟨26, [0, 1, 4, 5, 10, 12, 13, 14, 24], [], []⟩, false⟩
noncomputable def i32 : FnI := ⟨Tryd.f32.body.getD .skip, Tryd.f32.results.toList, ⟨9, [0, 1, 4], [], []⟩, false⟩
noncomputable def i33 : FnI := ⟨Tryd.f33.body.getD .skip, Tryd.f33.results.toList, ⟨7, [0, 1, 2], [1], []⟩, false⟩
noncomputable def i34 : FnI := ⟨Tryd.f34.body.getD .skip, Tryd.f34.results.toList, ⟨19, [0, 1, 4, 5, 7, 8, 9, 16], [], []⟩, false⟩
noncomputable def i35 : FnI := ⟨Tryd.f35.body.getD .skip, Tryd.f35.results.toList, ⟨21, [0, 1, 4, 5, 6, 12], [17], []⟩, false⟩
noncomputable def i36 : FnI := ⟨Tryd.f36.body.getD .skip, Tryd.f36.results.toList, ⟨38, [0, 2, 4, 22, 24, 25, 26, 27, 36], [], []⟩, true⟩
noncomputable def i37 : FnI := ⟨Tryd.f37.body.getD .skip, Tryd.f37.results.toList, ⟨8, [0, 2, 4], [5], []⟩, false⟩
noncomputable def i38 : FnI := ⟨Tryd.f38.body.getD .skip, Tryd.f38.results.toList, ⟨9, [0, 1], [], []⟩, false⟩
noncomputable def i39 : FnI := ⟨Tryd.f39.body.getD .skip, Tryd.f39.results.toList, ⟨10, [0, 1, 2, 3, 4], [2, 3], []⟩, false⟩
noncomputable def i40 : FnI := ⟨Tryd.f40.body.getD .skip, Tryd.f40.results.toList, ⟨8, [0, 1, 4], [], []⟩, false⟩
noncomputable def i41 : FnI := ⟨Tryd.f41.body.getD .skip, Tryd.f41.results.toList, ⟨19, [0, 1, 4, 5, 7, 8, 9, 16], [], []⟩, false⟩
noncomputable def i42 : FnI := ⟨Tryd.f42.body.getD .skip, Tryd.f42.results.toList, ⟨8, [0, 2], [], []⟩, false⟩
noncomputable def i43 : FnI := ⟨Tryd.f43.body.getD .skip, Tryd.f43.results.toList, ⟨12, [0, 2], [], []⟩, false⟩
noncomputable def i44 : FnI := ⟨Tryd.f44.body.getD .skip, Tryd.f44.results.toList, ⟨63, [0, 1, 2, 6, 7, 8, 9, 13, 30, 35, 54], [], []⟩, false⟩
noncomputable def i45 : FnI := ⟨Tryd.f45.body.getD .skip, Tryd.f45.results.toList, ⟨8, [0, 1, 4], [], []⟩, false⟩
noncomputable def i46 : FnI := ⟨Tryd.f46.body.getD .skip, Tryd.f46.results.toList, ⟨53, [0, 1, 2, 3, 8, 9, 14, 34], [], []⟩, false⟩
noncomputable def i47 : FnI := ⟨Tryd.f47.body.getD .skip, Tryd.f47.results.toList, ⟨220, [0, 1, 2, 3, 4, 10, 11, 12, 13, 14, 15, 16, 17, 18, 19, 20, 21, 22, 23, 24, 28, 33, 50, 58, 80, 85, 103, 110, 140, 151, 171, 185, 199, 213], [], []⟩, false⟩
noncomputable def i49 : FnI := ⟨Tryd.f49.body.getD .skip, Tryd.f49.results.toList, ⟨58, [0, 1, 2, 3, 4, 10, 11, 20, 23], [], []⟩, false⟩
noncomputable def i50 : FnI := ⟨Tryd.f50.body.getD .skip, Tryd.f50.results.toList, ⟨38, [0, 1, 2, 3, 10, 13], [], []⟩, false⟩
noncomputable def fnsL : List (Nat × FnI) := [(3, i3), (4, i4), (5, i5), (6, i6), (7, i7), (8, i8), (9, i9), (10, i10), (11, i11), (12, i12), (13, i13), (14, i14), (15, i15), (16, i16), (17, i17), (18, i18), (19, i19), (20, i20), (21, i21), (22, i22), (23, i23), (24, i24), (25, i25), (26, i26), (27, i27), (28, i28), (29, i29), (30, i30), (31, i31), (32, i32), (33, i33), (34, i34), (35, i35), (36, i36), (37, i37), (38, i38), (39, i39), (40, i40), (41, i41), (42, i42), (43, i43), (44, i44), (45, i45), (46, i46), (47, i47), (49, i49), (50, i50)]
noncomputable def Fs : FuncId → Option FnI := fnOf fnsL
theorem fk3 : FnOK Tryd.prog 3 i3 := .of Tryd.func3 (by kernel_rfl) (by kernel_rfl) (by kernel_rfl) Tryd.call3
theorem fk4 : FnOK Tryd.prog 4 i4 := .of Tryd.func4 (by kernel_rfl) (by kernel_rfl) (by kernel_rfl) Tryd.call4
theorem fk5 : FnOK Tryd.prog 5 i5 := .of Tryd.func5 (by kernel_rfl) (by kernel_rfl) (by kernel_rfl) Tryd.call5
theorem fk6 : FnOK Tryd.prog 6 i6 := .of Tryd.func6 (by kernel_rfl) (by kernel_rfl) (by kernel_rfl) Tryd.call6
theorem fk7 : FnOK Tryd.prog 7 i7 := .of Tryd.func7 (by kernel_rfl) (by kernel_rfl) (by kernel_rfl) Tryd.call7
theorem fk8 : FnOK Tryd.prog 8 i8 := .of Tryd.func8 (by kernel_rfl) (by kernel_rfl) (by kernel_rfl) Tryd.call8
theorem fk9 : FnOK Tryd.prog 9 i9 := .of Tryd.func9 (by kernel_rfl) (by kernel_rfl) (by kernel_rfl) Tryd.call9
theorem fk10 : FnOK Tryd.prog 10 i10 := .of Tryd.func10 (by kernel_rfl) (by kernel_rfl) (by kernel_rfl) Tryd.call10
theorem fk11 : FnOK Tryd.prog 11 i11 := .of Tryd.func11 (by kernel_rfl) (by kernel_rfl) (by kernel_rfl) Tryd.call11
theorem fk12 : FnOK Tryd.prog 12 i12 := .of Tryd.func12 (by kernel_rfl) (by kernel_rfl) (by kernel_rfl) Tryd.call12
theorem fk13 : FnOK Tryd.prog 13 i13 := .of Tryd.func13 (by kernel_rfl) (by kernel_rfl) (by kernel_rfl) Tryd.call13
theorem fk14 : FnOK Tryd.prog 14 i14 := .of Tryd.func14 (by kernel_rfl) (by kernel_rfl) (by kernel_rfl) Tryd.call14
theorem fk15 : FnOK Tryd.prog 15 i15 := .of Tryd.func15 (by kernel_rfl) (by kernel_rfl) (by kernel_rfl) Tryd.call15
theorem fk16 : FnOK Tryd.prog 16 i16 := .of Tryd.func16 (by kernel_rfl) (by kernel_rfl) (by kernel_rfl) Tryd.call16
theorem fk17 : FnOK Tryd.prog 17 i17 := .of Tryd.func17 (by kernel_rfl) (by kernel_rfl) (by kernel_rfl) Tryd.call17
theorem fk18 : FnOK Tryd.prog 18 i18 := .of Tryd.func18 (by kernel_rfl) (by kernel_rfl) (by kernel_rfl) Tryd.call18
theorem fk19 : FnOK Tryd.prog 19 i19 := .of Tryd.func19 (by kernel_rfl) (by kernel_rfl) (by kernel_rfl) Tryd.call19
theorem fk20 : FnOK Tryd.prog 20 i20 := .of Tryd.func20 (by kernel_rfl) (by kernel_rfl) (by kernel_rfl) Tryd.call20
theorem fk21 : FnOK Tryd.prog 21 i21 := .of Tryd.func21 (by kernel_rfl) (by kernel_rfl) (by kernel_rfl) Tryd.call21
theorem fk22 : FnOK Tryd.prog 22 i22 := .of Tryd.func22 (by kernel_rfl) (by kernel_rfl) (by kernel_rfl) Tryd.call22
theorem fk23 : FnOK Tryd.prog 23 i23 := .of Tryd.func23 (by kernel_rfl) (by kernel_rfl) (by kernel_rfl) Tryd.call23
theorem fk24 : FnOK Tryd.prog 24 i24 := .of Tryd.func24 (by kernel_rfl) (by kernel_rfl) (by kernel_rfl) Tryd.call24
theorem fk25 : FnOK Tryd.prog 25 i25 := .of Tryd.func25 (by kernel_rfl) (by kernel_rfl) (by kernel_rfl) Tryd.call25
theorem fk26 : FnOK Tryd.prog 26 i26 := .of Tryd.func26 (by kernel_rfl) (by kernel_rfl) (by kernel_rfl) Tryd.call26
theorem fk27 : FnOK Tryd.prog 27 i27 := .of Tryd.func27 (by kernel_rfl) (by kernel_rfl) (by kernel_rfl) Tryd.call27
theorem fk28 : FnOK Tryd.prog 28 i28 := .of Tryd.func28 (by kernel_rfl) (by kernel_rfl) (by kernel_rfl) Tryd.call28
theorem fk29 : FnOK Tryd.prog 29 i29 := .of Tryd.func29 (by kernel_rfl) (by kernel_rfl) (by kernel_rfl) Tryd.call29
theorem fk30 : FnOK Tryd.prog 30 i30 := .of Tryd.func30 (by kernel_rfl) (by kernel_rfl) (by kernel_rfl) Tryd.call30
theorem fk31 : FnOK Tryd.prog 31 i31 := .of Tryd.func31 (by kernel_rfl) (by kernel_rfl) (by kernel_rfl) Tryd.call31
theorem fk32 : FnOK Tryd.prog 32 i32 := .of Tryd.func32 (by kernel_rfl) (by kernel_rfl) (by kernel_rfl) Tryd.call32
theorem fk33 : FnOK Tryd.prog 33 i33 := .of Tryd.func33 (by kernel_rfl) (by kernel_rfl) (by kernel_rfl) Tryd.call33
theorem fk34 : FnOK Tryd.prog 34 i34 := .of Tryd.func34 (by kernel_rfl) (by kernel_rfl) (by kernel_rfl) Tryd.call34
theorem fk35 : FnOK Tryd.prog 35 i35 := .of Tryd.func35 (by kernel_rfl) (by kernel_rfl) (by kernel_rfl) Tryd.call35
theorem fk36 : FnOK Tryd.prog 36 i36 := .of Tryd.func36 (by kernel_rfl) (by kernel_rfl) (by kernel_rfl) Tryd.call36
theorem fk37 : FnOK Tryd.prog 37 i37 := .of Tryd.func37 (by kernel_rfl) (by kernel_rfl) (by kernel_rfl) Tryd.call37
theorem fk38 : FnOK Tryd.prog 38 i38 := .of Tryd.func38 (by kernel_rfl) (by kernel_rfl) (by kernel_rfl) Tryd.call38
theorem fk39 : FnOK Tryd.prog 39 i39 := .of Tryd.func39 (by kernel_rfl) (by kernel_rfl) (by kernel_rfl) Tryd.call39
theorem fk40 : FnOK Tryd.prog 40 i40 := .of Tryd.func40 (by kernel_rfl) (by kernel_rfl) (by kernel_rfl) Tryd.call40
theorem fk41 : FnOK Tryd.prog 41 i41 := .of Tryd.func41 (by kernel_rfl) (by kernel_rfl) (by kernel_rfl) Tryd.call41
theorem fk42 : FnOK Tryd.prog 42 i42 := .of Tryd.func42 (by kernel_rfl) (by kernel_rfl) (by kernel_rfl) Tryd.call42
theorem fk43 : FnOK Tryd.prog 43 i43 := .of Tryd.func43 (by kernel_rfl) (by kernel_rfl) (by kernel_rfl) Tryd.call43
theorem fk44 : FnOK Tryd.prog 44 i44 := .of Tryd.func44 (by kernel_rfl) (by kernel_rfl) (by kernel_rfl) Tryd.call44
theorem fk45 : FnOK Tryd.prog 45 i45 := .of Tryd.func45 (by kernel_rfl) (by kernel_rfl) (by kernel_rfl) Tryd.call45
theorem fk46 : FnOK Tryd.prog 46 i46 := .of Tryd.func46 (by kernel_rfl) (by kernel_rfl) (by kernel_rfl) Tryd.call46
theorem fk47 : FnOK Tryd.prog 47 i47 := .of Tryd.func47 (by kernel_rfl) (by kernel_rfl) (by kernel_rfl) Tryd.call47
theorem fk49 : FnOK Tryd.prog 49 i49 := .of Tryd.func49 (by kernel_rfl) (by kernel_rfl) (by kernel_rfl) Tryd.call49
theorem fk50 : FnOK Tryd.prog 50 i50 := .of Tryd.func50 (by kernel_rfl) (by kernel_rfl) (by kernel_rfl) Tryd.call50
theorem fnsOK : FnsOK Tryd.prog fnsL := ⟨fk3, fk4, fk5, fk6, fk7, fk8, fk9, fk10, fk11, fk12, fk13, fk14, fk15, fk16, fk17, fk18, fk19, fk20, fk21, fk22, fk23, fk24, fk25, fk26, fk27, fk28, fk29, fk30, fk31, fk32, fk33, fk34, fk35, fk36, fk37, fk38, fk39, fk40, fk41, fk42, fk43, fk44, fk45, fk46, fk47, fk49, fk50, trivial⟩
def kinZ : List Int := [0, 0, 0, 0, 0, 0, 0, 0, 0, 4, 0, 0, 0, 0, 0, 0, 0, 0, 0, 0, 0, 0, 0, 0, 0, 0, 0, 0, 0, 0, 0, 0, 4, 0, 0, 0, 0, 0, 0, 0, 0, 0, 0, 0, 0, 0, 0, 0, 1, 1, 1, 1, 1, 1, 1, 1, 1, 1, 0, 0, 0, 0, 0, 0, 0, 2, 2, 2, 2, 2, 2, 2, 2, 2, 2, 2, 2, 2, 2, 2, 2, 2, 2, 2, 2, 2, 2, 2, 2, 2, 2, 0, 0, 0, 0, 0, 0, 2, 2, 2, 2, 2, 2, 2, 2, 2, 2, 2, 2, 2, 2, 2, 2, 2, 2, 2, 2, 2, 2, 2, 2, 2, 2, 0, 0, 0, 0, 0, 0, 0, 0, 0, 0, 0, 0, 0, 0, 0, 0, 0, 0, 0, 0, 0, 0, 0, 0, 0, 0, 0, 0, 0, 0, 0, 0, 0, 0, 0, 0, 0, 0, 0, 0, 0, 0, 0, 0, 0, 0, 0, 0, 0, 0, 0, 0, 0, 0, 0, 0, 0, 0, 0, 0, 0, 0, 0, 0, 0, 0, 0, 0, 0, 0, 0, 0, 0, 0, 0, 0, 0, 0, 0, 0, 0, 0, 0, 0, 0, 0, 0, 0, 0, 0, 0, 0, 0, 0, 0, 0, 0, 0, 0, 0, 0, 0, 0, 0, 0, 0, 0, 0, 0, 0, 0, 0, 0, 0, 0, 0, 0, 0, 0, 0, 0, 0, 0, 0, 0, 0, 0, 0, 0, 0, 0, 0, 0]
def kin : List D := kinZ.map fun z => .int .u8 z
noncomputable def gl : Nat → Option D := fun i => if i = 0 then some (.fptr kin) else none
abbrev fn1067 : Nat := 48
theorem ext48 (vs : Array Value) (w : World) : (callFunc 48 vs).run Tryd.prog w = ((Extern.BytealgCompare.compare vs).run Tryd.prog w).andThen fun v w' => .ok (.value v) w' := run_callFunc_extern Tryd.func48 (by kernel_rfl) (by kernel_rfl) (by kernel_rfl) (by kernel_rfl) vs w
theorem cmpOK48 {args : List D} {h h' : Hp} {d : D} (hd : dCmp args h = some (d, h')) {g : Gh} {vs : List Value} (hi : Inv g h) (hr : RepL g vs args) : CallAt Tryd.prog 48 vs g h' d := by
  unfold dCmp at hd
  split at hd
  · injection hd with hd
    injection hd with h1 h2
    subst h1; subst h2
    exact cmpstr_ok ext48 hi hr
  · cases hd
noncomputable def xt : CallF := fun f args h => if f = fn1067 then dCmp args h else none
theorem xtOK (X : Cx) : CallOK Tryd.prog X xt := fun f args h d h' hd g vs hi hgl hr => by
  unfold xt at hd
  split at hd
  · rename_i hf
    subst hf
    exact cmpOK48 hd hi hr
  · skip
    cases hd
noncomputable def X : Cx := ⟨tab, gl, xt⟩
noncomputable def R : CallF := run X Fs
theorem R_ok : CallOK Tryd.prog X R := run_ok (X := X) tabOK mixo (xtOK X) (fns_ok fnsL fnsOK)
theorem xcmp (a b : List UInt8) (h : Hp) : R fn1067 [.str a, .str b] h = some (.int .i64 (Lib.compareBytes a b), h) := (run_xt (X := X) (F := Fs) (by kernel_rfl) _ _).trans (by simp [X, xt, dCmp])
end Go.Proofs.YtmbjebbjeaafgaaDoor
