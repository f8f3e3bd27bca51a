/- The tables of this seat: its types, and how its functions are carried out on data. -/
import Derived.Test.YtiamjjeflmcgoaaPiW
import Derived.Test.YtiamjjeflmcgoaaChecked
import Derived.KernelRfl
set_option linter.unusedSimpArgs false
set_option linter.unusedVariables false
set_option linter.unnecessarySimpa false
namespace Go.Proofs.Ytiamjjeflmcgoaa
open Go.Eng Go.Pi
abbrev ty3 : Nat := 3
abbrev ty5 : Nat := 5
abbrev ty9 : Nat := 9
abbrev ty22 : Nat := 22
abbrev ty28 : Nat := 28
abbrev ty29 : Nat := 29
abbrev ty31 : Nat := 31
abbrev ty38 : Nat := 38
abbrev ty39 : Nat := 39
abbrev ty40 : Nat := 40
abbrev ty49 : Nat := 49
abbrev ty53 : Nat := 53
abbrev ty56 : Nat := 56
abbrev ty74 : Nat := 74
abbrev ty78 : Nat := 78
abbrev ty82 : Nat := 82
abbrev ty98 : Nat := 98
abbrev ty101 : Nat := 101
abbrev ty109 : Nat := 109
abbrev ty111 : Nat := 111
abbrev ty113 : Nat := 113
abbrev fn5 : Nat := 5
abbrev fn14 : Nat := 14
abbrev fn15 : Nat := 15
abbrev fn18 : Nat := 18
abbrev fn22 : Nat := 22
abbrev fn23 : Nat := 23
abbrev fn24 : Nat := 24
abbrev fn25 : Nat := 25
abbrev fn26 : Nat := 26
abbrev fn33 : Nat := 33
abbrev fn35 : Nat := 35
abbrev fn44 : Nat := 44
abbrev fn45 : Nat := 45
abbrev fn46 : Nat := 46
abbrev fn47 : Nat := 47
abbrev fn48 : Nat := 48
abbrev fn49 : Nat := 49
abbrev fn50 : Nat := 50
abbrev fn51 : Nat := 51
abbrev fn52 : Nat := 52
abbrev fn56 : Nat := 56
abbrev fn57 : Nat := 57
abbrev fn58 : Nat := 58
abbrev fn70 : Nat := 70
abbrev fn71 : Nat := 71
abbrev fn72 : Nat := 72
abbrev fn73 : Nat := 73
abbrev fn74 : Nat := 74
abbrev fn75 : Nat := 75
abbrev fn78 : Nat := 78
abbrev fn84 : Nat := 84
abbrev fn85 : Nat := 85
abbrev fn86 : Nat := 86
abbrev fn96 : Nat := 96
abbrev fn97 : Nat := 97
abbrev fn98 : Nat := 98
abbrev fn102 : Nat := 102
noncomputable def ti3 : TI := ⟨.int .i64, 1, 8, [.int .i64 0]⟩
noncomputable def ti5 : TI := ⟨.int .u8, 1, 1, [.int .u8 0]⟩
noncomputable def ti9 : TI := ⟨.str, 1, 16, [.str []]⟩
noncomputable def ti22 : TI := ⟨.sl 5, 1, 24, [.nils]⟩
noncomputable def ti28 : TI := ⟨.sl 78, 1, 24, [.nils]⟩
noncomputable def ti29 : TI := ⟨.sl 109, 1, 24, [.nils]⟩
noncomputable def ti31 : TI := ⟨.st [(3, 0, 1), (3, 1, 1), (3, 2, 1), (3, 3, 1), (28, 4, 1), (3, 5, 1), (3, 6, 1), (9, 7, 1), (9, 8, 1), (29, 9, 1)], 10, 128, [.int .i64 0, .int .i64 0, .int .i64 0, .int .i64 0, .nils, .int .i64 0, .int .i64 0, .str [], .str [], .nils]⟩
noncomputable def ti38 : TI := ⟨.sl 53, 1, 24, [.nils]⟩
noncomputable def ti39 : TI := ⟨.sl 56, 1, 24, [.nils]⟩
noncomputable def ti40 : TI := ⟨.sl 31, 1, 24, [.nils]⟩
noncomputable def ti49 : TI := ⟨.int .i64, 1, 8, [.int .i64 0]⟩
noncomputable def ti53 : TI := ⟨.st [(9, 0, 1), (9, 1, 1), (9, 2, 1), (3, 3, 1)], 4, 56, [.str [], .str [], .str [], .int .i64 0]⟩
noncomputable def ti56 : TI := ⟨.st [(9, 0, 1), (9, 1, 1), (9, 2, 1), (3, 3, 1), (3, 4, 1)], 5, 64, [.str [], .str [], .str [], .int .i64 0, .int .i64 0]⟩
noncomputable def ti74 : TI := ⟨.st [(9, 0, 1), (31, 1, 10)], 11, 144, [.str [], .int .i64 0, .int .i64 0, .int .i64 0, .int .i64 0, .nils, .int .i64 0, .int .i64 0, .str [], .str [], .nils]⟩
noncomputable def ti78 : TI := ⟨.st [(3, 0, 1), (3, 1, 1), (9, 2, 1)], 3, 32, [.int .i64 0, .int .i64 0, .str []]⟩
noncomputable def ti82 : TI := ⟨.sl 3, 1, 24, [.nils]⟩
noncomputable def ti98 : TI := ⟨.sl 9, 1, 24, [.nils]⟩
noncomputable def ti101 : TI := ⟨.st [(22, 0, 1), (3, 1, 1)], 2, 32, [.nils, .int .i64 0]⟩
noncomputable def ti109 : TI := ⟨.st [(9, 0, 1), (9, 1, 1)], 2, 32, [.str [], .str []]⟩
noncomputable def ti111 : TI := ⟨.sl 113, 1, 24, [.nils]⟩
noncomputable def ti113 : TI := ⟨.sl 74, 1, 24, [.nils]⟩
noncomputable def tabL : List (Option TI) := [none, none, none, some ti3, none, some ti5, none, none, none, some ti9, none, none, none, none, none, none, none, none, none, none, none, none, some ti22, none, none, none, none, none, some ti28, some ti29, none, some ti31, none, none, none, none, none, none, some ti38, some ti39, some ti40, none, none, none, none, none, none, none, none, some ti49, none, none, none, some ti53, none, none, some ti56, none, none, none, none, none, none, none, none, none, none, none, none, none, none, none, none, none, some ti74, none, none, none, some ti78, none, none, none, some ti82, none, none, none, none, none, none, none, none, none, none, none, none, none, none, none, some ti98, none, none, some ti101, none, none, none, none, none, none, none, some ti109, none, some ti111, none, some ti113]
noncomputable def tab : Tab := tabOf tabL
theorem tk3 : tiOf Try.prog 3 = some ti3 ∧ goodT Try.prog 3 = true := ⟨by kernel_rfl, by kernel_rfl⟩
theorem tk5 : tiOf Try.prog 5 = some ti5 ∧ goodT Try.prog 5 = true := ⟨by kernel_rfl, by kernel_rfl⟩
theorem tk9 : tiOf Try.prog 9 = some ti9 ∧ goodT Try.prog 9 = true := ⟨by kernel_rfl, by kernel_rfl⟩
theorem tk22 : tiOf Try.prog 22 = some ti22 ∧ goodT Try.prog 22 = true := ⟨by kernel_rfl, by kernel_rfl⟩
theorem tk28 : tiOf Try.prog 28 = some ti28 ∧ goodT Try.prog 28 = true := ⟨by kernel_rfl, by kernel_rfl⟩
theorem tk29 : tiOf Try.prog 29 = some ti29 ∧ goodT Try.prog 29 = true := ⟨by kernel_rfl, by kernel_rfl⟩
theorem tk31 : tiOf Try.prog 31 = some ti31 ∧ goodT Try.prog 31 = true := ⟨by kernel_rfl, by kernel_rfl⟩
theorem tk38 : tiOf Try.prog 38 = some ti38 ∧ goodT Try.prog 38 = true := ⟨by kernel_rfl, by kernel_rfl⟩
theorem tk39 : tiOf Try.prog 39 = some ti39 ∧ goodT Try.prog 39 = true := ⟨by kernel_rfl, by kernel_rfl⟩
theorem tk40 : tiOf Try.prog 40 = some ti40 ∧ goodT Try.prog 40 = true := ⟨by kernel_rfl, by kernel_rfl⟩
theorem tk49 : tiOf Try.prog 49 = some ti49 ∧ goodT Try.prog 49 = true := ⟨by kernel_rfl, by kernel_rfl⟩
theorem tk53 : tiOf Try.prog 53 = some ti53 ∧ goodT Try.prog 53 = true := ⟨by kernel_rfl, by kernel_rfl⟩
theorem tk56 : tiOf Try.prog 56 = some ti56 ∧ goodT Try.prog 56 = true := ⟨by kernel_rfl, by kernel_rfl⟩
theorem tk74 : tiOf Try.prog 74 = some ti74 ∧ goodT Try.prog 74 = true := ⟨by kernel_rfl, by kernel_rfl⟩
theorem tk78 : tiOf Try.prog 78 = some ti78 ∧ goodT Try.prog 78 = true := ⟨by kernel_rfl, by kernel_rfl⟩
theorem tk82 : tiOf Try.prog 82 = some ti82 ∧ goodT Try.prog 82 = true := ⟨by kernel_rfl, by kernel_rfl⟩
theorem tk98 : tiOf Try.prog 98 = some ti98 ∧ goodT Try.prog 98 = true := ⟨by kernel_rfl, by kernel_rfl⟩
theorem tk101 : tiOf Try.prog 101 = some ti101 ∧ goodT Try.prog 101 = true := ⟨by kernel_rfl, by kernel_rfl⟩
theorem tk109 : tiOf Try.prog 109 = some ti109 ∧ goodT Try.prog 109 = true := ⟨by kernel_rfl, by kernel_rfl⟩
theorem tk111 : tiOf Try.prog 111 = some ti111 ∧ goodT Try.prog 111 = true := ⟨by kernel_rfl, by kernel_rfl⟩
theorem tk113 : tiOf Try.prog 113 = some ti113 ∧ goodT Try.prog 113 = true := ⟨by kernel_rfl, by kernel_rfl⟩
theorem tabOK : TabOK Try.prog tab := tabOf_ok (show TabsOK Try.prog 0 tabL from ⟨tk3, tk5, tk9, tk22, tk28, tk29, tk31, tk38, tk39, tk40, tk49, tk53, tk56, tk74, tk78, tk82, tk98, tk101, tk109, tk111, tk113, trivial⟩)
theorem mixo : Try.prog.follows .mixedOrders = true := by kernel_rfl
noncomputable def i5 : FnI := ⟨Try.f5.body.getD .skip, Try.f5.results.toList, ⟨113, [0, 1, 2, 3, 8, 9, 10, 13, 25, 49, 52, 68, 78], [], [43, 47, 101, 103, 108, 110]⟩, false⟩
noncomputable def i14 : FnI := ⟨Try.f14.body.getD .skip, Try.f14.results.toList, ⟨7, [0], [3], []⟩, false⟩
noncomputable def i15 : FnI := ⟨Try.f15.body.getD .skip, Try.f15.results.toList, ⟨38, [0, 2, 3, 4, 5, 6, 7, 8, 9, 10, 28], [], []⟩, false⟩
noncomputable def i18 : FnI := ⟨Try.f18.body.getD .skip, Try.f18.results.toList, ⟨8, [0, 1, 3, 4], [3], []⟩, false⟩
noncomputable def i22 : FnI := ⟨Try.f22.body.getD .skip, Try.f22.results.toList, ⟨37, [0, 2, 3, 5, 6, 9, 10, 11, 12, 13, 27, 29], [5, 34], []⟩, true⟩
noncomputable def i23 : FnI := ⟨Try.f23.body.getD .skip, Try.f23.results.toList, ⟨50, [0, 2, 3, 5, 6, 9, 10, 11, 12, 13, 40, 42], [5, 47], []⟩, true⟩
noncomputable def i24 : FnI := ⟨Try.f24.body.getD .skip, Try.f24.results.toList, ⟨35, [0, 1, 4, 5, 12], [], []⟩, false⟩
noncomputable def i25 : FnI := ⟨Try.f25.body.getD .skip, Try.f25.results.toList, ⟨51, [0, 2, 3, 4, 7, 11, 20, 34, 37, 50], [], []⟩, false⟩
noncomputable def i26 : FnI := ⟨Try.f26.body.getD .skip, Try.f26.results.toList, ⟨64, [0, 2, 3, 4, 7, 11, 20, 47, 50, 63], [], []⟩, false⟩
noncomputable def i33 : FnI := ⟨Try.f33.body.getD .skip, Try.f33.results.toList, ⟨12, [0, 2, 3], [4], []⟩, false⟩
noncomputable def i35 : FnI := ⟨Try.f35.body.getD .skip, Try.f35.results.toList, ⟨19, [0, 2, 4, 5, 10], [], []⟩, false⟩
noncomputable def i44 : FnI := ⟨Try.f44.body.getD .skip, Try.f44.results.toList, ⟨13, [0, 1, 4], [], []⟩, false⟩
noncomputable def i45 : FnI := ⟨Try.f45.body.getD .skip, Try.f45.results.toList, ⟨37, [0, 2, 3, 6, 16, 26], [12, 22, 28, 34], []⟩, false⟩
noncomputable def i46 : FnI := ⟨Try.f46.body.getD .skip, Try.f46.results.toList, ⟨31, [0, 2, 3, 4, 7, 16], [12, 28], []⟩, false⟩
noncomputable def i47 : FnI := ⟨Try.f47.body.getD .skip, Try.f47.results.toList, ⟨21, [0, 2, 3, 7], [8], []⟩, false⟩
noncomputable def i48 : FnI := ⟨Try.f48.body.getD .skip, Try.f48.results.toList, ⟨56, [0, 1, 4, 5, 6, 7, 8, 9, 14, 24, 33, 44], [], []⟩, false⟩
noncomputable def i49 : FnI := ⟨Try.f49.body.getD .skip, Try.f49.results.toList, ⟨9, [0, 2], [], []⟩, false⟩
noncomputable def i50 : FnI := ⟨Try.f50.body.getD .skip, Try.f50.results.toList, ⟨19, [0, 1, 4, 5, 7, 8, 9, 16], [], []⟩, false⟩
noncomputable def i51 : FnI := ⟨Try.f51.body.getD .skip, Try.f51.results.toList, ⟨11, [0, 1, 2, 3], [2], []⟩, false⟩
noncomputable def i52 : FnI := ⟨Try.f52.body.getD .skip, Try.f52.results.toList, ⟨8, [0, 1, 2, 3, 4, 6], [2, 3], []⟩, false⟩
noncomputable def i56 : FnI := ⟨Try.f56.body.getD .skip, Try.f56.results.toList, ⟨17, [0, 1, 4, 5, 13], [], []⟩, false⟩
noncomputable def i57 : FnI := ⟨Try.f57.body.getD .skip, Try.f57.results.toList, ⟨13, [0, 2], [], []⟩, false⟩
noncomputable def i58 : FnI := ⟨Try.f58.body.getD .skip, Try.f58.results.toList, ⟨11, [0, 2], [], []⟩, false⟩
noncomputable def i70 : FnI := ⟨Try.f70.body.getD .skip, Try.f70.results.toList, ⟨21, [0, 1, 4, 5, 7, 8, 9, 10, 11, 17], [7], []⟩, false⟩
noncomputable def i71 : FnI := ⟨Try.f71.body.getD .skip, Try.f71.results.toList, ⟨45, [0, 1, 2, 6, 7, 8, 9, 10, 11, 12, 16, 24], [12, 35, 42], []⟩, true⟩
noncomputable def i72 : FnI := ⟨Try.f72.body.getD .skip, Try.f72.results.toList, ⟨34, [0, 1, 3, 4, 5, 6, 19], [3, 28], []⟩, true⟩
noncomputable def i73 : FnI := ⟨Try.f73.body.getD .skip, Try.f73.results.toList, ⟨3, [0, 2], [1], []⟩, false⟩
noncomputable def i74 : FnI := ⟨Try.f74.body.getD .skip, Try.f74.results.toList, ⟨19, [0, 1, 2, 3, 4, 5, 6], [3], []⟩, false⟩
noncomputable def i75 : FnI := ⟨Try.f75.body.getD .skip, Try.f75.results.toList, ⟨12, [0, 1, 2, 4, 5], [2], []⟩, false⟩
noncomputable def i78 : FnI := ⟨Try.f78.body.getD .skip, Try.f78.results.toList, ⟨9, [0, 1, 4], [], []⟩, false⟩
noncomputable def i84 : FnI := ⟨Try.f84.body.getD .skip, Try.f84.results.toList, ⟨94, [0, 1, 2, 3, 8, 9, 10, 11, 12, 13, 14, 24, 51, 56], [41, 64, 77, 82], []⟩, true⟩
noncomputable def i85 : FnI := ⟨Try.f85.body.getD .skip, Try.f85.results.toList, ⟨43, [0, 1, 2, 3, 4, 5, 16, 27], [2, 3], []⟩, false⟩
noncomputable def i86 : FnI := ⟨Try.f86.body.getD .skip, Try.f86.results.toList, ⟨19, [0, 1, 4, 5, 7, 8, 9, 16], [], []⟩, false⟩
noncomputable def i96 : FnI := ⟨Try.f96.body.getD .skip, Try.f96.results.toList, ⟨24, [0, 2, 3, 4, 10], [14], []⟩, false⟩
noncomputable def i97 : FnI := ⟨Try.f97.body.getD .skip, Try.f97.results.toList, ⟨8, [0, 2], [3], []⟩, false⟩
noncomputable def i98 : FnI := ⟨Try.f98.body.getD .skip, Try.f98.results.toList, ⟨27, [0, 2, 3, 4, 5, 10, 15], [6, 24], []⟩, true⟩
noncomputable def i102 : FnI := ⟨Try.f102.body.getD .skip, Try.f102.results.toList, ⟨12, [0, 2, 3], [4], []⟩, false⟩
noncomputable def fnsL : List (Nat × FnI) := [(5, i5), (14, i14), (15, i15), (18, i18), (22, i22), (23, i23), (24, i24), (25, i25), (26, i26), (33, i33), (35, i35), (44, i44), (45, i45), (46, i46), (47, i47), (48, i48), (49, i49), (50, i50), (51, i51), (52, i52), (56, i56), (57, i57), (58, i58), (70, i70), (71, i71), (72, i72), (73, i73), (74, i74), (75, i75), (78, i78), (84, i84), (85, i85), (86, i86), (96, i96), (97, i97), (98, i98), (102, i102)]
noncomputable def Fs : FuncId → Option FnI := fnOf fnsL
theorem fk5 : FnOK Try.prog 5 i5 := .of Try.func5 (by kernel_rfl) (by kernel_rfl) (by kernel_rfl) Try.call5
theorem fk14 : FnOK Try.prog 14 i14 := .of Try.func14 (by kernel_rfl) (by kernel_rfl) (by kernel_rfl) Try.call14
theorem fk15 : FnOK Try.prog 15 i15 := .of Try.func15 (by kernel_rfl) (by kernel_rfl) (by kernel_rfl) Try.call15
theorem fk18 : FnOK Try.prog 18 i18 := .of Try.func18 (by kernel_rfl) (by kernel_rfl) (by kernel_rfl) Try.call18
theorem fk22 : FnOK Try.prog 22 i22 := .of Try.func22 (by kernel_rfl) (by kernel_rfl) (by kernel_rfl) Try.call22
theorem fk23 : FnOK Try.prog 23 i23 := .of Try.func23 (by kernel_rfl) (by kernel_rfl) (by kernel_rfl) Try.call23
theorem fk24 : FnOK Try.prog 24 i24 := .of Try.func24 (by kernel_rfl) (by kernel_rfl) (by kernel_rfl) Try.call24
theorem fk25 : FnOK Try.prog 25 i25 := .of Try.func25 (by kernel_rfl) (by kernel_rfl) (by kernel_rfl) Try.call25
theorem fk26 : FnOK Try.prog 26 i26 := .of Try.func26 (by kernel_rfl) (by kernel_rfl) (by kernel_rfl) Try.call26
theorem fk33 : FnOK Try.prog 33 i33 := .of Try.func33 (by kernel_rfl) (by kernel_rfl) (by kernel_rfl) Try.call33
theorem fk35 : FnOK Try.prog 35 i35 := .of Try.func35 (by kernel_rfl) (by kernel_rfl) (by kernel_rfl) Try.call35
theorem fk44 : FnOK Try.prog 44 i44 := .of Try.func44 (by kernel_rfl) (by kernel_rfl) (by kernel_rfl) Try.call44
theorem fk45 : FnOK Try.prog 45 i45 := .of Try.func45 (by kernel_rfl) (by kernel_rfl) (by kernel_rfl) Try.call45
theorem fk46 : FnOK Try.prog 46 i46 := .of Try.func46 (by kernel_rfl) (by kernel_rfl) (by kernel_rfl) Try.call46
theorem fk47 : FnOK Try.prog 47 i47 := .of Try.func47 (by kernel_rfl) (by kernel_rfl) (by kernel_rfl) Try.call47
theorem fk48 : FnOK Try.prog 48 i48 := .of Try.func48 (by kernel_rfl) (by kernel_rfl) (by kernel_rfl) Try.call48
theorem fk49 : FnOK Try.prog 49 i49 := .of Try.func49 (by kernel_rfl) (by kernel_rfl) (by kernel_rfl) Try.call49
theorem fk50 : FnOK Try.prog 50 i50 := .of Try.func50 (by kernel_rfl) (by kernel_rfl) (by kernel_rfl) Try.call50
theorem fk51 : FnOK Try.prog 51 i51 := .of Try.func51 (by kernel_rfl) (by kernel_rfl) (by kernel_rfl) Try.call51
theorem fk52 : FnOK Try.prog 52 i52 := .of Try.func52 (by kernel_rfl) (by kernel_rfl) (by kernel_rfl) Try.call52
theorem fk56 : FnOK Try.prog 56 i56 := .of Try.func56 (by kernel_rfl) (by kernel_rfl) (by kernel_rfl) Try.call56
theorem fk57 : FnOK Try.prog 57 i57 := .of Try.func57 (by kernel_rfl) (by kernel_rfl) (by kernel_rfl) Try.call57
theorem fk58 : FnOK Try.prog 58 i58 := .of Try.func58 (by kernel_rfl) (by kernel_rfl) (by kernel_rfl) Try.call58
theorem fk70 : FnOK Try.prog 70 i70 := .of Try.func70 (by kernel_rfl) (by kernel_rfl) (by kernel_rfl) Try.call70
theorem fk71 : FnOK Try.prog 71 i71 := .of Try.func71 (by kernel_rfl) (by kernel_rfl) (by kernel_rfl) Try.call71
theorem fk72 : FnOK Try.prog 72 i72 := .of Try.func72 (by kernel_rfl) (by kernel_rfl) (by kernel_rfl) Try.call72
theorem fk73 : FnOK Try.prog 73 i73 := .of Try.func73 (by kernel_rfl) (by kernel_rfl) (by kernel_rfl) Try.call73
theorem fk74 : FnOK Try.prog 74 i74 := .of Try.func74 (by kernel_rfl) (by kernel_rfl) (by kernel_rfl) Try.call74
theorem fk75 : FnOK Try.prog 75 i75 := .of Try.func75 (by kernel_rfl) (by kernel_rfl) (by kernel_rfl) Try.call75
theorem fk78 : FnOK Try.prog 78 i78 := .of Try.func78 (by kernel_rfl) (by kernel_rfl) (by kernel_rfl) Try.call78
theorem fk84 : FnOK Try.prog 84 i84 := .of Try.func84 (by kernel_rfl) (by kernel_rfl) (by kernel_rfl) Try.call84
theorem fk85 : FnOK Try.prog 85 i85 := .of Try.func85 (by kernel_rfl) (by kernel_rfl) (by kernel_rfl) Try.call85
theorem fk86 : FnOK Try.prog 86 i86 := .of Try.func86 (by kernel_rfl) (by kernel_rfl) (by kernel_rfl) Try.call86
theorem fk96 : FnOK Try.prog 96 i96 := .of Try.func96 (by kernel_rfl) (by kernel_rfl) (by kernel_rfl) Try.call96
theorem fk97 : FnOK Try.prog 97 i97 := .of Try.func97 (by kernel_rfl) (by kernel_rfl) (by kernel_rfl) Try.call97
theorem fk98 : FnOK Try.prog 98 i98 := .of Try.func98 (by kernel_rfl) (by kernel_rfl) (by kernel_rfl) Try.call98
theorem fk102 : FnOK Try.prog 102 i102 := .of Try.func102 (by kernel_rfl) (by kernel_rfl) (by kernel_rfl) Try.call102
theorem fnsOK : FnsOK Try.prog fnsL := ⟨fk5, fk14, fk15, fk18, fk22, fk23, fk24, fk25, fk26, fk33, fk35, fk44, fk45, fk46, fk47, fk48, fk49, fk50, fk51, fk52, fk56, fk57, fk58, fk70, fk71, fk72, fk73, fk74, fk75, fk78, fk84, fk85, fk86, fk96, fk97, fk98, fk102, trivial⟩
noncomputable def gl : Nat → Option D := fun _ => none
noncomputable def X : Cx := ⟨tab, gl⟩
noncomputable def R : CallF := run X Fs
theorem R_ok : CallOK Try.prog X R := run_ok (X := X) tabOK mixo (fns_ok fnsL fnsOK)
end Go.Proofs.Ytiamjjeflmcgoaa
