/- The tables of this seat: its types, and how its functions are carried out on data. -/
import Derived.Test.YtehmpfcealdihaaPiW
import Derived.Test.YtehmpfcealdihaaChecked
import Derived.KernelRfl
set_option linter.unusedSimpArgs false
set_option linter.unusedVariables false
set_option linter.unnecessarySimpa false
namespace Go.Proofs.Ytehmpfcealdihaa
open Go.Eng Go.Pi
abbrev ty3 : Nat := 3
abbrev ty4 : Nat := 4
abbrev ty5 : Nat := 5
abbrev ty9 : Nat := 9
abbrev ty22 : Nat := 22
abbrev ty28 : Nat := 26
abbrev ty29 : Nat := 27
abbrev ty31 : Nat := 29
abbrev ty74 : Nat := 31
abbrev ty78 : Nat := 35
abbrev ty82 : Nat := 36
abbrev ty49 : Nat := 40
abbrev ty1006 : Nat := 45
abbrev ty1007 : Nat := 46
abbrev ty58 : Nat := 47
abbrev ty1009 : Nat := 49
abbrev ty101 : Nat := 51
abbrev ty98 : Nat := 53
abbrev ty109 : Nat := 61
abbrev ty134 : Nat := 76
abbrev ty106 : Nat := 93
abbrev fn1000 : Nat := 3
abbrev fn1001 : Nat := 4
abbrev fn44 : Nat := 5
abbrev fn84 : Nat := 6
abbrev fn24 : Nat := 7
abbrev fn1002 : Nat := 8
abbrev fn1003 : Nat := 9
abbrev fn82 : Nat := 10
abbrev fn1004 : Nat := 11
abbrev fn1005 : Nat := 12
abbrev fn96 : Nat := 13
abbrev fn35 : Nat := 14
abbrev fn97 : Nat := 15
abbrev fn98 : Nat := 16
abbrev fn57 : Nat := 17
abbrev fn1006 : Nat := 18
abbrev fn1007 : Nat := 19
abbrev fn1008 : Nat := 20
abbrev fn1009 : Nat := 21
abbrev fn94 : Nat := 22
abbrev fn95 : Nat := 23
abbrev fn1010 : Nat := 24
abbrev fn1011 : Nat := 25
abbrev fn1012 : Nat := 26
abbrev fn1013 : Nat := 27
abbrev fn102 : Nat := 28
abbrev fn33 : Nat := 29
abbrev fn1014 : Nat := 30
abbrev fn1015 : Nat := 31
abbrev fn1016 : Nat := 32
abbrev fn1017 : Nat := 33
abbrev fn89 : Nat := 34
abbrev fn90 : Nat := 35
abbrev fn1018 : Nat := 36
abbrev fn99 : Nat := 37
abbrev fn1019 : Nat := 38
abbrev fn1020 : Nat := 39
abbrev fn1021 : Nat := 40
noncomputable def ti3 : TI := ⟨.int .i64, 1, 8, [.int .i64 0]⟩
noncomputable def ti4 : TI := ⟨.bool, 1, 1, [.bool false]⟩
noncomputable def ti5 : TI := ⟨.int .u8, 1, 1, [.int .u8 0]⟩
noncomputable def ti9 : TI := ⟨.str, 1, 16, [.str []]⟩
noncomputable def ti22 : TI := ⟨.sl 5, 1, 24, [.nils]⟩
noncomputable def ti28 : TI := ⟨.sl 35, 1, 24, [.nils]⟩
noncomputable def ti29 : TI := ⟨.sl 61, 1, 24, [.nils]⟩
noncomputable def ti31 : TI := ⟨.st [(3, 0, 1), (3, 1, 1), (3, 2, 1), (3, 3, 1), (26, 4, 1), (3, 5, 1), (3, 6, 1), (9, 7, 1), (9, 8, 1), (27, 9, 1)], 10, 128, [.int .i64 0, .int .i64 0, .int .i64 0, .int .i64 0, .nils, .int .i64 0, .int .i64 0, .str [], .str [], .nils]⟩
noncomputable def ti74 : TI := ⟨.st [(9, 0, 1), (29, 1, 10)], 11, 144, [.str [], .int .i64 0, .int .i64 0, .int .i64 0, .int .i64 0, .nils, .int .i64 0, .int .i64 0, .str [], .str [], .nils]⟩
noncomputable def ti78 : TI := ⟨.st [(3, 0, 1), (3, 1, 1), (9, 2, 1)], 3, 32, [.int .i64 0, .int .i64 0, .str []]⟩
noncomputable def ti82 : TI := ⟨.sl 3, 1, 24, [.nils]⟩
noncomputable def ti49 : TI := ⟨.int .i64, 1, 8, [.int .i64 0]⟩
noncomputable def ti1006 : TI := ⟨.st [(3, 0, 1), (3, 1, 1), (3, 2, 1)], 3, 24, [.int .i64 0, .int .i64 0, .int .i64 0]⟩
noncomputable def ti1007 : TI := ⟨.sl 45, 1, 24, [.nils]⟩
noncomputable def ti58 : TI := ⟨.sl 93, 1, 24, [.nils]⟩
noncomputable def ti1009 : TI := ⟨.st [(46, 0, 1), (47, 1, 1)], 2, 48, [.nils, .nils]⟩
noncomputable def ti101 : TI := ⟨.st [(22, 0, 1), (3, 1, 1)], 2, 32, [.nils, .int .i64 0]⟩
noncomputable def ti98 : TI := ⟨.sl 9, 1, 24, [.nils]⟩
noncomputable def ti109 : TI := ⟨.st [(9, 0, 1), (9, 1, 1)], 2, 32, [.str [], .str []]⟩
noncomputable def ti134 : TI := ⟨.int .u64, 1, 8, [.int .u64 0]⟩
noncomputable def ti106 : TI := ⟨.st [(3, 0, 1), (9, 1, 1), (3, 2, 1)], 3, 32, [.int .i64 0, .str [], .int .i64 0]⟩
noncomputable def tabL : List (Option TI) := [none, none, none, some ti3, some ti4, some ti5, none, none, none, some ti9, none, none, none, none, none, none, none, none, none, none, none, none, some ti22, none, none, none, some ti28, some ti29, none, some ti31, none, some ti74, none, none, none, some ti78, some ti82, none, none, none, some ti49, none, none, none, none, some ti1006, some ti1007, some ti58, none, some ti1009, none, some ti101, none, some ti98, none, none, none, none, none, none, none, some ti109, none, none, none, none, none, none, none, none, none, none, none, none, none, none, some ti134, none, none, none, none, none, none, none, none, none, none, none, none, none, none, none, none, some ti106]
noncomputable def tab : Tab := tabOf tabL
theorem tk3 : tiOf Try.prog 3 = some ti3 ∧ goodT Try.prog 3 = true := ⟨by kernel_rfl, by kernel_rfl⟩
theorem tk4 : tiOf Try.prog 4 = some ti4 ∧ goodT Try.prog 4 = true := ⟨by kernel_rfl, by kernel_rfl⟩
theorem tk5 : tiOf Try.prog 5 = some ti5 ∧ goodT Try.prog 5 = true := ⟨by kernel_rfl, by kernel_rfl⟩
theorem tk9 : tiOf Try.prog 9 = some ti9 ∧ goodT Try.prog 9 = true := ⟨by kernel_rfl, by kernel_rfl⟩
theorem tk22 : tiOf Try.prog 22 = some ti22 ∧ goodT Try.prog 22 = true := ⟨by kernel_rfl, by kernel_rfl⟩
theorem tk26 : tiOf Try.prog 26 = some ti28 ∧ goodT Try.prog 26 = true := ⟨by kernel_rfl, by kernel_rfl⟩
theorem tk27 : tiOf Try.prog 27 = some ti29 ∧ goodT Try.prog 27 = true := ⟨by kernel_rfl, by kernel_rfl⟩
theorem tk29 : tiOf Try.prog 29 = some ti31 ∧ goodT Try.prog 29 = true := ⟨by kernel_rfl, by kernel_rfl⟩
theorem tk31 : tiOf Try.prog 31 = some ti74 ∧ goodT Try.prog 31 = true := ⟨by kernel_rfl, by kernel_rfl⟩
theorem tk35 : tiOf Try.prog 35 = some ti78 ∧ goodT Try.prog 35 = true := ⟨by kernel_rfl, by kernel_rfl⟩
theorem tk36 : tiOf Try.prog 36 = some ti82 ∧ goodT Try.prog 36 = true := ⟨by kernel_rfl, by kernel_rfl⟩
theorem tk40 : tiOf Try.prog 40 = some ti49 ∧ goodT Try.prog 40 = true := ⟨by kernel_rfl, by kernel_rfl⟩
theorem tk45 : tiOf Try.prog 45 = some ti1006 ∧ goodT Try.prog 45 = true := ⟨by kernel_rfl, by kernel_rfl⟩
theorem tk46 : tiOf Try.prog 46 = some ti1007 ∧ goodT Try.prog 46 = true := ⟨by kernel_rfl, by kernel_rfl⟩
theorem tk47 : tiOf Try.prog 47 = some ti58 ∧ goodT Try.prog 47 = true := ⟨by kernel_rfl, by kernel_rfl⟩
theorem tk49 : tiOf Try.prog 49 = some ti1009 ∧ goodT Try.prog 49 = true := ⟨by kernel_rfl, by kernel_rfl⟩
theorem tk51 : tiOf Try.prog 51 = some ti101 ∧ goodT Try.prog 51 = true := ⟨by kernel_rfl, by kernel_rfl⟩
theorem tk53 : tiOf Try.prog 53 = some ti98 ∧ goodT Try.prog 53 = true := ⟨by kernel_rfl, by kernel_rfl⟩
theorem tk61 : tiOf Try.prog 61 = some ti109 ∧ goodT Try.prog 61 = true := ⟨by kernel_rfl, by kernel_rfl⟩
theorem tk76 : tiOf Try.prog 76 = some ti134 ∧ goodT Try.prog 76 = true := ⟨by kernel_rfl, by kernel_rfl⟩
theorem tk93 : tiOf Try.prog 93 = some ti106 ∧ goodT Try.prog 93 = true := ⟨by kernel_rfl, by kernel_rfl⟩
theorem tabOK : TabOK Try.prog tab := tabOf_ok (show TabsOK Try.prog 0 tabL from ⟨tk3, tk4, tk5, tk9, tk22, tk26, tk27, tk29, tk31, tk35, tk36, tk40, tk45, tk46, tk47, tk49, tk51, tk53, tk61, tk76, tk93, trivial⟩)
theorem mixo : Try.prog.follows .mixedOrders = true := by kernel_rfl
noncomputable def i3 : FnI := ⟨Try.f3.body.getD .skip, Try.f3.results.toList, ⟨95, [0, 1, 4, 5, 6, 8, 9, 10, 11, 12, 14, 45, 46, 47, 48, 71, 93], [6, 9, 11, 45], []⟩, false⟩
noncomputable def i4 : FnI := ⟨Try.f4.body.getD .skip, Try.f4.results.toList, ⟨6, [0], [2], []⟩, false⟩
noncomputable def i5 : FnI := ⟨Try.f5.body.getD .skip, Try.f5.results.toList, ⟨13, [0, 1, 4], [], []⟩, false⟩
noncomputable def i6 : FnI := ⟨Try.f6.body.getD .skip, Try.f6.results.toList, ⟨94, [0, 1, 2, 3, 8, 9, 10, 11, 12, 13, 14, 24, 51, 56], [41, 64, 77, 82], []⟩, true⟩
noncomputable def i7 : FnI := ⟨Try.f7.body.getD .skip, Try.f7.results.toList, ⟨35, [0, 1, 4, 5, 12], [], []⟩, false⟩
noncomputable def i8 : FnI := ⟨Try.f8.body.getD .skip, Try.f8.results.toList, ⟨33, [0, 1, 2, 3, 4, 5, 6, 7, 15], [3], []⟩, true⟩
noncomputable def i9 : FnI := ⟨Try.f9.body.getD .skip, Try.f9.results.toList, ⟨35, [0, 1, 2, 4, 5, 6, 7, 14, 23], [], []⟩, true⟩
noncomputable def i10 : FnI := ⟨Try.f10.body.getD .skip, Try.f10.results.toList, ⟨86, [0, 1, 2, 3, 4, 5, 6], [2, 3, 1000006], []⟩, true⟩
noncomputable def i11 : FnI := ⟨Try.f11.body.getD .skip, Try.f11.results.toList, ⟨71, [0, 1, 2, 3, 4, 5, 6, 9, 16, 22, 31, 56, 61, 70], [1, 3], []⟩, false⟩
noncomputable def i12 : FnI := ⟨Try.f12.body.getD .skip, Try.f12.results.toList, ⟨24, [0, 1, 2, 3, 6, 7, 8, 17], [3], []⟩, false⟩
noncomputable def i13 : FnI := ⟨Try.f13.body.getD .skip, Try.f13.results.toList, ⟨24, [0, 2, 3, 4, 10], [14], []⟩, false⟩
noncomputable def i14 : FnI := ⟨Try.f14.body.getD .skip, Try.f14.results.toList, ⟨19, [0, 2, 4, 5, 10], [], []⟩, false⟩
noncomputable def i15 : FnI := ⟨Try.f15.body.getD .skip, Try.f15.results.toList, ⟨8, [0, 2], [3], []⟩, false⟩
noncomputable def i16 : FnI := ⟨Try.f16.body.getD .skip, Try.f16.results.toList, ⟨27, [0, 2, 3, 4, 5, 10, 15], [6, 24], []⟩, true⟩
noncomputable def i17 : FnI := ⟨Try.f17.body.getD .skip, Try.f17.results.toList, ⟨13, [0, 2], [], []⟩, false⟩
noncomputable def i18 : FnI := ⟨Try.f18.body.getD .skip, Try.f18.results.toList, ⟨19, [0, 1, 4, 5, 7, 8, 9, 16], [], []⟩, false⟩
noncomputable def i19 : FnI := ⟨Try.f19.body.getD .skip, Try.f19.results.toList, ⟨8, [0, 1, 2, 3], [2], []⟩, false⟩
noncomputable def i20 : FnI := ⟨Try.f20.body.getD .skip, Try.f20.results.toList, ⟨8, [0, 2, 4], [5], []⟩, true⟩
noncomputable def i21 : FnI := ⟨Try.f21.body.getD .skip, Try.f21.results.toList, ⟨8, [0, 2, 4], [5], []⟩, true⟩
noncomputable def i22 : FnI := ⟨Try.f22.body.getD .skip, Try.f22.results.toList, ⟨26, [0, 1, 4, 5, 10, 14, 25], [], []⟩, false⟩
noncomputable def i23 : FnI := ⟨Try.f23.body.getD .skip, Try.f23.results.toList, ⟨26, [0, 1, 4, 5, 10, 14, 25], [], []⟩, false⟩
noncomputable def i24 : FnI := ⟨Try.f24.body.getD .skip, Try.f24.results.toList, ⟨68, [0, 1, 2, 3, 4, 5, 6, 7, 21, 25, 29, 40, 48, 54, 58, 67], [1], []⟩, false⟩
noncomputable def i25 : FnI := ⟨Try.f25.body.getD .skip, Try.f25.results.toList, ⟨38, [0, 1, 2, 37], [1], []⟩, false⟩
noncomputable def i26 : FnI := ⟨Try.f26.body.getD .skip, Try.f26.results.toList, ⟨74, [0, 1, 2, 4, 5, 6, 7, 11, 15, 22, 64, 69], [2, 7], []⟩, false⟩
noncomputable def i27 : FnI := ⟨Try.f27.body.getD .skip, Try.f27.results.toList, ⟨15, [0, 1, 2, 6, 7], [], []⟩, false⟩
noncomputable def i28 : FnI := ⟨Try.f28.body.getD .skip, Try.f28.results.toList, ⟨12, [0, 2, 3], [4], []⟩, false⟩
noncomputable def i29 : FnI := ⟨Try.f29.body.getD .skip, Try.f29.results.toList, ⟨12, [0, 2, 3], [4], []⟩, false⟩
noncomputable def i30 : FnI := ⟨Try.f30.body.getD .skip, Try.f30.results.toList, ⟨14, [0, 2], [], []⟩, false⟩
noncomputable def i31 : FnI := ⟨Try.f31.body.getD .skip, Try.f31.results.toList, ⟨89, [0, 2, 3, 4, 5, 6, 7, 10, 14, 23, 27, 54, 87], [37], []⟩, true⟩
noncomputable def i32 : FnI := ⟨Try.f32.body.getD .skip, Try.f32.results.toList, ⟨49, [0, 1, 2, 4, 6, 7, 8, 9, 10, 11, 17, 31], [4], []⟩, false⟩
noncomputable def i33 : FnI := ⟨Try.f33.body.getD .skip, Try.f33.results.toList, ⟨17, [0, 1, 2, 3, 4], [2, 3, 15], []⟩, false⟩
noncomputable def i34 : FnI := ⟨Try.f34.body.getD .skip, Try.f34.results.toList, ⟨18, [0, 2, 3, 5, 6, 7, 8, 9, 14], [], []⟩, false⟩
noncomputable def i35 : FnI := ⟨Try.f35.body.getD .skip, Try.f35.results.toList, ⟨20, [0, 1, 4, 5, 6, 11, 12, 13, 16, 19], [], []⟩, false⟩
noncomputable def i36 : FnI := ⟨Try.f36.body.getD .skip, Try.f36.results.toList, ⟨40, [0, 2, 3, 22, 26, 39], [], []⟩, false⟩
noncomputable def i37 : FnI := ⟨Try.f37.body.getD .skip, Try.f37.results.toList, ⟨6, [0, 2], [], []⟩, false⟩
noncomputable def i38 : FnI := ⟨Try.f38.body.getD .skip, Try.f38.results.toList, ⟨17, [0, 2], [], []⟩, false⟩
noncomputable def i39 : FnI := ⟨Try.f39.body.getD .skip, Try.f39.results.toList, ⟨13, [0, 2], [], []⟩, false⟩
noncomputable def i40 : FnI := ⟨Try.f40.body.getD .skip, Try.f40.results.toList, ⟨9, [0, 2], [], []⟩, false⟩
noncomputable def fnsL : List (Nat × FnI) := [(3, i3), (4, i4), (5, i5), (6, i6), (7, i7), (8, i8), (9, i9), (10, i10), (11, i11), (12, i12), (13, i13), (14, i14), (15, i15), (16, i16), (17, i17), (18, i18), (19, i19), (20, i20), (21, i21), (22, i22), (23, i23), (24, i24), (25, i25), (26, i26), (27, i27), (28, i28), (29, i29), (30, i30), (31, i31), (32, i32), (33, i33), (34, i34), (35, i35), (36, i36), (37, i37), (38, i38), (39, i39), (40, i40)]
noncomputable def Fs : FuncId → Option FnI := fnOf fnsL
theorem fk3 : FnOK Try.prog 3 i3 := .of Try.func3 (by kernel_rfl) (by kernel_rfl) (by kernel_rfl) Try.call3
theorem fk4 : FnOK Try.prog 4 i4 := .of Try.func4 (by kernel_rfl) (by kernel_rfl) (by kernel_rfl) Try.call4
theorem fk5 : FnOK Try.prog 5 i5 := .of Try.func5 (by kernel_rfl) (by kernel_rfl) (by kernel_rfl) Try.call5
theorem fk6 : FnOK Try.prog 6 i6 := .of Try.func6 (by kernel_rfl) (by kernel_rfl) (by kernel_rfl) Try.call6
theorem fk7 : FnOK Try.prog 7 i7 := .of Try.func7 (by kernel_rfl) (by kernel_rfl) (by kernel_rfl) Try.call7
theorem fk8 : FnOK Try.prog 8 i8 := .of Try.func8 (by kernel_rfl) (by kernel_rfl) (by kernel_rfl) Try.call8
theorem fk9 : FnOK Try.prog 9 i9 := .of Try.func9 (by kernel_rfl) (by kernel_rfl) (by kernel_rfl) Try.call9
theorem fk10 : FnOK Try.prog 10 i10 := .of Try.func10 (by kernel_rfl) (by kernel_rfl) (by kernel_rfl) Try.call10
theorem fk11 : FnOK Try.prog 11 i11 := .of Try.func11 (by kernel_rfl) (by kernel_rfl) (by kernel_rfl) Try.call11
theorem fk12 : FnOK Try.prog 12 i12 := .of Try.func12 (by kernel_rfl) (by kernel_rfl) (by kernel_rfl) Try.call12
theorem fk13 : FnOK Try.prog 13 i13 := .of Try.func13 (by kernel_rfl) (by kernel_rfl) (by kernel_rfl) Try.call13
theorem fk14 : FnOK Try.prog 14 i14 := .of Try.func14 (by kernel_rfl) (by kernel_rfl) (by kernel_rfl) Try.call14
theorem fk15 : FnOK Try.prog 15 i15 := .of Try.func15 (by kernel_rfl) (by kernel_rfl) (by kernel_rfl) Try.call15
theorem fk16 : FnOK Try.prog 16 i16 := .of Try.func16 (by kernel_rfl) (by kernel_rfl) (by kernel_rfl) Try.call16
theorem fk17 : FnOK Try.prog 17 i17 := .of Try.func17 (by kernel_rfl) (by kernel_rfl) (by kernel_rfl) Try.call17
theorem fk18 : FnOK Try.prog 18 i18 := .of Try.func18 (by kernel_rfl) (by kernel_rfl) (by kernel_rfl) Try.call18
theorem fk19 : FnOK Try.prog 19 i19 := .of Try.func19 (by kernel_rfl) (by kernel_rfl) (by kernel_rfl) Try.call19
theorem fk20 : FnOK Try.prog 20 i20 := .of Try.func20 (by kernel_rfl) (by kernel_rfl) (by kernel_rfl) Try.call20
theorem fk21 : FnOK Try.prog 21 i21 := .of Try.func21 (by kernel_rfl) (by kernel_rfl) (by kernel_rfl) Try.call21
theorem fk22 : FnOK Try.prog 22 i22 := .of Try.func22 (by kernel_rfl) (by kernel_rfl) (by kernel_rfl) Try.call22
theorem fk23 : FnOK Try.prog 23 i23 := .of Try.func23 (by kernel_rfl) (by kernel_rfl) (by kernel_rfl) Try.call23
theorem fk24 : FnOK Try.prog 24 i24 := .of Try.func24 (by kernel_rfl) (by kernel_rfl) (by kernel_rfl) Try.call24
theorem fk25 : FnOK Try.prog 25 i25 := .of Try.func25 (by kernel_rfl) (by kernel_rfl) (by kernel_rfl) Try.call25
theorem fk26 : FnOK Try.prog 26 i26 := .of Try.func26 (by kernel_rfl) (by kernel_rfl) (by kernel_rfl) Try.call26
theorem fk27 : FnOK Try.prog 27 i27 := .of Try.func27 (by kernel_rfl) (by kernel_rfl) (by kernel_rfl) Try.call27
theorem fk28 : FnOK Try.prog 28 i28 := .of Try.func28 (by kernel_rfl) (by kernel_rfl) (by kernel_rfl) Try.call28
theorem fk29 : FnOK Try.prog 29 i29 := .of Try.func29 (by kernel_rfl) (by kernel_rfl) (by kernel_rfl) Try.call29
theorem fk30 : FnOK Try.prog 30 i30 := .of Try.func30 (by kernel_rfl) (by kernel_rfl) (by kernel_rfl) Try.call30
theorem fk31 : FnOK Try.prog 31 i31 := .of Try.func31 (by kernel_rfl) (by kernel_rfl) (by kernel_rfl) Try.call31
theorem fk32 : FnOK Try.prog 32 i32 := .of Try.func32 (by kernel_rfl) (by kernel_rfl) (by kernel_rfl) Try.call32
theorem fk33 : FnOK Try.prog 33 i33 := .of Try.func33 (by kernel_rfl) (by kernel_rfl) (by kernel_rfl) Try.call33
theorem fk34 : FnOK Try.prog 34 i34 := .of Try.func34 (by kernel_rfl) (by kernel_rfl) (by kernel_rfl) Try.call34
theorem fk35 : FnOK Try.prog 35 i35 := .of Try.func35 (by kernel_rfl) (by kernel_rfl) (by kernel_rfl) Try.call35
theorem fk36 : FnOK Try.prog 36 i36 := .of Try.func36 (by kernel_rfl) (by kernel_rfl) (by kernel_rfl) Try.call36
theorem fk37 : FnOK Try.prog 37 i37 := .of Try.func37 (by kernel_rfl) (by kernel_rfl) (by kernel_rfl) Try.call37
theorem fk38 : FnOK Try.prog 38 i38 := .of Try.func38 (by kernel_rfl) (by kernel_rfl) (by kernel_rfl) Try.call38
theorem fk39 : FnOK Try.prog 39 i39 := .of Try.func39 (by kernel_rfl) (by kernel_rfl) (by kernel_rfl) Try.call39
theorem fk40 : FnOK Try.prog 40 i40 := .of Try.func40 (by kernel_rfl) (by kernel_rfl) (by kernel_rfl) Try.call40
theorem fnsOK : FnsOK Try.prog fnsL := ⟨fk3, fk4, fk5, fk6, fk7, fk8, fk9, fk10, fk11, fk12, fk13, fk14, fk15, fk16, fk17, fk18, fk19, fk20, fk21, fk22, fk23, fk24, fk25, fk26, fk27, fk28, fk29, fk30, fk31, fk32, fk33, fk34, fk35, fk36, fk37, fk38, fk39, fk40, trivial⟩
noncomputable def gl : Nat → Option D := fun _ => none
noncomputable def X : Cx := ⟨tab, gl⟩
noncomputable def R : CallF := run X Fs
theorem R_ok : CallOK Try.prog X R := run_ok (X := X) tabOK mixo (fns_ok fnsL fnsOK)
end Go.Proofs.Ytehmpfcealdihaa
