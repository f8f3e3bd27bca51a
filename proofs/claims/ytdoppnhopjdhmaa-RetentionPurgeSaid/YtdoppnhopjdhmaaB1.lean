/- The tables of this seat: its types, and how its functions are carried out on data. -/
import Derived.Test.YtdoppnhopjdhmaaIW
import Derived.Test.YtdoppnhopjdhmaaChecked
import Derived.KernelRfl
set_option linter.unusedSimpArgs false
set_option linter.unusedVariables false
set_option linter.unnecessarySimpa false
namespace Go.Proofs.Ytdoppnhopjdhmaa
open Go.Eng Go.Pi
abbrev ty3 : Nat := 3
abbrev ty4 : Nat := 4
abbrev ty5 : Nat := 5
abbrev ty9 : Nat := 9
abbrev ty22 : Nat := 22
abbrev ty38 : Nat := 24
abbrev ty39 : Nat := 25
abbrev ty40 : Nat := 26
abbrev ty58 : Nat := 30
abbrev ty65 : Nat := 38
abbrev ty56 : Nat := 41
abbrev ty69 : Nat := 44
abbrev ty28 : Nat := 48
abbrev ty29 : Nat := 49
abbrev ty31 : Nat := 51
abbrev ty53 : Nat := 55
abbrev ty106 : Nat := 65
abbrev ty98 : Nat := 66
abbrev ty101 : Nat := 68
abbrev ty82 : Nat := 77
abbrev ty111 : Nat := 78
abbrev ty113 : Nat := 80
abbrev ty74 : Nat := 82
abbrev ty78 : Nat := 104
abbrev ty134 : Nat := 106
abbrev ty109 : Nat := 109
abbrev fn6 : Nat := 3
abbrev fn7 : Nat := 4
abbrev fn8 : Nat := 5
abbrev fn14 : Nat := 6
abbrev fn15 : Nat := 7
abbrev fn27 : Nat := 8
abbrev fn28 : Nat := 9
abbrev fn29 : Nat := 10
abbrev fn30 : Nat := 11
abbrev fn31 : Nat := 12
abbrev fn32 : Nat := 13
abbrev fn33 : Nat := 14
abbrev fn34 : Nat := 15
abbrev fn35 : Nat := 16
abbrev fn24 : Nat := 17
abbrev fn36 : Nat := 18
abbrev fn37 : Nat := 19
abbrev fn18 : Nat := 20
abbrev fn44 : Nat := 21
abbrev fn45 : Nat := 22
abbrev fn46 : Nat := 23
abbrev fn47 : Nat := 24
abbrev fn48 : Nat := 25
abbrev fn16 : Nat := 26
abbrev fn59 : Nat := 27
abbrev fn17 : Nat := 28
abbrev fn60 : Nat := 29
abbrev fn61 : Nat := 30
abbrev fn57 : Nat := 31
abbrev fn50 : Nat := 32
abbrev fn62 : Nat := 33
abbrev fn49 : Nat := 34
abbrev fn63 : Nat := 35
abbrev fn64 : Nat := 36
abbrev fn65 : Nat := 37
abbrev fn54 : Nat := 38
abbrev fn51 : Nat := 39
abbrev fn52 : Nat := 40
abbrev fn71 : Nat := 41
abbrev fn72 : Nat := 42
abbrev fn20 : Nat := 43
abbrev fn79 : Nat := 44
abbrev fn80 : Nat := 45
abbrev fn19 : Nat := 47
abbrev fn21 : Nat := 48
abbrev fn82 : Nat := 49
abbrev fn77 : Nat := 50
abbrev fn73 : Nat := 51
abbrev fn74 : Nat := 52
abbrev fn75 : Nat := 53
abbrev fn84 : Nat := 54
abbrev fn85 : Nat := 55
abbrev fn55 : Nat := 56
abbrev fn87 : Nat := 57
abbrev fn88 : Nat := 58
abbrev fn89 : Nat := 59
abbrev fn90 : Nat := 60
abbrev fn91 : Nat := 61
abbrev fn93 : Nat := 63
abbrev fn53 : Nat := 64
abbrev fn94 : Nat := 65
abbrev fn95 : Nat := 66
abbrev fn70 : Nat := 67
abbrev fn96 : Nat := 68
abbrev fn97 : Nat := 69
abbrev fn98 : Nat := 70
abbrev fn99 : Nat := 71
abbrev fn100 : Nat := 72
abbrev fn101 : Nat := 73
abbrev fn76 : Nat := 74
abbrev fn102 : Nat := 75
abbrev fn103 : Nat := 76
noncomputable def ti3 : TI := ⟨.int .i64, 1, 8, [.int .i64 0]⟩
noncomputable def ti4 : TI := ⟨.bool, 1, 1, [.bool false]⟩
noncomputable def ti5 : TI := ⟨.int .u8, 1, 1, [.int .u8 0]⟩
noncomputable def ti9 : TI := ⟨.str, 1, 16, [.str []]⟩
noncomputable def ti22 : TI := ⟨.sl 5, 1, 24, [.nils]⟩
noncomputable def ti38 : TI := ⟨.sl 55, 1, 24, [.nils]⟩
noncomputable def ti39 : TI := ⟨.sl 41, 1, 24, [.nils]⟩
noncomputable def ti40 : TI := ⟨.sl 51, 1, 24, [.nils]⟩
noncomputable def ti58 : TI := ⟨.sl 65, 1, 24, [.nils]⟩
noncomputable def ti65 : TI := ⟨.int .u32, 1, 4, [.int .u32 0]⟩
noncomputable def ti56 : TI := ⟨.st [(9, 0, 1), (9, 1, 1), (9, 2, 1), (3, 3, 1), (3, 4, 1)], 5, 64, [.str [], .str [], .str [], .int .i64 0, .int .i64 0]⟩
noncomputable def ti69 : TI := ⟨.st [(3, 0, 1), (3, 1, 1), (3, 2, 1), (3, 3, 1), (3, 4, 1), (3, 5, 1), (3, 6, 1)], 7, 56, [.int .i64 0, .int .i64 0, .int .i64 0, .int .i64 0, .int .i64 0, .int .i64 0, .int .i64 0]⟩
noncomputable def ti28 : TI := ⟨.sl 104, 1, 24, [.nils]⟩
noncomputable def ti29 : TI := ⟨.sl 109, 1, 24, [.nils]⟩
noncomputable def ti31 : TI := ⟨.st [(3, 0, 1), (3, 1, 1), (3, 2, 1), (3, 3, 1), (48, 4, 1), (3, 5, 1), (3, 6, 1), (9, 7, 1), (9, 8, 1), (49, 9, 1)], 10, 128, [.int .i64 0, .int .i64 0, .int .i64 0, .int .i64 0, .nils, .int .i64 0, .int .i64 0, .str [], .str [], .nils]⟩
noncomputable def ti53 : TI := ⟨.st [(9, 0, 1), (9, 1, 1), (9, 2, 1), (3, 3, 1)], 4, 56, [.str [], .str [], .str [], .int .i64 0]⟩
noncomputable def ti106 : TI := ⟨.st [(3, 0, 1), (9, 1, 1), (3, 2, 1)], 3, 32, [.int .i64 0, .str [], .int .i64 0]⟩
noncomputable def ti98 : TI := ⟨.sl 9, 1, 24, [.nils]⟩
noncomputable def ti101 : TI := ⟨.st [(22, 0, 1), (3, 1, 1)], 2, 32, [.nils, .int .i64 0]⟩
noncomputable def ti82 : TI := ⟨.sl 3, 1, 24, [.nils]⟩
noncomputable def ti111 : TI := ⟨.sl 80, 1, 24, [.nils]⟩
noncomputable def ti113 : TI := ⟨.sl 82, 1, 24, [.nils]⟩
noncomputable def ti74 : TI := ⟨.st [(9, 0, 1), (51, 1, 10)], 11, 144, [.str [], .int .i64 0, .int .i64 0, .int .i64 0, .int .i64 0, .nils, .int .i64 0, .int .i64 0, .str [], .str [], .nils]⟩
noncomputable def ti78 : TI := ⟨.st [(3, 0, 1), (3, 1, 1), (9, 2, 1)], 3, 32, [.int .i64 0, .int .i64 0, .str []]⟩
noncomputable def ti134 : TI := ⟨.int .u64, 1, 8, [.int .u64 0]⟩
noncomputable def ti109 : TI := ⟨.st [(9, 0, 1), (9, 1, 1)], 2, 32, [.str [], .str []]⟩
noncomputable def tabL : List (Option TI) := [none, none, none, some ti3, some ti4, some ti5, none, none, none, some ti9, none, none, none, none, none, none, none, none, none, none, none, none, some ti22, none, some ti38, some ti39, some ti40, none, none, none, some ti58, none, none, none, none, none, none, none, some ti65, none, none, some ti56, none, none, some ti69, none, none, none, some ti28, some ti29, none, some ti31, none, none, none, some ti53, none, none, none, none, none, none, none, none, none, some ti106, some ti98, none, some ti101, none, none, none, none, none, none, none, none, some ti82, some ti111, none, some ti113, none, some ti74, none, none, none, none, none, none, none, none, none, none, none, none, none, none, none, none, none, none, none, none, none, some ti78, none, some ti134, none, none, some ti109]
noncomputable def tab : Tab := tabOf tabL
theorem tk3 : tiOf Try.prog 3 = some ti3 ∧ goodT Try.prog 3 = true := ⟨by kernel_rfl, by kernel_rfl⟩
theorem tk4 : tiOf Try.prog 4 = some ti4 ∧ goodT Try.prog 4 = true := ⟨by kernel_rfl, by kernel_rfl⟩
theorem tk5 : tiOf Try.prog 5 = some ti5 ∧ goodT Try.prog 5 = true := ⟨by kernel_rfl, by kernel_rfl⟩
theorem tk9 : tiOf Try.prog 9 = some ti9 ∧ goodT Try.prog 9 = true := ⟨by kernel_rfl, by kernel_rfl⟩
theorem tk22 : tiOf Try.prog 22 = some ti22 ∧ goodT Try.prog 22 = true := ⟨by kernel_rfl, by kernel_rfl⟩
theorem tk24 : tiOf Try.prog 24 = some ti38 ∧ goodT Try.prog 24 = true := ⟨by kernel_rfl, by kernel_rfl⟩
theorem tk25 : tiOf Try.prog 25 = some ti39 ∧ goodT Try.prog 25 = true := ⟨by kernel_rfl, by kernel_rfl⟩
theorem tk26 : tiOf Try.prog 26 = some ti40 ∧ goodT Try.prog 26 = true := ⟨by kernel_rfl, by kernel_rfl⟩
theorem tk30 : tiOf Try.prog 30 = some ti58 ∧ goodT Try.prog 30 = true := ⟨by kernel_rfl, by kernel_rfl⟩
theorem tk38 : tiOf Try.prog 38 = some ti65 ∧ goodT Try.prog 38 = true := ⟨by kernel_rfl, by kernel_rfl⟩
theorem tk41 : tiOf Try.prog 41 = some ti56 ∧ goodT Try.prog 41 = true := ⟨by kernel_rfl, by kernel_rfl⟩
theorem tk44 : tiOf Try.prog 44 = some ti69 ∧ goodT Try.prog 44 = true := ⟨by kernel_rfl, by kernel_rfl⟩
theorem tk48 : tiOf Try.prog 48 = some ti28 ∧ goodT Try.prog 48 = true := ⟨by kernel_rfl, by kernel_rfl⟩
theorem tk49 : tiOf Try.prog 49 = some ti29 ∧ goodT Try.prog 49 = true := ⟨by kernel_rfl, by kernel_rfl⟩
theorem tk51 : tiOf Try.prog 51 = some ti31 ∧ goodT Try.prog 51 = true := ⟨by kernel_rfl, by kernel_rfl⟩
theorem tk55 : tiOf Try.prog 55 = some ti53 ∧ goodT Try.prog 55 = true := ⟨by kernel_rfl, by kernel_rfl⟩
theorem tk65 : tiOf Try.prog 65 = some ti106 ∧ goodT Try.prog 65 = true := ⟨by kernel_rfl, by kernel_rfl⟩
theorem tk66 : tiOf Try.prog 66 = some ti98 ∧ goodT Try.prog 66 = true := ⟨by kernel_rfl, by kernel_rfl⟩
theorem tk68 : tiOf Try.prog 68 = some ti101 ∧ goodT Try.prog 68 = true := ⟨by kernel_rfl, by kernel_rfl⟩
theorem tk77 : tiOf Try.prog 77 = some ti82 ∧ goodT Try.prog 77 = true := ⟨by kernel_rfl, by kernel_rfl⟩
theorem tk78 : tiOf Try.prog 78 = some ti111 ∧ goodT Try.prog 78 = true := ⟨by kernel_rfl, by kernel_rfl⟩
theorem tk80 : tiOf Try.prog 80 = some ti113 ∧ goodT Try.prog 80 = true := ⟨by kernel_rfl, by kernel_rfl⟩
theorem tk82 : tiOf Try.prog 82 = some ti74 ∧ goodT Try.prog 82 = true := ⟨by kernel_rfl, by kernel_rfl⟩
theorem tk104 : tiOf Try.prog 104 = some ti78 ∧ goodT Try.prog 104 = true := ⟨by kernel_rfl, by kernel_rfl⟩
theorem tk106 : tiOf Try.prog 106 = some ti134 ∧ goodT Try.prog 106 = true := ⟨by kernel_rfl, by kernel_rfl⟩
theorem tk109 : tiOf Try.prog 109 = some ti109 ∧ goodT Try.prog 109 = true := ⟨by kernel_rfl, by kernel_rfl⟩
theorem tabOK : TabOK Try.prog tab := tabOf_ok (show TabsOK Try.prog 0 tabL from ⟨tk3, tk4, tk5, tk9, tk22, tk24, tk25, tk26, tk30, tk38, tk41, tk44, tk48, tk49, tk51, tk55, tk65, tk66, tk68, tk77, tk78, tk80, tk82, tk104, tk106, tk109, trivial⟩)
theorem mixo : Try.prog.follows .mixedOrders = true := by kernel_rfl
noncomputable def i3 : FnI := ⟨Try.f3.body.getD .skip, Try.f3.results.toList, ⟨66, [0, 2, 3, 4, 5, 6, 8, 9, 10, 11, 12, 14, 48, 50, 65], [], []⟩, false⟩
noncomputable def i4 : FnI := ⟨Try.f4.body.getD .skip, Try.f4.results.toList, ⟨96, [0, 1, 4, 5, 6, 7, 8, 9, 10, 12, 13, 14, 16, 17, 20, 34], [68], []⟩, true⟩
noncomputable def i5 : FnI := ⟨Try.f5.body.getD .skip, Try.f5.results.toList, ⟨91, [0, 1, 3, 4, 5, 6, 7, 8, 9, 10, 11, 14, 55, 58], [3], []⟩, true⟩
noncomputable def i6 : FnI := ⟨Try.f6.body.getD .skip, Try.f6.results.toList, ⟨7, [0], [3], []⟩, false⟩
noncomputable def i7 : FnI := ⟨Try.f7.body.getD .skip, Try.f7.results.toList, ⟨38, [0, 2, 3, 4, 5, 6, 7, 8, 9, 10, 28], [], []⟩, false⟩
noncomputable def i8 : FnI := ⟨Try.f8.body.getD .skip, Try.f8.results.toList, ⟨44, [0, 1, 2, 3, 8, 9, 11, 12, 13, 14, 15, 16, 17, 28], [11, 39], []⟩, true⟩
noncomputable def i9 : FnI := ⟨Try.f9.body.getD .skip, Try.f9.results.toList, ⟨56, [0, 1, 2, 3, 8, 9, 10, 11, 12, 13, 14, 18, 32], [52], []⟩, true⟩
noncomputable def i10 : FnI := ⟨Try.f10.body.getD .skip, Try.f10.results.toList, ⟨27, [0, 1, 4, 5, 10, 14, 26], [], []⟩, false⟩
noncomputable def i11 : FnI := ⟨Try.f11.body.getD .skip, Try.f11.results.toList, ⟨26, [0, 1, 4, 5, 10, 14, 25], [], []⟩, false⟩
noncomputable def i12 : FnI := ⟨Try.f12.body.getD .skip, Try.f12.results.toList, ⟨28, [0, 1, 4, 5, 6, 10, 19], [], []⟩, false⟩
noncomputable def i13 : FnI := ⟨Try.f13.body.getD .skip, Try.f13.results.toList, ⟨25, [0, 2, 3, 4, 8], [], []⟩, false⟩
noncomputable def i14 : FnI := ⟨Try.f14.body.getD .skip, Try.f14.results.toList, ⟨12, [0, 2, 3], [4], []⟩, false⟩
noncomputable def i15 : FnI := ⟨Try.f15.body.getD .skip, Try.f15.results.toList, ⟨34, [0, 1, 4, 5, 6, 16, 27], [], []⟩, false⟩
noncomputable def i16 : FnI := ⟨Try.f16.body.getD .skip, Try.f16.results.toList, ⟨19, [0, 2, 4, 5, 10], [], []⟩, false⟩
noncomputable def i17 : FnI := ⟨Try.f17.body.getD .skip, Try.f17.results.toList, ⟨35, [0, 1, 4, 5, 12], [], []⟩, false⟩
noncomputable def i18 : FnI := ⟨Try.f18.body.getD .skip, Try.f18.results.toList, ⟨36, [0, 1, 2, 3, 6, 7, 8, 9, 10, 11, 20], [6, 7], []⟩, false⟩
noncomputable def i19 : FnI := ⟨Try.f19.body.getD .skip, Try.f19.results.toList, ⟨63, [0, 1, 2, 3, 7, 8, 9, 10, 16, 20, 40, 44, 56, 62], [7], []⟩, false⟩
noncomputable def i20 : FnI := ⟨Try.f20.body.getD .skip, Try.f20.results.toList, ⟨8, [0, 1, 3, 4], [3], []⟩, false⟩
noncomputable def i21 : FnI := ⟨Try.f21.body.getD .skip, Try.f21.results.toList, ⟨13, [0, 1, 4], [], []⟩, false⟩
noncomputable def i22 : FnI := ⟨Try.f22.body.getD .skip, Try.f22.results.toList, ⟨37, [0, 2, 3, 6, 16, 26], [12, 22, 28, 34], []⟩, true⟩
noncomputable def i23 : FnI := ⟨Try.f23.body.getD .skip, Try.f23.results.toList, ⟨31, [0, 2, 3, 4, 7, 16], [12, 28], []⟩, true⟩
noncomputable def i24 : FnI := ⟨Try.f24.body.getD .skip, Try.f24.results.toList, ⟨21, [0, 2, 3, 7], [8], []⟩, false⟩
noncomputable def i25 : FnI := ⟨Try.f25.body.getD .skip, Try.f25.results.toList, ⟨56, [0, 1, 4, 5, 6, 7, 8, 9, 14, 24, 33, 44], [], []⟩, false⟩
noncomputable def i26 : FnI := ⟨Try.f26.body.getD .skip, Try.f26.results.toList, ⟨43, [0, 1, 2, 3, 7, 8, 9, 10, 37], [7], []⟩, false⟩
noncomputable def i27 : FnI := ⟨Try.f27.body.getD .skip, Try.f27.results.toList, ⟨42, [0, 1, 2, 3, 8, 9, 10, 14, 24], [30], []⟩, true⟩
noncomputable def i28 : FnI := ⟨Try.f28.body.getD .skip, Try.f28.results.toList, ⟨46, [0, 1, 2, 3, 7, 8, 9, 10, 40], [7], []⟩, false⟩
noncomputable def i29 : FnI := ⟨Try.f29.body.getD .skip, Try.f29.results.toList, ⟨96, [0, 1, 2, 3, 8, 9, 10, 12, 44, 70], [89], []⟩, true⟩
noncomputable def i30 : FnI := ⟨Try.f30.body.getD .skip, Try.f30.results.toList, ⟨10, [0, 1, 2, 3, 4], [2, 3], []⟩, false⟩
noncomputable def i31 : FnI := ⟨Try.f31.body.getD .skip, Try.f31.results.toList, ⟨13, [0, 2], [], []⟩, false⟩
noncomputable def i32 : FnI := ⟨Try.f32.body.getD .skip, Try.f32.results.toList, ⟨19, [0, 1, 4, 5, 7, 8, 9, 16], [], []⟩, false⟩
noncomputable def i33 : FnI := ⟨Try.f33.body.getD .skip, Try.f33.results.toList, ⟨6, [0, 1, 2], [1], []⟩, false⟩
noncomputable def i34 : FnI := ⟨Try.f34.body.getD .skip, Try.f34.results.toList, ⟨9, [0, 2], [], []⟩, false⟩
noncomputable def i35 : FnI := ⟨Try.f35.body.getD .skip, Try.f35.results.toList, ⟨12, [0, 1, 2, 3, 4], [3], []⟩, false⟩
noncomputable def i36 : FnI := ⟨Try.f36.body.getD .skip, Try.f36.results.toList, ⟨16, [0, 1, 2, 3], [2], []⟩, false⟩
noncomputable def i37 : FnI := ⟨Try.f37.body.getD .skip, Try.f37.results.toList, ⟨9, [0, 1, 4], [], []⟩, false⟩
noncomputable def i38 : FnI := ⟨Try.f38.body.getD .skip, Try.f38.results.toList, ⟨9, [0, 1, 4], [], []⟩, false⟩
noncomputable def i39 : FnI := ⟨Try.f39.body.getD .skip, Try.f39.results.toList, ⟨11, [0, 1, 2, 3], [2], []⟩, false⟩
noncomputable def i40 : FnI := ⟨Try.f40.body.getD .skip, Try.f40.results.toList, ⟨8, [0, 1, 2, 3, 4, 6], [2, 3], []⟩, false⟩
noncomputable def i41 : FnI := ⟨Try.f41.body.getD .skip, Try.f41.results.toList, ⟨45, [0, 1, 2, 6, 7, 8, 9, 10, 11, 12, 16, 24], [12, 35, 42], []⟩, true⟩
noncomputable def i42 : FnI := ⟨Try.f42.body.getD .skip, Try.f42.results.toList, ⟨34, [0, 1, 3, 4, 5, 6, 19], [3, 28], []⟩, true⟩
noncomputable def i43 : FnI := ⟨Try.f43.body.getD .skip, Try.f43.results.toList, ⟨8, [0, 1, 3, 4], [3], []⟩, false⟩
noncomputable def i44 : FnI := ⟨Try.f44.body.getD .skip, Try.f44.results.toList, ⟨8, [0, 2, 4], [5], []⟩, false⟩
noncomputable def i45 : FnI := ⟨Try.f45.body.getD .skip, Try.f45.results.toList, ⟨15, [0, 1, 2, 6, 7], [], []⟩, false⟩
noncomputable def i47 : FnI := ⟨Try.f47.body.getD .skip, Try.f47.results.toList, ⟨25, [0, 1, 3, 4, 5, 9, 23], [3], []⟩, false⟩
noncomputable def i48 : FnI := ⟨Try.f48.body.getD .skip, Try.f48.results.toList, ⟨44, [0, 1, 3, 4, 5, 9, 43], [3], []⟩, false⟩
noncomputable def i49 : FnI := ⟨Try.f49.body.getD .skip, Try.f49.results.toList, ⟨86, [0, 1, 2, 3, 4, 5, 6], [2, 3, 1000006], []⟩, true⟩
noncomputable def i50 : FnI := ⟨Try.f50.body.getD .skip, Try.f50.results.toList, ⟨19, [0, 1, 4, 5, 7, 8, 9, 16], [], []⟩, false⟩
noncomputable def i51 : FnI := ⟨Try.f51.body.getD .skip, Try.f51.results.toList, ⟨3, [0, 2], [1], []⟩, false⟩
noncomputable def i52 : FnI := ⟨Try.f52.body.getD .skip, Try.f52.results.toList, ⟨19, [0, 1, 2, 3, 4, 5, 6], [3], []⟩, false⟩
noncomputable def i53 : FnI := ⟨Try.f53.body.getD .skip, Try.f53.results.toList, ⟨12, [0, 1, 2, 4, 5], [2], []⟩, false⟩
noncomputable def i54 : FnI := ⟨Try.f54.body.getD .skip, Try.f54.results.toList, ⟨94, [0, 1, 2, 3, 8, 9, 10, 11, 12, 13, 14, 24, 51, 56], [41, 64, 77, 82], []⟩, true⟩
noncomputable def i55 : FnI := ⟨Try.f55.body.getD .skip, Try.f55.results.toList, ⟨43, [0, 1, 2, 3, 4, 5, 16, 27], [2, 3], []⟩, false⟩
noncomputable def i56 : FnI := ⟨Try.f56.body.getD .skip, Try.f56.results.toList, ⟨25, [0, 1, 2, 3], [2], []⟩, false⟩
noncomputable def i57 : FnI := ⟨Try.f57.body.getD .skip, Try.f57.results.toList, ⟨49, [0, 1, 2, 4, 6, 7, 8, 9, 10, 11, 17, 31], [4], []⟩, false⟩
noncomputable def i58 : FnI := ⟨Try.f58.body.getD .skip, Try.f58.results.toList, ⟨17, [0, 1, 2, 3, 4], [2, 3, 15], []⟩, false⟩
noncomputable def i59 : FnI := ⟨Try.f59.body.getD .skip, Try.f59.results.toList, ⟨18, [0, 2, 3, 5, 6, 7, 8, 9, 14], [], []⟩, false⟩
noncomputable def i60 : FnI := ⟨Try.f60.body.getD .skip, Try.f60.results.toList, ⟨20, [0, 1, 4, 5, 6, 11, 12, 13, 16, 19], [], []⟩, false⟩
noncomputable def i61 : FnI := ⟨Try.f61.body.getD .skip, Try.f61.results.toList, ⟨20, [0, 1, 4, 5, 6, 11, 12, 13, 16, 19], [], []⟩, false⟩
noncomputable def i63 : FnI := ⟨Try.f63.body.getD .skip, Try.f63.results.toList, ⟨10, [0, 1], [], []⟩, false⟩
noncomputable def i64 : FnI := ⟨Try.f64.body.getD .skip, Try.f64.results.toList, ⟨26, [0, 1, 2, 5, 6, 7, 8], [5], []⟩, false⟩
noncomputable def i65 : FnI := ⟨Try.f65.body.getD .skip, Try.f65.results.toList, ⟨26, [0, 1, 4, 5, 10, 14, 25], [], []⟩, false⟩
noncomputable def i66 : FnI := ⟨Try.f66.body.getD .skip, Try.f66.results.toList, ⟨26, [0, 1, 4, 5, 10, 14, 25], [], []⟩, false⟩
noncomputable def i67 : FnI := ⟨Try.f67.body.getD .skip, Try.f67.results.toList, ⟨21, [0, 1, 4, 5, 7, 8, 9, 10, 11, 17], [7], []⟩, false⟩
noncomputable def i68 : FnI := ⟨Try.f68.body.getD .skip, Try.f68.results.toList, ⟨24, [0, 2, 3, 4, 10], [14], []⟩, false⟩
noncomputable def i69 : FnI := ⟨Try.f69.body.getD .skip, Try.f69.results.toList, ⟨8, [0, 2], [3], []⟩, false⟩
noncomputable def i70 : FnI := ⟨Try.f70.body.getD .skip, Try.f70.results.toList, ⟨27, [0, 2, 3, 4, 5, 10, 15], [6, 24], []⟩, true⟩
noncomputable def i71 : FnI := ⟨Try.f71.body.getD .skip, Try.f71.results.toList, ⟨6, [0, 2], [], []⟩, false⟩
noncomputable def i72 : FnI := ⟨Try.f72.body.getD .skip, Try.f72.results.toList, ⟨6, [0, 2], [], []⟩, false⟩
noncomputable def i73 : FnI := ⟨Try.f73.body.getD .skip, Try.f73.results.toList, ⟨14, [0, 1], [], []⟩, false⟩
noncomputable def i74 : FnI := ⟨Try.f74.body.getD .skip, Try.f74.results.toList, ⟨25, [0, 1, 4, 5, 6, 10, 19], [], []⟩, false⟩
noncomputable def i75 : FnI := ⟨Try.f75.body.getD .skip, Try.f75.results.toList, ⟨12, [0, 2, 3], [4], []⟩, false⟩
noncomputable def i76 : FnI := ⟨Try.f76.body.getD .skip, Try.f76.results.toList, ⟨28, [0, 2, 3, 9], [], []⟩, false⟩
noncomputable def fnsL : List (Nat × FnI) := [(3, i3), (4, i4), (5, i5), (6, i6), (7, i7), (8, i8), (9, i9), (10, i10), (11, i11), (12, i12), (13, i13), (14, i14), (15, i15), (16, i16), (17, i17), (18, i18), (19, i19), (20, i20), (21, i21), (22, i22), (23, i23), (24, i24), (25, i25), (26, i26), (27, i27), (28, i28), (29, i29), (30, i30), (31, i31), (32, i32), (33, i33), (34, i34), (35, i35), (36, i36), (37, i37), (38, i38), (39, i39), (40, i40), (41, i41), (42, i42), (43, i43), (44, i44), (45, i45), (47, i47), (48, i48), (49, i49), (50, i50), (51, i51), (52, i52), (53, i53), (54, i54), (55, i55), (56, i56), (57, i57), (58, i58), (59, i59), (60, i60), (61, i61), (63, i63), (64, i64), (65, i65), (66, i66), (67, i67), (68, i68), (69, i69), (70, i70), (71, i71), (72, i72), (73, i73), (74, i74), (75, i75), (76, i76)]
noncomputable def Fs : FuncId → Option FnI := fnOf fnsL
theorem fk3 : FnOK Try.prog 3 i3 := .of Try.func3 (by kernel_rfl) (by kernel_rfl) (by kernel_rfl) Try.call3
theorem fk4 : FnOK Try.prog 4 i4 := .of Try.func4 (by kernel_rfl) (by kernel_rfl) (by kernel_rfl) Try.call4
theorem fk5 : FnOK Try.prog 5 i5 := .of Try.func5 (by kernel_rfl) (by kernel_rfl) (by kernel_rfl) Try.call5
theorem fk6 : FnOK Try.prog 6 i6 := .of Try.func6 (by kernel_rfl) (by kernel_rfl) (by kernel_rfl) Try.call6
theorem fk7 : FnOK Try.prog 7 i7 := .of Try.func7 (by kernel_rfl) (by kernel_rfl) (by kernel_rfl) Try.call7
theorem fk8 : FnOK Try.prog 8 i8 := .of Try.func8 (by kernel_rfl) (by kernel_rfl) (by kernel_rfl) Try.call8
theorem fk9 : FnOK Try.prog 9 i9 := .of Try.func9 (by kernel_rfl) (by kernel_rfl) (by kernel_rfl) Try.call9
theorem fk10 : FnOK Try.prog 10 i10 := .of Try.func10 (by kernel_rfl) (by kernel_rfl) (by kernel_rfl) Try.call10
theorem fk11 : FnOK Try.prog 11 i11 := .of Try.func11 (by kernel_rfl) (by kernel_rfl) (by kernel_rfl) Try.call11
theorem fk12 : FnOK Try.prog 12 i12 := .of Try.func12 (by kernel_rfl) (by kernel_rfl) (by kernel_rfl) Try.call12
theorem fk13 : FnOK Try.prog 13 i13 := .of Try.func13 (by kernel_rfl) (by kernel_rfl) (by kernel_rfl) Try.call13
theorem fk14 : FnOK Try.prog 14 i14 := .of Try.func14 (by kernel_rfl) (by kernel_rfl) (by kernel_rfl) Try.call14
theorem fk15 : FnOK Try.prog 15 i15 := .of Try.func15 (by kernel_rfl) (by kernel_rfl) (by kernel_rfl) Try.call15
theorem fk16 : FnOK Try.prog 16 i16 := .of Try.func16 (by kernel_rfl) (by kernel_rfl) (by kernel_rfl) Try.call16
theorem fk17 : FnOK Try.prog 17 i17 := .of Try.func17 (by kernel_rfl) (by kernel_rfl) (by kernel_rfl) Try.call17
theorem fk18 : FnOK Try.prog 18 i18 := .of Try.func18 (by kernel_rfl) (by kernel_rfl) (by kernel_rfl) Try.call18
theorem fk19 : FnOK Try.prog 19 i19 := .of Try.func19 (by kernel_rfl) (by kernel_rfl) (by kernel_rfl) Try.call19
theorem fk20 : FnOK Try.prog 20 i20 := .of Try.func20 (by kernel_rfl) (by kernel_rfl) (by kernel_rfl) Try.call20
theorem fk21 : FnOK Try.prog 21 i21 := .of Try.func21 (by kernel_rfl) (by kernel_rfl) (by kernel_rfl) Try.call21
theorem fk22 : FnOK Try.prog 22 i22 := .of Try.func22 (by kernel_rfl) (by kernel_rfl) (by kernel_rfl) Try.call22
theorem fk23 : FnOK Try.prog 23 i23 := .of Try.func23 (by kernel_rfl) (by kernel_rfl) (by kernel_rfl) Try.call23
theorem fk24 : FnOK Try.prog 24 i24 := .of Try.func24 (by kernel_rfl) (by kernel_rfl) (by kernel_rfl) Try.call24
theorem fk25 : FnOK Try.prog 25 i25 := .of Try.func25 (by kernel_rfl) (by kernel_rfl) (by kernel_rfl) Try.call25
theorem fk26 : FnOK Try.prog 26 i26 := .of Try.func26 (by kernel_rfl) (by kernel_rfl) (by kernel_rfl) Try.call26
theorem fk27 : FnOK Try.prog 27 i27 := .of Try.func27 (by kernel_rfl) (by kernel_rfl) (by kernel_rfl) Try.call27
theorem fk28 : FnOK Try.prog 28 i28 := .of Try.func28 (by kernel_rfl) (by kernel_rfl) (by kernel_rfl) Try.call28
theorem fk29 : FnOK Try.prog 29 i29 := .of Try.func29 (by kernel_rfl) (by kernel_rfl) (by kernel_rfl) Try.call29
theorem fk30 : FnOK Try.prog 30 i30 := .of Try.func30 (by kernel_rfl) (by kernel_rfl) (by kernel_rfl) Try.call30
theorem fk31 : FnOK Try.prog 31 i31 := .of Try.func31 (by kernel_rfl) (by kernel_rfl) (by kernel_rfl) Try.call31
theorem fk32 : FnOK Try.prog 32 i32 := .of Try.func32 (by kernel_rfl) (by kernel_rfl) (by kernel_rfl) Try.call32
theorem fk33 : FnOK Try.prog 33 i33 := .of Try.func33 (by kernel_rfl) (by kernel_rfl) (by kernel_rfl) Try.call33
theorem fk34 : FnOK Try.prog 34 i34 := .of Try.func34 (by kernel_rfl) (by kernel_rfl) (by kernel_rfl) Try.call34
theorem fk35 : FnOK Try.prog 35 i35 := .of Try.func35 (by kernel_rfl) (by kernel_rfl) (by kernel_rfl) Try.call35
theorem fk36 : FnOK Try.prog 36 i36 := .of Try.func36 (by kernel_rfl) (by kernel_rfl) (by kernel_rfl) Try.call36
theorem fk37 : FnOK Try.prog 37 i37 := .of Try.func37 (by kernel_rfl) (by kernel_rfl) (by kernel_rfl) Try.call37
theorem fk38 : FnOK Try.prog 38 i38 := .of Try.func38 (by kernel_rfl) (by kernel_rfl) (by kernel_rfl) Try.call38
theorem fk39 : FnOK Try.prog 39 i39 := .of Try.func39 (by kernel_rfl) (by kernel_rfl) (by kernel_rfl) Try.call39
theorem fk40 : FnOK Try.prog 40 i40 := .of Try.func40 (by kernel_rfl) (by kernel_rfl) (by kernel_rfl) Try.call40
theorem fk41 : FnOK Try.prog 41 i41 := .of Try.func41 (by kernel_rfl) (by kernel_rfl) (by kernel_rfl) Try.call41
theorem fk42 : FnOK Try.prog 42 i42 := .of Try.func42 (by kernel_rfl) (by kernel_rfl) (by kernel_rfl) Try.call42
theorem fk43 : FnOK Try.prog 43 i43 := .of Try.func43 (by kernel_rfl) (by kernel_rfl) (by kernel_rfl) Try.call43
theorem fk44 : FnOK Try.prog 44 i44 := .of Try.func44 (by kernel_rfl) (by kernel_rfl) (by kernel_rfl) Try.call44
theorem fk45 : FnOK Try.prog 45 i45 := .of Try.func45 (by kernel_rfl) (by kernel_rfl) (by kernel_rfl) Try.call45
theorem fk47 : FnOK Try.prog 47 i47 := .of Try.func47 (by kernel_rfl) (by kernel_rfl) (by kernel_rfl) Try.call47
theorem fk48 : FnOK Try.prog 48 i48 := .of Try.func48 (by kernel_rfl) (by kernel_rfl) (by kernel_rfl) Try.call48
theorem fk49 : FnOK Try.prog 49 i49 := .of Try.func49 (by kernel_rfl) (by kernel_rfl) (by kernel_rfl) Try.call49
theorem fk50 : FnOK Try.prog 50 i50 := .of Try.func50 (by kernel_rfl) (by kernel_rfl) (by kernel_rfl) Try.call50
theorem fk51 : FnOK Try.prog 51 i51 := .of Try.func51 (by kernel_rfl) (by kernel_rfl) (by kernel_rfl) Try.call51
theorem fk52 : FnOK Try.prog 52 i52 := .of Try.func52 (by kernel_rfl) (by kernel_rfl) (by kernel_rfl) Try.call52
theorem fk53 : FnOK Try.prog 53 i53 := .of Try.func53 (by kernel_rfl) (by kernel_rfl) (by kernel_rfl) Try.call53
theorem fk54 : FnOK Try.prog 54 i54 := .of Try.func54 (by kernel_rfl) (by kernel_rfl) (by kernel_rfl) Try.call54
theorem fk55 : FnOK Try.prog 55 i55 := .of Try.func55 (by kernel_rfl) (by kernel_rfl) (by kernel_rfl) Try.call55
theorem fk56 : FnOK Try.prog 56 i56 := .of Try.func56 (by kernel_rfl) (by kernel_rfl) (by kernel_rfl) Try.call56
theorem fk57 : FnOK Try.prog 57 i57 := .of Try.func57 (by kernel_rfl) (by kernel_rfl) (by kernel_rfl) Try.call57
theorem fk58 : FnOK Try.prog 58 i58 := .of Try.func58 (by kernel_rfl) (by kernel_rfl) (by kernel_rfl) Try.call58
theorem fk59 : FnOK Try.prog 59 i59 := .of Try.func59 (by kernel_rfl) (by kernel_rfl) (by kernel_rfl) Try.call59
theorem fk60 : FnOK Try.prog 60 i60 := .of Try.func60 (by kernel_rfl) (by kernel_rfl) (by kernel_rfl) Try.call60
theorem fk61 : FnOK Try.prog 61 i61 := .of Try.func61 (by kernel_rfl) (by kernel_rfl) (by kernel_rfl) Try.call61
theorem fk63 : FnOK Try.prog 63 i63 := .of Try.func63 (by kernel_rfl) (by kernel_rfl) (by kernel_rfl) Try.call63
theorem fk64 : FnOK Try.prog 64 i64 := .of Try.func64 (by kernel_rfl) (by kernel_rfl) (by kernel_rfl) Try.call64
theorem fk65 : FnOK Try.prog 65 i65 := .of Try.func65 (by kernel_rfl) (by kernel_rfl) (by kernel_rfl) Try.call65
theorem fk66 : FnOK Try.prog 66 i66 := .of Try.func66 (by kernel_rfl) (by kernel_rfl) (by kernel_rfl) Try.call66
theorem fk67 : FnOK Try.prog 67 i67 := .of Try.func67 (by kernel_rfl) (by kernel_rfl) (by kernel_rfl) Try.call67
theorem fk68 : FnOK Try.prog 68 i68 := .of Try.func68 (by kernel_rfl) (by kernel_rfl) (by kernel_rfl) Try.call68
theorem fk69 : FnOK Try.prog 69 i69 := .of Try.func69 (by kernel_rfl) (by kernel_rfl) (by kernel_rfl) Try.call69
theorem fk70 : FnOK Try.prog 70 i70 := .of Try.func70 (by kernel_rfl) (by kernel_rfl) (by kernel_rfl) Try.call70
theorem fk71 : FnOK Try.prog 71 i71 := .of Try.func71 (by kernel_rfl) (by kernel_rfl) (by kernel_rfl) Try.call71
theorem fk72 : FnOK Try.prog 72 i72 := .of Try.func72 (by kernel_rfl) (by kernel_rfl) (by kernel_rfl) Try.call72
theorem fk73 : FnOK Try.prog 73 i73 := .of Try.func73 (by kernel_rfl) (by kernel_rfl) (by kernel_rfl) Try.call73
theorem fk74 : FnOK Try.prog 74 i74 := .of Try.func74 (by kernel_rfl) (by kernel_rfl) (by kernel_rfl) Try.call74
theorem fk75 : FnOK Try.prog 75 i75 := .of Try.func75 (by kernel_rfl) (by kernel_rfl) (by kernel_rfl) Try.call75
theorem fk76 : FnOK Try.prog 76 i76 := .of Try.func76 (by kernel_rfl) (by kernel_rfl) (by kernel_rfl) Try.call76
theorem fnsOK : FnsOK Try.prog fnsL := ⟨fk3, fk4, fk5, fk6, fk7, fk8, fk9, fk10, fk11, fk12, fk13, fk14, fk15, fk16, fk17, fk18, fk19, fk20, fk21, fk22, fk23, fk24, fk25, fk26, fk27, fk28, fk29, fk30, fk31, fk32, fk33, fk34, fk35, fk36, fk37, fk38, fk39, fk40, fk41, fk42, fk43, fk44, fk45, fk47, fk48, fk49, fk50, fk51, fk52, fk53, fk54, fk55, fk56, fk57, fk58, fk59, fk60, fk61, fk63, fk64, fk65, fk66, fk67, fk68, fk69, fk70, fk71, fk72, fk73, fk74, fk75, fk76, trivial⟩
noncomputable def gl : Nat → Option D := fun _ => none
abbrev fn81 : Nat := 46
noncomputable def xt : CallF := fun f args h => if f = fn81 then dIns ty106 ti106 args h else none
theorem xtOK (X : Cx) : CallOK Try.prog X xt := fun f args h d h' hd g vs hi hgl hr => by
  unfold xt at hd
  split at hd
  · rename_i hf
    subst hf
    exact ins_ok tabOK insW46 Try.call46 ovl62 (show tab 30 = some ti58 from rfl) rfl (show tab 65 = some ti106 from rfl) (show tab 3 = some ti3 from rfl) rfl rfl (by decide) hd hi hr
  · skip
    cases hd
noncomputable def X : Cx := ⟨tab, gl, xt⟩
noncomputable def R : CallF := run X Fs
theorem R_ok : CallOK Try.prog X R := run_ok (X := X) tabOK mixo (xtOK X) (fns_ok fnsL fnsOK)
theorem xins81 (args : List D) (h : Hp) : R fn81 args h = dIns ty106 ti106 args h := (run_xt (X := X) (F := Fs) (by kernel_rfl) _ _).trans (by simp [X, xt])
end Go.Proofs.Ytdoppnhopjdhmaa
