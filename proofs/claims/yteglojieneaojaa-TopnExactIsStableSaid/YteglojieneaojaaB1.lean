/- The tables of this seat: its types, and how its functions are carried out on data. -/
import Derived.Test.YteglojieneaojaaPiW
import Derived.Test.YteglojieneaojaaChecked
import Derived.KernelRfl
set_option linter.unusedSimpArgs false
set_option linter.unusedVariables false
set_option linter.unnecessarySimpa false
namespace Go.Proofs.Yteglojieneaojaa
open Go.Eng Go.Pi
abbrev ty3 : Nat := 3
abbrev ty4 : Nat := 4
abbrev ty5 : Nat := 5
abbrev ty9 : Nat := 9
abbrev ty22 : Nat := 22
abbrev ty82 : Nat := 23
abbrev ty98 : Nat := 25
abbrev ty40 : Nat := 26
abbrev ty1144 : Nat := 30
abbrev ty1146 : Nat := 34
abbrev ty1153 : Nat := 45
abbrev ty1154 : Nat := 46
abbrev ty1156 : Nat := 48
abbrev ty101 : Nat := 51
abbrev ty111 : Nat := 61
abbrev ty113 : Nat := 63
abbrev ty28 : Nat := 64
abbrev ty29 : Nat := 65
abbrev ty31 : Nat := 67
abbrev ty74 : Nat := 69
abbrev ty1165 : Nat := 71
abbrev ty1166 : Nat := 72
abbrev ty1168 : Nat := 74
abbrev ty78 : Nat := 86
abbrev ty134 : Nat := 94
abbrev ty109 : Nat := 97
abbrev ty1029 : Nat := 104
abbrev fn1166 : Nat := 3
abbrev fn1167 : Nat := 4
abbrev fn1168 : Nat := 5
abbrev fn1169 : Nat := 6
abbrev fn102 : Nat := 7
abbrev fn47 : Nat := 8
abbrev fn1170 : Nat := 9
abbrev fn24 : Nat := 10
abbrev fn1171 : Nat := 11
abbrev fn1172 : Nat := 12
abbrev fn1173 : Nat := 13
abbrev fn44 : Nat := 14
abbrev fn1174 : Nat := 15
abbrev fn48 : Nat := 16
abbrev fn1175 : Nat := 17
abbrev fn1176 : Nat := 18
abbrev fn57 : Nat := 19
abbrev fn1177 : Nat := 20
abbrev fn1178 : Nat := 21
abbrev fn1179 : Nat := 22
abbrev fn1180 : Nat := 23
abbrev fn1181 : Nat := 24
abbrev fn89 : Nat := 25
abbrev fn90 : Nat := 26
abbrev fn1182 : Nat := 27
abbrev fn1183 : Nat := 28
abbrev fn1184 : Nat := 29
abbrev fn1185 : Nat := 30
abbrev fn1186 : Nat := 31
abbrev fn71 : Nat := 32
abbrev fn72 : Nat := 33
abbrev fn1187 : Nat := 34
abbrev fn1188 : Nat := 35
abbrev fn99 : Nat := 36
abbrev fn1189 : Nat := 37
abbrev fn84 : Nat := 38
abbrev fn85 : Nat := 39
abbrev fn1190 : Nat := 40
abbrev fn1191 : Nat := 41
abbrev fn1192 : Nat := 42
abbrev fn1193 : Nat := 43
abbrev fn91 : Nat := 44
abbrev fn96 : Nat := 45
abbrev fn35 : Nat := 46
abbrev fn97 : Nat := 47
abbrev fn98 : Nat := 48
abbrev fn1194 : Nat := 49
abbrev fn1195 : Nat := 50
abbrev fn1196 : Nat := 51
abbrev fn1197 : Nat := 52
abbrev fn1198 : Nat := 53
abbrev fn100 : Nat := 54
abbrev fn33 : Nat := 55
abbrev fn1199 : Nat := 56
abbrev fn1200 : Nat := 57
abbrev fn1201 : Nat := 58
abbrev fn76 : Nat := 59
abbrev fn1202 : Nat := 60
abbrev fn1203 : Nat := 61
abbrev fn1204 : Nat := 62
abbrev fn1205 : Nat := 63
noncomputable def ti3 : TI := ⟨.int .i64, 1, 8, [.int .i64 0], []⟩
noncomputable def ti4 : TI := ⟨.bool, 1, 1, [.bool false], []⟩
noncomputable def ti5 : TI := ⟨.int .u8, 1, 1, [.int .u8 0], []⟩
noncomputable def ti9 : TI := ⟨.str, 1, 16, [.str []], []⟩
noncomputable def ti22 : TI := ⟨.sl 5, 1, 24, [.nils], []⟩
noncomputable def ti82 : TI := ⟨.sl 3, 1, 24, [.nils], []⟩
noncomputable def ti98 : TI := ⟨.sl 9, 1, 24, [.nils], []⟩
noncomputable def ti40 : TI := ⟨.sl 67, 1, 24, [.nils], []⟩
noncomputable def ti1144 : TI := ⟨.sl 34, 1, 24, [.nils], []⟩
noncomputable def ti1146 : TI := ⟨.st [(25, 0, 1), (23, 1, 1), (3, 2, 1)], 3, 56, [.nils, .nils, .int .i64 0], []⟩
noncomputable def ti1153 : TI := ⟨.st [(3, 0, 1), (9, 1, 1)], 2, 24, [.int .i64 0, .str []], []⟩
noncomputable def ti1154 : TI := ⟨.sl 45, 1, 24, [.nils], []⟩
noncomputable def ti1156 : TI := ⟨.sl 74, 1, 24, [.nils], []⟩
noncomputable def ti101 : TI := ⟨.st [(22, 0, 1), (3, 1, 1)], 2, 32, [.nils, .int .i64 0], []⟩
noncomputable def ti111 : TI := ⟨.sl 63, 1, 24, [.nils], []⟩
noncomputable def ti113 : TI := ⟨.sl 69, 1, 24, [.nils], []⟩
noncomputable def ti28 : TI := ⟨.sl 86, 1, 24, [.nils], []⟩
noncomputable def ti29 : TI := ⟨.sl 97, 1, 24, [.nils], []⟩
noncomputable def ti31 : TI := ⟨.st [(3, 0, 1), (3, 1, 1), (3, 2, 1), (3, 3, 1), (64, 4, 1), (3, 5, 1), (3, 6, 1), (9, 7, 1), (9, 8, 1), (65, 9, 1)], 10, 128, [.int .i64 0, .int .i64 0, .int .i64 0, .int .i64 0, .nils, .int .i64 0, .int .i64 0, .str [], .str [], .nils], []⟩
noncomputable def ti74 : TI := ⟨.st [(9, 0, 1), (67, 1, 10)], 11, 144, [.str [], .int .i64 0, .int .i64 0, .int .i64 0, .int .i64 0, .nils, .int .i64 0, .int .i64 0, .str [], .str [], .nils], []⟩
noncomputable def ti1165 : TI := ⟨.sl 4, 1, 24, [.nils], []⟩
noncomputable def ti1166 : TI := ⟨.sl 25, 1, 24, [.nils], []⟩
noncomputable def ti1168 : TI := ⟨.st [(25, 0, 1), (23, 1, 1), (71, 2, 1), (72, 3, 1)], 4, 96, [.nils, .nils, .nils, .nils], []⟩
noncomputable def ti78 : TI := ⟨.st [(3, 0, 1), (3, 1, 1), (9, 2, 1)], 3, 32, [.int .i64 0, .int .i64 0, .str []], []⟩
noncomputable def ti134 : TI := ⟨.int .u64, 1, 8, [.int .u64 0], []⟩
noncomputable def ti109 : TI := ⟨.st [(9, 0, 1), (9, 1, 1)], 2, 32, [.str [], .str []], []⟩
noncomputable def ti1029 : TI := ⟨.int .u64, 1, 8, [.int .u64 0], []⟩
noncomputable def tabL : List (Option TI) := [none, none, none, some ti3, some ti4, some ti5, none, none, none, some ti9, none, none, none, none, none, none, none, none, none, none, none, none, some ti22, some ti82, none, some ti98, some ti40, none, none, none, some ti1144, none, none, none, some ti1146, none, none, none, none, none, none, none, none, none, none, some ti1153, some ti1154, none, some ti1156, none, none, some ti101, none, none, none, none, none, none, none, none, none, some ti111, none, some ti113, some ti28, some ti29, none, some ti31, none, some ti74, none, some ti1165, some ti1166, none, some ti1168, none, none, none, none, none, none, none, none, none, none, none, some ti78, none, none, none, none, none, none, none, some ti134, none, none, some ti109, none, none, none, none, none, none, some ti1029]
noncomputable def tab : Tab := tabOf tabL
theorem tk3 : tiOf Try.prog 3 = some ti3 ∧ goodT Try.prog 3 = true := ⟨by kernel_rfl, by kernel_rfl⟩
theorem tk4 : tiOf Try.prog 4 = some ti4 ∧ goodT Try.prog 4 = true := ⟨by kernel_rfl, by kernel_rfl⟩
theorem tk5 : tiOf Try.prog 5 = some ti5 ∧ goodT Try.prog 5 = true := ⟨by kernel_rfl, by kernel_rfl⟩
theorem tk9 : tiOf Try.prog 9 = some ti9 ∧ goodT Try.prog 9 = true := ⟨by kernel_rfl, by kernel_rfl⟩
theorem tk22 : tiOf Try.prog 22 = some ti22 ∧ goodT Try.prog 22 = true := ⟨by kernel_rfl, by kernel_rfl⟩
theorem tk23 : tiOf Try.prog 23 = some ti82 ∧ goodT Try.prog 23 = true := ⟨by kernel_rfl, by kernel_rfl⟩
theorem tk25 : tiOf Try.prog 25 = some ti98 ∧ goodT Try.prog 25 = true := ⟨by kernel_rfl, by kernel_rfl⟩
theorem tk26 : tiOf Try.prog 26 = some ti40 ∧ goodT Try.prog 26 = true := ⟨by kernel_rfl, by kernel_rfl⟩
theorem tk30 : tiOf Try.prog 30 = some ti1144 ∧ goodT Try.prog 30 = true := ⟨by kernel_rfl, by kernel_rfl⟩
theorem tk34 : tiOf Try.prog 34 = some ti1146 ∧ goodT Try.prog 34 = true := ⟨by kernel_rfl, by kernel_rfl⟩
theorem tk45 : tiOf Try.prog 45 = some ti1153 ∧ goodT Try.prog 45 = true := ⟨by kernel_rfl, by kernel_rfl⟩
theorem tk46 : tiOf Try.prog 46 = some ti1154 ∧ goodT Try.prog 46 = true := ⟨by kernel_rfl, by kernel_rfl⟩
theorem tk48 : tiOf Try.prog 48 = some ti1156 ∧ goodT Try.prog 48 = true := ⟨by kernel_rfl, by kernel_rfl⟩
theorem tk51 : tiOf Try.prog 51 = some ti101 ∧ goodT Try.prog 51 = true := ⟨by kernel_rfl, by kernel_rfl⟩
theorem tk61 : tiOf Try.prog 61 = some ti111 ∧ goodT Try.prog 61 = true := ⟨by kernel_rfl, by kernel_rfl⟩
theorem tk63 : tiOf Try.prog 63 = some ti113 ∧ goodT Try.prog 63 = true := ⟨by kernel_rfl, by kernel_rfl⟩
theorem tk64 : tiOf Try.prog 64 = some ti28 ∧ goodT Try.prog 64 = true := ⟨by kernel_rfl, by kernel_rfl⟩
theorem tk65 : tiOf Try.prog 65 = some ti29 ∧ goodT Try.prog 65 = true := ⟨by kernel_rfl, by kernel_rfl⟩
theorem tk67 : tiOf Try.prog 67 = some ti31 ∧ goodT Try.prog 67 = true := ⟨by kernel_rfl, by kernel_rfl⟩
theorem tk69 : tiOf Try.prog 69 = some ti74 ∧ goodT Try.prog 69 = true := ⟨by kernel_rfl, by kernel_rfl⟩
theorem tk71 : tiOf Try.prog 71 = some ti1165 ∧ goodT Try.prog 71 = true := ⟨by kernel_rfl, by kernel_rfl⟩
theorem tk72 : tiOf Try.prog 72 = some ti1166 ∧ goodT Try.prog 72 = true := ⟨by kernel_rfl, by kernel_rfl⟩
theorem tk74 : tiOf Try.prog 74 = some ti1168 ∧ goodT Try.prog 74 = true := ⟨by kernel_rfl, by kernel_rfl⟩
theorem tk86 : tiOf Try.prog 86 = some ti78 ∧ goodT Try.prog 86 = true := ⟨by kernel_rfl, by kernel_rfl⟩
theorem tk94 : tiOf Try.prog 94 = some ti134 ∧ goodT Try.prog 94 = true := ⟨by kernel_rfl, by kernel_rfl⟩
theorem tk97 : tiOf Try.prog 97 = some ti109 ∧ goodT Try.prog 97 = true := ⟨by kernel_rfl, by kernel_rfl⟩
theorem tk104 : tiOf Try.prog 104 = some ti1029 ∧ goodT Try.prog 104 = true := ⟨by kernel_rfl, by kernel_rfl⟩
theorem tabOK : TabOK Try.prog tab := tabOf_ok (show TabsOK Try.prog 0 tabL from ⟨tk3, tk4, tk5, tk9, tk22, tk23, tk25, tk26, tk30, tk34, tk45, tk46, tk48, tk51, tk61, tk63, tk64, tk65, tk67, tk69, tk71, tk72, tk74, tk86, tk94, tk97, tk104, trivial⟩)
theorem mixo : Try.prog.follows .mixedOrders = true := by kernel_rfl
noncomputable def i3 : FnI := ⟨Try.f3.body.getD .skip, Try.f3.results.toList, ⟨77, [0, 1, 2, 6, 7, 8, 10, 11, 12, 13, 14, 21, 35], [43, 45, 52, 54], []⟩, true⟩
noncomputable def i4 : FnI := ⟨Try.f4.body.getD .skip, Try.f4.results.toList, ⟨122, [0, 1, 4, 5, 6, 8, 9, 10, 11, 12, 13, 14, 15, 16, 18, 35, 99, 103, 121], [], []⟩, true⟩
noncomputable def i5 : FnI := ⟨Try.f5.body.getD .skip, Try.f5.results.toList, ⟨29, [0, 1], [2, 4, 5, 7], []⟩, false⟩
noncomputable def i6 : FnI := ⟨Try.f6.body.getD .skip, Try.f6.results.toList, ⟨17, [0, 2, 3, 4, 5, 6], [], []⟩, false⟩
noncomputable def i7 : FnI := ⟨Try.f7.body.getD .skip, Try.f7.results.toList, ⟨12, [0, 2, 3], [4], []⟩, false⟩
noncomputable def i8 : FnI := ⟨Try.f8.body.getD .skip, Try.f8.results.toList, ⟨21, [0, 2, 3, 7], [8], []⟩, false⟩
noncomputable def i9 : FnI := ⟨Try.f9.body.getD .skip, Try.f9.results.toList, ⟨14, [0, 1, 4, 5], [7], []⟩, false⟩
noncomputable def i10 : FnI := ⟨Try.f10.body.getD .skip, Try.f10.results.toList, ⟨35, [0, 1, 4, 5, 12], [], []⟩, false⟩
noncomputable def i11 : FnI := ⟨Try.f11.body.getD .skip, Try.f11.results.toList, ⟨56, [0, 1, 4, 5, 10, 14, 55], [], []⟩, false⟩
noncomputable def i12 : FnI := ⟨Try.f12.body.getD .skip, Try.f12.results.toList, ⟨13, [0, 1, 4, 5], [], []⟩, true⟩
noncomputable def i13 : FnI := ⟨Try.f13.body.getD .skip, Try.f13.results.toList, ⟨94, [0, 1, 4, 5, 6, 7, 8, 12, 69], [81], []⟩, true⟩
noncomputable def i14 : FnI := ⟨Try.f14.body.getD .skip, Try.f14.results.toList, ⟨13, [0, 1, 4], [], []⟩, false⟩
noncomputable def i15 : FnI := ⟨Try.f15.body.getD .skip, Try.f15.results.toList, ⟨19, [0, 2, 3, 12], [4, 9, 16], []⟩, true⟩
noncomputable def i16 : FnI := ⟨Try.f16.body.getD .skip, Try.f16.results.toList, ⟨56, [0, 1, 4, 5, 6, 7, 8, 9, 14, 24, 33, 44], [], []⟩, false⟩
noncomputable def i17 : FnI := ⟨Try.f17.body.getD .skip, Try.f17.results.toList, ⟨30, [1, 4, 5, 6, 10], [27], [2000019, 2000025]⟩, true⟩
noncomputable def i18 : FnI := ⟨Try.f18.body.getD .skip, Try.f18.results.toList, ⟨24, [0, 1, 2, 6, 7, 8, 12], [], []⟩, false⟩
noncomputable def i19 : FnI := ⟨Try.f19.body.getD .skip, Try.f19.results.toList, ⟨13, [0, 2], [], []⟩, false⟩
noncomputable def i20 : FnI := ⟨Try.f20.body.getD .skip, Try.f20.results.toList, ⟨26, [0, 1, 4, 5, 10, 14, 25], [], []⟩, false⟩
noncomputable def i21 : FnI := ⟨Try.f21.body.getD .skip, Try.f21.results.toList, ⟨26, [0, 1, 4, 5, 10, 14, 25], [], []⟩, false⟩
noncomputable def i22 : FnI := ⟨Try.f22.body.getD .skip, Try.f22.results.toList, ⟨8, [0, 2, 4], [5], []⟩, false⟩
noncomputable def i23 : FnI := ⟨Try.f23.body.getD .skip, Try.f23.results.toList, ⟨9, [0, 1], [], []⟩, false⟩
noncomputable def i24 : FnI := ⟨Try.f24.body.getD .skip, Try.f24.results.toList, ⟨17, [0, 1, 2, 3, 4], [2, 3, 15], []⟩, false⟩
noncomputable def i25 : FnI := ⟨Try.f25.body.getD .skip, Try.f25.results.toList, ⟨18, [0, 2, 3, 5, 6, 7, 8, 9, 14], [], []⟩, false⟩
noncomputable def i26 : FnI := ⟨Try.f26.body.getD .skip, Try.f26.results.toList, ⟨20, [0, 1, 4, 5, 6, 11, 12, 13, 16, 19], [], []⟩, false⟩
noncomputable def i27 : FnI := ⟨Try.f27.body.getD .skip, Try.f27.results.toList, ⟨11, [0, 1, 2, 6], [1], []⟩, false⟩
noncomputable def i28 : FnI := ⟨Try.f28.body.getD .skip, Try.f28.results.toList, ⟨8, [0, 1, 4], [], []⟩, false⟩
noncomputable def i29 : FnI := ⟨Try.f29.body.getD .skip, Try.f29.results.toList, ⟨12, [0, 1, 4], [], []⟩, false⟩
noncomputable def i30 : FnI := ⟨Try.f30.body.getD .skip, Try.f30.results.toList, ⟨48, [0, 1, 4, 5, 15, 26, 35, 36, 42], [], []⟩, false⟩
noncomputable def i31 : FnI := ⟨Try.f31.body.getD .skip, Try.f31.results.toList, ⟨8, [0, 2], [3], []⟩, false⟩
noncomputable def i32 : FnI := ⟨Try.f32.body.getD .skip, Try.f32.results.toList, ⟨45, [0, 1, 2, 6, 7, 8, 9, 10, 11, 12, 16, 24], [12, 35, 42], []⟩, true⟩
noncomputable def i33 : FnI := ⟨Try.f33.body.getD .skip, Try.f33.results.toList, ⟨34, [0, 1, 3, 4, 5, 6, 19], [3, 28], []⟩, true⟩
noncomputable def i34 : FnI := ⟨Try.f34.body.getD .skip, Try.f34.results.toList, ⟨17, [0, 1, 2, 3, 7, 8], [7, 15], []⟩, false⟩
noncomputable def i35 : FnI := ⟨Try.f35.body.getD .skip, Try.f35.results.toList, ⟨63, [0, 1, 2, 6, 7, 8, 9, 13, 30, 35, 54], [], []⟩, false⟩
noncomputable def i36 : FnI := ⟨Try.f36.body.getD .skip, Try.f36.results.toList, ⟨6, [0, 2], [], []⟩, false⟩
noncomputable def i37 : FnI := ⟨Try.f37.body.getD .skip, Try.f37.results.toList, ⟨36, [0, 1, 4, 5, 6, 7, 8, 9, 10, 11, 12, 19, 28, 35], [], []⟩, false⟩
noncomputable def i38 : FnI := ⟨Try.f38.body.getD .skip, Try.f38.results.toList, ⟨94, [0, 1, 2, 3, 8, 9, 10, 11, 12, 13, 14, 24, 51, 56], [41, 64, 77, 82], []⟩, true⟩
noncomputable def i39 : FnI := ⟨Try.f39.body.getD .skip, Try.f39.results.toList, ⟨43, [0, 1, 2, 3, 4, 5, 16, 27], [2, 3], []⟩, false⟩
noncomputable def i40 : FnI := ⟨Try.f40.body.getD .skip, Try.f40.results.toList, ⟨84, [0, 1, 2, 6, 7, 8, 9, 10, 20, 32, 37, 59, 71], [53, 67, 79], []⟩, true⟩
noncomputable def i41 : FnI := ⟨Try.f41.body.getD .skip, Try.f41.results.toList, ⟨87, [0, 1, 2, 5, 6, 7, 8, 9, 10, 11, 12, 13, 14, 15, 16, 24, 39, 40, 44, 51, 56, 65], [5, 9, 67, 71, 76, 81], []⟩, true⟩
noncomputable def i42 : FnI := ⟨Try.f42.body.getD .skip, Try.f42.results.toList, ⟨53, [0, 1, 2, 3, 8, 9, 14, 34], [], []⟩, false⟩
noncomputable def i43 : FnI := ⟨Try.f43.body.getD .skip, Try.f43.results.toList, ⟨220, [0, 1, 2, 3, 4, 10, 11, 12, 13, 14, 15, 16, 17, 18, 19, 20, 21, 22, 23, 24, 28, 33, 50, 58, 80, 85, 103, 110, 140, 151, 171, 185, 199, 213], [], []⟩, false⟩
noncomputable def i44 : FnI := ⟨Try.f44.body.getD .skip, Try.f44.results.toList, ⟨20, [0, 1, 4, 5, 6, 11, 12, 13, 16, 19], [], []⟩, false⟩
noncomputable def i45 : FnI := ⟨Try.f45.body.getD .skip, Try.f45.results.toList, ⟨24, [0, 2, 3, 4, 10], [14], []⟩, false⟩
noncomputable def i46 : FnI := ⟨Try.f46.body.getD .skip, Try.f46.results.toList, ⟨19, [0, 2, 4, 5, 10], [], []⟩, false⟩
noncomputable def i47 : FnI := ⟨Try.f47.body.getD .skip, Try.f47.results.toList, ⟨8, [0, 2], [3], []⟩, false⟩
noncomputable def i48 : FnI := ⟨Try.f48.body.getD .skip, Try.f48.results.toList, ⟨27, [0, 2, 3, 4, 5, 10, 15], [6, 24], []⟩, true⟩
noncomputable def i49 : FnI := ⟨Try.f49.body.getD .skip, Try.f49.results.toList, ⟨147, [0, 1, 2, 4, 5, 6, 7, 8, 9, 10, 11, 18, 42, 43, 53, 76, 82, 105, 111], [4, 5, 131, 136, 141], []⟩, true⟩
noncomputable def i50 : FnI := ⟨Try.f50.body.getD .skip, Try.f50.results.toList, ⟨29, [0, 1, 3, 4, 5, 6, 7, 12], [3, 26], []⟩, true⟩
noncomputable def i51 : FnI := ⟨Try.f51.body.getD .skip, Try.f51.results.toList, ⟨20, [0, 1, 2, 4, 5, 6, 7, 15], [2], []⟩, false⟩
noncomputable def i52 : FnI := ⟨Try.f52.body.getD .skip, Try.f52.results.toList, ⟨41, [0, 1, 2, 4, 5, 6, 7, 12, 17, 22, 27, 31], [2], []⟩, false⟩
noncomputable def i53 : FnI := ⟨Try.f53.body.getD .skip, Try.f53.results.toList, ⟨58, [0, 1, 2, 3, 4, 10, 11, 20, 23], [], []⟩, false⟩
noncomputable def i54 : FnI := ⟨Try.f54.body.getD .skip, Try.f54.results.toList, ⟨6, [0, 2], [], []⟩, false⟩
noncomputable def i55 : FnI := ⟨Try.f55.body.getD .skip, Try.f55.results.toList, ⟨12, [0, 2, 3], [4], []⟩, false⟩
noncomputable def i56 : FnI := ⟨Try.f56.body.getD .skip, Try.f56.results.toList, ⟨29, [0, 2, 3, 4, 9], [], []⟩, true⟩
noncomputable def i57 : FnI := ⟨Try.f57.body.getD .skip, Try.f57.results.toList, ⟨8, [0, 2, 3], [], []⟩, false⟩
noncomputable def i58 : FnI := ⟨Try.f58.body.getD .skip, Try.f58.results.toList, ⟨29, [0, 2, 3, 4, 8, 21, 23], [15, 24], []⟩, true⟩
noncomputable def i59 : FnI := ⟨Try.f59.body.getD .skip, Try.f59.results.toList, ⟨25, [0, 1, 4, 5, 6, 10, 19], [], []⟩, false⟩
noncomputable def i60 : FnI := ⟨Try.f60.body.getD .skip, Try.f60.results.toList, ⟨38, [0, 1, 2, 3, 10, 13], [], []⟩, false⟩
noncomputable def i61 : FnI := ⟨Try.f61.body.getD .skip, Try.f61.results.toList, ⟨112, [0, 1, 4, 5, 6, 7, 8, 9, 10, 11, 21, 43, 79], [25, 30, 37, 68, 75, 98, 105], []⟩, true⟩
noncomputable def i62 : FnI := ⟨Try.f62.body.getD .skip, Try.f62.results.toList, ⟨53, [0, 2, 3, 4, 5, 6, 15, 25, 29, 36, 49], [], []⟩, false⟩
noncomputable def i63 : FnI := ⟨Try.f63.body.getD .skip, Try.f63.results.toList, ⟨9, [0, 2], [], []⟩, false⟩
noncomputable def fnsL : List (Nat × FnI) := [(3, i3), (4, i4), (5, i5), (6, i6), (7, i7), (8, i8), (9, i9), (10, i10), (11, i11), (12, i12), (13, i13), (14, i14), (15, i15), (16, i16), (17, i17), (18, i18), (19, i19), (20, i20), (21, i21), (22, i22), (23, i23), (24, i24), (25, i25), (26, i26), (27, i27), (28, i28), (29, i29), (30, i30), (31, i31), (32, i32), (33, i33), (34, i34), (35, i35), (36, i36), (37, i37), (38, i38), (39, i39), (40, i40), (41, i41), (42, i42), (43, i43), (44, i44), (45, i45), (46, i46), (47, i47), (48, i48), (49, i49), (50, i50), (51, i51), (52, i52), (53, i53), (54, i54), (55, i55), (56, i56), (57, i57), (58, i58), (59, i59), (60, i60), (61, i61), (62, i62), (63, i63)]
noncomputable def Fs : FuncId → Option FnI := fnOf fnsL
theorem fk3 : FnOK Try.prog 3 i3 := .of Try.func3 (by kernel_rfl) (by kernel_rfl) (by kernel_rfl) Try.call3
theorem fk4 : FnOK Try.prog 4 i4 := .of Try.func4 (by kernel_rfl) (by kernel_rfl) (by kernel_rfl) Try.call4
theorem fk5 : FnOK Try.prog 5 i5 := .of Try.func5 (by kernel_rfl) (by kernel_rfl) (by kernel_rfl) Try.call5
theorem fk6 : FnOK Try.prog 6 i6 := .of Try.func6 (by kernel_rfl) (by kernel_rfl) (by kernel_rfl) Try.call6
theorem fk7 : FnOK Try.prog 7 i7 := .of Try.func7 (by kernel_rfl) (by kernel_rfl) (by kernel_rfl) Try.call7
theorem fk8 : FnOK Try.prog 8 i8 := .of Try.func8 (by kernel_rfl) (by kernel_rfl) (by kernel_rfl) Try.call8
theorem fk9 : FnOK Try.prog 9 i9 := .of Try.func9 (by kernel_rfl) (by kernel_rfl) (by kernel_rfl) Try.call9
theorem fk10 : FnOK Try.prog 10 i10 := .of Try.func10 (by kernel_rfl) (by kernel_rfl) (by kernel_rfl) Try.call10
theorem fk11 : FnOK Try.prog 11 i11 := .of Try.func11 (by kernel_rfl) (by kernel_rfl) (by kernel_rfl) Try.call11
theorem fk12 : FnOK Try.prog 12 i12 := .of Try.func12 (by kernel_rfl) (by kernel_rfl) (by kernel_rfl) Try.call12
theorem fk13 : FnOK Try.prog 13 i13 := .of Try.func13 (by kernel_rfl) (by kernel_rfl) (by kernel_rfl) Try.call13
theorem fk14 : FnOK Try.prog 14 i14 := .of Try.func14 (by kernel_rfl) (by kernel_rfl) (by kernel_rfl) Try.call14
theorem fk15 : FnOK Try.prog 15 i15 := .of Try.func15 (by kernel_rfl) (by kernel_rfl) (by kernel_rfl) Try.call15
theorem fk16 : FnOK Try.prog 16 i16 := .of Try.func16 (by kernel_rfl) (by kernel_rfl) (by kernel_rfl) Try.call16
theorem fk17 : FnOK Try.prog 17 i17 := .of Try.func17 (by kernel_rfl) (by kernel_rfl) (by kernel_rfl) Try.call17
theorem fk18 : FnOK Try.prog 18 i18 := .of Try.func18 (by kernel_rfl) (by kernel_rfl) (by kernel_rfl) Try.call18
theorem fk19 : FnOK Try.prog 19 i19 := .of Try.func19 (by kernel_rfl) (by kernel_rfl) (by kernel_rfl) Try.call19
theorem fk20 : FnOK Try.prog 20 i20 := .of Try.func20 (by kernel_rfl) (by kernel_rfl) (by kernel_rfl) Try.call20
theorem fk21 : FnOK Try.prog 21 i21 := .of Try.func21 (by kernel_rfl) (by kernel_rfl) (by kernel_rfl) Try.call21
theorem fk22 : FnOK Try.prog 22 i22 := .of Try.func22 (by kernel_rfl) (by kernel_rfl) (by kernel_rfl) Try.call22
theorem fk23 : FnOK Try.prog 23 i23 := .of Try.func23 (by kernel_rfl) (by kernel_rfl) (by kernel_rfl) Try.call23
theorem fk24 : FnOK Try.prog 24 i24 := .of Try.func24 (by kernel_rfl) (by kernel_rfl) (by kernel_rfl) Try.call24
theorem fk25 : FnOK Try.prog 25 i25 := .of Try.func25 (by kernel_rfl) (by kernel_rfl) (by kernel_rfl) Try.call25
theorem fk26 : FnOK Try.prog 26 i26 := .of Try.func26 (by kernel_rfl) (by kernel_rfl) (by kernel_rfl) Try.call26
theorem fk27 : FnOK Try.prog 27 i27 := .of Try.func27 (by kernel_rfl) (by kernel_rfl) (by kernel_rfl) Try.call27
theorem fk28 : FnOK Try.prog 28 i28 := .of Try.func28 (by kernel_rfl) (by kernel_rfl) (by kernel_rfl) Try.call28
theorem fk29 : FnOK Try.prog 29 i29 := .of Try.func29 (by kernel_rfl) (by kernel_rfl) (by kernel_rfl) Try.call29
theorem fk30 : FnOK Try.prog 30 i30 := .of Try.func30 (by kernel_rfl) (by kernel_rfl) (by kernel_rfl) Try.call30
theorem fk31 : FnOK Try.prog 31 i31 := .of Try.func31 (by kernel_rfl) (by kernel_rfl) (by kernel_rfl) Try.call31
theorem fk32 : FnOK Try.prog 32 i32 := .of Try.func32 (by kernel_rfl) (by kernel_rfl) (by kernel_rfl) Try.call32
theorem fk33 : FnOK Try.prog 33 i33 := .of Try.func33 (by kernel_rfl) (by kernel_rfl) (by kernel_rfl) Try.call33
theorem fk34 : FnOK Try.prog 34 i34 := .of Try.func34 (by kernel_rfl) (by kernel_rfl) (by kernel_rfl) Try.call34
theorem fk35 : FnOK Try.prog 35 i35 := .of Try.func35 (by kernel_rfl) (by kernel_rfl) (by kernel_rfl) Try.call35
theorem fk36 : FnOK Try.prog 36 i36 := .of Try.func36 (by kernel_rfl) (by kernel_rfl) (by kernel_rfl) Try.call36
theorem fk37 : FnOK Try.prog 37 i37 := .of Try.func37 (by kernel_rfl) (by kernel_rfl) (by kernel_rfl) Try.call37
theorem fk38 : FnOK Try.prog 38 i38 := .of Try.func38 (by kernel_rfl) (by kernel_rfl) (by kernel_rfl) Try.call38
theorem fk39 : FnOK Try.prog 39 i39 := .of Try.func39 (by kernel_rfl) (by kernel_rfl) (by kernel_rfl) Try.call39
theorem fk40 : FnOK Try.prog 40 i40 := .of Try.func40 (by kernel_rfl) (by kernel_rfl) (by kernel_rfl) Try.call40
theorem fk41 : FnOK Try.prog 41 i41 := .of Try.func41 (by kernel_rfl) (by kernel_rfl) (by kernel_rfl) Try.call41
theorem fk42 : FnOK Try.prog 42 i42 := .of Try.func42 (by kernel_rfl) (by kernel_rfl) (by kernel_rfl) Try.call42
theorem fk43 : FnOK Try.prog 43 i43 := .of Try.func43 (by kernel_rfl) (by kernel_rfl) (by kernel_rfl) Try.call43
theorem fk44 : FnOK Try.prog 44 i44 := .of Try.func44 (by kernel_rfl) (by kernel_rfl) (by kernel_rfl) Try.call44
theorem fk45 : FnOK Try.prog 45 i45 := .of Try.func45 (by kernel_rfl) (by kernel_rfl) (by kernel_rfl) Try.call45
theorem fk46 : FnOK Try.prog 46 i46 := .of Try.func46 (by kernel_rfl) (by kernel_rfl) (by kernel_rfl) Try.call46
theorem fk47 : FnOK Try.prog 47 i47 := .of Try.func47 (by kernel_rfl) (by kernel_rfl) (by kernel_rfl) Try.call47
theorem fk48 : FnOK Try.prog 48 i48 := .of Try.func48 (by kernel_rfl) (by kernel_rfl) (by kernel_rfl) Try.call48
theorem fk49 : FnOK Try.prog 49 i49 := .of Try.func49 (by kernel_rfl) (by kernel_rfl) (by kernel_rfl) Try.call49
theorem fk50 : FnOK Try.prog 50 i50 := .of Try.func50 (by kernel_rfl) (by kernel_rfl) (by kernel_rfl) Try.call50
theorem fk51 : FnOK Try.prog 51 i51 := .of Try.func51 (by kernel_rfl) (by kernel_rfl) (by kernel_rfl) Try.call51
theorem fk52 : FnOK Try.prog 52 i52 := .of Try.func52 (by kernel_rfl) (by kernel_rfl) (by kernel_rfl) Try.call52
theorem fk53 : FnOK Try.prog 53 i53 := .of Try.func53 (by kernel_rfl) (by kernel_rfl) (by kernel_rfl) Try.call53
theorem fk54 : FnOK Try.prog 54 i54 := .of Try.func54 (by kernel_rfl) (by kernel_rfl) (by kernel_rfl) Try.call54
theorem fk55 : FnOK Try.prog 55 i55 := .of Try.func55 (by kernel_rfl) (by kernel_rfl) (by kernel_rfl) Try.call55
theorem fk56 : FnOK Try.prog 56 i56 := .of Try.func56 (by kernel_rfl) (by kernel_rfl) (by kernel_rfl) Try.call56
theorem fk57 : FnOK Try.prog 57 i57 := .of Try.func57 (by kernel_rfl) (by kernel_rfl) (by kernel_rfl) Try.call57
theorem fk58 : FnOK Try.prog 58 i58 := .of Try.func58 (by kernel_rfl) (by kernel_rfl) (by kernel_rfl) Try.call58
theorem fk59 : FnOK Try.prog 59 i59 := .of Try.func59 (by kernel_rfl) (by kernel_rfl) (by kernel_rfl) Try.call59
theorem fk60 : FnOK Try.prog 60 i60 := .of Try.func60 (by kernel_rfl) (by kernel_rfl) (by kernel_rfl) Try.call60
theorem fk61 : FnOK Try.prog 61 i61 := .of Try.func61 (by kernel_rfl) (by kernel_rfl) (by kernel_rfl) Try.call61
theorem fk62 : FnOK Try.prog 62 i62 := .of Try.func62 (by kernel_rfl) (by kernel_rfl) (by kernel_rfl) Try.call62
theorem fk63 : FnOK Try.prog 63 i63 := .of Try.func63 (by kernel_rfl) (by kernel_rfl) (by kernel_rfl) Try.call63
theorem fnsOK : FnsOK Try.prog fnsL := ⟨fk3, fk4, fk5, fk6, fk7, fk8, fk9, fk10, fk11, fk12, fk13, fk14, fk15, fk16, fk17, fk18, fk19, fk20, fk21, fk22, fk23, fk24, fk25, fk26, fk27, fk28, fk29, fk30, fk31, fk32, fk33, fk34, fk35, fk36, fk37, fk38, fk39, fk40, fk41, fk42, fk43, fk44, fk45, fk46, fk47, fk48, fk49, fk50, fk51, fk52, fk53, fk54, fk55, fk56, fk57, fk58, fk59, fk60, fk61, fk62, fk63, trivial⟩
noncomputable def gl : Nat → Option D := fun _ => none
noncomputable def xt : CallF := fun _ _ _ => none
theorem xtOK (X : Cx) : CallOK Try.prog X xt := fun f args h d h' hd => by cases hd
noncomputable def X : Cx := ⟨tab, gl, xt⟩
noncomputable def R : CallF := run X Fs
theorem R_ok : CallOK Try.prog X R := run_ok (X := X) tabOK mixo (xtOK X) (fns_ok fnsL fnsOK)
end Go.Proofs.Yteglojieneaojaa
