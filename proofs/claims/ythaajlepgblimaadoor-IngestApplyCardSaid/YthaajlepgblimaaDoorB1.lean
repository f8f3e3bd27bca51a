/- The tables of this seat: its types, and how its functions are carried out on data. -/
import Derived.Test.YthaajlepgblimaaDoorIW
import Derived.Test.YthaajlepgblimaaDoorChecked
import Derived.KernelRfl
set_option linter.unusedSimpArgs false
set_option linter.unusedVariables false
set_option linter.unnecessarySimpa false
namespace Go.Proofs.YthaajlepgblimaaDoor
open Go.Eng Go.Pi
abbrev ty3 : Nat := 3
abbrev ty5 : Nat := 5
abbrev ty9 : Nat := 9
abbrev ty113 : Nat := 22
abbrev ty1064 : Nat := 24
abbrev ty22 : Nat := 25
abbrev ty1059 : Nat := 30
abbrev ty49 : Nat := 33
abbrev ty28 : Nat := 35
abbrev ty29 : Nat := 36
abbrev ty31 : Nat := 38
abbrev ty74 : Nat := 40
abbrev ty98 : Nat := 42
abbrev ty1007 : Nat := 45
abbrev ty58 : Nat := 46
abbrev ty1009 : Nat := 48
abbrev ty40 : Nat := 49
abbrev ty1006 : Nat := 57
abbrev ty101 : Nat := 59
abbrev ty111 : Nat := 60
abbrev ty82 : Nat := 62
abbrev ty78 : Nat := 67
abbrev ty106 : Nat := 73
abbrev ty1073 : Nat := 75
abbrev ty109 : Nat := 92
abbrev ty134 : Nat := 112
abbrev ty1044 : Nat := 126
abbrev fn1207 : Nat := 4
abbrev fn1001 : Nat := 5
abbrev fn1208 : Nat := 6
abbrev fn44 : Nat := 7
abbrev fn1088 : Nat := 8
abbrev fn24 : Nat := 9
abbrev fn1094 : Nat := 10
abbrev fn1113 : Nat := 11
abbrev fn84 : Nat := 12
abbrev fn1089 : Nat := 14
abbrev fn1209 : Nat := 15
abbrev fn1090 : Nat := 16
abbrev fn29 : Nat := 17
abbrev fn1005 : Nat := 18
abbrev fn71 : Nat := 19
abbrev fn1093 : Nat := 20
abbrev fn57 : Nat := 21
abbrev fn1042 : Nat := 22
abbrev fn1004 : Nat := 23
abbrev fn96 : Nat := 24
abbrev fn35 : Nat := 25
abbrev fn97 : Nat := 26
abbrev fn98 : Nat := 27
abbrev fn1095 : Nat := 28
abbrev fn79 : Nat := 29
abbrev fn1096 : Nat := 30
abbrev fn1077 : Nat := 31
abbrev fn60 : Nat := 32
abbrev fn1003 : Nat := 33
abbrev fn1210 : Nat := 34
abbrev fn1092 : Nat := 35
abbrev fn30 : Nat := 36
abbrev fn61 : Nat := 37
abbrev fn1013 : Nat := 38
abbrev fn1043 : Nat := 39
abbrev fn1047 : Nat := 40
abbrev fn1048 : Nat := 41
abbrev fn1049 : Nat := 42
abbrev fn1050 : Nat := 43
abbrev fn1010 : Nat := 44
abbrev fn1011 : Nat := 45
abbrev fn1012 : Nat := 46
abbrev fn102 : Nat := 47
abbrev fn33 : Nat := 48
abbrev fn1097 : Nat := 49
abbrev fn1002 : Nat := 50
abbrev fn1008 : Nat := 52
abbrev fn1009 : Nat := 53
abbrev fn1084 : Nat := 54
abbrev fn82 : Nat := 55
abbrev fn1016 : Nat := 56
abbrev fn1017 : Nat := 57
abbrev fn89 : Nat := 58
abbrev fn90 : Nat := 59
abbrev fn1051 : Nat := 60
abbrev fn1052 : Nat := 61
abbrev fn1053 : Nat := 62
abbrev fn1054 : Nat := 63
abbrev fn1055 : Nat := 64
abbrev fn1006 : Nat := 65
abbrev fn1014 : Nat := 66
abbrev fn1015 : Nat := 67
abbrev fn95 : Nat := 68
abbrev fn59 : Nat := 69
abbrev fn1007 : Nat := 70
abbrev fn94 : Nat := 73
abbrev fn99 : Nat := 74
abbrev fn1056 : Nat := 75
abbrev fn1057 : Nat := 76
abbrev fn1058 : Nat := 77
abbrev fn1059 : Nat := 78
abbrev fn1060 : Nat := 79
abbrev fn1018 : Nat := 80
abbrev fn80 : Nat := 81
abbrev fn1061 : Nat := 84
abbrev fn1062 : Nat := 85
abbrev fn1063 : Nat := 86
abbrev fn1064 : Nat := 87
abbrev fn1019 : Nat := 88
abbrev fn1020 : Nat := 89
abbrev fn87 : Nat := 90
abbrev fn88 : Nat := 91
abbrev fn91 : Nat := 92
abbrev fn1065 : Nat := 96
abbrev fn1066 : Nat := 97
abbrev fn1021 : Nat := 99
abbrev fn100 : Nat := 100
abbrev fn1068 : Nat := 102
abbrev fn1069 : Nat := 104
noncomputable def ti3 : TI := ⟨.int .i64, 1, 8, [.int .i64 0], []⟩
noncomputable def ti5 : TI := ⟨.int .u8, 1, 1, [.int .u8 0], []⟩
noncomputable def ti9 : TI := ⟨.str, 1, 16, [.str []], []⟩
noncomputable def ti113 : TI := ⟨.sl 40, 1, 24, [.nils], []⟩
noncomputable def ti1064 : TI := ⟨.st [(3, 0, 1), (3, 1, 1), (22, 2, 1)], 3, 40, [.int .i64 0, .int .i64 0, .nils], []⟩
noncomputable def ti22 : TI := ⟨.sl 5, 1, 24, [.nils], []⟩
noncomputable def ti1059 : TI := ⟨.sl 24, 1, 24, [.nils], []⟩
noncomputable def ti49 : TI := ⟨.int .i64, 1, 8, [.int .i64 0], []⟩
noncomputable def ti28 : TI := ⟨.sl 67, 1, 24, [.nils], []⟩
noncomputable def ti29 : TI := ⟨.sl 92, 1, 24, [.nils], []⟩
noncomputable def ti31 : TI := ⟨.st [(3, 0, 1), (3, 1, 1), (3, 2, 1), (3, 3, 1), (35, 4, 1), (3, 5, 1), (3, 6, 1), (9, 7, 1), (9, 8, 1), (36, 9, 1)], 10, 128, [.int .i64 0, .int .i64 0, .int .i64 0, .int .i64 0, .nils, .int .i64 0, .int .i64 0, .str [], .str [], .nils], []⟩
noncomputable def ti74 : TI := ⟨.st [(9, 0, 1), (38, 1, 10)], 11, 144, [.str [], .int .i64 0, .int .i64 0, .int .i64 0, .int .i64 0, .nils, .int .i64 0, .int .i64 0, .str [], .str [], .nils], []⟩
noncomputable def ti98 : TI := ⟨.sl 9, 1, 24, [.nils], []⟩
noncomputable def ti1007 : TI := ⟨.sl 57, 1, 24, [.nils], []⟩
noncomputable def ti58 : TI := ⟨.sl 73, 1, 24, [.nils], []⟩
noncomputable def ti1009 : TI := ⟨.st [(45, 0, 1), (46, 1, 1)], 2, 48, [.nils, .nils], []⟩
noncomputable def ti40 : TI := ⟨.sl 38, 1, 24, [.nils], []⟩
noncomputable def ti1006 : TI := ⟨.st [(3, 0, 1), (3, 1, 1), (3, 2, 1)], 3, 24, [.int .i64 0, .int .i64 0, .int .i64 0], []⟩
noncomputable def ti101 : TI := ⟨.st [(25, 0, 1), (3, 1, 1)], 2, 32, [.nils, .int .i64 0], []⟩
noncomputable def ti111 : TI := ⟨.sl 22, 1, 24, [.nils], []⟩
noncomputable def ti82 : TI := ⟨.sl 3, 1, 24, [.nils], []⟩
noncomputable def ti78 : TI := ⟨.st [(3, 0, 1), (3, 1, 1), (9, 2, 1)], 3, 32, [.int .i64 0, .int .i64 0, .str []], []⟩
noncomputable def ti106 : TI := ⟨.st [(3, 0, 1), (9, 1, 1), (3, 2, 1)], 3, 32, [.int .i64 0, .str [], .int .i64 0], []⟩
noncomputable def ti1073 : TI := ⟨.st [(48, 0, 2), (49, 2, 1)], 3, 72, [.nils, .nils, .nils], []⟩
noncomputable def ti109 : TI := ⟨.st [(9, 0, 1), (9, 1, 1)], 2, 32, [.str [], .str []], []⟩
noncomputable def ti134 : TI := ⟨.int .u64, 1, 8, [.int .u64 0], []⟩
noncomputable def ti1044 : TI := ⟨.arr 256 5, 256, 256, [.int .u8 0, .int .u8 0, .int .u8 0, .int .u8 0, .int .u8 0, .int .u8 0, .int .u8 0, .int .u8 0, .int .u8 0, .int .u8 0, .int .u8 0, .int .u8 0, .int .u8 0, .int .u8 0, .int .u8 0, .int .u8 0, .int .u8 0, .int .u8 0, .int .u8 0, .int .u8 0, .int .u8 0, .int .u8 0, .int .u8 0, .int .u8 0, .int .u8 0, .int .u8 0, .int .u8 0, .int .u8 0, .int .u8 0, .int .u8 0, .int .u8 0, .int .u8 0, .int .u8 0, .int .u8 0, .int .u8 0, .int .u8 0, .int .u8 0, .int .u8 0, .int .u8 0, .int .u8 0, .int .u8 0, .int .u8 0, .int .u8 0, .int .u8 0, .int .u8 0, .int .u8 0, .int .u8 0, .int .u8 0, .int .u8 0, .int .u8 0, .int .u8 0, .int .u8 0, .int .u8 0, .int .u8 0, .int .u8 0, .int .u8 0, .int .u8 0, .int .u8 0, .int .u8 0, .int .u8 0, .int .u8 0, .int .u8 0, .int .u8 0, .int .u8 0, .int .u8 0, .int .u8 0, .int .u8 0, .int .u8 0, .int .u8 0, .int .u8 0, .int .u8 0, .int .u8 0, .int .u8 0, .int .u8 0, .int .u8 0, .int .u8 0, .int .u8 0, .int .u8 0, .int .u8 0, .int .u8 0, .int .u8 0, .int .u8 0, .int .u8 0, .int .u8 0, .int .u8 0, .int .u8 0, .int .u8 0, .int .u8 0, .int .u8 0, .int .u8 0, .int .u8 0, .int .u8 0, .int .u8 0, .int .u8 0, .int .u8 0, .int .u8 0, .int .u8 0, .int .u8 0, .int .u8 0, .int .u8 0, .int .u8 0, .int .u8 0, .int .u8 0, .int .u8 0, .int .u8 0, .int .u8 0, .int .u8 0, .int .u8 0, .int .u8 0, .int .u8 0, .int .u8 0, .int .u8 0, .int .u8 0, .int .u8 0, .int .u8 0, .int .u8 0, .int .u8 0, .int .u8 0, .int .u8 0, .int .u8 0, .int .u8 0, .int .u8 0, .int .u8 0, .int .u8 0, .int .u8 0, .int .u8 0, .int .u8 0, .int .u8 0, .int .u8 0, .int .u8 0, .int .u8 0, .int .u8 0, .int .u8 0, .int .u8 0, .int .u8 0, .int .u8 0, .int .u8 0, .int .u8 0, .int .u8 0, .int .u8 0, .int .u8 0, .int .u8 0, .int .u8 0, .int .u8 0, .int .u8 0, .int .u8 0, .int .u8 0, .int .u8 0, .int .u8 0, .int .u8 0, .int .u8 0, .int .u8 0, .int .u8 0, .int .u8 0, .int .u8 0, .int .u8 0, .int .u8 0, .int .u8 0, .int .u8 0, .int .u8 0, .int .u8 0, .int .u8 0, .int .u8 0, .int .u8 0, .int .u8 0, .int .u8 0, .int .u8 0, .int .u8 0, .int .u8 0, .int .u8 0, .int .u8 0, .int .u8 0, .int .u8 0, .int .u8 0, .int .u8 0, .int .u8 0, .int .u8 0, .int .u8 0, .int .u8 0, .int .u8 0, .int .u8 0, .int .u8 0, .int .u8 0, .int .u8 0, .int .u8 0, .int .u8 0, .int .u8 0, .int .u8 0, .int .u8 0, .int .u8 0, .int .u8 0, .int .u8 0, .int .u8 0, .int .u8 0, .int .u8 0, .int .u8 0, .int .u8 0, .int .u8 0, .int .u8 0, .int .u8 0, .int .u8 0, .int .u8 0, .int .u8 0, .int .u8 0, .int .u8 0, .int .u8 0, .int .u8 0, .int .u8 0, .int .u8 0, .int .u8 0, .int .u8 0, .int .u8 0, .int .u8 0, .int .u8 0, .int .u8 0, .int .u8 0, .int .u8 0, .int .u8 0, .int .u8 0, .int .u8 0, .int .u8 0, .int .u8 0, .int .u8 0, .int .u8 0, .int .u8 0, .int .u8 0, .int .u8 0, .int .u8 0, .int .u8 0, .int .u8 0, .int .u8 0, .int .u8 0, .int .u8 0, .int .u8 0, .int .u8 0, .int .u8 0, .int .u8 0, .int .u8 0, .int .u8 0, .int .u8 0, .int .u8 0, .int .u8 0, .int .u8 0, .int .u8 0, .int .u8 0, .int .u8 0, .int .u8 0, .int .u8 0, .int .u8 0, .int .u8 0, .int .u8 0, .int .u8 0, .int .u8 0, .int .u8 0, .int .u8 0, .int .u8 0], []⟩
noncomputable def tabL : List (Option TI) := [none, none, none, some ti3, none, some ti5, none, none, none, some ti9, none, none, none, none, none, none, none, none, none, none, none, none, some ti113, none, some ti1064, some ti22, none, none, none, none, some ti1059, none, none, some ti49, none, some ti28, some ti29, none, some ti31, none, some ti74, none, some ti98, none, none, some ti1007, some ti58, none, some ti1009, some ti40, none, none, none, none, none, none, none, some ti1006, none, some ti101, some ti111, none, some ti82, none, none, none, none, some ti78, none, none, none, none, none, some ti106, none, some ti1073, none, none, none, none, none, none, none, none, none, none, none, none, none, none, none, none, some ti109, none, none, none, none, none, none, none, none, none, none, none, none, none, none, none, none, none, none, none, some ti134, none, none, none, none, none, none, none, none, none, none, none, none, none, some ti1044]
noncomputable def tab : Tab := tabOf tabL
theorem tk3 : tiOf Tryd.prog 3 = some ti3 ∧ goodT Tryd.prog 3 = true := ⟨by kernel_rfl, by kernel_rfl⟩
theorem tk5 : tiOf Tryd.prog 5 = some ti5 ∧ goodT Tryd.prog 5 = true := ⟨by kernel_rfl, by kernel_rfl⟩
theorem tk9 : tiOf Tryd.prog 9 = some ti9 ∧ goodT Tryd.prog 9 = true := ⟨by kernel_rfl, by kernel_rfl⟩
theorem tk22 : tiOf Tryd.prog 22 = some ti113 ∧ goodT Tryd.prog 22 = true := ⟨by kernel_rfl, by kernel_rfl⟩
theorem tk24 : tiOf Tryd.prog 24 = some ti1064 ∧ goodT Tryd.prog 24 = true := ⟨by kernel_rfl, by kernel_rfl⟩
theorem tk25 : tiOf Tryd.prog 25 = some ti22 ∧ goodT Tryd.prog 25 = true := ⟨by kernel_rfl, by kernel_rfl⟩
theorem tk30 : tiOf Tryd.prog 30 = some ti1059 ∧ goodT Tryd.prog 30 = true := ⟨by kernel_rfl, by kernel_rfl⟩
theorem tk33 : tiOf Tryd.prog 33 = some ti49 ∧ goodT Tryd.prog 33 = true := ⟨by kernel_rfl, by kernel_rfl⟩
theorem tk35 : tiOf Tryd.prog 35 = some ti28 ∧ goodT Tryd.prog 35 = true := ⟨by kernel_rfl, by kernel_rfl⟩
theorem tk36 : tiOf Tryd.prog 36 = some ti29 ∧ goodT Tryd.prog 36 = true := ⟨by kernel_rfl, by kernel_rfl⟩
theorem tk38 : tiOf Tryd.prog 38 = some ti31 ∧ goodT Tryd.prog 38 = true := ⟨by kernel_rfl, by kernel_rfl⟩
theorem tk40 : tiOf Tryd.prog 40 = some ti74 ∧ goodT Tryd.prog 40 = true := ⟨by kernel_rfl, by kernel_rfl⟩
theorem tk42 : tiOf Tryd.prog 42 = some ti98 ∧ goodT Tryd.prog 42 = true := ⟨by kernel_rfl, by kernel_rfl⟩
theorem tk45 : tiOf Tryd.prog 45 = some ti1007 ∧ goodT Tryd.prog 45 = true := ⟨by kernel_rfl, by kernel_rfl⟩
theorem tk46 : tiOf Tryd.prog 46 = some ti58 ∧ goodT Tryd.prog 46 = true := ⟨by kernel_rfl, by kernel_rfl⟩
theorem tk48 : tiOf Tryd.prog 48 = some ti1009 ∧ goodT Tryd.prog 48 = true := ⟨by kernel_rfl, by kernel_rfl⟩
theorem tk49 : tiOf Tryd.prog 49 = some ti40 ∧ goodT Tryd.prog 49 = true := ⟨by kernel_rfl, by kernel_rfl⟩
theorem tk57 : tiOf Tryd.prog 57 = some ti1006 ∧ goodT Tryd.prog 57 = true := ⟨by kernel_rfl, by kernel_rfl⟩
theorem tk59 : tiOf Tryd.prog 59 = some ti101 ∧ goodT Tryd.prog 59 = true := ⟨by kernel_rfl, by kernel_rfl⟩
theorem tk60 : tiOf Tryd.prog 60 = some ti111 ∧ goodT Tryd.prog 60 = true := ⟨by kernel_rfl, by kernel_rfl⟩
theorem tk62 : tiOf Tryd.prog 62 = some ti82 ∧ goodT Tryd.prog 62 = true := ⟨by kernel_rfl, by kernel_rfl⟩
theorem tk67 : tiOf Tryd.prog 67 = some ti78 ∧ goodT Tryd.prog 67 = true := ⟨by kernel_rfl, by kernel_rfl⟩
theorem tk73 : tiOf Tryd.prog 73 = some ti106 ∧ goodT Tryd.prog 73 = true := ⟨by kernel_rfl, by kernel_rfl⟩
theorem tk75 : tiOf Tryd.prog 75 = some ti1073 ∧ goodT Tryd.prog 75 = true := ⟨by kernel_rfl, by kernel_rfl⟩
theorem tk92 : tiOf Tryd.prog 92 = some ti109 ∧ goodT Tryd.prog 92 = true := ⟨by kernel_rfl, by kernel_rfl⟩
theorem tk112 : tiOf Tryd.prog 112 = some ti134 ∧ goodT Tryd.prog 112 = true := ⟨by kernel_rfl, by kernel_rfl⟩
theorem tk126 : tiOf Tryd.prog 126 = some ti1044 ∧ goodT Tryd.prog 126 = true := ⟨by kernel_rfl, by kernel_rfl⟩
theorem tabOK : TabOK Tryd.prog tab := tabOf_ok (show TabsOK Tryd.prog 0 tabL from ⟨tk3, tk5, tk9, tk22, tk24, tk25, tk30, tk33, tk35, tk36, tk38, tk40, tk42, tk45, tk46, tk48, tk49, tk57, tk59, tk60, tk62, tk67, tk73, tk75, tk92, tk112, tk126, trivial⟩)
theorem mixo : Tryd.prog.follows .mixedOrders = true := by kernel_rfl
noncomputable def i4 : FnI := ⟨Tryd.f4.body.getD .skip, Tryd.f4.results.toList, ⟨78, [0, 1, 3, 4, 5, 6, 7, 8, 9, 10, 11, 12, 13, 14, 15, 22, 38, 75], [3, 33, 1000010, 1000013], [3030034]⟩, true⟩
noncomputable def i5 : FnI := ⟨Tryd.f5.body.getD .skip, Tryd.f5.results.toList, ⟨6, [0], [2], []⟩, false⟩
noncomputable def i6 : FnI := ⟨Tryd.f6.body.getD .skip, Tryd.f6.results.toList, ⟨40, [0, 1, 2, 3, 4, 16], [1], []⟩, false⟩
noncomputable def i7 : FnI := ⟨Tryd.f7.body.getD .skip, Tryd.f7.results.toList, ⟨13, [0, 1, 4], [], []⟩, false⟩
noncomputable def i8 : FnI := ⟨Tryd.f8.body.getD .skip, Tryd.f8.results.toList, ⟨146, [0, 1, 2, 6, 7, 8, 9, 10, 11, 12, 13, 14, 23, 33, 49, 61, 62, 68, 82, 116, 134], [105, 111, 125, 143], []⟩, false⟩
noncomputable def i9 : FnI := ⟨Tryd.f9.body.getD .skip, Tryd.f9.results.toList, ⟨35, [0, 1, 4, 5, 12], [], []⟩, false⟩
noncomputable def i10 : FnI := ⟨Tryd.f10.body.getD .skip, Tryd.f10.results.toList, ⟨35, [0, 1, 2, 4, 5, 9, 11, 12, 13, 14, 19, 23, 30], [1, 4], []⟩, false⟩
noncomputable def i11 : FnI := ⟨Tryd.f11.body.getD .skip, Tryd.f11.results.toList, ⟨36, [0, 1, 2, 3, 4, 5, 9, 14, 25, 32, 35], [1, 4], []⟩, false⟩
noncomputable def i12 : FnI := ⟨Tryd.f12.body.getD .skip, Tryd.f12.results.toList, ⟨94, [0, 1, 2, 3, 8, 9, 10, 11, 12, 13, 14, 24, 51, 56], [41, 64, 77, 82], []⟩, true⟩
noncomputable def i14 : FnI := ⟨Tryd.f14.body.getD .skip, Tryd.f14.results.toList, ⟨47, [0, 1, 2, 3, 4, 5, 6, 7, 8, 10, 14, 27, 28, 29, 30, 36], [2, 3, 10], []⟩, true⟩
noncomputable def i15 : FnI := ⟨Tryd.f15.body.getD .skip, Tryd.f15.results.toList, ⟨128, [0, 1, 2, 3, 4, 5, 6, 7, 8, 9, 10, 11, 12, 13, 14, 15, 19, 27, 51, 63, 71, 90, 120], [2, 3, 14, 124], []⟩, true⟩
noncomputable def i16 : FnI := ⟨Tryd.f16.body.getD .skip, Tryd.f16.results.toList, ⟨17, [0, 1, 2, 3, 4], [2, 3], []⟩, false⟩
noncomputable def i17 : FnI := ⟨Tryd.f17.body.getD .skip, Tryd.f17.results.toList, ⟨27, [0, 1, 4, 5, 10, 14, 26], [], []⟩, false⟩
noncomputable def i18 : FnI := ⟨Tryd.f18.body.getD .skip, Tryd.f18.results.toList, ⟨24, [0, 1, 2, 3, 6, 7, 8, 17], [3], []⟩, false⟩
noncomputable def i19 : FnI := ⟨Tryd.f19.body.getD .skip, Tryd.f19.results.toList, ⟨45, [0, 1, 2, 6, 7, 8, 9, 10, 11, 12, 16, 24], [12, 35, 42], []⟩, true⟩
noncomputable def i20 : FnI := ⟨Tryd.f20.body.getD .skip, Tryd.f20.results.toList, ⟨49, [0, 1, 2, 3, 4, 5, 6, 7, 27, 32], [2, 3, 44], []⟩, true⟩
noncomputable def i21 : FnI := ⟨Tryd.f21.body.getD .skip, Tryd.f21.results.toList, ⟨13, [0, 2], [], []⟩, false⟩
noncomputable def i22 : FnI := ⟨Tryd.f22.body.getD .skip, Tryd.f22.results.toList, ⟨64, [0, 1, 2, 3, 4, 7, 13, 18, 33, 63], [1, 3], []⟩, false⟩
noncomputable def i23 : FnI := ⟨Tryd.f23.body.getD .skip, Tryd.f23.results.toList, ⟨71, [0, 1, 2, 3, 4, 5, 6, 9, 16, 22, 31, 56, 61, 70], [1, 3], []⟩, false⟩
noncomputable def i24 : FnI := ⟨Tryd.f24.body.getD .skip, Tryd.f24.results.toList, ⟨24, [0, 2, 3, 4, 10], [14], []⟩, false⟩
noncomputable def i25 : FnI := ⟨Tryd.f25.body.getD .skip, Tryd.f25.results.toList, ⟨19, [0, 2, 4, 5, 10], [], []⟩, false⟩
noncomputable def i26 : FnI := ⟨Tryd.f26.body.getD .skip, Tryd.f26.results.toList, ⟨8, [0, 2], [3], []⟩, false⟩
noncomputable def i27 : FnI := ⟨Tryd.f27.body.getD .skip, Tryd.f27.results.toList, ⟨27, [0, 2, 3, 4, 5, 10, 15], [6, 24], []⟩, true⟩
noncomputable def i28 : FnI := ⟨Tryd.f28.body.getD .skip, Tryd.f28.results.toList, ⟨8, [0, 2, 4], [5], []⟩, false⟩
noncomputable def i29 : FnI := ⟨Tryd.f29.body.getD .skip, Tryd.f29.results.toList, ⟨8, [0, 2, 4], [5], []⟩, false⟩
noncomputable def i30 : FnI := ⟨Tryd.f30.body.getD .skip, Tryd.f30.results.toList, ⟨142, [0, 1, 3, 4, 5, 6, 7, 8, 9, 10, 11, 12, 13, 14, 35, 43, 49, 62, 85, 121], [10, 96, 138], []⟩, false⟩
noncomputable def i31 : FnI := ⟨Tryd.f31.body.getD .skip, Tryd.f31.results.toList, ⟨24, [0, 1, 2, 3, 6, 7, 8, 17], [3], []⟩, false⟩
noncomputable def i32 : FnI := ⟨Tryd.f32.body.getD .skip, Tryd.f32.results.toList, ⟨96, [0, 1, 2, 3, 8, 9, 10, 12, 44, 70], [89], []⟩, true⟩
noncomputable def i33 : FnI := ⟨Tryd.f33.body.getD .skip, Tryd.f33.results.toList, ⟨35, [0, 1, 2, 4, 5, 6, 7, 14, 23], [], []⟩, true⟩
noncomputable def i34 : FnI := ⟨Tryd.f34.body.getD .skip, Tryd.f34.results.toList, ⟨33, [0, 1, 3, 4, 5, 6, 7, 25], [3, 23], []⟩, true⟩
noncomputable def i35 : FnI := ⟨Tryd.f35.body.getD .skip, Tryd.f35.results.toList, ⟨26, [0, 1, 4, 5, 10, 14, 25], [], []⟩, false⟩
noncomputable def i36 : FnI := ⟨Tryd.f36.body.getD .skip, Tryd.f36.results.toList, ⟨26, [0, 1, 4, 5, 10, 14, 25], [], []⟩, false⟩
noncomputable def i37 : FnI := ⟨Tryd.f37.body.getD .skip, Tryd.f37.results.toList, ⟨10, [0, 1, 2, 3, 4], [2, 3], []⟩, false⟩
noncomputable def i38 : FnI := ⟨Tryd.f38.body.getD .skip, Tryd.f38.results.toList, ⟨15, [0, 1, 2, 6, 7], [], []⟩, false⟩
noncomputable def i39 : FnI := ⟨Tryd.f39.body.getD .skip, Tryd.f39.results.toList, ⟨57, [0, 1, 2, 3, 4, 5, 6, 16, 29, 40, 48, 54, 56], [1], []⟩, true⟩
noncomputable def i40 : FnI := ⟨Tryd.f40.body.getD .skip, Tryd.f40.results.toList, ⟨28, [0, 1, 2], [1], []⟩, false⟩
noncomputable def i41 : FnI := ⟨Tryd.f41.body.getD .skip, Tryd.f41.results.toList, ⟨75, [0, 1, 2, 4, 5, 6, 7, 8, 9, 14, 22, 23, 24, 25, 64, 69], [2], []⟩, true⟩
noncomputable def i42 : FnI := ⟨Tryd.f42.body.getD .skip, Tryd.f42.results.toList, ⟨9, [0, 1, 4], [], []⟩, false⟩
noncomputable def i43 : FnI := ⟨Tryd.f43.body.getD .skip, Tryd.f43.results.toList, ⟨6, [0, 1, 2], [1], []⟩, false⟩
noncomputable def i44 : FnI := ⟨Tryd.f44.body.getD .skip, Tryd.f44.results.toList, ⟨68, [0, 1, 2, 3, 4, 5, 6, 7, 21, 25, 29, 40, 48, 54, 58, 67], [1], []⟩, false⟩
noncomputable def i45 : FnI := ⟨Tryd.f45.body.getD .skip, Tryd.f45.results.toList, ⟨38, [0, 1, 2, 37], [1], []⟩, false⟩
noncomputable def i46 : FnI := ⟨Tryd.f46.body.getD .skip, Tryd.f46.results.toList, ⟨74, [0, 1, 2, 4, 5, 6, 7, 11, 15, 22, 64, 69], [2, 7], []⟩, false⟩
noncomputable def i47 : FnI := ⟨Tryd.f47.body.getD .skip, Tryd.f47.results.toList, ⟨12, [0, 2, 3], [4], []⟩, false⟩
noncomputable def i48 : FnI := ⟨Tryd.f48.body.getD .skip, Tryd.f48.results.toList, ⟨12, [0, 2, 3], [4], []⟩, false⟩
noncomputable def i49 : FnI := ⟨Tryd.f49.body.getD .skip, Tryd.f49.results.toList, ⟨21, [0, 1, 2, 3], [], []⟩, false⟩
noncomputable def i50 : FnI := ⟨Tryd.f50.body.getD .skip, Tryd.f50.results.toList, ⟨33, [0, 1, 2, 3, 4, 5, 6, 7, 15], [3], []⟩, true⟩
noncomputable def i52 : FnI := ⟨Tryd.f52.body.getD .skip, Tryd.f52.results.toList, ⟨8, [0, 2, 4], [5], []⟩, true⟩
noncomputable def i53 : FnI := ⟨Tryd.f53.body.getD .skip, Tryd.f53.results.toList, ⟨8, [0, 2, 4], [5], []⟩, false⟩
noncomputable def i54 : FnI := ⟨Tryd.f54.body.getD .skip, Tryd.f54.results.toList, ⟨65, [0, 1, 2, 6, 7, 8, 39], [], []⟩, false⟩
noncomputable def i55 : FnI := ⟨Tryd.f55.body.getD .skip, Tryd.f55.results.toList, ⟨86, [0, 1, 2, 3, 4, 5, 6], [2, 3, 1000006], []⟩, true⟩
noncomputable def i56 : FnI := ⟨Tryd.f56.body.getD .skip, Tryd.f56.results.toList, ⟨49, [0, 1, 2, 4, 6, 7, 8, 9, 10, 11, 17, 31], [4], []⟩, false⟩
noncomputable def i57 : FnI := ⟨Tryd.f57.body.getD .skip, Tryd.f57.results.toList, ⟨17, [0, 1, 2, 3, 4], [2, 3, 15], []⟩, false⟩
noncomputable def i58 : FnI := ⟨Tryd.f58.body.getD .skip, Tryd.f58.results.toList, ⟨18, [0, 2, 3, 5, 6, 7, 8, 9, 14], [], []⟩, false⟩
noncomputable def i59 : FnI := ⟨Tryd.f59.body.getD .skip, Tryd.f59.results.toList, ⟨20, [0, 1, 4, 5, 6, 11, 12, 13, 16, 19], [], []⟩, false⟩
noncomputable def i60 : FnI := ⟨Tryd.f60.body.getD .skip, Tryd.f60.results.toList, ⟨15, [0, 1, 2, 6], [], []⟩, false⟩
noncomputable def i61 : FnI := ⟨Tryd.f61.body.getD .skip, Tryd.f61.results.toList, ⟨44, [0, 2, 3, 5, 6, 9, 10, 11, 12, 13, 19, 28, 42], [5], []⟩, false⟩
noncomputable def i62 : FnI := ⟨Tryd.f62.body.getD .skip, Tryd.f62.results.toList, ⟨26, [0, 1, 4, 5, 10, 12, 13, 14, 24], [], []⟩, false⟩
noncomputable def i63 : FnI := ⟨Tryd.f63.body.getD .skip, Tryd.f63.results.toList, ⟨9, [0, 1, 4], [], []⟩, false⟩
noncomputable def i64 : FnI := ⟨Tryd.f64.body.getD .skip, Tryd.f64.results.toList, ⟨7, [0, 1, 2], [1], []⟩, false⟩
noncomputable def i65 : FnI := ⟨Tryd.f65.body.getD .skip, Tryd.f65.results.toList, ⟨19, [0, 1, 4, 5, 7, 8, 9, 16], [], []⟩, false⟩
noncomputable def i66 : FnI := ⟨Tryd.f66.body.getD .skip, Tryd.f66.results.toList, ⟨14, [0, 2], [], []⟩, false⟩
noncomputable def i67 : FnI := ⟨Tryd.f67.body.getD .skip, Tryd.f67.results.toList, ⟨89, [0, 2, 3, 4, 5, 6, 7, 10, 14, 23, 27, 54, 87], [37], []⟩, true⟩
noncomputable def i68 : FnI := ⟨Tryd.f68.body.getD .skip, Tryd.f68.results.toList, ⟨26, [0, 1, 4, 5, 10, 14, 25], [], []⟩, false⟩
noncomputable def i69 : FnI := ⟨Tryd.f69.body.getD .skip, Tryd.f69.results.toList, ⟨42, [0, 1, 2, 3, 8, 9, 10, 14, 24], [30], []⟩, true⟩
noncomputable def i70 : FnI := ⟨Tryd.f70.body.getD .skip, Tryd.f70.results.toList, ⟨8, [0, 1, 2, 3], [2], []⟩, false⟩
noncomputable def i73 : FnI := ⟨Tryd.f73.body.getD .skip, Tryd.f73.results.toList, ⟨26, [0, 1, 4, 5, 10, 14, 25], [], []⟩, false⟩
noncomputable def i74 : FnI := ⟨Tryd.f74.body.getD .skip, Tryd.f74.results.toList, ⟨6, [0, 2], [], []⟩, false⟩
noncomputable def i75 : FnI := ⟨Tryd.f75.body.getD .skip, Tryd.f75.results.toList, ⟨38, [0, 2, 4, 22, 24, 25, 26, 27, 36], [], []⟩, true⟩
noncomputable def i76 : FnI := ⟨Tryd.f76.body.getD .skip, Tryd.f76.results.toList, ⟨9, [0, 1], [], []⟩, false⟩
noncomputable def i77 : FnI := ⟨Tryd.f77.body.getD .skip, Tryd.f77.results.toList, ⟨10, [0, 1, 2, 3, 4], [2, 3], []⟩, false⟩
noncomputable def i78 : FnI := ⟨Tryd.f78.body.getD .skip, Tryd.f78.results.toList, ⟨8, [0, 1, 4], [], []⟩, false⟩
noncomputable def i79 : FnI := ⟨Tryd.f79.body.getD .skip, Tryd.f79.results.toList, ⟨19, [0, 1, 4, 5, 7, 8, 9, 16], [], []⟩, false⟩
noncomputable def i80 : FnI := ⟨Tryd.f80.body.getD .skip, Tryd.f80.results.toList, ⟨40, [0, 2, 3, 22, 26, 39], [], []⟩, false⟩
noncomputable def i81 : FnI := ⟨Tryd.f81.body.getD .skip, Tryd.f81.results.toList, ⟨15, [0, 1, 2, 6, 7], [], []⟩, false⟩
noncomputable def i84 : FnI := ⟨Tryd.f84.body.getD .skip, Tryd.f84.results.toList, ⟨8, [0, 2], [], []⟩, false⟩
noncomputable def i85 : FnI := ⟨Tryd.f85.body.getD .skip, Tryd.f85.results.toList, ⟨12, [0, 2], [], []⟩, false⟩
noncomputable def i86 : FnI := ⟨Tryd.f86.body.getD .skip, Tryd.f86.results.toList, ⟨63, [0, 1, 2, 6, 7, 8, 9, 13, 30, 35, 54], [], []⟩, false⟩
noncomputable def i87 : FnI := ⟨Tryd.f87.body.getD .skip, Tryd.f87.results.toList, ⟨8, [0, 1, 4], [], []⟩, false⟩
noncomputable def i88 : FnI := ⟨Tryd.f88.body.getD .skip, Tryd.f88.results.toList, ⟨17, [0, 2], [], []⟩, false⟩
noncomputable def i89 : FnI := ⟨Tryd.f89.body.getD .skip, Tryd.f89.results.toList, ⟨13, [0, 2], [], []⟩, false⟩
noncomputable def i90 : FnI := ⟨Tryd.f90.body.getD .skip, Tryd.f90.results.toList, ⟨49, [0, 1, 2, 4, 6, 7, 8, 9, 10, 11, 17, 31], [4], []⟩, false⟩
noncomputable def i91 : FnI := ⟨Tryd.f91.body.getD .skip, Tryd.f91.results.toList, ⟨17, [0, 1, 2, 3, 4], [2, 3, 15], []⟩, false⟩
noncomputable def i92 : FnI := ⟨Tryd.f92.body.getD .skip, Tryd.f92.results.toList, ⟨20, [0, 1, 4, 5, 6, 11, 12, 13, 16, 19], [], []⟩, false⟩
noncomputable def i96 : FnI := ⟨Tryd.f96.body.getD .skip, Tryd.f96.results.toList, ⟨53, [0, 1, 2, 3, 8, 9, 14, 34], [], []⟩, false⟩
noncomputable def i97 : FnI := ⟨Tryd.f97.body.getD .skip, Tryd.f97.results.toList, ⟨220, [0, 1, 2, 3, 4, 10, 11, 12, 13, 14, 15, 16, 17, 18, 19, 20, 21, 22, 23, 24, 28, 33, 50, 58, 80, 85, 103, 110, 140, 151, 171, 185, 199, 213], [], []⟩, false⟩
noncomputable def i99 : FnI := ⟨Tryd.f99.body.getD .skip, Tryd.f99.results.toList, ⟨9, [0, 2], [], []⟩, false⟩
noncomputable def i100 : FnI := ⟨Tryd.f100.body.getD .skip, Tryd.f100.results.toList, ⟨6, [0, 2], [], []⟩, false⟩
noncomputable def i102 : FnI := ⟨Tryd.f102.body.getD .skip, Tryd.f102.results.toList, ⟨58, [0, 1, 2, 3, 4, 10, 11, 20, 23], [], []⟩, false⟩
noncomputable def i104 : FnI := ⟨Tryd.f104.body.getD .skip, Tryd.f104.results.toList, ⟨38, [0, 1, 2, 3, 10, 13], [], []⟩, false⟩
noncomputable def fnsL : List (Nat × FnI) := [(4, i4), (5, i5), (6, i6), (7, i7), (8, i8), (9, i9), (10, i10), (11, i11), (12, i12), (14, i14), (15, i15), (16, i16), (17, i17), (18, i18), (19, i19), (20, i20), (21, i21), (22, i22), (23, i23), (24, i24), (25, i25), (26, i26), (27, i27), (28, i28), (29, i29), (30, i30), (31, i31), (32, i32), (33, i33), (34, i34), (35, i35), (36, i36), (37, i37), (38, i38), (39, i39), (40, i40), (41, i41), (42, i42), (43, i43), (44, i44), (45, i45), (46, i46), (47, i47), (48, i48), (49, i49), (50, i50), (52, i52), (53, i53), (54, i54), (55, i55), (56, i56), (57, i57), (58, i58), (59, i59), (60, i60), (61, i61), (62, i62), (63, i63), (64, i64), (65, i65), (66, i66), (67, i67), (68, i68), (69, i69), (70, i70), (73, i73), (74, i74), (75, i75), (76, i76), (77, i77), (78, i78), (79, i79), (80, i80), (81, i81), (84, i84), (85, i85), (86, i86), (87, i87), (88, i88), (89, i89), (90, i90), (91, i91), (92, i92), (96, i96), (97, i97), (99, i99), (100, i100), (102, i102), (104, i104)]
noncomputable def Fs : FuncId → Option FnI := fnOf fnsL
theorem fk4 : FnOK Tryd.prog 4 i4 := .of Tryd.func4 (by kernel_rfl) (by kernel_rfl) (by kernel_rfl) Tryd.call4
theorem fk5 : FnOK Tryd.prog 5 i5 := .of Tryd.func5 (by kernel_rfl) (by kernel_rfl) (by kernel_rfl) Tryd.call5
theorem fk6 : FnOK Tryd.prog 6 i6 := .of Tryd.func6 (by kernel_rfl) (by kernel_rfl) (by kernel_rfl) Tryd.call6
theorem fk7 : FnOK Tryd.prog 7 i7 := .of Tryd.func7 (by kernel_rfl) (by kernel_rfl) (by kernel_rfl) Tryd.call7
theorem fk8 : FnOK Tryd.prog 8 i8 := .of Tryd.func8 (by kernel_rfl) (by kernel_rfl) (by kernel_rfl) Tryd.call8
theorem fk9 : FnOK Tryd.prog 9 i9 := .of Tryd.func9 (by kernel_rfl) (by kernel_rfl) (by kernel_rfl) Tryd.call9
theorem fk10 : FnOK Tryd.prog 10 i10 := .of Tryd.func10 (by kernel_rfl) (by kernel_rfl) (by kernel_rfl) Tryd.call10
theorem fk11 : FnOK Tryd.prog 11 i11 := .of Tryd.func11 (by kernel_rfl) (by kernel_rfl) (by kernel_rfl) Tryd.call11
theorem fk12 : FnOK Tryd.prog 12 i12 := .of Tryd.func12 (by kernel_rfl) (by kernel_rfl) (by kernel_rfl) Tryd.call12
theorem fk14 : FnOK Tryd.prog 14 i14 := .of Tryd.func14 (by kernel_rfl) (by kernel_rfl) (by kernel_rfl) Tryd.call14
theorem fk15 : FnOK Tryd.prog 15 i15 := .of Tryd.func15 (by kernel_rfl) (by kernel_rfl) (by kernel_rfl) Tryd.call15
theorem fk16 : FnOK Tryd.prog 16 i16 := .of Tryd.func16 (by kernel_rfl) (by kernel_rfl) (by kernel_rfl) Tryd.call16
theorem fk17 : FnOK Tryd.prog 17 i17 := .of Tryd.func17 (by kernel_rfl) (by kernel_rfl) (by kernel_rfl) Tryd.call17
theorem fk18 : FnOK Tryd.prog 18 i18 := .of Tryd.func18 (by kernel_rfl) (by kernel_rfl) (by kernel_rfl) Tryd.call18
theorem fk19 : FnOK Tryd.prog 19 i19 := .of Tryd.func19 (by kernel_rfl) (by kernel_rfl) (by kernel_rfl) Tryd.call19
theorem fk20 : FnOK Tryd.prog 20 i20 := .of Tryd.func20 (by kernel_rfl) (by kernel_rfl) (by kernel_rfl) Tryd.call20
theorem fk21 : FnOK Tryd.prog 21 i21 := .of Tryd.func21 (by kernel_rfl) (by kernel_rfl) (by kernel_rfl) Tryd.call21
theorem fk22 : FnOK Tryd.prog 22 i22 := .of Tryd.func22 (by kernel_rfl) (by kernel_rfl) (by kernel_rfl) Tryd.call22
theorem fk23 : FnOK Tryd.prog 23 i23 := .of Tryd.func23 (by kernel_rfl) (by kernel_rfl) (by kernel_rfl) Tryd.call23
theorem fk24 : FnOK Tryd.prog 24 i24 := .of Tryd.func24 (by kernel_rfl) (by kernel_rfl) (by kernel_rfl) Tryd.call24
theorem fk25 : FnOK Tryd.prog 25 i25 := .of Tryd.func25 (by kernel_rfl) (by kernel_rfl) (by kernel_rfl) Tryd.call25
theorem fk26 : FnOK Tryd.prog 26 i26 := .of Tryd.func26 (by kernel_rfl) (by kernel_rfl) (by kernel_rfl) Tryd.call26
theorem fk27 : FnOK Tryd.prog 27 i27 := .of Tryd.func27 (by kernel_rfl) (by kernel_rfl) (by kernel_rfl) Tryd.call27
theorem fk28 : FnOK Tryd.prog 28 i28 := .of Tryd.func28 (by kernel_rfl) (by kernel_rfl) (by kernel_rfl) Tryd.call28
theorem fk29 : FnOK Tryd.prog 29 i29 := .of Tryd.func29 (by kernel_rfl) (by kernel_rfl) (by kernel_rfl) Tryd.call29
theorem fk30 : FnOK Tryd.prog 30 i30 := .of Tryd.func30 (by kernel_rfl) (by kernel_rfl) (by kernel_rfl) Tryd.call30
theorem fk31 : FnOK Tryd.prog 31 i31 := .of Tryd.func31 (by kernel_rfl) (by kernel_rfl) (by kernel_rfl) Tryd.call31
theorem fk32 : FnOK Tryd.prog 32 i32 := .of Tryd.func32 (by kernel_rfl) (by kernel_rfl) (by kernel_rfl) Tryd.call32
theorem fk33 : FnOK Tryd.prog 33 i33 := .of Tryd.func33 (by kernel_rfl) (by kernel_rfl) (by kernel_rfl) Tryd.call33
theorem fk34 : FnOK Tryd.prog 34 i34 := .of Tryd.func34 (by kernel_rfl) (by kernel_rfl) (by kernel_rfl) Tryd.call34
theorem fk35 : FnOK Tryd.prog 35 i35 := .of Tryd.func35 (by kernel_rfl) (by kernel_rfl) (by kernel_rfl) Tryd.call35
theorem fk36 : FnOK Tryd.prog 36 i36 := .of Tryd.func36 (by kernel_rfl) (by kernel_rfl) (by kernel_rfl) Tryd.call36
theorem fk37 : FnOK Tryd.prog 37 i37 := .of Tryd.func37 (by kernel_rfl) (by kernel_rfl) (by kernel_rfl) Tryd.call37
theorem fk38 : FnOK Tryd.prog 38 i38 := .of Tryd.func38 (by kernel_rfl) (by kernel_rfl) (by kernel_rfl) Tryd.call38
theorem fk39 : FnOK Tryd.prog 39 i39 := .of Tryd.func39 (by kernel_rfl) (by kernel_rfl) (by kernel_rfl) Tryd.call39
theorem fk40 : FnOK Tryd.prog 40 i40 := .of Tryd.func40 (by kernel_rfl) (by kernel_rfl) (by kernel_rfl) Tryd.call40
theorem fk41 : FnOK Tryd.prog 41 i41 := .of Tryd.func41 (by kernel_rfl) (by kernel_rfl) (by kernel_rfl) Tryd.call41
theorem fk42 : FnOK Tryd.prog 42 i42 := .of Tryd.func42 (by kernel_rfl) (by kernel_rfl) (by kernel_rfl) Tryd.call42
theorem fk43 : FnOK Tryd.prog 43 i43 := .of Tryd.func43 (by kernel_rfl) (by kernel_rfl) (by kernel_rfl) Tryd.call43
theorem fk44 : FnOK Tryd.prog 44 i44 := .of Tryd.func44 (by kernel_rfl) (by kernel_rfl) (by kernel_rfl) Tryd.call44
theorem fk45 : FnOK Tryd.prog 45 i45 := .of Tryd.func45 (by kernel_rfl) (by kernel_rfl) (by kernel_rfl) Tryd.call45
theorem fk46 : FnOK Tryd.prog 46 i46 := .of Tryd.func46 (by kernel_rfl) (by kernel_rfl) (by kernel_rfl) Tryd.call46
theorem fk47 : FnOK Tryd.prog 47 i47 := .of Tryd.func47 (by kernel_rfl) (by kernel_rfl) (by kernel_rfl) Tryd.call47
theorem fk48 : FnOK Tryd.prog 48 i48 := .of Tryd.func48 (by kernel_rfl) (by kernel_rfl) (by kernel_rfl) Tryd.call48
theorem fk49 : FnOK Tryd.prog 49 i49 := .of Tryd.func49 (by kernel_rfl) (by kernel_rfl) (by kernel_rfl) Tryd.call49
theorem fk50 : FnOK Tryd.prog 50 i50 := .of Tryd.func50 (by kernel_rfl) (by kernel_rfl) (by kernel_rfl) Tryd.call50
theorem fk52 : FnOK Tryd.prog 52 i52 := .of Tryd.func52 (by kernel_rfl) (by kernel_rfl) (by kernel_rfl) Tryd.call52
theorem fk53 : FnOK Tryd.prog 53 i53 := .of Tryd.func53 (by kernel_rfl) (by kernel_rfl) (by kernel_rfl) Tryd.call53
theorem fk54 : FnOK Tryd.prog 54 i54 := .of Tryd.func54 (by kernel_rfl) (by kernel_rfl) (by kernel_rfl) Tryd.call54
theorem fk55 : FnOK Tryd.prog 55 i55 := .of Tryd.func55 (by kernel_rfl) (by kernel_rfl) (by kernel_rfl) Tryd.call55
theorem fk56 : FnOK Tryd.prog 56 i56 := .of Tryd.func56 (by kernel_rfl) (by kernel_rfl) (by kernel_rfl) Tryd.call56
theorem fk57 : FnOK Tryd.prog 57 i57 := .of Tryd.func57 (by kernel_rfl) (by kernel_rfl) (by kernel_rfl) Tryd.call57
theorem fk58 : FnOK Tryd.prog 58 i58 := .of Tryd.func58 (by kernel_rfl) (by kernel_rfl) (by kernel_rfl) Tryd.call58
theorem fk59 : FnOK Tryd.prog 59 i59 := .of Tryd.func59 (by kernel_rfl) (by kernel_rfl) (by kernel_rfl) Tryd.call59
theorem fk60 : FnOK Tryd.prog 60 i60 := .of Tryd.func60 (by kernel_rfl) (by kernel_rfl) (by kernel_rfl) Tryd.call60
theorem fk61 : FnOK Tryd.prog 61 i61 := .of Tryd.func61 (by kernel_rfl) (by kernel_rfl) (by kernel_rfl) Tryd.call61
theorem fk62 : FnOK Tryd.prog 62 i62 := .of Tryd.func62 (by kernel_rfl) (by kernel_rfl) (by kernel_rfl) Tryd.call62
theorem fk63 : FnOK Tryd.prog 63 i63 := .of Tryd.func63 (by kernel_rfl) (by kernel_rfl) (by kernel_rfl) Tryd.call63
theorem fk64 : FnOK Tryd.prog 64 i64 := .of Tryd.func64 (by kernel_rfl) (by kernel_rfl) (by kernel_rfl) Tryd.call64
theorem fk65 : FnOK Tryd.prog 65 i65 := .of Tryd.func65 (by kernel_rfl) (by kernel_rfl) (by kernel_rfl) Tryd.call65
theorem fk66 : FnOK Tryd.prog 66 i66 := .of Tryd.func66 (by kernel_rfl) (by kernel_rfl) (by kernel_rfl) Tryd.call66
theorem fk67 : FnOK Tryd.prog 67 i67 := .of Tryd.func67 (by kernel_rfl) (by kernel_rfl) (by kernel_rfl) Tryd.call67
theorem fk68 : FnOK Tryd.prog 68 i68 := .of Tryd.func68 (by kernel_rfl) (by kernel_rfl) (by kernel_rfl) Tryd.call68
theorem fk69 : FnOK Tryd.prog 69 i69 := .of Tryd.func69 (by kernel_rfl) (by kernel_rfl) (by kernel_rfl) Tryd.call69
theorem fk70 : FnOK Tryd.prog 70 i70 := .of Tryd.func70 (by kernel_rfl) (by kernel_rfl) (by kernel_rfl) Tryd.call70
theorem fk73 : FnOK Tryd.prog 73 i73 := .of Tryd.func73 (by kernel_rfl) (by kernel_rfl) (by kernel_rfl) Tryd.call73
theorem fk74 : FnOK Tryd.prog 74 i74 := .of Tryd.func74 (by kernel_rfl) (by kernel_rfl) (by kernel_rfl) Tryd.call74
theorem fk75 : FnOK Tryd.prog 75 i75 := .of Tryd.func75 (by kernel_rfl) (by kernel_rfl) (by kernel_rfl) Tryd.call75
theorem fk76 : FnOK Tryd.prog 76 i76 := .of Tryd.func76 (by kernel_rfl) (by kernel_rfl) (by kernel_rfl) Tryd.call76
theorem fk77 : FnOK Tryd.prog 77 i77 := .of Tryd.func77 (by kernel_rfl) (by kernel_rfl) (by kernel_rfl) Tryd.call77
theorem fk78 : FnOK Tryd.prog 78 i78 := .of Tryd.func78 (by kernel_rfl) (by kernel_rfl) (by kernel_rfl) Tryd.call78
theorem fk79 : FnOK Tryd.prog 79 i79 := .of Tryd.func79 (by kernel_rfl) (by kernel_rfl) (by kernel_rfl) Tryd.call79
theorem fk80 : FnOK Tryd.prog 80 i80 := .of Tryd.func80 (by kernel_rfl) (by kernel_rfl) (by kernel_rfl) Tryd.call80
theorem fk81 : FnOK Tryd.prog 81 i81 := .of Tryd.func81 (by kernel_rfl) (by kernel_rfl) (by kernel_rfl) Tryd.call81
theorem fk84 : FnOK Tryd.prog 84 i84 := .of Tryd.func84 (by kernel_rfl) (by kernel_rfl) (by kernel_rfl) Tryd.call84
theorem fk85 : FnOK Tryd.prog 85 i85 := .of Tryd.func85 (by kernel_rfl) (by kernel_rfl) (by kernel_rfl) Tryd.call85
theorem fk86 : FnOK Tryd.prog 86 i86 := .of Tryd.func86 (by kernel_rfl) (by kernel_rfl) (by kernel_rfl) Tryd.call86
theorem fk87 : FnOK Tryd.prog 87 i87 := .of Tryd.func87 (by kernel_rfl) (by kernel_rfl) (by kernel_rfl) Tryd.call87
theorem fk88 : FnOK Tryd.prog 88 i88 := .of Tryd.func88 (by kernel_rfl) (by kernel_rfl) (by kernel_rfl) Tryd.call88
theorem fk89 : FnOK Tryd.prog 89 i89 := .of Tryd.func89 (by kernel_rfl) (by kernel_rfl) (by kernel_rfl) Tryd.call89
theorem fk90 : FnOK Tryd.prog 90 i90 := .of Tryd.func90 (by kernel_rfl) (by kernel_rfl) (by kernel_rfl) Tryd.call90
theorem fk91 : FnOK Tryd.prog 91 i91 := .of Tryd.func91 (by kernel_rfl) (by kernel_rfl) (by kernel_rfl) Tryd.call91
theorem fk92 : FnOK Tryd.prog 92 i92 := .of Tryd.func92 (by kernel_rfl) (by kernel_rfl) (by kernel_rfl) Tryd.call92
theorem fk96 : FnOK Tryd.prog 96 i96 := .of Tryd.func96 (by kernel_rfl) (by kernel_rfl) (by kernel_rfl) Tryd.call96
theorem fk97 : FnOK Tryd.prog 97 i97 := .of Tryd.func97 (by kernel_rfl) (by kernel_rfl) (by kernel_rfl) Tryd.call97
theorem fk99 : FnOK Tryd.prog 99 i99 := .of Tryd.func99 (by kernel_rfl) (by kernel_rfl) (by kernel_rfl) Tryd.call99
theorem fk100 : FnOK Tryd.prog 100 i100 := .of Tryd.func100 (by kernel_rfl) (by kernel_rfl) (by kernel_rfl) Tryd.call100
theorem fk102 : FnOK Tryd.prog 102 i102 := .of Tryd.func102 (by kernel_rfl) (by kernel_rfl) (by kernel_rfl) Tryd.call102
theorem fk104 : FnOK Tryd.prog 104 i104 := .of Tryd.func104 (by kernel_rfl) (by kernel_rfl) (by kernel_rfl) Tryd.call104
theorem fnsOK : FnsOK Tryd.prog fnsL := ⟨fk4, fk5, fk6, fk7, fk8, fk9, fk10, fk11, fk12, fk14, fk15, fk16, fk17, fk18, fk19, fk20, fk21, fk22, fk23, fk24, fk25, fk26, fk27, fk28, fk29, fk30, fk31, fk32, fk33, fk34, fk35, fk36, fk37, fk38, fk39, fk40, fk41, fk42, fk43, fk44, fk45, fk46, fk47, fk48, fk49, fk50, fk52, fk53, fk54, fk55, fk56, fk57, fk58, fk59, fk60, fk61, fk62, fk63, fk64, fk65, fk66, fk67, fk68, fk69, fk70, fk73, fk74, fk75, fk76, fk77, fk78, fk79, fk80, fk81, fk84, fk85, fk86, fk87, fk88, fk89, fk90, fk91, fk92, fk96, fk97, fk99, fk100, fk102, fk104, trivial⟩
def kinZ : List Int := [0, 0, 0, 0, 0, 0, 0, 0, 0, 4, 0, 0, 0, 0, 0, 0, 0, 0, 0, 0, 0, 0, 0, 0, 0, 0, 0, 0, 0, 0, 0, 0, 4, 0, 0, 0, 0, 0, 0, 0, 0, 0, 0, 0, 0, 0, 0, 0, 1, 1, 1, 1, 1, 1, 1, 1, 1, 1, 0, 0, 0, 0, 0, 0, 0, 2, 2, 2, 2, 2, 2, 2, 2, 2, 2, 2, 2, 2, 2, 2, 2, 2, 2, 2, 2, 2, 2, 2, 2, 2, 2, 0, 0, 0, 0, 0, 0, 2, 2, 2, 2, 2, 2, 2, 2, 2, 2, 2, 2, 2, 2, 2, 2, 2, 2, 2, 2, 2, 2, 2, 2, 2, 2, 0, 0, 0, 0, 0, 0, 0, 0, 0, 0, 0, 0, 0, 0, 0, 0, 0, 0, 0, 0, 0, 0, 0, 0, 0, 0, 0, 0, 0, 0, 0, 0, 0, 0, 0, 0, 0, 0, 0, 0, 0, 0, 0, 0, 0, 0, 0, 0, 0, 0, 0, 0, 0, 0, 0, 0, 0, 0, 0, 0, 0, 0, 0, 0, 0, 0, 0, 0, 0, 0, 0, 0, 0, 0, 0, 0, 0, 0, 0, 0, 0, 0, 0, 0, 0, 0, 0, 0, 0, 0, 0, 0, 0, 0, 0, 0, 0, 0, 0, 0, 0, 0, 0, 0, 0, 0, 0, 0, 0, 0, 0, 0, 0, 0, 0, 0, 0, 0, 0, 0, 0, 0, 0, 0, 0, 0, 0, 0, 0, 0, 0, 0, 0]
def kin : List D := kinZ.map fun z => .int .u8 z
noncomputable def gl : Nat → Option D := fun i => if i = 0 then some (.fptr kin) else none
abbrev fn1067 : Nat := 98
theorem ext98 (vs : Array Value) (w : World) : (callFunc 98 vs).run Tryd.prog w = ((Extern.BytealgCompare.compare vs).run Tryd.prog w).andThen fun v w' => .ok (.value v) w' := run_callFunc_extern Tryd.func98 (by kernel_rfl) (by kernel_rfl) (by kernel_rfl) (by kernel_rfl) vs w
theorem cmpOK98 {args : List D} {h h' : Hp} {d : D} (hd : dCmp args h = some (d, h')) {g : Gh} {vs : List Value} (hi : Inv g h) (hr : RepL g vs args) : CallAt Tryd.prog 98 vs g h' d := by
  unfold dCmp at hd
  split at hd
  · injection hd with hd
    injection hd with h1 h2
    subst h1; subst h2
    exact cmpstr_ok ext98 hi hr
  · cases hd
abbrev fn1098 : Nat := 51
abbrev fn81 : Nat := 82
noncomputable def xt : CallF := fun f args h => if f = fn1067 then dCmp args h else if f = fn1098 then dIns ty1006 ti1006 args h else if f = fn81 then dIns ty106 ti106 args h else none
theorem xtOK (X : Cx) : CallOK Tryd.prog X xt := fun f args h d h' hd g vs hi hgl hr => by
  unfold xt at hd
  split at hd
  · rename_i hf
    subst hf
    exact cmpOK98 hd hi hr
  · skip
    split at hd
    · rename_i hf
      subst hf
      exact ins_ok tabOK insW51 Tryd.call51 ovl71 (show tab 45 = some ti1007 from rfl) rfl (show tab 57 = some ti1006 from rfl) (show tab 3 = some ti3 from rfl) rfl rfl (by decide) hd hi hr
    · skip
      split at hd
      · rename_i hf
        subst hf
        exact ins_ok tabOK insW82 Tryd.call82 ovl93 (show tab 46 = some ti58 from rfl) rfl (show tab 73 = some ti106 from rfl) (show tab 3 = some ti3 from rfl) rfl rfl (by decide) hd hi hr
      · skip
        cases hd
noncomputable def X : Cx := ⟨tab, gl, xt⟩
noncomputable def R : CallF := run X Fs
theorem R_ok : CallOK Tryd.prog X R := run_ok (X := X) tabOK mixo (xtOK X) (fns_ok fnsL fnsOK)
theorem xcmp (a b : List UInt8) (h : Hp) : R fn1067 [.str a, .str b] h = some (.int .i64 (Lib.compareBytes a b), h) := (run_xt (X := X) (F := Fs) (by kernel_rfl) _ _).trans (by simp [X, xt, dCmp])
theorem xins1098 (args : List D) (h : Hp) : R fn1098 args h = dIns ty1006 ti1006 args h := (run_xt (X := X) (F := Fs) (by kernel_rfl) _ _).trans (by simp only [X, xt, show ¬ (fn1098 = fn1067) by decide, if_true, if_false])
theorem xins81 (args : List D) (h : Hp) : R fn81 args h = dIns ty106 ti106 args h := (run_xt (X := X) (F := Fs) (by kernel_rfl) _ _).trans (by simp only [X, xt, show ¬ (fn81 = fn1067) by decide, show ¬ (fn81 = fn1098) by decide, if_true, if_false])
end Go.Proofs.YthaajlepgblimaaDoor
