/- The tables of this seat: its types, and how its functions are carried out on data. -/
import Derived.Test.YtiigjgbpmnjhoaaPiW
import Derived.Test.YtiigjgbpmnjhoaaChecked
import Derived.KernelRfl
set_option linter.unusedSimpArgs false
set_option linter.unusedVariables false
set_option linter.unnecessarySimpa false
namespace Go.Proofs.Ytiigjgbpmnjhoaa
open Go.Eng Go.Pi
abbrev ty3 : Nat := 3
abbrev ty5 : Nat := 5
abbrev ty9 : Nat := 9
abbrev ty22 : Nat := 22
abbrev ty49 : Nat := 24
abbrev ty65 : Nat := 29
abbrev ty1029 : Nat := 33
abbrev ty1031 : Nat := 36
abbrev fn1022 : Nat := 3
abbrev fn1023 : Nat := 4
abbrev fn1024 : Nat := 5
abbrev fn1025 : Nat := 6
abbrev fn1026 : Nat := 7
abbrev fn1027 : Nat := 8
abbrev fn1028 : Nat := 9
abbrev fn1029 : Nat := 10
abbrev fn1030 : Nat := 11
abbrev fn1031 : Nat := 12
abbrev fn1032 : Nat := 13
abbrev fn1033 : Nat := 14
noncomputable def ti3 : TI := ⟨.int .i64, 1, 8, [.int .i64 0]⟩
noncomputable def ti5 : TI := ⟨.int .u8, 1, 1, [.int .u8 0]⟩
noncomputable def ti9 : TI := ⟨.str, 1, 16, [.str []]⟩
noncomputable def ti22 : TI := ⟨.sl 5, 1, 24, [.nils]⟩
noncomputable def ti49 : TI := ⟨.int .i64, 1, 8, [.int .i64 0]⟩
noncomputable def ti65 : TI := ⟨.int .u32, 1, 4, [.int .u32 0]⟩
noncomputable def ti1029 : TI := ⟨.int .u64, 1, 8, [.int .u64 0]⟩
noncomputable def ti1031 : TI := ⟨.sl 22, 1, 24, [.nils]⟩
noncomputable def tabL : List (Option TI) := [none, none, none, some ti3, none, some ti5, none, none, none, some ti9, none, none, none, none, none, none, none, none, none, none, none, none, some ti22, none, some ti49, none, none, none, none, some ti65, none, none, none, some ti1029, none, none, some ti1031]
noncomputable def tab : Tab := tabOf tabL
theorem tk3 : tiOf Try.prog 3 = some ti3 ∧ goodT Try.prog 3 = true := ⟨by kernel_rfl, by kernel_rfl⟩
theorem tk5 : tiOf Try.prog 5 = some ti5 ∧ goodT Try.prog 5 = true := ⟨by kernel_rfl, by kernel_rfl⟩
theorem tk9 : tiOf Try.prog 9 = some ti9 ∧ goodT Try.prog 9 = true := ⟨by kernel_rfl, by kernel_rfl⟩
theorem tk22 : tiOf Try.prog 22 = some ti22 ∧ goodT Try.prog 22 = true := ⟨by kernel_rfl, by kernel_rfl⟩
theorem tk24 : tiOf Try.prog 24 = some ti49 ∧ goodT Try.prog 24 = true := ⟨by kernel_rfl, by kernel_rfl⟩
theorem tk29 : tiOf Try.prog 29 = some ti65 ∧ goodT Try.prog 29 = true := ⟨by kernel_rfl, by kernel_rfl⟩
theorem tk33 : tiOf Try.prog 33 = some ti1029 ∧ goodT Try.prog 33 = true := ⟨by kernel_rfl, by kernel_rfl⟩
theorem tk36 : tiOf Try.prog 36 = some ti1031 ∧ goodT Try.prog 36 = true := ⟨by kernel_rfl, by kernel_rfl⟩
theorem tabOK : TabOK Try.prog tab := tabOf_ok (show TabsOK Try.prog 0 tabL from ⟨tk3, tk5, tk9, tk22, tk24, tk29, tk33, tk36, trivial⟩)
theorem mixo : Try.prog.follows .mixedOrders = true := by kernel_rfl
noncomputable def i3 : FnI := ⟨Try.f3.body.getD .skip, Try.f3.results.toList, ⟨49, [0, 1, 4, 5, 6, 7, 8, 20], [], []⟩, false⟩
noncomputable def i4 : FnI := ⟨Try.f4.body.getD .skip, Try.f4.results.toList, ⟨15, [0, 1, 2], [4], []⟩, false⟩
noncomputable def i5 : FnI := ⟨Try.f5.body.getD .skip, Try.f5.results.toList, ⟨37, [0, 1, 4, 5, 6, 7, 16], [35], []⟩, false⟩
noncomputable def i6 : FnI := ⟨Try.f6.body.getD .skip, Try.f6.results.toList, ⟨43, [0, 1, 4, 5, 6, 7, 8, 16, 23], [], []⟩, true⟩
noncomputable def i7 : FnI := ⟨Try.f7.body.getD .skip, Try.f7.results.toList, ⟨26, [0, 1, 4, 5, 10, 14, 25], [], []⟩, false⟩
noncomputable def i8 : FnI := ⟨Try.f8.body.getD .skip, Try.f8.results.toList, ⟨15, [0, 2], [14], []⟩, false⟩
noncomputable def i9 : FnI := ⟨Try.f9.body.getD .skip, Try.f9.results.toList, ⟨36, [0, 2, 3, 5, 6, 8, 9, 10, 11, 12, 20, 25, 26, 27, 28], [], []⟩, true⟩
noncomputable def i10 : FnI := ⟨Try.f10.body.getD .skip, Try.f10.results.toList, ⟨10, [0, 1, 4], [7], []⟩, false⟩
noncomputable def i11 : FnI := ⟨Try.f11.body.getD .skip, Try.f11.results.toList, ⟨23, [0, 1, 2, 6, 7, 11], [20], []⟩, false⟩
noncomputable def i12 : FnI := ⟨Try.f12.body.getD .skip, Try.f12.results.toList, ⟨33, [0, 2, 3, 4, 5, 9, 20, 25], [], []⟩, false⟩
noncomputable def i13 : FnI := ⟨Try.f13.body.getD .skip, Try.f13.results.toList, ⟨27, [0, 1, 4, 6, 16], [], []⟩, false⟩
noncomputable def i14 : FnI := ⟨Try.f14.body.getD .skip, Try.f14.results.toList, ⟨29, [0, 2, 3, 5, 6, 7, 8, 9, 16, 17], [], []⟩, false⟩
noncomputable def fnsL : List (Nat × FnI) := [(3, i3), (4, i4), (5, i5), (6, i6), (7, i7), (8, i8), (9, i9), (10, i10), (11, i11), (12, i12), (13, i13), (14, i14)]
noncomputable def Fs : FuncId → Option FnI := fnOf fnsL
theorem fk3 : FnOK Try.prog 3 i3 := .of Try.func3 (by kernel_rfl) (by kernel_rfl) (by kernel_rfl) Try.call3
theorem fk4 : FnOK Try.prog 4 i4 := .of Try.func4 (by kernel_rfl) (by kernel_rfl) (by kernel_rfl) Try.call4
theorem fk5 : FnOK Try.prog 5 i5 := .of Try.func5 (by kernel_rfl) (by kernel_rfl) (by kernel_rfl) Try.call5
theorem fk6 : FnOK Try.prog 6 i6 := .of Try.func6 (by kernel_rfl) (by kernel_rfl) (by kernel_rfl) Try.call6
theorem fk7 : FnOK Try.prog 7 i7 := .of Try.func7 (by kernel_rfl) (by kernel_rfl) (by kernel_rfl) Try.call7
theorem fk8 : FnOK Try.prog 8 i8 := .of Try.func8 (by kernel_rfl) (by kernel_rfl) (by kernel_rfl) Try.call8
theorem fk9 : FnOK Try.prog 9 i9 := .of Try.func9 (by kernel_rfl) (by kernel_rfl) (by kernel_rfl) Try.call9
theorem fk10 : FnOK Try.prog 10 i10 := .of Try.func10 (by kernel_rfl) (by kernel_rfl) (by kernel_rfl) Try.call10
theorem fk11 : FnOK Try.prog 11 i11 := .of Try.func11 (by kernel_rfl) (by kernel_rfl) (by kernel_rfl) Try.call11
theorem fk12 : FnOK Try.prog 12 i12 := .of Try.func12 (by kernel_rfl) (by kernel_rfl) (by kernel_rfl) Try.call12
theorem fk13 : FnOK Try.prog 13 i13 := .of Try.func13 (by kernel_rfl) (by kernel_rfl) (by kernel_rfl) Try.call13
theorem fk14 : FnOK Try.prog 14 i14 := .of Try.func14 (by kernel_rfl) (by kernel_rfl) (by kernel_rfl) Try.call14
theorem fnsOK : FnsOK Try.prog fnsL := ⟨fk3, fk4, fk5, fk6, fk7, fk8, fk9, fk10, fk11, fk12, fk13, fk14, trivial⟩
noncomputable def gl : Nat → Option D := fun _ => none
noncomputable def X : Cx := ⟨tab, gl⟩
noncomputable def R : CallF := run X Fs
theorem R_ok : CallOK Try.prog X R := run_ok (X := X) tabOK mixo (fns_ok fnsL fnsOK)
end Go.Proofs.Ytiigjgbpmnjhoaa
