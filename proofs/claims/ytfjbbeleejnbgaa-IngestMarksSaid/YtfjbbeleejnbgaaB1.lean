/- The tables of this seat: its types, and how its functions are carried out on data. -/
import Derived.Test.YtfjbbeleejnbgaaIW
import Derived.Test.YtfjbbeleejnbgaaChecked
import Derived.KernelRfl
set_option linter.unusedSimpArgs false
set_option linter.unusedVariables false
set_option linter.unnecessarySimpa false
namespace Go.Proofs.Ytfjbbeleejnbgaa
open Go.Eng Go.Pi
abbrev ty3 : Nat := 3
abbrev ty5 : Nat := 5
abbrev ty9 : Nat := 9
abbrev ty22 : Nat := 22
abbrev ty1007 : Nat := 26
abbrev ty58 : Nat := 27
abbrev ty1009 : Nat := 29
abbrev ty82 : Nat := 31
abbrev ty98 : Nat := 33
abbrev ty1051 : Nat := 37
abbrev ty1053 : Nat := 39
abbrev ty1006 : Nat := 45
abbrev ty101 : Nat := 47
abbrev ty106 : Nat := 53
abbrev ty1058 : Nat := 55
abbrev ty134 : Nat := 66
abbrev fn1075 : Nat := 3
abbrev fn1001 : Nat := 4
abbrev fn44 : Nat := 5
abbrev fn1076 : Nat := 6
abbrev fn24 : Nat := 7
abbrev fn1005 : Nat := 8
abbrev fn1077 : Nat := 9
abbrev fn1078 : Nat := 10
abbrev fn1079 : Nat := 11
abbrev fn1080 : Nat := 12
abbrev fn1081 : Nat := 13
abbrev fn1082 : Nat := 14
abbrev fn30 : Nat := 15
abbrev fn59 : Nat := 16
abbrev fn60 : Nat := 17
abbrev fn1083 : Nat := 18
abbrev fn57 : Nat := 19
abbrev fn1013 : Nat := 20
abbrev fn1084 : Nat := 21
abbrev fn80 : Nat := 22
abbrev fn79 : Nat := 23
abbrev fn1016 : Nat := 25
abbrev fn1017 : Nat := 26
abbrev fn89 : Nat := 27
abbrev fn90 : Nat := 28
abbrev fn87 : Nat := 29
abbrev fn88 : Nat := 30
abbrev fn91 : Nat := 31
abbrev fn93 : Nat := 33
abbrev fn99 : Nat := 34
abbrev fn100 : Nat := 35
abbrev fn101 : Nat := 36
abbrev fn103 : Nat := 37
noncomputable def ti3 : TI := ⟨.int .i64, 1, 8, [.int .i64 0]⟩
noncomputable def ti5 : TI := ⟨.int .u8, 1, 1, [.int .u8 0]⟩
noncomputable def ti9 : TI := ⟨.str, 1, 16, [.str []]⟩
noncomputable def ti22 : TI := ⟨.sl 5, 1, 24, [.nils]⟩
noncomputable def ti1007 : TI := ⟨.sl 45, 1, 24, [.nils]⟩
noncomputable def ti58 : TI := ⟨.sl 53, 1, 24, [.nils]⟩
noncomputable def ti1009 : TI := ⟨.st [(26, 0, 1), (27, 1, 1)], 2, 48, [.nils, .nils]⟩
noncomputable def ti82 : TI := ⟨.sl 3, 1, 24, [.nils]⟩
noncomputable def ti98 : TI := ⟨.sl 9, 1, 24, [.nils]⟩
noncomputable def ti1051 : TI := ⟨.sl 55, 1, 24, [.nils]⟩
noncomputable def ti1053 : TI := ⟨.st [(3, 0, 1), (3, 1, 1), (37, 2, 1)], 3, 40, [.int .i64 0, .int .i64 0, .nils]⟩
noncomputable def ti1006 : TI := ⟨.st [(3, 0, 1), (3, 1, 1), (3, 2, 1)], 3, 24, [.int .i64 0, .int .i64 0, .int .i64 0]⟩
noncomputable def ti101 : TI := ⟨.st [(22, 0, 1), (3, 1, 1)], 2, 32, [.nils, .int .i64 0]⟩
noncomputable def ti106 : TI := ⟨.st [(3, 0, 1), (9, 1, 1), (3, 2, 1)], 3, 32, [.int .i64 0, .str [], .int .i64 0]⟩
noncomputable def ti1058 : TI := ⟨.st [(3, 0, 1), (3, 1, 1)], 2, 16, [.int .i64 0, .int .i64 0]⟩
noncomputable def ti134 : TI := ⟨.int .u64, 1, 8, [.int .u64 0]⟩
noncomputable def tabL : List (Option TI) := [none, none, none, some ti3, none, some ti5, none, none, none, some ti9, none, none, none, none, none, none, none, none, none, none, none, none, some ti22, none, none, none, some ti1007, some ti58, none, some ti1009, none, some ti82, none, some ti98, none, none, none, some ti1051, none, some ti1053, none, none, none, none, none, some ti1006, none, some ti101, none, none, none, none, none, some ti106, none, some ti1058, none, none, none, none, none, none, none, none, none, none, some ti134]
noncomputable def tab : Tab := tabOf tabL
theorem tk3 : tiOf Try.prog 3 = some ti3 ∧ goodT Try.prog 3 = true := ⟨by kernel_rfl, by kernel_rfl⟩
theorem tk5 : tiOf Try.prog 5 = some ti5 ∧ goodT Try.prog 5 = true := ⟨by kernel_rfl, by kernel_rfl⟩
theorem tk9 : tiOf Try.prog 9 = some ti9 ∧ goodT Try.prog 9 = true := ⟨by kernel_rfl, by kernel_rfl⟩
theorem tk22 : tiOf Try.prog 22 = some ti22 ∧ goodT Try.prog 22 = true := ⟨by kernel_rfl, by kernel_rfl⟩
theorem tk26 : tiOf Try.prog 26 = some ti1007 ∧ goodT Try.prog 26 = true := ⟨by kernel_rfl, by kernel_rfl⟩
theorem tk27 : tiOf Try.prog 27 = some ti58 ∧ goodT Try.prog 27 = true := ⟨by kernel_rfl, by kernel_rfl⟩
theorem tk29 : tiOf Try.prog 29 = some ti1009 ∧ goodT Try.prog 29 = true := ⟨by kernel_rfl, by kernel_rfl⟩
theorem tk31 : tiOf Try.prog 31 = some ti82 ∧ goodT Try.prog 31 = true := ⟨by kernel_rfl, by kernel_rfl⟩
theorem tk33 : tiOf Try.prog 33 = some ti98 ∧ goodT Try.prog 33 = true := ⟨by kernel_rfl, by kernel_rfl⟩
theorem tk37 : tiOf Try.prog 37 = some ti1051 ∧ goodT Try.prog 37 = true := ⟨by kernel_rfl, by kernel_rfl⟩
theorem tk39 : tiOf Try.prog 39 = some ti1053 ∧ goodT Try.prog 39 = true := ⟨by kernel_rfl, by kernel_rfl⟩
theorem tk45 : tiOf Try.prog 45 = some ti1006 ∧ goodT Try.prog 45 = true := ⟨by kernel_rfl, by kernel_rfl⟩
theorem tk47 : tiOf Try.prog 47 = some ti101 ∧ goodT Try.prog 47 = true := ⟨by kernel_rfl, by kernel_rfl⟩
theorem tk53 : tiOf Try.prog 53 = some ti106 ∧ goodT Try.prog 53 = true := ⟨by kernel_rfl, by kernel_rfl⟩
theorem tk55 : tiOf Try.prog 55 = some ti1058 ∧ goodT Try.prog 55 = true := ⟨by kernel_rfl, by kernel_rfl⟩
theorem tk66 : tiOf Try.prog 66 = some ti134 ∧ goodT Try.prog 66 = true := ⟨by kernel_rfl, by kernel_rfl⟩
theorem tabOK : TabOK Try.prog tab := tabOf_ok (show TabsOK Try.prog 0 tabL from ⟨tk3, tk5, tk9, tk22, tk26, tk27, tk29, tk31, tk33, tk37, tk39, tk45, tk47, tk53, tk55, tk66, trivial⟩)
theorem mixo : Try.prog.follows .mixedOrders = true := by kernel_rfl
noncomputable def i3 : FnI := ⟨Try.f3.body.getD .skip, Try.f3.results.toList, ⟨98, [0, 1, 2, 3, 8, 9, 10, 12, 13, 14, 15, 17, 23, 24, 25, 26, 79, 96], [10, 23, 32], []⟩, false⟩
noncomputable def i4 : FnI := ⟨Try.f4.body.getD .skip, Try.f4.results.toList, ⟨6, [0], [2], []⟩, false⟩
noncomputable def i5 : FnI := ⟨Try.f5.body.getD .skip, Try.f5.results.toList, ⟨13, [0, 1, 4], [], []⟩, false⟩
noncomputable def i6 : FnI := ⟨Try.f6.body.getD .skip, Try.f6.results.toList, ⟨34, [0, 2, 3, 4, 5, 7, 14, 19], [27], []⟩, true⟩
noncomputable def i7 : FnI := ⟨Try.f7.body.getD .skip, Try.f7.results.toList, ⟨35, [0, 1, 4, 5, 12], [], []⟩, false⟩
noncomputable def i8 : FnI := ⟨Try.f8.body.getD .skip, Try.f8.results.toList, ⟨24, [0, 1, 2, 3, 6, 7, 8, 17], [3], []⟩, false⟩
noncomputable def i9 : FnI := ⟨Try.f9.body.getD .skip, Try.f9.results.toList, ⟨24, [0, 1, 2, 3, 6, 7, 8, 17], [3], []⟩, false⟩
noncomputable def i10 : FnI := ⟨Try.f10.body.getD .skip, Try.f10.results.toList, ⟨24, [0, 1, 2, 3, 6, 7, 8, 17], [3], []⟩, false⟩
noncomputable def i11 : FnI := ⟨Try.f11.body.getD .skip, Try.f11.results.toList, ⟨39, [0, 1, 2, 3, 6, 7, 12, 32], [3], []⟩, false⟩
noncomputable def i12 : FnI := ⟨Try.f12.body.getD .skip, Try.f12.results.toList, ⟨45, [0, 1, 2, 3, 4, 5, 26, 31, 44], [2, 3], []⟩, false⟩
noncomputable def i13 : FnI := ⟨Try.f13.body.getD .skip, Try.f13.results.toList, ⟨36, [0, 1, 2, 3, 6, 7, 9, 14, 15, 16, 17, 23], [3, 9, 31], []⟩, true⟩
noncomputable def i14 : FnI := ⟨Try.f14.body.getD .skip, Try.f14.results.toList, ⟨46, [0, 1, 2, 3, 6, 7, 8, 16, 26], [3, 42], []⟩, true⟩
noncomputable def i15 : FnI := ⟨Try.f15.body.getD .skip, Try.f15.results.toList, ⟨26, [0, 1, 4, 5, 10, 14, 25], [], []⟩, false⟩
noncomputable def i16 : FnI := ⟨Try.f16.body.getD .skip, Try.f16.results.toList, ⟨42, [0, 1, 2, 3, 8, 9, 10, 14, 24], [30], []⟩, true⟩
noncomputable def i17 : FnI := ⟨Try.f17.body.getD .skip, Try.f17.results.toList, ⟨96, [0, 1, 2, 3, 8, 9, 10, 12, 44, 70], [89], []⟩, true⟩
noncomputable def i18 : FnI := ⟨Try.f18.body.getD .skip, Try.f18.results.toList, ⟨25, [0, 2, 3, 4, 8], [15], []⟩, false⟩
noncomputable def i19 : FnI := ⟨Try.f19.body.getD .skip, Try.f19.results.toList, ⟨13, [0, 2], [], []⟩, false⟩
noncomputable def i20 : FnI := ⟨Try.f20.body.getD .skip, Try.f20.results.toList, ⟨15, [0, 1, 2, 6, 7], [], []⟩, false⟩
noncomputable def i21 : FnI := ⟨Try.f21.body.getD .skip, Try.f21.results.toList, ⟨65, [0, 1, 2, 6, 7, 8, 39], [], []⟩, false⟩
noncomputable def i22 : FnI := ⟨Try.f22.body.getD .skip, Try.f22.results.toList, ⟨15, [0, 1, 2, 6, 7], [], []⟩, false⟩
noncomputable def i23 : FnI := ⟨Try.f23.body.getD .skip, Try.f23.results.toList, ⟨8, [0, 2, 4], [5], []⟩, false⟩
noncomputable def i25 : FnI := ⟨Try.f25.body.getD .skip, Try.f25.results.toList, ⟨49, [0, 1, 2, 4, 6, 7, 8, 9, 10, 11, 17, 31], [4], []⟩, false⟩
noncomputable def i26 : FnI := ⟨Try.f26.body.getD .skip, Try.f26.results.toList, ⟨17, [0, 1, 2, 3, 4], [2, 3, 15], []⟩, false⟩
noncomputable def i27 : FnI := ⟨Try.f27.body.getD .skip, Try.f27.results.toList, ⟨18, [0, 2, 3, 5, 6, 7, 8, 9, 14], [], []⟩, false⟩
noncomputable def i28 : FnI := ⟨Try.f28.body.getD .skip, Try.f28.results.toList, ⟨20, [0, 1, 4, 5, 6, 11, 12, 13, 16, 19], [], []⟩, false⟩
noncomputable def i29 : FnI := ⟨Try.f29.body.getD .skip, Try.f29.results.toList, ⟨49, [0, 1, 2, 4, 6, 7, 8, 9, 10, 11, 17, 31], [4], []⟩, false⟩
noncomputable def i30 : FnI := ⟨Try.f30.body.getD .skip, Try.f30.results.toList, ⟨17, [0, 1, 2, 3, 4], [2, 3, 15], []⟩, false⟩
noncomputable def i31 : FnI := ⟨Try.f31.body.getD .skip, Try.f31.results.toList, ⟨20, [0, 1, 4, 5, 6, 11, 12, 13, 16, 19], [], []⟩, false⟩
noncomputable def i33 : FnI := ⟨Try.f33.body.getD .skip, Try.f33.results.toList, ⟨10, [0, 1], [], []⟩, false⟩
noncomputable def i34 : FnI := ⟨Try.f34.body.getD .skip, Try.f34.results.toList, ⟨6, [0, 2], [], []⟩, false⟩
noncomputable def i35 : FnI := ⟨Try.f35.body.getD .skip, Try.f35.results.toList, ⟨6, [0, 2], [], []⟩, false⟩
noncomputable def i36 : FnI := ⟨Try.f36.body.getD .skip, Try.f36.results.toList, ⟨14, [0, 1], [], []⟩, false⟩
noncomputable def i37 : FnI := ⟨Try.f37.body.getD .skip, Try.f37.results.toList, ⟨28, [0, 2, 3, 9], [], []⟩, false⟩
noncomputable def fnsL : List (Nat × FnI) := [(3, i3), (4, i4), (5, i5), (6, i6), (7, i7), (8, i8), (9, i9), (10, i10), (11, i11), (12, i12), (13, i13), (14, i14), (15, i15), (16, i16), (17, i17), (18, i18), (19, i19), (20, i20), (21, i21), (22, i22), (23, i23), (25, i25), (26, i26), (27, i27), (28, i28), (29, i29), (30, i30), (31, i31), (33, i33), (34, i34), (35, i35), (36, i36), (37, i37)]
noncomputable def Fs : FuncId → Option FnI := fnOf fnsL
theorem fk3 : FnOK Try.prog 3 i3 := .of Try.func3 (by kernel_rfl) (by kernel_rfl) (by kernel_rfl) Try.call3
theorem fk4 : FnOK Try.prog 4 i4 := .of Try.func4 (by kernel_rfl) (by kernel_rfl) (by kernel_rfl) Try.call4
theorem fk5 : FnOK Try.prog 5 i5 := .of Try.func5 (by kernel_rfl) (by kernel_rfl) (by kernel_rfl) Try.call5
theorem fk6 : FnOK Try.prog 6 i6 := .of Try.func6 (by kernel_rfl) (by kernel_rfl) (by kernel_rfl) Try.call6
theorem fk7 : FnOK Try.prog 7 i7 := .of Try.func7 (by kernel_rfl) (by kernel_rfl) (by kernel_rfl) Try.call7
theorem fk8 : FnOK Try.prog 8 i8 := .of Try.func8 (by kernel_rfl) (by kernel_rfl) (by kernel_rfl) Try.call8
theorem fk9 : FnOK Try.prog 9 i9 := .of Try.func9 (by kernel_rfl) (by kernel_rfl) (by kernel_rfl) Try.call9
theorem fk10 : FnOK Try.prog 10 i10 := .of Try.func10 (by kernel_rfl) (by kernel_rfl) (by kernel_rfl) Try.call10
theorem fk11 : FnOK Try.prog 11 i11 := .of Try.func11 (by kernel_rfl) (by kernel_rfl) (by kernel_rfl) Try.call11
theorem fk12 : FnOK Try.prog 12 i12 := .of Try.func12 (by kernel_rfl) (by kernel_rfl) (by kernel_rfl) Try.call12
theorem fk13 : FnOK Try.prog 13 i13 := .of Try.func13 (by kernel_rfl) (by kernel_rfl) (by kernel_rfl) Try.call13
theorem fk14 : FnOK Try.prog 14 i14 := .of Try.func14 (by kernel_rfl) (by kernel_rfl) (by kernel_rfl) Try.call14
theorem fk15 : FnOK Try.prog 15 i15 := .of Try.func15 (by kernel_rfl) (by kernel_rfl) (by kernel_rfl) Try.call15
theorem fk16 : FnOK Try.prog 16 i16 := .of Try.func16 (by kernel_rfl) (by kernel_rfl) (by kernel_rfl) Try.call16
theorem fk17 : FnOK Try.prog 17 i17 := .of Try.func17 (by kernel_rfl) (by kernel_rfl) (by kernel_rfl) Try.call17
theorem fk18 : FnOK Try.prog 18 i18 := .of Try.func18 (by kernel_rfl) (by kernel_rfl) (by kernel_rfl) Try.call18
theorem fk19 : FnOK Try.prog 19 i19 := .of Try.func19 (by kernel_rfl) (by kernel_rfl) (by kernel_rfl) Try.call19
theorem fk20 : FnOK Try.prog 20 i20 := .of Try.func20 (by kernel_rfl) (by kernel_rfl) (by kernel_rfl) Try.call20
theorem fk21 : FnOK Try.prog 21 i21 := .of Try.func21 (by kernel_rfl) (by kernel_rfl) (by kernel_rfl) Try.call21
theorem fk22 : FnOK Try.prog 22 i22 := .of Try.func22 (by kernel_rfl) (by kernel_rfl) (by kernel_rfl) Try.call22
theorem fk23 : FnOK Try.prog 23 i23 := .of Try.func23 (by kernel_rfl) (by kernel_rfl) (by kernel_rfl) Try.call23
theorem fk25 : FnOK Try.prog 25 i25 := .of Try.func25 (by kernel_rfl) (by kernel_rfl) (by kernel_rfl) Try.call25
theorem fk26 : FnOK Try.prog 26 i26 := .of Try.func26 (by kernel_rfl) (by kernel_rfl) (by kernel_rfl) Try.call26
theorem fk27 : FnOK Try.prog 27 i27 := .of Try.func27 (by kernel_rfl) (by kernel_rfl) (by kernel_rfl) Try.call27
theorem fk28 : FnOK Try.prog 28 i28 := .of Try.func28 (by kernel_rfl) (by kernel_rfl) (by kernel_rfl) Try.call28
theorem fk29 : FnOK Try.prog 29 i29 := .of Try.func29 (by kernel_rfl) (by kernel_rfl) (by kernel_rfl) Try.call29
theorem fk30 : FnOK Try.prog 30 i30 := .of Try.func30 (by kernel_rfl) (by kernel_rfl) (by kernel_rfl) Try.call30
theorem fk31 : FnOK Try.prog 31 i31 := .of Try.func31 (by kernel_rfl) (by kernel_rfl) (by kernel_rfl) Try.call31
theorem fk33 : FnOK Try.prog 33 i33 := .of Try.func33 (by kernel_rfl) (by kernel_rfl) (by kernel_rfl) Try.call33
theorem fk34 : FnOK Try.prog 34 i34 := .of Try.func34 (by kernel_rfl) (by kernel_rfl) (by kernel_rfl) Try.call34
theorem fk35 : FnOK Try.prog 35 i35 := .of Try.func35 (by kernel_rfl) (by kernel_rfl) (by kernel_rfl) Try.call35
theorem fk36 : FnOK Try.prog 36 i36 := .of Try.func36 (by kernel_rfl) (by kernel_rfl) (by kernel_rfl) Try.call36
theorem fk37 : FnOK Try.prog 37 i37 := .of Try.func37 (by kernel_rfl) (by kernel_rfl) (by kernel_rfl) Try.call37
theorem fnsOK : FnsOK Try.prog fnsL := ⟨fk3, fk4, fk5, fk6, fk7, fk8, fk9, fk10, fk11, fk12, fk13, fk14, fk15, fk16, fk17, fk18, fk19, fk20, fk21, fk22, fk23, fk25, fk26, fk27, fk28, fk29, fk30, fk31, fk33, fk34, fk35, fk36, fk37, trivial⟩
noncomputable def gl : Nat → Option D := fun _ => none
abbrev fn81 : Nat := 24
noncomputable def xt : CallF := fun f args h => if f = fn81 then dIns ty106 ti106 args h else none
theorem xtOK (X : Cx) : CallOK Try.prog X xt := fun f args h d h' hd g vs hi hgl hr => by
  unfold xt at hd
  split at hd
  · rename_i hf
    subst hf
    exact ins_ok tabOK insW24 Try.call24 ovl32 (show tab 27 = some ti58 from rfl) rfl (show tab 53 = some ti106 from rfl) (show tab 3 = some ti3 from rfl) rfl rfl (by decide) hd hi hr
  · skip
    cases hd
noncomputable def X : Cx := ⟨tab, gl, xt⟩
noncomputable def R : CallF := run X Fs
theorem R_ok : CallOK Try.prog X R := run_ok (X := X) tabOK mixo (xtOK X) (fns_ok fnsL fnsOK)
theorem xins81 (args : List D) (h : Hp) : R fn81 args h = dIns ty106 ti106 args h := (run_xt (X := X) (F := Fs) (by kernel_rfl) _ _).trans (by simp [X, xt])
end Go.Proofs.Ytfjbbeleejnbgaa
