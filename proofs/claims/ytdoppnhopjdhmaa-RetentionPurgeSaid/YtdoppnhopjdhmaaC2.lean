/- Functions as Lean functions on data. -/
import Derived.Test.YtdoppnhopjdhmaaC1
set_option linter.unusedSimpArgs false
set_option linter.unusedVariables false
set_option linter.unnecessarySimpa false
set_option maxRecDepth 100000
namespace Go.Proofs.Ytdoppnhopjdhmaa
open Go.Eng Go.Pi
/-- a loop: slots 4 5 6 10 19 -/
noncomputable def F76_L0 (t0 : D) (t1 : D) (ds : List D) (h_1 : Hp) : Option Out :=
    (some ((nth 2 ds) : D)).bind fun t7 =>
    (some (t0 : D)).bind fun t8 =>
    (dLenT tab ty29 t8).bind fun t9 =>
    (dBin tab .lss ty3 t7 t9).bind fun t10 =>
    dIf t10
      ((some (t0 : D)).bind fun t13 =>
    (some ((nth 2 ds) : D)).bind fun t14 =>
    (dIndexAddr tab ty29 t13 t14).bind fun t15 =>
    (dFieldAddr tab ty109 0 t15).bind fun t16 =>
    (dLoad tab h_1 ty9 t16).bind fun t17 =>
    (some (t1 : D)).bind fun t18 =>
    (dBin tab .eql ty9 t17 t18).bind fun t19 =>
    dIf t19
      ((some (t0 : D)).bind fun t20 =>
      (some ((nth 2 ds) : D)).bind fun t21 =>
      (dIndexAddr tab ty29 t20 t21).bind fun t22 =>
      (dFieldAddr tab ty109 1 t22).bind fun t23 =>
      (dLoad tab h_1 ty9 t23).bind fun t24 =>
      (some (t24 : D)).bind fun t4_1 =>
      (some (.bool true : D)).bind fun t5_1 =>
      some (.ret, [t4_1, t5_1, (nth 2 ds), t10, t19], h_1))
      ((some ((nth 2 ds) : D)).bind fun t11 =>
    (dBin tab .add ty3 t11 (.int .i64 1)).bind fun t12 =>
    (some (t12 : D)).bind fun t6_1 =>
    some (.nrm, [(nth 0 ds), (nth 1 ds), t6_1, t10, t19], h_1)))
      (some ((.ext 0), [(nth 0 ds), (nth 1 ds), (nth 2 ds), t10, (nth 4 ds)], h_1))
noncomputable def F76 (t0 : D) (t1 : D) (h : Hp) : Option (D × Hp) :=
  (some (.str [] : D)).bind fun t4 =>
  (some (.bool false : D)).bind fun t5 =>
  (some (.int .i64 0 : D)).bind fun t6 =>
  ((loopW (F76_L0 t0 t1) [t4, t5, t6, .any, .any] h).bind fun r =>
    some ((unblk 0 r.1), [(nth 0 r.2.1), (nth 1 r.2.1), (nth 2 r.2.1), (nth 3 r.2.1), (nth 4 r.2.1)], r.2.2)).bind fun r_1 =>
  toEnd r_1.1 ((some (.str [] : D)).bind fun t4_2 =>
  (some (.bool false : D)).bind fun t5_2 =>
  ((some (t4_2 : D)).bind fun d => ((some (t5_2 : D)).bind fun d => (some ([] : List D)).bind fun ds => some (d :: ds)).bind fun ds => some (d :: ds)).bind fun ds => some (mkRes ds, r_1.2.2)) fun x => exEnd x (((some ((nth 0 r_1.2.1) : D)).bind fun d => ((some ((nth 1 r_1.2.1) : D)).bind fun d => (some ([] : List D)).bind fun ds => some (d :: ds)).bind fun ds => some (d :: ds)).bind fun ds => some (mkRes ds, r_1.2.2))
theorem e76 (t0 : D) (t1 : D) (h : Hp) : R fn76 [t0, t1] h = F76 t0 t1 h :=
  (run_fn (X := X) (F := Fs) (fi := i74) (by kernel_rfl) _ _).trans (by kernel_rfl)
noncomputable def F102 (t0 : D) (h : Hp) : Option (D × Hp) :=
  (some (.str [] : D)).bind fun t2 =>
  (pLitF tab ty98 14 [0, 1, 2, 3, 4, 5, 6, 7, 8, 9, 10, 11, 12, 13] [.str [103, 101, 116], .str [101, 114, 114, 111, 114], .str [119, 97, 114, 110], .str [97, 49], .str [117, 115, 101, 114, 95, 55], .str [120], .str [84, 105, 109, 101, 111, 117, 116], .str [50, 48, 48], .str [71, 69, 84], .str [101, 114, 114, 111], .str [122], .str [], .str [255], .str [97, 46, 98]]).bind fun t4 =>
  (some (t4 : D)).bind fun t3 =>
  (some (t3 : D)).bind fun t5 =>
  (some (t0 : D)).bind fun t6 =>
  (some (t3 : D)).bind fun t7 =>
  (dLenT tab ty98 t7).bind fun t8 =>
  (R fn24 [t6, t8] h).bind fun p9 =>
  (dIndexAddr tab ty98 t5 p9.1).bind fun t10 =>
  (dLoad tab p9.2 ty9 t10).bind fun t11 =>
  (some (t11 : D)).bind fun t2_1 =>
  ((some (t2_1 : D)).bind fun d => (some ([] : List D)).bind fun ds => some (d :: ds)).bind fun ds => some (mkRes ds, p9.2)
theorem e102 (t0 : D) (h : Hp) : R fn102 [t0] h = F102 t0 h :=
  (run_fn (X := X) (F := Fs) (fi := i75) (by kernel_rfl) _ _).trans (by kernel_rfl)
/-- a loop: slots 2 3 9 -/
noncomputable def F103_L0 (t0 : D) (ds : List D) (h_1 : Hp) : Option Out :=
    (some ((nth 0 ds) : D)).bind fun t7 =>
    (some ((nth 1 ds) : D)).bind fun t8 =>
    (dBin tab .lss ty3 t7 t8).bind fun t9 =>
    dIf t9
      ((some (t0 : D)).bind fun t14 =>
    (some ((nth 0 ds) : D)).bind fun t15 =>
    (some (t0 : D)).bind fun t16 =>
    (some ((nth 1 ds) : D)).bind fun t17 =>
    (some (t0 : D)).bind fun t18 =>
    (some ((nth 1 ds) : D)).bind fun t19 =>
    (dIndexAddr tab ty58 t18 t19).bind fun t20 =>
    (dLoad tab h_1 ty106 t20).bind fun t21 =>
    (some (t0 : D)).bind fun t22 =>
    (some ((nth 0 ds) : D)).bind fun t23 =>
    (dIndexAddr tab ty58 t22 t23).bind fun t24 =>
    (dLoad tab h_1 ty106 t24).bind fun t25 =>
    (dIndexAddr tab ty58 t14 t15).bind fun t26 =>
    ((dStore tab h_1 ty106 t26 t21).bind fun h' => some ((.und : D), h')).bind fun p913 =>
    (dIndexAddr tab ty58 t16 t17).bind fun t27 =>
    ((dStore tab p913.2 ty106 t27 t25).bind fun h' => some ((.und : D), h')).bind fun p915 =>
    (some ((nth 0 ds) : D)).bind fun t10 =>
    (dBin tab .add ty3 t10 (.int .i64 1)).bind fun t11 =>
    (some ((nth 1 ds) : D)).bind fun t12 =>
    (dBin tab .sub ty3 t12 (.int .i64 1)).bind fun t13 =>
    (some (t11 : D)).bind fun t2_1 =>
    (some (t13 : D)).bind fun t3_1 =>
    some (.nrm, [t2_1, t3_1, t9], p915.2))
      (some ((.ext 0), [(nth 0 ds), (nth 1 ds), t9], h_1))
noncomputable def F103 (t0 : D) (h : Hp) : Option (D × Hp) :=
  (some (t0 : D)).bind fun t4 =>
  (dLenT tab ty58 t4).bind fun t5 =>
  (dBin tab .sub ty3 t5 (.int .i64 1)).bind fun t6 =>
  (some (.int .i64 0 : D)).bind fun t2 =>
  (some (t6 : D)).bind fun t3 =>
  ((loopW (F103_L0 t0) [t2, t3, .any] h).bind fun r =>
    some ((unblk 0 r.1), [(nth 0 r.2.1), (nth 1 r.2.1), (nth 2 r.2.1)], r.2.2)).bind fun r_1 =>
  exEnd r_1.1 ((some ([] : List D)).bind fun ds => some (mkRes ds, r_1.2.2))
theorem e103 (t0 : D) (h : Hp) : R fn103 [t0] h = F103 t0 h :=
  (run_fn (X := X) (F := Fs) (fi := i76) (by kernel_rfl) _ _).trans (by kernel_rfl)
end Go.Proofs.Ytdoppnhopjdhmaa
