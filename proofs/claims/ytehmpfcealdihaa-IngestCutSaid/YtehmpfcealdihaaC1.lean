/- Functions as Lean functions on data. -/
import Derived.Test.YtehmpfcealdihaaB1
set_option linter.unusedSimpArgs false
set_option linter.unusedVariables false
set_option linter.unnecessarySimpa false
set_option maxRecDepth 100000
namespace Go.Proofs.Ytehmpfcealdihaa
open Go.Eng Go.Pi
/-- a loop: slots 4 8 9 10 11 12 47 48 71 93 -/
noncomputable def F1000_L0 (t6 : D) (t45 : D) (t46 : D) (ds : List D) (h_1 : Hp) : Option Out :=
    (dBin tab .lss ty3 (nth 6 ds) t46).bind fun t48 =>
    dIf t48
      ((dIndexAddr tab ty82 t45 (nth 6 ds)).bind fun t49 =>
    (dLoad tab h_1 ty3 t49).bind fun t50 =>
    (some (t50 : D)).bind fun t8 =>
    (dLoad tab h_1 ty74 t6).bind fun t52 =>
    (some (t8 : D)).bind fun t53 =>
    (R fn1002 [t52, t53] h_1).bind fun p54 =>
    (some (p54.1 : D)).bind fun t51 =>
    (dExtract 0 t51).bind fun t55 =>
    (dExtract 1 t51).bind fun t56 =>
    (boxN 11 t55).bind fun t9 =>
    (some (t56 : D)).bind fun t10 =>
    (dLoad tab p54.2 ty74 t6).bind fun t58 =>
    (some (t8 : D)).bind fun t59 =>
    (R fn1003 [t58, t59] p54.2).bind fun p60 =>
    (some (p60.1 : D)).bind fun t57 =>
    (dExtract 0 t57).bind fun t61 =>
    (dExtract 1 t57).bind fun t62 =>
    (boxN 11 t61).bind fun t11 =>
    (some (t62 : D)).bind fun t12 =>
    (some (t10 : D)).bind fun t63 =>
    (some (t12 : D)).bind fun t64 =>
    (dBin tab .neq ty4 t63 t64).bind fun t65 =>
    (some (t65 : D)).bind fun t66 =>
    (gd t66 false (dLoad tab p60.2 ty74 t9)).bind fun t67 =>
    (gd t66 false (dLoad tab p60.2 ty74 t11)).bind fun t68 =>
    (gdW t66 false p60.2 (R fn82 [t67, t68] p60.2)).bind fun p69 =>
    (gd t66 false (dUn .not p69.1)).bind fun t70 =>
    (dPick t66 (.bool true) t70).bind fun t71 =>
    dIf t71
      ((some (.bool false : D)).bind fun t4_2 =>
      some (.ret, [t4_2, t8, t9, t10, t11, t12, (nth 6 ds), t48, t71, (nth 9 ds)], p69.2))
      ((some (t10 : D)).bind fun t72 =>
    (some (t72 : D)).bind fun t73 =>
    (gd t73 true (dLoad tab p69.2 ty74 t9)).bind fun t74 =>
    (gdW t73 true p69.2 (R fn1004 [t74] p69.2)).bind fun p75 =>
    (gd t73 true (dBin tab .neq ty49 p75.1 (.int .i64 0))).bind fun t76 =>
    (gd t73 true (some (t76 : D))).bind fun t77 =>
    (gd t77 false (dFieldAddr tab ty74 1 t9)).bind fun t78 =>
    (gd t77 false (dFieldAddr tab ty31 2 t78)).bind fun t79 =>
    (gd t77 false (dLoad tab p75.2 ty3 t79)).bind fun t80 =>
    (gd t77 false (some (t8 : D))).bind fun t81 =>
    (gd t77 false (dBin tab .neq ty3 t80 t81)).bind fun t82 =>
    (gd t73 true (dPick t77 (.bool true) t82)).bind fun t83 =>
    (gd t73 true (some (t83 : D))).bind fun t84 =>
    (gd t84 false (dFieldAddr tab ty74 1 t9)).bind fun t85 =>
    (gd t84 false (dFieldAddr tab ty31 3 t85)).bind fun t86 =>
    (gd t84 false (dLoad tab p75.2 ty3 t86)).bind fun t87 =>
    (gd t84 false (dFieldAddr tab ty74 1 t6)).bind fun t88 =>
    (gd t84 false (dFieldAddr tab ty31 3 t88)).bind fun t89 =>
    (gd t84 false (dLoad tab p75.2 ty3 t89)).bind fun t90 =>
    (gd t84 false (dBin tab .neq ty3 t87 t90)).bind fun t91 =>
    (gd t73 true (dPick t84 (.bool true) t91)).bind fun t92 =>
    (dPick t73 t92 (.bool false)).bind fun t93 =>
    dIf t93
      ((some (.bool false : D)).bind fun t4_3 =>
      some (.ret, [t4_3, t8, t9, t10, t11, t12, (nth 6 ds), t48, t71, t93], p75.2))
      ((dBin tab .add ty3 (nth 6 ds) (.int .i64 1)).bind fun t94 =>
    (some (t94 : D)).bind fun t47_1 =>
    some (.nrm, [(nth 0 ds), t8, t9, t10, t11, t12, t47_1, t48, t71, t93], p75.2))))
      (some ((.ext 0), [(nth 0 ds), (nth 1 ds), (nth 2 ds), (nth 3 ds), (nth 4 ds), (nth 5 ds), (nth 6 ds), t48, (nth 8 ds), (nth 9 ds)], h_1))
noncomputable def F1000 (t0 : D) (t1 : D) (h : Hp) : Option (D × Hp) :=
  (some (.bool false : D)).bind fun t4 =>
  (R fn1001 [] h).bind fun p13 =>
  (dUn .not p13.1).bind fun t14 =>
  dIf t14
    ((some (.bool false : D)).bind fun t4_1 =>
    ((some (t4_1 : D)).bind fun d => (some ([] : List D)).bind fun ds => some (d :: ds)).bind fun ds => some (mkRes ds, p13.2))
    ((some (t0 : D)).bind fun t15 =>
  (R fn44 [t15, .int .i64 60] p13.2).bind fun p16 =>
  (some (p16.1 : D)).bind fun t5 =>
  (some (t5 : D)).bind fun t17 =>
  (some (t5 : D)).bind fun t18 =>
  (R fn24 [t18, .int .i64 20] p16.2).bind fun p19 =>
  (R fn84 [t17, .int .i64 1, .int .i64 5, p19.1] p19.2).bind fun p20 =>
  (boxN 11 p20.1).bind fun t6 =>
  (some (t1 : D)).bind fun t21 =>
  (dFieldAddr tab ty74 1 t6).bind fun t22 =>
  (dFieldAddr tab ty31 2 t22).bind fun t23 =>
  (dLoad tab p20.2 ty3 t23).bind fun t24 =>
  (dFieldAddr tab ty74 1 t6).bind fun t25 =>
  (dFieldAddr tab ty31 3 t25).bind fun t26 =>
  (dLoad tab p20.2 ty3 t26).bind fun t27 =>
  (dFieldAddr tab ty74 1 t6).bind fun t28 =>
  (dFieldAddr tab ty31 4 t28).bind fun t29 =>
  (dLoad tab p20.2 ty28 t29).bind fun t30 =>
  (dFieldAddr tab ty74 1 t6).bind fun t31 =>
  (dFieldAddr tab ty31 4 t31).bind fun t32 =>
  (dLoad tab p20.2 ty28 t32).bind fun t33 =>
  (dLenT tab ty28 t33).bind fun t34 =>
  (dBin tab .sub ty3 t34 (.int .i64 1)).bind fun t35 =>
  (dIndexAddr tab ty28 t30 t35).bind fun t36 =>
  (dFieldAddr tab ty78 0 t36).bind fun t37 =>
  (dLoad tab p20.2 ty3 t37).bind fun t38 =>
  (dFieldAddr tab ty74 1 t6).bind fun t39 =>
  (dFieldAddr tab ty31 2 t39).bind fun t40 =>
  (dLoad tab p20.2 ty3 t40).bind fun t41 =>
  (some (t5 : D)).bind fun t42 =>
  (R fn24 [t42, .int .i64 30] p20.2).bind fun p43 =>
  (dBin tab .add ty3 t41 p43.1).bind fun t44 =>
  (pLitF tab ty82 5 [0, 1, 2, 3, 4] [t21, t24, t27, t38, t44]).bind fun t45 =>
  (dLenT tab ty82 t45).bind fun t46 =>
  (some (.int .i64 0 : D)).bind fun t47 =>
  chk (dLoad tab p43.2 ty3 t23 = some t24)
  (chk (dLoad tab p43.2 ty3 t26 = some t27)
  (chk (dLoad tab p43.2 ty28 t29 = some t30)
  (chk (dLoad tab p43.2 ty28 t32 = some t33)
  (chk (dLoad tab p43.2 ty3 t37 = some t38)
  (chk (dLoad tab p43.2 ty3 t40 = some t41)
  (((loopW (F1000_L0 t6 t45 t46) [t4, .any, .any, .any, .any, .any, t47, .any, .any, .any] p43.2).bind fun r =>
    some ((unblk 0 r.1), [(nth 0 r.2.1), (nth 1 r.2.1), (nth 2 r.2.1), (nth 3 r.2.1), (nth 4 r.2.1), (nth 5 r.2.1), (nth 6 r.2.1), (nth 7 r.2.1), (nth 8 r.2.1), (nth 9 r.2.1)], r.2.2)).bind fun r_1 =>
  toEnd r_1.1 ((some (.bool true : D)).bind fun t4_4 =>
  ((some (t4_4 : D)).bind fun d => (some ([] : List D)).bind fun ds => some (d :: ds)).bind fun ds => some (mkRes ds, r_1.2.2)) fun x => exEnd x (((some ((nth 0 r_1.2.1) : D)).bind fun d => (some ([] : List D)).bind fun ds => some (d :: ds)).bind fun ds => some (mkRes ds, r_1.2.2)))))))))
theorem e1000 (t0 : D) (t1 : D) (h : Hp) : R fn1000 [t0, t1] h = F1000 t0 t1 h :=
  (run_fn (X := X) (F := Fs) (fi := i3) (by kernel_rfl) _ _).trans (by kernel_rfl)
noncomputable def F1001 (h : Hp) : Option (D × Hp) :=
  (some (.bool false : D)).bind fun t0 =>
  (dBuild tab ty1006 [0, 1, 2] [.int .i64 1, .int .i64 2, .int .i64 3]).bind fun t1 =>
  (pLitF tab ty1007 1 [0] [t1]).bind fun t2 =>
  (dBuild tab ty1009 [0] [t2]).bind fun t3 =>
  (R fn1005 [t3, .int .i64 1, .int .i64 2] h).bind fun p4 =>
  (dBin tab .eql ty3 p4.1 (.int .i64 3)).bind fun t5 =>
  (some (t5 : D)).bind fun t0_1 =>
  ((some (t0_1 : D)).bind fun d => (some ([] : List D)).bind fun ds => some (d :: ds)).bind fun ds => some (mkRes ds, p4.2)
theorem e1001 (h : Hp) : R fn1001 [] h = F1001 h :=
  (run_fn (X := X) (F := Fs) (fi := i4) (by kernel_rfl) _ _).trans (by kernel_rfl)
noncomputable def F44 (t0 : D) (t1 : D) (h : Hp) : Option (D × Hp) :=
  (some (.nilp : D)).bind fun t4 =>
  (some (t0 : D)).bind fun t5 =>
  (some (t0 : D)).bind fun t6 =>
  (dLenT tab ty22 t6).bind fun t7 =>
  (some (t1 : D)).bind fun t8 =>
  (dMin t7 t8).bind fun t9 =>
  (dSliceAt tab ty22 false true false [t5, t9]).bind fun t10 =>
  (dBuild tab ty101 [0] [t10]).bind fun t11 =>
  (wBox ty101 2 h t11).bind fun p12 =>
  (some (p12.1 : D)).bind fun t4_1 =>
  ((some (t4_1 : D)).bind fun d => (some ([] : List D)).bind fun ds => some (d :: ds)).bind fun ds => some (mkRes ds, p12.2)
theorem e44 (t0 : D) (t1 : D) (h : Hp) : R fn44 [t0, t1] h = F44 t0 t1 h :=
  (run_fn (X := X) (F := Fs) (fi := i5) (by kernel_rfl) _ _).trans (by kernel_rfl)
/-- a loop: slots 10 11 12 13 24 -/
noncomputable def F84_L0 (t0 : D) (p9 : D × Hp) (ds : List D) (h_1 : Hp) : Option Out :=
    (some ((nth 1 ds) : D)).bind fun t23 =>
    (dBin tab .gtr ty3 t23 (.int .i64 0)).bind fun t24 =>
    dIf t24
      ((some (t0 : D)).bind fun t27 =>
    (R fn96 [t27] h_1).bind fun p28 =>
    (some (p28.1 : D)).bind fun t12 =>
    (some (t12 : D)).bind fun t29 =>
    (dLenT tab ty9 t29).bind fun t30 =>
    (dBin tab .add ty3 t30 (.int .i64 1)).bind fun t31 =>
    (some (t0 : D)).bind fun t32 =>
    (R fn24 [t32, .int .i64 2] p28.2).bind fun p33 =>
    (dBin tab .add ty3 t31 p33.1).bind fun t34 =>
    (some (t34 : D)).bind fun t13 =>
    (dFieldAddr tab ty31 4 p9.1).bind fun t35 =>
    (dLoad tab p33.2 ty28 t35).bind fun t36 =>
    (some ((nth 0 ds) : D)).bind fun t37 =>
    (some (t13 : D)).bind fun t38 =>
    (some (t12 : D)).bind fun t39 =>
    (dBuild tab ty78 [0, 1, 2] [t37, t38, t39]).bind fun t40 =>
    (pLitF tab ty28 1 [0] [t40]).bind fun t41 =>
    (dAppend tab p33.2 ty28 ty28 t36 t41).bind fun p42 =>
    (dFieldAddr tab ty31 4 p9.1).bind fun t43 =>
    ((dStore tab p42.2 ty28 t43 p42.1).bind fun h' => some ((.und : D), h')).bind fun p909 =>
    (some ((nth 0 ds) : D)).bind fun t44 =>
    (some (t13 : D)).bind fun t45 =>
    (dBin tab .add ty3 t44 t45).bind fun t46 =>
    (some (t46 : D)).bind fun t10_1 =>
    (some ((nth 1 ds) : D)).bind fun t25 =>
    (dBin tab .sub ty3 t25 (.int .i64 1)).bind fun t26 =>
    (some (t26 : D)).bind fun t11_1 =>
    some (.nrm, [t10_1, t11_1, t12, t13, t24], p909.2))
      (some ((.ext 0), [(nth 0 ds), (nth 1 ds), (nth 2 ds), (nth 3 ds), t24], h_1))
/-- a loop: slots 14 56 -/
noncomputable def F84_L1 (p9 : D × Hp) (ds_1 : List D) (h_2 : Hp) : Option Out :=
    (some ((nth 0 ds_1) : D)).bind fun t52 =>
    (dFieldAddr tab ty31 4 p9.1).bind fun t53 =>
    (dLoad tab h_2 ty28 t53).bind fun t54 =>
    (dLenT tab ty28 t54).bind fun t55 =>
    (dBin tab .lss ty3 t52 t55).bind fun t56 =>
    dIf t56
      ((dFieldAddr tab ty31 4 p9.1).bind fun t59 =>
    (dLoad tab h_2 ty28 t59).bind fun t60 =>
    (some ((nth 0 ds_1) : D)).bind fun t61 =>
    (dIndexAddr tab ty28 t60 t61).bind fun t62 =>
    (dFieldAddr tab ty78 2 t62).bind fun t63 =>
    ((dStore tab h_2 ty9 t63 (.str [])).bind fun h' => some ((.und : D), h')).bind fun p905_1 =>
    (some ((nth 0 ds_1) : D)).bind fun t57 =>
    (dBin tab .add ty3 t57 (.int .i64 1)).bind fun t58 =>
    (some (t58 : D)).bind fun t14_1 =>
    some (.nrm, [t14_1, t56], p905_1.2))
      (some ((.ext 2), [(nth 0 ds_1), t56], h_2))
noncomputable def F84 (t0 : D) (t1 : D) (t2 : D) (t3 : D) (h : Hp) : Option (D × Hp) :=
  (some ((.ptr h.length 0 0 : D), dNew h ty74 11 [[.str [], .int .i64 0, .int .i64 0, .int .i64 0, .int .i64 0, .nils, .int .i64 0, .int .i64 0, .str [], .str [], .nils]])).bind fun p8 =>
  (some (t1 : D)).bind fun t15 =>
  (some (t2 : D)).bind fun t16 =>
  (some (t3 : D)).bind fun t17 =>
  (dBuild tab ty31 [0, 1, 2] [t15, t16, t17]).bind fun t18 =>
  (some ((.ptr p8.2.length 0 0 : D), dNew p8.2 ty31 10 [[.int .i64 0, .int .i64 0, .int .i64 0, .int .i64 0, .nils, .int .i64 0, .int .i64 0, .str [], .str [], .nils]])).bind fun p9 =>
  ((dStore tab p9.2 ty31 p9.1 t18).bind fun h' => some ((.und : D), h')).bind fun p905 =>
  (some (t3 : D)).bind fun t19 =>
  (some (t19 : D)).bind fun t10 =>
  (some (t0 : D)).bind fun t20 =>
  (R fn24 [t20, .int .i64 3] p905.2).bind fun p21 =>
  (dBin tab .add ty3 (.int .i64 1) p21.1).bind fun t22 =>
  (some (t22 : D)).bind fun t11 =>
  ((loopW (F84_L0 t0 p9) [t10, t11, .any, .any, .any] p21.2).bind fun r =>
    some ((unblk 0 r.1), [(nth 0 r.2.1), (nth 1 r.2.1), (nth 2 r.2.1), (nth 3 r.2.1), (nth 4 r.2.1)], r.2.2)).bind fun r_1 =>
  toEnd r_1.1 ((some ((nth 0 r_1.2.1) : D)).bind fun t47 =>
  (dFieldAddr tab ty31 3 p9.1).bind fun t48 =>
  ((dStore tab r_1.2.2 ty3 t48 t47).bind fun h' => some ((.und : D), h')).bind fun p902 =>
  (some (t0 : D)).bind fun t49 =>
  (R fn24 [t49, .int .i64 5] p902.2).bind fun p50 =>
  (dBin tab .eql ty3 p50.1 (.int .i64 4)).bind fun t51 =>
  dIf t51
    ((some (.int .i64 0 : D)).bind fun t14 =>
    ((loopW (F84_L1 p9) [t14, .any] p50.2).bind fun r_2 =>
      some ((unblk 2 r_2.1), [(nth 0 r_2.2.1), (nth 1 r_2.2.1)], r_2.2.2)).bind fun r_3 =>
    toEnd r_3.1 ((pLitF tab ty98 3 [0, 1, 2] [.str [115, 97, 109, 112, 108, 101], .str [100, 114, 111, 112], .str [116, 111, 111, 45, 108, 111, 110, 103]]).bind fun t64 =>
    (some (t0 : D)).bind fun t65 =>
    (R fn24 [t65, .int .i64 3] r_3.2.2).bind fun p66 =>
    (dIndexAddr tab ty98 t64 p66.1).bind fun t67 =>
    (dLoad tab p66.2 ty9 t67).bind fun t68 =>
    (dLoad tab p66.2 ty31 p9.1).bind fun t69 =>
    (dBuild tab ty74 [0, 1] [t68, t69]).bind fun t70 =>
    chk (dLoad tab r_3.2.2 ty31 p9.1 = some t69)
    (((dStore tab p66.2 ty74 p8.1 t70).bind fun h' => some ((.und : D), h')).bind fun p907 =>
    ((some (p8.1 : D)).bind fun p => (dLoad tab p907.2 ty74 p).bind fun d => (some ([] : List D)).bind fun ds => some (d :: ds)).bind fun ds => scope h p907.2 (mkRes ds))) fun x_1 => toEnd x_1 ((some (t0 : D)).bind fun t71 =>
  (R fn35 [t71] r_3.2.2).bind fun p72 =>
  (some (t0 : D)).bind fun t73 =>
  (R fn97 [t73] p72.2).bind fun p74 =>
  (dFieldAddr tab ty31 5 p9.1).bind fun t75 =>
  ((dStore tab p74.2 ty3 t75 p72.1).bind fun h' => some ((.und : D), h')).bind fun p905_2 =>
  (dFieldAddr tab ty31 6 p9.1).bind fun t76 =>
  ((dStore tab p905_2.2 ty3 t76 p74.1).bind fun h' => some ((.und : D), h')).bind fun p907_1 =>
  (pLitF tab ty98 4 [0, 1, 2, 3] [.str [116, 49], .str [116, 50], .str [], .str [49, 58, 50, 58, 48]]).bind fun t77 =>
  (some (t0 : D)).bind fun t78 =>
  (R fn24 [t78, .int .i64 4] p907_1.2).bind fun p79 =>
  (dIndexAddr tab ty98 t77 p79.1).bind fun t80 =>
  (dLoad tab p79.2 ty9 t80).bind fun t81 =>
  (pLitF tab ty98 2 [0, 1] [.str [109, 97, 105, 110], .str [100, 101, 98, 117, 103]]).bind fun t82 =>
  (some (t0 : D)).bind fun t83 =>
  (R fn24 [t83, .int .i64 2] p79.2).bind fun p84 =>
  (dIndexAddr tab ty98 t82 p84.1).bind fun t85 =>
  (dLoad tab p84.2 ty9 t85).bind fun t86 =>
  (dFieldAddr tab ty31 7 p9.1).bind fun t87 =>
  ((dStore tab p84.2 ty9 t87 t81).bind fun h' => some ((.und : D), h')).bind fun p911 =>
  chk (dLoad tab p84.2 ty9 t80 = some t81)
  (chk (dLoad tab p911.2 ty9 t85 = some t86)
  ((dFieldAddr tab ty31 8 p9.1).bind fun t88 =>
  ((dStore tab p911.2 ty9 t88 t86).bind fun h' => some ((.und : D), h')).bind fun p913 =>
  (some (t0 : D)).bind fun t89 =>
  (R fn98 [t89] p913.2).bind fun p90 =>
  (dFieldAddr tab ty31 9 p9.1).bind fun t91 =>
  ((dStore tab p90.2 ty29 t91 p90.1).bind fun h' => some ((.und : D), h')).bind fun p903 =>
  (dLoad tab p903.2 ty31 p9.1).bind fun t92 =>
  (dBuild tab ty74 [1] [t92]).bind fun t93 =>
  ((dStore tab p903.2 ty74 p8.1 t93).bind fun h' => some ((.und : D), h')).bind fun p902_1 =>
  ((some (p8.1 : D)).bind fun p => (dLoad tab p902_1.2 ty74 p).bind fun d => (some ([] : List D)).bind fun ds => some (d :: ds)).bind fun ds => scope h p902_1.2 (mkRes ds)))) fun x_2 => exEnd x_2 (((some (p8.1 : D)).bind fun p => (dLoad tab r_3.2.2 ty74 p).bind fun d => (some ([] : List D)).bind fun ds => some (d :: ds)).bind fun ds => scope h r_3.2.2 (mkRes ds)))
    ((some (t0 : D)).bind fun t71_1 =>
  (R fn35 [t71_1] p50.2).bind fun p72_1 =>
  (some (t0 : D)).bind fun t73_1 =>
  (R fn97 [t73_1] p72_1.2).bind fun p74_1 =>
  (dFieldAddr tab ty31 5 p9.1).bind fun t75_1 =>
  ((dStore tab p74_1.2 ty3 t75_1 p72_1.1).bind fun h' => some ((.und : D), h')).bind fun p905_3 =>
  (dFieldAddr tab ty31 6 p9.1).bind fun t76_1 =>
  ((dStore tab p905_3.2 ty3 t76_1 p74_1.1).bind fun h' => some ((.und : D), h')).bind fun p907_2 =>
  (pLitF tab ty98 4 [0, 1, 2, 3] [.str [116, 49], .str [116, 50], .str [], .str [49, 58, 50, 58, 48]]).bind fun t77_1 =>
  (some (t0 : D)).bind fun t78_1 =>
  (R fn24 [t78_1, .int .i64 4] p907_2.2).bind fun p79_1 =>
  (dIndexAddr tab ty98 t77_1 p79_1.1).bind fun t80_1 =>
  (dLoad tab p79_1.2 ty9 t80_1).bind fun t81_1 =>
  (pLitF tab ty98 2 [0, 1] [.str [109, 97, 105, 110], .str [100, 101, 98, 117, 103]]).bind fun t82_1 =>
  (some (t0 : D)).bind fun t83_1 =>
  (R fn24 [t83_1, .int .i64 2] p79_1.2).bind fun p84_1 =>
  (dIndexAddr tab ty98 t82_1 p84_1.1).bind fun t85_1 =>
  (dLoad tab p84_1.2 ty9 t85_1).bind fun t86_1 =>
  (dFieldAddr tab ty31 7 p9.1).bind fun t87_1 =>
  ((dStore tab p84_1.2 ty9 t87_1 t81_1).bind fun h' => some ((.und : D), h')).bind fun p911_1 =>
  chk (dLoad tab p84_1.2 ty9 t80_1 = some t81_1)
  (chk (dLoad tab p911_1.2 ty9 t85_1 = some t86_1)
  ((dFieldAddr tab ty31 8 p9.1).bind fun t88_1 =>
  ((dStore tab p911_1.2 ty9 t88_1 t86_1).bind fun h' => some ((.und : D), h')).bind fun p913_1 =>
  (some (t0 : D)).bind fun t89_1 =>
  (R fn98 [t89_1] p913_1.2).bind fun p90_1 =>
  (dFieldAddr tab ty31 9 p9.1).bind fun t91_1 =>
  ((dStore tab p90_1.2 ty29 t91_1 p90_1.1).bind fun h' => some ((.und : D), h')).bind fun p903_1 =>
  (dLoad tab p903_1.2 ty31 p9.1).bind fun t92_1 =>
  (dBuild tab ty74 [1] [t92_1]).bind fun t93_1 =>
  ((dStore tab p903_1.2 ty74 p8.1 t93_1).bind fun h' => some ((.und : D), h')).bind fun p902_2 =>
  ((some (p8.1 : D)).bind fun p => (dLoad tab p902_2.2 ty74 p).bind fun d => (some ([] : List D)).bind fun ds => some (d :: ds)).bind fun ds => scope h p902_2.2 (mkRes ds))))) fun x => exEnd x (((some (p8.1 : D)).bind fun p => (dLoad tab r_1.2.2 ty74 p).bind fun d => (some ([] : List D)).bind fun ds => some (d :: ds)).bind fun ds => scope h r_1.2.2 (mkRes ds))
theorem e84 (t0 : D) (t1 : D) (t2 : D) (t3 : D) (h : Hp) : R fn84 [t0, t1, t2, t3] h = F84 t0 t1 t2 t3 h :=
  (run_fn (X := X) (F := Fs) (fi := i6) (by kernel_rfl) _ _).trans (by kernel_rfl)
noncomputable def F24 (t0 : D) (t1 : D) (h : Hp) : Option (D × Hp) :=
  (some (.int .i64 0 : D)).bind fun t4 =>
  (some (t0 : D)).bind fun t6 =>
  (R fn57 [t6] h).bind fun p7 =>
  (dUn .not p7.1).bind fun t8 =>
  (some (t8 : D)).bind fun t9 =>
  (gd t9 false (some (t1 : D))).bind fun t10 =>
  (gd t9 false (dBin tab .lss ty3 t10 (.int .i64 1))).bind fun t11 =>
  (dPick t9 (.bool true) t11).bind fun t12 =>
  dIf t12
    ((some (.int .i64 0 : D)).bind fun t4_1 =>
    ((some (t4_1 : D)).bind fun d => (some ([] : List D)).bind fun ds => some (d :: ds)).bind fun ds => some (mkRes ds, p7.2))
    ((some (t0 : D)).bind fun t13 =>
  (dNilCheck t13).bind fun t14 =>
  (dFieldAddr tab ty101 0 t14).bind fun t15 =>
  (dLoad tab p7.2 ty22 t15).bind fun t16 =>
  (some (t0 : D)).bind fun t17 =>
  (dNilCheck t17).bind fun t18 =>
  (dFieldAddr tab ty101 1 t18).bind fun t19 =>
  (dLoad tab p7.2 ty3 t19).bind fun t20 =>
  (dIndexAddr tab ty22 t16 t20).bind fun t21 =>
  (dLoad tab p7.2 ty5 t21).bind fun t22 =>
  (dConv tab ty5 ty3 t22).bind fun t23 =>
  (some (t23 : D)).bind fun t5 =>
  (some (t0 : D)).bind fun t24 =>
  (dNilCheck t24).bind fun t25 =>
  (dFieldAddr tab ty101 1 t25).bind fun t26 =>
  (dLoad tab p7.2 ty3 t26).bind fun t27 =>
  (dBin tab .add ty3 t27 (.int .i64 1)).bind fun t28 =>
  (dNilCheck t24).bind fun t29 =>
  (dFieldAddr tab ty101 1 t29).bind fun t30 =>
  ((dStore tab p7.2 ty3 t30 t28).bind fun h' => some ((.und : D), h')).bind fun p907 =>
  (some (t5 : D)).bind fun t31 =>
  (some (t1 : D)).bind fun t32 =>
  (dBin tab .mul ty3 t31 t32).bind fun t33 =>
  (dBin tab .quo ty3 t33 (.int .i64 256)).bind fun t34 =>
  (some (t34 : D)).bind fun t4_2 =>
  ((some (t4_2 : D)).bind fun d => (some ([] : List D)).bind fun ds => some (d :: ds)).bind fun ds => some (mkRes ds, p907.2))
theorem e24 (t0 : D) (t1 : D) (h : Hp) : R fn24 [t0, t1] h = F24 t0 t1 h :=
  (run_fn (X := X) (F := Fs) (fi := i7) (by kernel_rfl) _ _).trans (by kernel_rfl)
noncomputable def F1002 (t0 : D) (t1 : D) (h : Hp) : Option (D × Hp) :=
  (wBox ty74 11 h t0).bind fun p2 =>
  (pBoxF t1).bind fun t3 =>
  (some ((.ptr p2.2.length 0 0 : D), dNew p2.2 ty74 11 [[.str [], .int .i64 0, .int .i64 0, .int .i64 0, .int .i64 0, .nils, .int .i64 0, .int .i64 0, .str [], .str [], .nils]])).bind fun p4 =>
  (some (.bool false : D)).bind fun t5 =>
  (dFieldAddr tab ty74 1 p2.1).bind fun t8 =>
  (dFieldAddr tab ty31 4 t8).bind fun t9 =>
  (dLoad tab p4.2 ty28 t9).bind fun t10 =>
  (some (t10 : D)).bind fun t6 =>
  (some (t6 : D)).bind fun t11 =>
  (some (.fn (.func fn1007) [] [t3] : D)).bind fun t12 =>
  (R fn1006 [t11, t12] p4.2).bind fun p13 =>
  (some (p13.1 : D)).bind fun t7 =>
  (some (t7 : D)).bind fun t14 =>
  (dBin tab .lss ty3 t14 (.int .i64 1)).bind fun t15 =>
  dIf t15
    ((dBuild tab ty74 [] []).bind fun t16 =>
    ((dStore tab p13.2 ty74 p4.1 t16).bind fun h' => some ((.und : D), h')).bind fun p901 =>
    (some (.bool false : D)).bind fun t5_1 =>
    ((some (p4.1 : D)).bind fun p => (dLoad tab p901.2 ty74 p).bind fun d => ((some (t5_1 : D)).bind fun d => (some ([] : List D)).bind fun ds => some (d :: ds)).bind fun ds => some (d :: ds)).bind fun ds => scope h p901.2 (mkRes ds))
    ((dLoad tab p13.2 ty3 t3).bind fun t17 =>
  (some (t6 : D)).bind fun t18 =>
  (some (t7 : D)).bind fun t19 =>
  (dSliceAt tab ty28 true false false [t18, t19]).bind fun t20 =>
  (R fn1008 [t20] p13.2).bind fun p21 =>
  (dFieldAddr tab ty74 1 p2.1).bind fun t22 =>
  (dFieldAddr tab ty31 2 t22).bind fun t23 =>
  ((dStore tab p21.2 ty3 t23 t17).bind fun h' => some ((.und : D), h')).bind fun p907 =>
  (dFieldAddr tab ty74 1 p2.1).bind fun t24 =>
  (dFieldAddr tab ty31 4 t24).bind fun t25 =>
  ((dStore tab p907.2 ty28 t25 p21.1).bind fun h' => some ((.und : D), h')).bind fun p910 =>
  chk (dLoad tab p21.2 ty3 t3 = some t17)
  ((dFieldAddr tab ty74 1 p2.1).bind fun t26 =>
  (dFieldAddr tab ty31 9 t26).bind fun t27 =>
  (dLoad tab p910.2 ty29 t27).bind fun t28 =>
  (R fn1009 [t28] p910.2).bind fun p29 =>
  (dFieldAddr tab ty74 1 p2.1).bind fun t30 =>
  (dFieldAddr tab ty31 9 t30).bind fun t31 =>
  ((dStore tab p29.2 ty29 t31 p29.1).bind fun h' => some ((.und : D), h')).bind fun p906 =>
  (dLoad tab p906.2 ty74 p2.1).bind fun t32 =>
  ((dStore tab p906.2 ty74 p4.1 t32).bind fun h' => some ((.und : D), h')).bind fun p901_1 =>
  (some (.bool true : D)).bind fun t5_2 =>
  ((some (p4.1 : D)).bind fun p => (dLoad tab p901_1.2 ty74 p).bind fun d => ((some (t5_2 : D)).bind fun d => (some ([] : List D)).bind fun ds => some (d :: ds)).bind fun ds => some (d :: ds)).bind fun ds => scope h p901_1.2 (mkRes ds)))
theorem e1002 (t0 : D) (t1 : D) (h : Hp) : R fn1002 [t0, t1] h = F1002 t0 t1 h :=
  (run_fn (X := X) (F := Fs) (fi := i8) (by kernel_rfl) _ _).trans (by kernel_rfl)
/-- a loop: slots 5 7 14 23 -/
noncomputable def F1003_L0 (t1 : D) (p2 : D × Hp) (p4 : D × Hp) (t6 : D) (ds : List D) (h_1 : Hp) : Option Out :=
    (some ((nth 1 ds) : D)).bind fun t11 =>
    (some (t6 : D)).bind fun t12 =>
    (dLenT tab ty28 t12).bind fun t13 =>
    (dBin tab .lss ty3 t11 t13).bind fun t14 =>
    dIf t14
      ((some (t6 : D)).bind fun t17 =>
    (some ((nth 1 ds) : D)).bind fun t18 =>
    (dIndexAddr tab ty28 t17 t18).bind fun t19 =>
    (dFieldAddr tab ty78 0 t19).bind fun t20 =>
    (dLoad tab h_1 ty3 t20).bind fun t21 =>
    (some (t1 : D)).bind fun t22 =>
    (dBin tab .eql ty3 t21 t22).bind fun t23 =>
    dIf t23
      ((some (t1 : D)).bind fun t24 =>
      (some (t6 : D)).bind fun t25 =>
      (some ((nth 1 ds) : D)).bind fun t26 =>
      (dSliceAt tab ty28 true false false [t25, t26]).bind fun t27 =>
      (dAppend tab h_1 ty28 ty28 (.nils) t27).bind fun p28 =>
      (dFieldAddr tab ty74 1 p2.1).bind fun t29 =>
      (dFieldAddr tab ty31 2 t29).bind fun t30 =>
      ((dStore tab p28.2 ty3 t30 t24).bind fun h' => some ((.und : D), h')).bind fun p907 =>
      (dFieldAddr tab ty74 1 p2.1).bind fun t31 =>
      (dFieldAddr tab ty31 4 t31).bind fun t32 =>
      ((dStore tab p907.2 ty28 t32 p28.1).bind fun h' => some ((.und : D), h')).bind fun p910 =>
      (dLoad tab p910.2 ty74 p2.1).bind fun t33 =>
      ((dStore tab p910.2 ty74 p4.1 t33).bind fun h' => some ((.und : D), h')).bind fun p901 =>
      (some (.bool true : D)).bind fun t5_1 =>
      some (.ret, [t5_1, (nth 1 ds), t14, t23], p901.2))
      ((some ((nth 1 ds) : D)).bind fun t15 =>
    (dBin tab .add ty3 t15 (.int .i64 1)).bind fun t16 =>
    (some (t16 : D)).bind fun t7_1 =>
    some (.nrm, [(nth 0 ds), t7_1, t14, t23], h_1)))
      (some ((.ext 0), [(nth 0 ds), (nth 1 ds), t14, (nth 3 ds)], h_1))
noncomputable def F1003 (t0 : D) (t1 : D) (h : Hp) : Option (D × Hp) :=
  (wBox ty74 11 h t0).bind fun p2 =>
  (some ((.ptr p2.2.length 0 0 : D), dNew p2.2 ty74 11 [[.str [], .int .i64 0, .int .i64 0, .int .i64 0, .int .i64 0, .nils, .int .i64 0, .int .i64 0, .str [], .str [], .nils]])).bind fun p4 =>
  (some (.bool false : D)).bind fun t5 =>
  (dFieldAddr tab ty74 1 p2.1).bind fun t8 =>
  (dFieldAddr tab ty31 4 t8).bind fun t9 =>
  (dLoad tab p4.2 ty28 t9).bind fun t10 =>
  (some (t10 : D)).bind fun t6 =>
  (some (.int .i64 1 : D)).bind fun t7 =>
  ((loopW (F1003_L0 t1 p2 p4 t6) [t5, t7, .any, .any] p4.2).bind fun r =>
    some ((unblk 0 r.1), [(nth 0 r.2.1), (nth 1 r.2.1), (nth 2 r.2.1), (nth 3 r.2.1)], r.2.2)).bind fun r_1 =>
  toEnd r_1.1 ((dBuild tab ty74 [] []).bind fun t34 =>
  ((dStore tab r_1.2.2 ty74 p4.1 t34).bind fun h' => some ((.und : D), h')).bind fun p901_1 =>
  (some (.bool false : D)).bind fun t5_2 =>
  ((some (p4.1 : D)).bind fun p => (dLoad tab p901_1.2 ty74 p).bind fun d => ((some (t5_2 : D)).bind fun d => (some ([] : List D)).bind fun ds => some (d :: ds)).bind fun ds => some (d :: ds)).bind fun ds => scope h p901_1.2 (mkRes ds)) fun x => exEnd x (((some (p4.1 : D)).bind fun p => (dLoad tab r_1.2.2 ty74 p).bind fun d => ((some ((nth 0 r_1.2.1) : D)).bind fun d => (some ([] : List D)).bind fun ds => some (d :: ds)).bind fun ds => some (d :: ds)).bind fun ds => scope h r_1.2.2 (mkRes ds))
theorem e1003 (t0 : D) (t1 : D) (h : Hp) : R fn1003 [t0, t1] h = F1003 t0 t1 h :=
  (run_fn (X := X) (F := Fs) (fi := i9) (by kernel_rfl) _ _).trans (by kernel_rfl)
noncomputable def F82 (t0 : D) (t1 : D) (h : Hp) : Option (D × Hp) :=
  (pBoxF t0).bind fun t2 =>
  (pBoxF t1).bind fun t3 =>
  (some (.bool false : D)).bind fun t4 =>
  (dFieldAddr tab ty74 1 t2).bind fun t7 =>
  (dLoad tab h ty31 t7).bind fun t8 =>
  (dFieldAddr tab ty74 1 t3).bind fun t9 =>
  (dLoad tab h ty31 t9).bind fun t10 =>
  (some ((.ptr h.length 0 0 : D), dNew h ty31 10 [[.int .i64 0, .int .i64 0, .int .i64 0, .int .i64 0, .nils, .int .i64 0, .int .i64 0, .str [], .str [], .nils]])).bind fun p5 =>
  (some (.any : D)).bind fun t6 =>
  ((dStore tab p5.2 ty31 p5.1 t8).bind fun h' => some ((.und : D), h')).bind fun p906 =>
  chk (dLoad tab p5.2 ty31 t7 = some t8)
  (chk (dLoad tab p5.2 ty31 t9 = some t10)
  (chk (dLoad tab p906.2 ty31 t9 = some t10)
  (((dStore tab (dNew p906.2 ty31 10 [[.int .i64 0, .int .i64 0, .int .i64 0, .int .i64 0, .nils, .int .i64 0, .int .i64 0, .str [], .str [], .nils]]) ty31 (.ptr p906.2.length 0 0) t10).bind fun h' => some ((.und : D), h')).bind fun p907 =>
  (dFieldAddr tab ty74 0 t2).bind fun t11 =>
  (dLoad tab p907.2 ty9 t11).bind fun t12 =>
  (dFieldAddr tab ty74 0 t3).bind fun t13 =>
  (dLoad tab p907.2 ty9 t13).bind fun t14 =>
  (dBin tab .eql ty9 t12 t14).bind fun t15 =>
  (some (t15 : D)).bind fun t16 =>
  (gd t16 true (dFieldAddr tab ty31 0 p5.1)).bind fun t17 =>
  (gd t16 true (dLoad tab p907.2 ty3 t17)).bind fun t18 =>
  (gd t16 true (dFieldAddr tab ty31 0 (.ptr p906.2.length 0 0))).bind fun t19 =>
  (gd t16 true (dLoad tab p907.2 ty3 t19)).bind fun t20 =>
  (gd t16 true (dBin tab .eql ty3 t18 t20)).bind fun t21 =>
  (dPick t16 t21 (.bool false)).bind fun t22 =>
  (some (t22 : D)).bind fun t23 =>
  (gd t23 true (dFieldAddr tab ty31 1 p5.1)).bind fun t24 =>
  (gd t23 true (dLoad tab p907.2 ty3 t24)).bind fun t25 =>
  (gd t23 true (dFieldAddr tab ty31 1 (.ptr p906.2.length 0 0))).bind fun t26 =>
  (gd t23 true (dLoad tab p907.2 ty3 t26)).bind fun t27 =>
  (gd t23 true (dBin tab .eql ty3 t25 t27)).bind fun t28 =>
  (dPick t23 t28 (.bool false)).bind fun t29 =>
  (some (t29 : D)).bind fun t30 =>
  (gd t30 true (dFieldAddr tab ty31 2 p5.1)).bind fun t31 =>
  (gd t30 true (dLoad tab p907.2 ty3 t31)).bind fun t32 =>
  (gd t30 true (dFieldAddr tab ty31 2 (.ptr p906.2.length 0 0))).bind fun t33 =>
  (gd t30 true (dLoad tab p907.2 ty3 t33)).bind fun t34 =>
  (gd t30 true (dBin tab .eql ty3 t32 t34)).bind fun t35 =>
  (dPick t30 t35 (.bool false)).bind fun t36 =>
  (some (t36 : D)).bind fun t37 =>
  (gd t37 true (dFieldAddr tab ty31 3 p5.1)).bind fun t38 =>
  (gd t37 true (dLoad tab p907.2 ty3 t38)).bind fun t39 =>
  (gd t37 true (dFieldAddr tab ty31 3 (.ptr p906.2.length 0 0))).bind fun t40 =>
  (gd t37 true (dLoad tab p907.2 ty3 t40)).bind fun t41 =>
  (gd t37 true (dBin tab .eql ty3 t39 t41)).bind fun t42 =>
  (dPick t37 t42 (.bool false)).bind fun t43 =>
  (some (t43 : D)).bind fun t44 =>
  (gd t44 true (dFieldAddr tab ty31 5 p5.1)).bind fun t45 =>
  (gd t44 true (dLoad tab p907.2 ty3 t45)).bind fun t46 =>
  (gd t44 true (dFieldAddr tab ty31 5 (.ptr p906.2.length 0 0))).bind fun t47 =>
  (gd t44 true (dLoad tab p907.2 ty3 t47)).bind fun t48 =>
  (gd t44 true (dBin tab .eql ty3 t46 t48)).bind fun t49 =>
  (dPick t44 t49 (.bool false)).bind fun t50 =>
  (some (t50 : D)).bind fun t51 =>
  (gd t51 true (dFieldAddr tab ty31 6 p5.1)).bind fun t52 =>
  (gd t51 true (dLoad tab p907.2 ty3 t52)).bind fun t53 =>
  (gd t51 true (dFieldAddr tab ty31 6 (.ptr p906.2.length 0 0))).bind fun t54 =>
  (gd t51 true (dLoad tab p907.2 ty3 t54)).bind fun t55 =>
  (gd t51 true (dBin tab .eql ty3 t53 t55)).bind fun t56 =>
  (dPick t51 t56 (.bool false)).bind fun t57 =>
  (some (t57 : D)).bind fun t58 =>
  (gd t58 true (dFieldAddr tab ty31 7 p5.1)).bind fun t59 =>
  (gd t58 true (dLoad tab p907.2 ty9 t59)).bind fun t60 =>
  (gd t58 true (dFieldAddr tab ty31 7 (.ptr p906.2.length 0 0))).bind fun t61 =>
  (gd t58 true (dLoad tab p907.2 ty9 t61)).bind fun t62 =>
  (gd t58 true (dBin tab .eql ty9 t60 t62)).bind fun t63 =>
  (dPick t58 t63 (.bool false)).bind fun t64 =>
  (some (t64 : D)).bind fun t65 =>
  (gd t65 true (dFieldAddr tab ty31 8 p5.1)).bind fun t66 =>
  (gd t65 true (dLoad tab p907.2 ty9 t66)).bind fun t67 =>
  (gd t65 true (dFieldAddr tab ty31 8 (.ptr p906.2.length 0 0))).bind fun t68 =>
  (gd t65 true (dLoad tab p907.2 ty9 t68)).bind fun t69 =>
  (gd t65 true (dBin tab .eql ty9 t67 t69)).bind fun t70 =>
  (dPick t65 t70 (.bool false)).bind fun t71 =>
  (some (t71 : D)).bind fun t72 =>
  (gd t72 true (dFieldAddr tab ty31 4 p5.1)).bind fun t73 =>
  (gd t72 true (dLoad tab p907.2 ty28 t73)).bind fun t74 =>
  (gd t72 true (dFieldAddr tab ty31 4 (.ptr p906.2.length 0 0))).bind fun t75 =>
  (gd t72 true (dLoad tab p907.2 ty28 t75)).bind fun t76 =>
  (gdW t72 true p907.2 (R fn94 [t74, t76] p907.2)).bind fun p77 =>
  (dPick t72 p77.1 (.bool false)).bind fun t78 =>
  (some (t78 : D)).bind fun t79 =>
  (gd t79 true (dFieldAddr tab ty31 9 p5.1)).bind fun t80 =>
  (gd t79 true (dLoad tab p77.2 ty29 t80)).bind fun t81 =>
  (gd t79 true (dFieldAddr tab ty31 9 (.ptr p906.2.length 0 0))).bind fun t82 =>
  (gd t79 true (dLoad tab p77.2 ty29 t82)).bind fun t83 =>
  (gdW t79 true p77.2 (R fn95 [t81, t83] p77.2)).bind fun p84 =>
  (dPick t79 p84.1 (.bool false)).bind fun t85 =>
  (some (t85 : D)).bind fun t4_1 =>
  ((some (t4_1 : D)).bind fun d => (some ([] : List D)).bind fun ds => some (d :: ds)).bind fun ds => scope h p84.2 (mkRes ds))))
theorem e82 (t0 : D) (t1 : D) (h : Hp) : R fn82 [t0, t1] h = F82 t0 t1 h :=
  (run_fn (X := X) (F := Fs) (fi := i10) (by kernel_rfl) _ _).trans (by kernel_rfl)
/-- a loop: slots 2 6 61 70 -/
noncomputable def F1004_L0 (t3 : D) (ds : List D) (h_1 : Hp) : Option Out :=
    (some ((nth 1 ds) : D)).bind fun t57 =>
    (dFieldAddr tab ty31 4 t3).bind fun t58 =>
    (dLoad tab h_1 ty28 t58).bind fun t59 =>
    (dLenT tab ty28 t59).bind fun t60 =>
    (dBin tab .lss ty3 t57 t60).bind fun t61 =>
    dIf t61
      ((dFieldAddr tab ty31 4 t3).bind fun t64 =>
    (dLoad tab h_1 ty28 t64).bind fun t65 =>
    (some ((nth 1 ds) : D)).bind fun t66 =>
    (dIndexAddr tab ty28 t65 t66).bind fun t67 =>
    (dFieldAddr tab ty78 2 t67).bind fun t68 =>
    (dLoad tab h_1 ty9 t68).bind fun t69 =>
    (dBin tab .neq ty9 t69 (.str [])).bind fun t70 =>
    dIf t70
      ((some (.int .i64 19 : D)).bind fun t2_6 =>
      some (.ret, [t2_6, (nth 1 ds), t61, t70], h_1))
      ((some ((nth 1 ds) : D)).bind fun t62 =>
    (dBin tab .add ty3 t62 (.int .i64 1)).bind fun t63 =>
    (some (t63 : D)).bind fun t6_1 =>
    some (.nrm, [(nth 0 ds), t6_1, t61, t70], h_1)))
      (some ((.ext 0), [(nth 0 ds), (nth 1 ds), t61, (nth 3 ds)], h_1))
noncomputable def F1004 (t0 : D) (h : Hp) : Option (D × Hp) :=
  (pBoxF t0).bind fun t1 =>
  (some (.int .i64 0 : D)).bind fun t2 =>
  (dFieldAddr tab ty74 0 t1).bind fun t7 =>
  (dLoad tab h ty9 t7).bind fun t8 =>
  (dBin tab .eql ty9 t8 (.str [])).bind fun t9 =>
  dIf t9
    ((dFieldAddr tab ty74 1 t1).bind fun t10 =>
    (dLoad tab h ty31 t10).bind fun t11 =>
    (R fn1010 [t11] h).bind fun p12 =>
    (some (p12.1 : D)).bind fun t2_1 =>
    ((some (t2_1 : D)).bind fun d => (some ([] : List D)).bind fun ds => some (d :: ds)).bind fun ds => some (mkRes ds, p12.2))
    ((dFieldAddr tab ty74 0 t1).bind fun t13 =>
  (dLoad tab h ty9 t13).bind fun t14 =>
  (dLenT tab ty9 t14).bind fun t15 =>
  (dBin tab .gtr ty3 t15 (.int .i64 32)).bind fun t16 =>
  dIf t16
    ((some (.int .i64 3 : D)).bind fun t2_2 =>
    ((some (t2_2 : D)).bind fun d => (some ([] : List D)).bind fun ds => some (d :: ds)).bind fun ds => some (mkRes ds, h))
    ((dFieldAddr tab ty74 1 t1).bind fun t17 =>
  (dLoad tab h ty31 t17).bind fun t18 =>
  (boxN 10 t18).bind fun t3 =>
  (dLoad tab h ty31 t3).bind fun t19 =>
  (R fn1011 [t19] h).bind fun p20 =>
  (some (p20.1 : D)).bind fun t4 =>
  (some (t4 : D)).bind fun t21 =>
  (dBin tab .neq ty49 t21 (.int .i64 0)).bind fun t22 =>
  dIf t22
    ((some (t4 : D)).bind fun t23 =>
    (some (t23 : D)).bind fun t2_3 =>
    ((some (t2_3 : D)).bind fun d => (some ([] : List D)).bind fun ds => some (d :: ds)).bind fun ds => some (mkRes ds, p20.2))
    ((dLoad tab p20.2 ty31 t3).bind fun t24 =>
  (R fn1012 [t24, .int .i64 20000] p20.2).bind fun p25 =>
  (some (p25.1 : D)).bind fun t5 =>
  (some (t5 : D)).bind fun t26 =>
  (dBin tab .neq ty49 t26 (.int .i64 0)).bind fun t27 =>
  (some (t27 : D)).bind fun t28 =>
  (gd t28 true (some (t5 : D))).bind fun t29 =>
  (gd t28 true (dBin tab .neq ty49 t29 (.int .i64 3))).bind fun t30 =>
  (dPick t28 t30 (.bool false)).bind fun t31 =>
  dIf t31
    ((some (t5 : D)).bind fun t32 =>
    (some (t32 : D)).bind fun t2_4 =>
    ((some (t2_4 : D)).bind fun d => (some ([] : List D)).bind fun ds => some (d :: ds)).bind fun ds => some (mkRes ds, p25.2))
    ((dFieldAddr tab ty31 5 t3).bind fun t33 =>
  (dLoad tab p25.2 ty3 t33).bind fun t34 =>
  (dBin tab .neq ty3 t34 (.int .i64 0)).bind fun t35 =>
  (some (t35 : D)).bind fun t36 =>
  (gd t36 false (dFieldAddr tab ty31 6 t3)).bind fun t37 =>
  (gd t36 false (dLoad tab p25.2 ty3 t37)).bind fun t38 =>
  (gd t36 false (dBin tab .neq ty3 t38 (.int .i64 0))).bind fun t39 =>
  (dPick t36 (.bool true) t39).bind fun t40 =>
  (some (t40 : D)).bind fun t41 =>
  (gd t41 false (dFieldAddr tab ty31 7 t3)).bind fun t42 =>
  (gd t41 false (dLoad tab p25.2 ty9 t42)).bind fun t43 =>
  (gd t41 false (dBin tab .neq ty9 t43 (.str []))).bind fun t44 =>
  (dPick t41 (.bool true) t44).bind fun t45 =>
  (some (t45 : D)).bind fun t46 =>
  (gd t46 false (dFieldAddr tab ty31 8 t3)).bind fun t47 =>
  (gd t46 false (dLoad tab p25.2 ty9 t47)).bind fun t48 =>
  (gd t46 false (dBin tab .neq ty9 t48 (.str []))).bind fun t49 =>
  (dPick t46 (.bool true) t49).bind fun t50 =>
  (some (t50 : D)).bind fun t51 =>
  (gd t51 false (dFieldAddr tab ty31 9 t3)).bind fun t52 =>
  (gd t51 false (dLoad tab p25.2 ty29 t52)).bind fun t53 =>
  (gd t51 false (dLenT tab ty29 t53)).bind fun t54 =>
  (gd t51 false (dBin tab .neq ty3 t54 (.int .i64 0))).bind fun t55 =>
  (dPick t51 (.bool true) t55).bind fun t56 =>
  dIf t56
    ((some (.int .i64 19 : D)).bind fun t2_5 =>
    ((some (t2_5 : D)).bind fun d => (some ([] : List D)).bind fun ds => some (d :: ds)).bind fun ds => some (mkRes ds, p25.2))
    ((some (.int .i64 0 : D)).bind fun t6 =>
  ((loopW (F1004_L0 t3) [t2, t6, .any, .any] p25.2).bind fun r =>
    some ((unblk 0 r.1), [(nth 0 r.2.1), (nth 1 r.2.1), (nth 2 r.2.1), (nth 3 r.2.1)], r.2.2)).bind fun r_1 =>
  toEnd r_1.1 ((some (.int .i64 0 : D)).bind fun t2_7 =>
  ((some (t2_7 : D)).bind fun d => (some ([] : List D)).bind fun ds => some (d :: ds)).bind fun ds => some (mkRes ds, r_1.2.2)) fun x => exEnd x (((some ((nth 0 r_1.2.1) : D)).bind fun d => (some ([] : List D)).bind fun ds => some (d :: ds)).bind fun ds => some (mkRes ds, r_1.2.2)))))))
theorem e1004 (t0 : D) (h : Hp) : R fn1004 [t0] h = F1004 t0 h :=
  (run_fn (X := X) (F := Fs) (fi := i11) (by kernel_rfl) _ _).trans (by kernel_rfl)
noncomputable def F1005 (t0 : D) (t1 : D) (t2 : D) (h : Hp) : Option (D × Hp) :=
  (pBoxF t0).bind fun t3 =>
  (some (.int .i64 0 : D)).bind fun t6 =>
  (dFieldAddr tab ty1009 0 t3).bind fun t10 =>
  (dLoad tab h ty1007 t10).bind fun t11 =>
  (some (t1 : D)).bind fun t12 =>
  (some (t2 : D)).bind fun t13 =>
  (R fn1013 [t11, t12, t13] h).bind fun p14 =>
  (some (p14.1 : D)).bind fun t9 =>
  (dExtract 0 t9).bind fun t15 =>
  (dExtract 1 t9).bind fun t16 =>
  (some (t15 : D)).bind fun t7 =>
  (some (t16 : D)).bind fun t8 =>
  (some (t8 : D)).bind fun t17 =>
  dIf t17
    ((dFieldAddr tab ty1009 0 t3).bind fun t18 =>
    (dLoad tab p14.2 ty1007 t18).bind fun t19 =>
    (some (t7 : D)).bind fun t20 =>
    (dIndexAddr tab ty1007 t19 t20).bind fun t21 =>
    (dFieldAddr tab ty1006 2 t21).bind fun t22 =>
    (dLoad tab p14.2 ty3 t22).bind fun t23 =>
    (some (t23 : D)).bind fun t6_1 =>
    ((some (t6_1 : D)).bind fun d => (some ([] : List D)).bind fun ds => some (d :: ds)).bind fun ds => some (mkRes ds, p14.2))
    ((some (.int .i64 0 : D)).bind fun t6_2 =>
  ((some (t6_2 : D)).bind fun d => (some ([] : List D)).bind fun ds => some (d :: ds)).bind fun ds => some (mkRes ds, p14.2))
theorem e1005 (t0 : D) (t1 : D) (t2 : D) (h : Hp) : R fn1005 [t0, t1, t2] h = F1005 t0 t1 t2 h :=
  (run_fn (X := X) (F := Fs) (fi := i12) (by kernel_rfl) _ _).trans (by kernel_rfl)
/-- a loop: slots 3 4 10 -/
noncomputable def F96_L0 (t0 : D) (ds : List D) (h_1 : Hp) : Option Out :=
    (some ((nth 1 ds) : D)).bind fun t9 =>
    (dBin tab .gtr ty3 t9 (.int .i64 0)).bind fun t10 =>
    dIf t10
      ((some ((nth 0 ds) : D)).bind fun t13 =>
    (pLitF tab ty98 5 [0, 1, 2, 3, 4] [.str [32], .str [32], .str [44, 32], .str [61], .str []]).bind fun t14 =>
    (some (t0 : D)).bind fun t15 =>
    (R fn24 [t15, .int .i64 5] h_1).bind fun p16 =>
    (dIndexAddr tab ty98 t14 p16.1).bind fun t17 =>
    (dLoad tab p16.2 ty9 t17).bind fun t18 =>
    (some (t0 : D)).bind fun t19 =>
    (R fn102 [t19] p16.2).bind fun p20 =>
    (dBin tab .add ty9 t18 p20.1).bind fun t21 =>
    (dBin tab .add ty9 t13 t21).bind fun t22 =>
    chk (dLoad tab p20.2 ty9 t17 = some t18)
    ((some (t22 : D)).bind fun t3_1 =>
    (some ((nth 1 ds) : D)).bind fun t11 =>
    (dBin tab .sub ty3 t11 (.int .i64 1)).bind fun t12 =>
    (some (t12 : D)).bind fun t4_1 =>
    some (.nrm, [t3_1, t4_1, t10], p20.2)))
      (some ((.ext 0), [(nth 0 ds), (nth 1 ds), t10], h_1))
noncomputable def F96 (t0 : D) (h : Hp) : Option (D × Hp) :=
  (some (.str [] : D)).bind fun t2 =>
  (some (t0 : D)).bind fun t5 =>
  (R fn102 [t5] h).bind fun p6 =>
  (some (p6.1 : D)).bind fun t3 =>
  (some (t0 : D)).bind fun t7 =>
  (R fn24 [t7, .int .i64 4] p6.2).bind fun p8 =>
  (some (p8.1 : D)).bind fun t4 =>
  ((loopW (F96_L0 t0) [t3, t4, .any] p8.2).bind fun r =>
    some ((unblk 0 r.1), [(nth 0 r.2.1), (nth 1 r.2.1), (nth 2 r.2.1)], r.2.2)).bind fun r_1 =>
  toEnd r_1.1 ((some ((nth 0 r_1.2.1) : D)).bind fun t23 =>
  (some (t23 : D)).bind fun t2_1 =>
  ((some (t2_1 : D)).bind fun d => (some ([] : List D)).bind fun ds => some (d :: ds)).bind fun ds => some (mkRes ds, r_1.2.2)) fun x => exEnd x (((some (t2 : D)).bind fun d => (some ([] : List D)).bind fun ds => some (d :: ds)).bind fun ds => some (mkRes ds, r_1.2.2))
theorem e96 (t0 : D) (h : Hp) : R fn96 [t0] h = F96 t0 h :=
  (run_fn (X := X) (F := Fs) (fi := i13) (by kernel_rfl) _ _).trans (by kernel_rfl)
noncomputable def F35 (t0 : D) (h : Hp) : Option (D × Hp) :=
  (some (.int .i64 0 : D)).bind fun t2 =>
  (some (t0 : D)).bind fun t3 =>
  (R fn24 [t3, .int .i64 4] h).bind fun p4 =>
  (dBin tab .eql ty3 p4.1 (.int .i64 0)).bind fun t6 =>
  (some (t6 : D)).bind fun t5 =>
  dIf t5
    ((some (t0 : D)).bind fun t7 =>
    (R fn24 [t7, .int .i64 40] p4.2).bind fun p8 =>
    (dBin tab .mul ty3 p8.1 (.int .i64 86400000)).bind fun t9 =>
    (some (t9 : D)).bind fun t2_1 =>
    ((some (t2_1 : D)).bind fun d => (some ([] : List D)).bind fun ds => some (d :: ds)).bind fun ds => some (mkRes ds, p8.2))
    ((dBin tab .eql ty3 p4.1 (.int .i64 1)).bind fun t11 =>
    (some (t11 : D)).bind fun t10 =>
    dIf t10
      ((some (t0 : D)).bind fun t12 =>
      (R fn24 [t12, .int .i64 3] p4.2).bind fun p13 =>
      (dBin tab .mul ty3 p13.1 (.int .i64 86400000)).bind fun t14 =>
      (dBin tab .sub ty3 (.int .i64 253402300799999) t14).bind fun t15 =>
      (some (t15 : D)).bind fun t2_2 =>
      ((some (t2_2 : D)).bind fun d => (some ([] : List D)).bind fun ds => some (d :: ds)).bind fun ds => some (mkRes ds, p13.2))
      ((some (t0 : D)).bind fun t16 =>
  (R fn24 [t16, .int .i64 60] p4.2).bind fun p17 =>
  (dBin tab .add ty3 (.int .i64 1000) p17.1).bind fun t18 =>
  (some (t18 : D)).bind fun t2_3 =>
  ((some (t2_3 : D)).bind fun d => (some ([] : List D)).bind fun ds => some (d :: ds)).bind fun ds => some (mkRes ds, p17.2)))
theorem e35 (t0 : D) (h : Hp) : R fn35 [t0] h = F35 t0 h :=
  (run_fn (X := X) (F := Fs) (fi := i14) (by kernel_rfl) _ _).trans (by kernel_rfl)
noncomputable def F97 (t0 : D) (h : Hp) : Option (D × Hp) :=
  (some (.int .i64 0 : D)).bind fun t2 =>
  (pLitF tab ty82 6 [0, 1, 2, 3, 4, 5] [.int .i64 1, .int .i64 1, .int .i64 2, .int .i64 5, .int .i64 10, .int .i64 5040]).bind fun t3 =>
  (some (t0 : D)).bind fun t4 =>
  (R fn24 [t4, .int .i64 6] h).bind fun p5 =>
  (dIndexAddr tab ty82 t3 p5.1).bind fun t6 =>
  (dLoad tab p5.2 ty3 t6).bind fun t7 =>
  (some (t7 : D)).bind fun t2_1 =>
  ((some (t2_1 : D)).bind fun d => (some ([] : List D)).bind fun ds => some (d :: ds)).bind fun ds => some (mkRes ds, p5.2)
theorem e97 (t0 : D) (h : Hp) : R fn97 [t0] h = F97 t0 h :=
  (run_fn (X := X) (F := Fs) (fi := i15) (by kernel_rfl) _ _).trans (by kernel_rfl)
/-- a loop: slots 3 5 10 15 -/
noncomputable def F98_L0 (t0 : D) (t4 : D) (ds : List D) (h_1 : Hp) : Option Out :=
    (some ((nth 1 ds) : D)).bind fun t7 =>
    (some (t4 : D)).bind fun t8 =>
    (dLenT tab ty98 t8).bind fun t9 =>
    (dBin tab .lss ty3 t7 t9).bind fun t10 =>
    dIf t10
      ((some (t0 : D)).bind fun t13 =>
    (R fn24 [t13, .int .i64 3] h_1).bind fun p14 =>
    (dBin tab .eql ty3 p14.1 (.int .i64 1)).bind fun t15 =>
    (dIf t15
      ((some ((nth 0 ds) : D)).bind fun t16 =>
      (some (t4 : D)).bind fun t17 =>
      (some ((nth 1 ds) : D)).bind fun t18 =>
      (dIndexAddr tab ty98 t17 t18).bind fun t19 =>
      (dLoad tab p14.2 ty9 t19).bind fun t20 =>
      (some (t0 : D)).bind fun t21 =>
      (R fn33 [t21] p14.2).bind fun p22 =>
      (dBuild tab ty109 [0, 1] [t20, p22.1]).bind fun t23 =>
      (pLitF tab ty29 1 [0] [t23]).bind fun t24 =>
      (dAppend tab p22.2 ty29 ty29 t16 t24).bind fun p25 =>
      chk (dLoad tab p22.2 ty9 t19 = some t20)
      ((some (p25.1 : D)).bind fun t3_1 =>
      some (.nrm, [t3_1], p25.2)))
      (some (.nrm, [(nth 0 ds)], p14.2))).bind fun r_1 =>
    toEnd (unblk 1 r_1.1) ((some ((nth 1 ds) : D)).bind fun t11 =>
    (dBin tab .add ty3 t11 (.int .i64 1)).bind fun t12 =>
    (some (t12 : D)).bind fun t5_1 =>
    some (.nrm, [(nth 0 r_1.2.1), t5_1, t10, t15], r_1.2.2)) fun x => some (x, [(nth 0 r_1.2.1), (nth 1 ds), t10, t15], r_1.2.2))
      (some ((.ext 0), [(nth 0 ds), (nth 1 ds), t10, (nth 3 ds)], h_1))
noncomputable def F98 (t0 : D) (h : Hp) : Option (D × Hp) :=
  (some (.nils : D)).bind fun t2 =>
  (some (.nils : D)).bind fun t3 =>
  (pLitF tab ty98 4 [0, 1, 2, 3] [.str [99, 111, 100, 101], .str [108, 101, 118, 101, 108], .str [109, 115], .str [117, 115, 101, 114]]).bind fun t6 =>
  (some (t6 : D)).bind fun t4 =>
  (some (.int .i64 0 : D)).bind fun t5 =>
  ((loopW (F98_L0 t0 t4) [t3, t5, .any, .any] h).bind fun r =>
    some ((unblk 0 r.1), [(nth 0 r.2.1), (nth 1 r.2.1), (nth 2 r.2.1), (nth 3 r.2.1)], r.2.2)).bind fun r_2 =>
  toEnd r_2.1 ((some ((nth 0 r_2.2.1) : D)).bind fun t26 =>
  (some (t26 : D)).bind fun t2_1 =>
  ((some (t2_1 : D)).bind fun d => (some ([] : List D)).bind fun ds => some (d :: ds)).bind fun ds => scope h r_2.2.2 (mkRes ds)) fun x_1 => exEnd x_1 (((some (t2 : D)).bind fun d => (some ([] : List D)).bind fun ds => some (d :: ds)).bind fun ds => scope h r_2.2.2 (mkRes ds))
theorem e98 (t0 : D) (h : Hp) : R fn98 [t0] h = F98 t0 h :=
  (run_fn (X := X) (F := Fs) (fi := i16) (by kernel_rfl) _ _).trans (by kernel_rfl)
noncomputable def F57 (t0 : D) (h : Hp) : Option (D × Hp) :=
  (some (.bool false : D)).bind fun t2 =>
  (some (t0 : D)).bind fun t3 =>
  (dNilCheck t3).bind fun t4 =>
  (dFieldAddr tab ty101 1 t4).bind fun t5 =>
  (dLoad tab h ty3 t5).bind fun t6 =>
  (some (t0 : D)).bind fun t7 =>
  (dNilCheck t7).bind fun t8 =>
  (dFieldAddr tab ty101 0 t8).bind fun t9 =>
  (dLoad tab h ty22 t9).bind fun t10 =>
  (dLenT tab ty22 t10).bind fun t11 =>
  (dBin tab .lss ty3 t6 t11).bind fun t12 =>
  (some (t12 : D)).bind fun t2_1 =>
  ((some (t2_1 : D)).bind fun d => (some ([] : List D)).bind fun ds => some (d :: ds)).bind fun ds => some (mkRes ds, h)
theorem e57 (t0 : D) (h : Hp) : R fn57 [t0] h = F57 t0 h :=
  (run_fn (X := X) (F := Fs) (fi := i17) (by kernel_rfl) _ _).trans (by kernel_rfl)
/-- a loop: slots 4 5 8 9 16 -/
noncomputable def F1006_L0 (t0 : D) (t1 : D) (t7 : D) (ds : List D) (h_1 : Hp) : Option Out :=
    (dBin tab .lss ty3 (nth 2 ds) t7).bind fun t9 =>
    dIf t9
      ((some ((nth 2 ds) : D)).bind fun t10 =>
    (some (t10 : D)).bind fun t5 =>
    (some (t1 : D)).bind fun t11 =>
    (some (t0 : D)).bind fun t12 =>
    (some (t5 : D)).bind fun t13 =>
    (dIndexAddr tab ty28 t12 t13).bind fun t14 =>
    (dLoad tab h_1 ty78 t14).bind fun t15 =>
    (callV R t11 [t15] h_1).bind fun p16 =>
    dIf p16.1
      ((some (t5 : D)).bind fun t17 =>
      (some (t17 : D)).bind fun t4_1 =>
      some (.ret, [t4_1, t5, (nth 2 ds), t9, p16.1], p16.2))
      ((dBin tab .add ty3 (nth 2 ds) (.int .i64 1)).bind fun t18 =>
    (some (t18 : D)).bind fun t8_1 =>
    some (.nrm, [(nth 0 ds), t5, t8_1, t9, p16.1], p16.2)))
      (some ((.ext 0), [(nth 0 ds), (nth 1 ds), (nth 2 ds), t9, (nth 4 ds)], h_1))
noncomputable def F1006 (t0 : D) (t1 : D) (h : Hp) : Option (D × Hp) :=
  (some (.int .i64 0 : D)).bind fun t4 =>
  (some (t0 : D)).bind fun t6 =>
  (dLenT tab ty28 t6).bind fun t7 =>
  (some (.int .i64 0 : D)).bind fun t8 =>
  ((loopW (F1006_L0 t0 t1 t7) [t4, .any, t8, .any, .any] h).bind fun r =>
    some ((unblk 0 r.1), [(nth 0 r.2.1), (nth 1 r.2.1), (nth 2 r.2.1), (nth 3 r.2.1), (nth 4 r.2.1)], r.2.2)).bind fun r_1 =>
  toEnd r_1.1 ((some (.int .i64 (-1) : D)).bind fun t4_2 =>
  ((some (t4_2 : D)).bind fun d => (some ([] : List D)).bind fun ds => some (d :: ds)).bind fun ds => some (mkRes ds, r_1.2.2)) fun x => exEnd x (((some ((nth 0 r_1.2.1) : D)).bind fun d => (some ([] : List D)).bind fun ds => some (d :: ds)).bind fun ds => some (mkRes ds, r_1.2.2))
theorem e1006 (t0 : D) (t1 : D) (h : Hp) : R fn1006 [t0, t1] h = F1006 t0 t1 h :=
  (run_fn (X := X) (F := Fs) (fi := i18) (by kernel_rfl) _ _).trans (by kernel_rfl)
noncomputable def F1007 (t0 : D) (t1 : D) (h : Hp) : Option (D × Hp) :=
  (pBoxF t0).bind fun t2 =>
  (some (.bool false : D)).bind fun t3 =>
  (dFieldAddr tab ty78 0 t2).bind fun t4 =>
  (dLoad tab h ty3 t4).bind fun t5 =>
  (dLoad tab h ty3 t1).bind fun t6 =>
  (dBin tab .eql ty3 t5 t6).bind fun t7 =>
  (some (t7 : D)).bind fun t3_1 =>
  ((some (t3_1 : D)).bind fun d => (some ([] : List D)).bind fun ds => some (d :: ds)).bind fun ds => some (mkRes ds, h)
theorem e1007 (t0 : D) (t1 : D) (h : Hp) : R fn1007 [t0, t1] h = F1007 t0 t1 h :=
  (run_fn (X := X) (F := Fs) (fi := i19) (by kernel_rfl) _ _).trans (by kernel_rfl)
noncomputable def F1008 (t0 : D) (h : Hp) : Option (D × Hp) :=
  (some (.nils : D)).bind fun t2 =>
  (some (t0 : D)).bind fun t3 =>
  (dBin tab .eql ty28 t3 (.nils)).bind fun t4 =>
  dIf t4
    ((some (.nils : D)).bind fun t2_1 =>
    ((some (t2_1 : D)).bind fun d => (some ([] : List D)).bind fun ds => some (d :: ds)).bind fun ds => scope h h (mkRes ds))
    ((pLitF tab ty28 0 [] []).bind fun t5 =>
  (some (t0 : D)).bind fun t6 =>
  (dAppend tab h ty28 ty28 t5 t6).bind fun p7 =>
  (some (p7.1 : D)).bind fun t2_2 =>
  ((some (t2_2 : D)).bind fun d => (some ([] : List D)).bind fun ds => some (d :: ds)).bind fun ds => scope h p7.2 (mkRes ds))
theorem e1008 (t0 : D) (h : Hp) : R fn1008 [t0] h = F1008 t0 h :=
  (run_fn (X := X) (F := Fs) (fi := i20) (by kernel_rfl) _ _).trans (by kernel_rfl)
noncomputable def F1009 (t0 : D) (h : Hp) : Option (D × Hp) :=
  (some (.nils : D)).bind fun t2 =>
  (some (t0 : D)).bind fun t3 =>
  (dBin tab .eql ty29 t3 (.nils)).bind fun t4 =>
  dIf t4
    ((some (.nils : D)).bind fun t2_1 =>
    ((some (t2_1 : D)).bind fun d => (some ([] : List D)).bind fun ds => some (d :: ds)).bind fun ds => scope h h (mkRes ds))
    ((pLitF tab ty29 0 [] []).bind fun t5 =>
  (some (t0 : D)).bind fun t6 =>
  (dAppend tab h ty29 ty29 t5 t6).bind fun p7 =>
  (some (p7.1 : D)).bind fun t2_2 =>
  ((some (t2_2 : D)).bind fun d => (some ([] : List D)).bind fun ds => some (d :: ds)).bind fun ds => scope h p7.2 (mkRes ds))
theorem e1009 (t0 : D) (h : Hp) : R fn1009 [t0] h = F1009 t0 h :=
  (run_fn (X := X) (F := Fs) (fi := i21) (by kernel_rfl) _ _).trans (by kernel_rfl)
/-- a loop: slots 4 5 14 25 -/
noncomputable def F94_L0 (t0 : D) (t1 : D) (ds : List D) (h_1 : Hp) : Option Out :=
    (some ((nth 1 ds) : D)).bind fun t11 =>
    (some (t0 : D)).bind fun t12 =>
    (dLenT tab ty28 t12).bind fun t13 =>
    (dBin tab .lss ty3 t11 t13).bind fun t14 =>
    dIf t14
      ((some (t0 : D)).bind fun t17 =>
    (some ((nth 1 ds) : D)).bind fun t18 =>
    (dIndexAddr tab ty28 t17 t18).bind fun t19 =>
    (dLoad tab h_1 ty78 t19).bind fun t20 =>
    (some (t1 : D)).bind fun t21 =>
    (some ((nth 1 ds) : D)).bind fun t22 =>
    (dIndexAddr tab ty28 t21 t22).bind fun t23 =>
    (dLoad tab h_1 ty78 t23).bind fun t24 =>
    (dBin tab .neq ty78 t20 t24).bind fun t25 =>
    dIf t25
      ((some (.bool false : D)).bind fun t4_2 =>
      some (.ret, [t4_2, (nth 1 ds), t14, t25], h_1))
      ((some ((nth 1 ds) : D)).bind fun t15 =>
    (dBin tab .add ty3 t15 (.int .i64 1)).bind fun t16 =>
    (some (t16 : D)).bind fun t5_1 =>
    some (.nrm, [(nth 0 ds), t5_1, t14, t25], h_1)))
      (some ((.ext 0), [(nth 0 ds), (nth 1 ds), t14, (nth 3 ds)], h_1))
noncomputable def F94 (t0 : D) (t1 : D) (h : Hp) : Option (D × Hp) :=
  (some (.bool false : D)).bind fun t4 =>
  (some (t0 : D)).bind fun t6 =>
  (dLenT tab ty28 t6).bind fun t7 =>
  (some (t1 : D)).bind fun t8 =>
  (dLenT tab ty28 t8).bind fun t9 =>
  (dBin tab .neq ty3 t7 t9).bind fun t10 =>
  dIf t10
    ((some (.bool false : D)).bind fun t4_1 =>
    ((some (t4_1 : D)).bind fun d => (some ([] : List D)).bind fun ds => some (d :: ds)).bind fun ds => some (mkRes ds, h))
    ((some (.int .i64 0 : D)).bind fun t5 =>
  ((loopW (F94_L0 t0 t1) [t4, t5, .any, .any] h).bind fun r =>
    some ((unblk 0 r.1), [(nth 0 r.2.1), (nth 1 r.2.1), (nth 2 r.2.1), (nth 3 r.2.1)], r.2.2)).bind fun r_1 =>
  toEnd r_1.1 ((some (.bool true : D)).bind fun t4_3 =>
  ((some (t4_3 : D)).bind fun d => (some ([] : List D)).bind fun ds => some (d :: ds)).bind fun ds => some (mkRes ds, r_1.2.2)) fun x => exEnd x (((some ((nth 0 r_1.2.1) : D)).bind fun d => (some ([] : List D)).bind fun ds => some (d :: ds)).bind fun ds => some (mkRes ds, r_1.2.2)))
theorem e94 (t0 : D) (t1 : D) (h : Hp) : R fn94 [t0, t1] h = F94 t0 t1 h :=
  (run_fn (X := X) (F := Fs) (fi := i22) (by kernel_rfl) _ _).trans (by kernel_rfl)
/-- a loop: slots 4 5 14 25 -/
noncomputable def F95_L0 (t0 : D) (t1 : D) (ds : List D) (h_1 : Hp) : Option Out :=
    (some ((nth 1 ds) : D)).bind fun t11 =>
    (some (t0 : D)).bind fun t12 =>
    (dLenT tab ty29 t12).bind fun t13 =>
    (dBin tab .lss ty3 t11 t13).bind fun t14 =>
    dIf t14
      ((some (t0 : D)).bind fun t17 =>
    (some ((nth 1 ds) : D)).bind fun t18 =>
    (dIndexAddr tab ty29 t17 t18).bind fun t19 =>
    (dLoad tab h_1 ty109 t19).bind fun t20 =>
    (some (t1 : D)).bind fun t21 =>
    (some ((nth 1 ds) : D)).bind fun t22 =>
    (dIndexAddr tab ty29 t21 t22).bind fun t23 =>
    (dLoad tab h_1 ty109 t23).bind fun t24 =>
    (dBin tab .neq ty109 t20 t24).bind fun t25 =>
    dIf t25
      ((some (.bool false : D)).bind fun t4_2 =>
      some (.ret, [t4_2, (nth 1 ds), t14, t25], h_1))
      ((some ((nth 1 ds) : D)).bind fun t15 =>
    (dBin tab .add ty3 t15 (.int .i64 1)).bind fun t16 =>
    (some (t16 : D)).bind fun t5_1 =>
    some (.nrm, [(nth 0 ds), t5_1, t14, t25], h_1)))
      (some ((.ext 0), [(nth 0 ds), (nth 1 ds), t14, (nth 3 ds)], h_1))
noncomputable def F95 (t0 : D) (t1 : D) (h : Hp) : Option (D × Hp) :=
  (some (.bool false : D)).bind fun t4 =>
  (some (t0 : D)).bind fun t6 =>
  (dLenT tab ty29 t6).bind fun t7 =>
  (some (t1 : D)).bind fun t8 =>
  (dLenT tab ty29 t8).bind fun t9 =>
  (dBin tab .neq ty3 t7 t9).bind fun t10 =>
  dIf t10
    ((some (.bool false : D)).bind fun t4_1 =>
    ((some (t4_1 : D)).bind fun d => (some ([] : List D)).bind fun ds => some (d :: ds)).bind fun ds => some (mkRes ds, h))
    ((some (.int .i64 0 : D)).bind fun t5 =>
  ((loopW (F95_L0 t0 t1) [t4, t5, .any, .any] h).bind fun r =>
    some ((unblk 0 r.1), [(nth 0 r.2.1), (nth 1 r.2.1), (nth 2 r.2.1), (nth 3 r.2.1)], r.2.2)).bind fun r_1 =>
  toEnd r_1.1 ((some (.bool true : D)).bind fun t4_3 =>
  ((some (t4_3 : D)).bind fun d => (some ([] : List D)).bind fun ds => some (d :: ds)).bind fun ds => some (mkRes ds, r_1.2.2)) fun x => exEnd x (((some ((nth 0 r_1.2.1) : D)).bind fun d => (some ([] : List D)).bind fun ds => some (d :: ds)).bind fun ds => some (mkRes ds, r_1.2.2)))
theorem e95 (t0 : D) (t1 : D) (h : Hp) : R fn95 [t0, t1] h = F95 t0 t1 h :=
  (run_fn (X := X) (F := Fs) (fi := i23) (by kernel_rfl) _ _).trans (by kernel_rfl)
/-- a loop: slots 2 7 58 67 -/
noncomputable def F1010_L0 (t5 : D) (ds : List D) (h_1 : Hp) : Option Out :=
    (some ((nth 1 ds) : D)).bind fun t55 =>
    (some (t5 : D)).bind fun t56 =>
    (dLenT tab ty29 t56).bind fun t57 =>
    (dBin tab .lss ty3 t55 t57).bind fun t58 =>
    dIf t58
      ((some (t5 : D)).bind fun t61 =>
    (some ((nth 1 ds) : D)).bind fun t62 =>
    (dIndexAddr tab ty29 t61 t62).bind fun t63 =>
    (dFieldAddr tab ty109 1 t63).bind fun t64 =>
    (dLoad tab h_1 ty9 t64).bind fun t65 =>
    (dLenT tab ty9 t65).bind fun t66 =>
    (dBin tab .gtr ty3 t66 (.int .i64 2000)).bind fun t67 =>
    dIf t67
      ((some (.int .i64 3 : D)).bind fun t2_7 =>
      some (.ret, [t2_7, (nth 1 ds), t58, t67], h_1))
      ((some ((nth 1 ds) : D)).bind fun t59 =>
    (dBin tab .add ty3 t59 (.int .i64 1)).bind fun t60 =>
    (some (t60 : D)).bind fun t7_1 =>
    some (.nrm, [(nth 0 ds), t7_1, t58, t67], h_1)))
      (some ((.ext 0), [(nth 0 ds), (nth 1 ds), t58, (nth 3 ds)], h_1))
noncomputable def F1010 (t0 : D) (h : Hp) : Option (D × Hp) :=
  (pBoxF t0).bind fun t1 =>
  (some (.int .i64 0 : D)).bind fun t2 =>
  (dLoad tab h ty31 t1).bind fun t8 =>
  (R fn1011 [t8] h).bind fun p9 =>
  (some (p9.1 : D)).bind fun t3 =>
  (some (t3 : D)).bind fun t10 =>
  (dBin tab .neq ty49 t10 (.int .i64 0)).bind fun t11 =>
  (some (t11 : D)).bind fun t12 =>
  (gd t12 false (dFieldAddr tab ty31 5 t1)).bind fun t13 =>
  (gd t12 false (dLoad tab p9.2 ty3 t13)).bind fun t14 =>
  (gd t12 false (dBin tab .lss ty3 t14 (.int .i64 0))).bind fun t15 =>
  (dPick t12 (.bool true) t15).bind fun t16 =>
  (some (t16 : D)).bind fun t17 =>
  (gd t17 false (dFieldAddr tab ty31 5 t1)).bind fun t18 =>
  (gd t17 false (dLoad tab p9.2 ty3 t18)).bind fun t19 =>
  (gd t17 false (dBin tab .gtr ty3 t19 (.int .i64 253402300799999))).bind fun t20 =>
  (dPick t17 (.bool true) t20).bind fun t21 =>
  dIf t21
    ((some (.int .i64 2 : D)).bind fun t2_1 =>
    ((some (t2_1 : D)).bind fun d => (some ([] : List D)).bind fun ds => some (d :: ds)).bind fun ds => some (mkRes ds, p9.2))
    ((dFieldAddr tab ty31 6 t1).bind fun t22 =>
  (dLoad tab p9.2 ty3 t22).bind fun t23 =>
  (R fn1014 [t23] p9.2).bind fun p24 =>
  (dUn .not p24.1).bind fun t25 =>
  dIf t25
    ((some (.int .i64 21 : D)).bind fun t2_2 =>
    ((some (t2_2 : D)).bind fun d => (some ([] : List D)).bind fun ds => some (d :: ds)).bind fun ds => some (mkRes ds, p24.2))
    ((dLoad tab p24.2 ty31 t1).bind fun t26 =>
  (R fn1012 [t26, .int .i64 2000] p24.2).bind fun p27 =>
  (some (p27.1 : D)).bind fun t4 =>
  (some (t4 : D)).bind fun t28 =>
  (dBin tab .neq ty49 t28 (.int .i64 0)).bind fun t29 =>
  dIf t29
    ((some (t4 : D)).bind fun t30 =>
    (some (t30 : D)).bind fun t2_3 =>
    ((some (t2_3 : D)).bind fun d => (some ([] : List D)).bind fun ds => some (d :: ds)).bind fun ds => some (mkRes ds, p27.2))
    ((dFieldAddr tab ty31 7 t1).bind fun t31 =>
  (dLoad tab p27.2 ty9 t31).bind fun t32 =>
  (dLenT tab ty9 t32).bind fun t33 =>
  (dBin tab .gtr ty3 t33 (.int .i64 32)).bind fun t34 =>
  (some (t34 : D)).bind fun t35 =>
  (gd t35 false (dFieldAddr tab ty31 8 t1)).bind fun t36 =>
  (gd t35 false (dLoad tab p27.2 ty9 t36)).bind fun t37 =>
  (gd t35 false (dLenT tab ty9 t37)).bind fun t38 =>
  (gd t35 false (dBin tab .gtr ty3 t38 (.int .i64 32))).bind fun t39 =>
  (dPick t35 (.bool true) t39).bind fun t40 =>
  dIf t40
    ((some (.int .i64 3 : D)).bind fun t2_4 =>
    ((some (t2_4 : D)).bind fun d => (some ([] : List D)).bind fun ds => some (d :: ds)).bind fun ds => some (mkRes ds, p27.2))
    ((dFieldAddr tab ty31 9 t1).bind fun t42 =>
  (dLoad tab p27.2 ty29 t42).bind fun t43 =>
  (R fn1015 [t43] p27.2).bind fun p44 =>
  (some (p44.1 : D)).bind fun t41 =>
  (dExtract 0 t41).bind fun t45 =>
  (dExtract 1 t41).bind fun t46 =>
  (some (t45 : D)).bind fun t5 =>
  (some (t46 : D)).bind fun t6 =>
  (some (t6 : D)).bind fun t47 =>
  (dBin tab .neq ty49 t47 (.int .i64 0)).bind fun t48 =>
  dIf t48
    ((some (t6 : D)).bind fun t49 =>
    (some (t49 : D)).bind fun t2_5 =>
    ((some (t2_5 : D)).bind fun d => (some ([] : List D)).bind fun ds => some (d :: ds)).bind fun ds => some (mkRes ds, p44.2))
    ((some (t5 : D)).bind fun t50 =>
  (dFieldAddr tab ty31 9 t1).bind fun t51 =>
  (dLoad tab p44.2 ty29 t51).bind fun t52 =>
  (R fn95 [t50, t52] p44.2).bind fun p53 =>
  (dUn .not p53.1).bind fun t54 =>
  dIf t54
    ((some (.int .i64 19 : D)).bind fun t2_6 =>
    ((some (t2_6 : D)).bind fun d => (some ([] : List D)).bind fun ds => some (d :: ds)).bind fun ds => some (mkRes ds, p53.2))
    ((some (.int .i64 0 : D)).bind fun t7 =>
  ((loopW (F1010_L0 t5) [t2, t7, .any, .any] p53.2).bind fun r =>
    some ((unblk 0 r.1), [(nth 0 r.2.1), (nth 1 r.2.1), (nth 2 r.2.1), (nth 3 r.2.1)], r.2.2)).bind fun r_1 =>
  toEnd r_1.1 ((some (.int .i64 0 : D)).bind fun t2_8 =>
  ((some (t2_8 : D)).bind fun d => (some ([] : List D)).bind fun ds => some (d :: ds)).bind fun ds => some (mkRes ds, r_1.2.2)) fun x => exEnd x (((some ((nth 0 r_1.2.1) : D)).bind fun d => (some ([] : List D)).bind fun ds => some (d :: ds)).bind fun ds => some (mkRes ds, r_1.2.2))))))))
theorem e1010 (t0 : D) (h : Hp) : R fn1010 [t0] h = F1010 t0 h :=
  (run_fn (X := X) (F := Fs) (fi := i24) (by kernel_rfl) _ _).trans (by kernel_rfl)
noncomputable def F1011 (t0 : D) (h : Hp) : Option (D × Hp) :=
  (pBoxF t0).bind fun t1 =>
  (some (.int .i64 0 : D)).bind fun t2 =>
  (dFieldAddr tab ty31 0 t1).bind fun t3 =>
  (dLoad tab h ty3 t3).bind fun t4 =>
  (dBin tab .lss ty3 t4 (.int .i64 0)).bind fun t5 =>
  (some (t5 : D)).bind fun t6 =>
  (gd t6 false (dFieldAddr tab ty31 0 t1)).bind fun t7 =>
  (gd t6 false (dLoad tab h ty3 t7)).bind fun t8 =>
  (gd t6 false (dBin tab .gtr ty3 t8 (.int .i64 999))).bind fun t9 =>
  (dPick t6 (.bool true) t9).bind fun t10 =>
  (some (t10 : D)).bind fun t11 =>
  (gd t11 false (dFieldAddr tab ty31 1 t1)).bind fun t12 =>
  (gd t11 false (dLoad tab h ty3 t12)).bind fun t13 =>
  (gd t11 false (dBin tab .lss ty3 t13 (.int .i64 0))).bind fun t14 =>
  (dPick t11 (.bool true) t14).bind fun t15 =>
  (some (t15 : D)).bind fun t16 =>
  (gd t16 false (dFieldAddr tab ty31 1 t1)).bind fun t17 =>
  (gd t16 false (dLoad tab h ty3 t17)).bind fun t18 =>
  (gd t16 false (dBin tab .gtr ty3 t18 (.int .i64 2147483646))).bind fun t19 =>
  (dPick t16 (.bool true) t19).bind fun t20 =>
  (some (t20 : D)).bind fun t21 =>
  (gd t21 false (dFieldAddr tab ty31 2 t1)).bind fun t22 =>
  (gd t21 false (dLoad tab h ty3 t22)).bind fun t23 =>
  (gd t21 false (dBin tab .lss ty3 t23 (.int .i64 0))).bind fun t24 =>
  (dPick t21 (.bool true) t24).bind fun t25 =>
  (some (t25 : D)).bind fun t26 =>
  (gd t26 false (dFieldAddr tab ty31 3 t1)).bind fun t27 =>
  (gd t26 false (dLoad tab h ty3 t27)).bind fun t28 =>
  (gd t26 false (dFieldAddr tab ty31 2 t1)).bind fun t29 =>
  (gd t26 false (dLoad tab h ty3 t29)).bind fun t30 =>
  (gd t26 false (dBin tab .leq ty3 t28 t30)).bind fun t31 =>
  (dPick t26 (.bool true) t31).bind fun t32 =>
  (some (t32 : D)).bind fun t33 =>
  (gd t33 false (dFieldAddr tab ty31 3 t1)).bind fun t34 =>
  (gd t33 false (dLoad tab h ty3 t34)).bind fun t35 =>
  (gd t33 false (dBin tab .gtr ty3 t35 (.int .i64 60000))).bind fun t36 =>
  (dPick t33 (.bool true) t36).bind fun t37 =>
  dIf t37
    ((some (.int .i64 2 : D)).bind fun t2_1 =>
    ((some (t2_1 : D)).bind fun d => (some ([] : List D)).bind fun ds => some (d :: ds)).bind fun ds => some (mkRes ds, h))
    ((some (.int .i64 0 : D)).bind fun t2_2 =>
  ((some (t2_2 : D)).bind fun d => (some ([] : List D)).bind fun ds => some (d :: ds)).bind fun ds => some (mkRes ds, h))
theorem e1011 (t0 : D) (h : Hp) : R fn1011 [t0] h = F1011 t0 h :=
  (run_fn (X := X) (F := Fs) (fi := i25) (by kernel_rfl) _ _).trans (by kernel_rfl)
/-- a loop: slots 4 5 6 7 22 64 69 -/
noncomputable def F1012_L0 (t1 : D) (t2 : D) (ds : List D) (h_1 : Hp) : Option Out :=
    (some ((nth 2 ds) : D)).bind fun t18 =>
    (dFieldAddr tab ty31 4 t2).bind fun t19 =>
    (dLoad tab h_1 ty28 t19).bind fun t20 =>
    (dLenT tab ty28 t20).bind fun t21 =>
    (dBin tab .lss ty3 t18 t21).bind fun t22 =>
    dIf t22
      ((dFieldAddr tab ty31 4 t2).bind fun t25 =>
    (dLoad tab h_1 ty28 t25).bind fun t26 =>
    (some ((nth 2 ds) : D)).bind fun t27 =>
    (dIndexAddr tab ty28 t26 t27).bind fun t28 =>
    (dLoad tab h_1 ty78 t28).bind fun t29 =>
    (boxN 3 t29).bind fun t7 =>
    (dFieldAddr tab ty78 0 t7).bind fun t30 =>
    (dLoad tab h_1 ty3 t30).bind fun t31 =>
    (some ((nth 1 ds) : D)).bind fun t32 =>
    (dBin tab .neq ty3 t31 t32).bind fun t33 =>
    (some (t33 : D)).bind fun t34 =>
    (gd t34 false (dFieldAddr tab ty78 1 t7)).bind fun t35 =>
    (gd t34 false (dLoad tab h_1 ty3 t35)).bind fun t36 =>
    (gd t34 false (dBin tab .lss ty3 t36 (.int .i64 1))).bind fun t37 =>
    (dPick t34 (.bool true) t37).bind fun t38 =>
    (some (t38 : D)).bind fun t39 =>
    (gd t39 false (dFieldAddr tab ty78 1 t7)).bind fun t40 =>
    (gd t39 false (dLoad tab h_1 ty3 t40)).bind fun t41 =>
    (gd t39 false (dFieldAddr tab ty31 3 t2)).bind fun t42 =>
    (gd t39 false (dLoad tab h_1 ty3 t42)).bind fun t43 =>
    (gd t39 false (some ((nth 1 ds) : D))).bind fun t44 =>
    (gd t39 false (dBin tab .sub ty3 t43 t44)).bind fun t45 =>
    (gd t39 false (dBin tab .gtr ty3 t41 t45)).bind fun t46 =>
    (dPick t39 (.bool true) t46).bind fun t47 =>
    (some (t47 : D)).bind fun t48 =>
    (gd t48 false (some ((nth 2 ds) : D))).bind fun t49 =>
    (gd t48 false (dFieldAddr tab ty31 4 t2)).bind fun t50 =>
    (gd t48 false (dLoad tab h_1 ty28 t50)).bind fun t51 =>
    (gd t48 false (dLenT tab ty28 t51)).bind fun t52 =>
    (gd t48 false (dBin tab .sub ty3 t52 (.int .i64 1))).bind fun t53 =>
    (gd t48 false (dBin tab .eql ty3 t49 t53)).bind fun t54 =>
    (gd t48 false (some (t54 : D))).bind fun t55 =>
    (gd t55 true (dFieldAddr tab ty78 1 t7)).bind fun t56 =>
    (gd t55 true (dLoad tab h_1 ty3 t56)).bind fun t57 =>
    (gd t55 true (dFieldAddr tab ty31 3 t2)).bind fun t58 =>
    (gd t55 true (dLoad tab h_1 ty3 t58)).bind fun t59 =>
    (gd t55 true (some ((nth 1 ds) : D))).bind fun t60 =>
    (gd t55 true (dBin tab .sub ty3 t59 t60)).bind fun t61 =>
    (gd t55 true (dBin tab .neq ty3 t57 t61)).bind fun t62 =>
    (gd t48 false (dPick t55 t62 (.bool false))).bind fun t63 =>
    (dPick t48 (.bool true) t63).bind fun t64 =>
    dIf t64
      ((some (.int .i64 19 : D)).bind fun t4_3 =>
      some (.ret, [t4_3, (nth 1 ds), (nth 2 ds), t7, t22, t64, (nth 6 ds)], h_1))
      ((dFieldAddr tab ty78 2 t7).bind fun t65 =>
    (dLoad tab h_1 ty9 t65).bind fun t66 =>
    (dLenT tab ty9 t66).bind fun t67 =>
    (some (t1 : D)).bind fun t68 =>
    (dBin tab .gtr ty3 t67 t68).bind fun t69 =>
    dIf t69
      ((some (.int .i64 3 : D)).bind fun t4_4 =>
      some (.ret, [t4_4, (nth 1 ds), (nth 2 ds), t7, t22, t64, t69], h_1))
      ((some ((nth 1 ds) : D)).bind fun t70 =>
    (dFieldAddr tab ty78 1 t7).bind fun t71 =>
    (dLoad tab h_1 ty3 t71).bind fun t72 =>
    (dBin tab .add ty3 t70 t72).bind fun t73 =>
    (some (t73 : D)).bind fun t5_1 =>
    (some ((nth 2 ds) : D)).bind fun t23 =>
    (dBin tab .add ty3 t23 (.int .i64 1)).bind fun t24 =>
    (some (t24 : D)).bind fun t6_1 =>
    some (.nrm, [(nth 0 ds), t5_1, t6_1, t7, t22, t64, t69], h_1))))
      (some ((.ext 0), [(nth 0 ds), (nth 1 ds), (nth 2 ds), (nth 3 ds), t22, (nth 5 ds), (nth 6 ds)], h_1))
noncomputable def F1012 (t0 : D) (t1 : D) (h : Hp) : Option (D × Hp) :=
  (pBoxF t0).bind fun t2 =>
  (some (.int .i64 0 : D)).bind fun t4 =>
  (dFieldAddr tab ty31 4 t2).bind fun t8 =>
  (dLoad tab h ty28 t8).bind fun t9 =>
  (dLenT tab ty28 t9).bind fun t10 =>
  (dBin tab .eql ty3 t10 (.int .i64 0)).bind fun t11 =>
  dIf t11
    ((some (.int .i64 9 : D)).bind fun t4_1 =>
    ((some (t4_1 : D)).bind fun d => (some ([] : List D)).bind fun ds => some (d :: ds)).bind fun ds => some (mkRes ds, h))
    ((dFieldAddr tab ty31 4 t2).bind fun t12 =>
  (dLoad tab h ty28 t12).bind fun t13 =>
  (dLenT tab ty28 t13).bind fun t14 =>
  (dBin tab .gtr ty3 t14 (.int .i64 40)).bind fun t15 =>
  dIf t15
    ((some (.int .i64 4 : D)).bind fun t4_2 =>
    ((some (t4_2 : D)).bind fun d => (some ([] : List D)).bind fun ds => some (d :: ds)).bind fun ds => some (mkRes ds, h))
    ((dFieldAddr tab ty31 2 t2).bind fun t16 =>
  (dLoad tab h ty3 t16).bind fun t17 =>
  (some (t17 : D)).bind fun t5 =>
  (some (.int .i64 0 : D)).bind fun t6 =>
  ((loopW (F1012_L0 t1 t2) [t4, t5, t6, .any, .any, .any, .any] h).bind fun r =>
    some ((unblk 0 r.1), [(nth 0 r.2.1), (nth 1 r.2.1), (nth 2 r.2.1), (nth 3 r.2.1), (nth 4 r.2.1), (nth 5 r.2.1), (nth 6 r.2.1)], r.2.2)).bind fun r_1 =>
  toEnd r_1.1 ((some (.int .i64 0 : D)).bind fun t4_5 =>
  ((some (t4_5 : D)).bind fun d => (some ([] : List D)).bind fun ds => some (d :: ds)).bind fun ds => some (mkRes ds, r_1.2.2)) fun x => exEnd x (((some ((nth 0 r_1.2.1) : D)).bind fun d => (some ([] : List D)).bind fun ds => some (d :: ds)).bind fun ds => some (mkRes ds, r_1.2.2))))
theorem e1012 (t0 : D) (t1 : D) (h : Hp) : R fn1012 [t0, t1] h = F1012 t0 t1 h :=
  (run_fn (X := X) (F := Fs) (fi := i26) (by kernel_rfl) _ _).trans (by kernel_rfl)
noncomputable def F1013 (t0 : D) (t1 : D) (t2 : D) (h : Hp) : Option (D × Hp) :=
  (some (.int .i64 0 : D)).bind fun t6 =>
  (some (.bool false : D)).bind fun t7 =>
  (some (t0 : D)).bind fun t8 =>
  (some (t1 : D)).bind fun t9 =>
  (some (t2 : D)).bind fun t10 =>
  (dBuild tab ty1006 [0, 1] [t9, t10]).bind fun t11 =>
  (R fn1016 [t8, t11, .fn (.func fn1017) [] []] h).bind fun p12 =>
  (dExtract 0 p12.1).bind fun t13 =>
  (dExtract 1 p12.1).bind fun t14 =>
  (some (t13 : D)).bind fun t6_1 =>
  (some (t14 : D)).bind fun t7_1 =>
  ((some (t6_1 : D)).bind fun d => ((some (t7_1 : D)).bind fun d => (some ([] : List D)).bind fun ds => some (d :: ds)).bind fun ds => some (d :: ds)).bind fun ds => some (mkRes ds, p12.2)
theorem e1013 (t0 : D) (t1 : D) (t2 : D) (h : Hp) : R fn1013 [t0, t1, t2] h = F1013 t0 t1 t2 h :=
  (run_fn (X := X) (F := Fs) (fi := i27) (by kernel_rfl) _ _).trans (by kernel_rfl)
noncomputable def F102 (t0 : D) (h : Hp) : Option (D × Hp) :=
  (some (.str [] : D)).bind fun t2 =>
  (pLitF tab ty98 14 [0, 1, 2, 3, 4, 5, 6, 7, 8, 9, 10, 11, 12, 13] [.str [103, 101, 116], .str [101, 114, 114, 111, 114], .str [119, 97, 114, 110], .str [97, 49], .str [117, 115, 101, 114, 95, 55], .str [120], .str [84, 105, 109, 101, 111, 117, 116], .str [50, 48, 48], .str [71, 69, 84], .str [101, 114, 114, 111], .str [122], .str [], .str [255], .str [97, 46, 98]]).bind fun t4 =>
  (some (t4 : D)).bind fun t3 =>
  (some (t3 : D)).bind fun t5 =>
  (some (t0 : D)).bind fun t6 =>
  (some (t3 : D)).bind fun t7 =>
  (dLenT tab ty98 t7).bind fun t8 =>
  (R fn24 [t6, t8] h).bind fun p9 =>
  (dIndexAddr tab ty98 t5 p9.1).bind fun t10 =>
  (dLoad tab p9.2 ty9 t10).bind fun t11 =>
  (some (t11 : D)).bind fun t2_1 =>
  ((some (t2_1 : D)).bind fun d => (some ([] : List D)).bind fun ds => some (d :: ds)).bind fun ds => some (mkRes ds, p9.2)
theorem e102 (t0 : D) (h : Hp) : R fn102 [t0] h = F102 t0 h :=
  (run_fn (X := X) (F := Fs) (fi := i28) (by kernel_rfl) _ _).trans (by kernel_rfl)
noncomputable def F33 (t0 : D) (h : Hp) : Option (D × Hp) :=
  (some (.str [] : D)).bind fun t2 =>
  (pLitF tab ty98 11 [0, 1, 2, 3, 4, 5, 6, 7, 8, 9, 10] [.str [119, 97, 114, 110], .str [105, 110, 102, 111], .str [55], .str [45, 51], .str [51, 49], .str [], .str [120, 32, 121], .str [57, 57, 57, 57, 57, 57, 57, 57, 57, 57, 57, 57, 57, 57, 57, 57, 57, 57], .str [49, 48, 48, 48, 48, 48, 48, 48, 48, 48, 48, 48, 48, 48, 48, 48, 48, 48, 48], .str [48, 55], .str [45]]).bind fun t4 =>
  (some (t4 : D)).bind fun t3 =>
  (some (t3 : D)).bind fun t5 =>
  (some (t0 : D)).bind fun t6 =>
  (some (t3 : D)).bind fun t7 =>
  (dLenT tab ty98 t7).bind fun t8 =>
  (R fn24 [t6, t8] h).bind fun p9 =>
  (dIndexAddr tab ty98 t5 p9.1).bind fun t10 =>
  (dLoad tab p9.2 ty9 t10).bind fun t11 =>
  (some (t11 : D)).bind fun t2_1 =>
  ((some (t2_1 : D)).bind fun d => (some ([] : List D)).bind fun ds => some (d :: ds)).bind fun ds => some (mkRes ds, p9.2)
theorem e33 (t0 : D) (h : Hp) : R fn33 [t0] h = F33 t0 h :=
  (run_fn (X := X) (F := Fs) (fi := i29) (by kernel_rfl) _ _).trans (by kernel_rfl)
noncomputable def F1014 (t0 : D) (h : Hp) : Option (D × Hp) :=
  (some (.bool false : D)).bind fun t2 =>
  (some (t0 : D)).bind fun t3 =>
  (dBin tab .geq ty3 t3 (.int .i64 1)).bind fun t4 =>
  (some (t4 : D)).bind fun t5 =>
  (gd t5 true (some (t0 : D))).bind fun t6 =>
  (gd t5 true (dBin tab .leq ty3 t6 (.int .i64 5040))).bind fun t7 =>
  (dPick t5 t7 (.bool false)).bind fun t8 =>
  (some (t8 : D)).bind fun t9 =>
  (gd t9 true (some (t0 : D))).bind fun t10 =>
  (gd t9 true (dBin tab .rem ty3 (.int .i64 5040) t10)).bind fun t11 =>
  (gd t9 true (dBin tab .eql ty3 t11 (.int .i64 0))).bind fun t12 =>
  (dPick t9 t12 (.bool false)).bind fun t13 =>
  (some (t13 : D)).bind fun t2_1 =>
  ((some (t2_1 : D)).bind fun d => (some ([] : List D)).bind fun ds => some (d :: ds)).bind fun ds => some (mkRes ds, h)
theorem e1014 (t0 : D) (h : Hp) : R fn1014 [t0] h = F1014 t0 h :=
  (run_fn (X := X) (F := Fs) (fi := i30) (by kernel_rfl) _ _).trans (by kernel_rfl)
/-- a loop: slots 2 3 4 14 23 -/
noncomputable def F1015_L0 (t0 : D) (ds : List D) (h_1 : Hp) : Option Out :=
    (some ((nth 2 ds) : D)).bind fun t11 =>
    (some (t0 : D)).bind fun t12 =>
    (dLenT tab ty29 t12).bind fun t13 =>
    (dBin tab .lss ty3 t11 t13).bind fun t14 =>
    dIf t14
      ((some (t0 : D)).bind fun t17 =>
    (some ((nth 2 ds) : D)).bind fun t18 =>
    (dIndexAddr tab ty29 t17 t18).bind fun t19 =>
    (dFieldAddr tab ty109 0 t19).bind fun t20 =>
    (dLoad tab h_1 ty9 t20).bind fun t21 =>
    (R fn1018 [t21] h_1).bind fun p22 =>
    (dUn .not p22.1).bind fun t23 =>
    dIf t23
      ((some (.nils : D)).bind fun t2_2 =>
      (some (.int .i64 6 : D)).bind fun t3_2 =>
      some (.ret, [t2_2, t3_2, (nth 2 ds), t14, t23], p22.2))
      ((some ((nth 2 ds) : D)).bind fun t15 =>
    (dBin tab .add ty3 t15 (.int .i64 1)).bind fun t16 =>
    (some (t16 : D)).bind fun t4_1 =>
    some (.nrm, [(nth 0 ds), (nth 1 ds), t4_1, t14, t23], p22.2)))
      (some ((.ext 0), [(nth 0 ds), (nth 1 ds), (nth 2 ds), t14, (nth 4 ds)], h_1))
/-- a loop: slots 7 54 -/
noncomputable def F1015_L2 (t0 : D) (ds_1 : List D) (t5_1 : D) (ds_2 : List D) (h_3 : Hp) : Option Out :=
    (some ((nth 0 ds_2) : D)).bind fun t39 =>
    (dBin tab .gtr ty3 t39 (.int .i64 0)).bind fun t40 =>
    (some (t40 : D)).bind fun t41 =>
    (gd t41 true (some (t5_1 : D))).bind fun t42 =>
    (gd t41 true (some ((nth 0 ds_2) : D))).bind fun t43 =>
    (gd t41 true (dBin tab .sub ty3 t43 (.int .i64 1))).bind fun t44 =>
    (gd t41 true (dIndexAddr tab ty29 t42 t44)).bind fun t45 =>
    (gd t41 true (dFieldAddr tab ty109 0 t45)).bind fun t46 =>
    (gd t41 true (dLoad tab h_3 ty9 t46)).bind fun t47 =>
    (gd t41 true (some (t0 : D))).bind fun t48 =>
    (gd t41 true (some ((nth 3 ds_1) : D))).bind fun t49 =>
    (gd t41 true (dIndexAddr tab ty29 t48 t49)).bind fun t50 =>
    (gd t41 true (dFieldAddr tab ty109 0 t50)).bind fun t51 =>
    (gd t41 true (dLoad tab h_3 ty9 t51)).bind fun t52 =>
    (gd t41 true (dBin tab .gtr ty9 t47 t52)).bind fun t53 =>
    (dPick t41 t53 (.bool false)).bind fun t54 =>
    dIf t54
      ((some (t5_1 : D)).bind fun t55 =>
    (some ((nth 0 ds_2) : D)).bind fun t56 =>
    (some (t5_1 : D)).bind fun t57 =>
    (some ((nth 0 ds_2) : D)).bind fun t58 =>
    (dBin tab .sub ty3 t58 (.int .i64 1)).bind fun t59 =>
    (dIndexAddr tab ty29 t57 t59).bind fun t60 =>
    (dLoad tab h_3 ty109 t60).bind fun t61 =>
    (dIndexAddr tab ty29 t55 t56).bind fun t62 =>
    ((dStore tab h_3 ty109 t62 t61).bind fun h' => some ((.und : D), h')).bind fun p908 =>
    (some ((nth 0 ds_2) : D)).bind fun t63 =>
    (dBin tab .sub ty3 t63 (.int .i64 1)).bind fun t64 =>
    (some (t64 : D)).bind fun t7_1 =>
    some (.nrm, [t7_1, t54], p908.2))
      (some ((.ext 4), [(nth 0 ds_2), t54], h_3))
/-- a loop: slots 2 3 5 6 7 27 54 87 -/
noncomputable def F1015_L1 (t0 : D) (ds_1 : List D) (h_2 : Hp) : Option Out :=
    (some ((nth 3 ds_1) : D)).bind fun t24 =>
    (some (t0 : D)).bind fun t25 =>
    (dLenT tab ty29 t25).bind fun t26 =>
    (dBin tab .lss ty3 t24 t26).bind fun t27 =>
    dIf t27
      ((some ((nth 2 ds_1) : D)).bind fun t30 =>
    (dLenT tab ty29 t30).bind fun t31 =>
    (some (t31 : D)).bind fun t7 =>
    (some ((nth 2 ds_1) : D)).bind fun t32 =>
    (some (t0 : D)).bind fun t33 =>
    (some ((nth 3 ds_1) : D)).bind fun t34 =>
    (dIndexAddr tab ty29 t33 t34).bind fun t35 =>
    (dLoad tab h_2 ty109 t35).bind fun t36 =>
    (pLitF tab ty29 1 [0] [t36]).bind fun t37 =>
    (dAppend tab h_2 ty29 ty29 t32 t37).bind fun p38 =>
    (some (p38.1 : D)).bind fun t5_1 =>
    ((loopW (F1015_L2 t0 ds_1 t5_1) [t7, (nth 6 ds_1)] p38.2).bind fun r_3 =>
      some ((unblk 4 r_3.1), [(nth 0 r_3.2.1), (nth 1 r_3.2.1)], r_3.2.2)).bind fun r_4 =>
    toEnd r_4.1 ((some (t5_1 : D)).bind fun t65 =>
    (some ((nth 0 r_4.2.1) : D)).bind fun t66 =>
    (some (t0 : D)).bind fun t67 =>
    (some ((nth 3 ds_1) : D)).bind fun t68 =>
    (dIndexAddr tab ty29 t67 t68).bind fun t69 =>
    (dLoad tab r_4.2.2 ty109 t69).bind fun t70 =>
    (dIndexAddr tab ty29 t65 t66).bind fun t71 =>
    ((dStore tab r_4.2.2 ty109 t71 t70).bind fun h' => some ((.und : D), h')).bind fun p907 =>
    (some ((nth 0 r_4.2.1) : D)).bind fun t72 =>
    (dBin tab .gtr ty3 t72 (.int .i64 0)).bind fun t73 =>
    (some (t73 : D)).bind fun t74 =>
    (gd t74 true (some (t5_1 : D))).bind fun t75 =>
    (gd t74 true (some ((nth 0 r_4.2.1) : D))).bind fun t76 =>
    (gd t74 true (dBin tab .sub ty3 t76 (.int .i64 1))).bind fun t77 =>
    (gd t74 true (dIndexAddr tab ty29 t75 t77)).bind fun t78 =>
    (gd t74 true (dFieldAddr tab ty109 0 t78)).bind fun t79 =>
    (gd t74 true (dLoad tab p907.2 ty9 t79)).bind fun t80 =>
    (gd t74 true (some (t0 : D))).bind fun t81 =>
    (gd t74 true (some ((nth 3 ds_1) : D))).bind fun t82 =>
    (gd t74 true (dIndexAddr tab ty29 t81 t82)).bind fun t83 =>
    (gd t74 true (dFieldAddr tab ty109 0 t83)).bind fun t84 =>
    (gd t74 true (dLoad tab p907.2 ty9 t84)).bind fun t85 =>
    (gd t74 true (dBin tab .eql ty9 t80 t85)).bind fun t86 =>
    (dPick t74 t86 (.bool false)).bind fun t87 =>
    dIf t87
      ((some (.nils : D)).bind fun t2_3 =>
      (some (.int .i64 7 : D)).bind fun t3_3 =>
      some (.ret, [t2_3, t3_3, t5_1, (nth 3 ds_1), (nth 0 r_4.2.1), t27, (nth 1 r_4.2.1), t87], p907.2))
      ((some ((nth 3 ds_1) : D)).bind fun t28 =>
    (dBin tab .add ty3 t28 (.int .i64 1)).bind fun t29 =>
    (some (t29 : D)).bind fun t6_1 =>
    some (.nrm, [(nth 0 ds_1), (nth 1 ds_1), t5_1, t6_1, (nth 0 r_4.2.1), t27, (nth 1 r_4.2.1), t87], p907.2))) fun x_1 => toEnd (unblk 3 x_1) ((some ((nth 3 ds_1) : D)).bind fun t28_1 =>
    (dBin tab .add ty3 t28_1 (.int .i64 1)).bind fun t29_1 =>
    (some (t29_1 : D)).bind fun t6_2 =>
    some (.nrm, [(nth 0 ds_1), (nth 1 ds_1), t5_1, t6_2, (nth 0 r_4.2.1), t27, (nth 1 r_4.2.1), (nth 7 ds_1)], r_4.2.2)) fun x_2 => some (x_2, [(nth 0 ds_1), (nth 1 ds_1), t5_1, (nth 3 ds_1), (nth 0 r_4.2.1), t27, (nth 1 r_4.2.1), (nth 7 ds_1)], r_4.2.2))
      (some ((.ext 2), [(nth 0 ds_1), (nth 1 ds_1), (nth 2 ds_1), (nth 3 ds_1), (nth 4 ds_1), t27, (nth 6 ds_1), (nth 7 ds_1)], h_2))
noncomputable def F1015 (t0 : D) (h : Hp) : Option (D × Hp) :=
  (some (.nils : D)).bind fun t2 =>
  (some (.int .i64 0 : D)).bind fun t3 =>
  (some (t0 : D)).bind fun t8 =>
  (dLenT tab ty29 t8).bind fun t9 =>
  (dBin tab .gtr ty3 t9 (.int .i64 32)).bind fun t10 =>
  dIf t10
    ((some (.nils : D)).bind fun t2_1 =>
    (some (.int .i64 4 : D)).bind fun t3_1 =>
    ((some (t2_1 : D)).bind fun d => ((some (t3_1 : D)).bind fun d => (some ([] : List D)).bind fun ds => some (d :: ds)).bind fun ds => some (d :: ds)).bind fun ds => scope h h (mkRes ds))
    ((some (.int .i64 0 : D)).bind fun t4 =>
  ((loopW (F1015_L0 t0) [t2, t3, t4, .any, .any] h).bind fun r =>
    some ((unblk 0 r.1), [(nth 0 r.2.1), (nth 1 r.2.1), (nth 2 r.2.1), (nth 3 r.2.1), (nth 4 r.2.1)], r.2.2)).bind fun r_1 =>
  toEnd r_1.1 ((some (.nils : D)).bind fun t5 =>
  (some (.int .i64 0 : D)).bind fun t6 =>
  ((loopW (F1015_L1 t0) [(nth 0 r_1.2.1), (nth 1 r_1.2.1), t5, t6, .any, .any, .any, .any] r_1.2.2).bind fun r_2 =>
    some ((unblk 2 r_2.1), [(nth 0 r_2.2.1), (nth 1 r_2.2.1), (nth 2 r_2.2.1), (nth 3 r_2.2.1), (nth 4 r_2.2.1), (nth 5 r_2.2.1), (nth 6 r_2.2.1), (nth 7 r_2.2.1)], r_2.2.2)).bind fun r_5 =>
  toEnd r_5.1 ((some ((nth 2 r_5.2.1) : D)).bind fun t88 =>
  (some (t88 : D)).bind fun t2_4 =>
  (some (.int .i64 0 : D)).bind fun t3_4 =>
  ((some (t2_4 : D)).bind fun d => ((some (t3_4 : D)).bind fun d => (some ([] : List D)).bind fun ds => some (d :: ds)).bind fun ds => some (d :: ds)).bind fun ds => scope h r_5.2.2 (mkRes ds)) fun x_3 => exEnd x_3 (((some ((nth 0 r_5.2.1) : D)).bind fun d => ((some ((nth 1 r_5.2.1) : D)).bind fun d => (some ([] : List D)).bind fun ds => some (d :: ds)).bind fun ds => some (d :: ds)).bind fun ds => scope h r_5.2.2 (mkRes ds))) fun x => exEnd x (((some ((nth 0 r_1.2.1) : D)).bind fun d => ((some ((nth 1 r_1.2.1) : D)).bind fun d => (some ([] : List D)).bind fun ds => some (d :: ds)).bind fun ds => some (d :: ds)).bind fun ds => scope h r_1.2.2 (mkRes ds)))
theorem e1015 (t0 : D) (h : Hp) : R fn1015 [t0] h = F1015 t0 h :=
  (run_fn (X := X) (F := Fs) (fi := i31) (by kernel_rfl) _ _).trans (by kernel_rfl)
/-- a loop: slots 9 10 11 17 31 -/
noncomputable def F1016_L0 (t0 : D) (t2 : D) (t4 : D) (ds : List D) (h_1 : Hp) : Option Out :=
    (some ((nth 0 ds) : D)).bind fun t15 =>
    (some ((nth 1 ds) : D)).bind fun t16 =>
    (dBin tab .lss ty3 t15 t16).bind fun t17 =>
    dIf t17
      ((some ((nth 0 ds) : D)).bind fun t18 =>
    (some ((nth 1 ds) : D)).bind fun t19 =>
    (dBin tab .add ty3 t18 t19).bind fun t20 =>
    (dConv tab ty3 ty134 t20).bind fun t21 =>
    (dBin tab .shr ty134 t21 (.int .u64 1)).bind fun t22 =>
    (dConv tab ty134 ty3 t22).bind fun t23 =>
    (some (t23 : D)).bind fun t11 =>
    (some (t2 : D)).bind fun t24 =>
    (some (t0 : D)).bind fun t25 =>
    (some (t11 : D)).bind fun t26 =>
    (dIndexAddr tab ty1007 t25 t26).bind fun t27 =>
    (dLoad tab h_1 ty1006 t27).bind fun t28 =>
    (dLoad tab h_1 ty1006 t4).bind fun t29 =>
    (callV R t24 [t28, t29] h_1).bind fun p30 =>
    (dBin tab .lss ty3 p30.1 (.int .i64 0)).bind fun t31 =>
    (dIf t31
      ((some (t11 : D)).bind fun t32 =>
      (dBin tab .add ty3 t32 (.int .i64 1)).bind fun t33 =>
      (some (t33 : D)).bind fun t9_1 =>
      some (.nrm, [t9_1, (nth 1 ds)], p30.2))
      ((some (t11 : D)).bind fun t34 =>
      (some (t34 : D)).bind fun t10_1 =>
      some (.nrm, [(nth 0 ds), t10_1], p30.2))).bind fun r_1 =>
    some ((unblk 1 r_1.1), [(nth 0 r_1.2.1), (nth 1 r_1.2.1), t11, t17, t31], r_1.2.2))
      (some ((.ext 0), [(nth 0 ds), (nth 1 ds), (nth 2 ds), t17, (nth 4 ds)], h_1))
noncomputable def F1016 (t0 : D) (t1 : D) (t2 : D) (h : Hp) : Option (D × Hp) :=
  (pBoxF t1).bind fun t4 =>
  (some (.int .i64 0 : D)).bind fun t6 =>
  (some (.bool false : D)).bind fun t7 =>
  (some (t0 : D)).bind fun t12 =>
  (dLenT tab ty1007 t12).bind fun t13 =>
  (some (t13 : D)).bind fun t8 =>
  (some (t8 : D)).bind fun t14 =>
  (some (.int .i64 0 : D)).bind fun t9 =>
  (some (t14 : D)).bind fun t10 =>
  ((loopW (F1016_L0 t0 t2 t4) [t9, t10, .any, .any, .any] h).bind fun r =>
    some ((unblk 0 r.1), [(nth 0 r.2.1), (nth 1 r.2.1), (nth 2 r.2.1), (nth 3 r.2.1), (nth 4 r.2.1)], r.2.2)).bind fun r_2 =>
  toEnd r_2.1 ((some ((nth 0 r_2.2.1) : D)).bind fun t35 =>
  (some ((nth 0 r_2.2.1) : D)).bind fun t36 =>
  (some (t8 : D)).bind fun t37 =>
  (dBin tab .lss ty3 t36 t37).bind fun t38 =>
  (some (t38 : D)).bind fun t39 =>
  (gd t39 true (some (t2 : D))).bind fun t40 =>
  (gd t39 true (some (t0 : D))).bind fun t41 =>
  (gd t39 true (some ((nth 0 r_2.2.1) : D))).bind fun t42 =>
  (gd t39 true (dIndexAddr tab ty1007 t41 t42)).bind fun t43 =>
  (gd t39 true (dLoad tab r_2.2.2 ty1006 t43)).bind fun t44 =>
  (gd t39 true (dLoad tab r_2.2.2 ty1006 t4)).bind fun t45 =>
  (gdW t39 true r_2.2.2 (callV R t40 [t44, t45] r_2.2.2)).bind fun p46 =>
  (gd t39 true (dBin tab .eql ty3 p46.1 (.int .i64 0))).bind fun t47 =>
  (dPick t39 t47 (.bool false)).bind fun t48 =>
  (some (t35 : D)).bind fun t6_1 =>
  (some (t48 : D)).bind fun t7_1 =>
  ((some (t6_1 : D)).bind fun d => ((some (t7_1 : D)).bind fun d => (some ([] : List D)).bind fun ds => some (d :: ds)).bind fun ds => some (d :: ds)).bind fun ds => some (mkRes ds, p46.2)) fun x => exEnd x (((some (t6 : D)).bind fun d => ((some (t7 : D)).bind fun d => (some ([] : List D)).bind fun ds => some (d :: ds)).bind fun ds => some (d :: ds)).bind fun ds => some (mkRes ds, r_2.2.2))
theorem e1016 (t0 : D) (t1 : D) (t2 : D) (h : Hp) : R fn1016 [t0, t1, t2] h = F1016 t0 t1 t2 h :=
  (run_fn (X := X) (F := Fs) (fi := i32) (by kernel_rfl) _ _).trans (by kernel_rfl)
noncomputable def F1017 (t0 : D) (t1 : D) (h : Hp) : Option (D × Hp) :=
  (pBoxF t0).bind fun t2 =>
  (pBoxF t1).bind fun t3 =>
  (some (.int .i64 0 : D)).bind fun t4 =>
  (dFieldAddr tab ty1006 0 t2).bind fun t5 =>
  (dLoad tab h ty3 t5).bind fun t6 =>
  (dFieldAddr tab ty1006 0 t3).bind fun t7 =>
  (dLoad tab h ty3 t7).bind fun t8 =>
  (R fn90 [t6, t8] h).bind fun p9 =>
  (dFieldAddr tab ty1006 1 t2).bind fun t10 =>
  (dLoad tab p9.2 ty3 t10).bind fun t11 =>
  (dFieldAddr tab ty1006 1 t3).bind fun t12 =>
  (dLoad tab p9.2 ty3 t12).bind fun t13 =>
  (R fn90 [t11, t13] p9.2).bind fun p14 =>
  (pLitF tab ty82 2 [0, 1] [p9.1, p14.1]).bind fun t15 =>
  (R fn89 [t15] p14.2).bind fun p16 =>
  chk (dLoad tab h ty3 t10 = some t11)
  (chk (dLoad tab h ty3 t12 = some t13)
  ((some (p16.1 : D)).bind fun t4_1 =>
  ((some (t4_1 : D)).bind fun d => (some ([] : List D)).bind fun ds => some (d :: ds)).bind fun ds => some (mkRes ds, p16.2)))
theorem e1017 (t0 : D) (t1 : D) (h : Hp) : R fn1017 [t0, t1] h = F1017 t0 t1 h :=
  (run_fn (X := X) (F := Fs) (fi := i33) (by kernel_rfl) _ _).trans (by kernel_rfl)
/-- a loop: slots 2 5 8 9 14 -/
noncomputable def F89_L0 (t3 : D) (t6 : D) (t7 : D) (ds : List D) (h_1 : Hp) : Option Out :=
    (dBin tab .lss ty3 (nth 2 ds) t7).bind fun t9 =>
    dIf t9
      ((dIndexAddr tab ty82 t6 (nth 2 ds)).bind fun t10 =>
    (dLoad tab h_1 ty3 t10).bind fun t11 =>
    (some (t11 : D)).bind fun t5 =>
    (some (t5 : D)).bind fun t12 =>
    (some (t3 : D)).bind fun t13 =>
    (dBin tab .neq ty3 t12 t13).bind fun t14 =>
    dIf t14
      ((some (t5 : D)).bind fun t15 =>
      (some (t15 : D)).bind fun t2_1 =>
      some (.ret, [t2_1, t5, (nth 2 ds), t9, t14], h_1))
      ((dBin tab .add ty3 (nth 2 ds) (.int .i64 1)).bind fun t16 =>
    (some (t16 : D)).bind fun t8_1 =>
    some (.nrm, [(nth 0 ds), t5, t8_1, t9, t14], h_1)))
      (some ((.ext 0), [(nth 0 ds), (nth 1 ds), (nth 2 ds), t9, (nth 4 ds)], h_1))
noncomputable def F89 (t0 : D) (h : Hp) : Option (D × Hp) :=
  (some (.int .i64 0 : D)).bind fun t2 =>
  (some (.int .i64 0 : D)).bind fun t3 =>
  (some (t0 : D)).bind fun t6 =>
  (dLenT tab ty82 t6).bind fun t7 =>
  (some (.int .i64 0 : D)).bind fun t8 =>
  ((loopW (F89_L0 t3 t6 t7) [t2, .any, t8, .any, .any] h).bind fun r =>
    some ((unblk 0 r.1), [(nth 0 r.2.1), (nth 1 r.2.1), (nth 2 r.2.1), (nth 3 r.2.1), (nth 4 r.2.1)], r.2.2)).bind fun r_1 =>
  toEnd r_1.1 ((some (t3 : D)).bind fun t17 =>
  (some (t17 : D)).bind fun t2_2 =>
  ((some (t2_2 : D)).bind fun d => (some ([] : List D)).bind fun ds => some (d :: ds)).bind fun ds => some (mkRes ds, r_1.2.2)) fun x => exEnd x (((some ((nth 0 r_1.2.1) : D)).bind fun d => (some ([] : List D)).bind fun ds => some (d :: ds)).bind fun ds => some (mkRes ds, r_1.2.2))
theorem e89 (t0 : D) (h : Hp) : R fn89 [t0] h = F89 t0 h :=
  (run_fn (X := X) (F := Fs) (fi := i34) (by kernel_rfl) _ _).trans (by kernel_rfl)
noncomputable def F90 (t0 : D) (t1 : D) (h : Hp) : Option (D × Hp) :=
  (some (.int .i64 0 : D)).bind fun t4 =>
  (some (t0 : D)).bind fun t7 =>
  (R fn99 [t7] h).bind fun p8 =>
  (some (p8.1 : D)).bind fun t5 =>
  (some (t1 : D)).bind fun t9 =>
  (R fn99 [t9] p8.2).bind fun p10 =>
  (some (p10.1 : D)).bind fun t6 =>
  (some (t5 : D)).bind fun t11 =>
  dIf t11
    ((some (t6 : D)).bind fun t12 =>
    dIf t12
      ((some (.int .i64 0 : D)).bind fun t4_1 =>
      ((some (t4_1 : D)).bind fun d => (some ([] : List D)).bind fun ds => some (d :: ds)).bind fun ds => some (mkRes ds, p10.2))
      ((some (.int .i64 (-1) : D)).bind fun t4_2 =>
    ((some (t4_2 : D)).bind fun d => (some ([] : List D)).bind fun ds => some (d :: ds)).bind fun ds => some (mkRes ds, p10.2)))
    ((some (t6 : D)).bind fun t13 =>
  dIf t13
    ((some (.int .i64 1 : D)).bind fun t4_3 =>
    ((some (t4_3 : D)).bind fun d => (some ([] : List D)).bind fun ds => some (d :: ds)).bind fun ds => some (mkRes ds, p10.2))
    ((some (t0 : D)).bind fun t14 =>
  (some (t1 : D)).bind fun t15 =>
  (dBin tab .lss ty3 t14 t15).bind fun t16 =>
  dIf t16
    ((some (.int .i64 (-1) : D)).bind fun t4_4 =>
    ((some (t4_4 : D)).bind fun d => (some ([] : List D)).bind fun ds => some (d :: ds)).bind fun ds => some (mkRes ds, p10.2))
    ((some (t0 : D)).bind fun t17 =>
  (some (t1 : D)).bind fun t18 =>
  (dBin tab .gtr ty3 t17 t18).bind fun t19 =>
  dIf t19
    ((some (.int .i64 1 : D)).bind fun t4_5 =>
    ((some (t4_5 : D)).bind fun d => (some ([] : List D)).bind fun ds => some (d :: ds)).bind fun ds => some (mkRes ds, p10.2))
    ((some (.int .i64 0 : D)).bind fun t4_6 =>
  ((some (t4_6 : D)).bind fun d => (some ([] : List D)).bind fun ds => some (d :: ds)).bind fun ds => some (mkRes ds, p10.2)))))
theorem e90 (t0 : D) (t1 : D) (h : Hp) : R fn90 [t0, t1] h = F90 t0 t1 h :=
  (run_fn (X := X) (F := Fs) (fi := i35) (by kernel_rfl) _ _).trans (by kernel_rfl)
/-- a loop: slots 2 3 26 39 -/
noncomputable def F1018_L0 (t0 : D) (ds : List D) (h_1 : Hp) : Option Out :=
    (some ((nth 1 ds) : D)).bind fun t23 =>
    (some (t0 : D)).bind fun t24 =>
    (dLenT tab ty9 t24).bind fun t25 =>
    (dBin tab .lss ty3 t23 t25).bind fun t26 =>
    dIf t26
      ((some (t0 : D)).bind fun t29 =>
    (some ((nth 1 ds) : D)).bind fun t30 =>
    (dIndex tab ty9 t29 t30).bind fun t31 =>
    (R fn1020 [t31] h_1).bind fun p32 =>
    (dUn .not p32.1).bind fun t33 =>
    (some (t33 : D)).bind fun t34 =>
    (gd t34 true (some (t0 : D))).bind fun t35 =>
    (gd t34 true (some ((nth 1 ds) : D))).bind fun t36 =>
    (gd t34 true (dIndex tab ty9 t35 t36)).bind fun t37 =>
    (gd t34 true (dBin tab .neq ty5 t37 (.int .u8 46))).bind fun t38 =>
    (dPick t34 t38 (.bool false)).bind fun t39 =>
    dIf t39
      ((some (.bool false : D)).bind fun t2_2 =>
      some (.ret, [t2_2, (nth 1 ds), t26, t39], p32.2))
      ((some ((nth 1 ds) : D)).bind fun t27 =>
    (dBin tab .add ty3 t27 (.int .i64 1)).bind fun t28 =>
    (some (t28 : D)).bind fun t3_1 =>
    some (.nrm, [(nth 0 ds), t3_1, t26, t39], p32.2)))
      (some ((.ext 0), [(nth 0 ds), (nth 1 ds), t26, (nth 3 ds)], h_1))
noncomputable def F1018 (t0 : D) (h : Hp) : Option (D × Hp) :=
  (some (.bool false : D)).bind fun t2 =>
  (some (t0 : D)).bind fun t4 =>
  (dLenT tab ty9 t4).bind fun t5 =>
  (dBin tab .lss ty3 t5 (.int .i64 1)).bind fun t6 =>
  (some (t6 : D)).bind fun t7 =>
  (gd t7 false (some (t0 : D))).bind fun t8 =>
  (gd t7 false (dLenT tab ty9 t8)).bind fun t9 =>
  (gd t7 false (dBin tab .gtr ty3 t9 (.int .i64 32))).bind fun t10 =>
  (dPick t7 (.bool true) t10).bind fun t11 =>
  (some (t11 : D)).bind fun t12 =>
  (gd t12 false (some (t0 : D))).bind fun t13 =>
  (gd t12 false (dIndex tab ty9 t13 (.int .i64 0))).bind fun t14 =>
  (gdW t12 false h (R fn1019 [t14] h)).bind fun p15 =>
  (gd t12 false (dUn .not p15.1)).bind fun t16 =>
  (gd t12 false (some (t16 : D))).bind fun t17 =>
  (gd t17 true (some (t0 : D))).bind fun t18 =>
  (gd t17 true (dIndex tab ty9 t18 (.int .i64 0))).bind fun t19 =>
  (gd t17 true (dBin tab .neq ty5 t19 (.int .u8 95))).bind fun t20 =>
  (gd t12 false (dPick t17 t20 (.bool false))).bind fun t21 =>
  (dPick t12 (.bool true) t21).bind fun t22 =>
  dIf t22
    ((some (.bool false : D)).bind fun t2_1 =>
    ((some (t2_1 : D)).bind fun d => (some ([] : List D)).bind fun ds => some (d :: ds)).bind fun ds => some (mkRes ds, p15.2))
    ((some (.int .i64 0 : D)).bind fun t3 =>
  ((loopW (F1018_L0 t0) [t2, t3, .any, .any] p15.2).bind fun r =>
    some ((unblk 0 r.1), [(nth 0 r.2.1), (nth 1 r.2.1), (nth 2 r.2.1), (nth 3 r.2.1)], r.2.2)).bind fun r_1 =>
  toEnd r_1.1 ((some (.bool true : D)).bind fun t2_3 =>
  ((some (t2_3 : D)).bind fun d => (some ([] : List D)).bind fun ds => some (d :: ds)).bind fun ds => some (mkRes ds, r_1.2.2)) fun x => exEnd x (((some ((nth 0 r_1.2.1) : D)).bind fun d => (some ([] : List D)).bind fun ds => some (d :: ds)).bind fun ds => some (mkRes ds, r_1.2.2)))
theorem e1018 (t0 : D) (h : Hp) : R fn1018 [t0] h = F1018 t0 h :=
  (run_fn (X := X) (F := Fs) (fi := i36) (by kernel_rfl) _ _).trans (by kernel_rfl)
noncomputable def F99 (t0 : D) (h : Hp) : Option (D × Hp) :=
  (some (.bool false : D)).bind fun t2 =>
  (some (t0 : D)).bind fun t3 =>
  (some (t0 : D)).bind fun t4 =>
  (dBin tab .neq ty3 t3 t4).bind fun t5 =>
  (some (t5 : D)).bind fun t2_1 =>
  ((some (t2_1 : D)).bind fun d => (some ([] : List D)).bind fun ds => some (d :: ds)).bind fun ds => some (mkRes ds, h)
theorem e99 (t0 : D) (h : Hp) : R fn99 [t0] h = F99 t0 h :=
  (run_fn (X := X) (F := Fs) (fi := i37) (by kernel_rfl) _ _).trans (by kernel_rfl)
noncomputable def F1019 (t0 : D) (h : Hp) : Option (D × Hp) :=
  (some (.bool false : D)).bind fun t2 =>
  (some (t0 : D)).bind fun t3 =>
  (dBin tab .geq ty5 t3 (.int .u8 97)).bind fun t4 =>
  (some (t4 : D)).bind fun t5 =>
  (gd t5 true (some (t0 : D))).bind fun t6 =>
  (gd t5 true (dBin tab .leq ty5 t6 (.int .u8 122))).bind fun t7 =>
  (dPick t5 t7 (.bool false)).bind fun t8 =>
  (some (t8 : D)).bind fun t9 =>
  (gd t9 false (some (t0 : D))).bind fun t10 =>
  (gd t9 false (dBin tab .geq ty5 t10 (.int .u8 65))).bind fun t11 =>
  (gd t9 false (some (t11 : D))).bind fun t12 =>
  (gd t12 true (some (t0 : D))).bind fun t13 =>
  (gd t12 true (dBin tab .leq ty5 t13 (.int .u8 90))).bind fun t14 =>
  (gd t9 false (dPick t12 t14 (.bool false))).bind fun t15 =>
  (dPick t9 (.bool true) t15).bind fun t16 =>
  (some (t16 : D)).bind fun t2_1 =>
  ((some (t2_1 : D)).bind fun d => (some ([] : List D)).bind fun ds => some (d :: ds)).bind fun ds => some (mkRes ds, h)
theorem e1019 (t0 : D) (h : Hp) : R fn1019 [t0] h = F1019 t0 h :=
  (run_fn (X := X) (F := Fs) (fi := i38) (by kernel_rfl) _ _).trans (by kernel_rfl)
noncomputable def F1020 (t0 : D) (h : Hp) : Option (D × Hp) :=
  (some (.bool false : D)).bind fun t2 =>
  (some (t0 : D)).bind fun t3 =>
  (R fn1021 [t3] h).bind fun p4 =>
  (some (p4.1 : D)).bind fun t5 =>
  (gd t5 false (some (t0 : D))).bind fun t6 =>
  (gdW t5 false p4.2 (R fn1019 [t6] p4.2)).bind fun p7 =>
  (dPick t5 (.bool true) p7.1).bind fun t8 =>
  (some (t8 : D)).bind fun t9 =>
  (gd t9 false (some (t0 : D))).bind fun t10 =>
  (gd t9 false (dBin tab .eql ty5 t10 (.int .u8 95))).bind fun t11 =>
  (dPick t9 (.bool true) t11).bind fun t12 =>
  (some (t12 : D)).bind fun t2_1 =>
  ((some (t2_1 : D)).bind fun d => (some ([] : List D)).bind fun ds => some (d :: ds)).bind fun ds => some (mkRes ds, p7.2)
theorem e1020 (t0 : D) (h : Hp) : R fn1020 [t0] h = F1020 t0 h :=
  (run_fn (X := X) (F := Fs) (fi := i39) (by kernel_rfl) _ _).trans (by kernel_rfl)
noncomputable def F1021 (t0 : D) (h : Hp) : Option (D × Hp) :=
  (some (.bool false : D)).bind fun t2 =>
  (some (t0 : D)).bind fun t3 =>
  (dBin tab .geq ty5 t3 (.int .u8 48)).bind fun t4 =>
  (some (t4 : D)).bind fun t5 =>
  (gd t5 true (some (t0 : D))).bind fun t6 =>
  (gd t5 true (dBin tab .leq ty5 t6 (.int .u8 57))).bind fun t7 =>
  (dPick t5 t7 (.bool false)).bind fun t8 =>
  (some (t8 : D)).bind fun t2_1 =>
  ((some (t2_1 : D)).bind fun d => (some ([] : List D)).bind fun ds => some (d :: ds)).bind fun ds => some (mkRes ds, h)
theorem e1021 (t0 : D) (h : Hp) : R fn1021 [t0] h = F1021 t0 h :=
  (run_fn (X := X) (F := Fs) (fi := i40) (by kernel_rfl) _ _).trans (by kernel_rfl)
end Go.Proofs.Ytehmpfcealdihaa
