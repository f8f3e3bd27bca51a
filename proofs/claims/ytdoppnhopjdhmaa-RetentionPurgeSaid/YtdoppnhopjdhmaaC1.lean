/- Functions as Lean functions on data. -/
import Derived.Test.YtdoppnhopjdhmaaB1
set_option linter.unusedSimpArgs false
set_option linter.unusedVariables false
set_option linter.unnecessarySimpa false
set_option maxRecDepth 100000
namespace Go.Proofs.Ytdoppnhopjdhmaa
open Go.Eng Go.Pi
/-- a loop: slots 2 12 50 65 -/
noncomputable def F6_L0 (t5 : D) (t8 : D) (t9 : D) (ds : List D) (h_1 : Hp) : Option Out :=
    (some ((nth 1 ds) : D)).bind fun t49 =>
    (dBin tab .leq ty3 t49 (.int .i64 2)).bind fun t50 =>
    dIf t50
      ((some (t8 : D)).bind fun t53 =>
    (R fn32 [t53] h_1).bind fun p54 =>
    (some ((nth 1 ds) : D)).bind fun t55 =>
    (R fn31 [p54.1, t55] p54.2).bind fun p56 =>
    (some (t9 : D)).bind fun t57 =>
    (some ((nth 1 ds) : D)).bind fun t58 =>
    (R fn31 [t57, t58] p56.2).bind fun p59 =>
    (dBin tab .add ty3 p56.1 p59.1).bind fun t60 =>
    (some (t5 : D)).bind fun t61 =>
    (R fn32 [t61] p59.2).bind fun p62 =>
    (some ((nth 1 ds) : D)).bind fun t63 =>
    (R fn31 [p62.1, t63] p62.2).bind fun p64 =>
    (dBin tab .neq ty3 t60 p64.1).bind fun t65 =>
    dIf t65
      ((some (.bool false : D)).bind fun t2_3 =>
      some (.ret, [t2_3, (nth 1 ds), t50, t65], p64.2))
      ((some ((nth 1 ds) : D)).bind fun t51 =>
    (dBin tab .add ty3 t51 (.int .i64 1)).bind fun t52 =>
    (some (t52 : D)).bind fun t12_1 =>
    some (.nrm, [(nth 0 ds), t12_1, t50, t65], p64.2)))
      (some ((.ext 0), [(nth 0 ds), (nth 1 ds), t50, (nth 3 ds)], h_1))
noncomputable def F6 (t0 : D) (h : Hp) : Option (D × Hp) :=
  (some (.bool false : D)).bind fun t2 =>
  (R fn14 [] h).bind fun p13 =>
  (dUn .not p13.1).bind fun t14 =>
  dIf t14
    ((some (.bool false : D)).bind fun t2_1 =>
    ((some (t2_1 : D)).bind fun d => (some ([] : List D)).bind fun ds => some (d :: ds)).bind fun ds => some (mkRes ds, p13.2))
    ((some (t0 : D)).bind fun t16 =>
  (R fn15 [t16] p13.2).bind fun p17 =>
  (some (p17.1 : D)).bind fun t15 =>
  (dExtract 0 t15).bind fun t18 =>
  (dExtract 1 t15).bind fun t19 =>
  (dExtract 2 t15).bind fun t20 =>
  (dExtract 3 t15).bind fun t21 =>
  (dExtract 4 t15).bind fun t22 =>
  (some (t18 : D)).bind fun t3 =>
  (some (t19 : D)).bind fun t4 =>
  (some (t20 : D)).bind fun t5 =>
  (some (t21 : D)).bind fun t6 =>
  (some (t22 : D)).bind fun t7 =>
  (some (t3 : D)).bind fun t24 =>
  (some (t4 : D)).bind fun t25 =>
  (some (t6 : D)).bind fun t26 =>
  (some (t5 : D)).bind fun t27 =>
  (R fn27 [t24, t25, t26, t27] p17.2).bind fun p28 =>
  (some (p28.1 : D)).bind fun t23 =>
  (dExtract 0 t23).bind fun t29 =>
  (dExtract 1 t23).bind fun t30 =>
  (some (t29 : D)).bind fun t8 =>
  (some (t30 : D)).bind fun t9 =>
  (some (t3 : D)).bind fun t32 =>
  (some (t4 : D)).bind fun t33 =>
  (some (t6 : D)).bind fun t34 =>
  (some (t5 : D)).bind fun t35 =>
  (R fn28 [t32, t33, t34, t35] p28.2).bind fun p36 =>
  (some (p36.1 : D)).bind fun t31 =>
  (dExtract 0 t31).bind fun t37 =>
  (dExtract 1 t31).bind fun t38 =>
  (some (t37 : D)).bind fun t10 =>
  (some (t38 : D)).bind fun t11 =>
  (some (t8 : D)).bind fun t39 =>
  (some (t10 : D)).bind fun t40 =>
  (R fn29 [t39, t40] p36.2).bind fun p41 =>
  (dUn .not p41.1).bind fun t42 =>
  (some (t42 : D)).bind fun t43 =>
  (gd t43 false (some (t9 : D))).bind fun t44 =>
  (gd t43 false (some (t11 : D))).bind fun t45 =>
  (gdW t43 false p41.2 (R fn30 [t44, t45] p41.2)).bind fun p46 =>
  (gd t43 false (dUn .not p46.1)).bind fun t47 =>
  (dPick t43 (.bool true) t47).bind fun t48 =>
  dIf t48
    ((some (.bool false : D)).bind fun t2_2 =>
    ((some (t2_2 : D)).bind fun d => (some ([] : List D)).bind fun ds => some (d :: ds)).bind fun ds => some (mkRes ds, p46.2))
    ((some (.int .i64 1 : D)).bind fun t12 =>
  ((loopW (F6_L0 t5 t8 t9) [t2, t12, .any, .any] p46.2).bind fun r =>
    some ((unblk 0 r.1), [(nth 0 r.2.1), (nth 1 r.2.1), (nth 2 r.2.1), (nth 3 r.2.1)], r.2.2)).bind fun r_1 =>
  toEnd r_1.1 ((some (.bool true : D)).bind fun t2_4 =>
  ((some (t2_4 : D)).bind fun d => (some ([] : List D)).bind fun ds => some (d :: ds)).bind fun ds => some (mkRes ds, r_1.2.2)) fun x => exEnd x (((some ((nth 0 r_1.2.1) : D)).bind fun d => (some ([] : List D)).bind fun ds => some (d :: ds)).bind fun ds => some (mkRes ds, r_1.2.2))))
theorem e6 (t0 : D) (h : Hp) : R fn6 [t0] h = F6 t0 h :=
  (run_fn (X := X) (F := Fs) (fi := i3) (by kernel_rfl) _ _).trans (by kernel_rfl)
noncomputable def F7 (t0 : D) (t1 : D) (h : Hp) : Option (D × Hp) :=
  (some (.bool false : D)).bind fun t4 =>
  (R fn14 [] h).bind fun p19 =>
  (dUn .not p19.1).bind fun t20 =>
  dIf t20
    ((some (.bool false : D)).bind fun t4_1 =>
    ((some (t4_1 : D)).bind fun d => (some ([] : List D)).bind fun ds => some (d :: ds)).bind fun ds => scope h p19.2 (mkRes ds))
    ((some (t0 : D)).bind fun t22 =>
  (R fn15 [t22] p19.2).bind fun p23 =>
  (some (p23.1 : D)).bind fun t21 =>
  (dExtract 0 t21).bind fun t24 =>
  (dExtract 1 t21).bind fun t25 =>
  (dExtract 2 t21).bind fun t26 =>
  (dExtract 3 t21).bind fun t27 =>
  (dExtract 4 t21).bind fun t28 =>
  (some (t24 : D)).bind fun t5 =>
  (some (t25 : D)).bind fun t6 =>
  (some (t26 : D)).bind fun t7 =>
  (some (t27 : D)).bind fun t8 =>
  (some (t28 : D)).bind fun t9 =>
  (some (t8 : D)).bind fun t29 =>
  (dBin tab .lss ty3 t29 (.int .i64 0)).bind fun t30 =>
  (some (t30 : D)).bind fun t31 =>
  (gd t31 false (some (t8 : D))).bind fun t32 =>
  (gd t31 false (dBin tab .gtr ty3 t32 (.int .i64 253402300799999))).bind fun t33 =>
  (dPick t31 (.bool true) t33).bind fun t34 =>
  dIf t34
    ((some (.bool true : D)).bind fun t4_2 =>
    ((some (t4_2 : D)).bind fun d => (some ([] : List D)).bind fun ds => some (d :: ds)).bind fun ds => scope h p23.2 (mkRes ds))
    ((some (t5 : D)).bind fun t36 =>
  (some (t6 : D)).bind fun t37 =>
  (some (t8 : D)).bind fun t38 =>
  (some (t7 : D)).bind fun t39 =>
  (R fn27 [t36, t37, t38, t39] p23.2).bind fun p40 =>
  (some (p40.1 : D)).bind fun t35 =>
  (dExtract 0 t35).bind fun t41 =>
  (dExtract 1 t35).bind fun t42 =>
  (some (t41 : D)).bind fun t10 =>
  (some (t42 : D)).bind fun t11 =>
  (some (t5 : D)).bind fun t44 =>
  (some (t6 : D)).bind fun t45 =>
  (some (t8 : D)).bind fun t46 =>
  (some (t10 : D)).bind fun t47 =>
  (R fn27 [t44, t45, t46, t47] p40.2).bind fun p48 =>
  (some (p48.1 : D)).bind fun t43 =>
  (dExtract 0 t43).bind fun t49 =>
  (dExtract 1 t43).bind fun t50 =>
  (some (t49 : D)).bind fun t12 =>
  (some (t50 : D)).bind fun t13 =>
  (some (t5 : D)).bind fun t52 =>
  (some (t6 : D)).bind fun t53 =>
  (some (t8 : D)).bind fun t54 =>
  (some (t1 : D)).bind fun t55 =>
  (dConv tab ty65 ty3 t55).bind fun t56 =>
  (dBin tab .add ty3 t54 t56).bind fun t57 =>
  (dMin (.int .i64 253402300799999) t57).bind fun t58 =>
  (some (t7 : D)).bind fun t59 =>
  (R fn27 [t52, t53, t58, t59] p48.2).bind fun p60 =>
  (some (p60.1 : D)).bind fun t51 =>
  (dExtract 0 t51).bind fun t61 =>
  (dExtract 1 t51).bind fun t62 =>
  (some (t61 : D)).bind fun t14 =>
  (some (t62 : D)).bind fun t15 =>
  (some (t6 : D)).bind fun t63 =>
  (dAppend tab p60.2 ty39 ty39 (.nils) t63).bind fun p64 =>
  (some (t9 : D)).bind fun t65 =>
  (R fn33 [t65] p64.2).bind fun p66 =>
  (dBuild tab ty56 [0, 1, 2, 4] [.str [109, 111, 114, 101], .str [108, 101, 118, 101, 108], p66.1, .int .i64 253402300799999]).bind fun t67 =>
  (pLitF tab ty39 1 [0] [t67]).bind fun t68 =>
  (dAppend tab p66.2 ty39 ty39 p64.1 t68).bind fun p69 =>
  (some (p69.1 : D)).bind fun t16 =>
  (some (t5 : D)).bind fun t71 =>
  (some (t16 : D)).bind fun t72 =>
  (some (t8 : D)).bind fun t73 =>
  (some (t7 : D)).bind fun t74 =>
  (R fn27 [t71, t72, t73, t74] p69.2).bind fun p75 =>
  (some (p75.1 : D)).bind fun t70 =>
  (dExtract 0 t70).bind fun t76 =>
  (dExtract 1 t70).bind fun t77 =>
  (some (t76 : D)).bind fun t17 =>
  (some (t77 : D)).bind fun t18 =>
  (some (t13 : D)).bind fun t78 =>
  (dLenT tab ty58 t78).bind fun t79 =>
  (dBin tab .eql ty3 t79 (.int .i64 0)).bind fun t80 =>
  (some (t80 : D)).bind fun t81 =>
  (gd t81 true (some (t12 : D))).bind fun t82 =>
  (gd t81 true (some (t10 : D))).bind fun t83 =>
  (gdW t81 true p75.2 (R fn29 [t82, t83] p75.2)).bind fun p84 =>
  (dPick t81 p84.1 (.bool false)).bind fun t85 =>
  (some (t85 : D)).bind fun t86 =>
  (gd t86 true (some (t14 : D))).bind fun t87 =>
  (gd t86 true (some (t10 : D))).bind fun t88 =>
  (gdW t86 true p84.2 (R fn34 [t87, t88] p84.2)).bind fun p89 =>
  (dPick t86 p89.1 (.bool false)).bind fun t90 =>
  (some (t90 : D)).bind fun t91 =>
  (gd t91 true (some (t10 : D))).bind fun t92 =>
  (gd t91 true (some (t17 : D))).bind fun t93 =>
  (gdW t91 true p89.2 (R fn34 [t92, t93] p89.2)).bind fun p94 =>
  (dPick t91 p94.1 (.bool false)).bind fun t95 =>
  (some (t95 : D)).bind fun t4_3 =>
  ((some (t4_3 : D)).bind fun d => (some ([] : List D)).bind fun ds => some (d :: ds)).bind fun ds => scope h p94.2 (mkRes ds)))
theorem e7 (t0 : D) (t1 : D) (h : Hp) : R fn7 [t0, t1] h = F7 t0 t1 h :=
  (run_fn (X := X) (F := Fs) (fi := i4) (by kernel_rfl) _ _).trans (by kernel_rfl)
noncomputable def F8 (t0 : D) (t1 : D) (h : Hp) : Option (D × Hp) :=
  (pBoxF t1).bind fun t3 =>
  (some (.bool false : D)).bind fun t4 =>
  (R fn14 [] h).bind fun p13 =>
  (dUn .not p13.1).bind fun t14 =>
  dIf t14
    ((some (.bool false : D)).bind fun t4_1 =>
    ((some (t4_1 : D)).bind fun d => (some ([] : List D)).bind fun ds => some (d :: ds)).bind fun ds => scope h p13.2 (mkRes ds))
    ((some (t0 : D)).bind fun t16 =>
  (R fn15 [t16] p13.2).bind fun p17 =>
  (some (p17.1 : D)).bind fun t15 =>
  (dExtract 0 t15).bind fun t18 =>
  (dExtract 1 t15).bind fun t19 =>
  (dExtract 2 t15).bind fun t20 =>
  (dExtract 3 t15).bind fun t21 =>
  (dExtract 4 t15).bind fun t22 =>
  (some (t18 : D)).bind fun t5 =>
  (some (t19 : D)).bind fun t6 =>
  (some (t20 : D)).bind fun t7 =>
  (some (t21 : D)).bind fun t8 =>
  (some (t22 : D)).bind fun t9 =>
  (some (t9 : D)).bind fun t23 =>
  (R fn35 [t23] p17.2).bind fun p24 =>
  (dBuild tab ty69 [4] [p24.1]).bind fun t25 =>
  (some ((.ptr p24.2.length 0 0 : D), dNew p24.2 ty69 7 [[.int .i64 0, .int .i64 0, .int .i64 0, .int .i64 0, .int .i64 0, .int .i64 0, .int .i64 0]])).bind fun p10 =>
  ((dStore tab p10.2 ty69 p10.1 t25).bind fun h' => some ((.und : D), h')).bind fun p904 =>
  (dFieldAddr tab ty69 4 p10.1).bind fun t26 =>
  (dLoad tab p904.2 ty3 t26).bind fun t27 =>
  (some (t9 : D)).bind fun t28 =>
  (R fn24 [t28, .int .i64 100] p904.2).bind fun p29 =>
  (dBin tab .add ty3 t27 p29.1).bind fun t30 =>
  chk (dLoad tab p29.2 ty3 t26 = some t27)
  ((dFieldAddr tab ty69 5 p10.1).bind fun t31 =>
  ((dStore tab p29.2 ty3 t31 t30).bind fun h' => some ((.und : D), h')).bind fun p906 =>
  (some (t5 : D)).bind fun t32 =>
  (some (t6 : D)).bind fun t33 =>
  (some (t8 : D)).bind fun t34 =>
  (dLoad tab p906.2 ty69 t3).bind fun t35 =>
  (R fn36 [t32, t33, t34, t35] p906.2).bind fun p36 =>
  (some (t5 : D)).bind fun t37 =>
  (some (t6 : D)).bind fun t38 =>
  (some (t8 : D)).bind fun t39 =>
  (dLoad tab p36.2 ty69 t3).bind fun t40 =>
  (R fn37 [t37, t38, t39, t40] p36.2).bind fun p41 =>
  (dBin tab .neq ty4 p36.1 p41.1).bind fun t42 =>
  (some (t42 : D)).bind fun t43 =>
  (gd t43 false (some (t5 : D))).bind fun t44 =>
  (gd t43 false (some (t6 : D))).bind fun t45 =>
  (gd t43 false (some (t8 : D))).bind fun t46 =>
  (gd t43 false (dLoad tab p41.2 ty69 p10.1)).bind fun t47 =>
  (gdW t43 false p41.2 (R fn36 [t44, t45, t46, t47] p41.2)).bind fun p48 =>
  (gd t43 false (some (t5 : D))).bind fun t49 =>
  (gd t43 false (some (t6 : D))).bind fun t50 =>
  (gd t43 false (some (t8 : D))).bind fun t51 =>
  (gd t43 false (dLoad tab p48.2 ty69 p10.1)).bind fun t52 =>
  (gdW t43 false p48.2 (R fn37 [t49, t50, t51, t52] p48.2)).bind fun p53 =>
  (gd t43 false (dBin tab .neq ty4 p48.1 p53.1)).bind fun t54 =>
  (dPick t43 (.bool true) t54).bind fun t55 =>
  chk (dLoad tab p906.2 ty69 t3 = some t40)
  (chk (gd t43 false (dLoad tab p41.2 ty69 p10.1) = some t52)
  (dIf t55
    ((some (.bool false : D)).bind fun t4_2 =>
    ((some (t4_2 : D)).bind fun d => (some ([] : List D)).bind fun ds => some (d :: ds)).bind fun ds => scope h p53.2 (mkRes ds))
    ((some (t7 : D)).bind fun t56 =>
  (dLenT tab ty40 t56).bind fun t57 =>
  (dBin tab .eql ty3 t57 (.int .i64 0)).bind fun t58 =>
  dIf t58
    ((some (.bool true : D)).bind fun t4_3 =>
    ((some (t4_3 : D)).bind fun d => (some ([] : List D)).bind fun ds => some (d :: ds)).bind fun ds => scope h p53.2 (mkRes ds))
    ((some (t7 : D)).bind fun t59 =>
  (dIndexAddr tab ty40 t59 (.int .i64 0)).bind fun t60 =>
  (dFieldAddr tab ty31 5 t60).bind fun t61 =>
  (dLoad tab p53.2 ty3 t61).bind fun t62 =>
  (some (t7 : D)).bind fun t63 =>
  (some (t7 : D)).bind fun t64 =>
  (dLenT tab ty40 t64).bind fun t65 =>
  (dBin tab .sub ty3 t65 (.int .i64 1)).bind fun t66 =>
  (dIndexAddr tab ty40 t63 t66).bind fun t67 =>
  (dFieldAddr tab ty31 5 t67).bind fun t68 =>
  (dLoad tab p53.2 ty3 t68).bind fun t69 =>
  (dFieldAddr tab ty69 4 p10.1).bind fun t70 =>
  ((dStore tab p53.2 ty3 t70 t62).bind fun h' => some ((.und : D), h')).bind fun p912 =>
  chk (dLoad tab p912.2 ty3 t68 = some t69)
  ((dFieldAddr tab ty69 5 p10.1).bind fun t71 =>
  ((dStore tab p912.2 ty3 t71 t69).bind fun h' => some ((.und : D), h')).bind fun p914 =>
  (some (t5 : D)).bind fun t73 =>
  (some (t6 : D)).bind fun t74 =>
  (some (t8 : D)).bind fun t75 =>
  (some (t7 : D)).bind fun t76 =>
  (R fn27 [t73, t74, t75, t76] p914.2).bind fun p77 =>
  (some (p77.1 : D)).bind fun t72 =>
  (dExtract 0 t72).bind fun t78 =>
  (dExtract 1 t72).bind fun t79 =>
  (some (t78 : D)).bind fun t11 =>
  (some (t79 : D)).bind fun t12 =>
  (some (t5 : D)).bind fun t80 =>
  (some (t6 : D)).bind fun t81 =>
  (some (t8 : D)).bind fun t82 =>
  (dLoad tab p77.2 ty69 p10.1).bind fun t83 =>
  (R fn36 [t80, t81, t82, t83] p77.2).bind fun p84 =>
  (dUn .not p84.1).bind fun t85 =>
  (some (t85 : D)).bind fun t86 =>
  (gd t86 false (some (t11 : D))).bind fun t87 =>
  (gd t86 false (dLenT tab ty40 t87)).bind fun t88 =>
  (gd t86 false (dBin tab .eql ty3 t88 (.int .i64 0))).bind fun t89 =>
  (dPick t86 (.bool true) t89).bind fun t90 =>
  (some (t90 : D)).bind fun t4_4 =>
  ((some (t4_4 : D)).bind fun d => (some ([] : List D)).bind fun ds => some (d :: ds)).bind fun ds => scope h p84.2 (mkRes ds))))))))
theorem e8 (t0 : D) (t1 : D) (h : Hp) : R fn8 [t0, t1] h = F8 t0 t1 h :=
  (run_fn (X := X) (F := Fs) (fi := i5) (by kernel_rfl) _ _).trans (by kernel_rfl)
noncomputable def F14 (h : Hp) : Option (D × Hp) :=
  (some (.bool false : D)).bind fun t0 =>
  (dBuild tab ty53 [0, 1] [.str [120], .str [121]]).bind fun t1 =>
  (dBuild tab ty53 [0] [.str [122]]).bind fun t2 =>
  (pLitF tab ty38 2 [0, 1] [t1, t2]).bind fun t3 =>
  (dBuild tab ty31 [] []).bind fun t4 =>
  (R fn18 [t3, t4] h).bind fun p5 =>
  (dBin tab .eql ty3 p5.1 (.int .i64 1)).bind fun t6 =>
  (some (t6 : D)).bind fun t0_1 =>
  ((some (t0_1 : D)).bind fun d => (some ([] : List D)).bind fun ds => some (d :: ds)).bind fun ds => some (mkRes ds, p5.2)
theorem e14 (h : Hp) : R fn14 [] h = F14 h :=
  (run_fn (X := X) (F := Fs) (fi := i6) (by kernel_rfl) _ _).trans (by kernel_rfl)
noncomputable def F15 (t0 : D) (h : Hp) : Option (D × Hp) :=
  (some (.nils : D)).bind fun t2 =>
  (some (.nils : D)).bind fun t3 =>
  (some (.nils : D)).bind fun t4 =>
  (some (.int .i64 0 : D)).bind fun t5 =>
  (some (.nilp : D)).bind fun t6 =>
  (some (t0 : D)).bind fun t11 =>
  (R fn44 [t11, .int .i64 400] h).bind fun p12 =>
  (some (p12.1 : D)).bind fun t7 =>
  (some (t7 : D)).bind fun t13 =>
  (R fn45 [t13] p12.2).bind fun p14 =>
  (some (t7 : D)).bind fun t15 =>
  (R fn46 [t15] p14.2).bind fun p16 =>
  (some (p14.1 : D)).bind fun t8 =>
  (some (p16.1 : D)).bind fun t9 =>
  (some (t7 : D)).bind fun t17 =>
  (R fn35 [t17] p16.2).bind fun p18 =>
  (some (t7 : D)).bind fun t19 =>
  (R fn24 [t19, .int .i64 3] p18.2).bind fun p20 =>
  (some (t7 : D)).bind fun t21 =>
  (R fn24 [t21, .int .i64 256] p20.2).bind fun p22 =>
  (dBin tab .mul ty3 p20.1 p22.1).bind fun t23 =>
  (dBin tab .mul ty3 t23 (.int .i64 40000000)).bind fun t24 =>
  (dBin tab .add ty3 p18.1 t24).bind fun t25 =>
  (some (t25 : D)).bind fun t10 =>
  (some (t7 : D)).bind fun t26 =>
  (R fn24 [t26, .int .i64 8] p22.2).bind fun p27 =>
  (dBin tab .eql ty3 p27.1 (.int .i64 7)).bind fun t28 =>
  (dIf t28
    ((some (t7 : D)).bind fun t29 =>
    (R fn47 [t29] p27.2).bind fun p30 =>
    (some (p30.1 : D)).bind fun t10_1 =>
    some (.nrm, [t10_1], p30.2))
    (some (.nrm, [t10], p27.2))).bind fun r =>
  toEnd r.1 ((some (t8 : D)).bind fun t31 =>
  (some (t9 : D)).bind fun t32 =>
  (some (t7 : D)).bind fun t33 =>
  (R fn48 [t33, .int .i64 5] r.2.2).bind fun p34 =>
  (some ((nth 0 r.2.1) : D)).bind fun t35 =>
  (dMin t35 (.int .i64 253402300800000)).bind fun t36 =>
  (some (t7 : D)).bind fun t37 =>
  (some (t31 : D)).bind fun t2_1 =>
  (some (t32 : D)).bind fun t3_1 =>
  (some (p34.1 : D)).bind fun t4_1 =>
  (some (t36 : D)).bind fun t5_1 =>
  (some (t37 : D)).bind fun t6_1 =>
  ((some (t2_1 : D)).bind fun d => ((some (t3_1 : D)).bind fun d => ((some (t4_1 : D)).bind fun d => ((some (t5_1 : D)).bind fun d => ((some (t6_1 : D)).bind fun d => (some ([] : List D)).bind fun ds => some (d :: ds)).bind fun ds => some (d :: ds)).bind fun ds => some (d :: ds)).bind fun ds => some (d :: ds)).bind fun ds => some (d :: ds)).bind fun ds => some (mkRes ds, p34.2)) fun x => exEnd x (((some (t2 : D)).bind fun d => ((some (t3 : D)).bind fun d => ((some (t4 : D)).bind fun d => ((some (t5 : D)).bind fun d => ((some (t6 : D)).bind fun d => (some ([] : List D)).bind fun ds => some (d :: ds)).bind fun ds => some (d :: ds)).bind fun ds => some (d :: ds)).bind fun ds => some (d :: ds)).bind fun ds => some (d :: ds)).bind fun ds => some (mkRes ds, r.2.2))
theorem e15 (t0 : D) (h : Hp) : R fn15 [t0] h = F15 t0 h :=
  (run_fn (X := X) (F := Fs) (fi := i7) (by kernel_rfl) _ _).trans (by kernel_rfl)
/-- a loop: slots 8 9 11 12 13 16 17 28 -/
noncomputable def F27_L0 (t0 : D) (t1 : D) (t2 : D) (t14 : D) (t15 : D) (ds : List D) (h_1 : Hp) : Option Out :=
    (dBin tab .lss ty3 (nth 5 ds) t15).bind fun t17 =>
    dIf t17
      ((dIndexAddr tab ty40 t14 (nth 5 ds)).bind fun t18 =>
    (dLoad tab h_1 ty31 t18).bind fun t19 =>
    (boxN 10 t19).bind fun t11 =>
    (some (t0 : D)).bind fun t21 =>
    (some (t1 : D)).bind fun t22 =>
    (some (t2 : D)).bind fun t23 =>
    (dLoad tab h_1 ty31 t11).bind fun t24 =>
    (R fn16 [t21, t22, t23, t24] h_1).bind fun p25 =>
    (some (p25.1 : D)).bind fun t20 =>
    (dExtract 0 t20).bind fun t26 =>
    (dExtract 1 t20).bind fun t27 =>
    (some (t26 : D)).bind fun t12 =>
    (some (t27 : D)).bind fun t13 =>
    (some (t13 : D)).bind fun t28 =>
    (dIf t28
      ((some ((nth 1 ds) : D)).bind fun t29 =>
      (dFieldAddr tab ty31 0 t11).bind fun t30 =>
      (dLoad tab p25.2 ty3 t30).bind fun t31 =>
      (some (t12 : D)).bind fun t32 =>
      (dFieldAddr tab ty31 4 t11).bind fun t33 =>
      (dLoad tab p25.2 ty28 t33).bind fun t34 =>
      (dLenT tab ty28 t34).bind fun t35 =>
      (R fn59 [t29, t31, t32, t35] p25.2).bind fun p36 =>
      (some (p36.1 : D)).bind fun t9_1 =>
      some (.nrm, [(nth 0 ds), t9_1], p36.2))
      ((some ((nth 0 ds) : D)).bind fun t37 =>
      (dLoad tab p25.2 ty31 t11).bind fun t38 =>
      (pLitF tab ty40 1 [0] [t38]).bind fun t39 =>
      (dAppend tab p25.2 ty40 ty40 t37 t39).bind fun p40 =>
      (some (p40.1 : D)).bind fun t8_1 =>
      some (.nrm, [t8_1, (nth 1 ds)], p40.2))).bind fun r_1 =>
    toEnd (unblk 1 r_1.1) ((dBin tab .add ty3 (nth 5 ds) (.int .i64 1)).bind fun t41 =>
    (some (t41 : D)).bind fun t16_1 =>
    some (.nrm, [(nth 0 r_1.2.1), (nth 1 r_1.2.1), t11, t12, t13, t16_1, t17, t28], r_1.2.2)) fun x => some (x, [(nth 0 r_1.2.1), (nth 1 r_1.2.1), t11, t12, t13, (nth 5 ds), t17, t28], r_1.2.2))
      (some ((.ext 0), [(nth 0 ds), (nth 1 ds), (nth 2 ds), (nth 3 ds), (nth 4 ds), (nth 5 ds), t17, (nth 7 ds)], h_1))
noncomputable def F27 (t0 : D) (t1 : D) (t2 : D) (t3 : D) (h : Hp) : Option (D × Hp) :=
  (some (.nils : D)).bind fun t8 =>
  (some (.nils : D)).bind fun t9 =>
  (some (t3 : D)).bind fun t14 =>
  (dLenT tab ty40 t14).bind fun t15 =>
  (some (.int .i64 0 : D)).bind fun t16 =>
  ((loopW (F27_L0 t0 t1 t2 t14 t15) [t8, t9, .any, .any, .any, t16, .any, .any] h).bind fun r =>
    some ((unblk 0 r.1), [(nth 0 r.2.1), (nth 1 r.2.1), (nth 2 r.2.1), (nth 3 r.2.1), (nth 4 r.2.1), (nth 5 r.2.1), (nth 6 r.2.1), (nth 7 r.2.1)], r.2.2)).bind fun r_2 =>
  toEnd r_2.1 ((some ((nth 0 r_2.2.1) : D)).bind fun t42 =>
  (some ((nth 1 r_2.2.1) : D)).bind fun t43 =>
  (some (t42 : D)).bind fun t8_2 =>
  (some (t43 : D)).bind fun t9_2 =>
  ((some (t8_2 : D)).bind fun d => ((some (t9_2 : D)).bind fun d => (some ([] : List D)).bind fun ds => some (d :: ds)).bind fun ds => some (d :: ds)).bind fun ds => scope h r_2.2.2 (mkRes ds)) fun x_1 => exEnd x_1 (((some ((nth 0 r_2.2.1) : D)).bind fun d => ((some ((nth 1 r_2.2.1) : D)).bind fun d => (some ([] : List D)).bind fun ds => some (d :: ds)).bind fun ds => some (d :: ds)).bind fun ds => scope h r_2.2.2 (mkRes ds))
theorem e27 (t0 : D) (t1 : D) (t2 : D) (t3 : D) (h : Hp) : R fn27 [t0, t1, t2, t3] h = F27 t0 t1 t2 t3 h :=
  (run_fn (X := X) (F := Fs) (fi := i8) (by kernel_rfl) _ _).trans (by kernel_rfl)
/-- a loop: slots 10 11 12 13 14 18 32 -/
noncomputable def F28_L0 (t0 : D) (t1 : D) (t2 : D) (t3 : D) (ds : List D) (h_1 : Hp) : Option Out :=
    (some ((nth 2 ds) : D)).bind fun t15 =>
    (some (t3 : D)).bind fun t16 =>
    (dLenT tab ty40 t16).bind fun t17 =>
    (dBin tab .lss ty3 t15 t17).bind fun t18 =>
    dIf t18
      ((some (t0 : D)).bind fun t22 =>
    (some (t1 : D)).bind fun t23 =>
    (some (t2 : D)).bind fun t24 =>
    (some (t3 : D)).bind fun t25 =>
    (some ((nth 2 ds) : D)).bind fun t26 =>
    (dIndexAddr tab ty40 t25 t26).bind fun t27 =>
    (dLoad tab h_1 ty31 t27).bind fun t28 =>
    (R fn17 [t22, t23, t24, t28] h_1).bind fun p29 =>
    (some (p29.1 : D)).bind fun t21 =>
    (dExtract 0 t21).bind fun t30 =>
    (dExtract 1 t21).bind fun t31 =>
    (some (t30 : D)).bind fun t13 =>
    (some (t31 : D)).bind fun t14 =>
    (some (t14 : D)).bind fun t32 =>
    (dIf t32
      ((some ((nth 1 ds) : D)).bind fun t33 =>
      (some (t3 : D)).bind fun t34 =>
      (some ((nth 2 ds) : D)).bind fun t35 =>
      (dIndexAddr tab ty40 t34 t35).bind fun t36 =>
      (dFieldAddr tab ty31 0 t36).bind fun t37 =>
      (dLoad tab p29.2 ty3 t37).bind fun t38 =>
      (some (t13 : D)).bind fun t39 =>
      (some (t3 : D)).bind fun t40 =>
      (some ((nth 2 ds) : D)).bind fun t41 =>
      (dIndexAddr tab ty40 t40 t41).bind fun t42 =>
      (dFieldAddr tab ty31 4 t42).bind fun t43 =>
      (dLoad tab p29.2 ty28 t43).bind fun t44 =>
      (dLenT tab ty28 t44).bind fun t45 =>
      (R fn60 [t33, t38, t39, t45] p29.2).bind fun p46 =>
      (some (p46.1 : D)).bind fun t11_1 =>
      some (.nrm, [(nth 0 ds), t11_1], p46.2))
      ((some ((nth 0 ds) : D)).bind fun t47 =>
      (some (t3 : D)).bind fun t48 =>
      (some ((nth 2 ds) : D)).bind fun t49 =>
      (dIndexAddr tab ty40 t48 t49).bind fun t50 =>
      (dLoad tab p29.2 ty31 t50).bind fun t51 =>
      (pLitF tab ty40 1 [0] [t51]).bind fun t52 =>
      (dAppend tab p29.2 ty40 ty40 t47 t52).bind fun p53 =>
      (some (p53.1 : D)).bind fun t10_1 =>
      some (.nrm, [t10_1, (nth 1 ds)], p53.2))).bind fun r_1 =>
    toEnd (unblk 1 r_1.1) ((some ((nth 2 ds) : D)).bind fun t19 =>
    (dBin tab .add ty3 t19 (.int .i64 1)).bind fun t20 =>
    (some (t20 : D)).bind fun t12_1 =>
    some (.nrm, [(nth 0 r_1.2.1), (nth 1 r_1.2.1), t12_1, t13, t14, t18, t32], r_1.2.2)) fun x => some (x, [(nth 0 r_1.2.1), (nth 1 r_1.2.1), (nth 2 ds), t13, t14, t18, t32], r_1.2.2))
      (some ((.ext 0), [(nth 0 ds), (nth 1 ds), (nth 2 ds), (nth 3 ds), (nth 4 ds), t18, (nth 6 ds)], h_1))
noncomputable def F28 (t0 : D) (t1 : D) (t2 : D) (t3 : D) (h : Hp) : Option (D × Hp) :=
  (some (.nils : D)).bind fun t8 =>
  (some (.nils : D)).bind fun t9 =>
  (some (.nils : D)).bind fun t10 =>
  (some (.nils : D)).bind fun t11 =>
  (some (.int .i64 0 : D)).bind fun t12 =>
  ((loopW (F28_L0 t0 t1 t2 t3) [t10, t11, t12, .any, .any, .any, .any] h).bind fun r =>
    some ((unblk 0 r.1), [(nth 0 r.2.1), (nth 1 r.2.1), (nth 2 r.2.1), (nth 3 r.2.1), (nth 4 r.2.1), (nth 5 r.2.1), (nth 6 r.2.1)], r.2.2)).bind fun r_2 =>
  toEnd r_2.1 ((some ((nth 0 r_2.2.1) : D)).bind fun t54 =>
  (some ((nth 1 r_2.2.1) : D)).bind fun t55 =>
  (some (t54 : D)).bind fun t8_1 =>
  (some (t55 : D)).bind fun t9_1 =>
  ((some (t8_1 : D)).bind fun d => ((some (t9_1 : D)).bind fun d => (some ([] : List D)).bind fun ds => some (d :: ds)).bind fun ds => some (d :: ds)).bind fun ds => scope h r_2.2.2 (mkRes ds)) fun x_1 => exEnd x_1 (((some (t8 : D)).bind fun d => ((some (t9 : D)).bind fun d => (some ([] : List D)).bind fun ds => some (d :: ds)).bind fun ds => some (d :: ds)).bind fun ds => scope h r_2.2.2 (mkRes ds))
theorem e28 (t0 : D) (t1 : D) (t2 : D) (t3 : D) (h : Hp) : R fn28 [t0, t1, t2, t3] h = F28 t0 t1 t2 t3 h :=
  (run_fn (X := X) (F := Fs) (fi := i9) (by kernel_rfl) _ _).trans (by kernel_rfl)
/-- a loop: slots 4 5 14 26 -/
noncomputable def F29_L0 (t0 : D) (t1 : D) (ds : List D) (h_1 : Hp) : Option Out :=
    (some ((nth 1 ds) : D)).bind fun t11 =>
    (some (t0 : D)).bind fun t12 =>
    (dLenT tab ty40 t12).bind fun t13 =>
    (dBin tab .lss ty3 t11 t13).bind fun t14 =>
    dIf t14
      ((some (t0 : D)).bind fun t17 =>
    (some ((nth 1 ds) : D)).bind fun t18 =>
    (dIndexAddr tab ty40 t17 t18).bind fun t19 =>
    (dLoad tab h_1 ty31 t19).bind fun t20 =>
    (some (t1 : D)).bind fun t21 =>
    (some ((nth 1 ds) : D)).bind fun t22 =>
    (dIndexAddr tab ty40 t21 t22).bind fun t23 =>
    (dLoad tab h_1 ty31 t23).bind fun t24 =>
    (R fn61 [t20, t24] h_1).bind fun p25 =>
    (dUn .not p25.1).bind fun t26 =>
    dIf t26
      ((some (.bool false : D)).bind fun t4_2 =>
      some (.ret, [t4_2, (nth 1 ds), t14, t26], p25.2))
      ((some ((nth 1 ds) : D)).bind fun t15 =>
    (dBin tab .add ty3 t15 (.int .i64 1)).bind fun t16 =>
    (some (t16 : D)).bind fun t5_1 =>
    some (.nrm, [(nth 0 ds), t5_1, t14, t26], p25.2)))
      (some ((.ext 0), [(nth 0 ds), (nth 1 ds), t14, (nth 3 ds)], h_1))
noncomputable def F29 (t0 : D) (t1 : D) (h : Hp) : Option (D × Hp) :=
  (some (.bool false : D)).bind fun t4 =>
  (some (t0 : D)).bind fun t6 =>
  (dLenT tab ty40 t6).bind fun t7 =>
  (some (t1 : D)).bind fun t8 =>
  (dLenT tab ty40 t8).bind fun t9 =>
  (dBin tab .neq ty3 t7 t9).bind fun t10 =>
  dIf t10
    ((some (.bool false : D)).bind fun t4_1 =>
    ((some (t4_1 : D)).bind fun d => (some ([] : List D)).bind fun ds => some (d :: ds)).bind fun ds => some (mkRes ds, h))
    ((some (.int .i64 0 : D)).bind fun t5 =>
  ((loopW (F29_L0 t0 t1) [t4, t5, .any, .any] h).bind fun r =>
    some ((unblk 0 r.1), [(nth 0 r.2.1), (nth 1 r.2.1), (nth 2 r.2.1), (nth 3 r.2.1)], r.2.2)).bind fun r_1 =>
  toEnd r_1.1 ((some (.bool true : D)).bind fun t4_3 =>
  ((some (t4_3 : D)).bind fun d => (some ([] : List D)).bind fun ds => some (d :: ds)).bind fun ds => some (mkRes ds, r_1.2.2)) fun x => exEnd x (((some ((nth 0 r_1.2.1) : D)).bind fun d => (some ([] : List D)).bind fun ds => some (d :: ds)).bind fun ds => some (mkRes ds, r_1.2.2)))
theorem e29 (t0 : D) (t1 : D) (h : Hp) : R fn29 [t0, t1] h = F29 t0 t1 h :=
  (run_fn (X := X) (F := Fs) (fi := i10) (by kernel_rfl) _ _).trans (by kernel_rfl)
/-- a loop: slots 4 5 14 25 -/
noncomputable def F30_L0 (t0 : D) (t1 : D) (ds : List D) (h_1 : Hp) : Option Out :=
    (some ((nth 1 ds) : D)).bind fun t11 =>
    (some (t0 : D)).bind fun t12 =>
    (dLenT tab ty58 t12).bind fun t13 =>
    (dBin tab .lss ty3 t11 t13).bind fun t14 =>
    dIf t14
      ((some (t0 : D)).bind fun t17 =>
    (some ((nth 1 ds) : D)).bind fun t18 =>
    (dIndexAddr tab ty58 t17 t18).bind fun t19 =>
    (dLoad tab h_1 ty106 t19).bind fun t20 =>
    (some (t1 : D)).bind fun t21 =>
    (some ((nth 1 ds) : D)).bind fun t22 =>
    (dIndexAddr tab ty58 t21 t22).bind fun t23 =>
    (dLoad tab h_1 ty106 t23).bind fun t24 =>
    (dBin tab .neq ty106 t20 t24).bind fun t25 =>
    dIf t25
      ((some (.bool false : D)).bind fun t4_2 =>
      some (.ret, [t4_2, (nth 1 ds), t14, t25], h_1))
      ((some ((nth 1 ds) : D)).bind fun t15 =>
    (dBin tab .add ty3 t15 (.int .i64 1)).bind fun t16 =>
    (some (t16 : D)).bind fun t5_1 =>
    some (.nrm, [(nth 0 ds), t5_1, t14, t25], h_1)))
      (some ((.ext 0), [(nth 0 ds), (nth 1 ds), t14, (nth 3 ds)], h_1))
noncomputable def F30 (t0 : D) (t1 : D) (h : Hp) : Option (D × Hp) :=
  (some (.bool false : D)).bind fun t4 =>
  (some (t0 : D)).bind fun t6 =>
  (dLenT tab ty58 t6).bind fun t7 =>
  (some (t1 : D)).bind fun t8 =>
  (dLenT tab ty58 t8).bind fun t9 =>
  (dBin tab .neq ty3 t7 t9).bind fun t10 =>
  dIf t10
    ((some (.bool false : D)).bind fun t4_1 =>
    ((some (t4_1 : D)).bind fun d => (some ([] : List D)).bind fun ds => some (d :: ds)).bind fun ds => some (mkRes ds, h))
    ((some (.int .i64 0 : D)).bind fun t5 =>
  ((loopW (F30_L0 t0 t1) [t4, t5, .any, .any] h).bind fun r =>
    some ((unblk 0 r.1), [(nth 0 r.2.1), (nth 1 r.2.1), (nth 2 r.2.1), (nth 3 r.2.1)], r.2.2)).bind fun r_1 =>
  toEnd r_1.1 ((some (.bool true : D)).bind fun t4_3 =>
  ((some (t4_3 : D)).bind fun d => (some ([] : List D)).bind fun ds => some (d :: ds)).bind fun ds => some (mkRes ds, r_1.2.2)) fun x => exEnd x (((some ((nth 0 r_1.2.1) : D)).bind fun d => (some ([] : List D)).bind fun ds => some (d :: ds)).bind fun ds => some (mkRes ds, r_1.2.2)))
theorem e30 (t0 : D) (t1 : D) (h : Hp) : R fn30 [t0, t1] h = F30 t0 t1 h :=
  (run_fn (X := X) (F := Fs) (fi := i11) (by kernel_rfl) _ _).trans (by kernel_rfl)
/-- a loop: slots 5 6 10 19 -/
noncomputable def F31_L0 (t0 : D) (t1 : D) (ds : List D) (h_1 : Hp) : Option Out :=
    (some ((nth 1 ds) : D)).bind fun t7 =>
    (some (t0 : D)).bind fun t8 =>
    (dLenT tab ty58 t8).bind fun t9 =>
    (dBin tab .lss ty3 t7 t9).bind fun t10 =>
    dIf t10
      ((some (t0 : D)).bind fun t13 =>
    (some ((nth 1 ds) : D)).bind fun t14 =>
    (dIndexAddr tab ty58 t13 t14).bind fun t15 =>
    (dFieldAddr tab ty106 0 t15).bind fun t16 =>
    (dLoad tab h_1 ty3 t16).bind fun t17 =>
    (some (t1 : D)).bind fun t18 =>
    (dBin tab .eql ty3 t17 t18).bind fun t19 =>
    (dIf t19
      ((some ((nth 0 ds) : D)).bind fun t20 =>
      (some (t0 : D)).bind fun t21 =>
      (some ((nth 1 ds) : D)).bind fun t22 =>
      (dIndexAddr tab ty58 t21 t22).bind fun t23 =>
      (dFieldAddr tab ty106 2 t23).bind fun t24 =>
      (dLoad tab h_1 ty3 t24).bind fun t25 =>
      (dBin tab .add ty3 t20 t25).bind fun t26 =>
      (some (t26 : D)).bind fun t5_1 =>
      some (.nrm, [t5_1], h_1))
      (some (.nrm, [(nth 0 ds)], h_1))).bind fun r_1 =>
    toEnd (unblk 1 r_1.1) ((some ((nth 1 ds) : D)).bind fun t11 =>
    (dBin tab .add ty3 t11 (.int .i64 1)).bind fun t12 =>
    (some (t12 : D)).bind fun t6_1 =>
    some (.nrm, [(nth 0 r_1.2.1), t6_1, t10, t19], r_1.2.2)) fun x => some (x, [(nth 0 r_1.2.1), (nth 1 ds), t10, t19], r_1.2.2))
      (some ((.ext 0), [(nth 0 ds), (nth 1 ds), t10, (nth 3 ds)], h_1))
noncomputable def F31 (t0 : D) (t1 : D) (h : Hp) : Option (D × Hp) :=
  (some (.int .i64 0 : D)).bind fun t4 =>
  (some (.int .i64 0 : D)).bind fun t5 =>
  (some (.int .i64 0 : D)).bind fun t6 =>
  ((loopW (F31_L0 t0 t1) [t5, t6, .any, .any] h).bind fun r =>
    some ((unblk 0 r.1), [(nth 0 r.2.1), (nth 1 r.2.1), (nth 2 r.2.1), (nth 3 r.2.1)], r.2.2)).bind fun r_2 =>
  toEnd r_2.1 ((some ((nth 0 r_2.2.1) : D)).bind fun t27 =>
  (some (t27 : D)).bind fun t4_1 =>
  ((some (t4_1 : D)).bind fun d => (some ([] : List D)).bind fun ds => some (d :: ds)).bind fun ds => some (mkRes ds, r_2.2.2)) fun x_1 => exEnd x_1 (((some (t4 : D)).bind fun d => (some ([] : List D)).bind fun ds => some (d :: ds)).bind fun ds => some (mkRes ds, r_2.2.2))
theorem e31 (t0 : D) (t1 : D) (h : Hp) : R fn31 [t0, t1] h = F31 t0 t1 h :=
  (run_fn (X := X) (F := Fs) (fi := i12) (by kernel_rfl) _ _).trans (by kernel_rfl)
/-- a loop: slots 3 4 8 -/
noncomputable def F32_L0 (t0 : D) (ds : List D) (h_1 : Hp) : Option Out :=
    (some ((nth 1 ds) : D)).bind fun t5 =>
    (some (t0 : D)).bind fun t6 =>
    (dLenT tab ty40 t6).bind fun t7 =>
    (dBin tab .lss ty3 t5 t7).bind fun t8 =>
    dIf t8
      ((some ((nth 0 ds) : D)).bind fun t11 =>
    (some (t0 : D)).bind fun t12 =>
    (some ((nth 1 ds) : D)).bind fun t13 =>
    (dIndexAddr tab ty40 t12 t13).bind fun t14 =>
    (dFieldAddr tab ty31 0 t14).bind fun t15 =>
    (dLoad tab h_1 ty3 t15).bind fun t16 =>
    (some (t0 : D)).bind fun t17 =>
    (some ((nth 1 ds) : D)).bind fun t18 =>
    (dIndexAddr tab ty40 t17 t18).bind fun t19 =>
    (dFieldAddr tab ty31 4 t19).bind fun t20 =>
    (dLoad tab h_1 ty28 t20).bind fun t21 =>
    (dLenT tab ty28 t21).bind fun t22 =>
    (R fn60 [t11, t16, .str [], t22] h_1).bind fun p23 =>
    (some (p23.1 : D)).bind fun t3_1 =>
    (some ((nth 1 ds) : D)).bind fun t9 =>
    (dBin tab .add ty3 t9 (.int .i64 1)).bind fun t10 =>
    (some (t10 : D)).bind fun t4_1 =>
    some (.nrm, [t3_1, t4_1, t8], p23.2))
      (some ((.ext 0), [(nth 0 ds), (nth 1 ds), t8], h_1))
noncomputable def F32 (t0 : D) (h : Hp) : Option (D × Hp) :=
  (some (.nils : D)).bind fun t2 =>
  (some (.nils : D)).bind fun t3 =>
  (some (.int .i64 0 : D)).bind fun t4 =>
  ((loopW (F32_L0 t0) [t3, t4, .any] h).bind fun r =>
    some ((unblk 0 r.1), [(nth 0 r.2.1), (nth 1 r.2.1), (nth 2 r.2.1)], r.2.2)).bind fun r_1 =>
  toEnd r_1.1 ((some ((nth 0 r_1.2.1) : D)).bind fun t24 =>
  (some (t24 : D)).bind fun t2_1 =>
  ((some (t2_1 : D)).bind fun d => (some ([] : List D)).bind fun ds => some (d :: ds)).bind fun ds => some (mkRes ds, r_1.2.2)) fun x => exEnd x (((some (t2 : D)).bind fun d => (some ([] : List D)).bind fun ds => some (d :: ds)).bind fun ds => some (mkRes ds, r_1.2.2))
theorem e32 (t0 : D) (h : Hp) : R fn32 [t0] h = F32 t0 h :=
  (run_fn (X := X) (F := Fs) (fi := i13) (by kernel_rfl) _ _).trans (by kernel_rfl)
noncomputable def F33 (t0 : D) (h : Hp) : Option (D × Hp) :=
  (some (.str [] : D)).bind fun t2 =>
  (pLitF tab ty98 11 [0, 1, 2, 3, 4, 5, 6, 7, 8, 9, 10] [.str [119, 97, 114, 110], .str [105, 110, 102, 111], .str [55], .str [45, 51], .str [51, 49], .str [], .str [120, 32, 121], .str [57, 57, 57, 57, 57, 57, 57, 57, 57, 57, 57, 57, 57, 57, 57, 57, 57, 57], .str [49, 48, 48, 48, 48, 48, 48, 48, 48, 48, 48, 48, 48, 48, 48, 48, 48, 48, 48], .str [48, 55], .str [45]]).bind fun t4 =>
  (some (t4 : D)).bind fun t3 =>
  (some (t3 : D)).bind fun t5 =>
  (some (t0 : D)).bind fun t6 =>
  (some (t3 : D)).bind fun t7 =>
  (dLenT tab ty98 t7).bind fun t8 =>
  (R fn24 [t6, t8] h).bind fun p9 =>
  (dIndexAddr tab ty98 t5 p9.1).bind fun t10 =>
  (dLoad tab p9.2 ty9 t10).bind fun t11 =>
  (some (t11 : D)).bind fun t2_1 =>
  ((some (t2_1 : D)).bind fun d => (some ([] : List D)).bind fun ds => some (d :: ds)).bind fun ds => some (mkRes ds, p9.2)
theorem e33 (t0 : D) (h : Hp) : R fn33 [t0] h = F33 t0 h :=
  (run_fn (X := X) (F := Fs) (fi := i14) (by kernel_rfl) _ _).trans (by kernel_rfl)
/-- a loop: slots 5 6 16 27 -/
noncomputable def F34_L0 (t0 : D) (t1 : D) (ds : List D) (h_1 : Hp) : Option Out :=
    (some ((nth 1 ds) : D)).bind fun t7 =>
    (some (t1 : D)).bind fun t8 =>
    (dLenT tab ty40 t8).bind fun t9 =>
    (dBin tab .lss ty3 t7 t9).bind fun t10 =>
    (some (t10 : D)).bind fun t11 =>
    (gd t11 true (some ((nth 0 ds) : D))).bind fun t12 =>
    (gd t11 true (some (t0 : D))).bind fun t13 =>
    (gd t11 true (dLenT tab ty40 t13)).bind fun t14 =>
    (gd t11 true (dBin tab .lss ty3 t12 t14)).bind fun t15 =>
    (dPick t11 t15 (.bool false)).bind fun t16 =>
    dIf t16
      ((some (t0 : D)).bind fun t19 =>
    (some ((nth 0 ds) : D)).bind fun t20 =>
    (dIndexAddr tab ty40 t19 t20).bind fun t21 =>
    (dLoad tab h_1 ty31 t21).bind fun t22 =>
    (some (t1 : D)).bind fun t23 =>
    (some ((nth 1 ds) : D)).bind fun t24 =>
    (dIndexAddr tab ty40 t23 t24).bind fun t25 =>
    (dLoad tab h_1 ty31 t25).bind fun t26 =>
    (R fn61 [t22, t26] h_1).bind fun p27 =>
    (dIf p27.1
      ((some ((nth 0 ds) : D)).bind fun t28 =>
      (dBin tab .add ty3 t28 (.int .i64 1)).bind fun t29 =>
      (some (t29 : D)).bind fun t5_1 =>
      some (.nrm, [t5_1], p27.2))
      (some (.nrm, [(nth 0 ds)], p27.2))).bind fun r_1 =>
    toEnd (unblk 1 r_1.1) ((some ((nth 1 ds) : D)).bind fun t17 =>
    (dBin tab .add ty3 t17 (.int .i64 1)).bind fun t18 =>
    (some (t18 : D)).bind fun t6_1 =>
    some (.nrm, [(nth 0 r_1.2.1), t6_1, t16, p27.1], r_1.2.2)) fun x => some (x, [(nth 0 r_1.2.1), (nth 1 ds), t16, p27.1], r_1.2.2))
      (some ((.ext 0), [(nth 0 ds), (nth 1 ds), t16, (nth 3 ds)], h_1))
noncomputable def F34 (t0 : D) (t1 : D) (h : Hp) : Option (D × Hp) :=
  (some (.bool false : D)).bind fun t4 =>
  (some (.int .i64 0 : D)).bind fun t5 =>
  (some (.int .i64 0 : D)).bind fun t6 =>
  ((loopW (F34_L0 t0 t1) [t5, t6, .any, .any] h).bind fun r =>
    some ((unblk 0 r.1), [(nth 0 r.2.1), (nth 1 r.2.1), (nth 2 r.2.1), (nth 3 r.2.1)], r.2.2)).bind fun r_2 =>
  toEnd r_2.1 ((some ((nth 0 r_2.2.1) : D)).bind fun t30 =>
  (some (t0 : D)).bind fun t31 =>
  (dLenT tab ty40 t31).bind fun t32 =>
  (dBin tab .eql ty3 t30 t32).bind fun t33 =>
  (some (t33 : D)).bind fun t4_1 =>
  ((some (t4_1 : D)).bind fun d => (some ([] : List D)).bind fun ds => some (d :: ds)).bind fun ds => some (mkRes ds, r_2.2.2)) fun x_1 => exEnd x_1 (((some (t4 : D)).bind fun d => (some ([] : List D)).bind fun ds => some (d :: ds)).bind fun ds => some (mkRes ds, r_2.2.2))
theorem e34 (t0 : D) (t1 : D) (h : Hp) : R fn34 [t0, t1] h = F34 t0 t1 h :=
  (run_fn (X := X) (F := Fs) (fi := i15) (by kernel_rfl) _ _).trans (by kernel_rfl)
noncomputable def F35 (t0 : D) (h : Hp) : Option (D × Hp) :=
  (some (.int .i64 0 : D)).bind fun t2 =>
  (some (t0 : D)).bind fun t3 =>
  (R fn24 [t3, .int .i64 4] h).bind fun p4 =>
  (dBin tab .eql ty3 p4.1 (.int .i64 0)).bind fun t6 =>
  (some (t6 : D)).bind fun t5 =>
  dIf t5
    ((some (t0 : D)).bind fun t7 =>
    (R fn24 [t7, .int .i64 40] p4.2).bind fun p8 =>
    (dBin tab .mul ty3 p8.1 (.int .i64 86400000)).bind fun t9 =>
    (some (t9 : D)).bind fun t2_1 =>
    ((some (t2_1 : D)).bind fun d => (some ([] : List D)).bind fun ds => some (d :: ds)).bind fun ds => some (mkRes ds, p8.2))
    ((dBin tab .eql ty3 p4.1 (.int .i64 1)).bind fun t11 =>
    (some (t11 : D)).bind fun t10 =>
    dIf t10
      ((some (t0 : D)).bind fun t12 =>
      (R fn24 [t12, .int .i64 3] p4.2).bind fun p13 =>
      (dBin tab .mul ty3 p13.1 (.int .i64 86400000)).bind fun t14 =>
      (dBin tab .sub ty3 (.int .i64 253402300799999) t14).bind fun t15 =>
      (some (t15 : D)).bind fun t2_2 =>
      ((some (t2_2 : D)).bind fun d => (some ([] : List D)).bind fun ds => some (d :: ds)).bind fun ds => some (mkRes ds, p13.2))
      ((some (t0 : D)).bind fun t16 =>
  (R fn24 [t16, .int .i64 60] p4.2).bind fun p17 =>
  (dBin tab .add ty3 (.int .i64 1000) p17.1).bind fun t18 =>
  (some (t18 : D)).bind fun t2_3 =>
  ((some (t2_3 : D)).bind fun d => (some ([] : List D)).bind fun ds => some (d :: ds)).bind fun ds => some (mkRes ds, p17.2)))
theorem e35 (t0 : D) (h : Hp) : R fn35 [t0] h = F35 t0 h :=
  (run_fn (X := X) (F := Fs) (fi := i16) (by kernel_rfl) _ _).trans (by kernel_rfl)
noncomputable def F24 (t0 : D) (t1 : D) (h : Hp) : Option (D × Hp) :=
  (some (.int .i64 0 : D)).bind fun t4 =>
  (some (t0 : D)).bind fun t6 =>
  (R fn57 [t6] h).bind fun p7 =>
  (dUn .not p7.1).bind fun t8 =>
  (some (t8 : D)).bind fun t9 =>
  (gd t9 false (some (t1 : D))).bind fun t10 =>
  (gd t9 false (dBin tab .lss ty3 t10 (.int .i64 1))).bind fun t11 =>
  (dPick t9 (.bool true) t11).bind fun t12 =>
  dIf t12
    ((some (.int .i64 0 : D)).bind fun t4_1 =>
    ((some (t4_1 : D)).bind fun d => (some ([] : List D)).bind fun ds => some (d :: ds)).bind fun ds => some (mkRes ds, p7.2))
    ((some (t0 : D)).bind fun t13 =>
  (dNilCheck t13).bind fun t14 =>
  (dFieldAddr tab ty101 0 t14).bind fun t15 =>
  (dLoad tab p7.2 ty22 t15).bind fun t16 =>
  (some (t0 : D)).bind fun t17 =>
  (dNilCheck t17).bind fun t18 =>
  (dFieldAddr tab ty101 1 t18).bind fun t19 =>
  (dLoad tab p7.2 ty3 t19).bind fun t20 =>
  (dIndexAddr tab ty22 t16 t20).bind fun t21 =>
  (dLoad tab p7.2 ty5 t21).bind fun t22 =>
  (dConv tab ty5 ty3 t22).bind fun t23 =>
  (some (t23 : D)).bind fun t5 =>
  (some (t0 : D)).bind fun t24 =>
  (dNilCheck t24).bind fun t25 =>
  (dFieldAddr tab ty101 1 t25).bind fun t26 =>
  (dLoad tab p7.2 ty3 t26).bind fun t27 =>
  (dBin tab .add ty3 t27 (.int .i64 1)).bind fun t28 =>
  (dNilCheck t24).bind fun t29 =>
  (dFieldAddr tab ty101 1 t29).bind fun t30 =>
  ((dStore tab p7.2 ty3 t30 t28).bind fun h' => some ((.und : D), h')).bind fun p907 =>
  (some (t5 : D)).bind fun t31 =>
  (some (t1 : D)).bind fun t32 =>
  (dBin tab .mul ty3 t31 t32).bind fun t33 =>
  (dBin tab .quo ty3 t33 (.int .i64 256)).bind fun t34 =>
  (some (t34 : D)).bind fun t4_2 =>
  ((some (t4_2 : D)).bind fun d => (some ([] : List D)).bind fun ds => some (d :: ds)).bind fun ds => some (mkRes ds, p907.2))
theorem e24 (t0 : D) (t1 : D) (h : Hp) : R fn24 [t0, t1] h = F24 t0 t1 h :=
  (run_fn (X := X) (F := Fs) (fi := i17) (by kernel_rfl) _ _).trans (by kernel_rfl)
noncomputable def F36 (t0 : D) (t1 : D) (t2 : D) (t3 : D) (h : Hp) : Option (D × Hp) :=
  (pBoxF t2).bind fun t6 =>
  (pBoxF t3).bind fun t7 =>
  (some (.bool false : D)).bind fun t8 =>
  (some (t0 : D)).bind fun t12 =>
  (R fn50 [t12, .fn (.func fn62) [] []] h).bind fun p13 =>
  (some (p13.1 : D)).bind fun t9 =>
  (dLoad tab p13.2 ty3 t6).bind fun t14 =>
  (R fn49 [t14] p13.2).bind fun p15 =>
  (dUn .not p15.1).bind fun t16 =>
  (some (t16 : D)).bind fun t17 =>
  (gd t17 false (some (t9 : D))).bind fun t18 =>
  (gd t17 false (dBin tab .lss ty3 t18 (.int .i64 0))).bind fun t19 =>
  (dPick t17 (.bool true) t19).bind fun t20 =>
  dIf t20
    ((some (.bool false : D)).bind fun t8_1 =>
    ((some (t8_1 : D)).bind fun d => (some ([] : List D)).bind fun ds => some (d :: ds)).bind fun ds => some (mkRes ds, p15.2))
    ((some (.fn (.func fn63) [] [t6, t7] : D)).bind fun t21 =>
  (some (t21 : D)).bind fun t10 =>
  (some (.fn (.func fn64) [] [t7] : D)).bind fun t22 =>
  (some (t22 : D)).bind fun t11 =>
  (some (t0 : D)).bind fun t23 =>
  (some (t9 : D)).bind fun t24 =>
  (dBin tab .add ty3 t24 (.int .i64 1)).bind fun t25 =>
  (dSliceAt tab ty38 false true false [t23, t25]).bind fun t26 =>
  (some (t10 : D)).bind fun t27 =>
  (R fn65 [t26, t27] p15.2).bind fun p28 =>
  (dUn .not p28.1).bind fun t29 =>
  (some (t29 : D)).bind fun t30 =>
  (gd t30 true (some (t1 : D))).bind fun t31 =>
  (gd t30 true (some (t11 : D))).bind fun t32 =>
  (gdW t30 true p28.2 (R fn54 [t31, t32] p28.2)).bind fun p33 =>
  (gd t30 true (dUn .not p33.1)).bind fun t34 =>
  (dPick t30 t34 (.bool false)).bind fun t35 =>
  (some (t35 : D)).bind fun t8_2 =>
  ((some (t8_2 : D)).bind fun d => (some ([] : List D)).bind fun ds => some (d :: ds)).bind fun ds => some (mkRes ds, p33.2))
theorem e36 (t0 : D) (t1 : D) (t2 : D) (t3 : D) (h : Hp) : R fn36 [t0, t1, t2, t3] h = F36 t0 t1 t2 t3 h :=
  (run_fn (X := X) (F := Fs) (fi := i18) (by kernel_rfl) _ _).trans (by kernel_rfl)
/-- a loop: slots 8 9 20 40 -/
noncomputable def F37_L0 (t1 : D) (t7 : D) (ds : List D) (h_1 : Hp) : Option Out :=
    (some ((nth 1 ds) : D)).bind fun t17 =>
    (some (t1 : D)).bind fun t18 =>
    (dLenT tab ty39 t18).bind fun t19 =>
    (dBin tab .lss ty3 t17 t19).bind fun t20 =>
    dIf t20
      ((some (t1 : D)).bind fun t23 =>
    (some ((nth 1 ds) : D)).bind fun t24 =>
    (dIndexAddr tab ty39 t23 t24).bind fun t25 =>
    (dFieldAddr tab ty56 3 t25).bind fun t26 =>
    (dLoad tab h_1 ty3 t26).bind fun t27 =>
    (dFieldAddr tab ty69 5 t7).bind fun t28 =>
    (dLoad tab h_1 ty3 t28).bind fun t29 =>
    (dBin tab .leq ty3 t27 t29).bind fun t30 =>
    (some (t30 : D)).bind fun t31 =>
    (gd t31 true (some (t1 : D))).bind fun t32 =>
    (gd t31 true (some ((nth 1 ds) : D))).bind fun t33 =>
    (gd t31 true (dIndexAddr tab ty39 t32 t33)).bind fun t34 =>
    (gd t31 true (dFieldAddr tab ty56 4 t34)).bind fun t35 =>
    (gd t31 true (dLoad tab h_1 ty3 t35)).bind fun t36 =>
    (gd t31 true (dFieldAddr tab ty69 4 t7)).bind fun t37 =>
    (gd t31 true (dLoad tab h_1 ty3 t37)).bind fun t38 =>
    (gd t31 true (dBin tab .gtr ty3 t36 t38)).bind fun t39 =>
    (dPick t31 t39 (.bool false)).bind fun t40 =>
    dIf t40
      ((some (.bool false : D)).bind fun t8_2 =>
      some (.ret, [t8_2, (nth 1 ds), t20, t40], h_1))
      ((some ((nth 1 ds) : D)).bind fun t21 =>
    (dBin tab .add ty3 t21 (.int .i64 1)).bind fun t22 =>
    (some (t22 : D)).bind fun t9_1 =>
    some (.nrm, [(nth 0 ds), t9_1, t20, t40], h_1)))
      (some ((.ext 0), [(nth 0 ds), (nth 1 ds), t20, (nth 3 ds)], h_1))
/-- a loop: slots 8 10 44 56 62 -/
noncomputable def F37_L1 (t0 : D) (t2 : D) (t7 : D) (ds_1 : List D) (h_2 : Hp) : Option Out :=
    (some ((nth 1 ds_1) : D)).bind fun t41 =>
    (some (t0 : D)).bind fun t42 =>
    (dLenT tab ty38 t42).bind fun t43 =>
    (dBin tab .lss ty3 t41 t43).bind fun t44 =>
    dIf t44
      ((some (t2 : D)).bind fun t47 =>
    (some (t0 : D)).bind fun t48 =>
    (some ((nth 1 ds_1) : D)).bind fun t49 =>
    (dIndexAddr tab ty38 t48 t49).bind fun t50 =>
    (dFieldAddr tab ty53 3 t50).bind fun t51 =>
    (dLoad tab h_2 ty3 t51).bind fun t52 =>
    (dBin tab .sub ty3 t47 t52).bind fun t53 =>
    (dFieldAddr tab ty69 5 t7).bind fun t54 =>
    (dLoad tab h_2 ty3 t54).bind fun t55 =>
    (dBin tab .leq ty3 t53 t55).bind fun t56 =>
    dIf t56
      ((some (.bool false : D)).bind fun t8_3 =>
      some (.ret, [t8_3, (nth 1 ds_1), t44, t56, (nth 4 ds_1)], h_2))
      ((some (t0 : D)).bind fun t57 =>
    (some ((nth 1 ds_1) : D)).bind fun t58 =>
    (dIndexAddr tab ty38 t57 t58).bind fun t59 =>
    (dFieldAddr tab ty53 1 t59).bind fun t60 =>
    (dLoad tab h_2 ty9 t60).bind fun t61 =>
    (dBin tab .eql ty9 t61 (.str [])).bind fun t62 =>
    dIf t62
      ((some (.bool true : D)).bind fun t8_4 =>
      some (.ret, [t8_4, (nth 1 ds_1), t44, t56, t62], h_2))
      ((some ((nth 1 ds_1) : D)).bind fun t45 =>
    (dBin tab .add ty3 t45 (.int .i64 1)).bind fun t46 =>
    (some (t46 : D)).bind fun t10_1 =>
    some (.nrm, [(nth 0 ds_1), t10_1, t44, t56, t62], h_2))))
      (some ((.ext 2), [(nth 0 ds_1), (nth 1 ds_1), t44, (nth 3 ds_1), (nth 4 ds_1)], h_2))
noncomputable def F37 (t0 : D) (t1 : D) (t2 : D) (t3 : D) (h : Hp) : Option (D × Hp) :=
  (pBoxF t3).bind fun t7 =>
  (some (.bool false : D)).bind fun t8 =>
  (some (t2 : D)).bind fun t11 =>
  (dBin tab .lss ty3 t11 (.int .i64 0)).bind fun t12 =>
  (some (t12 : D)).bind fun t13 =>
  (gd t13 false (some (t2 : D))).bind fun t14 =>
  (gd t13 false (dBin tab .gtr ty3 t14 (.int .i64 253402300799999))).bind fun t15 =>
  (dPick t13 (.bool true) t15).bind fun t16 =>
  dIf t16
    ((some (.bool false : D)).bind fun t8_1 =>
    ((some (t8_1 : D)).bind fun d => (some ([] : List D)).bind fun ds => some (d :: ds)).bind fun ds => some (mkRes ds, h))
    ((some (.int .i64 0 : D)).bind fun t9 =>
  ((loopW (F37_L0 t1 t7) [t8, t9, .any, .any] h).bind fun r =>
    some ((unblk 0 r.1), [(nth 0 r.2.1), (nth 1 r.2.1), (nth 2 r.2.1), (nth 3 r.2.1)], r.2.2)).bind fun r_1 =>
  toEnd r_1.1 ((some (.int .i64 0 : D)).bind fun t10 =>
  ((loopW (F37_L1 t0 t2 t7) [(nth 0 r_1.2.1), t10, .any, .any, .any] r_1.2.2).bind fun r_2 =>
    some ((unblk 2 r_2.1), [(nth 0 r_2.2.1), (nth 1 r_2.2.1), (nth 2 r_2.2.1), (nth 3 r_2.2.1), (nth 4 r_2.2.1)], r_2.2.2)).bind fun r_3 =>
  toEnd r_3.1 ((some (.bool false : D)).bind fun t8_5 =>
  ((some (t8_5 : D)).bind fun d => (some ([] : List D)).bind fun ds => some (d :: ds)).bind fun ds => some (mkRes ds, r_3.2.2)) fun x_1 => exEnd x_1 (((some ((nth 0 r_3.2.1) : D)).bind fun d => (some ([] : List D)).bind fun ds => some (d :: ds)).bind fun ds => some (mkRes ds, r_3.2.2))) fun x => exEnd x (((some ((nth 0 r_1.2.1) : D)).bind fun d => (some ([] : List D)).bind fun ds => some (d :: ds)).bind fun ds => some (mkRes ds, r_1.2.2)))
theorem e37 (t0 : D) (t1 : D) (t2 : D) (t3 : D) (h : Hp) : R fn37 [t0, t1, t2, t3] h = F37 t0 t1 t2 t3 h :=
  (run_fn (X := X) (F := Fs) (fi := i19) (by kernel_rfl) _ _).trans (by kernel_rfl)
noncomputable def F18 (t0 : D) (t1 : D) (h : Hp) : Option (D × Hp) :=
  (pBoxF t1).bind fun t3 =>
  (some (.int .i64 0 : D)).bind fun t4 =>
  (some (t0 : D)).bind fun t5 =>
  (some (.fn (.func fn51) [] [t3] : D)).bind fun t6 =>
  (R fn50 [t5, t6] h).bind fun p7 =>
  (some (p7.1 : D)).bind fun t4_1 =>
  ((some (t4_1 : D)).bind fun d => (some ([] : List D)).bind fun ds => some (d :: ds)).bind fun ds => some (mkRes ds, p7.2)
theorem e18 (t0 : D) (t1 : D) (h : Hp) : R fn18 [t0, t1] h = F18 t0 t1 h :=
  (run_fn (X := X) (F := Fs) (fi := i20) (by kernel_rfl) _ _).trans (by kernel_rfl)
noncomputable def F44 (t0 : D) (t1 : D) (h : Hp) : Option (D × Hp) :=
  (some (.nilp : D)).bind fun t4 =>
  (some (t0 : D)).bind fun t5 =>
  (some (t0 : D)).bind fun t6 =>
  (dLenT tab ty22 t6).bind fun t7 =>
  (some (t1 : D)).bind fun t8 =>
  (dMin t7 t8).bind fun t9 =>
  (dSliceAt tab ty22 false true false [t5, t9]).bind fun t10 =>
  (dBuild tab ty101 [0] [t10]).bind fun t11 =>
  (wBox ty101 2 h t11).bind fun p12 =>
  (some (p12.1 : D)).bind fun t4_1 =>
  ((some (t4_1 : D)).bind fun d => (some ([] : List D)).bind fun ds => some (d :: ds)).bind fun ds => some (mkRes ds, p12.2)
theorem e44 (t0 : D) (t1 : D) (h : Hp) : R fn44 [t0, t1] h = F44 t0 t1 h :=
  (run_fn (X := X) (F := Fs) (fi := i21) (by kernel_rfl) _ _).trans (by kernel_rfl)
noncomputable def F45 (t0 : D) (h : Hp) : Option (D × Hp) :=
  (some (.nils : D)).bind fun t2 =>
  (some (.nils : D)).bind fun t3 =>
  (some (t0 : D)).bind fun t4 =>
  (R fn24 [t4, .int .i64 2] h).bind fun p5 =>
  (dBin tab .eql ty3 p5.1 (.int .i64 1)).bind fun t6 =>
  (dIf t6
    ((some (t3 : D)).bind fun t7 =>
    (some (t0 : D)).bind fun t8 =>
    (R fn24 [t8, .int .i64 4] p5.2).bind fun p9 =>
    (dBin tab .mul ty3 p9.1 (.int .i64 86400000)).bind fun t10 =>
    (dBuild tab ty53 [0, 1, 2, 3] [.str [119, 97, 114, 110], .str [108, 101, 118, 101, 108], .str [119, 97, 114, 110], t10]).bind fun t11 =>
    (pLitF tab ty38 1 [0] [t11]).bind fun t12 =>
    (dAppend tab p9.2 ty38 ty38 t7 t12).bind fun p13 =>
    (some (p13.1 : D)).bind fun t3_1 =>
    some (.nrm, [t3_1], p13.2))
    (some (.nrm, [t3], p5.2))).bind fun r =>
  toEnd r.1 ((some (t0 : D)).bind fun t14 =>
  (R fn24 [t14, .int .i64 2] r.2.2).bind fun p15 =>
  (dBin tab .eql ty3 p15.1 (.int .i64 1)).bind fun t16 =>
  (dIf t16
    ((some ((nth 0 r.2.1) : D)).bind fun t17 =>
    (some (t0 : D)).bind fun t18 =>
    (R fn24 [t18, .int .i64 50] p15.2).bind fun p19 =>
    (dBin tab .add ty3 (.int .i64 1) p19.1).bind fun t20 =>
    (dBuild tab ty53 [0, 1, 2, 3] [.str [115, 101, 118, 101, 110], .str [99, 111, 100, 101], .str [55], t20]).bind fun t21 =>
    (pLitF tab ty38 1 [0] [t21]).bind fun t22 =>
    (dAppend tab p19.2 ty38 ty38 t17 t22).bind fun p23 =>
    (some (p23.1 : D)).bind fun t3_2 =>
    some (.nrm, [t3_2], p23.2))
    (some (.nrm, [(nth 0 r.2.1)], p15.2))).bind fun r_1 =>
  toEnd r_1.1 ((some (t0 : D)).bind fun t24 =>
  (R fn24 [t24, .int .i64 3] r_1.2.2).bind fun p25 =>
  (dBin tab .gtr ty3 p25.1 (.int .i64 0)).bind fun t26 =>
  (dIf t26
    ((some ((nth 0 r_1.2.1) : D)).bind fun t27 =>
    (pLitF tab ty82 5 [0, 1, 2, 3, 4] [.int .i64 0, .int .i64 20, .int .i64 86400000, .int .i64 1728000000, .int .i64 253402300799999]).bind fun t28 =>
    (some (t0 : D)).bind fun t29 =>
    (R fn24 [t29, .int .i64 5] p25.2).bind fun p30 =>
    (dIndexAddr tab ty82 t28 p30.1).bind fun t31 =>
    (dLoad tab p30.2 ty3 t31).bind fun t32 =>
    (dBuild tab ty53 [0, 3] [.str [97, 108, 108], t32]).bind fun t33 =>
    (pLitF tab ty38 1 [0] [t33]).bind fun t34 =>
    (dAppend tab p30.2 ty38 ty38 t27 t34).bind fun p35 =>
    (some (p35.1 : D)).bind fun t3_3 =>
    some (.nrm, [t3_3], p35.2))
    (some (.nrm, [(nth 0 r_1.2.1)], p25.2))).bind fun r_2 =>
  toEnd r_2.1 ((some ((nth 0 r_2.2.1) : D)).bind fun t36 =>
  (some (t36 : D)).bind fun t2_1 =>
  ((some (t2_1 : D)).bind fun d => (some ([] : List D)).bind fun ds => some (d :: ds)).bind fun ds => scope h r_2.2.2 (mkRes ds)) fun x_2 => exEnd x_2 (((some (t2 : D)).bind fun d => (some ([] : List D)).bind fun ds => some (d :: ds)).bind fun ds => scope h r_2.2.2 (mkRes ds))) fun x_1 => exEnd x_1 (((some (t2 : D)).bind fun d => (some ([] : List D)).bind fun ds => some (d :: ds)).bind fun ds => scope h r_1.2.2 (mkRes ds))) fun x => exEnd x (((some (t2 : D)).bind fun d => (some ([] : List D)).bind fun ds => some (d :: ds)).bind fun ds => scope h r.2.2 (mkRes ds))
theorem e45 (t0 : D) (h : Hp) : R fn45 [t0] h = F45 t0 h :=
  (run_fn (X := X) (F := Fs) (fi := i22) (by kernel_rfl) _ _).trans (by kernel_rfl)
noncomputable def F46 (t0 : D) (h : Hp) : Option (D × Hp) :=
  (some (.nils : D)).bind fun t2 =>
  (some (.nils : D)).bind fun t3 =>
  (some (t0 : D)).bind fun t5 =>
  (R fn24 [t5, .int .i64 3] h).bind fun p6 =>
  (dBin tab .eql ty3 p6.1 (.int .i64 2)).bind fun t7 =>
  (dIf t7
    ((some (t3 : D)).bind fun t8 =>
    (some (t0 : D)).bind fun t9 =>
    (R fn33 [t9] p6.2).bind fun p10 =>
    (dBuild tab ty56 [0, 1, 2, 3, 4] [.str [99, 97, 115, 101, 49], .str [117, 115, 101, 114], p10.1, .int .i64 0, .int .i64 253402300799999]).bind fun t11 =>
    (pLitF tab ty39 1 [0] [t11]).bind fun t12 =>
    (dAppend tab p10.2 ty39 ty39 t8 t12).bind fun p13 =>
    (some (p13.1 : D)).bind fun t3_1 =>
    some (.nrm, [t3_1], p13.2))
    (some (.nrm, [t3], p6.2))).bind fun r =>
  toEnd r.1 ((some (t0 : D)).bind fun t14 =>
  (R fn24 [t14, .int .i64 3] r.2.2).bind fun p15 =>
  (dBin tab .eql ty3 p15.1 (.int .i64 2)).bind fun t16 =>
  (dIf t16
    ((some (t0 : D)).bind fun t17 =>
    (R fn24 [t17, .int .i64 30] p15.2).bind fun p18 =>
    (dBin tab .mul ty3 p18.1 (.int .i64 86400000)).bind fun t19 =>
    (some (t19 : D)).bind fun t4 =>
    (some ((nth 0 r.2.1) : D)).bind fun t20 =>
    (some (t4 : D)).bind fun t21 =>
    (some (t4 : D)).bind fun t22 =>
    (some (t0 : D)).bind fun t23 =>
    (R fn24 [t23, .int .i64 10] p18.2).bind fun p24 =>
    (dBin tab .mul ty3 p24.1 (.int .i64 86400000)).bind fun t25 =>
    (dBin tab .add ty3 t22 t25).bind fun t26 =>
    (dBuild tab ty56 [0, 3, 4] [.str [99, 97, 115, 101, 50], t21, t26]).bind fun t27 =>
    (pLitF tab ty39 1 [0] [t27]).bind fun t28 =>
    (dAppend tab p24.2 ty39 ty39 t20 t28).bind fun p29 =>
    (some (p29.1 : D)).bind fun t3_2 =>
    some (.nrm, [t3_2, t4], p29.2))
    (some (.nrm, [(nth 0 r.2.1), .any], p15.2))).bind fun r_1 =>
  toEnd r_1.1 ((some ((nth 0 r_1.2.1) : D)).bind fun t30 =>
  (some (t30 : D)).bind fun t2_1 =>
  ((some (t2_1 : D)).bind fun d => (some ([] : List D)).bind fun ds => some (d :: ds)).bind fun ds => scope h r_1.2.2 (mkRes ds)) fun x_1 => exEnd x_1 (((some (t2 : D)).bind fun d => (some ([] : List D)).bind fun ds => some (d :: ds)).bind fun ds => scope h r_1.2.2 (mkRes ds))) fun x => exEnd x (((some (t2 : D)).bind fun d => (some ([] : List D)).bind fun ds => some (d :: ds)).bind fun ds => scope h r.2.2 (mkRes ds))
theorem e46 (t0 : D) (h : Hp) : R fn46 [t0] h = F46 t0 h :=
  (run_fn (X := X) (F := Fs) (fi := i23) (by kernel_rfl) _ _).trans (by kernel_rfl)
noncomputable def F47 (t0 : D) (h : Hp) : Option (D × Hp) :=
  (some (.int .i64 0 : D)).bind fun t2 =>
  (some (t0 : D)).bind fun t4 =>
  (R fn24 [t4, .int .i64 16] h).bind fun p5 =>
  (some (p5.1 : D)).bind fun t3 =>
  (some (t3 : D)).bind fun t6 =>
  (dBin tab .eql ty3 t6 (.int .i64 15)).bind fun t7 =>
  dIf t7
    ((pLitF tab ty82 6 [0, 1, 2, 3, 4, 5] [.int .i64 9223372036854775807, .int .i64 (-9223372036854775808), .int .i64 4294967296, .int .i64 (-2147483648), .int .i64 253402300799999, .int .i64 253402300800000]).bind fun t8 =>
    (some (t0 : D)).bind fun t9 =>
    (R fn24 [t9, .int .i64 6] p5.2).bind fun p10 =>
    (dIndexAddr tab ty82 t8 p10.1).bind fun t11 =>
    (dLoad tab p10.2 ty3 t11).bind fun t12 =>
    (some (t12 : D)).bind fun t2_1 =>
    ((some (t2_1 : D)).bind fun d => (some ([] : List D)).bind fun ds => some (d :: ds)).bind fun ds => some (mkRes ds, p10.2))
    ((some (t0 : D)).bind fun t13 =>
  (R fn24 [t13, .int .i64 256] p5.2).bind fun p14 =>
  (some (t0 : D)).bind fun t15 =>
  (R fn24 [t15, .int .i64 6] p14.2).bind fun p16 =>
  (dBin tab .shr ty3 p14.1 p16.1).bind fun t17 =>
  (some (t3 : D)).bind fun t18 =>
  (dBin tab .quo ty3 t18 (.int .i64 8)).bind fun t19 =>
  (dBin tab .sub ty3 t17 t19).bind fun t20 =>
  (some (t20 : D)).bind fun t2_2 =>
  ((some (t2_2 : D)).bind fun d => (some ([] : List D)).bind fun ds => some (d :: ds)).bind fun ds => some (mkRes ds, p16.2))
theorem e47 (t0 : D) (h : Hp) : R fn47 [t0] h = F47 t0 h :=
  (run_fn (X := X) (F := Fs) (fi := i24) (by kernel_rfl) _ _).trans (by kernel_rfl)
/-- a loop: slots 5 9 33 44 -/
noncomputable def F48_L2 (t7 : D) (ds_1 : List D) (ds_2 : List D) (h_3 : Hp) : Option Out :=
    (some ((nth 1 ds_2) : D)).bind fun t27 =>
    (some (t7 : D)).bind fun t28 =>
    (some ((nth 1 ds_1) : D)).bind fun t29 =>
    (dIndexAddr tab ty111 t28 t29).bind fun t30 =>
    (dLoad tab h_3 ty113 t30).bind fun t31 =>
    (dLenT tab ty113 t31).bind fun t32 =>
    (dBin tab .lss ty3 t27 t32).bind fun t33 =>
    dIf t33
      ((some (t7 : D)).bind fun t36 =>
    (some ((nth 1 ds_1) : D)).bind fun t37 =>
    (dIndexAddr tab ty111 t36 t37).bind fun t38 =>
    (dLoad tab h_3 ty113 t38).bind fun t39 =>
    (some ((nth 1 ds_2) : D)).bind fun t40 =>
    (dIndexAddr tab ty113 t39 t40).bind fun t41 =>
    (dFieldAddr tab ty74 0 t41).bind fun t42 =>
    (dLoad tab h_3 ty9 t42).bind fun t43 =>
    (dBin tab .eql ty9 t43 (.str [])).bind fun t44 =>
    (dIf t44
      ((some ((nth 0 ds_2) : D)).bind fun t45 =>
      (some (t7 : D)).bind fun t46 =>
      (some ((nth 1 ds_1) : D)).bind fun t47 =>
      (dIndexAddr tab ty111 t46 t47).bind fun t48 =>
      (dLoad tab h_3 ty113 t48).bind fun t49 =>
      (some ((nth 1 ds_2) : D)).bind fun t50 =>
      (dIndexAddr tab ty113 t49 t50).bind fun t51 =>
      (dFieldAddr tab ty74 1 t51).bind fun t52 =>
      (dLoad tab h_3 ty31 t52).bind fun t53 =>
      (R fn72 [t45, t53] h_3).bind fun p54 =>
      (some (p54.1 : D)).bind fun t5_1 =>
      some (.nrm, [t5_1], p54.2))
      (some (.nrm, [(nth 0 ds_2)], h_3))).bind fun r_3 =>
    toEnd (unblk 5 r_3.1) ((some ((nth 1 ds_2) : D)).bind fun t34 =>
    (dBin tab .add ty3 t34 (.int .i64 1)).bind fun t35 =>
    (some (t35 : D)).bind fun t9_1 =>
    some (.nrm, [(nth 0 r_3.2.1), t9_1, t33, t44], r_3.2.2)) fun x => some (x, [(nth 0 r_3.2.1), (nth 1 ds_2), t33, t44], r_3.2.2))
      (some ((.ext 4), [(nth 0 ds_2), (nth 1 ds_2), t33, (nth 3 ds_2)], h_3))
/-- a loop: slots 5 8 9 24 33 44 -/
noncomputable def F48_L1 (t7 : D) (ds_1 : List D) (h_2 : Hp) : Option Out :=
    (some ((nth 1 ds_1) : D)).bind fun t21 =>
    (some (t7 : D)).bind fun t22 =>
    (dLenT tab ty111 t22).bind fun t23 =>
    (dBin tab .lss ty3 t21 t23).bind fun t24 =>
    dIf t24
      ((some (.int .i64 0 : D)).bind fun t9 =>
    ((loopW (F48_L2 t7 ds_1) [(nth 0 ds_1), t9, (nth 4 ds_1), (nth 5 ds_1)] h_2).bind fun r_2 =>
      some ((unblk 4 r_2.1), [(nth 0 r_2.2.1), (nth 1 r_2.2.1), (nth 2 r_2.2.1), (nth 3 r_2.2.1)], r_2.2.2)).bind fun r_4 =>
    toEnd (unblk 3 r_4.1) ((some ((nth 1 ds_1) : D)).bind fun t25 =>
    (dBin tab .add ty3 t25 (.int .i64 1)).bind fun t26 =>
    (some (t26 : D)).bind fun t8_1 =>
    some (.nrm, [(nth 0 r_4.2.1), t8_1, (nth 1 r_4.2.1), t24, (nth 2 r_4.2.1), (nth 3 r_4.2.1)], r_4.2.2)) fun x_1 => some (x_1, [(nth 0 r_4.2.1), (nth 1 ds_1), (nth 1 r_4.2.1), t24, (nth 2 r_4.2.1), (nth 3 r_4.2.1)], r_4.2.2))
      (some ((.ext 2), [(nth 0 ds_1), (nth 1 ds_1), (nth 2 ds_1), t24, (nth 4 ds_1), (nth 5 ds_1)], h_2))
/-- a loop: slots 5 6 7 8 9 14 24 33 44 -/
noncomputable def F48_L0 (t0 : D) (t1 : D) (ds : List D) (h_1 : Hp) : Option Out :=
    (some ((nth 1 ds) : D)).bind fun t10 =>
    (some (t0 : D)).bind fun t11 =>
    (R fn24 [t11, .int .i64 2] h_1).bind fun p12 =>
    (dBin tab .add ty3 (.int .i64 1) p12.1).bind fun t13 =>
    (dBin tab .leq ty3 t10 t13).bind fun t14 =>
    dIf t14
      ((some (t0 : D)).bind fun t17 =>
    (some ((nth 1 ds) : D)).bind fun t18 =>
    (some (t1 : D)).bind fun t19 =>
    (R fn71 [t17, t18, t19] p12.2).bind fun p20 =>
    (some (p20.1 : D)).bind fun t7 =>
    (some (.int .i64 0 : D)).bind fun t8 =>
    ((loopW (F48_L1 t7) [(nth 0 ds), t8, (nth 4 ds), (nth 6 ds), (nth 7 ds), (nth 8 ds)] p20.2).bind fun r_1 =>
      some ((unblk 2 r_1.1), [(nth 0 r_1.2.1), (nth 1 r_1.2.1), (nth 2 r_1.2.1), (nth 3 r_1.2.1), (nth 4 r_1.2.1), (nth 5 r_1.2.1)], r_1.2.2)).bind fun r_5 =>
    toEnd (unblk 1 r_5.1) ((some ((nth 1 ds) : D)).bind fun t15 =>
    (dBin tab .add ty3 t15 (.int .i64 1)).bind fun t16 =>
    (some (t16 : D)).bind fun t6_1 =>
    some (.nrm, [(nth 0 r_5.2.1), t6_1, t7, (nth 1 r_5.2.1), (nth 2 r_5.2.1), t14, (nth 3 r_5.2.1), (nth 4 r_5.2.1), (nth 5 r_5.2.1)], r_5.2.2)) fun x_2 => some (x_2, [(nth 0 r_5.2.1), (nth 1 ds), t7, (nth 1 r_5.2.1), (nth 2 r_5.2.1), t14, (nth 3 r_5.2.1), (nth 4 r_5.2.1), (nth 5 r_5.2.1)], r_5.2.2))
      (some ((.ext 0), [(nth 0 ds), (nth 1 ds), (nth 2 ds), (nth 3 ds), (nth 4 ds), t14, (nth 6 ds), (nth 7 ds), (nth 8 ds)], p12.2))
noncomputable def F48 (t0 : D) (t1 : D) (h : Hp) : Option (D × Hp) :=
  (some (.nils : D)).bind fun t4 =>
  (some (.nils : D)).bind fun t5 =>
  (some (.int .i64 1 : D)).bind fun t6 =>
  ((loopW (F48_L0 t0 t1) [t5, t6, .any, .any, .any, .any, .any, .any, .any] h).bind fun r =>
    some ((unblk 0 r.1), [(nth 0 r.2.1), (nth 1 r.2.1), (nth 2 r.2.1), (nth 3 r.2.1), (nth 4 r.2.1), (nth 5 r.2.1), (nth 6 r.2.1), (nth 7 r.2.1), (nth 8 r.2.1)], r.2.2)).bind fun r_6 =>
  toEnd r_6.1 ((some ((nth 0 r_6.2.1) : D)).bind fun t55 =>
  (some (t55 : D)).bind fun t4_1 =>
  ((some (t4_1 : D)).bind fun d => (some ([] : List D)).bind fun ds => some (d :: ds)).bind fun ds => some (mkRes ds, r_6.2.2)) fun x_3 => exEnd x_3 (((some (t4 : D)).bind fun d => (some ([] : List D)).bind fun ds => some (d :: ds)).bind fun ds => some (mkRes ds, r_6.2.2))
theorem e48 (t0 : D) (t1 : D) (h : Hp) : R fn48 [t0, t1] h = F48 t0 t1 h :=
  (run_fn (X := X) (F := Fs) (fi := i25) (by kernel_rfl) _ _).trans (by kernel_rfl)
noncomputable def F16 (t0 : D) (t1 : D) (t2 : D) (t3 : D) (h : Hp) : Option (D × Hp) :=
  (pBoxF t3).bind fun t7 =>
  (some (.str [] : D)).bind fun t8 =>
  (some (.bool false : D)).bind fun t9 =>
  (some (t0 : D)).bind fun t11 =>
  (dLoad tab h ty31 t7).bind fun t12 =>
  (R fn18 [t11, t12] h).bind fun p13 =>
  (some (p13.1 : D)).bind fun t10 =>
  (some (t10 : D)).bind fun t14 =>
  (dBin tab .lss ty3 t14 (.int .i64 0)).bind fun t15 =>
  (some (t15 : D)).bind fun t16 =>
  (gd t16 false (some (t2 : D))).bind fun t17 =>
  (gdW t16 false p13.2 (R fn49 [t17] p13.2)).bind fun p18 =>
  (gd t16 false (dUn .not p18.1)).bind fun t19 =>
  (dPick t16 (.bool true) t19).bind fun t20 =>
  (some (t20 : D)).bind fun t21 =>
  (gd t21 false (some (t2 : D))).bind fun t22 =>
  (gd t21 false (some (t0 : D))).bind fun t23 =>
  (gd t21 false (some (t10 : D))).bind fun t24 =>
  (gd t21 false (dIndexAddr tab ty38 t23 t24)).bind fun t25 =>
  (gd t21 false (dFieldAddr tab ty53 3 t25)).bind fun t26 =>
  (gd t21 false (dLoad tab p18.2 ty3 t26)).bind fun t27 =>
  (gd t21 false (dBin tab .sub ty3 t22 t27)).bind fun t28 =>
  (gd t21 false (dFieldAddr tab ty31 5 t7)).bind fun t29 =>
  (gd t21 false (dLoad tab p18.2 ty3 t29)).bind fun t30 =>
  (gd t21 false (dBin tab .leq ty3 t28 t30)).bind fun t31 =>
  (dPick t21 (.bool true) t31).bind fun t32 =>
  (some (t32 : D)).bind fun t33 =>
  (gd t33 false (some (t1 : D))).bind fun t34 =>
  (gd t33 false (dLoad tab p18.2 ty31 t7)).bind fun t35 =>
  (gdW t33 false p18.2 (R fn20 [t34, t35] p18.2)).bind fun p36 =>
  (dPick t33 (.bool true) p36.1).bind fun t37 =>
  dIf t37
    ((some (.str [] : D)).bind fun t8_1 =>
    (some (.bool false : D)).bind fun t9_1 =>
    ((some (t8_1 : D)).bind fun d => ((some (t9_1 : D)).bind fun d => (some ([] : List D)).bind fun ds => some (d :: ds)).bind fun ds => some (d :: ds)).bind fun ds => some (mkRes ds, p36.2))
    ((some (t0 : D)).bind fun t38 =>
  (some (t10 : D)).bind fun t39 =>
  (dIndexAddr tab ty38 t38 t39).bind fun t40 =>
  (dFieldAddr tab ty53 0 t40).bind fun t41 =>
  (dLoad tab p36.2 ty9 t41).bind fun t42 =>
  (some (t42 : D)).bind fun t8_2 =>
  (some (.bool true : D)).bind fun t9_2 =>
  ((some (t8_2 : D)).bind fun d => ((some (t9_2 : D)).bind fun d => (some ([] : List D)).bind fun ds => some (d :: ds)).bind fun ds => some (d :: ds)).bind fun ds => some (mkRes ds, p36.2))
theorem e16 (t0 : D) (t1 : D) (t2 : D) (t3 : D) (h : Hp) : R fn16 [t0, t1, t2, t3] h = F16 t0 t1 t2 t3 h :=
  (run_fn (X := X) (F := Fs) (fi := i26) (by kernel_rfl) _ _).trans (by kernel_rfl)
noncomputable def F59 (t0 : D) (t1 : D) (t2 : D) (t3 : D) (h : Hp) : Option (D × Hp) :=
  (some (.nils : D)).bind fun t8 =>
  (some (t0 : D)).bind fun t11 =>
  (R fn79 [t11] h).bind fun p12 =>
  (some (p12.1 : D)).bind fun t0_1 =>
  (some (t3 : D)).bind fun t13 =>
  (dBin tab .lss ty3 t13 (.int .i64 1)).bind fun t14 =>
  dIf t14
    ((some (t0_1 : D)).bind fun t15 =>
    (some (t15 : D)).bind fun t8_1 =>
    ((some (t8_1 : D)).bind fun d => (some ([] : List D)).bind fun ds => some (d :: ds)).bind fun ds => scope h p12.2 (mkRes ds))
    ((some (t0_1 : D)).bind fun t17 =>
  (some (t1 : D)).bind fun t18 =>
  (some (t2 : D)).bind fun t19 =>
  (R fn80 [t17, t18, t19] p12.2).bind fun p20 =>
  (some (p20.1 : D)).bind fun t16 =>
  (dExtract 0 t16).bind fun t21 =>
  (dExtract 1 t16).bind fun t22 =>
  (some (t21 : D)).bind fun t9 =>
  (some (t22 : D)).bind fun t10 =>
  (some (t10 : D)).bind fun t23 =>
  (dUn .not t23).bind fun t24 =>
  (dIf t24
    ((some (t0_1 : D)).bind fun t25 =>
    (some (t9 : D)).bind fun t26 =>
    (some (t1 : D)).bind fun t27 =>
    (some (t2 : D)).bind fun t28 =>
    (dBuild tab ty106 [0, 1] [t27, t28]).bind fun t29 =>
    (pLitF tab ty58 1 [0] [t29]).bind fun t30 =>
    (R fn81 [t25, t26, t30] p20.2).bind fun p31 =>
    (some (p31.1 : D)).bind fun t0_2 =>
    some (.nrm, [t0_2], p31.2))
    (some (.nrm, [t0_1], p20.2))).bind fun r =>
  toEnd r.1 ((some ((nth 0 r.2.1) : D)).bind fun t32 =>
  (some (t9 : D)).bind fun t33 =>
  (dIndexAddr tab ty58 t32 t33).bind fun t34 =>
  (dFieldAddr tab ty106 2 t34).bind fun t35 =>
  (dLoad tab r.2.2 ty3 t35).bind fun t36 =>
  (some (t3 : D)).bind fun t37 =>
  (dBin tab .add ty3 t36 t37).bind fun t38 =>
  (dIndexAddr tab ty58 t32 t33).bind fun t39 =>
  (dFieldAddr tab ty106 2 t39).bind fun t40 =>
  ((dStore tab r.2.2 ty3 t40 t38).bind fun h' => some ((.und : D), h')).bind fun p909 =>
  (some ((nth 0 r.2.1) : D)).bind fun t41 =>
  (some (t41 : D)).bind fun t8_2 =>
  ((some (t8_2 : D)).bind fun d => (some ([] : List D)).bind fun ds => some (d :: ds)).bind fun ds => scope h p909.2 (mkRes ds)) fun x => exEnd x (((some (t8 : D)).bind fun d => (some ([] : List D)).bind fun ds => some (d :: ds)).bind fun ds => scope h r.2.2 (mkRes ds)))
theorem e59 (t0 : D) (t1 : D) (t2 : D) (t3 : D) (h : Hp) : R fn59 [t0, t1, t2, t3] h = F59 t0 t1 t2 t3 h :=
  (run_fn (X := X) (F := Fs) (fi := i27) (by kernel_rfl) _ _).trans (by kernel_rfl)
noncomputable def F17 (t0 : D) (t1 : D) (t2 : D) (t3 : D) (h : Hp) : Option (D × Hp) :=
  (pBoxF t3).bind fun t7 =>
  (some (.str [] : D)).bind fun t8 =>
  (some (.bool false : D)).bind fun t9 =>
  (some (t0 : D)).bind fun t11 =>
  (dLoad tab h ty31 t7).bind fun t12 =>
  (R fn19 [t11, t12] h).bind fun p13 =>
  (some (p13.1 : D)).bind fun t10 =>
  (some (t2 : D)).bind fun t14 =>
  (dBin tab .lss ty3 t14 (.int .i64 0)).bind fun t15 =>
  (some (t15 : D)).bind fun t16 =>
  (gd t16 false (some (t2 : D))).bind fun t17 =>
  (gd t16 false (dBin tab .gtr ty3 t17 (.int .i64 253402300799999))).bind fun t18 =>
  (dPick t16 (.bool true) t18).bind fun t19 =>
  (some (t19 : D)).bind fun t20 =>
  (gd t20 false (some (t10 : D))).bind fun t21 =>
  (gd t20 false (dBin tab .lss ty3 t21 (.int .i64 0))).bind fun t22 =>
  (dPick t20 (.bool true) t22).bind fun t23 =>
  (some (t23 : D)).bind fun t24 =>
  (gd t24 false (some (t1 : D))).bind fun t25 =>
  (gd t24 false (dLoad tab p13.2 ty31 t7)).bind fun t26 =>
  (gdW t24 false p13.2 (R fn21 [t25, t26] p13.2)).bind fun p27 =>
  (dPick t24 (.bool true) p27.1).bind fun t28 =>
  (some (t28 : D)).bind fun t29 =>
  (gd t29 false (some (t2 : D))).bind fun t30 =>
  (gd t29 false (some (t0 : D))).bind fun t31 =>
  (gd t29 false (some (t10 : D))).bind fun t32 =>
  (gd t29 false (dIndexAddr tab ty38 t31 t32)).bind fun t33 =>
  (gd t29 false (dFieldAddr tab ty53 3 t33)).bind fun t34 =>
  (gd t29 false (dLoad tab p27.2 ty3 t34)).bind fun t35 =>
  (gd t29 false (dBin tab .sub ty3 t30 t35)).bind fun t36 =>
  (gd t29 false (dFieldAddr tab ty31 5 t7)).bind fun t37 =>
  (gd t29 false (dLoad tab p27.2 ty3 t37)).bind fun t38 =>
  (gd t29 false (dBin tab .leq ty3 t36 t38)).bind fun t39 =>
  (dPick t29 (.bool true) t39).bind fun t40 =>
  dIf t40
    ((some (.str [] : D)).bind fun t8_1 =>
    (some (.bool false : D)).bind fun t9_1 =>
    ((some (t8_1 : D)).bind fun d => ((some (t9_1 : D)).bind fun d => (some ([] : List D)).bind fun ds => some (d :: ds)).bind fun ds => some (d :: ds)).bind fun ds => some (mkRes ds, p27.2))
    ((some (t0 : D)).bind fun t41 =>
  (some (t10 : D)).bind fun t42 =>
  (dIndexAddr tab ty38 t41 t42).bind fun t43 =>
  (dFieldAddr tab ty53 0 t43).bind fun t44 =>
  (dLoad tab p27.2 ty9 t44).bind fun t45 =>
  (some (t45 : D)).bind fun t8_2 =>
  (some (.bool true : D)).bind fun t9_2 =>
  ((some (t8_2 : D)).bind fun d => ((some (t9_2 : D)).bind fun d => (some ([] : List D)).bind fun ds => some (d :: ds)).bind fun ds => some (d :: ds)).bind fun ds => some (mkRes ds, p27.2))
theorem e17 (t0 : D) (t1 : D) (t2 : D) (t3 : D) (h : Hp) : R fn17 [t0, t1, t2, t3] h = F17 t0 t1 t2 t3 h :=
  (run_fn (X := X) (F := Fs) (fi := i28) (by kernel_rfl) _ _).trans (by kernel_rfl)
/-- a loop: slots 9 44 -/
noncomputable def F60_L0 (t0 : D) (t1 : D) (t2 : D) (ds : List D) (h_1 : Hp) : Option Out :=
    (some ((nth 0 ds) : D)).bind fun t14 =>
    (some (t0 : D)).bind fun t15 =>
    (dLenT tab ty58 t15).bind fun t16 =>
    (dBin tab .lss ty3 t14 t16).bind fun t17 =>
    (some (t17 : D)).bind fun t18 =>
    (gd t18 true (some (t0 : D))).bind fun t19 =>
    (gd t18 true (some ((nth 0 ds) : D))).bind fun t20 =>
    (gd t18 true (dIndexAddr tab ty58 t19 t20)).bind fun t21 =>
    (gd t18 true (dFieldAddr tab ty106 0 t21)).bind fun t22 =>
    (gd t18 true (dLoad tab h_1 ty3 t22)).bind fun t23 =>
    (gd t18 true (some (t1 : D))).bind fun t24 =>
    (gd t18 true (dBin tab .lss ty3 t23 t24)).bind fun t25 =>
    (gd t18 true (some (t25 : D))).bind fun t26 =>
    (gd t26 false (some (t0 : D))).bind fun t27 =>
    (gd t26 false (some ((nth 0 ds) : D))).bind fun t28 =>
    (gd t26 false (dIndexAddr tab ty58 t27 t28)).bind fun t29 =>
    (gd t26 false (dFieldAddr tab ty106 0 t29)).bind fun t30 =>
    (gd t26 false (dLoad tab h_1 ty3 t30)).bind fun t31 =>
    (gd t26 false (some (t1 : D))).bind fun t32 =>
    (gd t26 false (dBin tab .eql ty3 t31 t32)).bind fun t33 =>
    (gd t26 false (some (t33 : D))).bind fun t34 =>
    (gd t34 true (some (t0 : D))).bind fun t35 =>
    (gd t34 true (some ((nth 0 ds) : D))).bind fun t36 =>
    (gd t34 true (dIndexAddr tab ty58 t35 t36)).bind fun t37 =>
    (gd t34 true (dFieldAddr tab ty106 1 t37)).bind fun t38 =>
    (gd t34 true (dLoad tab h_1 ty9 t38)).bind fun t39 =>
    (gd t34 true (some (t2 : D))).bind fun t40 =>
    (gd t34 true (dBin tab .lss ty9 t39 t40)).bind fun t41 =>
    (gd t26 false (dPick t34 t41 (.bool false))).bind fun t42 =>
    (gd t18 true (dPick t26 (.bool true) t42)).bind fun t43 =>
    (dPick t18 t43 (.bool false)).bind fun t44 =>
    dIf t44
      ((some ((nth 0 ds) : D)).bind fun t45 =>
    (dBin tab .add ty3 t45 (.int .i64 1)).bind fun t46 =>
    (some (t46 : D)).bind fun t9_1 =>
    some (.nrm, [t9_1, t44], h_1))
      (some ((.ext 0), [(nth 0 ds), t44], h_1))
noncomputable def F60 (t0 : D) (t1 : D) (t2 : D) (t3 : D) (h : Hp) : Option (D × Hp) :=
  (some (.nils : D)).bind fun t8 =>
  (some (t3 : D)).bind fun t11 =>
  (dBin tab .leq ty3 t11 (.int .i64 0)).bind fun t12 =>
  dIf t12
    ((some (t0 : D)).bind fun t13 =>
    (some (t13 : D)).bind fun t8_1 =>
    ((some (t8_1 : D)).bind fun d => (some ([] : List D)).bind fun ds => some (d :: ds)).bind fun ds => scope h h (mkRes ds))
    ((some (.int .i64 0 : D)).bind fun t9 =>
  ((loopW (F60_L0 t0 t1 t2) [t9, .any] h).bind fun r =>
    some ((unblk 0 r.1), [(nth 0 r.2.1), (nth 1 r.2.1)], r.2.2)).bind fun r_1 =>
  toEnd r_1.1 ((some (t0 : D)).bind fun t47 =>
  (dAppend tab r_1.2.2 ty58 ty58 (.nils) t47).bind fun p48 =>
  (some (p48.1 : D)).bind fun t10 =>
  (some ((nth 0 r_1.2.1) : D)).bind fun t49 =>
  (some (t0 : D)).bind fun t50 =>
  (dLenT tab ty58 t50).bind fun t51 =>
  (dBin tab .lss ty3 t49 t51).bind fun t52 =>
  (some (t52 : D)).bind fun t53 =>
  (gd t53 true (some (t0 : D))).bind fun t54 =>
  (gd t53 true (some ((nth 0 r_1.2.1) : D))).bind fun t55 =>
  (gd t53 true (dIndexAddr tab ty58 t54 t55)).bind fun t56 =>
  (gd t53 true (dFieldAddr tab ty106 0 t56)).bind fun t57 =>
  (gd t53 true (dLoad tab p48.2 ty3 t57)).bind fun t58 =>
  (gd t53 true (some (t1 : D))).bind fun t59 =>
  (gd t53 true (dBin tab .eql ty3 t58 t59)).bind fun t60 =>
  (dPick t53 t60 (.bool false)).bind fun t61 =>
  (some (t61 : D)).bind fun t62 =>
  (gd t62 true (some (t0 : D))).bind fun t63 =>
  (gd t62 true (some ((nth 0 r_1.2.1) : D))).bind fun t64 =>
  (gd t62 true (dIndexAddr tab ty58 t63 t64)).bind fun t65 =>
  (gd t62 true (dFieldAddr tab ty106 1 t65)).bind fun t66 =>
  (gd t62 true (dLoad tab p48.2 ty9 t66)).bind fun t67 =>
  (gd t62 true (some (t2 : D))).bind fun t68 =>
  (gd t62 true (dBin tab .eql ty9 t67 t68)).bind fun t69 =>
  (dPick t62 t69 (.bool false)).bind fun t70 =>
  dIf t70
    ((some (t10 : D)).bind fun t71 =>
    (some ((nth 0 r_1.2.1) : D)).bind fun t72 =>
    (dIndexAddr tab ty58 t71 t72).bind fun t73 =>
    (dFieldAddr tab ty106 2 t73).bind fun t74 =>
    (dLoad tab p48.2 ty3 t74).bind fun t75 =>
    (some (t3 : D)).bind fun t76 =>
    (dBin tab .add ty3 t75 t76).bind fun t77 =>
    (dIndexAddr tab ty58 t71 t72).bind fun t78 =>
    (dFieldAddr tab ty106 2 t78).bind fun t79 =>
    ((dStore tab p48.2 ty3 t79 t77).bind fun h' => some ((.und : D), h')).bind fun p909 =>
    (some (t10 : D)).bind fun t80 =>
    (some (t80 : D)).bind fun t8_2 =>
    ((some (t8_2 : D)).bind fun d => (some ([] : List D)).bind fun ds => some (d :: ds)).bind fun ds => scope h p909.2 (mkRes ds))
    ((some (t10 : D)).bind fun t81 =>
  (some ((nth 0 r_1.2.1) : D)).bind fun t82 =>
  (some ((nth 0 r_1.2.1) : D)).bind fun t83 =>
  (dCut tab p48.2 ty58 false true [t81, t82, t83]).bind fun p84 =>
  (some (t1 : D)).bind fun t85 =>
  (some (t2 : D)).bind fun t86 =>
  (some (t3 : D)).bind fun t87 =>
  (dBuild tab ty106 [0, 1, 2] [t85, t86, t87]).bind fun t88 =>
  (pLitF tab ty58 1 [0] [t88]).bind fun t89 =>
  (dAppend tab p84.2 ty58 ty58 p84.1 t89).bind fun p90 =>
  (some (p90.1 : D)).bind fun t10_1 =>
  (some (t10_1 : D)).bind fun t91 =>
  (some (t0 : D)).bind fun t92 =>
  (some ((nth 0 r_1.2.1) : D)).bind fun t93 =>
  (dSliceAt tab ty58 true false false [t92, t93]).bind fun t94 =>
  (dAppend tab p90.2 ty58 ty58 t91 t94).bind fun p95 =>
  (some (p95.1 : D)).bind fun t8_3 =>
  ((some (t8_3 : D)).bind fun d => (some ([] : List D)).bind fun ds => some (d :: ds)).bind fun ds => scope h p95.2 (mkRes ds))) fun x => exEnd x (((some (t8 : D)).bind fun d => (some ([] : List D)).bind fun ds => some (d :: ds)).bind fun ds => scope h r_1.2.2 (mkRes ds)))
theorem e60 (t0 : D) (t1 : D) (t2 : D) (t3 : D) (h : Hp) : R fn60 [t0, t1, t2, t3] h = F60 t0 t1 t2 t3 h :=
  (run_fn (X := X) (F := Fs) (fi := i29) (by kernel_rfl) _ _).trans (by kernel_rfl)
noncomputable def F61 (t0 : D) (t1 : D) (h : Hp) : Option (D × Hp) :=
  (pBoxF t0).bind fun t2 =>
  (pBoxF t1).bind fun t3 =>
  (some (.bool false : D)).bind fun t4 =>
  (dLoad tab h ty31 t2).bind fun t5 =>
  (dBuild tab ty74 [1] [t5]).bind fun t6 =>
  (dLoad tab h ty31 t3).bind fun t7 =>
  (dBuild tab ty74 [1] [t7]).bind fun t8 =>
  (R fn82 [t6, t8] h).bind fun p9 =>
  (some (p9.1 : D)).bind fun t4_1 =>
  ((some (t4_1 : D)).bind fun d => (some ([] : List D)).bind fun ds => some (d :: ds)).bind fun ds => some (mkRes ds, p9.2)
theorem e61 (t0 : D) (t1 : D) (h : Hp) : R fn61 [t0, t1] h = F61 t0 t1 h :=
  (run_fn (X := X) (F := Fs) (fi := i30) (by kernel_rfl) _ _).trans (by kernel_rfl)
noncomputable def F57 (t0 : D) (h : Hp) : Option (D × Hp) :=
  (some (.bool false : D)).bind fun t2 =>
  (some (t0 : D)).bind fun t3 =>
  (dNilCheck t3).bind fun t4 =>
  (dFieldAddr tab ty101 1 t4).bind fun t5 =>
  (dLoad tab h ty3 t5).bind fun t6 =>
  (some (t0 : D)).bind fun t7 =>
  (dNilCheck t7).bind fun t8 =>
  (dFieldAddr tab ty101 0 t8).bind fun t9 =>
  (dLoad tab h ty22 t9).bind fun t10 =>
  (dLenT tab ty22 t10).bind fun t11 =>
  (dBin tab .lss ty3 t6 t11).bind fun t12 =>
  (some (t12 : D)).bind fun t2_1 =>
  ((some (t2_1 : D)).bind fun d => (some ([] : List D)).bind fun ds => some (d :: ds)).bind fun ds => some (mkRes ds, h)
theorem e57 (t0 : D) (h : Hp) : R fn57 [t0] h = F57 t0 h :=
  (run_fn (X := X) (F := Fs) (fi := i31) (by kernel_rfl) _ _).trans (by kernel_rfl)
/-- a loop: slots 4 5 8 9 16 -/
noncomputable def F50_L0 (t0 : D) (t1 : D) (t7 : D) (ds : List D) (h_1 : Hp) : Option Out :=
    (dBin tab .lss ty3 (nth 2 ds) t7).bind fun t9 =>
    dIf t9
      ((some ((nth 2 ds) : D)).bind fun t10 =>
    (some (t10 : D)).bind fun t5 =>
    (some (t1 : D)).bind fun t11 =>
    (some (t0 : D)).bind fun t12 =>
    (some (t5 : D)).bind fun t13 =>
    (dIndexAddr tab ty38 t12 t13).bind fun t14 =>
    (dLoad tab h_1 ty53 t14).bind fun t15 =>
    (callV R t11 [t15] h_1).bind fun p16 =>
    dIf p16.1
      ((some (t5 : D)).bind fun t17 =>
      (some (t17 : D)).bind fun t4_1 =>
      some (.ret, [t4_1, t5, (nth 2 ds), t9, p16.1], p16.2))
      ((dBin tab .add ty3 (nth 2 ds) (.int .i64 1)).bind fun t18 =>
    (some (t18 : D)).bind fun t8_1 =>
    some (.nrm, [(nth 0 ds), t5, t8_1, t9, p16.1], p16.2)))
      (some ((.ext 0), [(nth 0 ds), (nth 1 ds), (nth 2 ds), t9, (nth 4 ds)], h_1))
noncomputable def F50 (t0 : D) (t1 : D) (h : Hp) : Option (D × Hp) :=
  (some (.int .i64 0 : D)).bind fun t4 =>
  (some (t0 : D)).bind fun t6 =>
  (dLenT tab ty38 t6).bind fun t7 =>
  (some (.int .i64 0 : D)).bind fun t8 =>
  ((loopW (F50_L0 t0 t1 t7) [t4, .any, t8, .any, .any] h).bind fun r =>
    some ((unblk 0 r.1), [(nth 0 r.2.1), (nth 1 r.2.1), (nth 2 r.2.1), (nth 3 r.2.1), (nth 4 r.2.1)], r.2.2)).bind fun r_1 =>
  toEnd r_1.1 ((some (.int .i64 (-1) : D)).bind fun t4_2 =>
  ((some (t4_2 : D)).bind fun d => (some ([] : List D)).bind fun ds => some (d :: ds)).bind fun ds => some (mkRes ds, r_1.2.2)) fun x => exEnd x (((some ((nth 0 r_1.2.1) : D)).bind fun d => (some ([] : List D)).bind fun ds => some (d :: ds)).bind fun ds => some (mkRes ds, r_1.2.2))
theorem e50 (t0 : D) (t1 : D) (h : Hp) : R fn50 [t0, t1] h = F50 t0 t1 h :=
  (run_fn (X := X) (F := Fs) (fi := i32) (by kernel_rfl) _ _).trans (by kernel_rfl)
noncomputable def F62 (t0 : D) (h : Hp) : Option (D × Hp) :=
  (pBoxF t0).bind fun t1 =>
  (some (.bool false : D)).bind fun t2 =>
  (dFieldAddr tab ty53 1 t1).bind fun t3 =>
  (dLoad tab h ty9 t3).bind fun t4 =>
  (dBin tab .eql ty9 t4 (.str [])).bind fun t5 =>
  (some (t5 : D)).bind fun t2_1 =>
  ((some (t2_1 : D)).bind fun d => (some ([] : List D)).bind fun ds => some (d :: ds)).bind fun ds => some (mkRes ds, h)
theorem e62 (t0 : D) (h : Hp) : R fn62 [t0] h = F62 t0 h :=
  (run_fn (X := X) (F := Fs) (fi := i33) (by kernel_rfl) _ _).trans (by kernel_rfl)
noncomputable def F49 (t0 : D) (h : Hp) : Option (D × Hp) :=
  (some (.bool false : D)).bind fun t2 =>
  (some (t0 : D)).bind fun t3 =>
  (dBin tab .geq ty3 t3 (.int .i64 0)).bind fun t4 =>
  (some (t4 : D)).bind fun t5 =>
  (gd t5 true (some (t0 : D))).bind fun t6 =>
  (gd t5 true (dBin tab .leq ty3 t6 (.int .i64 253402300799999))).bind fun t7 =>
  (dPick t5 t7 (.bool false)).bind fun t8 =>
  (some (t8 : D)).bind fun t2_1 =>
  ((some (t2_1 : D)).bind fun d => (some ([] : List D)).bind fun ds => some (d :: ds)).bind fun ds => some (mkRes ds, h)
theorem e49 (t0 : D) (h : Hp) : R fn49 [t0] h = F49 t0 h :=
  (run_fn (X := X) (F := Fs) (fi := i34) (by kernel_rfl) _ _).trans (by kernel_rfl)
noncomputable def F63 (t0 : D) (t1 : D) (t2 : D) (h : Hp) : Option (D × Hp) :=
  (pBoxF t0).bind fun t3 =>
  (some (.bool false : D)).bind fun t4 =>
  (dLoad tab h ty3 t1).bind fun t5 =>
  (dFieldAddr tab ty53 3 t3).bind fun t6 =>
  (dLoad tab h ty3 t6).bind fun t7 =>
  (dBin tab .sub ty3 t5 t7).bind fun t8 =>
  (dFieldAddr tab ty69 5 t2).bind fun t9 =>
  (dLoad tab h ty3 t9).bind fun t10 =>
  (dBin tab .leq ty3 t8 t10).bind fun t11 =>
  (some (t11 : D)).bind fun t4_1 =>
  ((some (t4_1 : D)).bind fun d => (some ([] : List D)).bind fun ds => some (d :: ds)).bind fun ds => some (mkRes ds, h)
theorem e63 (t0 : D) (t1 : D) (t2 : D) (h : Hp) : R fn63 [t0, t1, t2] h = F63 t0 t1 t2 h :=
  (run_fn (X := X) (F := Fs) (fi := i35) (by kernel_rfl) _ _).trans (by kernel_rfl)
noncomputable def F64 (t0 : D) (t1 : D) (h : Hp) : Option (D × Hp) :=
  (pBoxF t0).bind fun t2 =>
  (some (.bool false : D)).bind fun t3 =>
  (dFieldAddr tab ty56 3 t2).bind fun t4 =>
  (dLoad tab h ty3 t4).bind fun t5 =>
  (dFieldAddr tab ty69 5 t1).bind fun t6 =>
  (dLoad tab h ty3 t6).bind fun t7 =>
  (dBin tab .leq ty3 t5 t7).bind fun t8 =>
  (some (t8 : D)).bind fun t9 =>
  (gd t9 true (dFieldAddr tab ty56 4 t2)).bind fun t10 =>
  (gd t9 true (dLoad tab h ty3 t10)).bind fun t11 =>
  (gd t9 true (dFieldAddr tab ty69 4 t1)).bind fun t12 =>
  (gd t9 true (dLoad tab h ty3 t12)).bind fun t13 =>
  (gd t9 true (dBin tab .gtr ty3 t11 t13)).bind fun t14 =>
  (dPick t9 t14 (.bool false)).bind fun t15 =>
  (some (t15 : D)).bind fun t3_1 =>
  ((some (t3_1 : D)).bind fun d => (some ([] : List D)).bind fun ds => some (d :: ds)).bind fun ds => some (mkRes ds, h)
theorem e64 (t0 : D) (t1 : D) (h : Hp) : R fn64 [t0, t1] h = F64 t0 t1 h :=
  (run_fn (X := X) (F := Fs) (fi := i36) (by kernel_rfl) _ _).trans (by kernel_rfl)
noncomputable def F65 (t0 : D) (t1 : D) (h : Hp) : Option (D × Hp) :=
  (some (.bool false : D)).bind fun t4 =>
  (some (t0 : D)).bind fun t5 =>
  (some (t1 : D)).bind fun t6 =>
  (R fn50 [t5, t6] h).bind fun p7 =>
  (dBin tab .geq ty3 p7.1 (.int .i64 0)).bind fun t8 =>
  (some (t8 : D)).bind fun t4_1 =>
  ((some (t4_1 : D)).bind fun d => (some ([] : List D)).bind fun ds => some (d :: ds)).bind fun ds => some (mkRes ds, p7.2)
theorem e65 (t0 : D) (t1 : D) (h : Hp) : R fn65 [t0, t1] h = F65 t0 t1 h :=
  (run_fn (X := X) (F := Fs) (fi := i37) (by kernel_rfl) _ _).trans (by kernel_rfl)
noncomputable def F54 (t0 : D) (t1 : D) (h : Hp) : Option (D × Hp) :=
  (some (.bool false : D)).bind fun t4 =>
  (some (t0 : D)).bind fun t5 =>
  (some (t1 : D)).bind fun t6 =>
  (R fn77 [t5, t6] h).bind fun p7 =>
  (dBin tab .geq ty3 p7.1 (.int .i64 0)).bind fun t8 =>
  (some (t8 : D)).bind fun t4_1 =>
  ((some (t4_1 : D)).bind fun d => (some ([] : List D)).bind fun ds => some (d :: ds)).bind fun ds => some (mkRes ds, p7.2)
theorem e54 (t0 : D) (t1 : D) (h : Hp) : R fn54 [t0, t1] h = F54 t0 t1 h :=
  (run_fn (X := X) (F := Fs) (fi := i38) (by kernel_rfl) _ _).trans (by kernel_rfl)
noncomputable def F51 (t0 : D) (t1 : D) (h : Hp) : Option (D × Hp) :=
  (pBoxF t0).bind fun t2 =>
  (some (.bool false : D)).bind fun t3 =>
  (dFieldAddr tab ty53 1 t2).bind fun t4 =>
  (dLoad tab h ty9 t4).bind fun t5 =>
  (dFieldAddr tab ty53 2 t2).bind fun t6 =>
  (dLoad tab h ty9 t6).bind fun t7 =>
  (R fn52 [t5, t7] h).bind fun p8 =>
  (dLoad tab p8.2 ty31 t1).bind fun t9 =>
  (callV R p8.1 [t9] p8.2).bind fun p10 =>
  chk (dLoad tab h ty31 t1 = some t9)
  ((some (p10.1 : D)).bind fun t3_1 =>
  ((some (t3_1 : D)).bind fun d => (some ([] : List D)).bind fun ds => some (d :: ds)).bind fun ds => some (mkRes ds, p10.2))
theorem e51 (t0 : D) (t1 : D) (h : Hp) : R fn51 [t0, t1] h = F51 t0 t1 h :=
  (run_fn (X := X) (F := Fs) (fi := i39) (by kernel_rfl) _ _).trans (by kernel_rfl)
noncomputable def F52 (t0 : D) (t1 : D) (h : Hp) : Option (D × Hp) :=
  (pBoxF t0).bind fun t2 =>
  (pBoxF t1).bind fun t3 =>
  (some (.nilf : D)).bind fun t4 =>
  (dLoad tab h ty9 t2).bind fun t5 =>
  (dBin tab .eql ty9 t5 (.str [])).bind fun t6 =>
  dIf t6
    ((some (.fn (.func fn73) [] [] : D)).bind fun t4_1 =>
    ((some (t4_1 : D)).bind fun d => (some ([] : List D)).bind fun ds => some (d :: ds)).bind fun ds => some (mkRes ds, h))
    ((some (.fn (.func fn74) [] [t2, t3] : D)).bind fun t7 =>
  (some (t7 : D)).bind fun t4_2 =>
  ((some (t4_2 : D)).bind fun d => (some ([] : List D)).bind fun ds => some (d :: ds)).bind fun ds => some (mkRes ds, h))
theorem e52 (t0 : D) (t1 : D) (h : Hp) : R fn52 [t0, t1] h = F52 t0 t1 h :=
  (run_fn (X := X) (F := Fs) (fi := i40) (by kernel_rfl) _ _).trans (by kernel_rfl)
/-- a loop: slots 9 10 11 12 24 -/
noncomputable def F71_L1 (t0 : D) (t1 : D) (ds : List D) (ds_1 : List D) (h_2 : Hp) : Option Out :=
    (some ((nth 2 ds_1) : D)).bind fun t23 =>
    (dBin tab .gtr ty3 t23 (.int .i64 0)).bind fun t24 =>
    dIf t24
      ((some (t0 : D)).bind fun t27 =>
    (some (t1 : D)).bind fun t28 =>
    (some ((nth 1 ds) : D)).bind fun t29 =>
    (dBin tab .add ty3 (.int .i64 5) t29).bind fun t30 =>
    (some ((nth 1 ds_1) : D)).bind fun t31 =>
    (R fn84 [t27, t28, t30, t31] h_2).bind fun p32 =>
    (boxN 11 p32.1).bind fun t12 =>
    (some ((nth 0 ds_1) : D)).bind fun t33 =>
    (dLoad tab p32.2 ty74 t12).bind fun t34 =>
    (pLitF tab ty113 1 [0] [t34]).bind fun t35 =>
    (dAppend tab p32.2 ty113 ty113 t33 t35).bind fun p36 =>
    (some (p36.1 : D)).bind fun t9_1 =>
    (dFieldAddr tab ty74 1 t12).bind fun t37 =>
    (dFieldAddr tab ty31 3 t37).bind fun t38 =>
    (dLoad tab p36.2 ty3 t38).bind fun t39 =>
    (some (t39 : D)).bind fun t10_1 =>
    (some ((nth 2 ds_1) : D)).bind fun t25 =>
    (dBin tab .sub ty3 t25 (.int .i64 1)).bind fun t26 =>
    (some (t26 : D)).bind fun t11_1 =>
    some (.nrm, [t9_1, t10_1, t11_1, t12, t24], p36.2))
      (some ((.ext 2), [(nth 0 ds_1), (nth 1 ds_1), (nth 2 ds_1), (nth 3 ds_1), t24], h_2))
/-- a loop: slots 7 8 9 10 11 12 16 24 -/
noncomputable def F71_L0 (t0 : D) (t1 : D) (t2 : D) (ds : List D) (h_1 : Hp) : Option Out :=
    (some ((nth 1 ds) : D)).bind fun t13 =>
    (some (t0 : D)).bind fun t14 =>
    (R fn24 [t14, .int .i64 3] h_1).bind fun p15 =>
    (dBin tab .leq ty3 t13 p15.1).bind fun t16 =>
    dIf t16
      ((some (.nils : D)).bind fun t9 =>
    (some (.int .i64 0 : D)).bind fun t10 =>
    (some (t0 : D)).bind fun t19 =>
    (some (t2 : D)).bind fun t20 =>
    (dBin tab .add ty3 t20 (.int .i64 1)).bind fun t21 =>
    (R fn24 [t19, t21] p15.2).bind fun p22 =>
    (some (p22.1 : D)).bind fun t11 =>
    ((loopW (F71_L1 t0 t1 ds) [t9, t10, t11, (nth 5 ds), (nth 7 ds)] p22.2).bind fun r_1 =>
      some ((unblk 2 r_1.1), [(nth 0 r_1.2.1), (nth 1 r_1.2.1), (nth 2 r_1.2.1), (nth 3 r_1.2.1), (nth 4 r_1.2.1)], r_1.2.2)).bind fun r_2 =>
    toEnd r_2.1 ((some ((nth 0 ds) : D)).bind fun t40 =>
    (some ((nth 0 r_2.2.1) : D)).bind fun t41 =>
    (pLitF tab ty111 1 [0] [t41]).bind fun t42 =>
    (dAppend tab r_2.2.2 ty111 ty111 t40 t42).bind fun p43 =>
    (some (p43.1 : D)).bind fun t7_1 =>
    (some ((nth 1 ds) : D)).bind fun t17 =>
    (dBin tab .add ty3 t17 (.int .i64 1)).bind fun t18 =>
    (some (t18 : D)).bind fun t8_1 =>
    some (.nrm, [t7_1, t8_1, (nth 0 r_2.2.1), (nth 1 r_2.2.1), (nth 2 r_2.2.1), (nth 3 r_2.2.1), t16, (nth 4 r_2.2.1)], p43.2)) fun x => toEnd (unblk 1 x) ((some ((nth 1 ds) : D)).bind fun t17_1 =>
    (dBin tab .add ty3 t17_1 (.int .i64 1)).bind fun t18_1 =>
    (some (t18_1 : D)).bind fun t8_2 =>
    some (.nrm, [(nth 0 ds), t8_2, (nth 0 r_2.2.1), (nth 1 r_2.2.1), (nth 2 r_2.2.1), (nth 3 r_2.2.1), t16, (nth 4 r_2.2.1)], r_2.2.2)) fun x_1 => some (x_1, [(nth 0 ds), (nth 1 ds), (nth 0 r_2.2.1), (nth 1 r_2.2.1), (nth 2 r_2.2.1), (nth 3 r_2.2.1), t16, (nth 4 r_2.2.1)], r_2.2.2))
      (some ((.ext 0), [(nth 0 ds), (nth 1 ds), (nth 2 ds), (nth 3 ds), (nth 4 ds), (nth 5 ds), t16, (nth 7 ds)], p15.2))
noncomputable def F71 (t0 : D) (t1 : D) (t2 : D) (h : Hp) : Option (D × Hp) :=
  (some (.nils : D)).bind fun t6 =>
  (some (.nils : D)).bind fun t7 =>
  (some (.int .i64 0 : D)).bind fun t8 =>
  ((loopW (F71_L0 t0 t1 t2) [t7, t8, .any, .any, .any, .any, .any, .any] h).bind fun r =>
    some ((unblk 0 r.1), [(nth 0 r.2.1), (nth 1 r.2.1), (nth 2 r.2.1), (nth 3 r.2.1), (nth 4 r.2.1), (nth 5 r.2.1), (nth 6 r.2.1), (nth 7 r.2.1)], r.2.2)).bind fun r_3 =>
  toEnd r_3.1 ((some ((nth 0 r_3.2.1) : D)).bind fun t44 =>
  (some (t44 : D)).bind fun t6_1 =>
  ((some (t6_1 : D)).bind fun d => (some ([] : List D)).bind fun ds => some (d :: ds)).bind fun ds => scope h r_3.2.2 (mkRes ds)) fun x_2 => exEnd x_2 (((some (t6 : D)).bind fun d => (some ([] : List D)).bind fun ds => some (d :: ds)).bind fun ds => scope h r_3.2.2 (mkRes ds))
theorem e71 (t0 : D) (t1 : D) (t2 : D) (h : Hp) : R fn71 [t0, t1, t2] h = F71 t0 t1 t2 h :=
  (run_fn (X := X) (F := Fs) (fi := i41) (by kernel_rfl) _ _).trans (by kernel_rfl)
/-- a loop: slots 5 19 -/
noncomputable def F72_L0 (t0 : D) (t3 : D) (ds : List D) (h_1 : Hp) : Option Out :=
    (some ((nth 0 ds) : D)).bind fun t9 =>
    (dBin tab .gtr ty3 t9 (.int .i64 0)).bind fun t10 =>
    (some (t10 : D)).bind fun t11 =>
    (gd t11 true (dLoad tab h_1 ty31 t3)).bind fun t12 =>
    (gd t11 true (some (t0 : D))).bind fun t13 =>
    (gd t11 true (some ((nth 0 ds) : D))).bind fun t14 =>
    (gd t11 true (dBin tab .sub ty3 t14 (.int .i64 1))).bind fun t15 =>
    (gd t11 true (dIndexAddr tab ty40 t13 t15)).bind fun t16 =>
    (gd t11 true (dLoad tab h_1 ty31 t16)).bind fun t17 =>
    (gdW t11 true h_1 (R fn85 [t12, t17] h_1)).bind fun p18 =>
    (dPick t11 p18.1 (.bool false)).bind fun t19 =>
    dIf t19
      ((some ((nth 0 ds) : D)).bind fun t20 =>
    (dBin tab .sub ty3 t20 (.int .i64 1)).bind fun t21 =>
    (some (t21 : D)).bind fun t5_1 =>
    some (.nrm, [t5_1, t19], p18.2))
      (some ((.ext 0), [(nth 0 ds), t19], p18.2))
noncomputable def F72 (t0 : D) (t1 : D) (h : Hp) : Option (D × Hp) :=
  (pBoxF t1).bind fun t3 =>
  (some (.nils : D)).bind fun t4 =>
  (some (t0 : D)).bind fun t7 =>
  (dLenT tab ty40 t7).bind fun t8 =>
  (some (t8 : D)).bind fun t5 =>
  ((loopW (F72_L0 t0 t3) [t5, .any] h).bind fun r =>
    some ((unblk 0 r.1), [(nth 0 r.2.1), (nth 1 r.2.1)], r.2.2)).bind fun r_1 =>
  toEnd r_1.1 ((some (t0 : D)).bind fun t22 =>
  (some ((nth 0 r_1.2.1) : D)).bind fun t23 =>
  (dSliceAt tab ty40 false true false [t22, t23]).bind fun t24 =>
  (dAppend tab r_1.2.2 ty40 ty40 (.nils) t24).bind fun p25 =>
  (some (p25.1 : D)).bind fun t6 =>
  (some (t6 : D)).bind fun t26 =>
  (dLoad tab p25.2 ty31 t3).bind fun t27 =>
  (pLitF tab ty40 1 [0] [t27]).bind fun t28 =>
  (dAppend tab p25.2 ty40 ty40 t26 t28).bind fun p29 =>
  (some (t0 : D)).bind fun t30 =>
  (some ((nth 0 r_1.2.1) : D)).bind fun t31 =>
  (dSliceAt tab ty40 true false false [t30, t31]).bind fun t32 =>
  (dAppend tab p29.2 ty40 ty40 p29.1 t32).bind fun p33 =>
  (some (p33.1 : D)).bind fun t4_1 =>
  ((some (t4_1 : D)).bind fun d => (some ([] : List D)).bind fun ds => some (d :: ds)).bind fun ds => scope h p33.2 (mkRes ds)) fun x => exEnd x (((some (t4 : D)).bind fun d => (some ([] : List D)).bind fun ds => some (d :: ds)).bind fun ds => scope h r_1.2.2 (mkRes ds))
theorem e72 (t0 : D) (t1 : D) (h : Hp) : R fn72 [t0, t1] h = F72 t0 t1 h :=
  (run_fn (X := X) (F := Fs) (fi := i42) (by kernel_rfl) _ _).trans (by kernel_rfl)
noncomputable def F20 (t0 : D) (t1 : D) (h : Hp) : Option (D × Hp) :=
  (pBoxF t1).bind fun t3 =>
  (some (.bool false : D)).bind fun t4 =>
  (some (t0 : D)).bind fun t5 =>
  (some (.fn (.func fn55) [] [t3] : D)).bind fun t6 =>
  (R fn54 [t5, t6] h).bind fun p7 =>
  (some (p7.1 : D)).bind fun t4_1 =>
  ((some (t4_1 : D)).bind fun d => (some ([] : List D)).bind fun ds => some (d :: ds)).bind fun ds => some (mkRes ds, p7.2)
theorem e20 (t0 : D) (t1 : D) (h : Hp) : R fn20 [t0, t1] h = F20 t0 t1 h :=
  (run_fn (X := X) (F := Fs) (fi := i43) (by kernel_rfl) _ _).trans (by kernel_rfl)
noncomputable def F79 (t0 : D) (h : Hp) : Option (D × Hp) :=
  (some (.nils : D)).bind fun t2 =>
  (some (t0 : D)).bind fun t3 =>
  (dBin tab .eql ty58 t3 (.nils)).bind fun t4 =>
  dIf t4
    ((some (.nils : D)).bind fun t2_1 =>
    ((some (t2_1 : D)).bind fun d => (some ([] : List D)).bind fun ds => some (d :: ds)).bind fun ds => some (mkRes ds, h))
    ((pLitF tab ty58 0 [] []).bind fun t5 =>
  (some (t0 : D)).bind fun t6 =>
  (dAppend tab h ty58 ty58 t5 t6).bind fun p7 =>
  (some (p7.1 : D)).bind fun t2_2 =>
  ((some (t2_2 : D)).bind fun d => (some ([] : List D)).bind fun ds => some (d :: ds)).bind fun ds => some (mkRes ds, p7.2))
theorem e79 (t0 : D) (h : Hp) : R fn79 [t0] h = F79 t0 h :=
  (run_fn (X := X) (F := Fs) (fi := i44) (by kernel_rfl) _ _).trans (by kernel_rfl)
noncomputable def F80 (t0 : D) (t1 : D) (t2 : D) (h : Hp) : Option (D × Hp) :=
  (some (.int .i64 0 : D)).bind fun t6 =>
  (some (.bool false : D)).bind fun t7 =>
  (some (t0 : D)).bind fun t8 =>
  (some (t1 : D)).bind fun t9 =>
  (some (t2 : D)).bind fun t10 =>
  (dBuild tab ty106 [0, 1] [t9, t10]).bind fun t11 =>
  (R fn87 [t8, t11, .fn (.func fn88) [] []] h).bind fun p12 =>
  (dExtract 0 p12.1).bind fun t13 =>
  (dExtract 1 p12.1).bind fun t14 =>
  (some (t13 : D)).bind fun t6_1 =>
  (some (t14 : D)).bind fun t7_1 =>
  ((some (t6_1 : D)).bind fun d => ((some (t7_1 : D)).bind fun d => (some ([] : List D)).bind fun ds => some (d :: ds)).bind fun ds => some (d :: ds)).bind fun ds => some (mkRes ds, p12.2)
theorem e80 (t0 : D) (t1 : D) (t2 : D) (h : Hp) : R fn80 [t0, t1, t2] h = F80 t0 t1 t2 h :=
  (run_fn (X := X) (F := Fs) (fi := i45) (by kernel_rfl) _ _).trans (by kernel_rfl)
/-- a loop: slots 4 5 9 23 -/
noncomputable def F19_L0 (t0 : D) (t3 : D) (ds : List D) (h_1 : Hp) : Option Out :=
    (some ((nth 1 ds) : D)).bind fun t6 =>
    (some (t0 : D)).bind fun t7 =>
    (dLenT tab ty38 t7).bind fun t8 =>
    (dBin tab .lss ty3 t6 t8).bind fun t9 =>
    dIf t9
      ((some (t0 : D)).bind fun t12 =>
    (some ((nth 1 ds) : D)).bind fun t13 =>
    (dIndexAddr tab ty38 t12 t13).bind fun t14 =>
    (dFieldAddr tab ty53 1 t14).bind fun t15 =>
    (dLoad tab h_1 ty9 t15).bind fun t16 =>
    (some (t0 : D)).bind fun t17 =>
    (some ((nth 1 ds) : D)).bind fun t18 =>
    (dIndexAddr tab ty38 t17 t18).bind fun t19 =>
    (dFieldAddr tab ty53 2 t19).bind fun t20 =>
    (dLoad tab h_1 ty9 t20).bind fun t21 =>
    (dLoad tab h_1 ty31 t3).bind fun t22 =>
    (R fn53 [t16, t21, t22] h_1).bind fun p23 =>
    dIf p23.1
      ((some ((nth 1 ds) : D)).bind fun t24 =>
      (some (t24 : D)).bind fun t4_1 =>
      some (.ret, [t4_1, (nth 1 ds), t9, p23.1], p23.2))
      ((some ((nth 1 ds) : D)).bind fun t10 =>
    (dBin tab .add ty3 t10 (.int .i64 1)).bind fun t11 =>
    (some (t11 : D)).bind fun t5_1 =>
    some (.nrm, [(nth 0 ds), t5_1, t9, p23.1], p23.2)))
      (some ((.ext 0), [(nth 0 ds), (nth 1 ds), t9, (nth 3 ds)], h_1))
noncomputable def F19 (t0 : D) (t1 : D) (h : Hp) : Option (D × Hp) :=
  (pBoxF t1).bind fun t3 =>
  (some (.int .i64 0 : D)).bind fun t4 =>
  (some (.int .i64 0 : D)).bind fun t5 =>
  ((loopW (F19_L0 t0 t3) [t4, t5, .any, .any] h).bind fun r =>
    some ((unblk 0 r.1), [(nth 0 r.2.1), (nth 1 r.2.1), (nth 2 r.2.1), (nth 3 r.2.1)], r.2.2)).bind fun r_1 =>
  toEnd r_1.1 ((some (.int .i64 (-1) : D)).bind fun t4_2 =>
  ((some (t4_2 : D)).bind fun d => (some ([] : List D)).bind fun ds => some (d :: ds)).bind fun ds => some (mkRes ds, r_1.2.2)) fun x => exEnd x (((some ((nth 0 r_1.2.1) : D)).bind fun d => (some ([] : List D)).bind fun ds => some (d :: ds)).bind fun ds => some (mkRes ds, r_1.2.2))
theorem e19 (t0 : D) (t1 : D) (h : Hp) : R fn19 [t0, t1] h = F19 t0 t1 h :=
  (run_fn (X := X) (F := Fs) (fi := i47) (by kernel_rfl) _ _).trans (by kernel_rfl)
/-- a loop: slots 4 5 9 43 -/
noncomputable def F21_L0 (t0 : D) (t3 : D) (ds : List D) (h_1 : Hp) : Option Out :=
    (some ((nth 1 ds) : D)).bind fun t6 =>
    (some (t0 : D)).bind fun t7 =>
    (dLenT tab ty39 t7).bind fun t8 =>
    (dBin tab .lss ty3 t6 t8).bind fun t9 =>
    dIf t9
      ((some (t0 : D)).bind fun t12 =>
    (some ((nth 1 ds) : D)).bind fun t13 =>
    (dIndexAddr tab ty39 t12 t13).bind fun t14 =>
    (dFieldAddr tab ty56 1 t14).bind fun t15 =>
    (dLoad tab h_1 ty9 t15).bind fun t16 =>
    (some (t0 : D)).bind fun t17 =>
    (some ((nth 1 ds) : D)).bind fun t18 =>
    (dIndexAddr tab ty39 t17 t18).bind fun t19 =>
    (dFieldAddr tab ty56 2 t19).bind fun t20 =>
    (dLoad tab h_1 ty9 t20).bind fun t21 =>
    (dLoad tab h_1 ty31 t3).bind fun t22 =>
    (R fn53 [t16, t21, t22] h_1).bind fun p23 =>
    (some (p23.1 : D)).bind fun t24 =>
    (gd t24 true (some (t0 : D))).bind fun t25 =>
    (gd t24 true (some ((nth 1 ds) : D))).bind fun t26 =>
    (gd t24 true (dIndexAddr tab ty39 t25 t26)).bind fun t27 =>
    (gd t24 true (dFieldAddr tab ty56 3 t27)).bind fun t28 =>
    (gd t24 true (dLoad tab p23.2 ty3 t28)).bind fun t29 =>
    (gd t24 true (dFieldAddr tab ty31 5 t3)).bind fun t30 =>
    (gd t24 true (dLoad tab p23.2 ty3 t30)).bind fun t31 =>
    (gd t24 true (dBin tab .leq ty3 t29 t31)).bind fun t32 =>
    (dPick t24 t32 (.bool false)).bind fun t33 =>
    (some (t33 : D)).bind fun t34 =>
    (gd t34 true (dFieldAddr tab ty31 5 t3)).bind fun t35 =>
    (gd t34 true (dLoad tab p23.2 ty3 t35)).bind fun t36 =>
    (gd t34 true (some (t0 : D))).bind fun t37 =>
    (gd t34 true (some ((nth 1 ds) : D))).bind fun t38 =>
    (gd t34 true (dIndexAddr tab ty39 t37 t38)).bind fun t39 =>
    (gd t34 true (dFieldAddr tab ty56 4 t39)).bind fun t40 =>
    (gd t34 true (dLoad tab p23.2 ty3 t40)).bind fun t41 =>
    (gd t34 true (dBin tab .lss ty3 t36 t41)).bind fun t42 =>
    (dPick t34 t42 (.bool false)).bind fun t43 =>
    dIf t43
      ((some (.bool true : D)).bind fun t4_1 =>
      some (.ret, [t4_1, (nth 1 ds), t9, t43], p23.2))
      ((some ((nth 1 ds) : D)).bind fun t10 =>
    (dBin tab .add ty3 t10 (.int .i64 1)).bind fun t11 =>
    (some (t11 : D)).bind fun t5_1 =>
    some (.nrm, [(nth 0 ds), t5_1, t9, t43], p23.2)))
      (some ((.ext 0), [(nth 0 ds), (nth 1 ds), t9, (nth 3 ds)], h_1))
noncomputable def F21 (t0 : D) (t1 : D) (h : Hp) : Option (D × Hp) :=
  (pBoxF t1).bind fun t3 =>
  (some (.bool false : D)).bind fun t4 =>
  (some (.int .i64 0 : D)).bind fun t5 =>
  ((loopW (F21_L0 t0 t3) [t4, t5, .any, .any] h).bind fun r =>
    some ((unblk 0 r.1), [(nth 0 r.2.1), (nth 1 r.2.1), (nth 2 r.2.1), (nth 3 r.2.1)], r.2.2)).bind fun r_1 =>
  toEnd r_1.1 ((some (.bool false : D)).bind fun t4_2 =>
  ((some (t4_2 : D)).bind fun d => (some ([] : List D)).bind fun ds => some (d :: ds)).bind fun ds => some (mkRes ds, r_1.2.2)) fun x => exEnd x (((some ((nth 0 r_1.2.1) : D)).bind fun d => (some ([] : List D)).bind fun ds => some (d :: ds)).bind fun ds => some (mkRes ds, r_1.2.2))
theorem e21 (t0 : D) (t1 : D) (h : Hp) : R fn21 [t0, t1] h = F21 t0 t1 h :=
  (run_fn (X := X) (F := Fs) (fi := i48) (by kernel_rfl) _ _).trans (by kernel_rfl)
noncomputable def F82 (t0 : D) (t1 : D) (h : Hp) : Option (D × Hp) :=
  (pBoxF t0).bind fun t2 =>
  (pBoxF t1).bind fun t3 =>
  (some (.bool false : D)).bind fun t4 =>
  (dFieldAddr tab ty74 1 t2).bind fun t7 =>
  (dLoad tab h ty31 t7).bind fun t8 =>
  (dFieldAddr tab ty74 1 t3).bind fun t9 =>
  (dLoad tab h ty31 t9).bind fun t10 =>
  (some ((.ptr h.length 0 0 : D), dNew h ty31 10 [[.int .i64 0, .int .i64 0, .int .i64 0, .int .i64 0, .nils, .int .i64 0, .int .i64 0, .str [], .str [], .nils]])).bind fun p5 =>
  (some (.any : D)).bind fun t6 =>
  ((dStore tab p5.2 ty31 p5.1 t8).bind fun h' => some ((.und : D), h')).bind fun p906 =>
  chk (dLoad tab p5.2 ty31 t7 = some t8)
  (chk (dLoad tab p5.2 ty31 t9 = some t10)
  (chk (dLoad tab p906.2 ty31 t9 = some t10)
  (((dStore tab (dNew p906.2 ty31 10 [[.int .i64 0, .int .i64 0, .int .i64 0, .int .i64 0, .nils, .int .i64 0, .int .i64 0, .str [], .str [], .nils]]) ty31 (.ptr p906.2.length 0 0) t10).bind fun h' => some ((.und : D), h')).bind fun p907 =>
  (dFieldAddr tab ty74 0 t2).bind fun t11 =>
  (dLoad tab p907.2 ty9 t11).bind fun t12 =>
  (dFieldAddr tab ty74 0 t3).bind fun t13 =>
  (dLoad tab p907.2 ty9 t13).bind fun t14 =>
  (dBin tab .eql ty9 t12 t14).bind fun t15 =>
  (some (t15 : D)).bind fun t16 =>
  (gd t16 true (dFieldAddr tab ty31 0 p5.1)).bind fun t17 =>
  (gd t16 true (dLoad tab p907.2 ty3 t17)).bind fun t18 =>
  (gd t16 true (dFieldAddr tab ty31 0 (.ptr p906.2.length 0 0))).bind fun t19 =>
  (gd t16 true (dLoad tab p907.2 ty3 t19)).bind fun t20 =>
  (gd t16 true (dBin tab .eql ty3 t18 t20)).bind fun t21 =>
  (dPick t16 t21 (.bool false)).bind fun t22 =>
  (some (t22 : D)).bind fun t23 =>
  (gd t23 true (dFieldAddr tab ty31 1 p5.1)).bind fun t24 =>
  (gd t23 true (dLoad tab p907.2 ty3 t24)).bind fun t25 =>
  (gd t23 true (dFieldAddr tab ty31 1 (.ptr p906.2.length 0 0))).bind fun t26 =>
  (gd t23 true (dLoad tab p907.2 ty3 t26)).bind fun t27 =>
  (gd t23 true (dBin tab .eql ty3 t25 t27)).bind fun t28 =>
  (dPick t23 t28 (.bool false)).bind fun t29 =>
  (some (t29 : D)).bind fun t30 =>
  (gd t30 true (dFieldAddr tab ty31 2 p5.1)).bind fun t31 =>
  (gd t30 true (dLoad tab p907.2 ty3 t31)).bind fun t32 =>
  (gd t30 true (dFieldAddr tab ty31 2 (.ptr p906.2.length 0 0))).bind fun t33 =>
  (gd t30 true (dLoad tab p907.2 ty3 t33)).bind fun t34 =>
  (gd t30 true (dBin tab .eql ty3 t32 t34)).bind fun t35 =>
  (dPick t30 t35 (.bool false)).bind fun t36 =>
  (some (t36 : D)).bind fun t37 =>
  (gd t37 true (dFieldAddr tab ty31 3 p5.1)).bind fun t38 =>
  (gd t37 true (dLoad tab p907.2 ty3 t38)).bind fun t39 =>
  (gd t37 true (dFieldAddr tab ty31 3 (.ptr p906.2.length 0 0))).bind fun t40 =>
  (gd t37 true (dLoad tab p907.2 ty3 t40)).bind fun t41 =>
  (gd t37 true (dBin tab .eql ty3 t39 t41)).bind fun t42 =>
  (dPick t37 t42 (.bool false)).bind fun t43 =>
  (some (t43 : D)).bind fun t44 =>
  (gd t44 true (dFieldAddr tab ty31 5 p5.1)).bind fun t45 =>
  (gd t44 true (dLoad tab p907.2 ty3 t45)).bind fun t46 =>
  (gd t44 true (dFieldAddr tab ty31 5 (.ptr p906.2.length 0 0))).bind fun t47 =>
  (gd t44 true (dLoad tab p907.2 ty3 t47)).bind fun t48 =>
  (gd t44 true (dBin tab .eql ty3 t46 t48)).bind fun t49 =>
  (dPick t44 t49 (.bool false)).bind fun t50 =>
  (some (t50 : D)).bind fun t51 =>
  (gd t51 true (dFieldAddr tab ty31 6 p5.1)).bind fun t52 =>
  (gd t51 true (dLoad tab p907.2 ty3 t52)).bind fun t53 =>
  (gd t51 true (dFieldAddr tab ty31 6 (.ptr p906.2.length 0 0))).bind fun t54 =>
  (gd t51 true (dLoad tab p907.2 ty3 t54)).bind fun t55 =>
  (gd t51 true (dBin tab .eql ty3 t53 t55)).bind fun t56 =>
  (dPick t51 t56 (.bool false)).bind fun t57 =>
  (some (t57 : D)).bind fun t58 =>
  (gd t58 true (dFieldAddr tab ty31 7 p5.1)).bind fun t59 =>
  (gd t58 true (dLoad tab p907.2 ty9 t59)).bind fun t60 =>
  (gd t58 true (dFieldAddr tab ty31 7 (.ptr p906.2.length 0 0))).bind fun t61 =>
  (gd t58 true (dLoad tab p907.2 ty9 t61)).bind fun t62 =>
  (gd t58 true (dBin tab .eql ty9 t60 t62)).bind fun t63 =>
  (dPick t58 t63 (.bool false)).bind fun t64 =>
  (some (t64 : D)).bind fun t65 =>
  (gd t65 true (dFieldAddr tab ty31 8 p5.1)).bind fun t66 =>
  (gd t65 true (dLoad tab p907.2 ty9 t66)).bind fun t67 =>
  (gd t65 true (dFieldAddr tab ty31 8 (.ptr p906.2.length 0 0))).bind fun t68 =>
  (gd t65 true (dLoad tab p907.2 ty9 t68)).bind fun t69 =>
  (gd t65 true (dBin tab .eql ty9 t67 t69)).bind fun t70 =>
  (dPick t65 t70 (.bool false)).bind fun t71 =>
  (some (t71 : D)).bind fun t72 =>
  (gd t72 true (dFieldAddr tab ty31 4 p5.1)).bind fun t73 =>
  (gd t72 true (dLoad tab p907.2 ty28 t73)).bind fun t74 =>
  (gd t72 true (dFieldAddr tab ty31 4 (.ptr p906.2.length 0 0))).bind fun t75 =>
  (gd t72 true (dLoad tab p907.2 ty28 t75)).bind fun t76 =>
  (gdW t72 true p907.2 (R fn94 [t74, t76] p907.2)).bind fun p77 =>
  (dPick t72 p77.1 (.bool false)).bind fun t78 =>
  (some (t78 : D)).bind fun t79 =>
  (gd t79 true (dFieldAddr tab ty31 9 p5.1)).bind fun t80 =>
  (gd t79 true (dLoad tab p77.2 ty29 t80)).bind fun t81 =>
  (gd t79 true (dFieldAddr tab ty31 9 (.ptr p906.2.length 0 0))).bind fun t82 =>
  (gd t79 true (dLoad tab p77.2 ty29 t82)).bind fun t83 =>
  (gdW t79 true p77.2 (R fn95 [t81, t83] p77.2)).bind fun p84 =>
  (dPick t79 p84.1 (.bool false)).bind fun t85 =>
  (some (t85 : D)).bind fun t4_1 =>
  ((some (t4_1 : D)).bind fun d => (some ([] : List D)).bind fun ds => some (d :: ds)).bind fun ds => scope h p84.2 (mkRes ds))))
theorem e82 (t0 : D) (t1 : D) (h : Hp) : R fn82 [t0, t1] h = F82 t0 t1 h :=
  (run_fn (X := X) (F := Fs) (fi := i49) (by kernel_rfl) _ _).trans (by kernel_rfl)
/-- a loop: slots 4 5 8 9 16 -/
noncomputable def F77_L0 (t0 : D) (t1 : D) (t7 : D) (ds : List D) (h_1 : Hp) : Option Out :=
    (dBin tab .lss ty3 (nth 2 ds) t7).bind fun t9 =>
    dIf t9
      ((some ((nth 2 ds) : D)).bind fun t10 =>
    (some (t10 : D)).bind fun t5 =>
    (some (t1 : D)).bind fun t11 =>
    (some (t0 : D)).bind fun t12 =>
    (some (t5 : D)).bind fun t13 =>
    (dIndexAddr tab ty39 t12 t13).bind fun t14 =>
    (dLoad tab h_1 ty56 t14).bind fun t15 =>
    (callV R t11 [t15] h_1).bind fun p16 =>
    dIf p16.1
      ((some (t5 : D)).bind fun t17 =>
      (some (t17 : D)).bind fun t4_1 =>
      some (.ret, [t4_1, t5, (nth 2 ds), t9, p16.1], p16.2))
      ((dBin tab .add ty3 (nth 2 ds) (.int .i64 1)).bind fun t18 =>
    (some (t18 : D)).bind fun t8_1 =>
    some (.nrm, [(nth 0 ds), t5, t8_1, t9, p16.1], p16.2)))
      (some ((.ext 0), [(nth 0 ds), (nth 1 ds), (nth 2 ds), t9, (nth 4 ds)], h_1))
noncomputable def F77 (t0 : D) (t1 : D) (h : Hp) : Option (D × Hp) :=
  (some (.int .i64 0 : D)).bind fun t4 =>
  (some (t0 : D)).bind fun t6 =>
  (dLenT tab ty39 t6).bind fun t7 =>
  (some (.int .i64 0 : D)).bind fun t8 =>
  ((loopW (F77_L0 t0 t1 t7) [t4, .any, t8, .any, .any] h).bind fun r =>
    some ((unblk 0 r.1), [(nth 0 r.2.1), (nth 1 r.2.1), (nth 2 r.2.1), (nth 3 r.2.1), (nth 4 r.2.1)], r.2.2)).bind fun r_1 =>
  toEnd r_1.1 ((some (.int .i64 (-1) : D)).bind fun t4_2 =>
  ((some (t4_2 : D)).bind fun d => (some ([] : List D)).bind fun ds => some (d :: ds)).bind fun ds => some (mkRes ds, r_1.2.2)) fun x => exEnd x (((some ((nth 0 r_1.2.1) : D)).bind fun d => (some ([] : List D)).bind fun ds => some (d :: ds)).bind fun ds => some (mkRes ds, r_1.2.2))
theorem e77 (t0 : D) (t1 : D) (h : Hp) : R fn77 [t0, t1] h = F77 t0 t1 h :=
  (run_fn (X := X) (F := Fs) (fi := i50) (by kernel_rfl) _ _).trans (by kernel_rfl)
noncomputable def F73 (t0 : D) (h : Hp) : Option (D × Hp) :=
  (pBoxF t0).bind fun t1 =>
  (some (.bool false : D)).bind fun t2 =>
  (some (.bool true : D)).bind fun t2_1 =>
  ((some (t2_1 : D)).bind fun d => (some ([] : List D)).bind fun ds => some (d :: ds)).bind fun ds => some (mkRes ds, h)
theorem e73 (t0 : D) (h : Hp) : R fn73 [t0] h = F73 t0 h :=
  (run_fn (X := X) (F := Fs) (fi := i51) (by kernel_rfl) _ _).trans (by kernel_rfl)
noncomputable def F74 (t0 : D) (t1 : D) (t2 : D) (h : Hp) : Option (D × Hp) :=
  (pBoxF t0).bind fun t3 =>
  (some (.bool false : D)).bind fun t4 =>
  (dLoad tab h ty31 t3).bind fun t8 =>
  (dLoad tab h ty9 t1).bind fun t9 =>
  (R fn75 [t8, t9] h).bind fun p10 =>
  (some (p10.1 : D)).bind fun t7 =>
  (dExtract 0 t7).bind fun t11 =>
  (dExtract 1 t7).bind fun t12 =>
  (some (t11 : D)).bind fun t5 =>
  (some (t12 : D)).bind fun t6 =>
  (some (t6 : D)).bind fun t13 =>
  (some (t13 : D)).bind fun t14 =>
  (gd t14 true (some (t5 : D))).bind fun t15 =>
  (gd t14 true (dLoad tab p10.2 ty9 t2)).bind fun t16 =>
  (gd t14 true (dBin tab .eql ty9 t15 t16)).bind fun t17 =>
  (dPick t14 t17 (.bool false)).bind fun t18 =>
  (some (t18 : D)).bind fun t4_1 =>
  ((some (t4_1 : D)).bind fun d => (some ([] : List D)).bind fun ds => some (d :: ds)).bind fun ds => some (mkRes ds, p10.2)
theorem e74 (t0 : D) (t1 : D) (t2 : D) (h : Hp) : R fn74 [t0, t1, t2] h = F74 t0 t1 t2 h :=
  (run_fn (X := X) (F := Fs) (fi := i52) (by kernel_rfl) _ _).trans (by kernel_rfl)
noncomputable def F75 (t0 : D) (t1 : D) (h : Hp) : Option (D × Hp) :=
  (pBoxF t0).bind fun t2 =>
  (some (.str [] : D)).bind fun t4 =>
  (some (.bool false : D)).bind fun t5 =>
  (dFieldAddr tab ty31 9 t2).bind fun t6 =>
  (dLoad tab h ty29 t6).bind fun t7 =>
  (some (t1 : D)).bind fun t8 =>
  (R fn70 [t7, t8] h).bind fun p9 =>
  (dExtract 0 p9.1).bind fun t10 =>
  (dExtract 1 p9.1).bind fun t11 =>
  (some (t10 : D)).bind fun t4_1 =>
  (some (t11 : D)).bind fun t5_1 =>
  ((some (t4_1 : D)).bind fun d => ((some (t5_1 : D)).bind fun d => (some ([] : List D)).bind fun ds => some (d :: ds)).bind fun ds => some (d :: ds)).bind fun ds => some (mkRes ds, p9.2)
theorem e75 (t0 : D) (t1 : D) (h : Hp) : R fn75 [t0, t1] h = F75 t0 t1 h :=
  (run_fn (X := X) (F := Fs) (fi := i53) (by kernel_rfl) _ _).trans (by kernel_rfl)
/-- a loop: slots 10 11 12 13 24 -/
noncomputable def F84_L0 (t0 : D) (p9 : D × Hp) (ds : List D) (h_1 : Hp) : Option Out :=
    (some ((nth 1 ds) : D)).bind fun t23 =>
    (dBin tab .gtr ty3 t23 (.int .i64 0)).bind fun t24 =>
    dIf t24
      ((some (t0 : D)).bind fun t27 =>
    (R fn96 [t27] h_1).bind fun p28 =>
    (some (p28.1 : D)).bind fun t12 =>
    (some (t12 : D)).bind fun t29 =>
    (dLenT tab ty9 t29).bind fun t30 =>
    (dBin tab .add ty3 t30 (.int .i64 1)).bind fun t31 =>
    (some (t0 : D)).bind fun t32 =>
    (R fn24 [t32, .int .i64 2] p28.2).bind fun p33 =>
    (dBin tab .add ty3 t31 p33.1).bind fun t34 =>
    (some (t34 : D)).bind fun t13 =>
    (dFieldAddr tab ty31 4 p9.1).bind fun t35 =>
    (dLoad tab p33.2 ty28 t35).bind fun t36 =>
    (some ((nth 0 ds) : D)).bind fun t37 =>
    (some (t13 : D)).bind fun t38 =>
    (some (t12 : D)).bind fun t39 =>
    (dBuild tab ty78 [0, 1, 2] [t37, t38, t39]).bind fun t40 =>
    (pLitF tab ty28 1 [0] [t40]).bind fun t41 =>
    (dAppend tab p33.2 ty28 ty28 t36 t41).bind fun p42 =>
    (dFieldAddr tab ty31 4 p9.1).bind fun t43 =>
    ((dStore tab p42.2 ty28 t43 p42.1).bind fun h' => some ((.und : D), h')).bind fun p909 =>
    (some ((nth 0 ds) : D)).bind fun t44 =>
    (some (t13 : D)).bind fun t45 =>
    (dBin tab .add ty3 t44 t45).bind fun t46 =>
    (some (t46 : D)).bind fun t10_1 =>
    (some ((nth 1 ds) : D)).bind fun t25 =>
    (dBin tab .sub ty3 t25 (.int .i64 1)).bind fun t26 =>
    (some (t26 : D)).bind fun t11_1 =>
    some (.nrm, [t10_1, t11_1, t12, t13, t24], p909.2))
      (some ((.ext 0), [(nth 0 ds), (nth 1 ds), (nth 2 ds), (nth 3 ds), t24], h_1))
/-- a loop: slots 14 56 -/
noncomputable def F84_L1 (p9 : D × Hp) (ds_1 : List D) (h_2 : Hp) : Option Out :=
    (some ((nth 0 ds_1) : D)).bind fun t52 =>
    (dFieldAddr tab ty31 4 p9.1).bind fun t53 =>
    (dLoad tab h_2 ty28 t53).bind fun t54 =>
    (dLenT tab ty28 t54).bind fun t55 =>
    (dBin tab .lss ty3 t52 t55).bind fun t56 =>
    dIf t56
      ((dFieldAddr tab ty31 4 p9.1).bind fun t59 =>
    (dLoad tab h_2 ty28 t59).bind fun t60 =>
    (some ((nth 0 ds_1) : D)).bind fun t61 =>
    (dIndexAddr tab ty28 t60 t61).bind fun t62 =>
    (dFieldAddr tab ty78 2 t62).bind fun t63 =>
    ((dStore tab h_2 ty9 t63 (.str [])).bind fun h' => some ((.und : D), h')).bind fun p905_1 =>
    (some ((nth 0 ds_1) : D)).bind fun t57 =>
    (dBin tab .add ty3 t57 (.int .i64 1)).bind fun t58 =>
    (some (t58 : D)).bind fun t14_1 =>
    some (.nrm, [t14_1, t56], p905_1.2))
      (some ((.ext 2), [(nth 0 ds_1), t56], h_2))
noncomputable def F84 (t0 : D) (t1 : D) (t2 : D) (t3 : D) (h : Hp) : Option (D × Hp) :=
  (some ((.ptr h.length 0 0 : D), dNew h ty74 11 [[.str [], .int .i64 0, .int .i64 0, .int .i64 0, .int .i64 0, .nils, .int .i64 0, .int .i64 0, .str [], .str [], .nils]])).bind fun p8 =>
  (some (t1 : D)).bind fun t15 =>
  (some (t2 : D)).bind fun t16 =>
  (some (t3 : D)).bind fun t17 =>
  (dBuild tab ty31 [0, 1, 2] [t15, t16, t17]).bind fun t18 =>
  (some ((.ptr p8.2.length 0 0 : D), dNew p8.2 ty31 10 [[.int .i64 0, .int .i64 0, .int .i64 0, .int .i64 0, .nils, .int .i64 0, .int .i64 0, .str [], .str [], .nils]])).bind fun p9 =>
  ((dStore tab p9.2 ty31 p9.1 t18).bind fun h' => some ((.und : D), h')).bind fun p905 =>
  (some (t3 : D)).bind fun t19 =>
  (some (t19 : D)).bind fun t10 =>
  (some (t0 : D)).bind fun t20 =>
  (R fn24 [t20, .int .i64 3] p905.2).bind fun p21 =>
  (dBin tab .add ty3 (.int .i64 1) p21.1).bind fun t22 =>
  (some (t22 : D)).bind fun t11 =>
  ((loopW (F84_L0 t0 p9) [t10, t11, .any, .any, .any] p21.2).bind fun r =>
    some ((unblk 0 r.1), [(nth 0 r.2.1), (nth 1 r.2.1), (nth 2 r.2.1), (nth 3 r.2.1), (nth 4 r.2.1)], r.2.2)).bind fun r_1 =>
  toEnd r_1.1 ((some ((nth 0 r_1.2.1) : D)).bind fun t47 =>
  (dFieldAddr tab ty31 3 p9.1).bind fun t48 =>
  ((dStore tab r_1.2.2 ty3 t48 t47).bind fun h' => some ((.und : D), h')).bind fun p902 =>
  (some (t0 : D)).bind fun t49 =>
  (R fn24 [t49, .int .i64 5] p902.2).bind fun p50 =>
  (dBin tab .eql ty3 p50.1 (.int .i64 4)).bind fun t51 =>
  dIf t51
    ((some (.int .i64 0 : D)).bind fun t14 =>
    ((loopW (F84_L1 p9) [t14, .any] p50.2).bind fun r_2 =>
      some ((unblk 2 r_2.1), [(nth 0 r_2.2.1), (nth 1 r_2.2.1)], r_2.2.2)).bind fun r_3 =>
    toEnd r_3.1 ((pLitF tab ty98 3 [0, 1, 2] [.str [115, 97, 109, 112, 108, 101], .str [100, 114, 111, 112], .str [116, 111, 111, 45, 108, 111, 110, 103]]).bind fun t64 =>
    (some (t0 : D)).bind fun t65 =>
    (R fn24 [t65, .int .i64 3] r_3.2.2).bind fun p66 =>
    (dIndexAddr tab ty98 t64 p66.1).bind fun t67 =>
    (dLoad tab p66.2 ty9 t67).bind fun t68 =>
    (dLoad tab p66.2 ty31 p9.1).bind fun t69 =>
    (dBuild tab ty74 [0, 1] [t68, t69]).bind fun t70 =>
    chk (dLoad tab r_3.2.2 ty31 p9.1 = some t69)
    (((dStore tab p66.2 ty74 p8.1 t70).bind fun h' => some ((.und : D), h')).bind fun p907 =>
    ((some (p8.1 : D)).bind fun p => (dLoad tab p907.2 ty74 p).bind fun d => (some ([] : List D)).bind fun ds => some (d :: ds)).bind fun ds => scope h p907.2 (mkRes ds))) fun x_1 => toEnd x_1 ((some (t0 : D)).bind fun t71 =>
  (R fn35 [t71] r_3.2.2).bind fun p72 =>
  (some (t0 : D)).bind fun t73 =>
  (R fn97 [t73] p72.2).bind fun p74 =>
  (dFieldAddr tab ty31 5 p9.1).bind fun t75 =>
  ((dStore tab p74.2 ty3 t75 p72.1).bind fun h' => some ((.und : D), h')).bind fun p905_2 =>
  (dFieldAddr tab ty31 6 p9.1).bind fun t76 =>
  ((dStore tab p905_2.2 ty3 t76 p74.1).bind fun h' => some ((.und : D), h')).bind fun p907_1 =>
  (pLitF tab ty98 4 [0, 1, 2, 3] [.str [116, 49], .str [116, 50], .str [], .str [49, 58, 50, 58, 48]]).bind fun t77 =>
  (some (t0 : D)).bind fun t78 =>
  (R fn24 [t78, .int .i64 4] p907_1.2).bind fun p79 =>
  (dIndexAddr tab ty98 t77 p79.1).bind fun t80 =>
  (dLoad tab p79.2 ty9 t80).bind fun t81 =>
  (pLitF tab ty98 2 [0, 1] [.str [109, 97, 105, 110], .str [100, 101, 98, 117, 103]]).bind fun t82 =>
  (some (t0 : D)).bind fun t83 =>
  (R fn24 [t83, .int .i64 2] p79.2).bind fun p84 =>
  (dIndexAddr tab ty98 t82 p84.1).bind fun t85 =>
  (dLoad tab p84.2 ty9 t85).bind fun t86 =>
  (dFieldAddr tab ty31 7 p9.1).bind fun t87 =>
  ((dStore tab p84.2 ty9 t87 t81).bind fun h' => some ((.und : D), h')).bind fun p911 =>
  chk (dLoad tab p84.2 ty9 t80 = some t81)
  (chk (dLoad tab p911.2 ty9 t85 = some t86)
  ((dFieldAddr tab ty31 8 p9.1).bind fun t88 =>
  ((dStore tab p911.2 ty9 t88 t86).bind fun h' => some ((.und : D), h')).bind fun p913 =>
  (some (t0 : D)).bind fun t89 =>
  (R fn98 [t89] p913.2).bind fun p90 =>
  (dFieldAddr tab ty31 9 p9.1).bind fun t91 =>
  ((dStore tab p90.2 ty29 t91 p90.1).bind fun h' => some ((.und : D), h')).bind fun p903 =>
  (dLoad tab p903.2 ty31 p9.1).bind fun t92 =>
  (dBuild tab ty74 [1] [t92]).bind fun t93 =>
  ((dStore tab p903.2 ty74 p8.1 t93).bind fun h' => some ((.und : D), h')).bind fun p902_1 =>
  ((some (p8.1 : D)).bind fun p => (dLoad tab p902_1.2 ty74 p).bind fun d => (some ([] : List D)).bind fun ds => some (d :: ds)).bind fun ds => scope h p902_1.2 (mkRes ds)))) fun x_2 => exEnd x_2 (((some (p8.1 : D)).bind fun p => (dLoad tab r_3.2.2 ty74 p).bind fun d => (some ([] : List D)).bind fun ds => some (d :: ds)).bind fun ds => scope h r_3.2.2 (mkRes ds)))
    ((some (t0 : D)).bind fun t71_1 =>
  (R fn35 [t71_1] p50.2).bind fun p72_1 =>
  (some (t0 : D)).bind fun t73_1 =>
  (R fn97 [t73_1] p72_1.2).bind fun p74_1 =>
  (dFieldAddr tab ty31 5 p9.1).bind fun t75_1 =>
  ((dStore tab p74_1.2 ty3 t75_1 p72_1.1).bind fun h' => some ((.und : D), h')).bind fun p905_3 =>
  (dFieldAddr tab ty31 6 p9.1).bind fun t76_1 =>
  ((dStore tab p905_3.2 ty3 t76_1 p74_1.1).bind fun h' => some ((.und : D), h')).bind fun p907_2 =>
  (pLitF tab ty98 4 [0, 1, 2, 3] [.str [116, 49], .str [116, 50], .str [], .str [49, 58, 50, 58, 48]]).bind fun t77_1 =>
  (some (t0 : D)).bind fun t78_1 =>
  (R fn24 [t78_1, .int .i64 4] p907_2.2).bind fun p79_1 =>
  (dIndexAddr tab ty98 t77_1 p79_1.1).bind fun t80_1 =>
  (dLoad tab p79_1.2 ty9 t80_1).bind fun t81_1 =>
  (pLitF tab ty98 2 [0, 1] [.str [109, 97, 105, 110], .str [100, 101, 98, 117, 103]]).bind fun t82_1 =>
  (some (t0 : D)).bind fun t83_1 =>
  (R fn24 [t83_1, .int .i64 2] p79_1.2).bind fun p84_1 =>
  (dIndexAddr tab ty98 t82_1 p84_1.1).bind fun t85_1 =>
  (dLoad tab p84_1.2 ty9 t85_1).bind fun t86_1 =>
  (dFieldAddr tab ty31 7 p9.1).bind fun t87_1 =>
  ((dStore tab p84_1.2 ty9 t87_1 t81_1).bind fun h' => some ((.und : D), h')).bind fun p911_1 =>
  chk (dLoad tab p84_1.2 ty9 t80_1 = some t81_1)
  (chk (dLoad tab p911_1.2 ty9 t85_1 = some t86_1)
  ((dFieldAddr tab ty31 8 p9.1).bind fun t88_1 =>
  ((dStore tab p911_1.2 ty9 t88_1 t86_1).bind fun h' => some ((.und : D), h')).bind fun p913_1 =>
  (some (t0 : D)).bind fun t89_1 =>
  (R fn98 [t89_1] p913_1.2).bind fun p90_1 =>
  (dFieldAddr tab ty31 9 p9.1).bind fun t91_1 =>
  ((dStore tab p90_1.2 ty29 t91_1 p90_1.1).bind fun h' => some ((.und : D), h')).bind fun p903_1 =>
  (dLoad tab p903_1.2 ty31 p9.1).bind fun t92_1 =>
  (dBuild tab ty74 [1] [t92_1]).bind fun t93_1 =>
  ((dStore tab p903_1.2 ty74 p8.1 t93_1).bind fun h' => some ((.und : D), h')).bind fun p902_2 =>
  ((some (p8.1 : D)).bind fun p => (dLoad tab p902_2.2 ty74 p).bind fun d => (some ([] : List D)).bind fun ds => some (d :: ds)).bind fun ds => scope h p902_2.2 (mkRes ds))))) fun x => exEnd x (((some (p8.1 : D)).bind fun p => (dLoad tab r_1.2.2 ty74 p).bind fun d => (some ([] : List D)).bind fun ds => some (d :: ds)).bind fun ds => scope h r_1.2.2 (mkRes ds))
theorem e84 (t0 : D) (t1 : D) (t2 : D) (t3 : D) (h : Hp) : R fn84 [t0, t1, t2, t3] h = F84 t0 t1 t2 t3 h :=
  (run_fn (X := X) (F := Fs) (fi := i54) (by kernel_rfl) _ _).trans (by kernel_rfl)
noncomputable def F85 (t0 : D) (t1 : D) (h : Hp) : Option (D × Hp) :=
  (pBoxF t0).bind fun t2 =>
  (pBoxF t1).bind fun t3 =>
  (some (.bool false : D)).bind fun t4 =>
  (dFieldAddr tab ty31 5 t2).bind fun t6 =>
  (dLoad tab h ty3 t6).bind fun t7 =>
  (dFieldAddr tab ty31 5 t3).bind fun t8 =>
  (dLoad tab h ty3 t8).bind fun t9 =>
  (dBin tab .neq ty3 t7 t9).bind fun t10 =>
  (some (t10 : D)).bind fun t5 =>
  dIf t5
    ((dFieldAddr tab ty31 5 t2).bind fun t11 =>
    (dLoad tab h ty3 t11).bind fun t12 =>
    (dFieldAddr tab ty31 5 t3).bind fun t13 =>
    (dLoad tab h ty3 t13).bind fun t14 =>
    (dBin tab .lss ty3 t12 t14).bind fun t15 =>
    (some (t15 : D)).bind fun t4_1 =>
    ((some (t4_1 : D)).bind fun d => (some ([] : List D)).bind fun ds => some (d :: ds)).bind fun ds => some (mkRes ds, h))
    ((dFieldAddr tab ty31 0 t2).bind fun t17 =>
    (dLoad tab h ty3 t17).bind fun t18 =>
    (dFieldAddr tab ty31 0 t3).bind fun t19 =>
    (dLoad tab h ty3 t19).bind fun t20 =>
    (dBin tab .neq ty3 t18 t20).bind fun t21 =>
    (some (t21 : D)).bind fun t16 =>
    dIf t16
      ((dFieldAddr tab ty31 0 t2).bind fun t22 =>
      (dLoad tab h ty3 t22).bind fun t23 =>
      (dFieldAddr tab ty31 0 t3).bind fun t24 =>
      (dLoad tab h ty3 t24).bind fun t25 =>
      (dBin tab .lss ty3 t23 t25).bind fun t26 =>
      (some (t26 : D)).bind fun t4_2 =>
      ((some (t4_2 : D)).bind fun d => (some ([] : List D)).bind fun ds => some (d :: ds)).bind fun ds => some (mkRes ds, h))
      ((dFieldAddr tab ty31 1 t2).bind fun t28 =>
      (dLoad tab h ty3 t28).bind fun t29 =>
      (dFieldAddr tab ty31 1 t3).bind fun t30 =>
      (dLoad tab h ty3 t30).bind fun t31 =>
      (dBin tab .neq ty3 t29 t31).bind fun t32 =>
      (some (t32 : D)).bind fun t27 =>
      dIf t27
        ((dFieldAddr tab ty31 1 t2).bind fun t33 =>
        (dLoad tab h ty3 t33).bind fun t34 =>
        (dFieldAddr tab ty31 1 t3).bind fun t35 =>
        (dLoad tab h ty3 t35).bind fun t36 =>
        (dBin tab .lss ty3 t34 t36).bind fun t37 =>
        (some (t37 : D)).bind fun t4_3 =>
        ((some (t4_3 : D)).bind fun d => (some ([] : List D)).bind fun ds => some (d :: ds)).bind fun ds => some (mkRes ds, h))
        ((dFieldAddr tab ty31 2 t2).bind fun t38 =>
  (dLoad tab h ty3 t38).bind fun t39 =>
  (dFieldAddr tab ty31 2 t3).bind fun t40 =>
  (dLoad tab h ty3 t40).bind fun t41 =>
  (dBin tab .lss ty3 t39 t41).bind fun t42 =>
  (some (t42 : D)).bind fun t4_4 =>
  ((some (t4_4 : D)).bind fun d => (some ([] : List D)).bind fun ds => some (d :: ds)).bind fun ds => some (mkRes ds, h))))
theorem e85 (t0 : D) (t1 : D) (h : Hp) : R fn85 [t0, t1] h = F85 t0 t1 h :=
  (run_fn (X := X) (F := Fs) (fi := i55) (by kernel_rfl) _ _).trans (by kernel_rfl)
noncomputable def F55 (t0 : D) (t1 : D) (h : Hp) : Option (D × Hp) :=
  (pBoxF t0).bind fun t2 =>
  (some (.bool false : D)).bind fun t3 =>
  (dFieldAddr tab ty56 3 t2).bind fun t4 =>
  (dLoad tab h ty3 t4).bind fun t5 =>
  (dFieldAddr tab ty31 5 t1).bind fun t6 =>
  (dLoad tab h ty3 t6).bind fun t7 =>
  (dBin tab .leq ty3 t5 t7).bind fun t8 =>
  (some (t8 : D)).bind fun t9 =>
  (gd t9 true (dFieldAddr tab ty31 5 t1)).bind fun t10 =>
  (gd t9 true (dLoad tab h ty3 t10)).bind fun t11 =>
  (gd t9 true (dFieldAddr tab ty56 4 t2)).bind fun t12 =>
  (gd t9 true (dLoad tab h ty3 t12)).bind fun t13 =>
  (gd t9 true (dBin tab .lss ty3 t11 t13)).bind fun t14 =>
  (dPick t9 t14 (.bool false)).bind fun t15 =>
  (some (t15 : D)).bind fun t16 =>
  (gd t16 true (dFieldAddr tab ty56 1 t2)).bind fun t17 =>
  (gd t16 true (dLoad tab h ty9 t17)).bind fun t18 =>
  (gd t16 true (dFieldAddr tab ty56 2 t2)).bind fun t19 =>
  (gd t16 true (dLoad tab h ty9 t19)).bind fun t20 =>
  (gdW t16 true h (R fn52 [t18, t20] h)).bind fun p21 =>
  (gd t16 true (dLoad tab p21.2 ty31 t1)).bind fun t22 =>
  (gdW t16 true p21.2 (callV R p21.1 [t22] p21.2)).bind fun p23 =>
  (dPick t16 p23.1 (.bool false)).bind fun t24 =>
  chk (gd t16 true (dLoad tab h ty31 t1) = some t22)
  ((some (t24 : D)).bind fun t3_1 =>
  ((some (t3_1 : D)).bind fun d => (some ([] : List D)).bind fun ds => some (d :: ds)).bind fun ds => some (mkRes ds, p23.2))
theorem e55 (t0 : D) (t1 : D) (h : Hp) : R fn55 [t0, t1] h = F55 t0 t1 h :=
  (run_fn (X := X) (F := Fs) (fi := i56) (by kernel_rfl) _ _).trans (by kernel_rfl)
/-- a loop: slots 9 10 11 17 31 -/
noncomputable def F87_L0 (t0 : D) (t2 : D) (t4 : D) (ds : List D) (h_1 : Hp) : Option Out :=
    (some ((nth 0 ds) : D)).bind fun t15 =>
    (some ((nth 1 ds) : D)).bind fun t16 =>
    (dBin tab .lss ty3 t15 t16).bind fun t17 =>
    dIf t17
      ((some ((nth 0 ds) : D)).bind fun t18 =>
    (some ((nth 1 ds) : D)).bind fun t19 =>
    (dBin tab .add ty3 t18 t19).bind fun t20 =>
    (dConv tab ty3 ty134 t20).bind fun t21 =>
    (dBin tab .shr ty134 t21 (.int .u64 1)).bind fun t22 =>
    (dConv tab ty134 ty3 t22).bind fun t23 =>
    (some (t23 : D)).bind fun t11 =>
    (some (t2 : D)).bind fun t24 =>
    (some (t0 : D)).bind fun t25 =>
    (some (t11 : D)).bind fun t26 =>
    (dIndexAddr tab ty58 t25 t26).bind fun t27 =>
    (dLoad tab h_1 ty106 t27).bind fun t28 =>
    (dLoad tab h_1 ty106 t4).bind fun t29 =>
    (callV R t24 [t28, t29] h_1).bind fun p30 =>
    (dBin tab .lss ty3 p30.1 (.int .i64 0)).bind fun t31 =>
    (dIf t31
      ((some (t11 : D)).bind fun t32 =>
      (dBin tab .add ty3 t32 (.int .i64 1)).bind fun t33 =>
      (some (t33 : D)).bind fun t9_1 =>
      some (.nrm, [t9_1, (nth 1 ds)], p30.2))
      ((some (t11 : D)).bind fun t34 =>
      (some (t34 : D)).bind fun t10_1 =>
      some (.nrm, [(nth 0 ds), t10_1], p30.2))).bind fun r_1 =>
    some ((unblk 1 r_1.1), [(nth 0 r_1.2.1), (nth 1 r_1.2.1), t11, t17, t31], r_1.2.2))
      (some ((.ext 0), [(nth 0 ds), (nth 1 ds), (nth 2 ds), t17, (nth 4 ds)], h_1))
noncomputable def F87 (t0 : D) (t1 : D) (t2 : D) (h : Hp) : Option (D × Hp) :=
  (pBoxF t1).bind fun t4 =>
  (some (.int .i64 0 : D)).bind fun t6 =>
  (some (.bool false : D)).bind fun t7 =>
  (some (t0 : D)).bind fun t12 =>
  (dLenT tab ty58 t12).bind fun t13 =>
  (some (t13 : D)).bind fun t8 =>
  (some (t8 : D)).bind fun t14 =>
  (some (.int .i64 0 : D)).bind fun t9 =>
  (some (t14 : D)).bind fun t10 =>
  ((loopW (F87_L0 t0 t2 t4) [t9, t10, .any, .any, .any] h).bind fun r =>
    some ((unblk 0 r.1), [(nth 0 r.2.1), (nth 1 r.2.1), (nth 2 r.2.1), (nth 3 r.2.1), (nth 4 r.2.1)], r.2.2)).bind fun r_2 =>
  toEnd r_2.1 ((some ((nth 0 r_2.2.1) : D)).bind fun t35 =>
  (some ((nth 0 r_2.2.1) : D)).bind fun t36 =>
  (some (t8 : D)).bind fun t37 =>
  (dBin tab .lss ty3 t36 t37).bind fun t38 =>
  (some (t38 : D)).bind fun t39 =>
  (gd t39 true (some (t2 : D))).bind fun t40 =>
  (gd t39 true (some (t0 : D))).bind fun t41 =>
  (gd t39 true (some ((nth 0 r_2.2.1) : D))).bind fun t42 =>
  (gd t39 true (dIndexAddr tab ty58 t41 t42)).bind fun t43 =>
  (gd t39 true (dLoad tab r_2.2.2 ty106 t43)).bind fun t44 =>
  (gd t39 true (dLoad tab r_2.2.2 ty106 t4)).bind fun t45 =>
  (gdW t39 true r_2.2.2 (callV R t40 [t44, t45] r_2.2.2)).bind fun p46 =>
  (gd t39 true (dBin tab .eql ty3 p46.1 (.int .i64 0))).bind fun t47 =>
  (dPick t39 t47 (.bool false)).bind fun t48 =>
  (some (t35 : D)).bind fun t6_1 =>
  (some (t48 : D)).bind fun t7_1 =>
  ((some (t6_1 : D)).bind fun d => ((some (t7_1 : D)).bind fun d => (some ([] : List D)).bind fun ds => some (d :: ds)).bind fun ds => some (d :: ds)).bind fun ds => some (mkRes ds, p46.2)) fun x => exEnd x (((some (t6 : D)).bind fun d => ((some (t7 : D)).bind fun d => (some ([] : List D)).bind fun ds => some (d :: ds)).bind fun ds => some (d :: ds)).bind fun ds => some (mkRes ds, r_2.2.2))
theorem e87 (t0 : D) (t1 : D) (t2 : D) (h : Hp) : R fn87 [t0, t1, t2] h = F87 t0 t1 t2 h :=
  (run_fn (X := X) (F := Fs) (fi := i57) (by kernel_rfl) _ _).trans (by kernel_rfl)
noncomputable def F88 (t0 : D) (t1 : D) (h : Hp) : Option (D × Hp) :=
  (pBoxF t0).bind fun t2 =>
  (pBoxF t1).bind fun t3 =>
  (some (.int .i64 0 : D)).bind fun t4 =>
  (dFieldAddr tab ty106 0 t2).bind fun t5 =>
  (dLoad tab h ty3 t5).bind fun t6 =>
  (dFieldAddr tab ty106 0 t3).bind fun t7 =>
  (dLoad tab h ty3 t7).bind fun t8 =>
  (R fn90 [t6, t8] h).bind fun p9 =>
  (dFieldAddr tab ty106 1 t2).bind fun t10 =>
  (dLoad tab p9.2 ty9 t10).bind fun t11 =>
  (dFieldAddr tab ty106 1 t3).bind fun t12 =>
  (dLoad tab p9.2 ty9 t12).bind fun t13 =>
  (R fn91 [t11, t13] p9.2).bind fun p14 =>
  (pLitF tab ty82 2 [0, 1] [p9.1, p14.1]).bind fun t15 =>
  (R fn89 [t15] p14.2).bind fun p16 =>
  chk (dLoad tab h ty9 t10 = some t11)
  (chk (dLoad tab h ty9 t12 = some t13)
  ((some (p16.1 : D)).bind fun t4_1 =>
  ((some (t4_1 : D)).bind fun d => (some ([] : List D)).bind fun ds => some (d :: ds)).bind fun ds => some (mkRes ds, p16.2)))
theorem e88 (t0 : D) (t1 : D) (h : Hp) : R fn88 [t0, t1] h = F88 t0 t1 h :=
  (run_fn (X := X) (F := Fs) (fi := i58) (by kernel_rfl) _ _).trans (by kernel_rfl)
/-- a loop: slots 2 5 8 9 14 -/
noncomputable def F89_L0 (t3 : D) (t6 : D) (t7 : D) (ds : List D) (h_1 : Hp) : Option Out :=
    (dBin tab .lss ty3 (nth 2 ds) t7).bind fun t9 =>
    dIf t9
      ((dIndexAddr tab ty82 t6 (nth 2 ds)).bind fun t10 =>
    (dLoad tab h_1 ty3 t10).bind fun t11 =>
    (some (t11 : D)).bind fun t5 =>
    (some (t5 : D)).bind fun t12 =>
    (some (t3 : D)).bind fun t13 =>
    (dBin tab .neq ty3 t12 t13).bind fun t14 =>
    dIf t14
      ((some (t5 : D)).bind fun t15 =>
      (some (t15 : D)).bind fun t2_1 =>
      some (.ret, [t2_1, t5, (nth 2 ds), t9, t14], h_1))
      ((dBin tab .add ty3 (nth 2 ds) (.int .i64 1)).bind fun t16 =>
    (some (t16 : D)).bind fun t8_1 =>
    some (.nrm, [(nth 0 ds), t5, t8_1, t9, t14], h_1)))
      (some ((.ext 0), [(nth 0 ds), (nth 1 ds), (nth 2 ds), t9, (nth 4 ds)], h_1))
noncomputable def F89 (t0 : D) (h : Hp) : Option (D × Hp) :=
  (some (.int .i64 0 : D)).bind fun t2 =>
  (some (.int .i64 0 : D)).bind fun t3 =>
  (some (t0 : D)).bind fun t6 =>
  (dLenT tab ty82 t6).bind fun t7 =>
  (some (.int .i64 0 : D)).bind fun t8 =>
  ((loopW (F89_L0 t3 t6 t7) [t2, .any, t8, .any, .any] h).bind fun r =>
    some ((unblk 0 r.1), [(nth 0 r.2.1), (nth 1 r.2.1), (nth 2 r.2.1), (nth 3 r.2.1), (nth 4 r.2.1)], r.2.2)).bind fun r_1 =>
  toEnd r_1.1 ((some (t3 : D)).bind fun t17 =>
  (some (t17 : D)).bind fun t2_2 =>
  ((some (t2_2 : D)).bind fun d => (some ([] : List D)).bind fun ds => some (d :: ds)).bind fun ds => some (mkRes ds, r_1.2.2)) fun x => exEnd x (((some ((nth 0 r_1.2.1) : D)).bind fun d => (some ([] : List D)).bind fun ds => some (d :: ds)).bind fun ds => some (mkRes ds, r_1.2.2))
theorem e89 (t0 : D) (h : Hp) : R fn89 [t0] h = F89 t0 h :=
  (run_fn (X := X) (F := Fs) (fi := i59) (by kernel_rfl) _ _).trans (by kernel_rfl)
noncomputable def F90 (t0 : D) (t1 : D) (h : Hp) : Option (D × Hp) :=
  (some (.int .i64 0 : D)).bind fun t4 =>
  (some (t0 : D)).bind fun t7 =>
  (R fn99 [t7] h).bind fun p8 =>
  (some (p8.1 : D)).bind fun t5 =>
  (some (t1 : D)).bind fun t9 =>
  (R fn99 [t9] p8.2).bind fun p10 =>
  (some (p10.1 : D)).bind fun t6 =>
  (some (t5 : D)).bind fun t11 =>
  dIf t11
    ((some (t6 : D)).bind fun t12 =>
    dIf t12
      ((some (.int .i64 0 : D)).bind fun t4_1 =>
      ((some (t4_1 : D)).bind fun d => (some ([] : List D)).bind fun ds => some (d :: ds)).bind fun ds => some (mkRes ds, p10.2))
      ((some (.int .i64 (-1) : D)).bind fun t4_2 =>
    ((some (t4_2 : D)).bind fun d => (some ([] : List D)).bind fun ds => some (d :: ds)).bind fun ds => some (mkRes ds, p10.2)))
    ((some (t6 : D)).bind fun t13 =>
  dIf t13
    ((some (.int .i64 1 : D)).bind fun t4_3 =>
    ((some (t4_3 : D)).bind fun d => (some ([] : List D)).bind fun ds => some (d :: ds)).bind fun ds => some (mkRes ds, p10.2))
    ((some (t0 : D)).bind fun t14 =>
  (some (t1 : D)).bind fun t15 =>
  (dBin tab .lss ty3 t14 t15).bind fun t16 =>
  dIf t16
    ((some (.int .i64 (-1) : D)).bind fun t4_4 =>
    ((some (t4_4 : D)).bind fun d => (some ([] : List D)).bind fun ds => some (d :: ds)).bind fun ds => some (mkRes ds, p10.2))
    ((some (t0 : D)).bind fun t17 =>
  (some (t1 : D)).bind fun t18 =>
  (dBin tab .gtr ty3 t17 t18).bind fun t19 =>
  dIf t19
    ((some (.int .i64 1 : D)).bind fun t4_5 =>
    ((some (t4_5 : D)).bind fun d => (some ([] : List D)).bind fun ds => some (d :: ds)).bind fun ds => some (mkRes ds, p10.2))
    ((some (.int .i64 0 : D)).bind fun t4_6 =>
  ((some (t4_6 : D)).bind fun d => (some ([] : List D)).bind fun ds => some (d :: ds)).bind fun ds => some (mkRes ds, p10.2)))))
theorem e90 (t0 : D) (t1 : D) (h : Hp) : R fn90 [t0, t1] h = F90 t0 t1 h :=
  (run_fn (X := X) (F := Fs) (fi := i60) (by kernel_rfl) _ _).trans (by kernel_rfl)
noncomputable def F91 (t0 : D) (t1 : D) (h : Hp) : Option (D × Hp) :=
  (some (.int .i64 0 : D)).bind fun t4 =>
  (some (t0 : D)).bind fun t7 =>
  (R fn100 [t7] h).bind fun p8 =>
  (some (p8.1 : D)).bind fun t5 =>
  (some (t1 : D)).bind fun t9 =>
  (R fn100 [t9] p8.2).bind fun p10 =>
  (some (p10.1 : D)).bind fun t6 =>
  (some (t5 : D)).bind fun t11 =>
  dIf t11
    ((some (t6 : D)).bind fun t12 =>
    dIf t12
      ((some (.int .i64 0 : D)).bind fun t4_1 =>
      ((some (t4_1 : D)).bind fun d => (some ([] : List D)).bind fun ds => some (d :: ds)).bind fun ds => some (mkRes ds, p10.2))
      ((some (.int .i64 (-1) : D)).bind fun t4_2 =>
    ((some (t4_2 : D)).bind fun d => (some ([] : List D)).bind fun ds => some (d :: ds)).bind fun ds => some (mkRes ds, p10.2)))
    ((some (t6 : D)).bind fun t13 =>
  dIf t13
    ((some (.int .i64 1 : D)).bind fun t4_3 =>
    ((some (t4_3 : D)).bind fun d => (some ([] : List D)).bind fun ds => some (d :: ds)).bind fun ds => some (mkRes ds, p10.2))
    ((some (t0 : D)).bind fun t14 =>
  (some (t1 : D)).bind fun t15 =>
  (dBin tab .lss ty9 t14 t15).bind fun t16 =>
  dIf t16
    ((some (.int .i64 (-1) : D)).bind fun t4_4 =>
    ((some (t4_4 : D)).bind fun d => (some ([] : List D)).bind fun ds => some (d :: ds)).bind fun ds => some (mkRes ds, p10.2))
    ((some (t0 : D)).bind fun t17 =>
  (some (t1 : D)).bind fun t18 =>
  (dBin tab .gtr ty9 t17 t18).bind fun t19 =>
  dIf t19
    ((some (.int .i64 1 : D)).bind fun t4_5 =>
    ((some (t4_5 : D)).bind fun d => (some ([] : List D)).bind fun ds => some (d :: ds)).bind fun ds => some (mkRes ds, p10.2))
    ((some (.int .i64 0 : D)).bind fun t4_6 =>
  ((some (t4_6 : D)).bind fun d => (some ([] : List D)).bind fun ds => some (d :: ds)).bind fun ds => some (mkRes ds, p10.2)))))
theorem e91 (t0 : D) (t1 : D) (h : Hp) : R fn91 [t0, t1] h = F91 t0 t1 h :=
  (run_fn (X := X) (F := Fs) (fi := i61) (by kernel_rfl) _ _).trans (by kernel_rfl)
noncomputable def F93 (t0 : D) (t1 : D) (h : Hp) : Option (D × Hp) :=
  (some (t0 : D)).bind fun t4 =>
  (some (t0 : D)).bind fun t5 =>
  (dLenT tab ty58 t5).bind fun t6 =>
  (some (t1 : D)).bind fun t7 =>
  (dBin tab .sub ty3 t6 t7).bind fun t8 =>
  (R fn101 [t4, t8] h).bind fun p9 =>
  (some ([] : List D)).bind fun ds => some (mkRes ds, p9.2)
theorem e93 (t0 : D) (t1 : D) (h : Hp) : R fn93 [t0, t1] h = F93 t0 t1 h :=
  (run_fn (X := X) (F := Fs) (fi := i63) (by kernel_rfl) _ _).trans (by kernel_rfl)
noncomputable def F53 (t0 : D) (t1 : D) (t2 : D) (h : Hp) : Option (D × Hp) :=
  (pBoxF t2).bind fun t5 =>
  (some (.bool false : D)).bind fun t6 =>
  (dFieldAddr tab ty31 9 t5).bind fun t10 =>
  (dLoad tab h ty29 t10).bind fun t11 =>
  (some (t0 : D)).bind fun t12 =>
  (R fn76 [t11, t12] h).bind fun p13 =>
  (some (p13.1 : D)).bind fun t9 =>
  (dExtract 0 t9).bind fun t14 =>
  (dExtract 1 t9).bind fun t15 =>
  (some (t14 : D)).bind fun t7 =>
  (some (t15 : D)).bind fun t8 =>
  (some (t0 : D)).bind fun t16 =>
  (dBin tab .eql ty9 t16 (.str [])).bind fun t17 =>
  (some (t17 : D)).bind fun t18 =>
  (gd t18 false (some (t8 : D))).bind fun t19 =>
  (gd t18 false (some (t19 : D))).bind fun t20 =>
  (gd t20 true (some (t7 : D))).bind fun t21 =>
  (gd t20 true (some (t1 : D))).bind fun t22 =>
  (gd t20 true (dBin tab .eql ty9 t21 t22)).bind fun t23 =>
  (gd t18 false (dPick t20 t23 (.bool false))).bind fun t24 =>
  (dPick t18 (.bool true) t24).bind fun t25 =>
  (some (t25 : D)).bind fun t6_1 =>
  ((some (t6_1 : D)).bind fun d => (some ([] : List D)).bind fun ds => some (d :: ds)).bind fun ds => some (mkRes ds, p13.2)
theorem e53 (t0 : D) (t1 : D) (t2 : D) (h : Hp) : R fn53 [t0, t1, t2] h = F53 t0 t1 t2 h :=
  (run_fn (X := X) (F := Fs) (fi := i64) (by kernel_rfl) _ _).trans (by kernel_rfl)
/-- a loop: slots 4 5 14 25 -/
noncomputable def F94_L0 (t0 : D) (t1 : D) (ds : List D) (h_1 : Hp) : Option Out :=
    (some ((nth 1 ds) : D)).bind fun t11 =>
    (some (t0 : D)).bind fun t12 =>
    (dLenT tab ty28 t12).bind fun t13 =>
    (dBin tab .lss ty3 t11 t13).bind fun t14 =>
    dIf t14
      ((some (t0 : D)).bind fun t17 =>
    (some ((nth 1 ds) : D)).bind fun t18 =>
    (dIndexAddr tab ty28 t17 t18).bind fun t19 =>
    (dLoad tab h_1 ty78 t19).bind fun t20 =>
    (some (t1 : D)).bind fun t21 =>
    (some ((nth 1 ds) : D)).bind fun t22 =>
    (dIndexAddr tab ty28 t21 t22).bind fun t23 =>
    (dLoad tab h_1 ty78 t23).bind fun t24 =>
    (dBin tab .neq ty78 t20 t24).bind fun t25 =>
    dIf t25
      ((some (.bool false : D)).bind fun t4_2 =>
      some (.ret, [t4_2, (nth 1 ds), t14, t25], h_1))
      ((some ((nth 1 ds) : D)).bind fun t15 =>
    (dBin tab .add ty3 t15 (.int .i64 1)).bind fun t16 =>
    (some (t16 : D)).bind fun t5_1 =>
    some (.nrm, [(nth 0 ds), t5_1, t14, t25], h_1)))
      (some ((.ext 0), [(nth 0 ds), (nth 1 ds), t14, (nth 3 ds)], h_1))
noncomputable def F94 (t0 : D) (t1 : D) (h : Hp) : Option (D × Hp) :=
  (some (.bool false : D)).bind fun t4 =>
  (some (t0 : D)).bind fun t6 =>
  (dLenT tab ty28 t6).bind fun t7 =>
  (some (t1 : D)).bind fun t8 =>
  (dLenT tab ty28 t8).bind fun t9 =>
  (dBin tab .neq ty3 t7 t9).bind fun t10 =>
  dIf t10
    ((some (.bool false : D)).bind fun t4_1 =>
    ((some (t4_1 : D)).bind fun d => (some ([] : List D)).bind fun ds => some (d :: ds)).bind fun ds => some (mkRes ds, h))
    ((some (.int .i64 0 : D)).bind fun t5 =>
  ((loopW (F94_L0 t0 t1) [t4, t5, .any, .any] h).bind fun r =>
    some ((unblk 0 r.1), [(nth 0 r.2.1), (nth 1 r.2.1), (nth 2 r.2.1), (nth 3 r.2.1)], r.2.2)).bind fun r_1 =>
  toEnd r_1.1 ((some (.bool true : D)).bind fun t4_3 =>
  ((some (t4_3 : D)).bind fun d => (some ([] : List D)).bind fun ds => some (d :: ds)).bind fun ds => some (mkRes ds, r_1.2.2)) fun x => exEnd x (((some ((nth 0 r_1.2.1) : D)).bind fun d => (some ([] : List D)).bind fun ds => some (d :: ds)).bind fun ds => some (mkRes ds, r_1.2.2)))
theorem e94 (t0 : D) (t1 : D) (h : Hp) : R fn94 [t0, t1] h = F94 t0 t1 h :=
  (run_fn (X := X) (F := Fs) (fi := i65) (by kernel_rfl) _ _).trans (by kernel_rfl)
/-- a loop: slots 4 5 14 25 -/
noncomputable def F95_L0 (t0 : D) (t1 : D) (ds : List D) (h_1 : Hp) : Option Out :=
    (some ((nth 1 ds) : D)).bind fun t11 =>
    (some (t0 : D)).bind fun t12 =>
    (dLenT tab ty29 t12).bind fun t13 =>
    (dBin tab .lss ty3 t11 t13).bind fun t14 =>
    dIf t14
      ((some (t0 : D)).bind fun t17 =>
    (some ((nth 1 ds) : D)).bind fun t18 =>
    (dIndexAddr tab ty29 t17 t18).bind fun t19 =>
    (dLoad tab h_1 ty109 t19).bind fun t20 =>
    (some (t1 : D)).bind fun t21 =>
    (some ((nth 1 ds) : D)).bind fun t22 =>
    (dIndexAddr tab ty29 t21 t22).bind fun t23 =>
    (dLoad tab h_1 ty109 t23).bind fun t24 =>
    (dBin tab .neq ty109 t20 t24).bind fun t25 =>
    dIf t25
      ((some (.bool false : D)).bind fun t4_2 =>
      some (.ret, [t4_2, (nth 1 ds), t14, t25], h_1))
      ((some ((nth 1 ds) : D)).bind fun t15 =>
    (dBin tab .add ty3 t15 (.int .i64 1)).bind fun t16 =>
    (some (t16 : D)).bind fun t5_1 =>
    some (.nrm, [(nth 0 ds), t5_1, t14, t25], h_1)))
      (some ((.ext 0), [(nth 0 ds), (nth 1 ds), t14, (nth 3 ds)], h_1))
noncomputable def F95 (t0 : D) (t1 : D) (h : Hp) : Option (D × Hp) :=
  (some (.bool false : D)).bind fun t4 =>
  (some (t0 : D)).bind fun t6 =>
  (dLenT tab ty29 t6).bind fun t7 =>
  (some (t1 : D)).bind fun t8 =>
  (dLenT tab ty29 t8).bind fun t9 =>
  (dBin tab .neq ty3 t7 t9).bind fun t10 =>
  dIf t10
    ((some (.bool false : D)).bind fun t4_1 =>
    ((some (t4_1 : D)).bind fun d => (some ([] : List D)).bind fun ds => some (d :: ds)).bind fun ds => some (mkRes ds, h))
    ((some (.int .i64 0 : D)).bind fun t5 =>
  ((loopW (F95_L0 t0 t1) [t4, t5, .any, .any] h).bind fun r =>
    some ((unblk 0 r.1), [(nth 0 r.2.1), (nth 1 r.2.1), (nth 2 r.2.1), (nth 3 r.2.1)], r.2.2)).bind fun r_1 =>
  toEnd r_1.1 ((some (.bool true : D)).bind fun t4_3 =>
  ((some (t4_3 : D)).bind fun d => (some ([] : List D)).bind fun ds => some (d :: ds)).bind fun ds => some (mkRes ds, r_1.2.2)) fun x => exEnd x (((some ((nth 0 r_1.2.1) : D)).bind fun d => (some ([] : List D)).bind fun ds => some (d :: ds)).bind fun ds => some (mkRes ds, r_1.2.2)))
theorem e95 (t0 : D) (t1 : D) (h : Hp) : R fn95 [t0, t1] h = F95 t0 t1 h :=
  (run_fn (X := X) (F := Fs) (fi := i66) (by kernel_rfl) _ _).trans (by kernel_rfl)
/-- a loop: slots 4 5 7 10 11 17 -/
noncomputable def F70_L0 (t1 : D) (t8 : D) (t9 : D) (ds : List D) (h_1 : Hp) : Option Out :=
    (dBin tab .lss ty3 (nth 3 ds) t9).bind fun t11 =>
    dIf t11
      ((dIndexAddr tab ty29 t8 (nth 3 ds)).bind fun t12 =>
    (dLoad tab h_1 ty109 t12).bind fun t13 =>
    (boxN 2 t13).bind fun t7 =>
    (dFieldAddr tab ty109 0 t7).bind fun t14 =>
    (dLoad tab h_1 ty9 t14).bind fun t15 =>
    (some (t1 : D)).bind fun t16 =>
    (dBin tab .eql ty9 t15 t16).bind fun t17 =>
    dIf t17
      ((dFieldAddr tab ty109 1 t7).bind fun t18 =>
      (dLoad tab h_1 ty9 t18).bind fun t19 =>
      (some (t19 : D)).bind fun t4_1 =>
      (some (.bool true : D)).bind fun t5_1 =>
      some (.ret, [t4_1, t5_1, t7, (nth 3 ds), t11, t17], h_1))
      ((dBin tab .add ty3 (nth 3 ds) (.int .i64 1)).bind fun t20 =>
    (some (t20 : D)).bind fun t10_1 =>
    some (.nrm, [(nth 0 ds), (nth 1 ds), t7, t10_1, t11, t17], h_1)))
      (some ((.ext 0), [(nth 0 ds), (nth 1 ds), (nth 2 ds), (nth 3 ds), t11, (nth 5 ds)], h_1))
noncomputable def F70 (t0 : D) (t1 : D) (h : Hp) : Option (D × Hp) :=
  (some (.str [] : D)).bind fun t4 =>
  (some (.bool false : D)).bind fun t5 =>
  (some (t0 : D)).bind fun t8 =>
  (dLenT tab ty29 t8).bind fun t9 =>
  (some (.int .i64 0 : D)).bind fun t10 =>
  ((loopW (F70_L0 t1 t8 t9) [t4, t5, .any, t10, .any, .any] h).bind fun r =>
    some ((unblk 0 r.1), [(nth 0 r.2.1), (nth 1 r.2.1), (nth 2 r.2.1), (nth 3 r.2.1), (nth 4 r.2.1), (nth 5 r.2.1)], r.2.2)).bind fun r_1 =>
  toEnd r_1.1 ((some (.str [] : D)).bind fun t4_2 =>
  (some (.bool false : D)).bind fun t5_2 =>
  ((some (t4_2 : D)).bind fun d => ((some (t5_2 : D)).bind fun d => (some ([] : List D)).bind fun ds => some (d :: ds)).bind fun ds => some (d :: ds)).bind fun ds => some (mkRes ds, r_1.2.2)) fun x => exEnd x (((some ((nth 0 r_1.2.1) : D)).bind fun d => ((some ((nth 1 r_1.2.1) : D)).bind fun d => (some ([] : List D)).bind fun ds => some (d :: ds)).bind fun ds => some (d :: ds)).bind fun ds => some (mkRes ds, r_1.2.2))
theorem e70 (t0 : D) (t1 : D) (h : Hp) : R fn70 [t0, t1] h = F70 t0 t1 h :=
  (run_fn (X := X) (F := Fs) (fi := i67) (by kernel_rfl) _ _).trans (by kernel_rfl)
/-- a loop: slots 3 4 10 -/
noncomputable def F96_L0 (t0 : D) (ds : List D) (h_1 : Hp) : Option Out :=
    (some ((nth 1 ds) : D)).bind fun t9 =>
    (dBin tab .gtr ty3 t9 (.int .i64 0)).bind fun t10 =>
    dIf t10
      ((some ((nth 0 ds) : D)).bind fun t13 =>
    (pLitF tab ty98 5 [0, 1, 2, 3, 4] [.str [32], .str [32], .str [44, 32], .str [61], .str []]).bind fun t14 =>
    (some (t0 : D)).bind fun t15 =>
    (R fn24 [t15, .int .i64 5] h_1).bind fun p16 =>
    (dIndexAddr tab ty98 t14 p16.1).bind fun t17 =>
    (dLoad tab p16.2 ty9 t17).bind fun t18 =>
    (some (t0 : D)).bind fun t19 =>
    (R fn102 [t19] p16.2).bind fun p20 =>
    (dBin tab .add ty9 t18 p20.1).bind fun t21 =>
    (dBin tab .add ty9 t13 t21).bind fun t22 =>
    chk (dLoad tab p20.2 ty9 t17 = some t18)
    ((some (t22 : D)).bind fun t3_1 =>
    (some ((nth 1 ds) : D)).bind fun t11 =>
    (dBin tab .sub ty3 t11 (.int .i64 1)).bind fun t12 =>
    (some (t12 : D)).bind fun t4_1 =>
    some (.nrm, [t3_1, t4_1, t10], p20.2)))
      (some ((.ext 0), [(nth 0 ds), (nth 1 ds), t10], h_1))
noncomputable def F96 (t0 : D) (h : Hp) : Option (D × Hp) :=
  (some (.str [] : D)).bind fun t2 =>
  (some (t0 : D)).bind fun t5 =>
  (R fn102 [t5] h).bind fun p6 =>
  (some (p6.1 : D)).bind fun t3 =>
  (some (t0 : D)).bind fun t7 =>
  (R fn24 [t7, .int .i64 4] p6.2).bind fun p8 =>
  (some (p8.1 : D)).bind fun t4 =>
  ((loopW (F96_L0 t0) [t3, t4, .any] p8.2).bind fun r =>
    some ((unblk 0 r.1), [(nth 0 r.2.1), (nth 1 r.2.1), (nth 2 r.2.1)], r.2.2)).bind fun r_1 =>
  toEnd r_1.1 ((some ((nth 0 r_1.2.1) : D)).bind fun t23 =>
  (some (t23 : D)).bind fun t2_1 =>
  ((some (t2_1 : D)).bind fun d => (some ([] : List D)).bind fun ds => some (d :: ds)).bind fun ds => some (mkRes ds, r_1.2.2)) fun x => exEnd x (((some (t2 : D)).bind fun d => (some ([] : List D)).bind fun ds => some (d :: ds)).bind fun ds => some (mkRes ds, r_1.2.2))
theorem e96 (t0 : D) (h : Hp) : R fn96 [t0] h = F96 t0 h :=
  (run_fn (X := X) (F := Fs) (fi := i68) (by kernel_rfl) _ _).trans (by kernel_rfl)
noncomputable def F97 (t0 : D) (h : Hp) : Option (D × Hp) :=
  (some (.int .i64 0 : D)).bind fun t2 =>
  (pLitF tab ty82 6 [0, 1, 2, 3, 4, 5] [.int .i64 1, .int .i64 1, .int .i64 2, .int .i64 5, .int .i64 10, .int .i64 5040]).bind fun t3 =>
  (some (t0 : D)).bind fun t4 =>
  (R fn24 [t4, .int .i64 6] h).bind fun p5 =>
  (dIndexAddr tab ty82 t3 p5.1).bind fun t6 =>
  (dLoad tab p5.2 ty3 t6).bind fun t7 =>
  (some (t7 : D)).bind fun t2_1 =>
  ((some (t2_1 : D)).bind fun d => (some ([] : List D)).bind fun ds => some (d :: ds)).bind fun ds => some (mkRes ds, p5.2)
theorem e97 (t0 : D) (h : Hp) : R fn97 [t0] h = F97 t0 h :=
  (run_fn (X := X) (F := Fs) (fi := i69) (by kernel_rfl) _ _).trans (by kernel_rfl)
/-- a loop: slots 3 5 10 15 -/
noncomputable def F98_L0 (t0 : D) (t4 : D) (ds : List D) (h_1 : Hp) : Option Out :=
    (some ((nth 1 ds) : D)).bind fun t7 =>
    (some (t4 : D)).bind fun t8 =>
    (dLenT tab ty98 t8).bind fun t9 =>
    (dBin tab .lss ty3 t7 t9).bind fun t10 =>
    dIf t10
      ((some (t0 : D)).bind fun t13 =>
    (R fn24 [t13, .int .i64 3] h_1).bind fun p14 =>
    (dBin tab .eql ty3 p14.1 (.int .i64 1)).bind fun t15 =>
    (dIf t15
      ((some ((nth 0 ds) : D)).bind fun t16 =>
      (some (t4 : D)).bind fun t17 =>
      (some ((nth 1 ds) : D)).bind fun t18 =>
      (dIndexAddr tab ty98 t17 t18).bind fun t19 =>
      (dLoad tab p14.2 ty9 t19).bind fun t20 =>
      (some (t0 : D)).bind fun t21 =>
      (R fn33 [t21] p14.2).bind fun p22 =>
      (dBuild tab ty109 [0, 1] [t20, p22.1]).bind fun t23 =>
      (pLitF tab ty29 1 [0] [t23]).bind fun t24 =>
      (dAppend tab p22.2 ty29 ty29 t16 t24).bind fun p25 =>
      chk (dLoad tab p22.2 ty9 t19 = some t20)
      ((some (p25.1 : D)).bind fun t3_1 =>
      some (.nrm, [t3_1], p25.2)))
      (some (.nrm, [(nth 0 ds)], p14.2))).bind fun r_1 =>
    toEnd (unblk 1 r_1.1) ((some ((nth 1 ds) : D)).bind fun t11 =>
    (dBin tab .add ty3 t11 (.int .i64 1)).bind fun t12 =>
    (some (t12 : D)).bind fun t5_1 =>
    some (.nrm, [(nth 0 r_1.2.1), t5_1, t10, t15], r_1.2.2)) fun x => some (x, [(nth 0 r_1.2.1), (nth 1 ds), t10, t15], r_1.2.2))
      (some ((.ext 0), [(nth 0 ds), (nth 1 ds), t10, (nth 3 ds)], h_1))
noncomputable def F98 (t0 : D) (h : Hp) : Option (D × Hp) :=
  (some (.nils : D)).bind fun t2 =>
  (some (.nils : D)).bind fun t3 =>
  (pLitF tab ty98 4 [0, 1, 2, 3] [.str [99, 111, 100, 101], .str [108, 101, 118, 101, 108], .str [109, 115], .str [117, 115, 101, 114]]).bind fun t6 =>
  (some (t6 : D)).bind fun t4 =>
  (some (.int .i64 0 : D)).bind fun t5 =>
  ((loopW (F98_L0 t0 t4) [t3, t5, .any, .any] h).bind fun r =>
    some ((unblk 0 r.1), [(nth 0 r.2.1), (nth 1 r.2.1), (nth 2 r.2.1), (nth 3 r.2.1)], r.2.2)).bind fun r_2 =>
  toEnd r_2.1 ((some ((nth 0 r_2.2.1) : D)).bind fun t26 =>
  (some (t26 : D)).bind fun t2_1 =>
  ((some (t2_1 : D)).bind fun d => (some ([] : List D)).bind fun ds => some (d :: ds)).bind fun ds => scope h r_2.2.2 (mkRes ds)) fun x_1 => exEnd x_1 (((some (t2 : D)).bind fun d => (some ([] : List D)).bind fun ds => some (d :: ds)).bind fun ds => scope h r_2.2.2 (mkRes ds))
theorem e98 (t0 : D) (h : Hp) : R fn98 [t0] h = F98 t0 h :=
  (run_fn (X := X) (F := Fs) (fi := i70) (by kernel_rfl) _ _).trans (by kernel_rfl)
noncomputable def F99 (t0 : D) (h : Hp) : Option (D × Hp) :=
  (some (.bool false : D)).bind fun t2 =>
  (some (t0 : D)).bind fun t3 =>
  (some (t0 : D)).bind fun t4 =>
  (dBin tab .neq ty3 t3 t4).bind fun t5 =>
  (some (t5 : D)).bind fun t2_1 =>
  ((some (t2_1 : D)).bind fun d => (some ([] : List D)).bind fun ds => some (d :: ds)).bind fun ds => some (mkRes ds, h)
theorem e99 (t0 : D) (h : Hp) : R fn99 [t0] h = F99 t0 h :=
  (run_fn (X := X) (F := Fs) (fi := i71) (by kernel_rfl) _ _).trans (by kernel_rfl)
noncomputable def F100 (t0 : D) (h : Hp) : Option (D × Hp) :=
  (some (.bool false : D)).bind fun t2 =>
  (some (t0 : D)).bind fun t3 =>
  (some (t0 : D)).bind fun t4 =>
  (dBin tab .neq ty9 t3 t4).bind fun t5 =>
  (some (t5 : D)).bind fun t2_1 =>
  ((some (t2_1 : D)).bind fun d => (some ([] : List D)).bind fun ds => some (d :: ds)).bind fun ds => some (mkRes ds, h)
theorem e100 (t0 : D) (h : Hp) : R fn100 [t0] h = F100 t0 h :=
  (run_fn (X := X) (F := Fs) (fi := i72) (by kernel_rfl) _ _).trans (by kernel_rfl)
noncomputable def F101 (t0 : D) (t1 : D) (h : Hp) : Option (D × Hp) :=
  (some (t0 : D)).bind fun t4 =>
  (some (t1 : D)).bind fun t5 =>
  (dSliceAt tab ty58 false true false [t4, t5]).bind fun t6 =>
  (R fn103 [t6] h).bind fun p7 =>
  (some (t0 : D)).bind fun t8 =>
  (some (t1 : D)).bind fun t9 =>
  (dSliceAt tab ty58 true false false [t8, t9]).bind fun t10 =>
  (R fn103 [t10] p7.2).bind fun p11 =>
  (some (t0 : D)).bind fun t12 =>
  (R fn103 [t12] p11.2).bind fun p13 =>
  (some ([] : List D)).bind fun ds => some (mkRes ds, p13.2)
theorem e101 (t0 : D) (t1 : D) (h : Hp) : R fn101 [t0, t1] h = F101 t0 t1 h :=
  (run_fn (X := X) (F := Fs) (fi := i73) (by kernel_rfl) _ _).trans (by kernel_rfl)
end Go.Proofs.Ytdoppnhopjdhmaa
