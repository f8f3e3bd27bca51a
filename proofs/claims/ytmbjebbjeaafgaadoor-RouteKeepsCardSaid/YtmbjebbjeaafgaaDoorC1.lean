/- Functions as Lean functions on data. -/
import Derived.Test.YtmbjebbjeaafgaaDoorB1
set_option linter.unusedSimpArgs false
set_option linter.unusedVariables false
set_option linter.unnecessarySimpa false
set_option maxRecDepth 100000
namespace Go.Proofs.YtmbjebbjeaafgaaDoor
open Go.Eng Go.Pi
/-- a loop: slots 2 11 78 79 130 -/
noncomputable def F1165_L0 (p5 : D × Hp) (t6 : D) (t10 : D) (t77 : D) (ds : List D) (h_1 : Hp) : Option Out :=
    (dBin tab .lss ty3 (nth 2 ds) t77).bind fun t79 =>
    dIf t79
      ((some ((nth 2 ds) : D)).bind fun t80 =>
    (some (t80 : D)).bind fun t11 =>
    (dFieldAddr tab ty31 4 t10).bind fun t81 =>
    (dLoad tab h_1 ty28 t81).bind fun t82 =>
    (some (t11 : D)).bind fun t83 =>
    (dIndexAddr tab ty28 t82 t83).bind fun t84 =>
    (dFieldAddr tab ty78 0 t84).bind fun t85 =>
    (dLoad tab h_1 ty3 t85).bind fun t86 =>
    (dFieldAddr tab ty31 4 p5.1).bind fun t87 =>
    (dLoad tab h_1 ty28 t87).bind fun t88 =>
    (some (t11 : D)).bind fun t89 =>
    (dIndexAddr tab ty28 t88 t89).bind fun t90 =>
    (dFieldAddr tab ty78 0 t90).bind fun t91 =>
    (dLoad tab h_1 ty3 t91).bind fun t92 =>
    (dBin tab .neq ty3 t86 t92).bind fun t93 =>
    (some (t93 : D)).bind fun t94 =>
    (gd t94 false (dFieldAddr tab ty31 4 t10)).bind fun t95 =>
    (gd t94 false (dLoad tab h_1 ty28 t95)).bind fun t96 =>
    (gd t94 false (some (t11 : D))).bind fun t97 =>
    (gd t94 false (dIndexAddr tab ty28 t96 t97)).bind fun t98 =>
    (gd t94 false (dFieldAddr tab ty78 1 t98)).bind fun t99 =>
    (gd t94 false (dLoad tab h_1 ty3 t99)).bind fun t100 =>
    (gd t94 false (dFieldAddr tab ty31 4 p5.1)).bind fun t101 =>
    (gd t94 false (dLoad tab h_1 ty28 t101)).bind fun t102 =>
    (gd t94 false (some (t11 : D))).bind fun t103 =>
    (gd t94 false (dIndexAddr tab ty28 t102 t103)).bind fun t104 =>
    (gd t94 false (dFieldAddr tab ty78 1 t104)).bind fun t105 =>
    (gd t94 false (dLoad tab h_1 ty3 t105)).bind fun t106 =>
    (gd t94 false (dBin tab .neq ty3 t100 t106)).bind fun t107 =>
    (dPick t94 (.bool true) t107).bind fun t108 =>
    (some (t108 : D)).bind fun t109 =>
    (gd t109 false (dFieldAddr tab ty74 0 t6)).bind fun t110 =>
    (gd t109 false (dLoad tab h_1 ty9 t110)).bind fun t111 =>
    (gd t109 false (dBin tab .neq ty9 t111 (.str []))).bind fun t112 =>
    (gd t109 false (dFieldAddr tab ty31 4 t10)).bind fun t113 =>
    (gd t109 false (dLoad tab h_1 ty28 t113)).bind fun t114 =>
    (gd t109 false (some (t11 : D))).bind fun t115 =>
    (gd t109 false (dIndexAddr tab ty28 t114 t115)).bind fun t116 =>
    (gd t109 false (dFieldAddr tab ty78 2 t116)).bind fun t117 =>
    (gd t109 false (dLoad tab h_1 ty9 t117)).bind fun t118 =>
    (gd t109 false (dBin tab .eql ty9 t118 (.str []))).bind fun t119 =>
    (gd t109 false (dBin tab .neq ty4 t112 t119)).bind fun t120 =>
    (gd t109 false (some (t120 : D))).bind fun t121 =>
    (gd t121 true (dFieldAddr tab ty31 4 p5.1)).bind fun t122 =>
    (gd t121 true (dLoad tab h_1 ty28 t122)).bind fun t123 =>
    (gd t121 true (some (t11 : D))).bind fun t124 =>
    (gd t121 true (dIndexAddr tab ty28 t123 t124)).bind fun t125 =>
    (gd t121 true (dFieldAddr tab ty78 2 t125)).bind fun t126 =>
    (gd t121 true (dLoad tab h_1 ty9 t126)).bind fun t127 =>
    (gd t121 true (dBin tab .neq ty9 t127 (.str []))).bind fun t128 =>
    (gd t109 false (dPick t121 t128 (.bool false))).bind fun t129 =>
    (dPick t109 (.bool true) t129).bind fun t130 =>
    dIf t130
      ((some (.bool false : D)).bind fun t2_3 =>
      some (.ret, [t2_3, t11, (nth 2 ds), t79, t130], h_1))
      ((dBin tab .add ty3 (nth 2 ds) (.int .i64 1)).bind fun t131 =>
    (some (t131 : D)).bind fun t78_1 =>
    some (.nrm, [(nth 0 ds), t11, t78_1, t79, t130], h_1)))
      (some ((.ext 0), [(nth 0 ds), (nth 1 ds), (nth 2 ds), t79, (nth 4 ds)], h_1))
noncomputable def F1165 (t0 : D) (h : Hp) : Option (D × Hp) :=
  (some (.bool false : D)).bind fun t2 =>
  (R fn9 [] h).bind fun p13 =>
  (dUn .not p13.1).bind fun t14 =>
  dIf t14
    ((some (.bool false : D)).bind fun t2_1 =>
    ((some (t2_1 : D)).bind fun d => (some ([] : List D)).bind fun ds => some (d :: ds)).bind fun ds => scope h p13.2 (mkRes ds))
    ((some (t0 : D)).bind fun t15 =>
  (R fn10 [t15, .int .i64 160] p13.2).bind fun p16 =>
  (some (p16.1 : D)).bind fun t3 =>
  (some (t3 : D)).bind fun t17 =>
  (R fn11 [t17] p16.2).bind fun p18 =>
  (some (t3 : D)).bind fun t19 =>
  (R fn12 [t19] p18.2).bind fun p20 =>
  (some ((.ptr p20.2.length 0 0 : D), dNew p20.2 ty31 10 [[.int .i64 0, .int .i64 0, .int .i64 0, .int .i64 0, .nils, .int .i64 0, .int .i64 0, .str [], .str [], .nils]])).bind fun p5 =>
  (some (p18.1 : D)).bind fun t4 =>
  ((dStore tab p5.2 ty31 p5.1 p20.1).bind fun h' => some ((.und : D), h')).bind fun p906 =>
  (some (t4 : D)).bind fun t22 =>
  (dLoad tab p906.2 ty31 p5.1).bind fun t23 =>
  (R fn38 [t22, t23] p906.2).bind fun p24 =>
  (some (p24.1 : D)).bind fun t21 =>
  (dExtract 0 t21).bind fun t25 =>
  (dExtract 1 t21).bind fun t26 =>
  (boxN 11 t25).bind fun t6 =>
  (some (t26 : D)).bind fun t7 =>
  (some (t4 : D)).bind fun t28 =>
  (dLoad tab p24.2 ty31 p5.1).bind fun t29 =>
  (R fn13 [t28, t29] p24.2).bind fun p30 =>
  (some (p30.1 : D)).bind fun t27 =>
  (dExtract 0 t27).bind fun t31 =>
  (dExtract 1 t27).bind fun t32 =>
  (boxN 6 t31).bind fun t8 =>
  (some (t32 : D)).bind fun t9 =>
  (dFieldAddr tab ty74 1 t6).bind fun t33 =>
  (dLoad tab p30.2 ty31 t33).bind fun t34 =>
  (boxN 10 t34).bind fun t10 =>
  (dFieldAddr tab ty31 0 t10).bind fun t35 =>
  (dLoad tab p30.2 ty3 t35).bind fun t36 =>
  (dFieldAddr tab ty31 0 p5.1).bind fun t37 =>
  (dLoad tab p30.2 ty3 t37).bind fun t38 =>
  (dBin tab .neq ty3 t36 t38).bind fun t39 =>
  (some (t39 : D)).bind fun t40 =>
  (gd t40 false (dFieldAddr tab ty31 1 t10)).bind fun t41 =>
  (gd t40 false (dLoad tab p30.2 ty3 t41)).bind fun t42 =>
  (gd t40 false (dFieldAddr tab ty31 1 p5.1)).bind fun t43 =>
  (gd t40 false (dLoad tab p30.2 ty3 t43)).bind fun t44 =>
  (gd t40 false (dBin tab .neq ty3 t42 t44)).bind fun t45 =>
  (dPick t40 (.bool true) t45).bind fun t46 =>
  (some (t46 : D)).bind fun t47 =>
  (gd t47 false (dFieldAddr tab ty31 2 t10)).bind fun t48 =>
  (gd t47 false (dLoad tab p30.2 ty3 t48)).bind fun t49 =>
  (gd t47 false (dFieldAddr tab ty31 2 p5.1)).bind fun t50 =>
  (gd t47 false (dLoad tab p30.2 ty3 t50)).bind fun t51 =>
  (gd t47 false (dBin tab .neq ty3 t49 t51)).bind fun t52 =>
  (dPick t47 (.bool true) t52).bind fun t53 =>
  (some (t53 : D)).bind fun t54 =>
  (gd t54 false (dFieldAddr tab ty31 3 t10)).bind fun t55 =>
  (gd t54 false (dLoad tab p30.2 ty3 t55)).bind fun t56 =>
  (gd t54 false (dFieldAddr tab ty31 3 p5.1)).bind fun t57 =>
  (gd t54 false (dLoad tab p30.2 ty3 t57)).bind fun t58 =>
  (gd t54 false (dBin tab .neq ty3 t56 t58)).bind fun t59 =>
  (dPick t54 (.bool true) t59).bind fun t60 =>
  (some (t60 : D)).bind fun t61 =>
  (gd t61 false (dFieldAddr tab ty31 4 t10)).bind fun t62 =>
  (gd t61 false (dLoad tab p30.2 ty28 t62)).bind fun t63 =>
  (gd t61 false (dLenT tab ty28 t63)).bind fun t64 =>
  (gd t61 false (dFieldAddr tab ty31 4 p5.1)).bind fun t65 =>
  (gd t61 false (dLoad tab p30.2 ty28 t65)).bind fun t66 =>
  (gd t61 false (dLenT tab ty28 t66)).bind fun t67 =>
  (gd t61 false (dBin tab .neq ty3 t64 t67)).bind fun t68 =>
  (dPick t61 (.bool true) t68).bind fun t69 =>
  (some (t69 : D)).bind fun t70 =>
  (gd t70 false (dLoad tab p30.2 ty74 t6)).bind fun t71 =>
  (gdW t70 false p30.2 (R fn1042 [t71] p30.2)).bind fun p72 =>
  (gd t70 false (dBin tab .neq ty49 p72.1 (.int .i64 0))).bind fun t73 =>
  (dPick t70 (.bool true) t73).bind fun t74 =>
  dIf t74
    ((some (.bool false : D)).bind fun t2_2 =>
    ((some (t2_2 : D)).bind fun d => (some ([] : List D)).bind fun ds => some (d :: ds)).bind fun ds => scope h p72.2 (mkRes ds))
    ((dFieldAddr tab ty31 4 t10).bind fun t75 =>
  (dLoad tab p72.2 ty28 t75).bind fun t76 =>
  (dLenT tab ty28 t76).bind fun t77 =>
  (some (.int .i64 0 : D)).bind fun t78 =>
  ((loopW (F1165_L0 p5 t6 t10 t77) [t2, .any, t78, .any, .any] p72.2).bind fun r =>
    some ((unblk 0 r.1), [(nth 0 r.2.1), (nth 1 r.2.1), (nth 2 r.2.1), (nth 3 r.2.1), (nth 4 r.2.1)], r.2.2)).bind fun r_1 =>
  toEnd r_1.1 ((some (t9 : D)).bind fun t132 =>
  (some (t132 : D)).bind fun t133 =>
  (gd t133 true (dFieldAddr tab ty34 5 t8)).bind fun t134 =>
  (gd t133 true (dLoad tab r_1.2.2 ty4 t134)).bind fun t135 =>
  (dPick t133 t135 (.bool false)).bind fun t136 =>
  dIf t136
    ((dFieldAddr tab ty74 0 t6).bind fun t137 =>
    (dLoad tab r_1.2.2 ty9 t137).bind fun t138 =>
    (dFieldAddr tab ty34 0 t8).bind fun t139 =>
    (dLoad tab r_1.2.2 ty9 t139).bind fun t140 =>
    (dBin tab .eql ty9 t138 t140).bind fun t141 =>
    (some (t141 : D)).bind fun t142 =>
    (gd t142 true (some (t7 : D))).bind fun t143 =>
    (gd t142 true (dFieldAddr tab ty34 4 t8)).bind fun t144 =>
    (gd t142 true (dLoad tab r_1.2.2 ty3 t144)).bind fun t145 =>
    (gd t142 true (dBin tab .eql ty3 t143 t145)).bind fun t146 =>
    (dPick t142 t146 (.bool false)).bind fun t147 =>
    (some (t147 : D)).bind fun t2_4 =>
    ((some (t2_4 : D)).bind fun d => (some ([] : List D)).bind fun ds => some (d :: ds)).bind fun ds => scope h r_1.2.2 (mkRes ds))
    ((some (.str [109, 97, 105, 110] : D)).bind fun t12 =>
  (some (t9 : D)).bind fun t148 =>
  (dIf t148
    ((dFieldAddr tab ty34 3 t8).bind fun t149 =>
    (dLoad tab r_1.2.2 ty9 t149).bind fun t150 =>
    (some (t150 : D)).bind fun t12_1 =>
    some (.nrm, [t12_1], r_1.2.2))
    (some (.nrm, [t12], r_1.2.2))).bind fun r_2 =>
  toEnd r_2.1 ((some ((nth 0 r_2.2.1) : D)).bind fun t151 =>
  (dFieldAddr tab ty31 8 p5.1).bind fun t152 =>
  ((dStore tab r_2.2.2 ty9 t152 t151).bind fun h' => some ((.und : D), h')).bind fun p902 =>
  (dFieldAddr tab ty74 0 t6).bind fun t153 =>
  (dLoad tab p902.2 ty9 t153).bind fun t154 =>
  (dBin tab .eql ty9 t154 (.str [])).bind fun t155 =>
  (some (t155 : D)).bind fun t156 =>
  (gd t156 true (some (t7 : D))).bind fun t157 =>
  (gd t156 true (dFieldAddr tab ty34 4 t8)).bind fun t158 =>
  (gd t156 true (dLoad tab p902.2 ty3 t158)).bind fun t159 =>
  (gd t156 true (dBin tab .eql ty3 t157 t159)).bind fun t160 =>
  (dPick t156 t160 (.bool false)).bind fun t161 =>
  (some (t161 : D)).bind fun t162 =>
  (gd t162 true (dLoad tab p902.2 ty74 t6)).bind fun t163 =>
  (gd t162 true (dLoad tab p902.2 ty31 p5.1)).bind fun t164 =>
  (gd t162 true (dBuild tab ty74 [1] [t164])).bind fun t165 =>
  (gdW t162 true p902.2 (R fn82 [t163, t165] p902.2)).bind fun p166 =>
  (dPick t162 p166.1 (.bool false)).bind fun t167 =>
  (some (t167 : D)).bind fun t2_5 =>
  ((some (t2_5 : D)).bind fun d => (some ([] : List D)).bind fun ds => some (d :: ds)).bind fun ds => scope h p166.2 (mkRes ds)) fun x_1 => exEnd x_1 (((some ((nth 0 r_1.2.1) : D)).bind fun d => (some ([] : List D)).bind fun ds => some (d :: ds)).bind fun ds => scope h r_2.2.2 (mkRes ds)))) fun x => exEnd x (((some ((nth 0 r_1.2.1) : D)).bind fun d => (some ([] : List D)).bind fun ds => some (d :: ds)).bind fun ds => scope h r_1.2.2 (mkRes ds))))
theorem e1165 (t0 : D) (h : Hp) : R fn1165 [t0] h = F1165 t0 h :=
  (run_fn (X := X) (F := Fs) (fi := i3) (by kernel_rfl) _ _).trans (by kernel_rfl)
noncomputable def F9 (h : Hp) : Option (D × Hp) :=
  (some (.bool false : D)).bind fun t0 =>
  (dBuild tab ty78 [1] [.int .i64 3]).bind fun t4 =>
  (pLitF tab ty28 1 [0] [t4]).bind fun t5 =>
  (dBuild tab ty31 [3, 6, 4] [.int .i64 3, .int .i64 1, t5]).bind fun t6 =>
  (R fn38 [.nils, t6] h).bind fun p7 =>
  (some (p7.1 : D)).bind fun t3 =>
  (dExtract 0 t3).bind fun t8 =>
  (dExtract 1 t3).bind fun t9 =>
  (boxN 11 t8).bind fun t1 =>
  (some (t9 : D)).bind fun t2 =>
  (dFieldAddr tab ty74 1 t1).bind fun t10 =>
  (dFieldAddr tab ty31 8 t10).bind fun t11 =>
  (dLoad tab p7.2 ty9 t11).bind fun t12 =>
  (dBin tab .eql ty9 t12 (.str [109, 97, 105, 110])).bind fun t13 =>
  (some (t13 : D)).bind fun t14 =>
  (gd t14 true (some (t2 : D))).bind fun t15 =>
  (gd t14 true (dBin tab .eql ty3 t15 (.int .i64 0))).bind fun t16 =>
  (dPick t14 t16 (.bool false)).bind fun t17 =>
  (some (t17 : D)).bind fun t18 =>
  (gd t18 true (dFieldAddr tab ty74 0 t1)).bind fun t19 =>
  (gd t18 true (dLoad tab p7.2 ty9 t19)).bind fun t20 =>
  (gd t18 true (dBin tab .eql ty9 t20 (.str []))).bind fun t21 =>
  (dPick t18 t21 (.bool false)).bind fun t22 =>
  (some (t22 : D)).bind fun t0_1 =>
  ((some (t0_1 : D)).bind fun d => (some ([] : List D)).bind fun ds => some (d :: ds)).bind fun ds => some (mkRes ds, p7.2)
theorem e9 (h : Hp) : R fn9 [] h = F9 h :=
  (run_fn (X := X) (F := Fs) (fi := i4) (by kernel_rfl) _ _).trans (by kernel_rfl)
noncomputable def F10 (t0 : D) (t1 : D) (h : Hp) : Option (D × Hp) :=
  (some (.nilp : D)).bind fun t4 =>
  (some (t0 : D)).bind fun t5 =>
  (dLenT tab ty22 t5).bind fun t6 =>
  (some (t1 : D)).bind fun t7 =>
  (dBin tab .gtr ty3 t6 t7).bind fun t8 =>
  (dIf t8
    ((some (t0 : D)).bind fun t9 =>
    (some (t1 : D)).bind fun t10 =>
    (dSliceAt tab ty22 false true false [t9, t10]).bind fun t11 =>
    (some (t11 : D)).bind fun t0_1 =>
    some (.nrm, [t0_1], h))
    (some (.nrm, [t0], h))).bind fun r =>
  toEnd r.1 ((some ((nth 0 r.2.1) : D)).bind fun t12 =>
  (dBuild tab ty80 [0] [t12]).bind fun t13 =>
  (wBox ty80 2 r.2.2 t13).bind fun p14 =>
  (some (p14.1 : D)).bind fun t4_1 =>
  ((some (t4_1 : D)).bind fun d => (some ([] : List D)).bind fun ds => some (d :: ds)).bind fun ds => some (mkRes ds, p14.2)) fun x => exEnd x (((some (t4 : D)).bind fun d => (some ([] : List D)).bind fun ds => some (d :: ds)).bind fun ds => some (mkRes ds, r.2.2))
theorem e10 (t0 : D) (t1 : D) (h : Hp) : R fn10 [t0, t1] h = F10 t0 t1 h :=
  (run_fn (X := X) (F := Fs) (fi := i5) (by kernel_rfl) _ _).trans (by kernel_rfl)
/-- a loop: slots 3 4 5 9 -/
noncomputable def F11_L0 (t0 : D) (ds : List D) (h_1 : Hp) : Option Out :=
    (some ((nth 1 ds) : D)).bind fun t8 =>
    (dBin tab .gtr ty3 t8 (.int .i64 0)).bind fun t9 =>
    dIf t9
      ((some ((nth 0 ds) : D)).bind fun t12 =>
    (dLenT tab ty26 t12).bind fun t13 =>
    (dBin tab .add ty3 (.int .i64 48) t13).bind fun t14 =>
    (dConv tab ty3 ty5 t14).bind fun t15 =>
    (pLitF tab ty22 1 [0] [t15]).bind fun t16 =>
    (dToStr h_1 t16).bind fun t17 =>
    (dBin tab .add ty9 (.str [114]) t17).bind fun t18 =>
    (some (t0 : D)).bind fun t19 =>
    (pLitF tab ty98 4 [0, 1, 2, 3] [.str [108, 101, 118, 101, 108], .str [117, 115, 101, 114], .str [], .str [105, 100]]).bind fun t20 =>
    (R fn40 [t19, t20] h_1).bind fun p21 =>
    (some (t0 : D)).bind fun t22 =>
    (pLitF tab ty98 4 [0, 1, 2, 3] [.str [105, 110, 102, 111], .str [119, 97, 114, 110], .str [97, 110, 110], .str [55]]).bind fun t23 =>
    (R fn40 [t22, t23] p21.2).bind fun p24 =>
    (some (t0 : D)).bind fun t25 =>
    (pLitF tab ty98 3 [0, 1, 2] [.str [109, 97, 105, 110], .str [97, 117, 100, 105, 116], .str [120, 45, 49]]).bind fun t26 =>
    (R fn40 [t25, t26] p24.2).bind fun p27 =>
    (some (t0 : D)).bind fun t28 =>
    (R fn39 [t28, .int .i64 10] p27.2).bind fun p29 =>
    (some (t0 : D)).bind fun t30 =>
    (R fn39 [t30, .int .i64 3] p29.2).bind fun p31 =>
    (dBin tab .eql ty3 p31.1 (.int .i64 2)).bind fun t32 =>
    (dBuild tab ty34 [0, 1, 2, 3, 4, 5] [t18, p21.1, p24.1, p27.1, p29.1, t32]).bind fun t33 =>
    (some (.any : D)).bind fun t5 =>
    chk (dToStr p21.2 t16 = some t17)
    (chk (dToStr p24.2 t16 = some t17)
    (chk (dToStr p27.2 t16 = some t17)
    (chk (dToStr p29.2 t16 = some t17)
    (chk (dToStr p31.2 t16 = some t17)
    (((dStore tab (dNew p31.2 ty34 6 [[.str [], .str [], .str [], .str [], .int .i64 0, .bool false]]) ty34 (.ptr p31.2.length 0 0) t33).bind fun h' => some ((.und : D), h')).bind fun p923 =>
    (some ((nth 0 ds) : D)).bind fun t34 =>
    (dLoad tab p923.2 ty34 (.ptr p31.2.length 0 0)).bind fun t35 =>
    (pLitF tab ty26 1 [0] [t35]).bind fun t36 =>
    (dAppend tab p923.2 ty26 ty26 t34 t36).bind fun p37 =>
    (some (p37.1 : D)).bind fun t3_1 =>
    (some ((nth 1 ds) : D)).bind fun t10 =>
    (dBin tab .sub ty3 t10 (.int .i64 1)).bind fun t11 =>
    (some (t11 : D)).bind fun t4_1 =>
    some (.nrm, [t3_1, t4_1, .ptr p31.2.length 0 0, t9], p37.2)))))))
      (some ((.ext 0), [(nth 0 ds), (nth 1 ds), (nth 2 ds), t9], h_1))
noncomputable def F11 (t0 : D) (h : Hp) : Option (D × Hp) :=
  (some (.nils : D)).bind fun t2 =>
  (some (.nils : D)).bind fun t3 =>
  (some (t0 : D)).bind fun t6 =>
  (R fn39 [t6, .int .i64 4] h).bind fun p7 =>
  (some (p7.1 : D)).bind fun t4 =>
  ((loopW (F11_L0 t0) [t3, t4, .any, .any] p7.2).bind fun r =>
    some ((unblk 0 r.1), [(nth 0 r.2.1), (nth 1 r.2.1), (nth 2 r.2.1), (nth 3 r.2.1)], r.2.2)).bind fun r_1 =>
  toEnd r_1.1 ((some ((nth 0 r_1.2.1) : D)).bind fun t38 =>
  (some (t38 : D)).bind fun t2_1 =>
  ((some (t2_1 : D)).bind fun d => (some ([] : List D)).bind fun ds => some (d :: ds)).bind fun ds => scope h r_1.2.2 (mkRes ds)) fun x => exEnd x (((some (t2 : D)).bind fun d => (some ([] : List D)).bind fun ds => some (d :: ds)).bind fun ds => scope h r_1.2.2 (mkRes ds))
theorem e11 (t0 : D) (h : Hp) : R fn11 [t0] h = F11 t0 h :=
  (run_fn (X := X) (F := Fs) (fi := i6) (by kernel_rfl) _ _).trans (by kernel_rfl)
noncomputable def F12 (t0 : D) (h : Hp) : Option (D × Hp) :=
  (some ((.ptr h.length 0 0 : D), dNew h ty31 10 [[.int .i64 0, .int .i64 0, .int .i64 0, .int .i64 0, .nils, .int .i64 0, .int .i64 0, .str [], .str [], .nils]])).bind fun p2 =>
  (some (t0 : D)).bind fun t5 =>
  (R fn39 [t5, .int .i64 3] p2.2).bind fun p6 =>
  (some (t0 : D)).bind fun t7 =>
  (R fn39 [t7, .int .i64 3] p6.2).bind fun p8 =>
  (some (t0 : D)).bind fun t9 =>
  (R fn39 [t9, .int .i64 6] p8.2).bind fun p10 =>
  (dBin tab .mul ty3 (.int .i64 10) p10.1).bind fun t11 =>
  (some (t0 : D)).bind fun t12 =>
  (R fn39 [t12, .int .i64 256] p10.2).bind fun p13 =>
  (dBin tab .mul ty3 (.int .i64 1000) p13.1).bind fun t14 =>
  (pLitF tab ty82 4 [0, 1, 2, 3] [.int .i64 1, .int .i64 1, .int .i64 2, .int .i64 5040]).bind fun t15 =>
  (some (t0 : D)).bind fun t16 =>
  (R fn39 [t16, .int .i64 4] p13.2).bind fun p17 =>
  (dIndexAddr tab ty82 t15 p17.1).bind fun t18 =>
  (dLoad tab p17.2 ty3 t18).bind fun t19 =>
  (some (t0 : D)).bind fun t20 =>
  (pLitF tab ty98 4 [0, 1, 2, 3] [.str [], .str [116, 49], .str [116, 50], .str [105, 100]]).bind fun t21 =>
  (R fn40 [t20, t21] p17.2).bind fun p22 =>
  (some (t0 : D)).bind fun t23 =>
  (pLitF tab ty98 2 [0, 1] [.str [109, 97, 105, 110], .str [97, 117, 100, 105, 116]]).bind fun t24 =>
  (R fn40 [t23, t24] p22.2).bind fun p25 =>
  (some (t0 : D)).bind fun t26 =>
  (R fn41 [t26] p25.2).bind fun p27 =>
  (dBuild tab ty31 [0, 1, 2, 5, 6, 7, 8, 9] [p6.1, p8.1, t11, t14, t19, p22.1, p25.1, p27.1]).bind fun t28 =>
  (some (.any : D)).bind fun t3 =>
  chk (dLoad tab p22.2 ty3 t18 = some t19)
  (chk (dLoad tab p25.2 ty3 t18 = some t19)
  (chk (dLoad tab p27.2 ty3 t18 = some t19)
  (((dStore tab (dNew p27.2 ty31 10 [[.int .i64 0, .int .i64 0, .int .i64 0, .int .i64 0, .nils, .int .i64 0, .int .i64 0, .str [], .str [], .nils]]) ty31 (.ptr p27.2.length 0 0) t28).bind fun h' => some ((.und : D), h')).bind fun p925 =>
  (some (t0 : D)).bind fun t29 =>
  (dFieldAddr tab ty31 2 (.ptr p27.2.length 0 0)).bind fun t30 =>
  (dLoad tab p925.2 ty3 t30).bind fun t31 =>
  (R fn42 [t29, t31, .int .i64 3, .bool true] p925.2).bind fun p32 =>
  (dFieldAddr tab ty31 4 (.ptr p27.2.length 0 0)).bind fun t33 =>
  ((dStore tab p32.2 ty28 t33 p32.1).bind fun h' => some ((.und : D), h')).bind fun p905 =>
  (dFieldAddr tab ty31 4 (.ptr p27.2.length 0 0)).bind fun t34 =>
  (dLoad tab p905.2 ty28 t34).bind fun t35 =>
  (dFieldAddr tab ty31 4 (.ptr p27.2.length 0 0)).bind fun t36 =>
  (dLoad tab p905.2 ty28 t36).bind fun t37 =>
  (dLenT tab ty28 t37).bind fun t38 =>
  (dBin tab .sub ty3 t38 (.int .i64 1)).bind fun t39 =>
  (dIndexAddr tab ty28 t35 t39).bind fun t40 =>
  (dLoad tab p905.2 ty78 t40).bind fun t41 =>
  (boxN 3 t41).bind fun t4 =>
  (dFieldAddr tab ty78 0 t4).bind fun t42 =>
  (dLoad tab p905.2 ty3 t42).bind fun t43 =>
  (dFieldAddr tab ty78 1 t4).bind fun t44 =>
  (dLoad tab p905.2 ty3 t44).bind fun t45 =>
  (dBin tab .add ty3 t43 t45).bind fun t46 =>
  (dFieldAddr tab ty31 3 (.ptr p27.2.length 0 0)).bind fun t47 =>
  ((dStore tab p905.2 ty3 t47 t46).bind fun h' => some ((.und : D), h')).bind fun p906 =>
  (dLoad tab p906.2 ty31 (.ptr p27.2.length 0 0)).bind fun t48 =>
  ((dStore tab p906.2 ty31 p2.1 t48).bind fun h' => some ((.und : D), h')).bind fun p901 =>
  ((some (p2.1 : D)).bind fun p => (dLoad tab p901.2 ty31 p).bind fun d => (some ([] : List D)).bind fun ds => some (d :: ds)).bind fun ds => scope h p901.2 (mkRes ds))))
theorem e12 (t0 : D) (h : Hp) : R fn12 [t0] h = F12 t0 h :=
  (run_fn (X := X) (F := Fs) (fi := i7) (by kernel_rfl) _ _).trans (by kernel_rfl)
/-- a loop: slots 10 44 45 -/
noncomputable def F38_L0 (p8 : D × Hp) (t42 : D) (t43 : D) (ds : List D) (h_1 : Hp) : Option Out :=
    (dBin tab .lss ty3 (nth 1 ds) t43).bind fun t45 =>
    dIf t45
      ((dIndexAddr tab ty28 t42 (nth 1 ds)).bind fun t46 =>
    (dLoad tab h_1 ty78 t46).bind fun t47 =>
    (boxN 3 t47).bind fun t10 =>
    (dFieldAddr tab ty31 4 p8.1).bind fun t48 =>
    (dLoad tab h_1 ty28 t48).bind fun t49 =>
    (dFieldAddr tab ty78 0 t10).bind fun t50 =>
    (dLoad tab h_1 ty3 t50).bind fun t51 =>
    (dFieldAddr tab ty78 1 t10).bind fun t52 =>
    (dLoad tab h_1 ty3 t52).bind fun t53 =>
    (dBuild tab ty78 [0, 1] [t51, t53]).bind fun t54 =>
    (pLitF tab ty28 1 [0] [t54]).bind fun t55 =>
    (dAppend tab h_1 ty28 ty28 t49 t55).bind fun p56 =>
    (dFieldAddr tab ty31 4 p8.1).bind fun t57 =>
    ((dStore tab p56.2 ty28 t57 p56.1).bind fun h' => some ((.und : D), h')).bind fun p910_1 =>
    (dBin tab .add ty3 (nth 1 ds) (.int .i64 1)).bind fun t58 =>
    (some (t58 : D)).bind fun t44_1 =>
    some (.nrm, [t10, t44_1, t45], p910_1.2))
      (some ((.ext 0), [(nth 0 ds), (nth 1 ds), t45], h_1))
noncomputable def F38 (t0 : D) (t1 : D) (h : Hp) : Option (D × Hp) :=
  (wBox ty31 10 h t1).bind fun p3 =>
  (some ((.ptr p3.2.length 0 0 : D), dNew p3.2 ty74 11 [[.str [], .int .i64 0, .int .i64 0, .int .i64 0, .int .i64 0, .nils, .int .i64 0, .int .i64 0, .str [], .str [], .nils]])).bind fun p4 =>
  (some (.int .i64 0 : D)).bind fun t5 =>
  (some (t0 : D)).bind fun t12 =>
  (dLoad tab p4.2 ty31 p3.1).bind fun t13 =>
  (R fn13 [t12, t13] p4.2).bind fun p14 =>
  (some (p14.1 : D)).bind fun t11 =>
  (dExtract 0 t11).bind fun t15 =>
  (dExtract 1 t11).bind fun t16 =>
  (boxN 6 t15).bind fun t6 =>
  (some (t16 : D)).bind fun t7 =>
  (some (t7 : D)).bind fun t17 =>
  (dUn .not t17).bind fun t18 =>
  dIf t18
    ((dFieldAddr tab ty31 8 p3.1).bind fun t19 =>
    ((dStore tab p14.2 ty9 t19 (.str [109, 97, 105, 110])).bind fun h' => some ((.und : D), h')).bind fun p901 =>
    (dLoad tab p901.2 ty31 p3.1).bind fun t20 =>
    (dBuild tab ty74 [1] [t20]).bind fun t21 =>
    ((dStore tab p901.2 ty74 p4.1 t21).bind fun h' => some ((.und : D), h')).bind fun p902 =>
    (some (.int .i64 0 : D)).bind fun t5_1 =>
    ((some (p4.1 : D)).bind fun p => (dLoad tab p902.2 ty74 p).bind fun d => ((some (t5_1 : D)).bind fun d => (some ([] : List D)).bind fun ds => some (d :: ds)).bind fun ds => some (d :: ds)).bind fun ds => scope h p902.2 (mkRes ds))
    ((dFieldAddr tab ty34 5 t6).bind fun t22 =>
  (dLoad tab p14.2 ty4 t22).bind fun t23 =>
  (dUn .not t23).bind fun t24 =>
  dIf t24
    ((dFieldAddr tab ty34 3 t6).bind fun t25 =>
    (dLoad tab p14.2 ty9 t25).bind fun t26 =>
    (dFieldAddr tab ty31 8 p3.1).bind fun t27 =>
    ((dStore tab p14.2 ty9 t27 t26).bind fun h' => some ((.und : D), h')).bind fun p903 =>
    (dLoad tab p903.2 ty31 p3.1).bind fun t28 =>
    (dBuild tab ty74 [1] [t28]).bind fun t29 =>
    (dFieldAddr tab ty34 4 t6).bind fun t30 =>
    (dLoad tab p903.2 ty3 t30).bind fun t31 =>
    ((dStore tab p903.2 ty74 p4.1 t29).bind fun h' => some ((.und : D), h')).bind fun p904 =>
    chk (dLoad tab p904.2 ty3 t30 = some t31)
    ((some (t31 : D)).bind fun t5_2 =>
    ((some (p4.1 : D)).bind fun p => (dLoad tab p904.2 ty74 p).bind fun d => ((some (t5_2 : D)).bind fun d => (some ([] : List D)).bind fun ds => some (d :: ds)).bind fun ds => some (d :: ds)).bind fun ds => scope h p904.2 (mkRes ds)))
    ((dFieldAddr tab ty31 0 p3.1).bind fun t32 =>
  (dLoad tab p14.2 ty3 t32).bind fun t33 =>
  (dFieldAddr tab ty31 1 p3.1).bind fun t34 =>
  (dLoad tab p14.2 ty3 t34).bind fun t35 =>
  (dFieldAddr tab ty31 2 p3.1).bind fun t36 =>
  (dLoad tab p14.2 ty3 t36).bind fun t37 =>
  (dFieldAddr tab ty31 3 p3.1).bind fun t38 =>
  (dLoad tab p14.2 ty3 t38).bind fun t39 =>
  (dBuild tab ty31 [0, 1, 2, 3] [t33, t35, t37, t39]).bind fun t40 =>
  (some ((.ptr p14.2.length 0 0 : D), dNew p14.2 ty31 10 [[.int .i64 0, .int .i64 0, .int .i64 0, .int .i64 0, .nils, .int .i64 0, .int .i64 0, .str [], .str [], .nils]])).bind fun p8 =>
  ((dStore tab p8.2 ty31 p8.1 t40).bind fun h' => some ((.und : D), h')).bind fun p910 =>
  (dFieldAddr tab ty31 4 p3.1).bind fun t41 =>
  (dLoad tab p910.2 ty28 t41).bind fun t42 =>
  (dLenT tab ty28 t42).bind fun t43 =>
  (some (.int .i64 0 : D)).bind fun t44 =>
  ((loopW (F38_L0 p8 t42 t43) [.any, t44, .any] p910.2).bind fun r =>
    some ((unblk 0 r.1), [(nth 0 r.2.1), (nth 1 r.2.1), (nth 2 r.2.1)], r.2.2)).bind fun r_1 =>
  toEnd r_1.1 ((dFieldAddr tab ty34 0 t6).bind fun t59 =>
  (dLoad tab r_1.2.2 ty9 t59).bind fun t60 =>
  (dLoad tab r_1.2.2 ty31 p8.1).bind fun t61 =>
  (dBuild tab ty74 [0, 1] [t60, t61]).bind fun t62 =>
  (dFieldAddr tab ty34 4 t6).bind fun t63 =>
  (dLoad tab r_1.2.2 ty3 t63).bind fun t64 =>
  ((dStore tab r_1.2.2 ty74 p4.1 t62).bind fun h' => some ((.und : D), h')).bind fun p906 =>
  chk (dLoad tab p906.2 ty3 t63 = some t64)
  ((some (t64 : D)).bind fun t5_3 =>
  ((some (p4.1 : D)).bind fun p => (dLoad tab p906.2 ty74 p).bind fun d => ((some (t5_3 : D)).bind fun d => (some ([] : List D)).bind fun ds => some (d :: ds)).bind fun ds => some (d :: ds)).bind fun ds => scope h p906.2 (mkRes ds))) fun x => exEnd x (((some (p4.1 : D)).bind fun p => (dLoad tab r_1.2.2 ty74 p).bind fun d => ((some (t5 : D)).bind fun d => (some ([] : List D)).bind fun ds => some (d :: ds)).bind fun ds => some (d :: ds)).bind fun ds => scope h r_1.2.2 (mkRes ds))))
theorem e38 (t0 : D) (t1 : D) (h : Hp) : R fn38 [t0, t1] h = F38 t0 t1 h :=
  (run_fn (X := X) (F := Fs) (fi := i8) (by kernel_rfl) _ _).trans (by kernel_rfl)
/-- a loop: slots 5 7 10 11 17 -/
noncomputable def F13_L0 (t3 : D) (p4 : D × Hp) (t8 : D) (t9 : D) (ds : List D) (h_1 : Hp) : Option Out :=
    (dBin tab .lss ty3 (nth 2 ds) t9).bind fun t11 =>
    dIf t11
      ((dIndexAddr tab ty26 t8 (nth 2 ds)).bind fun t12 =>
    (dLoad tab h_1 ty34 t12).bind fun t13 =>
    (boxN 6 t13).bind fun t7 =>
    (dLoad tab h_1 ty34 t7).bind fun t14 =>
    (R fn43 [t14] h_1).bind fun p15 =>
    (dLoad tab p15.2 ty31 t3).bind fun t16 =>
    (callV R p15.1 [t16] p15.2).bind fun p17 =>
    chk (dLoad tab h_1 ty31 t3 = some t16)
    (dIf p17.1
      ((dLoad tab p17.2 ty34 t7).bind fun t18 =>
      ((dStore tab p17.2 ty34 p4.1 t18).bind fun h' => some ((.und : D), h')).bind fun p901 =>
      (some (.bool true : D)).bind fun t5_1 =>
      some (.ret, [t5_1, t7, (nth 2 ds), t11, p17.1], p901.2))
      ((dBin tab .add ty3 (nth 2 ds) (.int .i64 1)).bind fun t19 =>
    (some (t19 : D)).bind fun t10_1 =>
    some (.nrm, [(nth 0 ds), t7, t10_1, t11, p17.1], p17.2))))
      (some ((.ext 0), [(nth 0 ds), (nth 1 ds), (nth 2 ds), t11, (nth 4 ds)], h_1))
noncomputable def F13 (t0 : D) (t1 : D) (h : Hp) : Option (D × Hp) :=
  (pBoxF t1).bind fun t3 =>
  (some ((.ptr h.length 0 0 : D), dNew h ty34 6 [[.str [], .str [], .str [], .str [], .int .i64 0, .bool false]])).bind fun p4 =>
  (some (.bool false : D)).bind fun t5 =>
  (some (t0 : D)).bind fun t8 =>
  (dLenT tab ty26 t8).bind fun t9 =>
  (some (.int .i64 0 : D)).bind fun t10 =>
  ((loopW (F13_L0 t3 p4 t8 t9) [t5, .any, t10, .any, .any] p4.2).bind fun r =>
    some ((unblk 0 r.1), [(nth 0 r.2.1), (nth 1 r.2.1), (nth 2 r.2.1), (nth 3 r.2.1), (nth 4 r.2.1)], r.2.2)).bind fun r_1 =>
  toEnd r_1.1 ((dBuild tab ty34 [] []).bind fun t20 =>
  ((dStore tab r_1.2.2 ty34 p4.1 t20).bind fun h' => some ((.und : D), h')).bind fun p901_1 =>
  (some (.bool false : D)).bind fun t5_2 =>
  ((some (p4.1 : D)).bind fun p => (dLoad tab p901_1.2 ty34 p).bind fun d => ((some (t5_2 : D)).bind fun d => (some ([] : List D)).bind fun ds => some (d :: ds)).bind fun ds => some (d :: ds)).bind fun ds => scope h p901_1.2 (mkRes ds)) fun x => exEnd x (((some (p4.1 : D)).bind fun p => (dLoad tab r_1.2.2 ty34 p).bind fun d => ((some ((nth 0 r_1.2.1) : D)).bind fun d => (some ([] : List D)).bind fun ds => some (d :: ds)).bind fun ds => some (d :: ds)).bind fun ds => scope h r_1.2.2 (mkRes ds))
theorem e13 (t0 : D) (t1 : D) (h : Hp) : R fn13 [t0, t1] h = F13 t0 t1 h :=
  (run_fn (X := X) (F := Fs) (fi := i9) (by kernel_rfl) _ _).trans (by kernel_rfl)
noncomputable def F1042 (t0 : D) (h : Hp) : Option (D × Hp) :=
  (pBoxF t0).bind fun t1 =>
  (some (.int .i64 0 : D)).bind fun t2 =>
  (dFieldAddr tab ty74 1 t1).bind fun t5 =>
  (dLoad tab h ty31 t5).bind fun t6 =>
  (boxN 10 t6).bind fun t3 =>
  (dFieldAddr tab ty74 0 t1).bind fun t8 =>
  (dLoad tab h ty9 t8).bind fun t9 =>
  (dBin tab .eql ty9 t9 (.str [])).bind fun t10 =>
  (some (t10 : D)).bind fun t7 =>
  dIf t7
    ((dLoad tab h ty31 t3).bind fun t11 =>
    (R fn1043 [t11] h).bind fun p12 =>
    (some (p12.1 : D)).bind fun t2_1 =>
    ((some (t2_1 : D)).bind fun d => (some ([] : List D)).bind fun ds => some (d :: ds)).bind fun ds => some (mkRes ds, p12.2))
    ((dFieldAddr tab ty74 0 t1).bind fun t14 =>
    (dLoad tab h ty9 t14).bind fun t15 =>
    (dLenT tab ty9 t15).bind fun t16 =>
    (dBin tab .gtr ty3 t16 (.int .i64 32)).bind fun t17 =>
    (some (t17 : D)).bind fun t13 =>
    dIf t13
      ((some (.int .i64 3 : D)).bind fun t2_2 =>
      ((some (t2_2 : D)).bind fun d => (some ([] : List D)).bind fun ds => some (d :: ds)).bind fun ds => some (mkRes ds, h))
      ((dLoad tab h ty31 t3).bind fun t19 =>
      (R fn1047 [t19] h).bind fun p20 =>
      (dUn .not p20.1).bind fun t21 =>
      (some (t21 : D)).bind fun t18 =>
      dIf t18
        ((some (.int .i64 2 : D)).bind fun t2_3 =>
        ((some (t2_3 : D)).bind fun d => (some ([] : List D)).bind fun ds => some (d :: ds)).bind fun ds => some (mkRes ds, p20.2))
        ((dLoad tab p20.2 ty31 t3).bind fun t22 =>
  (R fn1048 [t22, .int .i64 60000] p20.2).bind fun p23 =>
  (some (p23.1 : D)).bind fun t4 =>
  (some (t4 : D)).bind fun t24 =>
  (dBin tab .eql ty49 t24 (.int .i64 9)).bind fun t25 =>
  (some (t25 : D)).bind fun t26 =>
  (gd t26 false (some (t4 : D))).bind fun t27 =>
  (gd t26 false (dBin tab .eql ty49 t27 (.int .i64 4))).bind fun t28 =>
  (dPick t26 (.bool true) t28).bind fun t29 =>
  (some (t29 : D)).bind fun t30 =>
  (gd t30 false (some (t4 : D))).bind fun t31 =>
  (gd t30 false (dBin tab .eql ty49 t31 (.int .i64 19))).bind fun t32 =>
  (dPick t30 (.bool true) t32).bind fun t33 =>
  dIf t33
    ((some (t4 : D)).bind fun t34 =>
    (some (t34 : D)).bind fun t2_4 =>
    ((some (t2_4 : D)).bind fun d => (some ([] : List D)).bind fun ds => some (d :: ds)).bind fun ds => some (mkRes ds, p23.2))
    ((dFieldAddr tab ty31 5 t3).bind fun t35 =>
  (dLoad tab p23.2 ty3 t35).bind fun t36 =>
  (dBin tab .neq ty3 t36 (.int .i64 0)).bind fun t37 =>
  (some (t37 : D)).bind fun t38 =>
  (gd t38 false (dFieldAddr tab ty31 6 t3)).bind fun t39 =>
  (gd t38 false (dLoad tab p23.2 ty3 t39)).bind fun t40 =>
  (gd t38 false (dBin tab .neq ty3 t40 (.int .i64 0))).bind fun t41 =>
  (dPick t38 (.bool true) t41).bind fun t42 =>
  (some (t42 : D)).bind fun t43 =>
  (gd t43 false (dFieldAddr tab ty31 7 t3)).bind fun t44 =>
  (gd t43 false (dLoad tab p23.2 ty9 t44)).bind fun t45 =>
  (gd t43 false (dBin tab .neq ty9 t45 (.str []))).bind fun t46 =>
  (dPick t43 (.bool true) t46).bind fun t47 =>
  (some (t47 : D)).bind fun t48 =>
  (gd t48 false (dFieldAddr tab ty31 8 t3)).bind fun t49 =>
  (gd t48 false (dLoad tab p23.2 ty9 t49)).bind fun t50 =>
  (gd t48 false (dBin tab .neq ty9 t50 (.str []))).bind fun t51 =>
  (dPick t48 (.bool true) t51).bind fun t52 =>
  (some (t52 : D)).bind fun t53 =>
  (gd t53 false (dFieldAddr tab ty31 9 t3)).bind fun t54 =>
  (gd t53 false (dLoad tab p23.2 ty29 t54)).bind fun t55 =>
  (gd t53 false (dLenT tab ty29 t55)).bind fun t56 =>
  (gd t53 false (dBin tab .neq ty3 t56 (.int .i64 0))).bind fun t57 =>
  (dPick t53 (.bool true) t57).bind fun t58 =>
  (some (t58 : D)).bind fun t59 =>
  (gd t59 false (dFieldAddr tab ty31 4 t3)).bind fun t60 =>
  (gd t59 false (dLoad tab p23.2 ty28 t60)).bind fun t61 =>
  (gdW t59 false p23.2 (R fn1049 [t61, .fn (.func fn1050) [] []] p23.2)).bind fun p62 =>
  (dPick t59 (.bool true) p62.1).bind fun t63 =>
  dIf t63
    ((some (.int .i64 19 : D)).bind fun t2_5 =>
    ((some (t2_5 : D)).bind fun d => (some ([] : List D)).bind fun ds => some (d :: ds)).bind fun ds => some (mkRes ds, p62.2))
    ((some (.int .i64 0 : D)).bind fun t2_6 =>
  ((some (t2_6 : D)).bind fun d => (some ([] : List D)).bind fun ds => some (d :: ds)).bind fun ds => some (mkRes ds, p62.2))))))
theorem e1042 (t0 : D) (h : Hp) : R fn1042 [t0] h = F1042 t0 h :=
  (run_fn (X := X) (F := Fs) (fi := i10) (by kernel_rfl) _ _).trans (by kernel_rfl)
noncomputable def F82 (t0 : D) (t1 : D) (h : Hp) : Option (D × Hp) :=
  (pBoxF t0).bind fun t2 =>
  (pBoxF t1).bind fun t3 =>
  (some (.bool false : D)).bind fun t4 =>
  (dFieldAddr tab ty74 1 t2).bind fun t7 =>
  (dLoad tab h ty31 t7).bind fun t8 =>
  (dFieldAddr tab ty74 1 t3).bind fun t9 =>
  (dLoad tab h ty31 t9).bind fun t10 =>
  (some ((.ptr h.length 0 0 : D), dNew h ty31 10 [[.int .i64 0, .int .i64 0, .int .i64 0, .int .i64 0, .nils, .int .i64 0, .int .i64 0, .str [], .str [], .nils]])).bind fun p5 =>
  (some (.any : D)).bind fun t6 =>
  ((dStore tab p5.2 ty31 p5.1 t8).bind fun h' => some ((.und : D), h')).bind fun p906 =>
  chk (dLoad tab p5.2 ty31 t7 = some t8)
  (chk (dLoad tab p5.2 ty31 t9 = some t10)
  (chk (dLoad tab p906.2 ty31 t9 = some t10)
  (((dStore tab (dNew p906.2 ty31 10 [[.int .i64 0, .int .i64 0, .int .i64 0, .int .i64 0, .nils, .int .i64 0, .int .i64 0, .str [], .str [], .nils]]) ty31 (.ptr p906.2.length 0 0) t10).bind fun h' => some ((.und : D), h')).bind fun p907 =>
  (dFieldAddr tab ty74 0 t2).bind fun t11 =>
  (dLoad tab p907.2 ty9 t11).bind fun t12 =>
  (dFieldAddr tab ty74 0 t3).bind fun t13 =>
  (dLoad tab p907.2 ty9 t13).bind fun t14 =>
  (dBin tab .eql ty9 t12 t14).bind fun t15 =>
  (some (t15 : D)).bind fun t16 =>
  (gd t16 true (dFieldAddr tab ty31 0 p5.1)).bind fun t17 =>
  (gd t16 true (dLoad tab p907.2 ty3 t17)).bind fun t18 =>
  (gd t16 true (dFieldAddr tab ty31 0 (.ptr p906.2.length 0 0))).bind fun t19 =>
  (gd t16 true (dLoad tab p907.2 ty3 t19)).bind fun t20 =>
  (gd t16 true (dBin tab .eql ty3 t18 t20)).bind fun t21 =>
  (dPick t16 t21 (.bool false)).bind fun t22 =>
  (some (t22 : D)).bind fun t23 =>
  (gd t23 true (dFieldAddr tab ty31 1 p5.1)).bind fun t24 =>
  (gd t23 true (dLoad tab p907.2 ty3 t24)).bind fun t25 =>
  (gd t23 true (dFieldAddr tab ty31 1 (.ptr p906.2.length 0 0))).bind fun t26 =>
  (gd t23 true (dLoad tab p907.2 ty3 t26)).bind fun t27 =>
  (gd t23 true (dBin tab .eql ty3 t25 t27)).bind fun t28 =>
  (dPick t23 t28 (.bool false)).bind fun t29 =>
  (some (t29 : D)).bind fun t30 =>
  (gd t30 true (dFieldAddr tab ty31 2 p5.1)).bind fun t31 =>
  (gd t30 true (dLoad tab p907.2 ty3 t31)).bind fun t32 =>
  (gd t30 true (dFieldAddr tab ty31 2 (.ptr p906.2.length 0 0))).bind fun t33 =>
  (gd t30 true (dLoad tab p907.2 ty3 t33)).bind fun t34 =>
  (gd t30 true (dBin tab .eql ty3 t32 t34)).bind fun t35 =>
  (dPick t30 t35 (.bool false)).bind fun t36 =>
  (some (t36 : D)).bind fun t37 =>
  (gd t37 true (dFieldAddr tab ty31 3 p5.1)).bind fun t38 =>
  (gd t37 true (dLoad tab p907.2 ty3 t38)).bind fun t39 =>
  (gd t37 true (dFieldAddr tab ty31 3 (.ptr p906.2.length 0 0))).bind fun t40 =>
  (gd t37 true (dLoad tab p907.2 ty3 t40)).bind fun t41 =>
  (gd t37 true (dBin tab .eql ty3 t39 t41)).bind fun t42 =>
  (dPick t37 t42 (.bool false)).bind fun t43 =>
  (some (t43 : D)).bind fun t44 =>
  (gd t44 true (dFieldAddr tab ty31 5 p5.1)).bind fun t45 =>
  (gd t44 true (dLoad tab p907.2 ty3 t45)).bind fun t46 =>
  (gd t44 true (dFieldAddr tab ty31 5 (.ptr p906.2.length 0 0))).bind fun t47 =>
  (gd t44 true (dLoad tab p907.2 ty3 t47)).bind fun t48 =>
  (gd t44 true (dBin tab .eql ty3 t46 t48)).bind fun t49 =>
  (dPick t44 t49 (.bool false)).bind fun t50 =>
  (some (t50 : D)).bind fun t51 =>
  (gd t51 true (dFieldAddr tab ty31 6 p5.1)).bind fun t52 =>
  (gd t51 true (dLoad tab p907.2 ty3 t52)).bind fun t53 =>
  (gd t51 true (dFieldAddr tab ty31 6 (.ptr p906.2.length 0 0))).bind fun t54 =>
  (gd t51 true (dLoad tab p907.2 ty3 t54)).bind fun t55 =>
  (gd t51 true (dBin tab .eql ty3 t53 t55)).bind fun t56 =>
  (dPick t51 t56 (.bool false)).bind fun t57 =>
  (some (t57 : D)).bind fun t58 =>
  (gd t58 true (dFieldAddr tab ty31 7 p5.1)).bind fun t59 =>
  (gd t58 true (dLoad tab p907.2 ty9 t59)).bind fun t60 =>
  (gd t58 true (dFieldAddr tab ty31 7 (.ptr p906.2.length 0 0))).bind fun t61 =>
  (gd t58 true (dLoad tab p907.2 ty9 t61)).bind fun t62 =>
  (gd t58 true (dBin tab .eql ty9 t60 t62)).bind fun t63 =>
  (dPick t58 t63 (.bool false)).bind fun t64 =>
  (some (t64 : D)).bind fun t65 =>
  (gd t65 true (dFieldAddr tab ty31 8 p5.1)).bind fun t66 =>
  (gd t65 true (dLoad tab p907.2 ty9 t66)).bind fun t67 =>
  (gd t65 true (dFieldAddr tab ty31 8 (.ptr p906.2.length 0 0))).bind fun t68 =>
  (gd t65 true (dLoad tab p907.2 ty9 t68)).bind fun t69 =>
  (gd t65 true (dBin tab .eql ty9 t67 t69)).bind fun t70 =>
  (dPick t65 t70 (.bool false)).bind fun t71 =>
  (some (t71 : D)).bind fun t72 =>
  (gd t72 true (dFieldAddr tab ty31 4 p5.1)).bind fun t73 =>
  (gd t72 true (dLoad tab p907.2 ty28 t73)).bind fun t74 =>
  (gd t72 true (dFieldAddr tab ty31 4 (.ptr p906.2.length 0 0))).bind fun t75 =>
  (gd t72 true (dLoad tab p907.2 ty28 t75)).bind fun t76 =>
  (gdW t72 true p907.2 (R fn94 [t74, t76] p907.2)).bind fun p77 =>
  (dPick t72 p77.1 (.bool false)).bind fun t78 =>
  (some (t78 : D)).bind fun t79 =>
  (gd t79 true (dFieldAddr tab ty31 9 p5.1)).bind fun t80 =>
  (gd t79 true (dLoad tab p77.2 ty29 t80)).bind fun t81 =>
  (gd t79 true (dFieldAddr tab ty31 9 (.ptr p906.2.length 0 0))).bind fun t82 =>
  (gd t79 true (dLoad tab p77.2 ty29 t82)).bind fun t83 =>
  (gdW t79 true p77.2 (R fn95 [t81, t83] p77.2)).bind fun p84 =>
  (dPick t79 p84.1 (.bool false)).bind fun t85 =>
  (some (t85 : D)).bind fun t4_1 =>
  ((some (t4_1 : D)).bind fun d => (some ([] : List D)).bind fun ds => some (d :: ds)).bind fun ds => scope h p84.2 (mkRes ds))))
theorem e82 (t0 : D) (t1 : D) (h : Hp) : R fn82 [t0, t1] h = F82 t0 t1 h :=
  (run_fn (X := X) (F := Fs) (fi := i11) (by kernel_rfl) _ _).trans (by kernel_rfl)
noncomputable def F39 (t0 : D) (t1 : D) (h : Hp) : Option (D × Hp) :=
  (some (.int .i64 0 : D)).bind fun t4 =>
  (some (t0 : D)).bind fun t5 =>
  (R fn66 [t5] h).bind fun p6 =>
  (dUn .not p6.1).bind fun t7 =>
  (some (t7 : D)).bind fun t8 =>
  (gd t8 false (some (t1 : D))).bind fun t9 =>
  (gd t8 false (dBin tab .lss ty3 t9 (.int .i64 1))).bind fun t10 =>
  (dPick t8 (.bool true) t10).bind fun t11 =>
  dIf t11
    ((some (.int .i64 0 : D)).bind fun t4_1 =>
    ((some (t4_1 : D)).bind fun d => (some ([] : List D)).bind fun ds => some (d :: ds)).bind fun ds => some (mkRes ds, p6.2))
    ((some (t0 : D)).bind fun t12 =>
  (dNilCheck tab t12).bind fun t13 =>
  (dFieldAddr tab ty80 1 t13).bind fun t14 =>
  (dLoad tab p6.2 ty3 t14).bind fun t15 =>
  (dBin tab .add ty3 t15 (.int .i64 1)).bind fun t16 =>
  (dNilCheck tab t12).bind fun t17 =>
  (dFieldAddr tab ty80 1 t17).bind fun t18 =>
  ((dStore tab p6.2 ty3 t18 t16).bind fun h' => some ((.und : D), h')).bind fun p907 =>
  (some (t0 : D)).bind fun t19 =>
  (dNilCheck tab t19).bind fun t20 =>
  (dFieldAddr tab ty80 0 t20).bind fun t21 =>
  (dLoad tab p907.2 ty22 t21).bind fun t22 =>
  (some (t0 : D)).bind fun t23 =>
  (dNilCheck tab t23).bind fun t24 =>
  (dFieldAddr tab ty80 1 t24).bind fun t25 =>
  (dLoad tab p907.2 ty3 t25).bind fun t26 =>
  (dBin tab .sub ty3 t26 (.int .i64 1)).bind fun t27 =>
  (dIndexAddr tab ty22 t22 t27).bind fun t28 =>
  (dLoad tab p907.2 ty5 t28).bind fun t29 =>
  (dConv tab ty5 ty3 t29).bind fun t30 =>
  (some (t1 : D)).bind fun t31 =>
  (dBin tab .rem ty3 t30 t31).bind fun t32 =>
  (some (t32 : D)).bind fun t4_2 =>
  ((some (t4_2 : D)).bind fun d => (some ([] : List D)).bind fun ds => some (d :: ds)).bind fun ds => some (mkRes ds, p907.2))
theorem e39 (t0 : D) (t1 : D) (h : Hp) : R fn39 [t0, t1] h = F39 t0 t1 h :=
  (run_fn (X := X) (F := Fs) (fi := i12) (by kernel_rfl) _ _).trans (by kernel_rfl)
noncomputable def F40 (t0 : D) (t1 : D) (h : Hp) : Option (D × Hp) :=
  (some (.str [] : D)).bind fun t4 =>
  (some (t1 : D)).bind fun t5 =>
  (some (t0 : D)).bind fun t6 =>
  (some (t1 : D)).bind fun t7 =>
  (dLenT tab ty98 t7).bind fun t8 =>
  (R fn39 [t6, t8] h).bind fun p9 =>
  (dIndexAddr tab ty98 t5 p9.1).bind fun t10 =>
  (dLoad tab p9.2 ty9 t10).bind fun t11 =>
  (some (t11 : D)).bind fun t4_1 =>
  ((some (t4_1 : D)).bind fun d => (some ([] : List D)).bind fun ds => some (d :: ds)).bind fun ds => some (mkRes ds, p9.2)
theorem e40 (t0 : D) (t1 : D) (h : Hp) : R fn40 [t0, t1] h = F40 t0 t1 h :=
  (run_fn (X := X) (F := Fs) (fi := i13) (by kernel_rfl) _ _).trans (by kernel_rfl)
/-- a loop: slots 3 5 8 9 14 -/
noncomputable def F41_L0 (t0 : D) (t6 : D) (t7 : D) (ds : List D) (h_1 : Hp) : Option Out :=
    (dBin tab .lss ty3 (nth 2 ds) t7).bind fun t9 =>
    dIf t9
      ((dIndexAddr tab ty98 t6 (nth 2 ds)).bind fun t10 =>
    (dLoad tab h_1 ty9 t10).bind fun t11 =>
    (some (t11 : D)).bind fun t5 =>
    (some (t0 : D)).bind fun t12 =>
    (R fn39 [t12, .int .i64 3] h_1).bind fun p13 =>
    (dBin tab .gtr ty3 p13.1 (.int .i64 0)).bind fun t14 =>
    (dIf t14
      ((some ((nth 0 ds) : D)).bind fun t15 =>
      (some (t5 : D)).bind fun t16 =>
      (some (t0 : D)).bind fun t17 =>
      (pLitF tab ty98 8 [0, 1, 2, 3, 4, 5, 6, 7] [.str [], .str [49], .str [105, 110, 102, 111], .str [119, 97, 114, 110], .str [97, 110, 110], .str [50, 46, 53, 48], .str [116, 114, 117, 101], .str [116, 49]]).bind fun t18 =>
      (R fn40 [t17, t18] p13.2).bind fun p19 =>
      (dBuild tab ty109 [0, 1] [t16, p19.1]).bind fun t20 =>
      (pLitF tab ty29 1 [0] [t20]).bind fun t21 =>
      (dAppend tab p19.2 ty29 ty29 t15 t21).bind fun p22 =>
      (some (p22.1 : D)).bind fun t3_1 =>
      some (.nrm, [t3_1], p22.2))
      (some (.nrm, [(nth 0 ds)], p13.2))).bind fun r_1 =>
    toEnd (unblk 1 r_1.1) ((dBin tab .add ty3 (nth 2 ds) (.int .i64 1)).bind fun t23 =>
    (some (t23 : D)).bind fun t8_1 =>
    some (.nrm, [(nth 0 r_1.2.1), t5, t8_1, t9, t14], r_1.2.2)) fun x => some (x, [(nth 0 r_1.2.1), t5, (nth 2 ds), t9, t14], r_1.2.2))
      (some ((.ext 0), [(nth 0 ds), (nth 1 ds), (nth 2 ds), t9, (nth 4 ds)], h_1))
noncomputable def F41 (t0 : D) (h : Hp) : Option (D × Hp) :=
  (some (.nils : D)).bind fun t2 =>
  (some (.nils : D)).bind fun t3 =>
  (pLitF tab ty98 4 [0, 1, 2, 3] [.str [97], .str [105, 100], .str [108, 101, 118, 101, 108], .str [117, 115, 101, 114]]).bind fun t6 =>
  (dLenT tab ty98 t6).bind fun t7 =>
  (some (.int .i64 0 : D)).bind fun t8 =>
  ((loopW (F41_L0 t0 t6 t7) [t3, .any, t8, .any, .any] h).bind fun r =>
    some ((unblk 0 r.1), [(nth 0 r.2.1), (nth 1 r.2.1), (nth 2 r.2.1), (nth 3 r.2.1), (nth 4 r.2.1)], r.2.2)).bind fun r_2 =>
  toEnd r_2.1 ((some ((nth 0 r_2.2.1) : D)).bind fun t24 =>
  (some (t24 : D)).bind fun t2_1 =>
  ((some (t2_1 : D)).bind fun d => (some ([] : List D)).bind fun ds => some (d :: ds)).bind fun ds => scope h r_2.2.2 (mkRes ds)) fun x_1 => exEnd x_1 (((some (t2 : D)).bind fun d => (some ([] : List D)).bind fun ds => some (d :: ds)).bind fun ds => scope h r_2.2.2 (mkRes ds))
theorem e41 (t0 : D) (h : Hp) : R fn41 [t0] h = F41 t0 h :=
  (run_fn (X := X) (F := Fs) (fi := i14) (by kernel_rfl) _ _).trans (by kernel_rfl)
/-- a loop: slots 1 9 10 11 17 25 -/
noncomputable def F42_L0 (t0 : D) (t3 : D) (ds : List D) (h_1 : Hp) : Option Out :=
    (some ((nth 2 ds) : D)).bind fun t16 =>
    (dBin tab .gtr ty3 t16 (.int .i64 0)).bind fun t17 =>
    dIf t17
      ((some ((nth 0 ds) : D)).bind fun t20 =>
    (some (t0 : D)).bind fun t21 =>
    (R fn39 [t21, .int .i64 20] h_1).bind fun p22 =>
    (dBin tab .add ty3 (.int .i64 1) p22.1).bind fun t23 =>
    (dBuild tab ty78 [0, 1] [t20, t23]).bind fun t24 =>
    (some ((.ptr p22.2.length 0 0 : D), dNew p22.2 ty78 3 [[.int .i64 0, .int .i64 0, .str []]])).bind fun p11 =>
    ((dStore tab p11.2 ty78 p11.1 t24).bind fun h' => some ((.und : D), h')).bind fun p906 =>
    (some (t3 : D)).bind fun t25 =>
    (dIf t25
      ((some (t0 : D)).bind fun t26 =>
      (R fn67 [t26] p906.2).bind fun p27 =>
      (dFieldAddr tab ty78 2 p11.1).bind fun t28 =>
      ((dStore tab p27.2 ty9 t28 p27.1).bind fun h' => some ((.und : D), h')).bind fun p903 =>
      some (.nrm, ([] : List D), p903.2))
      (some (.nrm, ([] : List D), p906.2))).bind fun r_1 =>
    toEnd r_1.1 ((some ((nth 1 ds) : D)).bind fun t29 =>
    (dLoad tab r_1.2.2 ty78 p11.1).bind fun t30 =>
    (pLitF tab ty28 1 [0] [t30]).bind fun t31 =>
    (dAppend tab r_1.2.2 ty28 ty28 t29 t31).bind fun p32 =>
    (some (p32.1 : D)).bind fun t9_1 =>
    (some ((nth 0 ds) : D)).bind fun t33 =>
    (dFieldAddr tab ty78 1 p11.1).bind fun t34 =>
    (dLoad tab p32.2 ty3 t34).bind fun t35 =>
    (dBin tab .add ty3 t33 t35).bind fun t36 =>
    (some (t36 : D)).bind fun t1_1 =>
    (some ((nth 2 ds) : D)).bind fun t18 =>
    (dBin tab .sub ty3 t18 (.int .i64 1)).bind fun t19 =>
    (some (t19 : D)).bind fun t10_1 =>
    some (.nrm, [t1_1, t9_1, t10_1, p11.1, t17, t25], p32.2)) fun x => toEnd (unblk 1 x) ((some ((nth 2 ds) : D)).bind fun t18_1 =>
    (dBin tab .sub ty3 t18_1 (.int .i64 1)).bind fun t19_1 =>
    (some (t19_1 : D)).bind fun t10_2 =>
    some (.nrm, [(nth 0 ds), (nth 1 ds), t10_2, p11.1, t17, t25], r_1.2.2)) fun x_1 => some (x_1, [(nth 0 ds), (nth 1 ds), (nth 2 ds), p11.1, t17, t25], r_1.2.2))
      (some ((.ext 0), [(nth 0 ds), (nth 1 ds), (nth 2 ds), (nth 3 ds), t17, (nth 5 ds)], h_1))
noncomputable def F42 (t0 : D) (t1 : D) (t2 : D) (t3 : D) (h : Hp) : Option (D × Hp) :=
  (some (.nils : D)).bind fun t8 =>
  (some (.nils : D)).bind fun t9 =>
  (some (t0 : D)).bind fun t12 =>
  (some (t2 : D)).bind fun t13 =>
  (R fn39 [t12, t13] h).bind fun p14 =>
  (dBin tab .add ty3 (.int .i64 1) p14.1).bind fun t15 =>
  (some (t15 : D)).bind fun t10 =>
  ((loopW (F42_L0 t0 t3) [t1, t9, t10, .any, .any, .any] p14.2).bind fun r =>
    some ((unblk 0 r.1), [(nth 0 r.2.1), (nth 1 r.2.1), (nth 2 r.2.1), (nth 3 r.2.1), (nth 4 r.2.1), (nth 5 r.2.1)], r.2.2)).bind fun r_2 =>
  toEnd r_2.1 ((some ((nth 1 r_2.2.1) : D)).bind fun t37 =>
  (some (t37 : D)).bind fun t8_1 =>
  ((some (t8_1 : D)).bind fun d => (some ([] : List D)).bind fun ds => some (d :: ds)).bind fun ds => scope h r_2.2.2 (mkRes ds)) fun x_2 => exEnd x_2 (((some (t8 : D)).bind fun d => (some ([] : List D)).bind fun ds => some (d :: ds)).bind fun ds => scope h r_2.2.2 (mkRes ds))
theorem e42 (t0 : D) (t1 : D) (t2 : D) (t3 : D) (h : Hp) : R fn42 [t0, t1, t2, t3] h = F42 t0 t1 t2 t3 h :=
  (run_fn (X := X) (F := Fs) (fi := i15) (by kernel_rfl) _ _).trans (by kernel_rfl)
noncomputable def F43 (t0 : D) (h : Hp) : Option (D × Hp) :=
  (pBoxF t0).bind fun t1 =>
  (some (.nilf : D)).bind fun t2 =>
  (dFieldAddr tab ty34 1 t1).bind fun t3 =>
  (dLoad tab h ty9 t3).bind fun t4 =>
  (dBin tab .eql ty9 t4 (.str [])).bind fun t5 =>
  dIf t5
    ((some (.fn (.func fn68) [] [] : D)).bind fun t2_1 =>
    ((some (t2_1 : D)).bind fun d => (some ([] : List D)).bind fun ds => some (d :: ds)).bind fun ds => some (mkRes ds, h))
    ((some (.fn (.func fn69) [] [t1] : D)).bind fun t6 =>
  (some (t6 : D)).bind fun t2_2 =>
  ((some (t2_2 : D)).bind fun d => (some ([] : List D)).bind fun ds => some (d :: ds)).bind fun ds => some (mkRes ds, h))
theorem e43 (t0 : D) (h : Hp) : R fn43 [t0] h = F43 t0 h :=
  (run_fn (X := X) (F := Fs) (fi := i16) (by kernel_rfl) _ _).trans (by kernel_rfl)
noncomputable def F1043 (t0 : D) (h : Hp) : Option (D × Hp) :=
  (pBoxF t0).bind fun t1 =>
  (some (.int .i64 0 : D)).bind fun t2 =>
  (dLoad tab h ty31 t1).bind fun t7 =>
  (R fn1047 [t7] h).bind fun p8 =>
  (dUn .not p8.1).bind fun t9 =>
  (some (t9 : D)).bind fun t10 =>
  (gd t10 false (dFieldAddr tab ty31 5 t1)).bind fun t11 =>
  (gd t10 false (dLoad tab p8.2 ty3 t11)).bind fun t12 =>
  (gdW t10 false p8.2 (R fn1051 [t12, .int .i64 0, .int .i64 253402300799999] p8.2)).bind fun p13 =>
  (gd t10 false (dUn .not p13.1)).bind fun t14 =>
  (dPick t10 (.bool true) t14).bind fun t15 =>
  (some (t15 : D)).bind fun t6 =>
  dIf t6
    ((some (.int .i64 2 : D)).bind fun t2_1 =>
    ((some (t2_1 : D)).bind fun d => (some ([] : List D)).bind fun ds => some (d :: ds)).bind fun ds => scope h p13.2 (mkRes ds))
    ((dFieldAddr tab ty31 6 t1).bind fun t17 =>
    (dLoad tab p13.2 ty3 t17).bind fun t18 =>
    (dBin tab .lss ty3 t18 (.int .i64 1)).bind fun t19 =>
    (some (t19 : D)).bind fun t20 =>
    (gd t20 false (dFieldAddr tab ty31 6 t1)).bind fun t21 =>
    (gd t20 false (dLoad tab p13.2 ty3 t21)).bind fun t22 =>
    (gd t20 false (dBin tab .rem ty3 (.int .i64 5040) t22)).bind fun t23 =>
    (gd t20 false (dBin tab .neq ty3 t23 (.int .i64 0))).bind fun t24 =>
    (dPick t20 (.bool true) t24).bind fun t25 =>
    (some (t25 : D)).bind fun t16 =>
    dIf t16
      ((some (.int .i64 21 : D)).bind fun t2_2 =>
      ((some (t2_2 : D)).bind fun d => (some ([] : List D)).bind fun ds => some (d :: ds)).bind fun ds => scope h p13.2 (mkRes ds))
      ((dLoad tab p13.2 ty31 t1).bind fun t26 =>
  (R fn1048 [t26, .int .i64 2000] p13.2).bind fun p27 =>
  (some (p27.1 : D)).bind fun t3 =>
  (some (t3 : D)).bind fun t28 =>
  (dBin tab .neq ty49 t28 (.int .i64 0)).bind fun t29 =>
  dIf t29
    ((some (t3 : D)).bind fun t30 =>
    (some (t30 : D)).bind fun t2_3 =>
    ((some (t2_3 : D)).bind fun d => (some ([] : List D)).bind fun ds => some (d :: ds)).bind fun ds => scope h p27.2 (mkRes ds))
    ((dFieldAddr tab ty31 7 t1).bind fun t31 =>
  (dLoad tab p27.2 ty9 t31).bind fun t32 =>
  (dLenT tab ty9 t32).bind fun t33 =>
  (dBin tab .gtr ty3 t33 (.int .i64 32)).bind fun t34 =>
  (some (t34 : D)).bind fun t35 =>
  (gd t35 false (dFieldAddr tab ty31 8 t1)).bind fun t36 =>
  (gd t35 false (dLoad tab p27.2 ty9 t36)).bind fun t37 =>
  (gd t35 false (dLenT tab ty9 t37)).bind fun t38 =>
  (gd t35 false (dBin tab .gtr ty3 t38 (.int .i64 32))).bind fun t39 =>
  (dPick t35 (.bool true) t39).bind fun t40 =>
  dIf t40
    ((some (.int .i64 3 : D)).bind fun t2_4 =>
    ((some (t2_4 : D)).bind fun d => (some ([] : List D)).bind fun ds => some (d :: ds)).bind fun ds => scope h p27.2 (mkRes ds))
    ((dFieldAddr tab ty31 9 t1).bind fun t42 =>
  (dLoad tab p27.2 ty29 t42).bind fun t43 =>
  (R fn1052 [t43] p27.2).bind fun p44 =>
  (some (p44.1 : D)).bind fun t41 =>
  (dExtract 0 t41).bind fun t45 =>
  (dExtract 1 t41).bind fun t46 =>
  (some (t45 : D)).bind fun t4 =>
  (some (t46 : D)).bind fun t5 =>
  (some (t5 : D)).bind fun t47 =>
  (dBin tab .neq ty49 t47 (.int .i64 0)).bind fun t48 =>
  dIf t48
    ((some (t5 : D)).bind fun t49 =>
    (some (t49 : D)).bind fun t2_5 =>
    ((some (t2_5 : D)).bind fun d => (some ([] : List D)).bind fun ds => some (d :: ds)).bind fun ds => scope h p44.2 (mkRes ds))
    ((some (t4 : D)).bind fun t50 =>
  (dFieldAddr tab ty31 9 t1).bind fun t51 =>
  (dLoad tab p44.2 ty29 t51).bind fun t52 =>
  (R fn1053 [t50, t52] p44.2).bind fun p53 =>
  (dUn .not p53.1).bind fun t54 =>
  dIf t54
    ((some (.int .i64 19 : D)).bind fun t2_6 =>
    ((some (t2_6 : D)).bind fun d => (some ([] : List D)).bind fun ds => some (d :: ds)).bind fun ds => scope h p53.2 (mkRes ds))
    ((some (t4 : D)).bind fun t55 =>
  (R fn1054 [t55, .fn (.func fn1055) [] []] p53.2).bind fun p56 =>
  dIf p56.1
    ((some (.int .i64 3 : D)).bind fun t2_7 =>
    ((some (t2_7 : D)).bind fun d => (some ([] : List D)).bind fun ds => some (d :: ds)).bind fun ds => scope h p56.2 (mkRes ds))
    ((some (.int .i64 0 : D)).bind fun t2_8 =>
  ((some (t2_8 : D)).bind fun d => (some ([] : List D)).bind fun ds => some (d :: ds)).bind fun ds => scope h p56.2 (mkRes ds))))))))
theorem e1043 (t0 : D) (h : Hp) : R fn1043 [t0] h = F1043 t0 h :=
  (run_fn (X := X) (F := Fs) (fi := i17) (by kernel_rfl) _ _).trans (by kernel_rfl)
noncomputable def F1047 (t0 : D) (h : Hp) : Option (D × Hp) :=
  (pBoxF t0).bind fun t1 =>
  (some (.bool false : D)).bind fun t2 =>
  (dFieldAddr tab ty31 0 t1).bind fun t3 =>
  (dLoad tab h ty3 t3).bind fun t4 =>
  (R fn1051 [t4, .int .i64 0, .int .i64 999] h).bind fun p5 =>
  (some (p5.1 : D)).bind fun t6 =>
  (gd t6 true (dFieldAddr tab ty31 1 t1)).bind fun t7 =>
  (gd t6 true (dLoad tab p5.2 ty3 t7)).bind fun t8 =>
  (gdW t6 true p5.2 (R fn1051 [t8, .int .i64 0, .int .i64 2147483646] p5.2)).bind fun p9 =>
  (dPick t6 p9.1 (.bool false)).bind fun t10 =>
  (some (t10 : D)).bind fun t11 =>
  (gd t11 true (dFieldAddr tab ty31 2 t1)).bind fun t12 =>
  (gd t11 true (dLoad tab p9.2 ty3 t12)).bind fun t13 =>
  (gd t11 true (dBin tab .geq ty3 t13 (.int .i64 0))).bind fun t14 =>
  (dPick t11 t14 (.bool false)).bind fun t15 =>
  (some (t15 : D)).bind fun t16 =>
  (gd t16 true (dFieldAddr tab ty31 3 t1)).bind fun t17 =>
  (gd t16 true (dLoad tab p9.2 ty3 t17)).bind fun t18 =>
  (gd t16 true (dFieldAddr tab ty31 2 t1)).bind fun t19 =>
  (gd t16 true (dLoad tab p9.2 ty3 t19)).bind fun t20 =>
  (gd t16 true (dBin tab .gtr ty3 t18 t20)).bind fun t21 =>
  (dPick t16 t21 (.bool false)).bind fun t22 =>
  (some (t22 : D)).bind fun t23 =>
  (gd t23 true (dFieldAddr tab ty31 3 t1)).bind fun t24 =>
  (gd t23 true (dLoad tab p9.2 ty3 t24)).bind fun t25 =>
  (gd t23 true (dBin tab .leq ty3 t25 (.int .i64 60000))).bind fun t26 =>
  (dPick t23 t26 (.bool false)).bind fun t27 =>
  (some (t27 : D)).bind fun t2_1 =>
  ((some (t2_1 : D)).bind fun d => (some ([] : List D)).bind fun ds => some (d :: ds)).bind fun ds => some (mkRes ds, p9.2)
theorem e1047 (t0 : D) (h : Hp) : R fn1047 [t0] h = F1047 t0 h :=
  (run_fn (X := X) (F := Fs) (fi := i18) (by kernel_rfl) _ _).trans (by kernel_rfl)
/-- a loop: slots 4 5 6 7 8 24 25 64 69 -/
noncomputable def F1048_L0 (t1 : D) (t2 : D) (t22 : D) (t23 : D) (ds : List D) (h_1 : Hp) : Option Out :=
    (dBin tab .lss ty3 (nth 5 ds) t23).bind fun t25 =>
    dIf t25
      ((some ((nth 5 ds) : D)).bind fun t26 =>
    (dIndexAddr tab ty28 t22 (nth 5 ds)).bind fun t27 =>
    (dLoad tab h_1 ty78 t27).bind fun t28 =>
    (some ((.ptr h_1.length 0 0 : D), dNew h_1 ty78 3 [[.int .i64 0, .int .i64 0, .str []]])).bind fun p7 =>
    (some (t26 : D)).bind fun t6 =>
    ((dStore tab p7.2 ty78 p7.1 t28).bind fun h' => some ((.und : D), h')).bind fun p905 =>
    (some (t6 : D)).bind fun t29 =>
    (dFieldAddr tab ty31 4 t2).bind fun t30 =>
    (dLoad tab p905.2 ty28 t30).bind fun t31 =>
    (dLenT tab ty28 t31).bind fun t32 =>
    (dBin tab .sub ty3 t32 (.int .i64 1)).bind fun t33 =>
    (dBin tab .eql ty3 t29 t33).bind fun t34 =>
    (some (t34 : D)).bind fun t8 =>
    (dFieldAddr tab ty78 0 p7.1).bind fun t35 =>
    (dLoad tab p905.2 ty3 t35).bind fun t36 =>
    (some ((nth 1 ds) : D)).bind fun t37 =>
    (dBin tab .neq ty3 t36 t37).bind fun t38 =>
    (some (t38 : D)).bind fun t39 =>
    (gd t39 false (dFieldAddr tab ty78 1 p7.1)).bind fun t40 =>
    (gd t39 false (dLoad tab p905.2 ty3 t40)).bind fun t41 =>
    (gd t39 false (dBin tab .lss ty3 t41 (.int .i64 1))).bind fun t42 =>
    (dPick t39 (.bool true) t42).bind fun t43 =>
    (some (t43 : D)).bind fun t44 =>
    (gd t44 false (dFieldAddr tab ty78 1 p7.1)).bind fun t45 =>
    (gd t44 false (dLoad tab p905.2 ty3 t45)).bind fun t46 =>
    (gd t44 false (dFieldAddr tab ty31 3 t2)).bind fun t47 =>
    (gd t44 false (dLoad tab p905.2 ty3 t47)).bind fun t48 =>
    (gd t44 false (some ((nth 1 ds) : D))).bind fun t49 =>
    (gd t44 false (dBin tab .sub ty3 t48 t49)).bind fun t50 =>
    (gd t44 false (dBin tab .gtr ty3 t46 t50)).bind fun t51 =>
    (dPick t44 (.bool true) t51).bind fun t52 =>
    (some (t52 : D)).bind fun t53 =>
    (gd t53 false (some (t8 : D))).bind fun t54 =>
    (gd t53 false (some (t54 : D))).bind fun t55 =>
    (gd t55 true (dFieldAddr tab ty78 1 p7.1)).bind fun t56 =>
    (gd t55 true (dLoad tab p905.2 ty3 t56)).bind fun t57 =>
    (gd t55 true (dFieldAddr tab ty31 3 t2)).bind fun t58 =>
    (gd t55 true (dLoad tab p905.2 ty3 t58)).bind fun t59 =>
    (gd t55 true (some ((nth 1 ds) : D))).bind fun t60 =>
    (gd t55 true (dBin tab .sub ty3 t59 t60)).bind fun t61 =>
    (gd t55 true (dBin tab .lss ty3 t57 t61)).bind fun t62 =>
    (gd t53 false (dPick t55 t62 (.bool false))).bind fun t63 =>
    (dPick t53 (.bool true) t63).bind fun t64 =>
    dIf t64
      ((some (.int .i64 19 : D)).bind fun t4_3 =>
      some (.ret, [t4_3, (nth 1 ds), t6, p7.1, t8, (nth 5 ds), t25, t64, (nth 8 ds)], p905.2))
      ((dFieldAddr tab ty78 2 p7.1).bind fun t65 =>
    (dLoad tab p905.2 ty9 t65).bind fun t66 =>
    (dLenT tab ty9 t66).bind fun t67 =>
    (some (t1 : D)).bind fun t68 =>
    (dBin tab .gtr ty3 t67 t68).bind fun t69 =>
    dIf t69
      ((some (.int .i64 3 : D)).bind fun t4_4 =>
      some (.ret, [t4_4, (nth 1 ds), t6, p7.1, t8, (nth 5 ds), t25, t64, t69], p905.2))
      ((some ((nth 1 ds) : D)).bind fun t70 =>
    (dFieldAddr tab ty78 1 p7.1).bind fun t71 =>
    (dLoad tab p905.2 ty3 t71).bind fun t72 =>
    (dBin tab .add ty3 t70 t72).bind fun t73 =>
    (some (t73 : D)).bind fun t5_1 =>
    (dBin tab .add ty3 (nth 5 ds) (.int .i64 1)).bind fun t74 =>
    (some (t74 : D)).bind fun t24_1 =>
    some (.nrm, [(nth 0 ds), t5_1, t6, p7.1, t8, t24_1, t25, t64, t69], p905.2))))
      (some ((.ext 1), [(nth 0 ds), (nth 1 ds), (nth 2 ds), (nth 3 ds), (nth 4 ds), (nth 5 ds), t25, (nth 7 ds), (nth 8 ds)], h_1))
noncomputable def F1048 (t0 : D) (t1 : D) (h : Hp) : Option (D × Hp) :=
  (pBoxF t0).bind fun t2 =>
  (some (.int .i64 0 : D)).bind fun t4 =>
  (dFieldAddr tab ty31 4 t2).bind fun t10 =>
  (dLoad tab h ty28 t10).bind fun t11 =>
  (dLenT tab ty28 t11).bind fun t12 =>
  (dBin tab .eql ty3 t12 (.int .i64 0)).bind fun t13 =>
  (some (t13 : D)).bind fun t9 =>
  dIf t9
    ((some (.int .i64 9 : D)).bind fun t4_1 =>
    ((some (t4_1 : D)).bind fun d => (some ([] : List D)).bind fun ds => some (d :: ds)).bind fun ds => scope h h (mkRes ds))
    ((dFieldAddr tab ty31 4 t2).bind fun t15 =>
    (dLoad tab h ty28 t15).bind fun t16 =>
    (dLenT tab ty28 t16).bind fun t17 =>
    (dBin tab .gtr ty3 t17 (.int .i64 40)).bind fun t18 =>
    (some (t18 : D)).bind fun t14 =>
    dIf t14
      ((some (.int .i64 4 : D)).bind fun t4_2 =>
      ((some (t4_2 : D)).bind fun d => (some ([] : List D)).bind fun ds => some (d :: ds)).bind fun ds => scope h h (mkRes ds))
      ((dFieldAddr tab ty31 2 t2).bind fun t19 =>
  (dLoad tab h ty3 t19).bind fun t20 =>
  (some (t20 : D)).bind fun t5 =>
  (dFieldAddr tab ty31 4 t2).bind fun t21 =>
  (dLoad tab h ty28 t21).bind fun t22 =>
  (dLenT tab ty28 t22).bind fun t23 =>
  (some (.int .i64 0 : D)).bind fun t24 =>
  ((loopW (F1048_L0 t1 t2 t22 t23) [t4, t5, .any, .any, .any, t24, .any, .any, .any] h).bind fun r =>
    some ((unblk 1 r.1), [(nth 0 r.2.1), (nth 1 r.2.1), (nth 2 r.2.1), (nth 3 r.2.1), (nth 4 r.2.1), (nth 5 r.2.1), (nth 6 r.2.1), (nth 7 r.2.1), (nth 8 r.2.1)], r.2.2)).bind fun r_1 =>
  toEnd r_1.1 ((some (.int .i64 0 : D)).bind fun t4_5 =>
  ((some (t4_5 : D)).bind fun d => (some ([] : List D)).bind fun ds => some (d :: ds)).bind fun ds => scope h r_1.2.2 (mkRes ds)) fun x => exEnd x (((some ((nth 0 r_1.2.1) : D)).bind fun d => (some ([] : List D)).bind fun ds => some (d :: ds)).bind fun ds => scope h r_1.2.2 (mkRes ds))))
theorem e1048 (t0 : D) (t1 : D) (h : Hp) : R fn1048 [t0, t1] h = F1048 t0 t1 h :=
  (run_fn (X := X) (F := Fs) (fi := i19) (by kernel_rfl) _ _).trans (by kernel_rfl)
noncomputable def F1049 (t0 : D) (t1 : D) (h : Hp) : Option (D × Hp) :=
  (some (.bool false : D)).bind fun t4 =>
  (some (t0 : D)).bind fun t5 =>
  (some (t1 : D)).bind fun t6 =>
  (R fn1006 [t5, t6] h).bind fun p7 =>
  (dBin tab .geq ty3 p7.1 (.int .i64 0)).bind fun t8 =>
  (some (t8 : D)).bind fun t4_1 =>
  ((some (t4_1 : D)).bind fun d => (some ([] : List D)).bind fun ds => some (d :: ds)).bind fun ds => some (mkRes ds, p7.2)
theorem e1049 (t0 : D) (t1 : D) (h : Hp) : R fn1049 [t0, t1] h = F1049 t0 t1 h :=
  (run_fn (X := X) (F := Fs) (fi := i20) (by kernel_rfl) _ _).trans (by kernel_rfl)
noncomputable def F1050 (t0 : D) (h : Hp) : Option (D × Hp) :=
  (pBoxF t0).bind fun t1 =>
  (some (.bool false : D)).bind fun t2 =>
  (dFieldAddr tab ty78 2 t1).bind fun t3 =>
  (dLoad tab h ty9 t3).bind fun t4 =>
  (dBin tab .neq ty9 t4 (.str [])).bind fun t5 =>
  (some (t5 : D)).bind fun t2_1 =>
  ((some (t2_1 : D)).bind fun d => (some ([] : List D)).bind fun ds => some (d :: ds)).bind fun ds => some (mkRes ds, h)
theorem e1050 (t0 : D) (h : Hp) : R fn1050 [t0] h = F1050 t0 h :=
  (run_fn (X := X) (F := Fs) (fi := i21) (by kernel_rfl) _ _).trans (by kernel_rfl)
/-- a loop: slots 4 5 14 25 -/
noncomputable def F94_L0 (t0 : D) (t1 : D) (ds : List D) (h_1 : Hp) : Option Out :=
    (some ((nth 1 ds) : D)).bind fun t11 =>
    (some (t0 : D)).bind fun t12 =>
    (dLenT tab ty28 t12).bind fun t13 =>
    (dBin tab .lss ty3 t11 t13).bind fun t14 =>
    dIf t14
      ((some (t0 : D)).bind fun t17 =>
    (some ((nth 1 ds) : D)).bind fun t18 =>
    (dIndexAddr tab ty28 t17 t18).bind fun t19 =>
    (dLoad tab h_1 ty78 t19).bind fun t20 =>
    (some (t1 : D)).bind fun t21 =>
    (some ((nth 1 ds) : D)).bind fun t22 =>
    (dIndexAddr tab ty28 t21 t22).bind fun t23 =>
    (dLoad tab h_1 ty78 t23).bind fun t24 =>
    (dBin tab .neq ty78 t20 t24).bind fun t25 =>
    dIf t25
      ((some (.bool false : D)).bind fun t4_2 =>
      some (.ret, [t4_2, (nth 1 ds), t14, t25], h_1))
      ((some ((nth 1 ds) : D)).bind fun t15 =>
    (dBin tab .add ty3 t15 (.int .i64 1)).bind fun t16 =>
    (some (t16 : D)).bind fun t5_1 =>
    some (.nrm, [(nth 0 ds), t5_1, t14, t25], h_1)))
      (some ((.ext 0), [(nth 0 ds), (nth 1 ds), t14, (nth 3 ds)], h_1))
noncomputable def F94 (t0 : D) (t1 : D) (h : Hp) : Option (D × Hp) :=
  (some (.bool false : D)).bind fun t4 =>
  (some (t0 : D)).bind fun t6 =>
  (dLenT tab ty28 t6).bind fun t7 =>
  (some (t1 : D)).bind fun t8 =>
  (dLenT tab ty28 t8).bind fun t9 =>
  (dBin tab .neq ty3 t7 t9).bind fun t10 =>
  dIf t10
    ((some (.bool false : D)).bind fun t4_1 =>
    ((some (t4_1 : D)).bind fun d => (some ([] : List D)).bind fun ds => some (d :: ds)).bind fun ds => some (mkRes ds, h))
    ((some (.int .i64 0 : D)).bind fun t5 =>
  ((loopW (F94_L0 t0 t1) [t4, t5, .any, .any] h).bind fun r =>
    some ((unblk 0 r.1), [(nth 0 r.2.1), (nth 1 r.2.1), (nth 2 r.2.1), (nth 3 r.2.1)], r.2.2)).bind fun r_1 =>
  toEnd r_1.1 ((some (.bool true : D)).bind fun t4_3 =>
  ((some (t4_3 : D)).bind fun d => (some ([] : List D)).bind fun ds => some (d :: ds)).bind fun ds => some (mkRes ds, r_1.2.2)) fun x => exEnd x (((some ((nth 0 r_1.2.1) : D)).bind fun d => (some ([] : List D)).bind fun ds => some (d :: ds)).bind fun ds => some (mkRes ds, r_1.2.2)))
theorem e94 (t0 : D) (t1 : D) (h : Hp) : R fn94 [t0, t1] h = F94 t0 t1 h :=
  (run_fn (X := X) (F := Fs) (fi := i22) (by kernel_rfl) _ _).trans (by kernel_rfl)
/-- a loop: slots 4 5 14 25 -/
noncomputable def F95_L0 (t0 : D) (t1 : D) (ds : List D) (h_1 : Hp) : Option Out :=
    (some ((nth 1 ds) : D)).bind fun t11 =>
    (some (t0 : D)).bind fun t12 =>
    (dLenT tab ty29 t12).bind fun t13 =>
    (dBin tab .lss ty3 t11 t13).bind fun t14 =>
    dIf t14
      ((some (t0 : D)).bind fun t17 =>
    (some ((nth 1 ds) : D)).bind fun t18 =>
    (dIndexAddr tab ty29 t17 t18).bind fun t19 =>
    (dLoad tab h_1 ty109 t19).bind fun t20 =>
    (some (t1 : D)).bind fun t21 =>
    (some ((nth 1 ds) : D)).bind fun t22 =>
    (dIndexAddr tab ty29 t21 t22).bind fun t23 =>
    (dLoad tab h_1 ty109 t23).bind fun t24 =>
    (dBin tab .neq ty109 t20 t24).bind fun t25 =>
    dIf t25
      ((some (.bool false : D)).bind fun t4_2 =>
      some (.ret, [t4_2, (nth 1 ds), t14, t25], h_1))
      ((some ((nth 1 ds) : D)).bind fun t15 =>
    (dBin tab .add ty3 t15 (.int .i64 1)).bind fun t16 =>
    (some (t16 : D)).bind fun t5_1 =>
    some (.nrm, [(nth 0 ds), t5_1, t14, t25], h_1)))
      (some ((.ext 0), [(nth 0 ds), (nth 1 ds), t14, (nth 3 ds)], h_1))
noncomputable def F95 (t0 : D) (t1 : D) (h : Hp) : Option (D × Hp) :=
  (some (.bool false : D)).bind fun t4 =>
  (some (t0 : D)).bind fun t6 =>
  (dLenT tab ty29 t6).bind fun t7 =>
  (some (t1 : D)).bind fun t8 =>
  (dLenT tab ty29 t8).bind fun t9 =>
  (dBin tab .neq ty3 t7 t9).bind fun t10 =>
  dIf t10
    ((some (.bool false : D)).bind fun t4_1 =>
    ((some (t4_1 : D)).bind fun d => (some ([] : List D)).bind fun ds => some (d :: ds)).bind fun ds => some (mkRes ds, h))
    ((some (.int .i64 0 : D)).bind fun t5 =>
  ((loopW (F95_L0 t0 t1) [t4, t5, .any, .any] h).bind fun r =>
    some ((unblk 0 r.1), [(nth 0 r.2.1), (nth 1 r.2.1), (nth 2 r.2.1), (nth 3 r.2.1)], r.2.2)).bind fun r_1 =>
  toEnd r_1.1 ((some (.bool true : D)).bind fun t4_3 =>
  ((some (t4_3 : D)).bind fun d => (some ([] : List D)).bind fun ds => some (d :: ds)).bind fun ds => some (mkRes ds, r_1.2.2)) fun x => exEnd x (((some ((nth 0 r_1.2.1) : D)).bind fun d => (some ([] : List D)).bind fun ds => some (d :: ds)).bind fun ds => some (mkRes ds, r_1.2.2)))
theorem e95 (t0 : D) (t1 : D) (h : Hp) : R fn95 [t0, t1] h = F95 t0 t1 h :=
  (run_fn (X := X) (F := Fs) (fi := i23) (by kernel_rfl) _ _).trans (by kernel_rfl)
noncomputable def F66 (t0 : D) (h : Hp) : Option (D × Hp) :=
  (some (.bool false : D)).bind fun t2 =>
  (some (t0 : D)).bind fun t3 =>
  (dNilCheck tab t3).bind fun t4 =>
  (dFieldAddr tab ty80 1 t4).bind fun t5 =>
  (dLoad tab h ty3 t5).bind fun t6 =>
  (some (t0 : D)).bind fun t7 =>
  (dNilCheck tab t7).bind fun t8 =>
  (dFieldAddr tab ty80 0 t8).bind fun t9 =>
  (dLoad tab h ty22 t9).bind fun t10 =>
  (dLenT tab ty22 t10).bind fun t11 =>
  (dBin tab .lss ty3 t6 t11).bind fun t12 =>
  (some (t12 : D)).bind fun t2_1 =>
  ((some (t2_1 : D)).bind fun d => (some ([] : List D)).bind fun ds => some (d :: ds)).bind fun ds => some (mkRes ds, h)
theorem e66 (t0 : D) (h : Hp) : R fn66 [t0] h = F66 t0 h :=
  (run_fn (X := X) (F := Fs) (fi := i24) (by kernel_rfl) _ _).trans (by kernel_rfl)
noncomputable def F67 (t0 : D) (h : Hp) : Option (D × Hp) :=
  (some (.str [] : D)).bind fun t2 =>
  (some (t0 : D)).bind fun t3 =>
  (R fn39 [t3, .int .i64 8] h).bind fun p4 =>
  (dBin tab .eql ty3 p4.1 (.int .i64 0)).bind fun t6 =>
  (some (t6 : D)).bind fun t5 =>
  dIf t5
    ((some (t0 : D)).bind fun t7 =>
    (pLitF tab ty98 3 [0, 1, 2] [.str [49], .str [50], .str [57]]).bind fun t8 =>
    (R fn40 [t7, t8] p4.2).bind fun p9 =>
    (dBin tab .add ty9 (.str [50, 48, 50, 54, 45, 48]) p9.1).bind fun t10 =>
    (dBin tab .add ty9 t10 (.str [45, 49])).bind fun t11 =>
    (some (t0 : D)).bind fun t12 =>
    (pLitF tab ty98 2 [0, 1] [.str [48], .str [53]]).bind fun t13 =>
    (R fn40 [t12, t13] p9.2).bind fun p14 =>
    (dBin tab .add ty9 t11 p14.1).bind fun t15 =>
    (dBin tab .add ty9 t15 (.str [84, 49, 48, 58, 48, 48, 58, 48])).bind fun t16 =>
    (some (t0 : D)).bind fun t17 =>
    (pLitF tab ty98 2 [0, 1] [.str [49], .str [50]]).bind fun t18 =>
    (R fn40 [t17, t18] p14.2).bind fun p19 =>
    (dBin tab .add ty9 t16 p19.1).bind fun t20 =>
    (dBin tab .add ty9 t20 (.str [90, 32, 108, 101, 118, 101, 108, 61])).bind fun t21 =>
    (some (t0 : D)).bind fun t22 =>
    (pLitF tab ty98 2 [0, 1] [.str [105, 110, 102, 111], .str [119, 97, 114, 110]]).bind fun t23 =>
    (R fn40 [t22, t23] p19.2).bind fun p24 =>
    (dBin tab .add ty9 t21 p24.1).bind fun t25 =>
    (dBin tab .add ty9 t25 (.str [32, 105, 100, 61])).bind fun t26 =>
    (some (t0 : D)).bind fun t27 =>
    (pLitF tab ty98 3 [0, 1, 2] [.str [55], .str [116, 49], .str [116, 50]]).bind fun t28 =>
    (R fn40 [t27, t28] p24.2).bind fun p29 =>
    (dBin tab .add ty9 t26 p29.1).bind fun t30 =>
    (some (t30 : D)).bind fun t2_1 =>
    ((some (t2_1 : D)).bind fun d => (some ([] : List D)).bind fun ds => some (d :: ds)).bind fun ds => some (mkRes ds, p29.2))
    ((dBin tab .eql ty3 p4.1 (.int .i64 1)).bind fun t32 =>
    (some (t32 : D)).bind fun t31 =>
    dIf t31
      ((some (t0 : D)).bind fun t33 =>
      (pLitF tab ty98 3 [0, 1, 2] [.str [105, 110, 102, 111], .str [119, 97, 114, 110], .str [100, 101, 98, 117, 103]]).bind fun t34 =>
      (R fn40 [t33, t34] p4.2).bind fun p35 =>
      (dBin tab .add ty9 (.str [108, 101, 118, 101, 108, 61]) p35.1).bind fun t36 =>
      (dBin tab .add ty9 t36 (.str [32, 117, 115, 101, 114, 61])).bind fun t37 =>
      (some (t0 : D)).bind fun t38 =>
      (pLitF tab ty98 2 [0, 1] [.str [97, 110, 110], .str [98, 111, 98]]).bind fun t39 =>
      (R fn40 [t38, t39] p35.2).bind fun p40 =>
      (dBin tab .add ty9 t37 p40.1).bind fun t41 =>
      (dBin tab .add ty9 t41 (.str [32, 105, 112, 61])).bind fun t42 =>
      (some (t0 : D)).bind fun t43 =>
      (pLitF tab ty98 3 [0, 1, 2] [.str [49, 48, 46, 50], .str [49, 48, 46, 51], .str [55, 46, 55]]).bind fun t44 =>
      (R fn40 [t43, t44] p40.2).bind fun p45 =>
      (dBin tab .add ty9 t42 p45.1).bind fun t46 =>
      (some (t46 : D)).bind fun t2_2 =>
      ((some (t2_2 : D)).bind fun d => (some ([] : List D)).bind fun ds => some (d :: ds)).bind fun ds => some (mkRes ds, p45.2))
      ((dBin tab .eql ty3 p4.1 (.int .i64 2)).bind fun t48 =>
      (some (t48 : D)).bind fun t47 =>
      dIf t47
        ((some (t0 : D)).bind fun t49 =>
        (pLitF tab ty98 2 [0, 1] [.str [102], .str [103]]).bind fun t50 =>
        (R fn40 [t49, t50] p4.2).bind fun p51 =>
        (dBin tab .add ty9 (.str [32, 32, 97, 116, 32]) p51.1).bind fun t52 =>
        (some (t0 : D)).bind fun t53 =>
        (pLitF tab ty98 2 [0, 1] [.str [40, 49, 41], .str [40, 50, 50, 41]]).bind fun t54 =>
        (R fn40 [t53, t54] p51.2).bind fun p55 =>
        (dBin tab .add ty9 t52 p55.1).bind fun t56 =>
        (some (t56 : D)).bind fun t2_3 =>
        ((some (t2_3 : D)).bind fun d => (some ([] : List D)).bind fun ds => some (d :: ds)).bind fun ds => some (mkRes ds, p55.2))
        ((dBin tab .eql ty3 p4.1 (.int .i64 3)).bind fun t58 =>
        (some (t58 : D)).bind fun t57 =>
        dIf t57
          ((some (t0 : D)).bind fun t59 =>
          (pLitF tab ty98 3 [0, 1, 2] [.str [97, 110, 110], .str [98, 111, 98], .str [101, 118, 101]]).bind fun t60 =>
          (R fn40 [t59, t60] p4.2).bind fun p61 =>
          (dBin tab .add ty9 (.str [117, 115, 101, 114, 32]) p61.1).bind fun t62 =>
          (dBin tab .add ty9 t62 (.str [32, 108, 111, 103, 103, 101, 100, 32])).bind fun t63 =>
          (some (t0 : D)).bind fun t64 =>
          (pLitF tab ty98 2 [0, 1] [.str [105, 110], .str [111, 117, 116]]).bind fun t65 =>
          (R fn40 [t64, t65] p61.2).bind fun p66 =>
          (dBin tab .add ty9 t63 p66.1).bind fun t67 =>
          (some (t67 : D)).bind fun t2_4 =>
          ((some (t2_4 : D)).bind fun d => (some ([] : List D)).bind fun ds => some (d :: ds)).bind fun ds => some (mkRes ds, p66.2))
          ((dBin tab .eql ty3 p4.1 (.int .i64 4)).bind fun t69 =>
          (some (t69 : D)).bind fun t68 =>
          dIf t68
            ((some (t0 : D)).bind fun t70 =>
            (pLitF tab ty98 2 [0, 1] [.str [105, 110, 102, 111], .str [119, 97, 114, 110]]).bind fun t71 =>
            (R fn40 [t70, t71] p4.2).bind fun p72 =>
            (dBin tab .add ty9 (.str [123, 34, 108, 101, 118, 101, 108, 34, 58, 32, 34]) p72.1).bind fun t73 =>
            (dBin tab .add ty9 t73 (.str [34, 44, 32, 34, 110, 34, 58, 32])).bind fun t74 =>
            (some (t0 : D)).bind fun t75 =>
            (pLitF tab ty98 3 [0, 1, 2] [.str [49], .str [45, 50, 48], .str [116, 114, 117, 101]]).bind fun t76 =>
            (R fn40 [t75, t76] p72.2).bind fun p77 =>
            (dBin tab .add ty9 t74 p77.1).bind fun t78 =>
            (dBin tab .add ty9 t78 (.str [125])).bind fun t79 =>
            (some (t79 : D)).bind fun t2_5 =>
            ((some (t2_5 : D)).bind fun d => (some ([] : List D)).bind fun ds => some (d :: ds)).bind fun ds => some (mkRes ds, p77.2))
            ((dBin tab .eql ty3 p4.1 (.int .i64 5)).bind fun t81 =>
            (some (t81 : D)).bind fun t80 =>
            dIf t80
              ((some (t0 : D)).bind fun t82 =>
              (pLitF tab ty98 2 [0, 1] [.str [49], .str [50]]).bind fun t83 =>
              (R fn40 [t82, t83] p4.2).bind fun p84 =>
              (dBin tab .add ty9 (.str [74, 97, 110, 32, 49]) p84.1).bind fun t85 =>
              (dBin tab .add ty9 t85 (.str [32, 49, 48, 58, 48, 48, 58, 48])).bind fun t86 =>
              (some (t0 : D)).bind fun t87 =>
              (pLitF tab ty98 2 [0, 1] [.str [49], .str [50]]).bind fun t88 =>
              (R fn40 [t87, t88] p84.2).bind fun p89 =>
              (dBin tab .add ty9 t86 p89.1).bind fun t90 =>
              (dBin tab .add ty9 t90 (.str [32])).bind fun t91 =>
              (some (t0 : D)).bind fun t92 =>
              (pLitF tab ty98 2 [0, 1] [.str [111, 107], .str [102, 97, 105, 108, 101, 100]]).bind fun t93 =>
              (R fn40 [t92, t93] p89.2).bind fun p94 =>
              (dBin tab .add ty9 t91 p94.1).bind fun t95 =>
              (some (t95 : D)).bind fun t2_6 =>
              ((some (t2_6 : D)).bind fun d => (some ([] : List D)).bind fun ds => some (d :: ds)).bind fun ds => some (mkRes ds, p94.2))
              ((some (t0 : D)).bind fun t96 =>
  (R fn83 [t96, .int .i64 6] p4.2).bind fun p97 =>
  (some (p97.1 : D)).bind fun t2_7 =>
  ((some (t2_7 : D)).bind fun d => (some ([] : List D)).bind fun ds => some (d :: ds)).bind fun ds => some (mkRes ds, p97.2)))))))
theorem e67 (t0 : D) (h : Hp) : R fn67 [t0] h = F67 t0 h :=
  (run_fn (X := X) (F := Fs) (fi := i25) (by kernel_rfl) _ _).trans (by kernel_rfl)
noncomputable def F68 (t0 : D) (h : Hp) : Option (D × Hp) :=
  (pBoxF t0).bind fun t1 =>
  (some (.bool false : D)).bind fun t2 =>
  (some (.bool true : D)).bind fun t2_1 =>
  ((some (t2_1 : D)).bind fun d => (some ([] : List D)).bind fun ds => some (d :: ds)).bind fun ds => some (mkRes ds, h)
theorem e68 (t0 : D) (h : Hp) : R fn68 [t0] h = F68 t0 h :=
  (run_fn (X := X) (F := Fs) (fi := i26) (by kernel_rfl) _ _).trans (by kernel_rfl)
noncomputable def F69 (t0 : D) (t1 : D) (h : Hp) : Option (D × Hp) :=
  (pBoxF t0).bind fun t2 =>
  (some (.bool false : D)).bind fun t3 =>
  (dFieldAddr tab ty31 9 t2).bind fun t7 =>
  (dLoad tab h ty29 t7).bind fun t8 =>
  (dFieldAddr tab ty34 1 t1).bind fun t9 =>
  (dLoad tab h ty9 t9).bind fun t10 =>
  (R fn70 [t8, t10] h).bind fun p11 =>
  (some (p11.1 : D)).bind fun t6 =>
  (dExtract 0 t6).bind fun t12 =>
  (dExtract 1 t6).bind fun t13 =>
  (some (t12 : D)).bind fun t4 =>
  (some (t13 : D)).bind fun t5 =>
  (some (t5 : D)).bind fun t14 =>
  (some (t14 : D)).bind fun t15 =>
  (gd t15 true (some (t4 : D))).bind fun t16 =>
  (gd t15 true (dFieldAddr tab ty34 2 t1)).bind fun t17 =>
  (gd t15 true (dLoad tab p11.2 ty9 t17)).bind fun t18 =>
  (gd t15 true (dBin tab .eql ty9 t16 t18)).bind fun t19 =>
  (dPick t15 t19 (.bool false)).bind fun t20 =>
  (some (t20 : D)).bind fun t3_1 =>
  ((some (t3_1 : D)).bind fun d => (some ([] : List D)).bind fun ds => some (d :: ds)).bind fun ds => some (mkRes ds, p11.2)
theorem e69 (t0 : D) (t1 : D) (h : Hp) : R fn69 [t0, t1] h = F69 t0 t1 h :=
  (run_fn (X := X) (F := Fs) (fi := i27) (by kernel_rfl) _ _).trans (by kernel_rfl)
/-- a loop: slots 4 5 7 10 11 17 -/
noncomputable def F70_L0 (t1 : D) (t8 : D) (t9 : D) (ds : List D) (h_1 : Hp) : Option Out :=
    (dBin tab .lss ty3 (nth 3 ds) t9).bind fun t11 =>
    dIf t11
      ((dIndexAddr tab ty29 t8 (nth 3 ds)).bind fun t12 =>
    (dLoad tab h_1 ty109 t12).bind fun t13 =>
    (boxN 2 t13).bind fun t7 =>
    (dFieldAddr tab ty109 0 t7).bind fun t14 =>
    (dLoad tab h_1 ty9 t14).bind fun t15 =>
    (some (t1 : D)).bind fun t16 =>
    (dBin tab .eql ty9 t15 t16).bind fun t17 =>
    dIf t17
      ((dFieldAddr tab ty109 1 t7).bind fun t18 =>
      (dLoad tab h_1 ty9 t18).bind fun t19 =>
      (some (t19 : D)).bind fun t4_1 =>
      (some (.bool true : D)).bind fun t5_1 =>
      some (.ret, [t4_1, t5_1, t7, (nth 3 ds), t11, t17], h_1))
      ((dBin tab .add ty3 (nth 3 ds) (.int .i64 1)).bind fun t20 =>
    (some (t20 : D)).bind fun t10_1 =>
    some (.nrm, [(nth 0 ds), (nth 1 ds), t7, t10_1, t11, t17], h_1)))
      (some ((.ext 0), [(nth 0 ds), (nth 1 ds), (nth 2 ds), (nth 3 ds), t11, (nth 5 ds)], h_1))
noncomputable def F70 (t0 : D) (t1 : D) (h : Hp) : Option (D × Hp) :=
  (some (.str [] : D)).bind fun t4 =>
  (some (.bool false : D)).bind fun t5 =>
  (some (t0 : D)).bind fun t8 =>
  (dLenT tab ty29 t8).bind fun t9 =>
  (some (.int .i64 0 : D)).bind fun t10 =>
  ((loopW (F70_L0 t1 t8 t9) [t4, t5, .any, t10, .any, .any] h).bind fun r =>
    some ((unblk 0 r.1), [(nth 0 r.2.1), (nth 1 r.2.1), (nth 2 r.2.1), (nth 3 r.2.1), (nth 4 r.2.1), (nth 5 r.2.1)], r.2.2)).bind fun r_1 =>
  toEnd r_1.1 ((some (.str [] : D)).bind fun t4_2 =>
  (some (.bool false : D)).bind fun t5_2 =>
  ((some (t4_2 : D)).bind fun d => ((some (t5_2 : D)).bind fun d => (some ([] : List D)).bind fun ds => some (d :: ds)).bind fun ds => some (d :: ds)).bind fun ds => some (mkRes ds, r_1.2.2)) fun x => exEnd x (((some ((nth 0 r_1.2.1) : D)).bind fun d => ((some ((nth 1 r_1.2.1) : D)).bind fun d => (some ([] : List D)).bind fun ds => some (d :: ds)).bind fun ds => some (d :: ds)).bind fun ds => some (mkRes ds, r_1.2.2))
theorem e70 (t0 : D) (t1 : D) (h : Hp) : R fn70 [t0, t1] h = F70 t0 t1 h :=
  (run_fn (X := X) (F := Fs) (fi := i28) (by kernel_rfl) _ _).trans (by kernel_rfl)
noncomputable def F1051 (t0 : D) (t1 : D) (t2 : D) (h : Hp) : Option (D × Hp) :=
  (some (.bool false : D)).bind fun t6 =>
  (some (t1 : D)).bind fun t7 =>
  (some (t0 : D)).bind fun t8 =>
  (dBin tab .leq ty3 t7 t8).bind fun t9 =>
  (some (t9 : D)).bind fun t10 =>
  (gd t10 true (some (t0 : D))).bind fun t11 =>
  (gd t10 true (some (t2 : D))).bind fun t12 =>
  (gd t10 true (dBin tab .leq ty3 t11 t12)).bind fun t13 =>
  (dPick t10 t13 (.bool false)).bind fun t14 =>
  (some (t14 : D)).bind fun t6_1 =>
  ((some (t6_1 : D)).bind fun d => (some ([] : List D)).bind fun ds => some (d :: ds)).bind fun ds => some (mkRes ds, h)
theorem e1051 (t0 : D) (t1 : D) (t2 : D) (h : Hp) : R fn1051 [t0, t1, t2] h = F1051 t0 t1 t2 h :=
  (run_fn (X := X) (F := Fs) (fi := i29) (by kernel_rfl) _ _).trans (by kernel_rfl)
/-- a loop: slots 2 3 5 12 13 19 -/
noncomputable def F1052_L0 (t10 : D) (t11 : D) (ds : List D) (h_1 : Hp) : Option Out :=
    (dBin tab .lss ty3 (nth 3 ds) t11).bind fun t13 =>
    dIf t13
      ((dIndexAddr tab ty29 t10 (nth 3 ds)).bind fun t14 =>
    (dLoad tab h_1 ty109 t14).bind fun t15 =>
    (boxN 2 t15).bind fun t5 =>
    (dFieldAddr tab ty109 0 t5).bind fun t16 =>
    (dLoad tab h_1 ty9 t16).bind fun t17 =>
    (R fn1056 [t17] h_1).bind fun p18 =>
    (dUn .not p18.1).bind fun t19 =>
    dIf t19
      ((some (.nils : D)).bind fun t2_2 =>
      (some (.int .i64 6 : D)).bind fun t3_2 =>
      some (.ret, [t2_2, t3_2, t5, (nth 3 ds), t13, t19], p18.2))
      ((dBin tab .add ty3 (nth 3 ds) (.int .i64 1)).bind fun t20 =>
    (some (t20 : D)).bind fun t12_1 =>
    some (.nrm, [(nth 0 ds), (nth 1 ds), t5, t12_1, t13, t19], p18.2)))
      (some ((.ext 0), [(nth 0 ds), (nth 1 ds), (nth 2 ds), (nth 3 ds), t13, (nth 5 ds)], h_1))
/-- a loop: slots 2 3 6 28 42 -/
noncomputable def F1052_L1 (t0_1 : D) (ds_1 : List D) (h_2 : Hp) : Option Out :=
    (some ((nth 2 ds_1) : D)).bind fun t25 =>
    (some (t0_1 : D)).bind fun t26 =>
    (dLenT tab ty29 t26).bind fun t27 =>
    (dBin tab .lss ty3 t25 t27).bind fun t28 =>
    dIf t28
      ((some (t0_1 : D)).bind fun t31 =>
    (some ((nth 2 ds_1) : D)).bind fun t32 =>
    (dIndexAddr tab ty29 t31 t32).bind fun t33 =>
    (dFieldAddr tab ty109 0 t33).bind fun t34 =>
    (dLoad tab h_2 ty9 t34).bind fun t35 =>
    (some (t0_1 : D)).bind fun t36 =>
    (some ((nth 2 ds_1) : D)).bind fun t37 =>
    (dBin tab .sub ty3 t37 (.int .i64 1)).bind fun t38 =>
    (dIndexAddr tab ty29 t36 t38).bind fun t39 =>
    (dFieldAddr tab ty109 0 t39).bind fun t40 =>
    (dLoad tab h_2 ty9 t40).bind fun t41 =>
    (dBin tab .eql ty9 t35 t41).bind fun t42 =>
    dIf t42
      ((some (.nils : D)).bind fun t2_3 =>
      (some (.int .i64 7 : D)).bind fun t3_3 =>
      some (.ret, [t2_3, t3_3, (nth 2 ds_1), t28, t42], h_2))
      ((some ((nth 2 ds_1) : D)).bind fun t29 =>
    (dBin tab .add ty3 t29 (.int .i64 1)).bind fun t30 =>
    (some (t30 : D)).bind fun t6_1 =>
    some (.nrm, [(nth 0 ds_1), (nth 1 ds_1), t6_1, t28, t42], h_2)))
      (some ((.ext 2), [(nth 0 ds_1), (nth 1 ds_1), (nth 2 ds_1), t28, (nth 4 ds_1)], h_2))
noncomputable def F1052 (t0 : D) (h : Hp) : Option (D × Hp) :=
  (some (.nils : D)).bind fun t2 =>
  (some (.int .i64 0 : D)).bind fun t3 =>
  (some (t0 : D)).bind fun t7 =>
  (dLenT tab ty29 t7).bind fun t8 =>
  (dBin tab .gtr ty3 t8 (.int .i64 32)).bind fun t9 =>
  dIf t9
    ((some (.nils : D)).bind fun t2_1 =>
    (some (.int .i64 4 : D)).bind fun t3_1 =>
    ((some (t2_1 : D)).bind fun d => ((some (t3_1 : D)).bind fun d => (some ([] : List D)).bind fun ds => some (d :: ds)).bind fun ds => some (d :: ds)).bind fun ds => some (mkRes ds, h))
    ((some (t0 : D)).bind fun t10 =>
  (dLenT tab ty29 t10).bind fun t11 =>
  (some (.int .i64 0 : D)).bind fun t12 =>
  ((loopW (F1052_L0 t10 t11) [t2, t3, .any, t12, .any, .any] h).bind fun r =>
    some ((unblk 0 r.1), [(nth 0 r.2.1), (nth 1 r.2.1), (nth 2 r.2.1), (nth 3 r.2.1), (nth 4 r.2.1), (nth 5 r.2.1)], r.2.2)).bind fun r_1 =>
  toEnd r_1.1 ((some (t0 : D)).bind fun t21 =>
  (R fn1009 [t21] r_1.2.2).bind fun p22 =>
  (some (p22.1 : D)).bind fun t0_1 =>
  (some (t0_1 : D)).bind fun t23 =>
  (R fn1057 [t23, .fn (.func fn1058) [] []] p22.2).bind fun p24 =>
  (some (.int .i64 1 : D)).bind fun t6 =>
  ((loopW (F1052_L1 t0_1) [(nth 0 r_1.2.1), (nth 1 r_1.2.1), t6, .any, .any] p24.2).bind fun r_2 =>
    some ((unblk 2 r_2.1), [(nth 0 r_2.2.1), (nth 1 r_2.2.1), (nth 2 r_2.2.1), (nth 3 r_2.2.1), (nth 4 r_2.2.1)], r_2.2.2)).bind fun r_3 =>
  toEnd r_3.1 ((some (t0_1 : D)).bind fun t43 =>
  (some (t43 : D)).bind fun t2_4 =>
  (some (.int .i64 0 : D)).bind fun t3_4 =>
  ((some (t2_4 : D)).bind fun d => ((some (t3_4 : D)).bind fun d => (some ([] : List D)).bind fun ds => some (d :: ds)).bind fun ds => some (d :: ds)).bind fun ds => some (mkRes ds, r_3.2.2)) fun x_1 => exEnd x_1 (((some ((nth 0 r_3.2.1) : D)).bind fun d => ((some ((nth 1 r_3.2.1) : D)).bind fun d => (some ([] : List D)).bind fun ds => some (d :: ds)).bind fun ds => some (d :: ds)).bind fun ds => some (mkRes ds, r_3.2.2))) fun x => exEnd x (((some ((nth 0 r_1.2.1) : D)).bind fun d => ((some ((nth 1 r_1.2.1) : D)).bind fun d => (some ([] : List D)).bind fun ds => some (d :: ds)).bind fun ds => some (d :: ds)).bind fun ds => some (mkRes ds, r_1.2.2)))
theorem e1052 (t0 : D) (h : Hp) : R fn1052 [t0] h = F1052 t0 h :=
  (run_fn (X := X) (F := Fs) (fi := i30) (by kernel_rfl) _ _).trans (by kernel_rfl)
/-- a loop: slots 4 5 13 14 24 -/
noncomputable def F1053_L0 (t0 : D) (t1 : D) (t12 : D) (ds : List D) (h_1 : Hp) : Option Out :=
    (dBin tab .lss ty3 (nth 2 ds) t12).bind fun t14 =>
    dIf t14
      ((some ((nth 2 ds) : D)).bind fun t15 =>
    (some (t15 : D)).bind fun t5 =>
    (some (t0 : D)).bind fun t16 =>
    (some (t5 : D)).bind fun t17 =>
    (dIndexAddr tab ty29 t16 t17).bind fun t18 =>
    (dLoad tab h_1 ty109 t18).bind fun t19 =>
    (some (t1 : D)).bind fun t20 =>
    (some (t5 : D)).bind fun t21 =>
    (dIndexAddr tab ty29 t20 t21).bind fun t22 =>
    (dLoad tab h_1 ty109 t22).bind fun t23 =>
    (dBin tab .neq ty109 t19 t23).bind fun t24 =>
    dIf t24
      ((some (.bool false : D)).bind fun t4_2 =>
      some (.ret, [t4_2, t5, (nth 2 ds), t14, t24], h_1))
      ((dBin tab .add ty3 (nth 2 ds) (.int .i64 1)).bind fun t25 =>
    (some (t25 : D)).bind fun t13_1 =>
    some (.nrm, [(nth 0 ds), t5, t13_1, t14, t24], h_1)))
      (some ((.ext 0), [(nth 0 ds), (nth 1 ds), (nth 2 ds), t14, (nth 4 ds)], h_1))
noncomputable def F1053 (t0 : D) (t1 : D) (h : Hp) : Option (D × Hp) :=
  (some (.bool false : D)).bind fun t4 =>
  (some (t0 : D)).bind fun t6 =>
  (dLenT tab ty29 t6).bind fun t7 =>
  (some (t1 : D)).bind fun t8 =>
  (dLenT tab ty29 t8).bind fun t9 =>
  (dBin tab .neq ty3 t7 t9).bind fun t10 =>
  dIf t10
    ((some (.bool false : D)).bind fun t4_1 =>
    ((some (t4_1 : D)).bind fun d => (some ([] : List D)).bind fun ds => some (d :: ds)).bind fun ds => some (mkRes ds, h))
    ((some (t0 : D)).bind fun t11 =>
  (dLenT tab ty29 t11).bind fun t12 =>
  (some (.int .i64 0 : D)).bind fun t13 =>
  ((loopW (F1053_L0 t0 t1 t12) [t4, .any, t13, .any, .any] h).bind fun r =>
    some ((unblk 0 r.1), [(nth 0 r.2.1), (nth 1 r.2.1), (nth 2 r.2.1), (nth 3 r.2.1), (nth 4 r.2.1)], r.2.2)).bind fun r_1 =>
  toEnd r_1.1 ((some (.bool true : D)).bind fun t4_3 =>
  ((some (t4_3 : D)).bind fun d => (some ([] : List D)).bind fun ds => some (d :: ds)).bind fun ds => some (mkRes ds, r_1.2.2)) fun x => exEnd x (((some ((nth 0 r_1.2.1) : D)).bind fun d => (some ([] : List D)).bind fun ds => some (d :: ds)).bind fun ds => some (mkRes ds, r_1.2.2)))
theorem e1053 (t0 : D) (t1 : D) (h : Hp) : R fn1053 [t0, t1] h = F1053 t0 t1 h :=
  (run_fn (X := X) (F := Fs) (fi := i31) (by kernel_rfl) _ _).trans (by kernel_rfl)
noncomputable def F1054 (t0 : D) (t1 : D) (h : Hp) : Option (D × Hp) :=
  (some (.bool false : D)).bind fun t4 =>
  (some (t0 : D)).bind fun t5 =>
  (some (t1 : D)).bind fun t6 =>
  (R fn1060 [t5, t6] h).bind fun p7 =>
  (dBin tab .geq ty3 p7.1 (.int .i64 0)).bind fun t8 =>
  (some (t8 : D)).bind fun t4_1 =>
  ((some (t4_1 : D)).bind fun d => (some ([] : List D)).bind fun ds => some (d :: ds)).bind fun ds => some (mkRes ds, p7.2)
theorem e1054 (t0 : D) (t1 : D) (h : Hp) : R fn1054 [t0, t1] h = F1054 t0 t1 h :=
  (run_fn (X := X) (F := Fs) (fi := i32) (by kernel_rfl) _ _).trans (by kernel_rfl)
noncomputable def F1055 (t0 : D) (h : Hp) : Option (D × Hp) :=
  (pBoxF t0).bind fun t1 =>
  (some (.bool false : D)).bind fun t2 =>
  (dFieldAddr tab ty109 1 t1).bind fun t3 =>
  (dLoad tab h ty9 t3).bind fun t4 =>
  (dLenT tab ty9 t4).bind fun t5 =>
  (dBin tab .gtr ty3 t5 (.int .i64 2000)).bind fun t6 =>
  (some (t6 : D)).bind fun t2_1 =>
  ((some (t2_1 : D)).bind fun d => (some ([] : List D)).bind fun ds => some (d :: ds)).bind fun ds => some (mkRes ds, h)
theorem e1055 (t0 : D) (h : Hp) : R fn1055 [t0] h = F1055 t0 h :=
  (run_fn (X := X) (F := Fs) (fi := i33) (by kernel_rfl) _ _).trans (by kernel_rfl)
/-- a loop: slots 4 5 8 9 16 -/
noncomputable def F1006_L0 (t0 : D) (t1 : D) (t7 : D) (ds : List D) (h_1 : Hp) : Option Out :=
    (dBin tab .lss ty3 (nth 2 ds) t7).bind fun t9 =>
    dIf t9
      ((some ((nth 2 ds) : D)).bind fun t10 =>
    (some (t10 : D)).bind fun t5 =>
    (some (t1 : D)).bind fun t11 =>
    (some (t0 : D)).bind fun t12 =>
    (some (t5 : D)).bind fun t13 =>
    (dIndexAddr tab ty28 t12 t13).bind fun t14 =>
    (dLoad tab h_1 ty78 t14).bind fun t15 =>
    (callV R t11 [t15] h_1).bind fun p16 =>
    dIf p16.1
      ((some (t5 : D)).bind fun t17 =>
      (some (t17 : D)).bind fun t4_1 =>
      some (.ret, [t4_1, t5, (nth 2 ds), t9, p16.1], p16.2))
      ((dBin tab .add ty3 (nth 2 ds) (.int .i64 1)).bind fun t18 =>
    (some (t18 : D)).bind fun t8_1 =>
    some (.nrm, [(nth 0 ds), t5, t8_1, t9, p16.1], p16.2)))
      (some ((.ext 0), [(nth 0 ds), (nth 1 ds), (nth 2 ds), t9, (nth 4 ds)], h_1))
noncomputable def F1006 (t0 : D) (t1 : D) (h : Hp) : Option (D × Hp) :=
  (some (.int .i64 0 : D)).bind fun t4 =>
  (some (t0 : D)).bind fun t6 =>
  (dLenT tab ty28 t6).bind fun t7 =>
  (some (.int .i64 0 : D)).bind fun t8 =>
  ((loopW (F1006_L0 t0 t1 t7) [t4, .any, t8, .any, .any] h).bind fun r =>
    some ((unblk 0 r.1), [(nth 0 r.2.1), (nth 1 r.2.1), (nth 2 r.2.1), (nth 3 r.2.1), (nth 4 r.2.1)], r.2.2)).bind fun r_1 =>
  toEnd r_1.1 ((some (.int .i64 (-1) : D)).bind fun t4_2 =>
  ((some (t4_2 : D)).bind fun d => (some ([] : List D)).bind fun ds => some (d :: ds)).bind fun ds => some (mkRes ds, r_1.2.2)) fun x => exEnd x (((some ((nth 0 r_1.2.1) : D)).bind fun d => (some ([] : List D)).bind fun ds => some (d :: ds)).bind fun ds => some (mkRes ds, r_1.2.2))
theorem e1006 (t0 : D) (t1 : D) (h : Hp) : R fn1006 [t0, t1] h = F1006 t0 t1 h :=
  (run_fn (X := X) (F := Fs) (fi := i34) (by kernel_rfl) _ _).trans (by kernel_rfl)
/-- a loop: slots 5 6 12 -/
noncomputable def F83_L0 (t0 : D) (ds : List D) (h_1 : Hp) : Option Out :=
    (some ((nth 1 ds) : D)).bind fun t11 =>
    (dBin tab .gtr ty3 t11 (.int .i64 0)).bind fun t12 =>
    dIf t12
      ((some ((nth 0 ds) : D)).bind fun t15 =>
    (some (t0 : D)).bind fun t16 =>
    (pLitF tab ty98 18 [0, 1, 2, 3, 4, 5, 6, 7, 8, 9, 10, 11, 12, 13, 14, 15, 16, 17] [.str [97], .str [98], .str [32], .str [49], .str [117, 115, 101, 114], .str [61], .str [34], .str [55], .str [46], .str [44], .str [120, 32, 121], .str [49, 48, 46, 50], .str [45], .str [195, 169], .str [91], .str [105, 100], .str [9], .str [58]]).bind fun t17 =>
    (R fn40 [t16, t17] h_1).bind fun p18 =>
    (dBin tab .add ty9 t15 p18.1).bind fun t19 =>
    (some (t19 : D)).bind fun t5_1 =>
    (some ((nth 1 ds) : D)).bind fun t13 =>
    (dBin tab .sub ty3 t13 (.int .i64 1)).bind fun t14 =>
    (some (t14 : D)).bind fun t6_1 =>
    some (.nrm, [t5_1, t6_1, t12], p18.2))
      (some ((.ext 0), [(nth 0 ds), (nth 1 ds), t12], h_1))
noncomputable def F83 (t0 : D) (t1 : D) (h : Hp) : Option (D × Hp) :=
  (some (.str [] : D)).bind fun t4 =>
  (some (.str [] : D)).bind fun t5 =>
  (some (t0 : D)).bind fun t7 =>
  (some (t1 : D)).bind fun t8 =>
  (dBin tab .add ty3 t8 (.int .i64 1)).bind fun t9 =>
  (R fn39 [t7, t9] h).bind fun p10 =>
  (some (p10.1 : D)).bind fun t6 =>
  ((loopW (F83_L0 t0) [t5, t6, .any] p10.2).bind fun r =>
    some ((unblk 0 r.1), [(nth 0 r.2.1), (nth 1 r.2.1), (nth 2 r.2.1)], r.2.2)).bind fun r_1 =>
  toEnd r_1.1 ((some ((nth 0 r_1.2.1) : D)).bind fun t20 =>
  (some (t20 : D)).bind fun t4_1 =>
  ((some (t4_1 : D)).bind fun d => (some ([] : List D)).bind fun ds => some (d :: ds)).bind fun ds => some (mkRes ds, r_1.2.2)) fun x => exEnd x (((some (t4 : D)).bind fun d => (some ([] : List D)).bind fun ds => some (d :: ds)).bind fun ds => some (mkRes ds, r_1.2.2))
theorem e83 (t0 : D) (t1 : D) (h : Hp) : R fn83 [t0, t1] h = F83 t0 t1 h :=
  (run_fn (X := X) (F := Fs) (fi := i35) (by kernel_rfl) _ _).trans (by kernel_rfl)
/-- a loop: slots 2 4 26 27 36 -/
noncomputable def F1056_L0 (p24 : D × Hp) (t25 : D) (ds : List D) (h_1 : Hp) : Option Out :=
    (dBin tab .lss ty3 (nth 2 ds) t25).bind fun t27 =>
    dIf t27
      ((dIndexAddr tab ty22 p24.1 (nth 2 ds)).bind fun t28 =>
    (dLoad tab h_1 ty5 t28).bind fun t29 =>
    (some (t29 : D)).bind fun t4 =>
    (some (t4 : D)).bind fun t30 =>
    (R fn1062 [t30] h_1).bind fun p31 =>
    (dUn .not p31.1).bind fun t32 =>
    (some (t32 : D)).bind fun t33 =>
    (gd t33 true (some (t4 : D))).bind fun t34 =>
    (gd t33 true (dBin tab .neq ty5 t34 (.int .u8 46))).bind fun t35 =>
    (dPick t33 t35 (.bool false)).bind fun t36 =>
    dIf t36
      ((some (.bool false : D)).bind fun t2_2 =>
      some (.ret, [t2_2, t4, (nth 2 ds), t27, t36], p31.2))
      ((dBin tab .add ty3 (nth 2 ds) (.int .i64 1)).bind fun t37 =>
    (some (t37 : D)).bind fun t26_1 =>
    some (.nrm, [(nth 0 ds), t4, t26_1, t27, t36], p31.2)))
      (some ((.ext 0), [(nth 0 ds), (nth 1 ds), (nth 2 ds), t27, (nth 4 ds)], h_1))
noncomputable def F1056 (t0 : D) (h : Hp) : Option (D × Hp) :=
  (some (.bool false : D)).bind fun t2 =>
  (some (t0 : D)).bind fun t5 =>
  (dBin tab .eql ty9 t5 (.str [])).bind fun t6 =>
  (some (t6 : D)).bind fun t7 =>
  (gd t7 false (some (t0 : D))).bind fun t8 =>
  (gd t7 false (dLenT tab ty9 t8)).bind fun t9 =>
  (gd t7 false (dBin tab .gtr ty3 t9 (.int .i64 32))).bind fun t10 =>
  (dPick t7 (.bool true) t10).bind fun t11 =>
  (some (t11 : D)).bind fun t12 =>
  (gd t12 false (some (t0 : D))).bind fun t13 =>
  (gd t12 false (dIndex tab ty9 t13 (.int .i64 0))).bind fun t14 =>
  (gdW t12 false h (R fn1061 [t14] h)).bind fun p15 =>
  (gd t12 false (dUn .not p15.1)).bind fun t16 =>
  (gd t12 false (some (t16 : D))).bind fun t17 =>
  (gd t17 true (some (t0 : D))).bind fun t18 =>
  (gd t17 true (dIndex tab ty9 t18 (.int .i64 0))).bind fun t19 =>
  (gd t17 true (dBin tab .neq ty5 t19 (.int .u8 95))).bind fun t20 =>
  (gd t12 false (dPick t17 t20 (.bool false))).bind fun t21 =>
  (dPick t12 (.bool true) t21).bind fun t22 =>
  dIf t22
    ((some (.bool false : D)).bind fun t2_1 =>
    ((some (t2_1 : D)).bind fun d => (some ([] : List D)).bind fun ds => some (d :: ds)).bind fun ds => scope h p15.2 (mkRes ds))
    ((some (t0 : D)).bind fun t23 =>
  (wBytes ty5 p15.2 t23).bind fun p24 =>
  (dLenT tab ty22 p24.1).bind fun t25 =>
  (some (.int .i64 0 : D)).bind fun t26 =>
  ((loopW (F1056_L0 p24 t25) [t2, .any, t26, .any, .any] p24.2).bind fun r =>
    some ((unblk 0 r.1), [(nth 0 r.2.1), (nth 1 r.2.1), (nth 2 r.2.1), (nth 3 r.2.1), (nth 4 r.2.1)], r.2.2)).bind fun r_1 =>
  toEnd r_1.1 ((some (.bool true : D)).bind fun t2_3 =>
  ((some (t2_3 : D)).bind fun d => (some ([] : List D)).bind fun ds => some (d :: ds)).bind fun ds => scope h r_1.2.2 (mkRes ds)) fun x => exEnd x (((some ((nth 0 r_1.2.1) : D)).bind fun d => (some ([] : List D)).bind fun ds => some (d :: ds)).bind fun ds => scope h r_1.2.2 (mkRes ds)))
theorem e1056 (t0 : D) (h : Hp) : R fn1056 [t0] h = F1056 t0 h :=
  (run_fn (X := X) (F := Fs) (fi := i36) (by kernel_rfl) _ _).trans (by kernel_rfl)
noncomputable def F1009 (t0 : D) (h : Hp) : Option (D × Hp) :=
  (some (.nils : D)).bind fun t2 =>
  (some (t0 : D)).bind fun t3 =>
  (dBin tab .eql ty29 t3 (.nils)).bind fun t4 =>
  dIf t4
    ((some (.nils : D)).bind fun t2_1 =>
    ((some (t2_1 : D)).bind fun d => (some ([] : List D)).bind fun ds => some (d :: ds)).bind fun ds => some (mkRes ds, h))
    ((pLitF tab ty29 0 [] []).bind fun t5 =>
  (some (t0 : D)).bind fun t6 =>
  (dAppend tab h ty29 ty29 t5 t6).bind fun p7 =>
  (some (p7.1 : D)).bind fun t2_2 =>
  ((some (t2_2 : D)).bind fun d => (some ([] : List D)).bind fun ds => some (d :: ds)).bind fun ds => some (mkRes ds, p7.2))
theorem e1009 (t0 : D) (h : Hp) : R fn1009 [t0] h = F1009 t0 h :=
  (run_fn (X := X) (F := Fs) (fi := i37) (by kernel_rfl) _ _).trans (by kernel_rfl)
noncomputable def F1057 (t0 : D) (t1 : D) (h : Hp) : Option (D × Hp) :=
  (some (t0 : D)).bind fun t4 =>
  (some (t0 : D)).bind fun t5 =>
  (dLenT tab ty29 t5).bind fun t6 =>
  (some (t1 : D)).bind fun t7 =>
  (R fn1063 [t4, t6, t7] h).bind fun p8 =>
  (some ([] : List D)).bind fun ds => some (mkRes ds, p8.2)
theorem e1057 (t0 : D) (t1 : D) (h : Hp) : R fn1057 [t0, t1] h = F1057 t0 t1 h :=
  (run_fn (X := X) (F := Fs) (fi := i38) (by kernel_rfl) _ _).trans (by kernel_rfl)
noncomputable def F1058 (t0 : D) (t1 : D) (h : Hp) : Option (D × Hp) :=
  (pBoxF t0).bind fun t2 =>
  (pBoxF t1).bind fun t3 =>
  (some (.int .i64 0 : D)).bind fun t4 =>
  (dFieldAddr tab ty109 0 t2).bind fun t5 =>
  (dLoad tab h ty9 t5).bind fun t6 =>
  (dFieldAddr tab ty109 0 t3).bind fun t7 =>
  (dLoad tab h ty9 t7).bind fun t8 =>
  (R fn1059 [t6, t8] h).bind fun p9 =>
  (some (p9.1 : D)).bind fun t4_1 =>
  ((some (t4_1 : D)).bind fun d => (some ([] : List D)).bind fun ds => some (d :: ds)).bind fun ds => some (mkRes ds, p9.2)
theorem e1058 (t0 : D) (t1 : D) (h : Hp) : R fn1058 [t0, t1] h = F1058 t0 t1 h :=
  (run_fn (X := X) (F := Fs) (fi := i39) (by kernel_rfl) _ _).trans (by kernel_rfl)
noncomputable def F1059 (t0 : D) (t1 : D) (h : Hp) : Option (D × Hp) :=
  (some (.int .i64 0 : D)).bind fun t4 =>
  (some (t0 : D)).bind fun t5 =>
  (some (t1 : D)).bind fun t6 =>
  (R fn1064 [t5, t6] h).bind fun p7 =>
  (some (p7.1 : D)).bind fun t4_1 =>
  ((some (t4_1 : D)).bind fun d => (some ([] : List D)).bind fun ds => some (d :: ds)).bind fun ds => some (mkRes ds, p7.2)
theorem e1059 (t0 : D) (t1 : D) (h : Hp) : R fn1059 [t0, t1] h = F1059 t0 t1 h :=
  (run_fn (X := X) (F := Fs) (fi := i40) (by kernel_rfl) _ _).trans (by kernel_rfl)
/-- a loop: slots 4 5 8 9 16 -/
noncomputable def F1060_L0 (t0 : D) (t1 : D) (t7 : D) (ds : List D) (h_1 : Hp) : Option Out :=
    (dBin tab .lss ty3 (nth 2 ds) t7).bind fun t9 =>
    dIf t9
      ((some ((nth 2 ds) : D)).bind fun t10 =>
    (some (t10 : D)).bind fun t5 =>
    (some (t1 : D)).bind fun t11 =>
    (some (t0 : D)).bind fun t12 =>
    (some (t5 : D)).bind fun t13 =>
    (dIndexAddr tab ty29 t12 t13).bind fun t14 =>
    (dLoad tab h_1 ty109 t14).bind fun t15 =>
    (callV R t11 [t15] h_1).bind fun p16 =>
    dIf p16.1
      ((some (t5 : D)).bind fun t17 =>
      (some (t17 : D)).bind fun t4_1 =>
      some (.ret, [t4_1, t5, (nth 2 ds), t9, p16.1], p16.2))
      ((dBin tab .add ty3 (nth 2 ds) (.int .i64 1)).bind fun t18 =>
    (some (t18 : D)).bind fun t8_1 =>
    some (.nrm, [(nth 0 ds), t5, t8_1, t9, p16.1], p16.2)))
      (some ((.ext 0), [(nth 0 ds), (nth 1 ds), (nth 2 ds), t9, (nth 4 ds)], h_1))
noncomputable def F1060 (t0 : D) (t1 : D) (h : Hp) : Option (D × Hp) :=
  (some (.int .i64 0 : D)).bind fun t4 =>
  (some (t0 : D)).bind fun t6 =>
  (dLenT tab ty29 t6).bind fun t7 =>
  (some (.int .i64 0 : D)).bind fun t8 =>
  ((loopW (F1060_L0 t0 t1 t7) [t4, .any, t8, .any, .any] h).bind fun r =>
    some ((unblk 0 r.1), [(nth 0 r.2.1), (nth 1 r.2.1), (nth 2 r.2.1), (nth 3 r.2.1), (nth 4 r.2.1)], r.2.2)).bind fun r_1 =>
  toEnd r_1.1 ((some (.int .i64 (-1) : D)).bind fun t4_2 =>
  ((some (t4_2 : D)).bind fun d => (some ([] : List D)).bind fun ds => some (d :: ds)).bind fun ds => some (mkRes ds, r_1.2.2)) fun x => exEnd x (((some ((nth 0 r_1.2.1) : D)).bind fun d => (some ([] : List D)).bind fun ds => some (d :: ds)).bind fun ds => some (mkRes ds, r_1.2.2))
theorem e1060 (t0 : D) (t1 : D) (h : Hp) : R fn1060 [t0, t1] h = F1060 t0 t1 h :=
  (run_fn (X := X) (F := Fs) (fi := i41) (by kernel_rfl) _ _).trans (by kernel_rfl)
noncomputable def F1061 (t0 : D) (h : Hp) : Option (D × Hp) :=
  (some (.bool false : D)).bind fun t2 =>
  (some (t0 : D)).bind fun t3 =>
  (dIndexAddr tab ty1044 (.fptr kin) t3).bind fun t4 =>
  (dLoad tab h ty5 t4).bind fun t5 =>
  (dBin tab .and ty5 t5 (.int .u8 2)).bind fun t6 =>
  (dBin tab .neq ty5 t6 (.int .u8 0)).bind fun t7 =>
  (some (t7 : D)).bind fun t2_1 =>
  ((some (t2_1 : D)).bind fun d => (some ([] : List D)).bind fun ds => some (d :: ds)).bind fun ds => some (mkRes ds, h)
theorem e1061 (t0 : D) (h : Hp) : R fn1061 [t0] h = F1061 t0 h :=
  (run_fn (X := X) (F := Fs) (fi := i42) (by kernel_rfl) _ _).trans (by kernel_rfl)
noncomputable def F1062 (t0 : D) (h : Hp) : Option (D × Hp) :=
  (some (.bool false : D)).bind fun t2 =>
  (some (t0 : D)).bind fun t3 =>
  (dIndexAddr tab ty1044 (.fptr kin) t3).bind fun t4 =>
  (dLoad tab h ty5 t4).bind fun t5 =>
  (dBin tab .and ty5 t5 (.int .u8 3)).bind fun t6 =>
  (dBin tab .neq ty5 t6 (.int .u8 0)).bind fun t7 =>
  (some (t7 : D)).bind fun t8 =>
  (gd t8 false (some (t0 : D))).bind fun t9 =>
  (gd t8 false (dBin tab .eql ty5 t9 (.int .u8 95))).bind fun t10 =>
  (dPick t8 (.bool true) t10).bind fun t11 =>
  (some (t11 : D)).bind fun t2_1 =>
  ((some (t2_1 : D)).bind fun d => (some ([] : List D)).bind fun ds => some (d :: ds)).bind fun ds => some (mkRes ds, h)
theorem e1062 (t0 : D) (h : Hp) : R fn1062 [t0] h = F1062 t0 h :=
  (run_fn (X := X) (F := Fs) (fi := i43) (by kernel_rfl) _ _).trans (by kernel_rfl)
/-- a loop: slots 7 8 13 -/
noncomputable def F1063_L0 (t0 : D) (t1 : D) (t2 : D) (t6 : D) (ds : List D) (h_1 : Hp) : Option Out :=
    (some ((nth 1 ds) : D)).bind fun t11 =>
    (some (t1 : D)).bind fun t12 =>
    (dBin tab .leq ty3 t11 t12).bind fun t13 =>
    dIf t13
      ((some (t0 : D)).bind fun t14 =>
    (some ((nth 0 ds) : D)).bind fun t15 =>
    (some ((nth 1 ds) : D)).bind fun t16 =>
    (some (t2 : D)).bind fun t17 =>
    (R fn1065 [t14, t15, t16, t17] h_1).bind fun p18 =>
    (some ((nth 1 ds) : D)).bind fun t19 =>
    (some (t19 : D)).bind fun t7_1 =>
    (some ((nth 1 ds) : D)).bind fun t20 =>
    (some (t6 : D)).bind fun t21 =>
    (dBin tab .add ty3 t20 t21).bind fun t22 =>
    (some (t22 : D)).bind fun t8_1 =>
    some (.nrm, [t7_1, t8_1, t13], p18.2))
      (some ((.ext 0), [(nth 0 ds), (nth 1 ds), t13], h_1))
/-- a loop: slots 7 8 35 -/
noncomputable def F1063_L2 (t0 : D) (t1 : D) (t2 : D) (ds_1 : List D) (ds_2 : List D) (h_3 : Hp) : Option Out :=
    (some ((nth 1 ds_2) : D)).bind fun t33 =>
    (some (t1 : D)).bind fun t34 =>
    (dBin tab .leq ty3 t33 t34).bind fun t35 =>
    dIf t35
      ((some (t0 : D)).bind fun t36 =>
    (some ((nth 0 ds_2) : D)).bind fun t37 =>
    (some ((nth 0 ds_2) : D)).bind fun t38 =>
    (some ((nth 0 ds_1) : D)).bind fun t39 =>
    (dBin tab .add ty3 t38 t39).bind fun t40 =>
    (some ((nth 1 ds_2) : D)).bind fun t41 =>
    (some (t2 : D)).bind fun t42 =>
    (R fn1066 [t36, t37, t40, t41, t42] h_3).bind fun p43 =>
    (some ((nth 1 ds_2) : D)).bind fun t44 =>
    (some (t44 : D)).bind fun t7_3 =>
    (some ((nth 1 ds_2) : D)).bind fun t45 =>
    (some ((nth 0 ds_1) : D)).bind fun t46 =>
    (dBin tab .mul ty3 (.int .i64 2) t46).bind fun t47 =>
    (dBin tab .add ty3 t45 t47).bind fun t48 =>
    (some (t48 : D)).bind fun t8_3 =>
    some (.nrm, [t7_3, t8_3, t35], p43.2))
      (some ((.ext 4), [(nth 0 ds_2), (nth 1 ds_2), t35], h_3))
/-- a loop: slots 6 7 8 9 30 35 54 -/
noncomputable def F1063_L1 (t0 : D) (t1 : D) (t2 : D) (ds_1 : List D) (h_2 : Hp) : Option Out :=
    (some ((nth 0 ds_1) : D)).bind fun t28 =>
    (some (t1 : D)).bind fun t29 =>
    (dBin tab .lss ty3 t28 t29).bind fun t30 =>
    dIf t30
      ((some ((nth 0 ds_1) : D)).bind fun t31 =>
    (dBin tab .mul ty3 (.int .i64 2) t31).bind fun t32 =>
    (some (.int .i64 0 : D)).bind fun t7_2 =>
    (some (t32 : D)).bind fun t8_2 =>
    ((loopW (F1063_L2 t0 t1 t2 ds_1) [t7_2, t8_2, (nth 5 ds_1)] h_2).bind fun r_3 =>
      some ((unblk 4 r_3.1), [(nth 0 r_3.2.1), (nth 1 r_3.2.1), (nth 2 r_3.2.1)], r_3.2.2)).bind fun r_4 =>
    toEnd r_4.1 ((some ((nth 0 r_4.2.1) : D)).bind fun t49 =>
    (some ((nth 0 ds_1) : D)).bind fun t50 =>
    (dBin tab .add ty3 t49 t50).bind fun t51 =>
    (some (t51 : D)).bind fun t9 =>
    (some (t9 : D)).bind fun t52 =>
    (some (t1 : D)).bind fun t53 =>
    (dBin tab .lss ty3 t52 t53).bind fun t54 =>
    (dIf t54
      ((some (t0 : D)).bind fun t55 =>
      (some ((nth 0 r_4.2.1) : D)).bind fun t56 =>
      (some (t9 : D)).bind fun t57 =>
      (some (t1 : D)).bind fun t58 =>
      (some (t2 : D)).bind fun t59 =>
      (R fn1066 [t55, t56, t57, t58, t59] r_4.2.2).bind fun p60 =>
      some (.nrm, ([] : List D), p60.2))
      (some (.nrm, ([] : List D), r_4.2.2))).bind fun r_5 =>
    toEnd r_5.1 ((some ((nth 0 ds_1) : D)).bind fun t61 =>
    (dBin tab .mul ty3 t61 (.int .i64 2)).bind fun t62 =>
    (some (t62 : D)).bind fun t6_1 =>
    some (.nrm, [t6_1, (nth 0 r_4.2.1), (nth 1 r_4.2.1), t9, t30, (nth 2 r_4.2.1), t54], r_5.2.2)) fun x_2 => some ((unblk 3 x_2), [(nth 0 ds_1), (nth 0 r_4.2.1), (nth 1 r_4.2.1), t9, t30, (nth 2 r_4.2.1), t54], r_5.2.2)) fun x_1 => some ((unblk 3 x_1), [(nth 0 ds_1), (nth 0 r_4.2.1), (nth 1 r_4.2.1), (nth 3 ds_1), t30, (nth 2 r_4.2.1), (nth 6 ds_1)], r_4.2.2))
      (some ((.ext 2), [(nth 0 ds_1), (nth 1 ds_1), (nth 2 ds_1), (nth 3 ds_1), t30, (nth 5 ds_1), (nth 6 ds_1)], h_2))
noncomputable def F1063 (t0 : D) (t1 : D) (t2 : D) (h : Hp) : Option (D × Hp) :=
  (some (.int .i64 20 : D)).bind fun t6 =>
  (some (t6 : D)).bind fun t10 =>
  (some (.int .i64 0 : D)).bind fun t7 =>
  (some (t10 : D)).bind fun t8 =>
  ((loopW (F1063_L0 t0 t1 t2 t6) [t7, t8, .any] h).bind fun r =>
    some ((unblk 0 r.1), [(nth 0 r.2.1), (nth 1 r.2.1), (nth 2 r.2.1)], r.2.2)).bind fun r_1 =>
  toEnd r_1.1 ((some (t0 : D)).bind fun t23 =>
  (some ((nth 0 r_1.2.1) : D)).bind fun t24 =>
  (some (t1 : D)).bind fun t25 =>
  (some (t2 : D)).bind fun t26 =>
  (R fn1065 [t23, t24, t25, t26] r_1.2.2).bind fun p27 =>
  ((loopW (F1063_L1 t0 t1 t2) [t6, (nth 0 r_1.2.1), (nth 1 r_1.2.1), .any, .any, .any, .any] p27.2).bind fun r_2 =>
    some ((unblk 2 r_2.1), [(nth 0 r_2.2.1), (nth 1 r_2.2.1), (nth 2 r_2.2.1), (nth 3 r_2.2.1), (nth 4 r_2.2.1), (nth 5 r_2.2.1), (nth 6 r_2.2.1)], r_2.2.2)).bind fun r_6 =>
  exEnd r_6.1 ((some ([] : List D)).bind fun ds => some (mkRes ds, r_6.2.2))) fun x => exEnd x ((some ([] : List D)).bind fun ds => some (mkRes ds, r_1.2.2))
theorem e1063 (t0 : D) (t1 : D) (t2 : D) (h : Hp) : R fn1063 [t0, t1, t2] h = F1063 t0 t1 t2 h :=
  (run_fn (X := X) (F := Fs) (fi := i44) (by kernel_rfl) _ _).trans (by kernel_rfl)
noncomputable def F1064 (t0 : D) (t1 : D) (h : Hp) : Option (D × Hp) :=
  (some (.int .i64 0 : D)).bind fun t4 =>
  (some (t0 : D)).bind fun t5 =>
  (some (t1 : D)).bind fun t6 =>
  (R fn1067 [t5, t6] h).bind fun p7 =>
  (some (p7.1 : D)).bind fun t4_1 =>
  ((some (t4_1 : D)).bind fun d => (some ([] : List D)).bind fun ds => some (d :: ds)).bind fun ds => some (mkRes ds, p7.2)
theorem e1064 (t0 : D) (t1 : D) (h : Hp) : R fn1064 [t0, t1] h = F1064 t0 t1 h :=
  (run_fn (X := X) (F := Fs) (fi := i45) (by kernel_rfl) _ _).trans (by kernel_rfl)
/-- a loop: slots 9 34 -/
noncomputable def F1065_L1 (t0 : D) (t1 : D) (t3 : D) (ds_1 : List D) (h_2 : Hp) : Option Out :=
    (some ((nth 0 ds_1) : D)).bind fun t18 =>
    (some (t1 : D)).bind fun t19 =>
    (dBin tab .gtr ty3 t18 t19).bind fun t20 =>
    (some (t20 : D)).bind fun t21 =>
    (gd t21 true (some (t3 : D))).bind fun t22 =>
    (gd t21 true (some (t0 : D))).bind fun t23 =>
    (gd t21 true (some ((nth 0 ds_1) : D))).bind fun t24 =>
    (gd t21 true (dIndexAddr tab ty29 t23 t24)).bind fun t25 =>
    (gd t21 true (dLoad tab h_2 ty109 t25)).bind fun t26 =>
    (gd t21 true (some (t0 : D))).bind fun t27 =>
    (gd t21 true (some ((nth 0 ds_1) : D))).bind fun t28 =>
    (gd t21 true (dBin tab .sub ty3 t28 (.int .i64 1))).bind fun t29 =>
    (gd t21 true (dIndexAddr tab ty29 t27 t29)).bind fun t30 =>
    (gd t21 true (dLoad tab h_2 ty109 t30)).bind fun t31 =>
    (gdW t21 true h_2 (callV R t22 [t26, t31] h_2)).bind fun p32 =>
    (gd t21 true (dBin tab .lss ty3 p32.1 (.int .i64 0))).bind fun t33 =>
    (dPick t21 t33 (.bool false)).bind fun t34 =>
    dIf t34
      ((some (t0 : D)).bind fun t37 =>
    (some ((nth 0 ds_1) : D)).bind fun t38 =>
    (some (t0 : D)).bind fun t39 =>
    (some ((nth 0 ds_1) : D)).bind fun t40 =>
    (dBin tab .sub ty3 t40 (.int .i64 1)).bind fun t41 =>
    (some (t0 : D)).bind fun t42 =>
    (some ((nth 0 ds_1) : D)).bind fun t43 =>
    (dBin tab .sub ty3 t43 (.int .i64 1)).bind fun t44 =>
    (dIndexAddr tab ty29 t42 t44).bind fun t45 =>
    (dLoad tab p32.2 ty109 t45).bind fun t46 =>
    (some (t0 : D)).bind fun t47 =>
    (some ((nth 0 ds_1) : D)).bind fun t48 =>
    (dIndexAddr tab ty29 t47 t48).bind fun t49 =>
    (dLoad tab p32.2 ty109 t49).bind fun t50 =>
    (dIndexAddr tab ty29 t37 t38).bind fun t51 =>
    ((dStore tab p32.2 ty109 t51 t46).bind fun h' => some ((.und : D), h')).bind fun p915 =>
    (dIndexAddr tab ty29 t39 t41).bind fun t52 =>
    ((dStore tab p915.2 ty109 t52 t50).bind fun h' => some ((.und : D), h')).bind fun p917 =>
    (some ((nth 0 ds_1) : D)).bind fun t35 =>
    (dBin tab .sub ty3 t35 (.int .i64 1)).bind fun t36 =>
    (some (t36 : D)).bind fun t9_1 =>
    some (.nrm, [t9_1, t34], p917.2))
      (some ((.ext 2), [(nth 0 ds_1), t34], p32.2))
/-- a loop: slots 8 9 14 34 -/
noncomputable def F1065_L0 (t0 : D) (t1 : D) (t2 : D) (t3 : D) (ds : List D) (h_1 : Hp) : Option Out :=
    (some ((nth 0 ds) : D)).bind fun t12 =>
    (some (t2 : D)).bind fun t13 =>
    (dBin tab .lss ty3 t12 t13).bind fun t14 =>
    dIf t14
      ((some ((nth 0 ds) : D)).bind fun t17 =>
    (some (t17 : D)).bind fun t9 =>
    ((loopW (F1065_L1 t0 t1 t3) [t9, (nth 3 ds)] h_1).bind fun r_1 =>
      some ((unblk 2 r_1.1), [(nth 0 r_1.2.1), (nth 1 r_1.2.1)], r_1.2.2)).bind fun r_2 =>
    toEnd (unblk 1 r_2.1) ((some ((nth 0 ds) : D)).bind fun t15 =>
    (dBin tab .add ty3 t15 (.int .i64 1)).bind fun t16 =>
    (some (t16 : D)).bind fun t8_1 =>
    some (.nrm, [t8_1, (nth 0 r_2.2.1), t14, (nth 1 r_2.2.1)], r_2.2.2)) fun x => some (x, [(nth 0 ds), (nth 0 r_2.2.1), t14, (nth 1 r_2.2.1)], r_2.2.2))
      (some ((.ext 0), [(nth 0 ds), (nth 1 ds), t14, (nth 3 ds)], h_1))
noncomputable def F1065 (t0 : D) (t1 : D) (t2 : D) (t3 : D) (h : Hp) : Option (D × Hp) :=
  (some (t1 : D)).bind fun t10 =>
  (dBin tab .add ty3 t10 (.int .i64 1)).bind fun t11 =>
  (some (t11 : D)).bind fun t8 =>
  ((loopW (F1065_L0 t0 t1 t2 t3) [t8, .any, .any, .any] h).bind fun r =>
    some ((unblk 0 r.1), [(nth 0 r.2.1), (nth 1 r.2.1), (nth 2 r.2.1), (nth 3 r.2.1)], r.2.2)).bind fun r_3 =>
  exEnd r_3.1 ((some ([] : List D)).bind fun ds => some (mkRes ds, r_3.2.2))
theorem e1065 (t0 : D) (t1 : D) (t2 : D) (t3 : D) (h : Hp) : R fn1065 [t0, t1, t2, t3] h = F1065 t0 t1 t2 t3 h :=
  (run_fn (X := X) (F := Fs) (fi := i46) (by kernel_rfl) _ _).trans (by kernel_rfl)
end Go.Proofs.YtmbjebbjeaafgaaDoor
