/- Functions as Lean functions on data. -/
import Derived.Test.YtjepklgnhdellaaB1
set_option linter.unusedSimpArgs false
set_option linter.unusedVariables false
set_option linter.unnecessarySimpa false
set_option maxRecDepth 100000
namespace Go.Proofs.Ytjepklgnhdellaa
open Go.Eng Go.Pi
/-- a loop: slots 8 13 14 15 16 17 70 97 -/
noncomputable def F1103_L0 (t12 : D) (ds : List D) (h_1 : Hp) : Option Out :=
    (some ((nth 1 ds) : D)).bind fun t67 =>
    (some (t12 : D)).bind fun t68 =>
    (dLenT tab ty1031 t68).bind fun t69 =>
    (dBin tab .lss ty3 t67 t69).bind fun t70 =>
    dIf t70
      ((some (t12 : D)).bind fun t74 =>
    (some ((nth 1 ds) : D)).bind fun t75 =>
    (dIndexAddr tab ty1031 t74 t75).bind fun t76 =>
    (dLoad tab h_1 ty22 t76).bind fun t77 =>
    (R fn1106 [t77] h_1).bind fun p78 =>
    (some (p78.1 : D)).bind fun t73 =>
    (dExtract 0 t73).bind fun t79 =>
    (dExtract 1 t73).bind fun t80 =>
    (some (t79 : D)).bind fun t14 =>
    (some (t80 : D)).bind fun t15 =>
    (some (t12 : D)).bind fun t82 =>
    (some ((nth 1 ds) : D)).bind fun t83 =>
    (dIndexAddr tab ty1031 t82 t83).bind fun t84 =>
    (dLoad tab p78.2 ty22 t84).bind fun t85 =>
    (R fn1107 [t85] p78.2).bind fun p86 =>
    (some (p86.1 : D)).bind fun t81 =>
    (dExtract 0 t81).bind fun t87 =>
    (dExtract 1 t81).bind fun t88 =>
    (some (t87 : D)).bind fun t16 =>
    (some (t88 : D)).bind fun t17 =>
    (some (t15 : D)).bind fun t89 =>
    (some (t17 : D)).bind fun t90 =>
    (dBin tab .neq ty3 t89 t90).bind fun t91 =>
    (some (t91 : D)).bind fun t92 =>
    (gd t92 false (some (t14 : D))).bind fun t93 =>
    (gd t92 false (some (t16 : D))).bind fun t94 =>
    (gdW t92 false p86.2 (R fn1108 [t93, t94] p86.2)).bind fun p95 =>
    (gd t92 false (dUn .not p95.1)).bind fun t96 =>
    (dPick t92 (.bool true) t96).bind fun t97 =>
    dIf t97
      ((some (.bool false : D)).bind fun t8_2 =>
      some (.ret, [t8_2, (nth 1 ds), t14, t15, t16, t17, t70, t97], p95.2))
      ((some ((nth 1 ds) : D)).bind fun t71 =>
    (dBin tab .add ty3 t71 (.int .i64 1)).bind fun t72 =>
    (some (t72 : D)).bind fun t13_1 =>
    some (.nrm, [(nth 0 ds), t13_1, t14, t15, t16, t17, t70, t97], p95.2)))
      (some ((.ext 0), [(nth 0 ds), (nth 1 ds), (nth 2 ds), (nth 3 ds), (nth 4 ds), (nth 5 ds), t70, (nth 7 ds)], h_1))
noncomputable def F1103 (t0 : D) (t1 : D) (t2 : D) (t3 : D) (h : Hp) : Option (D × Hp) :=
  (some (.bool false : D)).bind fun t8 =>
  (R fn1023 [] h).bind fun p18 =>
  (dUn .not p18.1).bind fun t19 =>
  (some (t19 : D)).bind fun t20 =>
  (gd t20 false (some (t0 : D))).bind fun t21 =>
  (gd t20 false (dLenT tab ty22 t21)).bind fun t22 =>
  (gd t20 false (dBin tab .gtr ty3 t22 (.int .i64 2000))).bind fun t23 =>
  (dPick t20 (.bool true) t23).bind fun t24 =>
  dIf t24
    ((some (t0 : D)).bind fun t25 =>
    (dLenT tab ty22 t25).bind fun t26 =>
    (dBin tab .gtr ty3 t26 (.int .i64 2000)).bind fun t27 =>
    (some (t27 : D)).bind fun t8_1 =>
    ((some (t8_1 : D)).bind fun d => (some ([] : List D)).bind fun ds => some (d :: ds)).bind fun ds => scope h p18.2 (mkRes ds))
    ((some (t1 : D)).bind fun t29 =>
  (R fn1105 [t29] p18.2).bind fun p30 =>
  (some (p30.1 : D)).bind fun t28 =>
  (dExtract 0 t28).bind fun t31 =>
  (dExtract 1 t28).bind fun t32 =>
  (some (t31 : D)).bind fun t9 =>
  (some (t32 : D)).bind fun t10 =>
  (some (t10 : D)).bind fun t33 =>
  (dAppend tab p30.2 ty22 ty22 (.nils) t33).bind fun p34 =>
  (some (p34.1 : D)).bind fun t11 =>
  (some (t11 : D)).bind fun t35 =>
  (dLenT tab ty22 t35).bind fun t36 =>
  (dBin tab .gtr ty3 t36 (.int .i64 0)).bind fun t37 =>
  (dIf t37
    ((some (t11 : D)).bind fun t38 =>
    (some (t2 : D)).bind fun t39 =>
    (some (t11 : D)).bind fun t40 =>
    (dLenT tab ty22 t40).bind fun t41 =>
    (R fn1091 [t39, t41] p34.2).bind fun p42 =>
    (dIndexAddr tab ty22 t38 p42.1).bind fun t43 =>
    (dLoad tab p42.2 ty5 t43).bind fun t44 =>
    (some (t3 : D)).bind fun t45 =>
    (dBin tab .xor ty5 t44 t45).bind fun t46 =>
    (dIndexAddr tab ty22 t38 p42.1).bind fun t47 =>
    ((dStore tab p42.2 ty5 t47 t46).bind fun h' => some ((.und : D), h')).bind fun p910 =>
    some (.nrm, ([] : List D), p910.2))
    (some (.nrm, ([] : List D), p34.2))).bind fun r =>
  toEnd r.1 ((some (t0 : D)).bind fun t48 =>
  (some (t10 : D)).bind fun t49 =>
  (some (t11 : D)).bind fun t50 =>
  (some (t10 : D)).bind fun t51 =>
  (some (t2 : D)).bind fun t52 =>
  (some (t10 : D)).bind fun t53 =>
  (dLenT tab ty22 t53).bind fun t54 =>
  (dBin tab .add ty3 t54 (.int .i64 1)).bind fun t55 =>
  (R fn1091 [t52, t55] r.2.2).bind fun p56 =>
  (dSliceAt tab ty22 false true false [t51, p56.1]).bind fun t57 =>
  (some (t10 : D)).bind fun t58 =>
  (some (t10 : D)).bind fun t59 =>
  (dLenT tab ty22 t59).bind fun t60 =>
  (some (t10 : D)).bind fun t61 =>
  (dLenT tab ty22 t61).bind fun t62 =>
  (dSliceAt tab ty22 false true true [t58, t60, t62]).bind fun t63 =>
  (some (t0 : D)).bind fun t64 =>
  (dAppend tab p56.2 ty22 ty22 t63 t64).bind fun p65 =>
  (wLit tab (p65.2.map fun _ => .dead) ty1031 5 [0, 1, 2, 3, 4] [frz 0 p65.2 3 t48, frz 0 p65.2 3 t49, frz 0 p65.2 3 t50, frz 0 p65.2 3 t57, frz 0 p65.2 3 p65.1]).bind fun p66 =>
  (some (p66.1 : D)).bind fun t12 =>
  (some (.int .i64 0 : D)).bind fun t13 =>
  ((loopW (F1103_L0 t12) [t8, t13, .any, .any, .any, .any, .any, .any] p66.2).bind fun r_1 =>
    some ((unblk 0 r_1.1), [(nth 0 r_1.2.1), (nth 1 r_1.2.1), (nth 2 r_1.2.1), (nth 3 r_1.2.1), (nth 4 r_1.2.1), (nth 5 r_1.2.1), (nth 6 r_1.2.1), (nth 7 r_1.2.1)], r_1.2.2)).bind fun r_2 =>
  toEnd r_2.1 ((some (.bool true : D)).bind fun t8_3 =>
  ((some (t8_3 : D)).bind fun d => (some ([] : List D)).bind fun ds => some (d :: ds)).bind fun ds => scope h r_2.2.2 (mkRes ds)) fun x_1 => exEnd x_1 (((some ((nth 0 r_2.2.1) : D)).bind fun d => (some ([] : List D)).bind fun ds => some (d :: ds)).bind fun ds => scope h r_2.2.2 (mkRes ds))) fun x => exEnd x (((some (t8 : D)).bind fun d => (some ([] : List D)).bind fun ds => some (d :: ds)).bind fun ds => scope h r.2.2 (mkRes ds)))
theorem e1103 (t0 : D) (t1 : D) (t2 : D) (t3 : D) (h : Hp) : R fn1103 [t0, t1, t2, t3] h = F1103 t0 t1 t2 t3 h :=
  (run_fn (X := X) (F := Fs) (fi := i3) (by kernel_rfl) _ _).trans (by kernel_rfl)
noncomputable def F1104 (t0 : D) (t1 : D) (t2 : D) (t3 : D) (h : Hp) : Option (D × Hp) :=
  (some (.bool false : D)).bind fun t8 =>
  (R fn1023 [] h).bind fun p23 =>
  (dUn .not p23.1).bind fun t24 =>
  (some (t24 : D)).bind fun t25 =>
  (gd t25 false (some (t3 : D))).bind fun t26 =>
  (gd t25 false (dLenT tab ty22 t26)).bind fun t27 =>
  (gd t25 false (dBin tab .lss ty3 t27 (.int .i64 1))).bind fun t28 =>
  (dPick t25 (.bool true) t28).bind fun t29 =>
  (some (t29 : D)).bind fun t30 =>
  (gd t30 false (some (t3 : D))).bind fun t31 =>
  (gd t30 false (dLenT tab ty22 t31)).bind fun t32 =>
  (gd t30 false (dBin tab .gtr ty3 t32 (.int .i64 500))).bind fun t33 =>
  (dPick t30 (.bool true) t33).bind fun t34 =>
  dIf t34
    ((some (t3 : D)).bind fun t35 =>
    (dLenT tab ty22 t35).bind fun t36 =>
    (dBin tab .lss ty3 t36 (.int .i64 1)).bind fun t37 =>
    (some (t37 : D)).bind fun t38 =>
    (gd t38 false (some (t3 : D))).bind fun t39 =>
    (gd t38 false (dLenT tab ty22 t39)).bind fun t40 =>
    (gd t38 false (dBin tab .gtr ty3 t40 (.int .i64 500))).bind fun t41 =>
    (dPick t38 (.bool true) t41).bind fun t42 =>
    (some (t42 : D)).bind fun t8_1 =>
    ((some (t8_1 : D)).bind fun d => (some ([] : List D)).bind fun ds => some (d :: ds)).bind fun ds => scope h p23.2 (mkRes ds))
    ((some (t0 : D)).bind fun t44 =>
  (R fn1105 [t44] p23.2).bind fun p45 =>
  (some (p45.1 : D)).bind fun t43 =>
  (dExtract 0 t43).bind fun t46 =>
  (dExtract 1 t43).bind fun t47 =>
  (some (t46 : D)).bind fun t9 =>
  (some (t47 : D)).bind fun t10 =>
  (some (t10 : D)).bind fun t49 =>
  (R fn1106 [t49] p45.2).bind fun p50 =>
  (some (p50.1 : D)).bind fun t48 =>
  (dExtract 0 t48).bind fun t51 =>
  (dExtract 1 t48).bind fun t52 =>
  (some (t51 : D)).bind fun t11 =>
  (some (t52 : D)).bind fun t12 =>
  (some (t1 : D)).bind fun t53 =>
  (some (t10 : D)).bind fun t54 =>
  (dLenT tab ty22 t54).bind fun t55 =>
  (dBin tab .add ty3 t55 (.int .i64 1)).bind fun t56 =>
  (R fn1091 [t53, t56] p50.2).bind fun p57 =>
  (some (p57.1 : D)).bind fun t13 =>
  (some (t10 : D)).bind fun t59 =>
  (some (t13 : D)).bind fun t60 =>
  (dSliceAt tab ty22 false true false [t59, t60]).bind fun t61 =>
  (R fn1106 [t61] p57.2).bind fun p62 =>
  (some (p62.1 : D)).bind fun t58 =>
  (dExtract 0 t58).bind fun t63 =>
  (dExtract 1 t58).bind fun t64 =>
  (some (t63 : D)).bind fun t14 =>
  (some (t64 : D)).bind fun t15 =>
  (some (t12 : D)).bind fun t65 =>
  (some (t10 : D)).bind fun t66 =>
  (dLenT tab ty22 t66).bind fun t67 =>
  (dBin tab .neq ty3 t65 t67).bind fun t68 =>
  (some (t68 : D)).bind fun t69 =>
  (gd t69 false (some (t15 : D))).bind fun t70 =>
  (gd t69 false (some (t13 : D))).bind fun t71 =>
  (gd t69 false (dBin tab .gtr ty3 t70 t71)).bind fun t72 =>
  (dPick t69 (.bool true) t72).bind fun t73 =>
  (some (t73 : D)).bind fun t74 =>
  (gd t74 false (some (t14 : D))).bind fun t75 =>
  (gd t74 false (dLenT tab ty1031 t75)).bind fun t76 =>
  (gd t74 false (some (t11 : D))).bind fun t77 =>
  (gd t74 false (dLenT tab ty1031 t77)).bind fun t78 =>
  (gd t74 false (dBin tab .gtr ty3 t76 t78)).bind fun t79 =>
  (dPick t74 (.bool true) t79).bind fun t80 =>
  (some (t80 : D)).bind fun t81 =>
  (gd t81 false (some (t14 : D))).bind fun t82 =>
  (gd t81 false (some (t11 : D))).bind fun t83 =>
  (gd t81 false (some (t14 : D))).bind fun t84 =>
  (gd t81 false (dLenT tab ty1031 t84)).bind fun t85 =>
  (gd t81 false (dSliceAt tab ty1031 false true false [t83, t85])).bind fun t86 =>
  (gdW t81 false p62.2 (R fn1108 [t82, t86] p62.2)).bind fun p87 =>
  (gd t81 false (dUn .not p87.1)).bind fun t88 =>
  (dPick t81 (.bool true) t88).bind fun t89 =>
  dIf t89
    ((some (.bool false : D)).bind fun t8_2 =>
    ((some (t8_2 : D)).bind fun d => (some ([] : List D)).bind fun ds => some (d :: ds)).bind fun ds => scope h p87.2 (mkRes ds))
    ((some (t13 : D)).bind fun t90 =>
  (some (t10 : D)).bind fun t91 =>
  (dLenT tab ty22 t91).bind fun t92 =>
  (dBin tab .lss ty3 t90 t92).bind fun t93 =>
  (some (t93 : D)).bind fun t94 =>
  (gd t94 true (some (t13 : D))).bind fun t95 =>
  (gd t94 true (some (t15 : D))).bind fun t96 =>
  (gd t94 true (dBin tab .sub ty3 t95 t96)).bind fun t97 =>
  (gd t94 true (dBin tab .geq ty3 t97 (.int .i64 4))).bind fun t98 =>
  (dPick t94 t98 (.bool false)).bind fun t99 =>
  (dIf t99
    ((some (t10 : D)).bind fun t100 =>
    (dAppend tab p87.2 ty22 ty22 (.nils) t100).bind fun p101 =>
    (some (p101.1 : D)).bind fun t16 =>
    (some (t16 : D)).bind fun t102 =>
    (some (t13 : D)).bind fun t103 =>
    (dIndexAddr tab ty22 t102 t103).bind fun t104 =>
    (dLoad tab p101.2 ty5 t104).bind fun t105 =>
    (some (t2 : D)).bind fun t106 =>
    (dMax t106 (.int .u8 1)).bind fun t107 =>
    (dBin tab .xor ty5 t105 t107).bind fun t108 =>
    (dIndexAddr tab ty22 t102 t103).bind fun t109 =>
    ((dStore tab p101.2 ty5 t109 t108).bind fun h' => some ((.und : D), h')).bind fun p908 =>
    (some (t16 : D)).bind fun t111 =>
    (callZ R fn1106 [t111] p908.2).bind fun p112 =>
    (some (p112.1 : D)).bind fun t110 =>
    (dExtract 0 t110).bind fun t113 =>
    (dExtract 1 t110).bind fun t114 =>
    (some (t113 : D)).bind fun t17 =>
    (some (t114 : D)).bind fun t18 =>
    (some (t18 : D)).bind fun t115 =>
    (some (t13 : D)).bind fun t116 =>
    (dBin tab .gtr ty3 t115 t116).bind fun t117 =>
    (some (t117 : D)).bind fun t118 =>
    (gd t118 false (some (t18 : D))).bind fun t119 =>
    (gd t118 false (some (t15 : D))).bind fun t120 =>
    (gd t118 false (dBin tab .neq ty3 t119 t120)).bind fun t121 =>
    (dPick t118 (.bool true) t121).bind fun t122 =>
    (some (t122 : D)).bind fun t123 =>
    (gd t123 false (some (t17 : D))).bind fun t124 =>
    (gd t123 false (some (t11 : D))).bind fun t125 =>
    (gd t123 false (some (t17 : D))).bind fun t126 =>
    (gd t123 false (dLenT tab ty1031 t126)).bind fun t127 =>
    (gd t123 false (some (t11 : D))).bind fun t128 =>
    (gd t123 false (dLenT tab ty1031 t128)).bind fun t129 =>
    (gd t123 false (dMin t127 t129)).bind fun t130 =>
    (gd t123 false (dSliceAt tab ty1031 false true false [t125, t130])).bind fun t131 =>
    (gdW t123 false p112.2 (R fn1108 [t124, t131] p112.2)).bind fun p132 =>
    (gd t123 false (dUn .not p132.1)).bind fun t133 =>
    (dPick t123 (.bool true) t133).bind fun t134 =>
    dIf t134
      ((some (.bool false : D)).bind fun t8_3 =>
      some (.ret, [t8_3, t16, t17, t18, t134], p132.2))
      (some (.nrm, [t8, t16, t17, t18, t134], p132.2)))
    (some (.nrm, [t8, .any, .any, .any, .any], p87.2))).bind fun r =>
  toEnd r.1 ((some (t10 : D)).bind fun t136 =>
  (some (t15 : D)).bind fun t137 =>
  (dSliceAt tab ty22 false true false [t136, t137]).bind fun t138 =>
  (some (t3 : D)).bind fun t139 =>
  (R fn1024 [t138, t139] r.2.2).bind fun p140 =>
  (some (p140.1 : D)).bind fun t135 =>
  (dExtract 0 t135).bind fun t141 =>
  (dExtract 1 t135).bind fun t142 =>
  (some (t141 : D)).bind fun t19 =>
  (some (t142 : D)).bind fun t20 =>
  (some (t19 : D)).bind fun t144 =>
  (R fn1106 [t144] p140.2).bind fun p145 =>
  (some (p145.1 : D)).bind fun t143 =>
  (dExtract 0 t143).bind fun t146 =>
  (dExtract 1 t143).bind fun t147 =>
  (some (t146 : D)).bind fun t21 =>
  (some (t147 : D)).bind fun t22 =>
  (some (t20 : D)).bind fun t148 =>
  (dBin tab .eql ty49 t148 (.int .i64 0)).bind fun t149 =>
  (some (t149 : D)).bind fun t150 =>
  (gd t150 true (some (t22 : D))).bind fun t151 =>
  (gd t150 true (some (t19 : D))).bind fun t152 =>
  (gd t150 true (dLenT tab ty22 t152)).bind fun t153 =>
  (gd t150 true (dBin tab .eql ty3 t151 t153)).bind fun t154 =>
  (dPick t150 t154 (.bool false)).bind fun t155 =>
  (some (t155 : D)).bind fun t156 =>
  (gd t156 true (some (t21 : D))).bind fun t157 =>
  (gd t156 true (dLenT tab ty1031 t157)).bind fun t158 =>
  (gd t156 true (some (t14 : D))).bind fun t159 =>
  (gd t156 true (dLenT tab ty1031 t159)).bind fun t160 =>
  (gd t156 true (dBin tab .add ty3 t160 (.int .i64 1))).bind fun t161 =>
  (gd t156 true (dBin tab .eql ty3 t158 t161)).bind fun t162 =>
  (dPick t156 t162 (.bool false)).bind fun t163 =>
  (some (t163 : D)).bind fun t164 =>
  (gd t164 true (some (t21 : D))).bind fun t165 =>
  (gd t164 true (some (t14 : D))).bind fun t166 =>
  (gd t164 true (dLenT tab ty1031 t166)).bind fun t167 =>
  (gd t164 true (dIndexAddr tab ty1031 t165 t167)).bind fun t168 =>
  (gd t164 true (dLoad tab p145.2 ty22 t168)).bind fun t169 =>
  (gd t164 true (some (t3 : D))).bind fun t170 =>
  (gdW t164 true p145.2 (R fn1026 [t169, t170] p145.2)).bind fun p171 =>
  (dPick t164 p171.1 (.bool false)).bind fun t172 =>
  (some (t172 : D)).bind fun t8_4 =>
  ((some (t8_4 : D)).bind fun d => (some ([] : List D)).bind fun ds => some (d :: ds)).bind fun ds => scope h p171.2 (mkRes ds)) fun x => exEnd x (((some ((nth 0 r.2.1) : D)).bind fun d => (some ([] : List D)).bind fun ds => some (d :: ds)).bind fun ds => scope h r.2.2 (mkRes ds))))
theorem e1104 (t0 : D) (t1 : D) (t2 : D) (t3 : D) (h : Hp) : R fn1104 [t0, t1, t2, t3] h = F1104 t0 t1 t2 t3 h :=
  (run_fn (X := X) (F := Fs) (fi := i4) (by kernel_rfl) _ _).trans (by kernel_rfl)
noncomputable def F1023 (h : Hp) : Option (D × Hp) :=
  (some (.bool false : D)).bind fun t0 =>
  (pLitF tab ty22 1 [0] [.int .u8 1]).bind fun t4 =>
  (R fn1024 [.nils, t4] h).bind fun p5 =>
  (some (p5.1 : D)).bind fun t3 =>
  (dExtract 0 t3).bind fun t6 =>
  (dExtract 1 t3).bind fun t7 =>
  (some (t6 : D)).bind fun t1 =>
  (some (t7 : D)).bind fun t2 =>
  (some (t2 : D)).bind fun t8 =>
  (dBin tab .eql ty49 t8 (.int .i64 0)).bind fun t9 =>
  (some (t9 : D)).bind fun t10 =>
  (gd t10 true (some (t1 : D))).bind fun t11 =>
  (gd t10 true (dLenT tab ty22 t11)).bind fun t12 =>
  (gd t10 true (dBin tab .eql ty3 t12 (.int .i64 9))).bind fun t13 =>
  (dPick t10 t13 (.bool false)).bind fun t14 =>
  (some (t14 : D)).bind fun t0_1 =>
  ((some (t0_1 : D)).bind fun d => (some ([] : List D)).bind fun ds => some (d :: ds)).bind fun ds => some (mkRes ds, p5.2)
theorem e1023 (h : Hp) : R fn1023 [] h = F1023 h :=
  (run_fn (X := X) (F := Fs) (fi := i5) (by kernel_rfl) _ _).trans (by kernel_rfl)
/-- a loop: slots 6 7 15 -/
noncomputable def F1105_L0 (t5 : D) (ds : List D) (h_1 : Hp) : Option Out :=
    (some ((nth 1 ds) : D)).bind fun t12 =>
    (some (t5 : D)).bind fun t13 =>
    (dLenT tab ty1059 t13).bind fun t14 =>
    (dBin tab .lss ty3 t12 t14).bind fun t15 =>
    dIf t15
      ((some ((nth 0 ds) : D)).bind fun t19 =>
    (some (t5 : D)).bind fun t20 =>
    (some ((nth 1 ds) : D)).bind fun t21 =>
    (dIndexAddr tab ty1059 t20 t21).bind fun t22 =>
    (dLoad tab h_1 ty1064 t22).bind fun t23 =>
    (R fn1109 [t19, t23] h_1).bind fun p24 =>
    (some (p24.1 : D)).bind fun t18 =>
    (dExtract 0 t18).bind fun t25 =>
    (dExtract 1 t18).bind fun t26 =>
    (some (t25 : D)).bind fun t6_1 =>
    (some ((nth 1 ds) : D)).bind fun t16 =>
    (dBin tab .add ty3 t16 (.int .i64 1)).bind fun t17 =>
    (some (t17 : D)).bind fun t7_1 =>
    some (.nrm, [t6_1, t7_1, t15], p24.2))
      (some ((.ext 0), [(nth 0 ds), (nth 1 ds), t15], h_1))
noncomputable def F1105 (t0 : D) (h : Hp) : Option (D × Hp) :=
  (some (.nils : D)).bind fun t2 =>
  (some (.nils : D)).bind fun t3 =>
  (some (t0 : D)).bind fun t8 =>
  (R fn44 [t8, .int .i64 400] h).bind fun p9 =>
  (some (p9.1 : D)).bind fun t4 =>
  (some (t4 : D)).bind fun t10 =>
  (R fn1088 [t10, .int .i64 1, .int .i64 5] p9.2).bind fun p11 =>
  (some (p11.1 : D)).bind fun t5 =>
  (some (.nils : D)).bind fun t6 =>
  (some (.int .i64 0 : D)).bind fun t7 =>
  ((loopW (F1105_L0 t5) [t6, t7, .any] p11.2).bind fun r =>
    some ((unblk 0 r.1), [(nth 0 r.2.1), (nth 1 r.2.1), (nth 2 r.2.1)], r.2.2)).bind fun r_1 =>
  toEnd r_1.1 ((some (t5 : D)).bind fun t27 =>
  (some ((nth 0 r_1.2.1) : D)).bind fun t28 =>
  (some (t27 : D)).bind fun t2_1 =>
  (some (t28 : D)).bind fun t3_1 =>
  ((some (t2_1 : D)).bind fun d => ((some (t3_1 : D)).bind fun d => (some ([] : List D)).bind fun ds => some (d :: ds)).bind fun ds => some (d :: ds)).bind fun ds => some (mkRes ds, r_1.2.2)) fun x => exEnd x (((some (t2 : D)).bind fun d => ((some (t3 : D)).bind fun d => (some ([] : List D)).bind fun ds => some (d :: ds)).bind fun ds => some (d :: ds)).bind fun ds => some (mkRes ds, r_1.2.2))
theorem e1105 (t0 : D) (h : Hp) : R fn1105 [t0] h = F1105 t0 h :=
  (run_fn (X := X) (F := Fs) (fi := i6) (by kernel_rfl) _ _).trans (by kernel_rfl)
noncomputable def F1091 (t0 : D) (t1 : D) (h : Hp) : Option (D × Hp) :=
  (some (.int .i64 0 : D)).bind fun t4 =>
  (some (t1 : D)).bind fun t5 =>
  (dBin tab .lss ty3 t5 (.int .i64 1)).bind fun t6 =>
  dIf t6
    ((some (.int .i64 0 : D)).bind fun t4_1 =>
    ((some (t4_1 : D)).bind fun d => (some ([] : List D)).bind fun ds => some (d :: ds)).bind fun ds => some (mkRes ds, h))
    ((some (t0 : D)).bind fun t7 =>
  (some (t1 : D)).bind fun t8 =>
  (dBin tab .rem ty3 t7 t8).bind fun t9 =>
  (some (t1 : D)).bind fun t10 =>
  (dBin tab .add ty3 t9 t10).bind fun t11 =>
  (some (t1 : D)).bind fun t12 =>
  (dBin tab .rem ty3 t11 t12).bind fun t13 =>
  (some (t13 : D)).bind fun t4_2 =>
  ((some (t4_2 : D)).bind fun d => (some ([] : List D)).bind fun ds => some (d :: ds)).bind fun ds => some (mkRes ds, h))
theorem e1091 (t0 : D) (t1 : D) (h : Hp) : R fn1091 [t0, t1] h = F1091 t0 t1 h :=
  (run_fn (X := X) (F := Fs) (fi := i7) (by kernel_rfl) _ _).trans (by kernel_rfl)
/-- a loop: slots 4 5 6 7 8 9 14 40 60 -/
noncomputable def F1106_L0 (t0 : D) (ds : List D) (h_1 : Hp) : Option Out :=
    (some (t0 : D)).bind fun t10 =>
    (dLenT tab ty22 t10).bind fun t11 =>
    (some ((nth 1 ds) : D)).bind fun t12 =>
    (dBin tab .sub ty3 t11 t12).bind fun t13 =>
    (dBin tab .geq ty3 t13 (.int .i64 8)).bind fun t14 =>
    dIf t14
      ((some (t0 : D)).bind fun t15 =>
    (some ((nth 1 ds) : D)).bind fun t16 =>
    (some ((nth 1 ds) : D)).bind fun t17 =>
    (dBin tab .add ty3 t17 (.int .i64 4)).bind fun t18 =>
    (some ((nth 1 ds) : D)).bind fun t19 =>
    (dBin tab .add ty3 t19 (.int .i64 4)).bind fun t20 =>
    (dCut tab h_1 ty22 true true [t15, t16, t18, t20]).bind fun p21 =>
    (some (p21.1 : D)).bind fun t6 =>
    (some (t6 : D)).bind fun t22 =>
    (R fn1110 [t22] p21.2).bind fun p23 =>
    (dConv tab ty65 ty3 p23.1).bind fun t24 =>
    (some (t24 : D)).bind fun t7 =>
    (some ((nth 1 ds) : D)).bind fun t25 =>
    (dBin tab .add ty3 t25 (.int .i64 8)).bind fun t26 =>
    (some (t26 : D)).bind fun t8 =>
    (some (t7 : D)).bind fun t27 =>
    (dBin tab .lss ty3 t27 (.int .i64 1)).bind fun t28 =>
    (some (t28 : D)).bind fun t29 =>
    (gd t29 false (some (t7 : D))).bind fun t30 =>
    (gd t29 false (dBin tab .gtr ty3 t30 (.int .i64 8388608))).bind fun t31 =>
    (dPick t29 (.bool true) t31).bind fun t32 =>
    (some (t32 : D)).bind fun t33 =>
    (gd t33 false (some (t7 : D))).bind fun t34 =>
    (gd t33 false (some (t0 : D))).bind fun t35 =>
    (gd t33 false (dLenT tab ty22 t35)).bind fun t36 =>
    (gd t33 false (some (t8 : D))).bind fun t37 =>
    (gd t33 false (dBin tab .sub ty3 t36 t37)).bind fun t38 =>
    (gd t33 false (dBin tab .gtr ty3 t34 t38)).bind fun t39 =>
    (dPick t33 (.bool true) t39).bind fun t40 =>
    dIf t40
      (some ((.ext 0), [(nth 0 ds), (nth 1 ds), t6, t7, t8, (nth 5 ds), t14, t40, (nth 8 ds)], p23.2))
      ((some (t0 : D)).bind fun t41 =>
    (some (t8 : D)).bind fun t42 =>
    (some (t8 : D)).bind fun t43 =>
    (some (t7 : D)).bind fun t44 =>
    (dBin tab .add ty3 t43 t44).bind fun t45 =>
    (some (t8 : D)).bind fun t46 =>
    (some (t7 : D)).bind fun t47 =>
    (dBin tab .add ty3 t46 t47).bind fun t48 =>
    (dCut tab p23.2 ty22 true true [t41, t42, t45, t48]).bind fun p49 =>
    (some (p49.1 : D)).bind fun t9 =>
    (some (t0 : D)).bind fun t50 =>
    (some ((nth 1 ds) : D)).bind fun t51 =>
    (dBin tab .add ty3 t51 (.int .i64 4)).bind fun t52 =>
    (some (t8 : D)).bind fun t53 =>
    (some (t8 : D)).bind fun t54 =>
    (dCut tab p49.2 ty22 true true [t50, t52, t53, t54]).bind fun p55 =>
    (R fn1110 [p55.1] p55.2).bind fun p56 =>
    (some (t6 : D)).bind fun t57 =>
    (some (t9 : D)).bind fun t58 =>
    (R fn1029 [t57, t58] p56.2).bind fun p59 =>
    (dBin tab .neq ty65 p56.1 p59.1).bind fun t60 =>
    dIf t60
      (some ((.ext 0), [(nth 0 ds), (nth 1 ds), t6, t7, t8, t9, t14, t40, t60], p59.2))
      ((some ((nth 0 ds) : D)).bind fun t61 =>
    (some (t9 : D)).bind fun t62 =>
    (pLitF tab ty1031 1 [0] [t62]).bind fun t63 =>
    (dAppend tab p59.2 ty1031 ty1031 t61 t63).bind fun p64 =>
    (some (p64.1 : D)).bind fun t4_1 =>
    (some (t8 : D)).bind fun t65 =>
    (some (t7 : D)).bind fun t66 =>
    (dBin tab .add ty3 t65 t66).bind fun t67 =>
    (some (t67 : D)).bind fun t5_1 =>
    some (.nrm, [t4_1, t5_1, t6, t7, t8, t9, t14, t40, t60], p64.2))))
      (some ((.ext 0), [(nth 0 ds), (nth 1 ds), (nth 2 ds), (nth 3 ds), (nth 4 ds), (nth 5 ds), t14, (nth 7 ds), (nth 8 ds)], h_1))
noncomputable def F1106 (t0 : D) (h : Hp) : Option (D × Hp) :=
  (some (.nils : D)).bind fun t2 =>
  (some (.int .i64 0 : D)).bind fun t3 =>
  (some (.nils : D)).bind fun t4 =>
  (some (.int .i64 0 : D)).bind fun t5 =>
  ((loopW (F1106_L0 t0) [t4, t5, .any, .any, .any, .any, .any, .any, .any] h).bind fun r =>
    some ((unblk 0 r.1), [(nth 0 r.2.1), (nth 1 r.2.1), (nth 2 r.2.1), (nth 3 r.2.1), (nth 4 r.2.1), (nth 5 r.2.1), (nth 6 r.2.1), (nth 7 r.2.1), (nth 8 r.2.1)], r.2.2)).bind fun r_1 =>
  toEnd r_1.1 ((some ((nth 0 r_1.2.1) : D)).bind fun t68 =>
  (some ((nth 1 r_1.2.1) : D)).bind fun t69 =>
  (some (t68 : D)).bind fun t2_1 =>
  (some (t69 : D)).bind fun t3_1 =>
  ((some (t2_1 : D)).bind fun d => ((some (t3_1 : D)).bind fun d => (some ([] : List D)).bind fun ds => some (d :: ds)).bind fun ds => some (d :: ds)).bind fun ds => scope h r_1.2.2 (mkRes ds)) fun x => exEnd x (((some (t2 : D)).bind fun d => ((some (t3 : D)).bind fun d => (some ([] : List D)).bind fun ds => some (d :: ds)).bind fun ds => some (d :: ds)).bind fun ds => scope h r_1.2.2 (mkRes ds))
theorem e1106 (t0 : D) (h : Hp) : R fn1106 [t0] h = F1106 t0 h :=
  (run_fn (X := X) (F := Fs) (fi := i8) (by kernel_rfl) _ _).trans (by kernel_rfl)
/-- a loop: slots 4 5 6 7 12 34 61 -/
noncomputable def F1107_L0 (t0 : D) (ds : List D) (h_1 : Hp) : Option Out :=
    (some (t0 : D)).bind fun t8 =>
    (dLenT tab ty22 t8).bind fun t9 =>
    (some ((nth 1 ds) : D)).bind fun t10 =>
    (dBin tab .sub ty3 t9 t10).bind fun t11 =>
    (dBin tab .geq ty3 t11 (.int .i64 8)).bind fun t12 =>
    dIf t12
      ((some (t0 : D)).bind fun t13 =>
    (some ((nth 1 ds) : D)).bind fun t14 =>
    (some ((nth 1 ds) : D)).bind fun t15 =>
    (dBin tab .add ty3 t15 (.int .i64 4)).bind fun t16 =>
    (dSliceAt tab ty22 true true false [t13, t14, t16]).bind fun t17 =>
    (R fn1111 [t17] h_1).bind fun p18 =>
    (dConv tab ty1029 ty3 p18.1).bind fun t19 =>
    (some (t19 : D)).bind fun t6 =>
    (some (t6 : D)).bind fun t20 =>
    (dBin tab .eql ty3 t20 (.int .i64 0)).bind fun t21 =>
    (some (t21 : D)).bind fun t22 =>
    (gd t22 false (some (t6 : D))).bind fun t23 =>
    (gd t22 false (dBin tab .gtr ty3 t23 (.int .i64 8388608))).bind fun t24 =>
    (dPick t22 (.bool true) t24).bind fun t25 =>
    (some (t25 : D)).bind fun t26 =>
    (gd t26 false (some (t6 : D))).bind fun t27 =>
    (gd t26 false (some (t0 : D))).bind fun t28 =>
    (gd t26 false (dLenT tab ty22 t28)).bind fun t29 =>
    (gd t26 false (some ((nth 1 ds) : D))).bind fun t30 =>
    (gd t26 false (dBin tab .sub ty3 t29 t30)).bind fun t31 =>
    (gd t26 false (dBin tab .sub ty3 t31 (.int .i64 8))).bind fun t32 =>
    (gd t26 false (dBin tab .gtr ty3 t27 t32)).bind fun t33 =>
    (dPick t26 (.bool true) t33).bind fun t34 =>
    dIf t34
      (some ((.ext 0), [(nth 0 ds), (nth 1 ds), t6, (nth 3 ds), t12, t34, (nth 6 ds)], p18.2))
      ((some (t0 : D)).bind fun t35 =>
    (some ((nth 1 ds) : D)).bind fun t36 =>
    (dBin tab .add ty3 t36 (.int .i64 8)).bind fun t37 =>
    (some ((nth 1 ds) : D)).bind fun t38 =>
    (dBin tab .add ty3 t38 (.int .i64 8)).bind fun t39 =>
    (some (t6 : D)).bind fun t40 =>
    (dBin tab .add ty3 t39 t40).bind fun t41 =>
    (dSliceAt tab ty22 true true false [t35, t37, t41]).bind fun t42 =>
    (dAppend tab p18.2 ty22 ty22 (.nils) t42).bind fun p43 =>
    (some (p43.1 : D)).bind fun t7 =>
    (some (t0 : D)).bind fun t44 =>
    (some ((nth 1 ds) : D)).bind fun t45 =>
    (dBin tab .add ty3 t45 (.int .i64 4)).bind fun t46 =>
    (some ((nth 1 ds) : D)).bind fun t47 =>
    (dBin tab .add ty3 t47 (.int .i64 8)).bind fun t48 =>
    (dSliceAt tab ty22 true true false [t44, t46, t48]).bind fun t49 =>
    (R fn1111 [t49] p43.2).bind fun p50 =>
    (some (t0 : D)).bind fun t51 =>
    (some ((nth 1 ds) : D)).bind fun t52 =>
    (some ((nth 1 ds) : D)).bind fun t53 =>
    (dBin tab .add ty3 t53 (.int .i64 4)).bind fun t54 =>
    (dSliceAt tab ty22 true true false [t51, t52, t54]).bind fun t55 =>
    (dAppend tab p50.2 ty22 ty22 (.nils) t55).bind fun p56 =>
    (some (t7 : D)).bind fun t57 =>
    (dAppend tab p56.2 ty22 ty22 p56.1 t57).bind fun p58 =>
    (R fn1031 [p58.1] p58.2).bind fun p59 =>
    (dConv tab ty65 ty1029 p59.1).bind fun t60 =>
    (dBin tab .neq ty1029 p50.1 t60).bind fun t61 =>
    dIf t61
      (some ((.ext 0), [(nth 0 ds), (nth 1 ds), t6, t7, t12, t34, t61], p59.2))
      ((some ((nth 0 ds) : D)).bind fun t62 =>
    (some (t7 : D)).bind fun t63 =>
    (pLitF tab ty1031 1 [0] [t63]).bind fun t64 =>
    (dAppend tab p59.2 ty1031 ty1031 t62 t64).bind fun p65 =>
    (some (p65.1 : D)).bind fun t4_1 =>
    (some ((nth 1 ds) : D)).bind fun t66 =>
    (some (t6 : D)).bind fun t67 =>
    (dBin tab .add ty3 (.int .i64 8) t67).bind fun t68 =>
    (dBin tab .add ty3 t66 t68).bind fun t69 =>
    (some (t69 : D)).bind fun t5_1 =>
    some (.nrm, [t4_1, t5_1, t6, t7, t12, t34, t61], p65.2))))
      (some ((.ext 0), [(nth 0 ds), (nth 1 ds), (nth 2 ds), (nth 3 ds), t12, (nth 5 ds), (nth 6 ds)], h_1))
noncomputable def F1107 (t0 : D) (h : Hp) : Option (D × Hp) :=
  (some (.nils : D)).bind fun t2 =>
  (some (.int .i64 0 : D)).bind fun t3 =>
  (some (.nils : D)).bind fun t4 =>
  (some (.int .i64 0 : D)).bind fun t5 =>
  ((loopW (F1107_L0 t0) [t4, t5, .any, .any, .any, .any, .any] h).bind fun r =>
    some ((unblk 0 r.1), [(nth 0 r.2.1), (nth 1 r.2.1), (nth 2 r.2.1), (nth 3 r.2.1), (nth 4 r.2.1), (nth 5 r.2.1), (nth 6 r.2.1)], r.2.2)).bind fun r_1 =>
  toEnd r_1.1 ((some ((nth 0 r_1.2.1) : D)).bind fun t70 =>
  (some ((nth 1 r_1.2.1) : D)).bind fun t71 =>
  (some (t70 : D)).bind fun t2_1 =>
  (some (t71 : D)).bind fun t3_1 =>
  ((some (t2_1 : D)).bind fun d => ((some (t3_1 : D)).bind fun d => (some ([] : List D)).bind fun ds => some (d :: ds)).bind fun ds => some (d :: ds)).bind fun ds => scope h r_1.2.2 (mkRes ds)) fun x => exEnd x (((some (t2 : D)).bind fun d => ((some (t3 : D)).bind fun d => (some ([] : List D)).bind fun ds => some (d :: ds)).bind fun ds => some (d :: ds)).bind fun ds => scope h r_1.2.2 (mkRes ds))
theorem e1107 (t0 : D) (h : Hp) : R fn1107 [t0] h = F1107 t0 h :=
  (run_fn (X := X) (F := Fs) (fi := i9) (by kernel_rfl) _ _).trans (by kernel_rfl)
/-- a loop: slots 4 5 14 26 -/
noncomputable def F1108_L0 (t0 : D) (t1 : D) (ds : List D) (h_1 : Hp) : Option Out :=
    (some ((nth 1 ds) : D)).bind fun t11 =>
    (some (t0 : D)).bind fun t12 =>
    (dLenT tab ty1031 t12).bind fun t13 =>
    (dBin tab .lss ty3 t11 t13).bind fun t14 =>
    dIf t14
      ((some (t0 : D)).bind fun t17 =>
    (some ((nth 1 ds) : D)).bind fun t18 =>
    (dIndexAddr tab ty1031 t17 t18).bind fun t19 =>
    (dLoad tab h_1 ty22 t19).bind fun t20 =>
    (some (t1 : D)).bind fun t21 =>
    (some ((nth 1 ds) : D)).bind fun t22 =>
    (dIndexAddr tab ty1031 t21 t22).bind fun t23 =>
    (dLoad tab h_1 ty22 t23).bind fun t24 =>
    (R fn1026 [t20, t24] h_1).bind fun p25 =>
    (dUn .not p25.1).bind fun t26 =>
    dIf t26
      ((some (.bool false : D)).bind fun t4_2 =>
      some (.ret, [t4_2, (nth 1 ds), t14, t26], p25.2))
      ((some ((nth 1 ds) : D)).bind fun t15 =>
    (dBin tab .add ty3 t15 (.int .i64 1)).bind fun t16 =>
    (some (t16 : D)).bind fun t5_1 =>
    some (.nrm, [(nth 0 ds), t5_1, t14, t26], p25.2)))
      (some ((.ext 0), [(nth 0 ds), (nth 1 ds), t14, (nth 3 ds)], h_1))
noncomputable def F1108 (t0 : D) (t1 : D) (h : Hp) : Option (D × Hp) :=
  (some (.bool false : D)).bind fun t4 =>
  (some (t0 : D)).bind fun t6 =>
  (dLenT tab ty1031 t6).bind fun t7 =>
  (some (t1 : D)).bind fun t8 =>
  (dLenT tab ty1031 t8).bind fun t9 =>
  (dBin tab .neq ty3 t7 t9).bind fun t10 =>
  dIf t10
    ((some (.bool false : D)).bind fun t4_1 =>
    ((some (t4_1 : D)).bind fun d => (some ([] : List D)).bind fun ds => some (d :: ds)).bind fun ds => some (mkRes ds, h))
    ((some (.int .i64 0 : D)).bind fun t5 =>
  ((loopW (F1108_L0 t0 t1) [t4, t5, .any, .any] h).bind fun r =>
    some ((unblk 0 r.1), [(nth 0 r.2.1), (nth 1 r.2.1), (nth 2 r.2.1), (nth 3 r.2.1)], r.2.2)).bind fun r_1 =>
  toEnd r_1.1 ((some (.bool true : D)).bind fun t4_3 =>
  ((some (t4_3 : D)).bind fun d => (some ([] : List D)).bind fun ds => some (d :: ds)).bind fun ds => some (mkRes ds, r_1.2.2)) fun x => exEnd x (((some ((nth 0 r_1.2.1) : D)).bind fun d => (some ([] : List D)).bind fun ds => some (d :: ds)).bind fun ds => some (mkRes ds, r_1.2.2)))
theorem e1108 (t0 : D) (t1 : D) (h : Hp) : R fn1108 [t0, t1] h = F1108 t0 t1 h :=
  (run_fn (X := X) (F := Fs) (fi := i10) (by kernel_rfl) _ _).trans (by kernel_rfl)
noncomputable def F1024 (t0 : D) (t1 : D) (h : Hp) : Option (D × Hp) :=
  (some (.nils : D)).bind fun t4 =>
  (some (.int .i64 0 : D)).bind fun t5 =>
  (some (t1 : D)).bind fun t8 =>
  (dLenT tab ty22 t8).bind fun t9 =>
  (dBin tab .eql ty3 t9 (.int .i64 0)).bind fun t10 =>
  (some (t10 : D)).bind fun t11 =>
  (gd t11 false (some (t1 : D))).bind fun t12 =>
  (gd t11 false (dLenT tab ty22 t12)).bind fun t13 =>
  (gd t11 false (dBin tab .gtr ty3 t13 (.int .i64 8388608))).bind fun t14 =>
  (dPick t11 (.bool true) t14).bind fun t15 =>
  (some (t15 : D)).bind fun t7 =>
  dIf t7
    ((some (.nils : D)).bind fun t4_1 =>
    (some (.int .i64 3 : D)).bind fun t5_1 =>
    ((some (t4_1 : D)).bind fun d => ((some (t5_1 : D)).bind fun d => (some ([] : List D)).bind fun ds => some (d :: ds)).bind fun ds => some (d :: ds)).bind fun ds => some (mkRes ds, h))
    ((some (t0 : D)).bind fun t17 =>
    (dLenT tab ty22 t17).bind fun t18 =>
    (dBin tab .add ty3 t18 (.int .i64 8)).bind fun t19 =>
    (some (t1 : D)).bind fun t20 =>
    (dLenT tab ty22 t20).bind fun t21 =>
    (dBin tab .add ty3 t19 t21).bind fun t22 =>
    (dBin tab .gtr ty3 t22 (.int .i64 67108864)).bind fun t23 =>
    (some (t23 : D)).bind fun t16 =>
    dIf t16
      ((some (.nils : D)).bind fun t4_2 =>
      (some (.int .i64 16 : D)).bind fun t5_2 =>
      ((some (t4_2 : D)).bind fun d => ((some (t5_2 : D)).bind fun d => (some ([] : List D)).bind fun ds => some (d :: ds)).bind fun ds => some (d :: ds)).bind fun ds => some (mkRes ds, h))
      ((some (t1 : D)).bind fun t24 =>
  (dLenT tab ty22 t24).bind fun t25 =>
  (dConv tab ty3 ty65 t25).bind fun t26 =>
  (R fn1027 [t26] h).bind fun p27 =>
  (some (p27.1 : D)).bind fun t6 =>
  (some (t0 : D)).bind fun t28 =>
  (some (t6 : D)).bind fun t29 =>
  (some (t6 : D)).bind fun t30 =>
  (some (t1 : D)).bind fun t31 =>
  (R fn1029 [t30, t31] p27.2).bind fun p32 =>
  (R fn1027 [p32.1] p32.2).bind fun p33 =>
  (some (t1 : D)).bind fun t34 =>
  (pLitF tab ty1031 4 [0, 1, 2, 3] [t28, t29, p33.1, t34]).bind fun t35 =>
  (R fn1028 [t35] p33.2).bind fun p36 =>
  (some (p36.1 : D)).bind fun t4_3 =>
  (some (.int .i64 0 : D)).bind fun t5_3 =>
  ((some (t4_3 : D)).bind fun d => ((some (t5_3 : D)).bind fun d => (some ([] : List D)).bind fun ds => some (d :: ds)).bind fun ds => some (d :: ds)).bind fun ds => some (mkRes ds, p36.2)))
theorem e1024 (t0 : D) (t1 : D) (h : Hp) : R fn1024 [t0, t1] h = F1024 t0 t1 h :=
  (run_fn (X := X) (F := Fs) (fi := i11) (by kernel_rfl) _ _).trans (by kernel_rfl)
/-- a loop: slots 4 5 14 25 -/
noncomputable def F1026_L0 (t0 : D) (t1 : D) (ds : List D) (h_1 : Hp) : Option Out :=
    (some ((nth 1 ds) : D)).bind fun t11 =>
    (some (t0 : D)).bind fun t12 =>
    (dLenT tab ty22 t12).bind fun t13 =>
    (dBin tab .lss ty3 t11 t13).bind fun t14 =>
    dIf t14
      ((some (t0 : D)).bind fun t17 =>
    (some ((nth 1 ds) : D)).bind fun t18 =>
    (dIndexAddr tab ty22 t17 t18).bind fun t19 =>
    (dLoad tab h_1 ty5 t19).bind fun t20 =>
    (some (t1 : D)).bind fun t21 =>
    (some ((nth 1 ds) : D)).bind fun t22 =>
    (dIndexAddr tab ty22 t21 t22).bind fun t23 =>
    (dLoad tab h_1 ty5 t23).bind fun t24 =>
    (dBin tab .neq ty5 t20 t24).bind fun t25 =>
    dIf t25
      ((some (.bool false : D)).bind fun t4_2 =>
      some (.ret, [t4_2, (nth 1 ds), t14, t25], h_1))
      ((some ((nth 1 ds) : D)).bind fun t15 =>
    (dBin tab .add ty3 t15 (.int .i64 1)).bind fun t16 =>
    (some (t16 : D)).bind fun t5_1 =>
    some (.nrm, [(nth 0 ds), t5_1, t14, t25], h_1)))
      (some ((.ext 0), [(nth 0 ds), (nth 1 ds), t14, (nth 3 ds)], h_1))
noncomputable def F1026 (t0 : D) (t1 : D) (h : Hp) : Option (D × Hp) :=
  (some (.bool false : D)).bind fun t4 =>
  (some (t0 : D)).bind fun t6 =>
  (dLenT tab ty22 t6).bind fun t7 =>
  (some (t1 : D)).bind fun t8 =>
  (dLenT tab ty22 t8).bind fun t9 =>
  (dBin tab .neq ty3 t7 t9).bind fun t10 =>
  dIf t10
    ((some (.bool false : D)).bind fun t4_1 =>
    ((some (t4_1 : D)).bind fun d => (some ([] : List D)).bind fun ds => some (d :: ds)).bind fun ds => some (mkRes ds, h))
    ((some (.int .i64 0 : D)).bind fun t5 =>
  ((loopW (F1026_L0 t0 t1) [t4, t5, .any, .any] h).bind fun r =>
    some ((unblk 0 r.1), [(nth 0 r.2.1), (nth 1 r.2.1), (nth 2 r.2.1), (nth 3 r.2.1)], r.2.2)).bind fun r_1 =>
  toEnd r_1.1 ((some (.bool true : D)).bind fun t4_3 =>
  ((some (t4_3 : D)).bind fun d => (some ([] : List D)).bind fun ds => some (d :: ds)).bind fun ds => some (mkRes ds, r_1.2.2)) fun x => exEnd x (((some ((nth 0 r_1.2.1) : D)).bind fun d => (some ([] : List D)).bind fun ds => some (d :: ds)).bind fun ds => some (mkRes ds, r_1.2.2)))
theorem e1026 (t0 : D) (t1 : D) (h : Hp) : R fn1026 [t0, t1] h = F1026 t0 t1 h :=
  (run_fn (X := X) (F := Fs) (fi := i12) (by kernel_rfl) _ _).trans (by kernel_rfl)
noncomputable def F44 (t0 : D) (t1 : D) (h : Hp) : Option (D × Hp) :=
  (some (.nilp : D)).bind fun t4 =>
  (some (t0 : D)).bind fun t5 =>
  (some (t0 : D)).bind fun t6 =>
  (dLenT tab ty22 t6).bind fun t7 =>
  (some (t1 : D)).bind fun t8 =>
  (dMin t7 t8).bind fun t9 =>
  (dSliceAt tab ty22 false true false [t5, t9]).bind fun t10 =>
  (dBuild tab ty101 [0] [t10]).bind fun t11 =>
  (wBox ty101 2 h t11).bind fun p12 =>
  (some (p12.1 : D)).bind fun t4_1 =>
  ((some (t4_1 : D)).bind fun d => (some ([] : List D)).bind fun ds => some (d :: ds)).bind fun ds => some (mkRes ds, p12.2)
theorem e44 (t0 : D) (t1 : D) (h : Hp) : R fn44 [t0, t1] h = F44 t0 t1 h :=
  (run_fn (X := X) (F := Fs) (fi := i13) (by kernel_rfl) _ _).trans (by kernel_rfl)
/-- a loop: slots 12 13 14 33 49 61 62 68 82 116 -/
noncomputable def F1088_L1 (t0 : D) (t7 : D) (t8 : D) (p11 : D × Hp) (ds_1 : List D) (h_2 : Hp) : Option Out :=
    (some ((nth 0 ds_1) : D)).bind fun t32 =>
    (dBin tab .gtr ty3 t32 (.int .i64 0)).bind fun t33 =>
    dIf t33
      (((some (t0 : D)).bind fun t36 =>
      (some (t7 : D)).bind fun t37 =>
      (dLenT tab ty111 t37).bind fun t38 =>
      (R fn24 [t36, t38] h_2).bind fun p39 =>
      (some (p39.1 : D)).bind fun t13 =>
      (some (t8 : D)).bind fun t40 =>
      (some (t13 : D)).bind fun t41 =>
      (dIndexAddr tab ty82 t40 t41).bind fun t42 =>
      (dLoad tab p39.2 ty3 t42).bind fun t43 =>
      (some (t7 : D)).bind fun t44 =>
      (some (t13 : D)).bind fun t45 =>
      (dIndexAddr tab ty111 t44 t45).bind fun t46 =>
      (dLoad tab p39.2 ty113 t46).bind fun t47 =>
      (dLenT tab ty113 t47).bind fun t48 =>
      (dBin tab .geq ty3 t43 t48).bind fun t49 =>
      dIf t49
        (some (.nrm, [t13, (nth 2 ds_1), t49, (nth 5 ds_1), (nth 6 ds_1), (nth 7 ds_1), (nth 8 ds_1), (nth 9 ds_1)], p39.2))
        ((some (t7 : D)).bind fun t50 =>
      (some (t13 : D)).bind fun t51 =>
      (dIndexAddr tab ty111 t50 t51).bind fun t52 =>
      (dLoad tab p39.2 ty113 t52).bind fun t53 =>
      (some (t8 : D)).bind fun t54 =>
      (some (t13 : D)).bind fun t55 =>
      (dIndexAddr tab ty82 t54 t55).bind fun t56 =>
      (dLoad tab p39.2 ty3 t56).bind fun t57 =>
      (dIndexAddr tab ty113 t53 t57).bind fun t58 =>
      (dLoad tab p39.2 ty74 t58).bind fun t59 =>
      (some ((.ptr p39.2.length 0 0 : D), dNew p39.2 ty74 11 [[.str [], .int .i64 0, .int .i64 0, .int .i64 0, .int .i64 0, .nils, .int .i64 0, .int .i64 0, .str [], .str [], .nils]])).bind fun p14 =>
      chk (dLoad tab p14.2 ty113 t52 = some t53)
      (chk (dLoad tab p14.2 ty3 t56 = some t57)
      (chk (dLoad tab p14.2 ty74 t58 = some t59)
      (((dStore tab p14.2 ty74 p14.1 t59).bind fun h' => some ((.und : D), h')).bind fun p911 =>
      (some (t0 : D)).bind fun t60 =>
      (R fn24 [t60, .int .i64 8] p911.2).bind fun p61 =>
      (dBin tab .eql ty3 p61.1 (.int .i64 6)).bind fun t63 =>
      (some (t63 : D)).bind fun t62 =>
      (dIf t62
        ((some (t8 : D)).bind fun t64 =>
        (some (t13 : D)).bind fun t65 =>
        (dIndexAddr tab ty82 t64 t65).bind fun t66 =>
        (dLoad tab p61.2 ty3 t66).bind fun t67 =>
        (dBin tab .gtr ty3 t67 (.int .i64 0)).bind fun t68 =>
        (dIf t68
          ((some (t7 : D)).bind fun t69 =>
          (some (t13 : D)).bind fun t70 =>
          (dIndexAddr tab ty111 t69 t70).bind fun t71 =>
          (dLoad tab p61.2 ty113 t71).bind fun t72 =>
          (some (t8 : D)).bind fun t73 =>
          (some (t13 : D)).bind fun t74 =>
          (dIndexAddr tab ty82 t73 t74).bind fun t75 =>
          (dLoad tab p61.2 ty3 t75).bind fun t76 =>
          (dBin tab .sub ty3 t76 (.int .i64 1)).bind fun t77 =>
          (dIndexAddr tab ty113 t72 t77).bind fun t78 =>
          (dLoad tab p61.2 ty74 t78).bind fun t79 =>
          (dLoad tab p61.2 ty74 p14.1).bind fun t80 =>
          (R fn1093 [t79, t80] p61.2).bind fun p81 =>
          ((dStore tab p81.2 ty74 p14.1 p81.1).bind fun h' => some ((.und : D), h')).bind fun p913 =>
          some (.nrm, ([] : List D), p913.2))
          (some (.nrm, ([] : List D), p61.2))).bind fun r_2 =>
        some (r_2.1, [t68, (nth 8 ds_1)], r_2.2.2))
        ((dBin tab .eql ty3 p61.1 (.int .i64 7)).bind fun t83 =>
        (some (t83 : D)).bind fun t82 =>
        dIf t82
          ((some (t7 : D)).bind fun t84 =>
          (some (t13 : D)).bind fun t85 =>
          (dIndexAddr tab ty111 t84 t85).bind fun t86 =>
          (dLoad tab p61.2 ty113 t86).bind fun t87 =>
          (some (t8 : D)).bind fun t88 =>
          (some (t13 : D)).bind fun t89 =>
          (dIndexAddr tab ty82 t88 t89).bind fun t90 =>
          (dLoad tab p61.2 ty3 t90).bind fun t91 =>
          (dBin tab .add ty3 t91 (.int .i64 1)).bind fun t92 =>
          (some (t7 : D)).bind fun t93 =>
          (some (t13 : D)).bind fun t94 =>
          (dIndexAddr tab ty111 t93 t94).bind fun t95 =>
          (dLoad tab p61.2 ty113 t95).bind fun t96 =>
          (dLenT tab ty113 t96).bind fun t97 =>
          (dBin tab .sub ty3 t97 (.int .i64 1)).bind fun t98 =>
          (dMin t92 t98).bind fun t99 =>
          (dIndexAddr tab ty113 t87 t99).bind fun t100 =>
          (dLoad tab p61.2 ty74 t100).bind fun t101 =>
          ((dStore tab p61.2 ty74 p14.1 t101).bind fun h' => some ((.und : D), h')).bind fun p918 =>
          (dFieldAddr tab ty1064 2 p11.1).bind fun t102 =>
          (dLoad tab p918.2 ty113 t102).bind fun t103 =>
          (dLoad tab p918.2 ty74 p14.1).bind fun t104 =>
          (pLitF tab ty113 1 [0] [t104]).bind fun t105 =>
          (dAppend tab p918.2 ty113 ty113 t103 t105).bind fun p106 =>
          (dFieldAddr tab ty1064 2 p11.1).bind fun t107 =>
          ((dStore tab p106.2 ty113 t107 p106.1).bind fun h' => some ((.und : D), h')).bind fun p906 =>
          some ((.ext 3), [(nth 7 ds_1), t82], p906.2))
          (some (.nrm, [(nth 7 ds_1), t82], p61.2)))).bind fun r_3 =>
      toEnd (unblk 4 r_3.1) ((dFieldAddr tab ty1064 2 p11.1).bind fun t108 =>
      (dLoad tab r_3.2.2 ty113 t108).bind fun t109 =>
      (dLoad tab r_3.2.2 ty74 p14.1).bind fun t110 =>
      (pLitF tab ty113 1 [0] [t110]).bind fun t111 =>
      (dAppend tab r_3.2.2 ty113 ty113 t109 t111).bind fun p112 =>
      (dFieldAddr tab ty1064 2 p11.1).bind fun t113 =>
      ((dStore tab p112.2 ty113 t113 p112.1).bind fun h' => some ((.und : D), h')).bind fun p906_1 =>
      (some (t0 : D)).bind fun t114 =>
      (R fn24 [t114, .int .i64 4] p906_1.2).bind fun p115 =>
      (dBin tab .gtr ty3 p115.1 (.int .i64 0)).bind fun t116 =>
      (dIf t116
        ((some (t8 : D)).bind fun t117 =>
        (some (t13 : D)).bind fun t118 =>
        (dIndexAddr tab ty82 t117 t118).bind fun t119 =>
        (dLoad tab p115.2 ty3 t119).bind fun t120 =>
        (dBin tab .add ty3 t120 (.int .i64 1)).bind fun t121 =>
        (dIndexAddr tab ty82 t117 t118).bind fun t122 =>
        ((dStore tab p115.2 ty3 t122 t121).bind fun h' => some ((.und : D), h')).bind fun p906_2 =>
        some (.nrm, ([] : List D), p906_2.2))
        (some (.nrm, ([] : List D), p115.2))).bind fun r_4 =>
      some ((unblk 3 r_4.1), [t13, p14.1, t49, p61.1, t62, (nth 0 r_3.2.1), (nth 1 r_3.2.1), t116], r_4.2.2)) fun x => some ((unblk 3 x), [t13, p14.1, t49, p61.1, t62, (nth 0 r_3.2.1), (nth 1 r_3.2.1), (nth 9 ds_1)], r_3.2.2)))))).bind fun r_5 =>
    toEnd r_5.1 ((some ((nth 0 ds_1) : D)).bind fun t34 =>
    (dBin tab .sub ty3 t34 (.int .i64 1)).bind fun t35 =>
    (some (t35 : D)).bind fun t12_1 =>
    some (.nrm, [t12_1, (nth 0 r_5.2.1), (nth 1 r_5.2.1), t33, (nth 2 r_5.2.1), (nth 3 r_5.2.1), (nth 4 r_5.2.1), (nth 5 r_5.2.1), (nth 6 r_5.2.1), (nth 7 r_5.2.1)], r_5.2.2)) fun x_1 => some (x_1, [(nth 0 ds_1), (nth 0 r_5.2.1), (nth 1 r_5.2.1), t33, (nth 2 r_5.2.1), (nth 3 r_5.2.1), (nth 4 r_5.2.1), (nth 5 r_5.2.1), (nth 6 r_5.2.1), (nth 7 r_5.2.1)], r_5.2.2))
      (some ((.ext 2), [(nth 0 ds_1), (nth 1 ds_1), (nth 2 ds_1), t33, (nth 4 ds_1), (nth 5 ds_1), (nth 6 ds_1), (nth 7 ds_1), (nth 8 ds_1), (nth 9 ds_1)], h_2))
/-- a loop: slots 9 10 11 12 13 14 23 33 49 61 62 68 82 116 134 -/
noncomputable def F1088_L0 (t0 : D) (t1 : D) (t7 : D) (t8 : D) (ds : List D) (h_1 : Hp) : Option Out :=
    (some ((nth 1 ds) : D)).bind fun t22 =>
    (dBin tab .lss ty3 t22 (.int .i64 12)).bind fun t23 =>
    dIf t23
      ((some (t1 : D)).bind fun t26 =>
    (some ((nth 1 ds) : D)).bind fun t27 =>
    (dBuild tab ty1064 [0, 1] [t26, t27]).bind fun t28 =>
    (some ((.ptr h_1.length 0 0 : D), dNew h_1 ty1064 3 [[.int .i64 0, .int .i64 0, .nils]])).bind fun p11 =>
    ((dStore tab p11.2 ty1064 p11.1 t28).bind fun h' => some ((.und : D), h')).bind fun p904 =>
    (some (t0 : D)).bind fun t29 =>
    (R fn24 [t29, .int .i64 3] p904.2).bind fun p30 =>
    (dBin tab .add ty3 (.int .i64 1) p30.1).bind fun t31 =>
    (some (t31 : D)).bind fun t12 =>
    ((loopW (F1088_L1 t0 t7 t8 p11) [t12, (nth 4 ds), (nth 5 ds), (nth 7 ds), (nth 8 ds), (nth 9 ds), (nth 10 ds), (nth 11 ds), (nth 12 ds), (nth 13 ds)] p30.2).bind fun r_1 =>
      some ((unblk 2 r_1.1), [(nth 0 r_1.2.1), (nth 1 r_1.2.1), (nth 2 r_1.2.1), (nth 3 r_1.2.1), (nth 4 r_1.2.1), (nth 5 r_1.2.1), (nth 6 r_1.2.1), (nth 7 r_1.2.1), (nth 8 r_1.2.1), (nth 9 r_1.2.1)], r_1.2.2)).bind fun r_6 =>
    toEnd r_6.1 ((some ((nth 0 ds) : D)).bind fun t123 =>
    (dLoad tab r_6.2.2 ty1064 p11.1).bind fun t124 =>
    (pLitF tab ty1059 1 [0] [t124]).bind fun t125 =>
    (dAppend tab r_6.2.2 ty1059 ty1059 t123 t125).bind fun p126 =>
    (some (p126.1 : D)).bind fun t9_1 =>
    (some (t0 : D)).bind fun t127 =>
    (R fn24 [t127, .int .i64 4] p126.2).bind fun p128 =>
    (dBin tab .eql ty3 p128.1 (.int .i64 3)).bind fun t129 =>
    (some (t129 : D)).bind fun t130 =>
    (gd t130 true (some (t9_1 : D))).bind fun t131 =>
    (gd t130 true (dLenT tab ty1059 t131)).bind fun t132 =>
    (gd t130 true (dBin tab .gtr ty3 t132 (.int .i64 0))).bind fun t133 =>
    (dPick t130 t133 (.bool false)).bind fun t134 =>
    (dIf t134
      ((some (t9_1 : D)).bind fun t135 =>
      (some (t9_1 : D)).bind fun t136 =>
      (some (t0 : D)).bind fun t137 =>
      (some (t9_1 : D)).bind fun t138 =>
      (dLenT tab ty1059 t138).bind fun t139 =>
      (R fn24 [t137, t139] p128.2).bind fun p140 =>
      (dIndexAddr tab ty1059 t136 p140.1).bind fun t141 =>
      (dLoad tab p140.2 ty1064 t141).bind fun t142 =>
      (pLitF tab ty1059 1 [0] [t142]).bind fun t143 =>
      (dAppend tab p140.2 ty1059 ty1059 t135 t143).bind fun p144 =>
      (some (p144.1 : D)).bind fun t9_2 =>
      some (.nrm, [t9_2], p144.2))
      (some (.nrm, [t9_1], p128.2))).bind fun r_7 =>
    toEnd (unblk 1 r_7.1) ((some ((nth 1 ds) : D)).bind fun t24 =>
    (dBin tab .add ty3 t24 (.int .i64 1)).bind fun t25 =>
    (some (t25 : D)).bind fun t10_1 =>
    some (.nrm, [(nth 0 r_7.2.1), t10_1, p11.1, (nth 0 r_6.2.1), (nth 1 r_6.2.1), (nth 2 r_6.2.1), t23, (nth 3 r_6.2.1), (nth 4 r_6.2.1), (nth 5 r_6.2.1), (nth 6 r_6.2.1), (nth 7 r_6.2.1), (nth 8 r_6.2.1), (nth 9 r_6.2.1), t134], r_7.2.2)) fun x_3 => some (x_3, [(nth 0 r_7.2.1), (nth 1 ds), p11.1, (nth 0 r_6.2.1), (nth 1 r_6.2.1), (nth 2 r_6.2.1), t23, (nth 3 r_6.2.1), (nth 4 r_6.2.1), (nth 5 r_6.2.1), (nth 6 r_6.2.1), (nth 7 r_6.2.1), (nth 8 r_6.2.1), (nth 9 r_6.2.1), t134], r_7.2.2)) fun x_2 => toEnd (unblk 1 x_2) ((some ((nth 1 ds) : D)).bind fun t24_1 =>
    (dBin tab .add ty3 t24_1 (.int .i64 1)).bind fun t25_1 =>
    (some (t25_1 : D)).bind fun t10_2 =>
    some (.nrm, [(nth 0 ds), t10_2, p11.1, (nth 0 r_6.2.1), (nth 1 r_6.2.1), (nth 2 r_6.2.1), t23, (nth 3 r_6.2.1), (nth 4 r_6.2.1), (nth 5 r_6.2.1), (nth 6 r_6.2.1), (nth 7 r_6.2.1), (nth 8 r_6.2.1), (nth 9 r_6.2.1), (nth 14 ds)], r_6.2.2)) fun x_4 => some (x_4, [(nth 0 ds), (nth 1 ds), p11.1, (nth 0 r_6.2.1), (nth 1 r_6.2.1), (nth 2 r_6.2.1), t23, (nth 3 r_6.2.1), (nth 4 r_6.2.1), (nth 5 r_6.2.1), (nth 6 r_6.2.1), (nth 7 r_6.2.1), (nth 8 r_6.2.1), (nth 9 r_6.2.1), (nth 14 ds)], r_6.2.2))
      (some ((.ext 0), [(nth 0 ds), (nth 1 ds), (nth 2 ds), (nth 3 ds), (nth 4 ds), (nth 5 ds), t23, (nth 7 ds), (nth 8 ds), (nth 9 ds), (nth 10 ds), (nth 11 ds), (nth 12 ds), (nth 13 ds), (nth 14 ds)], h_1))
noncomputable def F1088 (t0 : D) (t1 : D) (t2 : D) (h : Hp) : Option (D × Hp) :=
  (some (.nils : D)).bind fun t6 =>
  (some (t0 : D)).bind fun t15 =>
  (some (t1 : D)).bind fun t16 =>
  (some (t2 : D)).bind fun t17 =>
  (R fn71 [t15, t16, t17] h).bind fun p18 =>
  (some (p18.1 : D)).bind fun t7 =>
  (some (t7 : D)).bind fun t19 =>
  (dLenT tab ty111 t19).bind fun t20 =>
  (dMake tab p18.2 ty82 t20 t20).bind fun p21 =>
  (some (p21.1 : D)).bind fun t8 =>
  (some (.nils : D)).bind fun t9 =>
  (some (.int .i64 0 : D)).bind fun t10 =>
  ((loopW (F1088_L0 t0 t1 t7 t8) [t9, t10, .any, .any, .any, .any, .any, .any, .any, .any, .any, .any, .any, .any, .any] p21.2).bind fun r =>
    some ((unblk 0 r.1), [(nth 0 r.2.1), (nth 1 r.2.1), (nth 2 r.2.1), (nth 3 r.2.1), (nth 4 r.2.1), (nth 5 r.2.1), (nth 6 r.2.1), (nth 7 r.2.1), (nth 8 r.2.1), (nth 9 r.2.1), (nth 10 r.2.1), (nth 11 r.2.1), (nth 12 r.2.1), (nth 13 r.2.1), (nth 14 r.2.1)], r.2.2)).bind fun r_8 =>
  toEnd r_8.1 ((some ((nth 0 r_8.2.1) : D)).bind fun t145 =>
  (some (t145 : D)).bind fun t6_1 =>
  ((some (t6_1 : D)).bind fun d => (some ([] : List D)).bind fun ds => some (d :: ds)).bind fun ds => scope h r_8.2.2 (mkRes ds)) fun x_5 => exEnd x_5 (((some (t6 : D)).bind fun d => (some ([] : List D)).bind fun ds => some (d :: ds)).bind fun ds => scope h r_8.2.2 (mkRes ds))
theorem e1088 (t0 : D) (t1 : D) (t2 : D) (h : Hp) : R fn1088 [t0, t1, t2] h = F1088 t0 t1 t2 h :=
  (run_fn (X := X) (F := Fs) (fi := i14) (by kernel_rfl) _ _).trans (by kernel_rfl)
noncomputable def F1109 (t0 : D) (t1 : D) (h : Hp) : Option (D × Hp) :=
  (pBoxF t1).bind fun t3 =>
  (some (.nils : D)).bind fun t4 =>
  (some (.int .i64 0 : D)).bind fun t5 =>
  (dLoad tab h ty1064 t3).bind fun t9 =>
  (R fn1112 [t9] h).bind fun p10 =>
  (some (p10.1 : D)).bind fun t8 =>
  (dExtract 0 t8).bind fun t11 =>
  (dExtract 1 t8).bind fun t12 =>
  (some (t11 : D)).bind fun t6 =>
  (some (t12 : D)).bind fun t7 =>
  (some (t7 : D)).bind fun t13 =>
  (dBin tab .neq ty49 t13 (.int .i64 0)).bind fun t14 =>
  dIf t14
    ((some (t7 : D)).bind fun t15 =>
    (some (.nils : D)).bind fun t4_1 =>
    (some (t15 : D)).bind fun t5_1 =>
    ((some (t4_1 : D)).bind fun d => ((some (t5_1 : D)).bind fun d => (some ([] : List D)).bind fun ds => some (d :: ds)).bind fun ds => some (d :: ds)).bind fun ds => some (mkRes ds, p10.2))
    ((some (t0 : D)).bind fun t16 =>
  (some (t6 : D)).bind fun t17 =>
  (R fn1025 [t16, t17] p10.2).bind fun p18 =>
  (dExtract 0 p18.1).bind fun t19 =>
  (dExtract 1 p18.1).bind fun t20 =>
  (some (t19 : D)).bind fun t4_2 =>
  (some (t20 : D)).bind fun t5_2 =>
  ((some (t4_2 : D)).bind fun d => ((some (t5_2 : D)).bind fun d => (some ([] : List D)).bind fun ds => some (d :: ds)).bind fun ds => some (d :: ds)).bind fun ds => some (mkRes ds, p18.2))
theorem e1109 (t0 : D) (t1 : D) (h : Hp) : R fn1109 [t0, t1] h = F1109 t0 t1 h :=
  (run_fn (X := X) (F := Fs) (fi := i15) (by kernel_rfl) _ _).trans (by kernel_rfl)
noncomputable def F1110 (t0 : D) (h : Hp) : Option (D × Hp) :=
  (some (.int .u32 0 : D)).bind fun t2 =>
  (some (t0 : D)).bind fun t3 =>
  (dIndexAddr tab ty22 t3 (.int .i64 0)).bind fun t4 =>
  (dLoad tab h ty5 t4).bind fun t5 =>
  (dConv tab ty5 ty65 t5).bind fun t6 =>
  (dBin tab .shl ty65 t6 (.int .u64 24)).bind fun t7 =>
  (some (t0 : D)).bind fun t8 =>
  (dIndexAddr tab ty22 t8 (.int .i64 1)).bind fun t9 =>
  (dLoad tab h ty5 t9).bind fun t10 =>
  (dConv tab ty5 ty65 t10).bind fun t11 =>
  (dBin tab .shl ty65 t11 (.int .u64 16)).bind fun t12 =>
  (dBin tab .or ty65 t7 t12).bind fun t13 =>
  (some (t0 : D)).bind fun t14 =>
  (dIndexAddr tab ty22 t14 (.int .i64 2)).bind fun t15 =>
  (dLoad tab h ty5 t15).bind fun t16 =>
  (dConv tab ty5 ty65 t16).bind fun t17 =>
  (dBin tab .shl ty65 t17 (.int .u64 8)).bind fun t18 =>
  (dBin tab .or ty65 t13 t18).bind fun t19 =>
  (some (t0 : D)).bind fun t20 =>
  (dIndexAddr tab ty22 t20 (.int .i64 3)).bind fun t21 =>
  (dLoad tab h ty5 t21).bind fun t22 =>
  (dConv tab ty5 ty65 t22).bind fun t23 =>
  (dBin tab .or ty65 t19 t23).bind fun t24 =>
  (some (t24 : D)).bind fun t2_1 =>
  ((some (t2_1 : D)).bind fun d => (some ([] : List D)).bind fun ds => some (d :: ds)).bind fun ds => some (mkRes ds, h)
theorem e1110 (t0 : D) (h : Hp) : R fn1110 [t0] h = F1110 t0 h :=
  (run_fn (X := X) (F := Fs) (fi := i16) (by kernel_rfl) _ _).trans (by kernel_rfl)
noncomputable def F1029 (t0 : D) (t1 : D) (h : Hp) : Option (D × Hp) :=
  (some (.int .u32 0 : D)).bind fun t4 =>
  (some (t0 : D)).bind fun t5 =>
  (some (t1 : D)).bind fun t6 =>
  (pLitF tab ty1031 2 [0, 1] [t5, t6]).bind fun t7 =>
  (R fn1028 [t7] h).bind fun p8 =>
  (R fn1033 [p8.1] p8.2).bind fun p9 =>
  (some (p9.1 : D)).bind fun t4_1 =>
  ((some (t4_1 : D)).bind fun d => (some ([] : List D)).bind fun ds => some (d :: ds)).bind fun ds => some (mkRes ds, p9.2)
theorem e1029 (t0 : D) (t1 : D) (h : Hp) : R fn1029 [t0, t1] h = F1029 t0 t1 h :=
  (run_fn (X := X) (F := Fs) (fi := i17) (by kernel_rfl) _ _).trans (by kernel_rfl)
/-- a loop: slots 3 4 8 -/
noncomputable def F1111_L0 (t0 : D) (ds : List D) (h_1 : Hp) : Option Out :=
    (some ((nth 1 ds) : D)).bind fun t5 =>
    (some (t0 : D)).bind fun t6 =>
    (dLenT tab ty22 t6).bind fun t7 =>
    (dBin tab .lss ty3 t5 t7).bind fun t8 =>
    dIf t8
      ((some ((nth 0 ds) : D)).bind fun t11 =>
    (dBin tab .shl ty1029 t11 (.int .u64 8)).bind fun t12 =>
    (some (t0 : D)).bind fun t13 =>
    (some ((nth 1 ds) : D)).bind fun t14 =>
    (dIndexAddr tab ty22 t13 t14).bind fun t15 =>
    (dLoad tab h_1 ty5 t15).bind fun t16 =>
    (dConv tab ty5 ty1029 t16).bind fun t17 =>
    (dBin tab .or ty1029 t12 t17).bind fun t18 =>
    (some (t18 : D)).bind fun t3_1 =>
    (some ((nth 1 ds) : D)).bind fun t9 =>
    (dBin tab .add ty3 t9 (.int .i64 1)).bind fun t10 =>
    (some (t10 : D)).bind fun t4_1 =>
    some (.nrm, [t3_1, t4_1, t8], h_1))
      (some ((.ext 0), [(nth 0 ds), (nth 1 ds), t8], h_1))
noncomputable def F1111 (t0 : D) (h : Hp) : Option (D × Hp) :=
  (some (.int .u64 0 : D)).bind fun t2 =>
  (some (.int .u64 0 : D)).bind fun t3 =>
  (some (.int .i64 0 : D)).bind fun t4 =>
  ((loopW (F1111_L0 t0) [t3, t4, .any] h).bind fun r =>
    some ((unblk 0 r.1), [(nth 0 r.2.1), (nth 1 r.2.1), (nth 2 r.2.1)], r.2.2)).bind fun r_1 =>
  toEnd r_1.1 ((some ((nth 0 r_1.2.1) : D)).bind fun t19 =>
  (some (t19 : D)).bind fun t2_1 =>
  ((some (t2_1 : D)).bind fun d => (some ([] : List D)).bind fun ds => some (d :: ds)).bind fun ds => some (mkRes ds, r_1.2.2)) fun x => exEnd x (((some (t2 : D)).bind fun d => (some ([] : List D)).bind fun ds => some (d :: ds)).bind fun ds => some (mkRes ds, r_1.2.2))
theorem e1111 (t0 : D) (h : Hp) : R fn1111 [t0] h = F1111 t0 h :=
  (run_fn (X := X) (F := Fs) (fi := i18) (by kernel_rfl) _ _).trans (by kernel_rfl)
/-- a loop: slots 3 5 20 25 -/
noncomputable def F1031_L1 (ds_1 : List D) (h_2 : Hp) : Option Out :=
    (some ((nth 1 ds_1) : D)).bind fun t19 =>
    (dBin tab .lss ty3 t19 (.int .i64 8)).bind fun t20 =>
    dIf t20
      ((some ((nth 0 ds_1) : D)).bind fun t23 =>
    (dBin tab .and ty65 t23 (.int .u32 1)).bind fun t24 =>
    (dBin tab .eql ty65 t24 (.int .u32 1)).bind fun t25 =>
    (dIf t25
      ((some ((nth 0 ds_1) : D)).bind fun t26 =>
      (dBin tab .shr ty65 t26 (.int .u64 1)).bind fun t27 =>
      (dBin tab .xor ty65 t27 (.int .u32 3988292384)).bind fun t28 =>
      (some (t28 : D)).bind fun t3_2 =>
      some (.nrm, [t3_2], h_2))
      ((some ((nth 0 ds_1) : D)).bind fun t29 =>
      (dBin tab .shr ty65 t29 (.int .u64 1)).bind fun t30 =>
      (some (t30 : D)).bind fun t3_3 =>
      some (.nrm, [t3_3], h_2))).bind fun r_2 =>
    toEnd (unblk 3 r_2.1) ((some ((nth 1 ds_1) : D)).bind fun t21 =>
    (dBin tab .add ty3 t21 (.int .i64 1)).bind fun t22 =>
    (some (t22 : D)).bind fun t5_1 =>
    some (.nrm, [(nth 0 r_2.2.1), t5_1, t20, t25], r_2.2.2)) fun x => some (x, [(nth 0 r_2.2.1), (nth 1 ds_1), t20, t25], r_2.2.2))
      (some ((.ext 2), [(nth 0 ds_1), (nth 1 ds_1), t20, (nth 3 ds_1)], h_2))
/-- a loop: slots 3 4 5 9 20 25 -/
noncomputable def F1031_L0 (t0 : D) (ds : List D) (h_1 : Hp) : Option Out :=
    (some ((nth 1 ds) : D)).bind fun t6 =>
    (some (t0 : D)).bind fun t7 =>
    (dLenT tab ty22 t7).bind fun t8 =>
    (dBin tab .lss ty3 t6 t8).bind fun t9 =>
    dIf t9
      ((some ((nth 0 ds) : D)).bind fun t12 =>
    (some (t0 : D)).bind fun t13 =>
    (some ((nth 1 ds) : D)).bind fun t14 =>
    (dIndexAddr tab ty22 t13 t14).bind fun t15 =>
    (dLoad tab h_1 ty5 t15).bind fun t16 =>
    (dConv tab ty5 ty65 t16).bind fun t17 =>
    (dBin tab .xor ty65 t12 t17).bind fun t18 =>
    (some (t18 : D)).bind fun t3_1 =>
    (some (.int .i64 0 : D)).bind fun t5 =>
    ((loopW (F1031_L1) [t3_1, t5, (nth 4 ds), (nth 5 ds)] h_1).bind fun r_1 =>
      some ((unblk 2 r_1.1), [(nth 0 r_1.2.1), (nth 1 r_1.2.1), (nth 2 r_1.2.1), (nth 3 r_1.2.1)], r_1.2.2)).bind fun r_3 =>
    toEnd (unblk 1 r_3.1) ((some ((nth 1 ds) : D)).bind fun t10 =>
    (dBin tab .add ty3 t10 (.int .i64 1)).bind fun t11 =>
    (some (t11 : D)).bind fun t4_1 =>
    some (.nrm, [(nth 0 r_3.2.1), t4_1, (nth 1 r_3.2.1), t9, (nth 2 r_3.2.1), (nth 3 r_3.2.1)], r_3.2.2)) fun x_1 => some (x_1, [(nth 0 r_3.2.1), (nth 1 ds), (nth 1 r_3.2.1), t9, (nth 2 r_3.2.1), (nth 3 r_3.2.1)], r_3.2.2))
      (some ((.ext 0), [(nth 0 ds), (nth 1 ds), (nth 2 ds), t9, (nth 4 ds), (nth 5 ds)], h_1))
noncomputable def F1031 (t0 : D) (h : Hp) : Option (D × Hp) :=
  (some (.int .u32 0 : D)).bind fun t2 =>
  (some (.int .u32 4294967295 : D)).bind fun t3 =>
  (some (.int .i64 0 : D)).bind fun t4 =>
  ((loopW (F1031_L0 t0) [t3, t4, .any, .any, .any, .any] h).bind fun r =>
    some ((unblk 0 r.1), [(nth 0 r.2.1), (nth 1 r.2.1), (nth 2 r.2.1), (nth 3 r.2.1), (nth 4 r.2.1), (nth 5 r.2.1)], r.2.2)).bind fun r_4 =>
  toEnd r_4.1 ((some ((nth 0 r_4.2.1) : D)).bind fun t31 =>
  (dUn .xor t31).bind fun t32 =>
  (some (t32 : D)).bind fun t2_1 =>
  ((some (t2_1 : D)).bind fun d => (some ([] : List D)).bind fun ds => some (d :: ds)).bind fun ds => some (mkRes ds, r_4.2.2)) fun x_2 => exEnd x_2 (((some (t2 : D)).bind fun d => (some ([] : List D)).bind fun ds => some (d :: ds)).bind fun ds => some (mkRes ds, r_4.2.2))
theorem e1031 (t0 : D) (h : Hp) : R fn1031 [t0] h = F1031 t0 h :=
  (run_fn (X := X) (F := Fs) (fi := i19) (by kernel_rfl) _ _).trans (by kernel_rfl)
noncomputable def F1027 (t0 : D) (h : Hp) : Option (D × Hp) :=
  (some (.nils : D)).bind fun t2 =>
  (some (t0 : D)).bind fun t3 =>
  (dBin tab .shr ty65 t3 (.int .u64 24)).bind fun t4 =>
  (dConv tab ty65 ty5 t4).bind fun t5 =>
  (some (t0 : D)).bind fun t6 =>
  (dBin tab .shr ty65 t6 (.int .u64 16)).bind fun t7 =>
  (dConv tab ty65 ty5 t7).bind fun t8 =>
  (some (t0 : D)).bind fun t9 =>
  (dBin tab .shr ty65 t9 (.int .u64 8)).bind fun t10 =>
  (dConv tab ty65 ty5 t10).bind fun t11 =>
  (some (t0 : D)).bind fun t12 =>
  (dConv tab ty65 ty5 t12).bind fun t13 =>
  (pLitF tab ty22 4 [0, 1, 2, 3] [t5, t8, t11, t13]).bind fun t14 =>
  (some (t14 : D)).bind fun t2_1 =>
  ((some (t2_1 : D)).bind fun d => (some ([] : List D)).bind fun ds => some (d :: ds)).bind fun ds => some (mkRes ds, h)
theorem e1027 (t0 : D) (h : Hp) : R fn1027 [t0] h = F1027 t0 h :=
  (run_fn (X := X) (F := Fs) (fi := i20) (by kernel_rfl) _ _).trans (by kernel_rfl)
/-- a loop: slots 3 5 11 12 20 -/
noncomputable def F1028_L0 (t9 : D) (t10 : D) (ds : List D) (h_1 : Hp) : Option Out :=
    (dBin tab .lss ty3 (nth 2 ds) t10).bind fun t12 =>
    dIf t12
      ((dIndexAddr tab ty1031 t9 (nth 2 ds)).bind fun t13 =>
    (dLoad tab h_1 ty22 t13).bind fun t14 =>
    (some (t14 : D)).bind fun t5 =>
    (some ((nth 0 ds) : D)).bind fun t15 =>
    (some (t5 : D)).bind fun t16 =>
    (dLenT tab ty22 t16).bind fun t17 =>
    (dBin tab .add ty3 t15 t17).bind fun t18 =>
    (some (t18 : D)).bind fun t3_1 =>
    (some (t3_1 : D)).bind fun t19 =>
    (dBin tab .lss ty3 t19 (.int .i64 0)).bind fun t20 =>
    (dIf t20
      (((none : Option D)).bind fun t21 =>
      ((none : Option D)).bind fun t901 =>
      some (.nrm, ([] : List D), h_1))
      (some (.nrm, ([] : List D), h_1))).bind fun r_1 =>
    toEnd (unblk 1 r_1.1) ((dBin tab .add ty3 (nth 2 ds) (.int .i64 1)).bind fun t22 =>
    (some (t22 : D)).bind fun t11_1 =>
    some (.nrm, [t3_1, t5, t11_1, t12, t20], r_1.2.2)) fun x => some (x, [t3_1, t5, (nth 2 ds), t12, t20], r_1.2.2))
      (some ((.ext 0), [(nth 0 ds), (nth 1 ds), (nth 2 ds), t12, (nth 4 ds)], h_1))
/-- a loop: slots 6 8 27 28 -/
noncomputable def F1028_L1 (t25 : D) (t26 : D) (ds_1 : List D) (h_2 : Hp) : Option Out :=
    (dBin tab .lss ty3 (nth 2 ds_1) t26).bind fun t28 =>
    dIf t28
      ((dIndexAddr tab ty1031 t25 (nth 2 ds_1)).bind fun t29 =>
    (dLoad tab h_2 ty22 t29).bind fun t30 =>
    (some (t30 : D)).bind fun t8 =>
    (some ((nth 0 ds_1) : D)).bind fun t31 =>
    (some (t8 : D)).bind fun t32 =>
    (dAppend tab h_2 ty22 ty22 t31 t32).bind fun p33 =>
    (some (p33.1 : D)).bind fun t6_1 =>
    (dBin tab .add ty3 (nth 2 ds_1) (.int .i64 1)).bind fun t34 =>
    (some (t34 : D)).bind fun t27_1 =>
    some (.nrm, [t6_1, t8, t27_1, t28], p33.2))
      (some ((.ext 2), [(nth 0 ds_1), (nth 1 ds_1), (nth 2 ds_1), t28], h_2))
noncomputable def F1028 (t0 : D) (h : Hp) : Option (D × Hp) :=
  (some (.nils : D)).bind fun t2 =>
  (some (.int .i64 0 : D)).bind fun t3 =>
  (some (t0 : D)).bind fun t9 =>
  (dLenT tab ty1031 t9).bind fun t10 =>
  (some (.int .i64 0 : D)).bind fun t11 =>
  ((loopW (F1028_L0 t9 t10) [t3, .any, t11, .any, .any] h).bind fun r =>
    some ((unblk 0 r.1), [(nth 0 r.2.1), (nth 1 r.2.1), (nth 2 r.2.1), (nth 3 r.2.1), (nth 4 r.2.1)], r.2.2)).bind fun r_2 =>
  toEnd r_2.1 ((some ((nth 0 r_2.2.1) : D)).bind fun t23 =>
  (R fn1032 [.nils, t23] r_2.2.2).bind fun p24 =>
  (some (p24.1 : D)).bind fun t6 =>
  (some (t0 : D)).bind fun t25 =>
  (dLenT tab ty1031 t25).bind fun t26 =>
  (some (.int .i64 0 : D)).bind fun t27 =>
  ((loopW (F1028_L1 t25 t26) [t6, .any, t27, .any] p24.2).bind fun r_3 =>
    some ((unblk 2 r_3.1), [(nth 0 r_3.2.1), (nth 1 r_3.2.1), (nth 2 r_3.2.1), (nth 3 r_3.2.1)], r_3.2.2)).bind fun r_4 =>
  toEnd r_4.1 ((some ((nth 0 r_4.2.1) : D)).bind fun t35 =>
  (some (t35 : D)).bind fun t2_1 =>
  ((some (t2_1 : D)).bind fun d => (some ([] : List D)).bind fun ds => some (d :: ds)).bind fun ds => scope h r_4.2.2 (mkRes ds)) fun x_2 => exEnd x_2 (((some (t2 : D)).bind fun d => (some ([] : List D)).bind fun ds => some (d :: ds)).bind fun ds => scope h r_4.2.2 (mkRes ds))) fun x_1 => exEnd x_1 (((some (t2 : D)).bind fun d => (some ([] : List D)).bind fun ds => some (d :: ds)).bind fun ds => scope h r_2.2.2 (mkRes ds))
theorem e1028 (t0 : D) (h : Hp) : R fn1028 [t0] h = F1028 t0 h :=
  (run_fn (X := X) (F := Fs) (fi := i21) (by kernel_rfl) _ _).trans (by kernel_rfl)
/-- a loop: slots 9 10 11 12 24 -/
noncomputable def F71_L1 (t0 : D) (t1 : D) (ds : List D) (ds_1 : List D) (h_2 : Hp) : Option Out :=
    (some ((nth 2 ds_1) : D)).bind fun t23 =>
    (dBin tab .gtr ty3 t23 (.int .i64 0)).bind fun t24 =>
    dIf t24
      ((some (t0 : D)).bind fun t27 =>
    (some (t1 : D)).bind fun t28 =>
    (some ((nth 1 ds) : D)).bind fun t29 =>
    (dBin tab .add ty3 (.int .i64 5) t29).bind fun t30 =>
    (some ((nth 1 ds_1) : D)).bind fun t31 =>
    (R fn84 [t27, t28, t30, t31] h_2).bind fun p32 =>
    (boxN 11 p32.1).bind fun t12 =>
    (some ((nth 0 ds_1) : D)).bind fun t33 =>
    (dLoad tab p32.2 ty74 t12).bind fun t34 =>
    (pLitF tab ty113 1 [0] [t34]).bind fun t35 =>
    (dAppend tab p32.2 ty113 ty113 t33 t35).bind fun p36 =>
    (some (p36.1 : D)).bind fun t9_1 =>
    (dFieldAddr tab ty74 1 t12).bind fun t37 =>
    (dFieldAddr tab ty31 3 t37).bind fun t38 =>
    (dLoad tab p36.2 ty3 t38).bind fun t39 =>
    (some (t39 : D)).bind fun t10_1 =>
    (some ((nth 2 ds_1) : D)).bind fun t25 =>
    (dBin tab .sub ty3 t25 (.int .i64 1)).bind fun t26 =>
    (some (t26 : D)).bind fun t11_1 =>
    some (.nrm, [t9_1, t10_1, t11_1, t12, t24], p36.2))
      (some ((.ext 2), [(nth 0 ds_1), (nth 1 ds_1), (nth 2 ds_1), (nth 3 ds_1), t24], h_2))
/-- a loop: slots 7 8 9 10 11 12 16 24 -/
noncomputable def F71_L0 (t0 : D) (t1 : D) (t2 : D) (ds : List D) (h_1 : Hp) : Option Out :=
    (some ((nth 1 ds) : D)).bind fun t13 =>
    (some (t0 : D)).bind fun t14 =>
    (R fn24 [t14, .int .i64 3] h_1).bind fun p15 =>
    (dBin tab .leq ty3 t13 p15.1).bind fun t16 =>
    dIf t16
      ((some (.nils : D)).bind fun t9 =>
    (some (.int .i64 0 : D)).bind fun t10 =>
    (some (t0 : D)).bind fun t19 =>
    (some (t2 : D)).bind fun t20 =>
    (dBin tab .add ty3 t20 (.int .i64 1)).bind fun t21 =>
    (R fn24 [t19, t21] p15.2).bind fun p22 =>
    (some (p22.1 : D)).bind fun t11 =>
    ((loopW (F71_L1 t0 t1 ds) [t9, t10, t11, (nth 5 ds), (nth 7 ds)] p22.2).bind fun r_1 =>
      some ((unblk 2 r_1.1), [(nth 0 r_1.2.1), (nth 1 r_1.2.1), (nth 2 r_1.2.1), (nth 3 r_1.2.1), (nth 4 r_1.2.1)], r_1.2.2)).bind fun r_2 =>
    toEnd r_2.1 ((some ((nth 0 ds) : D)).bind fun t40 =>
    (some ((nth 0 r_2.2.1) : D)).bind fun t41 =>
    (pLitF tab ty111 1 [0] [t41]).bind fun t42 =>
    (dAppend tab r_2.2.2 ty111 ty111 t40 t42).bind fun p43 =>
    (some (p43.1 : D)).bind fun t7_1 =>
    (some ((nth 1 ds) : D)).bind fun t17 =>
    (dBin tab .add ty3 t17 (.int .i64 1)).bind fun t18 =>
    (some (t18 : D)).bind fun t8_1 =>
    some (.nrm, [t7_1, t8_1, (nth 0 r_2.2.1), (nth 1 r_2.2.1), (nth 2 r_2.2.1), (nth 3 r_2.2.1), t16, (nth 4 r_2.2.1)], p43.2)) fun x => toEnd (unblk 1 x) ((some ((nth 1 ds) : D)).bind fun t17_1 =>
    (dBin tab .add ty3 t17_1 (.int .i64 1)).bind fun t18_1 =>
    (some (t18_1 : D)).bind fun t8_2 =>
    some (.nrm, [(nth 0 ds), t8_2, (nth 0 r_2.2.1), (nth 1 r_2.2.1), (nth 2 r_2.2.1), (nth 3 r_2.2.1), t16, (nth 4 r_2.2.1)], r_2.2.2)) fun x_1 => some (x_1, [(nth 0 ds), (nth 1 ds), (nth 0 r_2.2.1), (nth 1 r_2.2.1), (nth 2 r_2.2.1), (nth 3 r_2.2.1), t16, (nth 4 r_2.2.1)], r_2.2.2))
      (some ((.ext 0), [(nth 0 ds), (nth 1 ds), (nth 2 ds), (nth 3 ds), (nth 4 ds), (nth 5 ds), t16, (nth 7 ds)], p15.2))
noncomputable def F71 (t0 : D) (t1 : D) (t2 : D) (h : Hp) : Option (D × Hp) :=
  (some (.nils : D)).bind fun t6 =>
  (some (.nils : D)).bind fun t7 =>
  (some (.int .i64 0 : D)).bind fun t8 =>
  ((loopW (F71_L0 t0 t1 t2) [t7, t8, .any, .any, .any, .any, .any, .any] h).bind fun r =>
    some ((unblk 0 r.1), [(nth 0 r.2.1), (nth 1 r.2.1), (nth 2 r.2.1), (nth 3 r.2.1), (nth 4 r.2.1), (nth 5 r.2.1), (nth 6 r.2.1), (nth 7 r.2.1)], r.2.2)).bind fun r_3 =>
  toEnd r_3.1 ((some ((nth 0 r_3.2.1) : D)).bind fun t44 =>
  (some (t44 : D)).bind fun t6_1 =>
  ((some (t6_1 : D)).bind fun d => (some ([] : List D)).bind fun ds => some (d :: ds)).bind fun ds => scope h r_3.2.2 (mkRes ds)) fun x_2 => exEnd x_2 (((some (t6 : D)).bind fun d => (some ([] : List D)).bind fun ds => some (d :: ds)).bind fun ds => scope h r_3.2.2 (mkRes ds))
theorem e71 (t0 : D) (t1 : D) (t2 : D) (h : Hp) : R fn71 [t0, t1, t2] h = F71 t0 t1 t2 h :=
  (run_fn (X := X) (F := Fs) (fi := i22) (by kernel_rfl) _ _).trans (by kernel_rfl)
noncomputable def F24 (t0 : D) (t1 : D) (h : Hp) : Option (D × Hp) :=
  (some (.int .i64 0 : D)).bind fun t4 =>
  (some (t0 : D)).bind fun t6 =>
  (R fn57 [t6] h).bind fun p7 =>
  (dUn .not p7.1).bind fun t8 =>
  (some (t8 : D)).bind fun t9 =>
  (gd t9 false (some (t1 : D))).bind fun t10 =>
  (gd t9 false (dBin tab .lss ty3 t10 (.int .i64 1))).bind fun t11 =>
  (dPick t9 (.bool true) t11).bind fun t12 =>
  dIf t12
    ((some (.int .i64 0 : D)).bind fun t4_1 =>
    ((some (t4_1 : D)).bind fun d => (some ([] : List D)).bind fun ds => some (d :: ds)).bind fun ds => some (mkRes ds, p7.2))
    ((some (t0 : D)).bind fun t13 =>
  (dNilCheck tab t13).bind fun t14 =>
  (dFieldAddr tab ty101 0 t14).bind fun t15 =>
  (dLoad tab p7.2 ty22 t15).bind fun t16 =>
  (some (t0 : D)).bind fun t17 =>
  (dNilCheck tab t17).bind fun t18 =>
  (dFieldAddr tab ty101 1 t18).bind fun t19 =>
  (dLoad tab p7.2 ty3 t19).bind fun t20 =>
  (dIndexAddr tab ty22 t16 t20).bind fun t21 =>
  (dLoad tab p7.2 ty5 t21).bind fun t22 =>
  (dConv tab ty5 ty3 t22).bind fun t23 =>
  (some (t23 : D)).bind fun t5 =>
  (some (t0 : D)).bind fun t24 =>
  (dNilCheck tab t24).bind fun t25 =>
  (dFieldAddr tab ty101 1 t25).bind fun t26 =>
  (dLoad tab p7.2 ty3 t26).bind fun t27 =>
  (dBin tab .add ty3 t27 (.int .i64 1)).bind fun t28 =>
  (dNilCheck tab t24).bind fun t29 =>
  (dFieldAddr tab ty101 1 t29).bind fun t30 =>
  ((dStore tab p7.2 ty3 t30 t28).bind fun h' => some ((.und : D), h')).bind fun p907 =>
  (some (t5 : D)).bind fun t31 =>
  (some (t1 : D)).bind fun t32 =>
  (dBin tab .mul ty3 t31 t32).bind fun t33 =>
  (dBin tab .quo ty3 t33 (.int .i64 256)).bind fun t34 =>
  (some (t34 : D)).bind fun t4_2 =>
  ((some (t4_2 : D)).bind fun d => (some ([] : List D)).bind fun ds => some (d :: ds)).bind fun ds => some (mkRes ds, p907.2))
theorem e24 (t0 : D) (t1 : D) (h : Hp) : R fn24 [t0, t1] h = F24 t0 t1 h :=
  (run_fn (X := X) (F := Fs) (fi := i23) (by kernel_rfl) _ _).trans (by kernel_rfl)
/-- a loop: slots 7 27 32 -/
noncomputable def F1093_L0 (t3 : D) (p5 : D × Hp) (t6 : D) (ds : List D) (h_1 : Hp) : Option Out :=
    (some ((nth 0 ds) : D)).bind fun t24 =>
    (some (t6 : D)).bind fun t25 =>
    (dLenT tab ty28 t25).bind fun t26 =>
    (dBin tab .lss ty3 t24 t26).bind fun t27 =>
    dIf t27
      ((dFieldAddr tab ty74 0 t3).bind fun t30 =>
    (dLoad tab h_1 ty9 t30).bind fun t31 =>
    (dBin tab .neq ty9 t31 (.str [])).bind fun t32 =>
    (dIf t32
      ((some (t6 : D)).bind fun t33 =>
      (some ((nth 0 ds) : D)).bind fun t34 =>
      (dIndexAddr tab ty28 t33 t34).bind fun t35 =>
      (dFieldAddr tab ty78 2 t35).bind fun t36 =>
      ((dStore tab h_1 ty9 t36 (.str [])).bind fun h' => some ((.und : D), h')).bind fun p904 =>
      some (.nrm, ([] : List D), p904.2))
      (some (.nrm, ([] : List D), h_1))).bind fun r_1 =>
    toEnd r_1.1 ((dFieldAddr tab ty74 1 p5.1).bind fun t37 =>
    (dFieldAddr tab ty31 4 t37).bind fun t38 =>
    (dLoad tab r_1.2.2 ty28 t38).bind fun t39 =>
    (some (t6 : D)).bind fun t40 =>
    (some ((nth 0 ds) : D)).bind fun t41 =>
    (dIndexAddr tab ty28 t40 t41).bind fun t42 =>
    (dLoad tab r_1.2.2 ty78 t42).bind fun t43 =>
    (pLitF tab ty28 1 [0] [t43]).bind fun t44 =>
    (dAppend tab r_1.2.2 ty28 ty28 t39 t44).bind fun p45 =>
    (dFieldAddr tab ty74 1 p5.1).bind fun t46 =>
    (dFieldAddr tab ty31 4 t46).bind fun t47 =>
    ((dStore tab p45.2 ty28 t47 p45.1).bind fun h' => some ((.und : D), h')).bind fun p911 =>
    (some ((nth 0 ds) : D)).bind fun t28 =>
    (dBin tab .add ty3 t28 (.int .i64 1)).bind fun t29 =>
    (some (t29 : D)).bind fun t7_1 =>
    some (.nrm, [t7_1, t27, t32], p911.2)) fun x => toEnd (unblk 1 x) ((some ((nth 0 ds) : D)).bind fun t28_1 =>
    (dBin tab .add ty3 t28_1 (.int .i64 1)).bind fun t29_1 =>
    (some (t29_1 : D)).bind fun t7_2 =>
    some (.nrm, [t7_2, t27, t32], r_1.2.2)) fun x_1 => some (x_1, [(nth 0 ds), t27, t32], r_1.2.2))
      (some ((.ext 0), [(nth 0 ds), t27, (nth 2 ds)], h_1))
noncomputable def F1093 (t0 : D) (t1 : D) (h : Hp) : Option (D × Hp) :=
  (pBoxF t0).bind fun t2 =>
  (pBoxF t1).bind fun t3 =>
  (some ((.ptr h.length 0 0 : D), dNew h ty74 11 [[.str [], .int .i64 0, .int .i64 0, .int .i64 0, .int .i64 0, .nils, .int .i64 0, .int .i64 0, .str [], .str [], .nils]])).bind fun p4 =>
  (dLoad tab p4.2 ty74 t3).bind fun t8 =>
  (some ((.ptr p4.2.length 0 0 : D), dNew p4.2 ty74 11 [[.str [], .int .i64 0, .int .i64 0, .int .i64 0, .int .i64 0, .nils, .int .i64 0, .int .i64 0, .str [], .str [], .nils]])).bind fun p5 =>
  ((dStore tab p5.2 ty74 p5.1 t8).bind fun h' => some ((.und : D), h')).bind fun p902 =>
  (dFieldAddr tab ty74 1 t2).bind fun t9 =>
  (dFieldAddr tab ty31 2 t9).bind fun t10 =>
  (dLoad tab p902.2 ty3 t10).bind fun t11 =>
  (dFieldAddr tab ty74 1 p5.1).bind fun t12 =>
  (dFieldAddr tab ty31 2 t12).bind fun t13 =>
  ((dStore tab p902.2 ty3 t13 t11).bind fun h' => some ((.und : D), h')).bind fun p905 =>
  (dFieldAddr tab ty74 1 p5.1).bind fun t14 =>
  (dFieldAddr tab ty31 4 t14).bind fun t15 =>
  ((dStore tab p905.2 ty28 t15 (.nils)).bind fun h' => some ((.und : D), h')).bind fun p902_1 =>
  (dFieldAddr tab ty74 1 t2).bind fun t16 =>
  (dFieldAddr tab ty31 4 t16).bind fun t17 =>
  (dLoad tab p902_1.2 ty28 t17).bind fun t18 =>
  (dAppend tab p902_1.2 ty28 ty28 (.nils) t18).bind fun p19 =>
  (dFieldAddr tab ty74 1 t3).bind fun t20 =>
  (dFieldAddr tab ty31 4 t20).bind fun t21 =>
  (dLoad tab p19.2 ty28 t21).bind fun t22 =>
  (dAppend tab p19.2 ty28 ty28 p19.1 t22).bind fun p23 =>
  chk (dLoad tab p902_1.2 ty28 t21 = some t22)
  ((some (p23.1 : D)).bind fun t6 =>
  (some (.int .i64 0 : D)).bind fun t7 =>
  ((loopW (F1093_L0 t3 p5 t6) [t7, .any, .any] p23.2).bind fun r =>
    some ((unblk 0 r.1), [(nth 0 r.2.1), (nth 1 r.2.1), (nth 2 r.2.1)], r.2.2)).bind fun r_2 =>
  toEnd r_2.1 ((dLoad tab r_2.2.2 ty74 p5.1).bind fun t48 =>
  ((dStore tab r_2.2.2 ty74 p4.1 t48).bind fun h' => some ((.und : D), h')).bind fun p901 =>
  ((some (p4.1 : D)).bind fun p => (dLoad tab p901.2 ty74 p).bind fun d => (some ([] : List D)).bind fun ds => some (d :: ds)).bind fun ds => scope h p901.2 (mkRes ds)) fun x_2 => exEnd x_2 (((some (p4.1 : D)).bind fun p => (dLoad tab r_2.2.2 ty74 p).bind fun d => (some ([] : List D)).bind fun ds => some (d :: ds)).bind fun ds => scope h r_2.2.2 (mkRes ds)))
theorem e1093 (t0 : D) (t1 : D) (h : Hp) : R fn1093 [t0, t1] h = F1093 t0 t1 h :=
  (run_fn (X := X) (F := Fs) (fi := i24) (by kernel_rfl) _ _).trans (by kernel_rfl)
/-- a loop: slots 5 6 7 31 -/
noncomputable def F1112_L0 (t1 : D) (ds : List D) (h_1 : Hp) : Option Out :=
    (some ((nth 1 ds) : D)).bind fun t27 =>
    (dFieldAddr tab ty1064 2 t1).bind fun t28 =>
    (dLoad tab h_1 ty113 t28).bind fun t29 =>
    (dLenT tab ty113 t29).bind fun t30 =>
    (dBin tab .lss ty3 t27 t30).bind fun t31 =>
    dIf t31
      ((dFieldAddr tab ty1064 2 t1).bind fun t35 =>
    (dLoad tab h_1 ty113 t35).bind fun t36 =>
    (some ((nth 1 ds) : D)).bind fun t37 =>
    (dIndexAddr tab ty113 t36 t37).bind fun t38 =>
    (dLoad tab h_1 ty74 t38).bind fun t39 =>
    (R fn1114 [t39] h_1).bind fun p40 =>
    (some (p40.1 : D)).bind fun t34 =>
    (dExtract 0 t34).bind fun t41 =>
    (dExtract 1 t34).bind fun t42 =>
    (some (t41 : D)).bind fun t7 =>
    (some (t42 : D)).bind fun t8 =>
    (some ((nth 0 ds) : D)).bind fun t43 =>
    (some (t7 : D)).bind fun t44 =>
    (dAppend tab p40.2 ty22 ty22 t43 t44).bind fun p45 =>
    (some (p45.1 : D)).bind fun t5_1 =>
    (some ((nth 1 ds) : D)).bind fun t32 =>
    (dBin tab .add ty3 t32 (.int .i64 1)).bind fun t33 =>
    (some (t33 : D)).bind fun t6_1 =>
    some (.nrm, [t5_1, t6_1, t7, t31], p45.2))
      (some ((.ext 0), [(nth 0 ds), (nth 1 ds), (nth 2 ds), t31], h_1))
noncomputable def F1112 (t0 : D) (h : Hp) : Option (D × Hp) :=
  (pBoxF t0).bind fun t1 =>
  (some (.nils : D)).bind fun t2 =>
  (some (.int .i64 0 : D)).bind fun t3 =>
  (dLoad tab h ty1064 t1).bind fun t9 =>
  (R fn1113 [t9] h).bind fun p10 =>
  (some (p10.1 : D)).bind fun t4 =>
  (some (t4 : D)).bind fun t11 =>
  (dBin tab .neq ty49 t11 (.int .i64 0)).bind fun t12 =>
  dIf t12
    ((some (t4 : D)).bind fun t13 =>
    (some (.nils : D)).bind fun t2_1 =>
    (some (t13 : D)).bind fun t3_1 =>
    ((some (t2_1 : D)).bind fun d => ((some (t3_1 : D)).bind fun d => (some ([] : List D)).bind fun ds => some (d :: ds)).bind fun ds => some (d :: ds)).bind fun ds => scope h p10.2 (mkRes ds))
    ((dFieldAddr tab ty1064 0 t1).bind fun t14 =>
  (dLoad tab p10.2 ty3 t14).bind fun t15 =>
  (dConv tab ty3 ty1029 t15).bind fun t16 =>
  (R fn1030 [.nils, t16, .int .i64 8] p10.2).bind fun p17 =>
  (dFieldAddr tab ty1064 1 t1).bind fun t18 =>
  (dLoad tab p17.2 ty3 t18).bind fun t19 =>
  (dConv tab ty3 ty1029 t19).bind fun t20 =>
  (R fn1030 [p17.1, t20, .int .i64 8] p17.2).bind fun p21 =>
  (dFieldAddr tab ty1064 2 t1).bind fun t22 =>
  (dLoad tab p21.2 ty113 t22).bind fun t23 =>
  (dLenT tab ty113 t23).bind fun t24 =>
  (dConv tab ty3 ty1029 t24).bind fun t25 =>
  (R fn1030 [p21.1, t25, .int .i64 4] p21.2).bind fun p26 =>
  chk (dLoad tab p10.2 ty3 t18 = some t19)
  (chk (dLoad tab p10.2 ty113 t22 = some t23)
  (chk (dLoad tab p17.2 ty113 t22 = some t23)
  ((some (p26.1 : D)).bind fun t5 =>
  (some (.int .i64 0 : D)).bind fun t6 =>
  ((loopW (F1112_L0 t1) [t5, t6, .any, .any] p26.2).bind fun r =>
    some ((unblk 0 r.1), [(nth 0 r.2.1), (nth 1 r.2.1), (nth 2 r.2.1), (nth 3 r.2.1)], r.2.2)).bind fun r_1 =>
  toEnd r_1.1 ((some ((nth 0 r_1.2.1) : D)).bind fun t46 =>
  (some (t46 : D)).bind fun t2_2 =>
  (some (.int .i64 0 : D)).bind fun t3_2 =>
  ((some (t2_2 : D)).bind fun d => ((some (t3_2 : D)).bind fun d => (some ([] : List D)).bind fun ds => some (d :: ds)).bind fun ds => some (d :: ds)).bind fun ds => scope h r_1.2.2 (mkRes ds)) fun x => exEnd x (((some (t2 : D)).bind fun d => ((some (t3 : D)).bind fun d => (some ([] : List D)).bind fun ds => some (d :: ds)).bind fun ds => some (d :: ds)).bind fun ds => scope h r_1.2.2 (mkRes ds))))))
theorem e1112 (t0 : D) (h : Hp) : R fn1112 [t0] h = F1112 t0 h :=
  (run_fn (X := X) (F := Fs) (fi := i25) (by kernel_rfl) _ _).trans (by kernel_rfl)
noncomputable def F1025 (t0 : D) (t1 : D) (h : Hp) : Option (D × Hp) :=
  (some (.nils : D)).bind fun t4 =>
  (some (.int .i64 0 : D)).bind fun t5 =>
  (some (t1 : D)).bind fun t9 =>
  (dLenT tab ty22 t9).bind fun t10 =>
  (dBin tab .eql ty3 t10 (.int .i64 0)).bind fun t11 =>
  (some (t11 : D)).bind fun t12 =>
  (gd t12 false (some (t1 : D))).bind fun t13 =>
  (gd t12 false (dLenT tab ty22 t13)).bind fun t14 =>
  (gd t12 false (dBin tab .gtr ty3 t14 (.int .i64 8388608))).bind fun t15 =>
  (dPick t12 (.bool true) t15).bind fun t16 =>
  dIf t16
    ((some (.nils : D)).bind fun t4_1 =>
    (some (.int .i64 3 : D)).bind fun t5_1 =>
    ((some (t4_1 : D)).bind fun d => ((some (t5_1 : D)).bind fun d => (some ([] : List D)).bind fun ds => some (d :: ds)).bind fun ds => some (d :: ds)).bind fun ds => scope h h (mkRes ds))
    ((some (t0 : D)).bind fun t17 =>
  (dLenT tab ty22 t17).bind fun t18 =>
  (dBin tab .add ty3 t18 (.int .i64 8)).bind fun t19 =>
  (some (t1 : D)).bind fun t20 =>
  (dLenT tab ty22 t20).bind fun t21 =>
  (dBin tab .add ty3 t19 t21).bind fun t22 =>
  (dBin tab .gtr ty3 t22 (.int .i64 67108864)).bind fun t23 =>
  dIf t23
    ((some (.nils : D)).bind fun t4_2 =>
    (some (.int .i64 16 : D)).bind fun t5_2 =>
    ((some (t4_2 : D)).bind fun d => ((some (t5_2 : D)).bind fun d => (some ([] : List D)).bind fun ds => some (d :: ds)).bind fun ds => some (d :: ds)).bind fun ds => scope h h (mkRes ds))
    ((some (t1 : D)).bind fun t24 =>
  (dLenT tab ty22 t24).bind fun t25 =>
  (dConv tab ty3 ty1029 t25).bind fun t26 =>
  (R fn1030 [.nils, t26, .int .i64 4] h).bind fun p27 =>
  (some (p27.1 : D)).bind fun t6 =>
  (some (t6 : D)).bind fun t28 =>
  (dAppend tab p27.2 ty22 ty22 (.nils) t28).bind fun p29 =>
  (some (t1 : D)).bind fun t30 =>
  (dAppend tab p29.2 ty22 ty22 p29.1 t30).bind fun p31 =>
  (R fn1031 [p31.1] p31.2).bind fun p32 =>
  (some (p32.1 : D)).bind fun t7 =>
  (some (t0 : D)).bind fun t33 =>
  (dAppend tab p32.2 ty22 ty22 (.nils) t33).bind fun p34 =>
  (some (t6 : D)).bind fun t35 =>
  (some (t7 : D)).bind fun t36 =>
  (dConv tab ty65 ty1029 t36).bind fun t37 =>
  (R fn1030 [t35, t37, .int .i64 4] p34.2).bind fun p38 =>
  (dAppend tab p38.2 ty22 ty22 p34.1 p38.1).bind fun p39 =>
  (some (p39.1 : D)).bind fun t8 =>
  (some (t8 : D)).bind fun t40 =>
  (some (t1 : D)).bind fun t41 =>
  (dAppend tab p39.2 ty22 ty22 t40 t41).bind fun p42 =>
  (some (p42.1 : D)).bind fun t4_3 =>
  (some (.int .i64 0 : D)).bind fun t5_3 =>
  ((some (t4_3 : D)).bind fun d => ((some (t5_3 : D)).bind fun d => (some ([] : List D)).bind fun ds => some (d :: ds)).bind fun ds => some (d :: ds)).bind fun ds => scope h p42.2 (mkRes ds)))
theorem e1025 (t0 : D) (t1 : D) (h : Hp) : R fn1025 [t0, t1] h = F1025 t0 t1 h :=
  (run_fn (X := X) (F := Fs) (fi := i26) (by kernel_rfl) _ _).trans (by kernel_rfl)
/-- a loop: slots 3 16 17 -/
noncomputable def F1033_L1 (ds_1 : List D) (h_2 : Hp) : Option Out :=
    (dBin tab .lss ty3 (nth 1 ds_1) (.int .i64 8)).bind fun t17 =>
    dIf t17
      ((some ((nth 0 ds_1) : D)).bind fun t18 =>
    (dBin tab .shr ty65 t18 (.int .u64 1)).bind fun t19 =>
    (some ((nth 0 ds_1) : D)).bind fun t20 =>
    (dBin tab .and ty65 t20 (.int .u32 1)).bind fun t21 =>
    (dUn .neg t21).bind fun t22 =>
    (dBin tab .and ty65 (.int .u32 3988292384) t22).bind fun t23 =>
    (dBin tab .xor ty65 t19 t23).bind fun t24 =>
    (some (t24 : D)).bind fun t3_2 =>
    (dBin tab .add ty3 (nth 1 ds_1) (.int .i64 1)).bind fun t25 =>
    (some (t25 : D)).bind fun t16_1 =>
    some (.nrm, [t3_2, t16_1, t17], h_2))
      (some ((.ext 2), [(nth 0 ds_1), (nth 1 ds_1), t17], h_2))
/-- a loop: slots 3 5 8 9 16 17 -/
noncomputable def F1033_L0 (t6 : D) (t7 : D) (ds : List D) (h_1 : Hp) : Option Out :=
    (dBin tab .lss ty3 (nth 2 ds) t7).bind fun t9 =>
    dIf t9
      ((dIndexAddr tab ty22 t6 (nth 2 ds)).bind fun t10 =>
    (dLoad tab h_1 ty5 t10).bind fun t11 =>
    (some (t11 : D)).bind fun t5 =>
    (some ((nth 0 ds) : D)).bind fun t12 =>
    (some (t5 : D)).bind fun t13 =>
    (dConv tab ty5 ty65 t13).bind fun t14 =>
    (dBin tab .xor ty65 t12 t14).bind fun t15 =>
    (some (t15 : D)).bind fun t3_1 =>
    (some (.int .i64 0 : D)).bind fun t16 =>
    ((loopW (F1033_L1) [t3_1, t16, (nth 5 ds)] h_1).bind fun r_1 =>
      some ((unblk 2 r_1.1), [(nth 0 r_1.2.1), (nth 1 r_1.2.1), (nth 2 r_1.2.1)], r_1.2.2)).bind fun r_2 =>
    toEnd (unblk 1 r_2.1) ((dBin tab .add ty3 (nth 2 ds) (.int .i64 1)).bind fun t26 =>
    (some (t26 : D)).bind fun t8_1 =>
    some (.nrm, [(nth 0 r_2.2.1), t5, t8_1, t9, (nth 1 r_2.2.1), (nth 2 r_2.2.1)], r_2.2.2)) fun x => some (x, [(nth 0 r_2.2.1), t5, (nth 2 ds), t9, (nth 1 r_2.2.1), (nth 2 r_2.2.1)], r_2.2.2))
      (some ((.ext 0), [(nth 0 ds), (nth 1 ds), (nth 2 ds), t9, (nth 4 ds), (nth 5 ds)], h_1))
noncomputable def F1033 (t0 : D) (h : Hp) : Option (D × Hp) :=
  (some (.int .u32 0 : D)).bind fun t2 =>
  (some (.int .u32 4294967295 : D)).bind fun t3 =>
  (some (t0 : D)).bind fun t6 =>
  (dLenT tab ty22 t6).bind fun t7 =>
  (some (.int .i64 0 : D)).bind fun t8 =>
  ((loopW (F1033_L0 t6 t7) [t3, .any, t8, .any, .any, .any] h).bind fun r =>
    some ((unblk 0 r.1), [(nth 0 r.2.1), (nth 1 r.2.1), (nth 2 r.2.1), (nth 3 r.2.1), (nth 4 r.2.1), (nth 5 r.2.1)], r.2.2)).bind fun r_3 =>
  toEnd r_3.1 ((some ((nth 0 r_3.2.1) : D)).bind fun t27 =>
  (dUn .xor t27).bind fun t28 =>
  (some (t28 : D)).bind fun t2_1 =>
  ((some (t2_1 : D)).bind fun d => (some ([] : List D)).bind fun ds => some (d :: ds)).bind fun ds => some (mkRes ds, r_3.2.2)) fun x_1 => exEnd x_1 (((some (t2 : D)).bind fun d => (some ([] : List D)).bind fun ds => some (d :: ds)).bind fun ds => some (mkRes ds, r_3.2.2))
theorem e1033 (t0 : D) (h : Hp) : R fn1033 [t0] h = F1033 t0 h :=
  (run_fn (X := X) (F := Fs) (fi := i27) (by kernel_rfl) _ _).trans (by kernel_rfl)
noncomputable def F1032 (t0 : D) (t1 : D) (h : Hp) : Option (D × Hp) :=
  (some (.nils : D)).bind fun t4 =>
  (some (t1 : D)).bind fun t5 =>
  (dBin tab .lss ty3 t5 (.int .i64 0)).bind fun t6 =>
  (dIf t6
    (((none : Option D)).bind fun t7 =>
    ((none : Option D)).bind fun t901 =>
    some (.nrm, ([] : List D), h))
    (some (.nrm, ([] : List D), h))).bind fun r =>
  toEnd r.1 ((some (t1 : D)).bind fun t8 =>
  (some (t0 : D)).bind fun t9 =>
  (dCapT tab ty22 t9).bind fun t10 =>
  (some (t0 : D)).bind fun t11 =>
  (dLenT tab ty22 t11).bind fun t12 =>
  (dBin tab .sub ty3 t10 t12).bind fun t13 =>
  (dBin tab .sub ty3 t8 t13).bind fun t14 =>
  (some (t14 : D)).bind fun t1_1 =>
  (some (t1_1 : D)).bind fun t15 =>
  (dBin tab .gtr ty3 t15 (.int .i64 0)).bind fun t16 =>
  (dIf t16
    ((some (t0 : D)).bind fun t17 =>
    (some (t0 : D)).bind fun t18 =>
    (dCapT tab ty22 t18).bind fun t19 =>
    (dSliceAt tab ty22 false true false [t17, t19]).bind fun t20 =>
    (some (t1_1 : D)).bind fun t21 =>
    (dAppend tab r.2.2 ty22 ty3 t20 t21).bind fun p22 =>
    (some (t0 : D)).bind fun t23 =>
    (dLenT tab ty22 t23).bind fun t24 =>
    (dSliceAt tab ty22 false true false [p22.1, t24]).bind fun t25 =>
    (some (t25 : D)).bind fun t0_1 =>
    some (.nrm, [t0_1], p22.2))
    (some (.nrm, [t0], r.2.2))).bind fun r_1 =>
  toEnd r_1.1 ((some ((nth 0 r_1.2.1) : D)).bind fun t26 =>
  (some (t26 : D)).bind fun t4_1 =>
  ((some (t4_1 : D)).bind fun d => (some ([] : List D)).bind fun ds => some (d :: ds)).bind fun ds => some (mkRes ds, r_1.2.2)) fun x_1 => exEnd x_1 (((some (t4 : D)).bind fun d => (some ([] : List D)).bind fun ds => some (d :: ds)).bind fun ds => some (mkRes ds, r_1.2.2))) fun x => exEnd x (((some (t4 : D)).bind fun d => (some ([] : List D)).bind fun ds => some (d :: ds)).bind fun ds => some (mkRes ds, r.2.2))
theorem e1032 (t0 : D) (t1 : D) (h : Hp) : R fn1032 [t0, t1] h = F1032 t0 t1 h :=
  (run_fn (X := X) (F := Fs) (fi := i28) (by kernel_rfl) _ _).trans (by kernel_rfl)
/-- a loop: slots 10 11 12 13 24 -/
noncomputable def F84_L0 (t0 : D) (p9 : D × Hp) (ds : List D) (h_1 : Hp) : Option Out :=
    (some ((nth 1 ds) : D)).bind fun t23 =>
    (dBin tab .gtr ty3 t23 (.int .i64 0)).bind fun t24 =>
    dIf t24
      ((some (t0 : D)).bind fun t27 =>
    (R fn96 [t27] h_1).bind fun p28 =>
    (some (p28.1 : D)).bind fun t12 =>
    (some (t12 : D)).bind fun t29 =>
    (dLenT tab ty9 t29).bind fun t30 =>
    (dBin tab .add ty3 t30 (.int .i64 1)).bind fun t31 =>
    (some (t0 : D)).bind fun t32 =>
    (R fn24 [t32, .int .i64 2] p28.2).bind fun p33 =>
    (dBin tab .add ty3 t31 p33.1).bind fun t34 =>
    (some (t34 : D)).bind fun t13 =>
    (dFieldAddr tab ty31 4 p9.1).bind fun t35 =>
    (dLoad tab p33.2 ty28 t35).bind fun t36 =>
    (some ((nth 0 ds) : D)).bind fun t37 =>
    (some (t13 : D)).bind fun t38 =>
    (some (t12 : D)).bind fun t39 =>
    (dBuild tab ty78 [0, 1, 2] [t37, t38, t39]).bind fun t40 =>
    (pLitF tab ty28 1 [0] [t40]).bind fun t41 =>
    (dAppend tab p33.2 ty28 ty28 t36 t41).bind fun p42 =>
    (dFieldAddr tab ty31 4 p9.1).bind fun t43 =>
    ((dStore tab p42.2 ty28 t43 p42.1).bind fun h' => some ((.und : D), h')).bind fun p909 =>
    (some ((nth 0 ds) : D)).bind fun t44 =>
    (some (t13 : D)).bind fun t45 =>
    (dBin tab .add ty3 t44 t45).bind fun t46 =>
    (some (t46 : D)).bind fun t10_1 =>
    (some ((nth 1 ds) : D)).bind fun t25 =>
    (dBin tab .sub ty3 t25 (.int .i64 1)).bind fun t26 =>
    (some (t26 : D)).bind fun t11_1 =>
    some (.nrm, [t10_1, t11_1, t12, t13, t24], p909.2))
      (some ((.ext 0), [(nth 0 ds), (nth 1 ds), (nth 2 ds), (nth 3 ds), t24], h_1))
/-- a loop: slots 14 56 -/
noncomputable def F84_L1 (p9 : D × Hp) (ds_1 : List D) (h_2 : Hp) : Option Out :=
    (some ((nth 0 ds_1) : D)).bind fun t52 =>
    (dFieldAddr tab ty31 4 p9.1).bind fun t53 =>
    (dLoad tab h_2 ty28 t53).bind fun t54 =>
    (dLenT tab ty28 t54).bind fun t55 =>
    (dBin tab .lss ty3 t52 t55).bind fun t56 =>
    dIf t56
      ((dFieldAddr tab ty31 4 p9.1).bind fun t59 =>
    (dLoad tab h_2 ty28 t59).bind fun t60 =>
    (some ((nth 0 ds_1) : D)).bind fun t61 =>
    (dIndexAddr tab ty28 t60 t61).bind fun t62 =>
    (dFieldAddr tab ty78 2 t62).bind fun t63 =>
    ((dStore tab h_2 ty9 t63 (.str [])).bind fun h' => some ((.und : D), h')).bind fun p905_1 =>
    (some ((nth 0 ds_1) : D)).bind fun t57 =>
    (dBin tab .add ty3 t57 (.int .i64 1)).bind fun t58 =>
    (some (t58 : D)).bind fun t14_1 =>
    some (.nrm, [t14_1, t56], p905_1.2))
      (some ((.ext 2), [(nth 0 ds_1), t56], h_2))
noncomputable def F84 (t0 : D) (t1 : D) (t2 : D) (t3 : D) (h : Hp) : Option (D × Hp) :=
  (some ((.ptr h.length 0 0 : D), dNew h ty74 11 [[.str [], .int .i64 0, .int .i64 0, .int .i64 0, .int .i64 0, .nils, .int .i64 0, .int .i64 0, .str [], .str [], .nils]])).bind fun p8 =>
  (some (t1 : D)).bind fun t15 =>
  (some (t2 : D)).bind fun t16 =>
  (some (t3 : D)).bind fun t17 =>
  (dBuild tab ty31 [0, 1, 2] [t15, t16, t17]).bind fun t18 =>
  (some ((.ptr p8.2.length 0 0 : D), dNew p8.2 ty31 10 [[.int .i64 0, .int .i64 0, .int .i64 0, .int .i64 0, .nils, .int .i64 0, .int .i64 0, .str [], .str [], .nils]])).bind fun p9 =>
  ((dStore tab p9.2 ty31 p9.1 t18).bind fun h' => some ((.und : D), h')).bind fun p905 =>
  (some (t3 : D)).bind fun t19 =>
  (some (t19 : D)).bind fun t10 =>
  (some (t0 : D)).bind fun t20 =>
  (R fn24 [t20, .int .i64 3] p905.2).bind fun p21 =>
  (dBin tab .add ty3 (.int .i64 1) p21.1).bind fun t22 =>
  (some (t22 : D)).bind fun t11 =>
  ((loopW (F84_L0 t0 p9) [t10, t11, .any, .any, .any] p21.2).bind fun r =>
    some ((unblk 0 r.1), [(nth 0 r.2.1), (nth 1 r.2.1), (nth 2 r.2.1), (nth 3 r.2.1), (nth 4 r.2.1)], r.2.2)).bind fun r_1 =>
  toEnd r_1.1 ((some ((nth 0 r_1.2.1) : D)).bind fun t47 =>
  (dFieldAddr tab ty31 3 p9.1).bind fun t48 =>
  ((dStore tab r_1.2.2 ty3 t48 t47).bind fun h' => some ((.und : D), h')).bind fun p902 =>
  (some (t0 : D)).bind fun t49 =>
  (R fn24 [t49, .int .i64 5] p902.2).bind fun p50 =>
  (dBin tab .eql ty3 p50.1 (.int .i64 4)).bind fun t51 =>
  dIf t51
    ((some (.int .i64 0 : D)).bind fun t14 =>
    ((loopW (F84_L1 p9) [t14, .any] p50.2).bind fun r_2 =>
      some ((unblk 2 r_2.1), [(nth 0 r_2.2.1), (nth 1 r_2.2.1)], r_2.2.2)).bind fun r_3 =>
    toEnd r_3.1 ((pLitF tab ty98 3 [0, 1, 2] [.str [115, 97, 109, 112, 108, 101], .str [100, 114, 111, 112], .str [116, 111, 111, 45, 108, 111, 110, 103]]).bind fun t64 =>
    (some (t0 : D)).bind fun t65 =>
    (R fn24 [t65, .int .i64 3] r_3.2.2).bind fun p66 =>
    (dIndexAddr tab ty98 t64 p66.1).bind fun t67 =>
    (dLoad tab p66.2 ty9 t67).bind fun t68 =>
    (dLoad tab p66.2 ty31 p9.1).bind fun t69 =>
    (dBuild tab ty74 [0, 1] [t68, t69]).bind fun t70 =>
    chk (dLoad tab r_3.2.2 ty31 p9.1 = some t69)
    (((dStore tab p66.2 ty74 p8.1 t70).bind fun h' => some ((.und : D), h')).bind fun p907 =>
    ((some (p8.1 : D)).bind fun p => (dLoad tab p907.2 ty74 p).bind fun d => (some ([] : List D)).bind fun ds => some (d :: ds)).bind fun ds => scope h p907.2 (mkRes ds))) fun x_1 => toEnd x_1 ((some (t0 : D)).bind fun t71 =>
  (R fn35 [t71] r_3.2.2).bind fun p72 =>
  (some (t0 : D)).bind fun t73 =>
  (R fn97 [t73] p72.2).bind fun p74 =>
  (dFieldAddr tab ty31 5 p9.1).bind fun t75 =>
  ((dStore tab p74.2 ty3 t75 p72.1).bind fun h' => some ((.und : D), h')).bind fun p905_2 =>
  (dFieldAddr tab ty31 6 p9.1).bind fun t76 =>
  ((dStore tab p905_2.2 ty3 t76 p74.1).bind fun h' => some ((.und : D), h')).bind fun p907_1 =>
  (pLitF tab ty98 4 [0, 1, 2, 3] [.str [116, 49], .str [116, 50], .str [], .str [49, 58, 50, 58, 48]]).bind fun t77 =>
  (some (t0 : D)).bind fun t78 =>
  (R fn24 [t78, .int .i64 4] p907_1.2).bind fun p79 =>
  (dIndexAddr tab ty98 t77 p79.1).bind fun t80 =>
  (dLoad tab p79.2 ty9 t80).bind fun t81 =>
  (pLitF tab ty98 2 [0, 1] [.str [109, 97, 105, 110], .str [100, 101, 98, 117, 103]]).bind fun t82 =>
  (some (t0 : D)).bind fun t83 =>
  (R fn24 [t83, .int .i64 2] p79.2).bind fun p84 =>
  (dIndexAddr tab ty98 t82 p84.1).bind fun t85 =>
  (dLoad tab p84.2 ty9 t85).bind fun t86 =>
  (dFieldAddr tab ty31 7 p9.1).bind fun t87 =>
  ((dStore tab p84.2 ty9 t87 t81).bind fun h' => some ((.und : D), h')).bind fun p911 =>
  chk (dLoad tab p84.2 ty9 t80 = some t81)
  (chk (dLoad tab p911.2 ty9 t85 = some t86)
  ((dFieldAddr tab ty31 8 p9.1).bind fun t88 =>
  ((dStore tab p911.2 ty9 t88 t86).bind fun h' => some ((.und : D), h')).bind fun p913 =>
  (some (t0 : D)).bind fun t89 =>
  (R fn98 [t89] p913.2).bind fun p90 =>
  (dFieldAddr tab ty31 9 p9.1).bind fun t91 =>
  ((dStore tab p90.2 ty29 t91 p90.1).bind fun h' => some ((.und : D), h')).bind fun p903 =>
  (dLoad tab p903.2 ty31 p9.1).bind fun t92 =>
  (dBuild tab ty74 [1] [t92]).bind fun t93 =>
  ((dStore tab p903.2 ty74 p8.1 t93).bind fun h' => some ((.und : D), h')).bind fun p902_1 =>
  ((some (p8.1 : D)).bind fun p => (dLoad tab p902_1.2 ty74 p).bind fun d => (some ([] : List D)).bind fun ds => some (d :: ds)).bind fun ds => scope h p902_1.2 (mkRes ds)))) fun x_2 => exEnd x_2 (((some (p8.1 : D)).bind fun p => (dLoad tab r_3.2.2 ty74 p).bind fun d => (some ([] : List D)).bind fun ds => some (d :: ds)).bind fun ds => scope h r_3.2.2 (mkRes ds)))
    ((some (t0 : D)).bind fun t71_1 =>
  (R fn35 [t71_1] p50.2).bind fun p72_1 =>
  (some (t0 : D)).bind fun t73_1 =>
  (R fn97 [t73_1] p72_1.2).bind fun p74_1 =>
  (dFieldAddr tab ty31 5 p9.1).bind fun t75_1 =>
  ((dStore tab p74_1.2 ty3 t75_1 p72_1.1).bind fun h' => some ((.und : D), h')).bind fun p905_3 =>
  (dFieldAddr tab ty31 6 p9.1).bind fun t76_1 =>
  ((dStore tab p905_3.2 ty3 t76_1 p74_1.1).bind fun h' => some ((.und : D), h')).bind fun p907_2 =>
  (pLitF tab ty98 4 [0, 1, 2, 3] [.str [116, 49], .str [116, 50], .str [], .str [49, 58, 50, 58, 48]]).bind fun t77_1 =>
  (some (t0 : D)).bind fun t78_1 =>
  (R fn24 [t78_1, .int .i64 4] p907_2.2).bind fun p79_1 =>
  (dIndexAddr tab ty98 t77_1 p79_1.1).bind fun t80_1 =>
  (dLoad tab p79_1.2 ty9 t80_1).bind fun t81_1 =>
  (pLitF tab ty98 2 [0, 1] [.str [109, 97, 105, 110], .str [100, 101, 98, 117, 103]]).bind fun t82_1 =>
  (some (t0 : D)).bind fun t83_1 =>
  (R fn24 [t83_1, .int .i64 2] p79_1.2).bind fun p84_1 =>
  (dIndexAddr tab ty98 t82_1 p84_1.1).bind fun t85_1 =>
  (dLoad tab p84_1.2 ty9 t85_1).bind fun t86_1 =>
  (dFieldAddr tab ty31 7 p9.1).bind fun t87_1 =>
  ((dStore tab p84_1.2 ty9 t87_1 t81_1).bind fun h' => some ((.und : D), h')).bind fun p911_1 =>
  chk (dLoad tab p84_1.2 ty9 t80_1 = some t81_1)
  (chk (dLoad tab p911_1.2 ty9 t85_1 = some t86_1)
  ((dFieldAddr tab ty31 8 p9.1).bind fun t88_1 =>
  ((dStore tab p911_1.2 ty9 t88_1 t86_1).bind fun h' => some ((.und : D), h')).bind fun p913_1 =>
  (some (t0 : D)).bind fun t89_1 =>
  (R fn98 [t89_1] p913_1.2).bind fun p90_1 =>
  (dFieldAddr tab ty31 9 p9.1).bind fun t91_1 =>
  ((dStore tab p90_1.2 ty29 t91_1 p90_1.1).bind fun h' => some ((.und : D), h')).bind fun p903_1 =>
  (dLoad tab p903_1.2 ty31 p9.1).bind fun t92_1 =>
  (dBuild tab ty74 [1] [t92_1]).bind fun t93_1 =>
  ((dStore tab p903_1.2 ty74 p8.1 t93_1).bind fun h' => some ((.und : D), h')).bind fun p902_2 =>
  ((some (p8.1 : D)).bind fun p => (dLoad tab p902_2.2 ty74 p).bind fun d => (some ([] : List D)).bind fun ds => some (d :: ds)).bind fun ds => scope h p902_2.2 (mkRes ds))))) fun x => exEnd x (((some (p8.1 : D)).bind fun p => (dLoad tab r_1.2.2 ty74 p).bind fun d => (some ([] : List D)).bind fun ds => some (d :: ds)).bind fun ds => scope h r_1.2.2 (mkRes ds))
theorem e84 (t0 : D) (t1 : D) (t2 : D) (t3 : D) (h : Hp) : R fn84 [t0, t1, t2, t3] h = F84 t0 t1 t2 t3 h :=
  (run_fn (X := X) (F := Fs) (fi := i29) (by kernel_rfl) _ _).trans (by kernel_rfl)
noncomputable def F57 (t0 : D) (h : Hp) : Option (D × Hp) :=
  (some (.bool false : D)).bind fun t2 =>
  (some (t0 : D)).bind fun t3 =>
  (dNilCheck tab t3).bind fun t4 =>
  (dFieldAddr tab ty101 1 t4).bind fun t5 =>
  (dLoad tab h ty3 t5).bind fun t6 =>
  (some (t0 : D)).bind fun t7 =>
  (dNilCheck tab t7).bind fun t8 =>
  (dFieldAddr tab ty101 0 t8).bind fun t9 =>
  (dLoad tab h ty22 t9).bind fun t10 =>
  (dLenT tab ty22 t10).bind fun t11 =>
  (dBin tab .lss ty3 t6 t11).bind fun t12 =>
  (some (t12 : D)).bind fun t2_1 =>
  ((some (t2_1 : D)).bind fun d => (some ([] : List D)).bind fun ds => some (d :: ds)).bind fun ds => some (mkRes ds, h)
theorem e57 (t0 : D) (h : Hp) : R fn57 [t0] h = F57 t0 h :=
  (run_fn (X := X) (F := Fs) (fi := i30) (by kernel_rfl) _ _).trans (by kernel_rfl)
/-- a loop: slots 2 3 4 5 14 25 32 35 -/
noncomputable def F1113_L0 (t1 : D) (ds : List D) (h_1 : Hp) : Option Out :=
    (some ((nth 1 ds) : D)).bind fun t10 =>
    (dFieldAddr tab ty1064 2 t1).bind fun t11 =>
    (dLoad tab h_1 ty113 t11).bind fun t12 =>
    (dLenT tab ty113 t12).bind fun t13 =>
    (dBin tab .lss ty3 t10 t13).bind fun t14 =>
    dIf t14
      ((dFieldAddr tab ty1064 2 t1).bind fun t17 =>
    (dLoad tab h_1 ty113 t17).bind fun t18 =>
    (some ((nth 1 ds) : D)).bind fun t19 =>
    (dIndexAddr tab ty113 t18 t19).bind fun t20 =>
    (dLoad tab h_1 ty74 t20).bind fun t21 =>
    (boxN 11 t21).bind fun t4 =>
    (dLoad tab h_1 ty74 t4).bind fun t22 =>
    (R fn1004 [t22] h_1).bind fun p23 =>
    (some (p23.1 : D)).bind fun t5 =>
    (some (t5 : D)).bind fun t24 =>
    (dBin tab .neq ty49 t24 (.int .i64 0)).bind fun t25 =>
    dIf t25
      ((some (t5 : D)).bind fun t26 =>
      (some (t26 : D)).bind fun t2_2 =>
      some (.ret, [t2_2, (nth 1 ds), t4, t5, t14, t25, (nth 6 ds), (nth 7 ds)], p23.2))
      ((dFieldAddr tab ty74 1 t4).bind fun t27 =>
    (dFieldAddr tab ty31 0 t27).bind fun t28 =>
    (dLoad tab p23.2 ty3 t28).bind fun t29 =>
    (dFieldAddr tab ty1064 0 t1).bind fun t30 =>
    (dLoad tab p23.2 ty3 t30).bind fun t31 =>
    (dBin tab .neq ty3 t29 t31).bind fun t32 =>
    dIf t32
      ((some (.int .i64 24 : D)).bind fun t2_3 =>
      some (.ret, [t2_3, (nth 1 ds), t4, t5, t14, t25, t32, (nth 7 ds)], p23.2))
      ((dFieldAddr tab ty74 0 t4).bind fun t33 =>
    (dLoad tab p23.2 ty9 t33).bind fun t34 =>
    (dBin tab .eql ty9 t34 (.str [42])).bind fun t35 =>
    dIf t35
      ((some (.int .i64 6 : D)).bind fun t2_4 =>
      some (.ret, [t2_4, (nth 1 ds), t4, t5, t14, t25, t32, t35], p23.2))
      ((some ((nth 1 ds) : D)).bind fun t15 =>
    (dBin tab .add ty3 t15 (.int .i64 1)).bind fun t16 =>
    (some (t16 : D)).bind fun t3_1 =>
    some (.nrm, [(nth 0 ds), t3_1, t4, t5, t14, t25, t32, t35], p23.2)))))
      (some ((.ext 0), [(nth 0 ds), (nth 1 ds), (nth 2 ds), (nth 3 ds), t14, (nth 5 ds), (nth 6 ds), (nth 7 ds)], h_1))
noncomputable def F1113 (t0 : D) (h : Hp) : Option (D × Hp) :=
  (pBoxF t0).bind fun t1 =>
  (some (.int .i64 0 : D)).bind fun t2 =>
  (dFieldAddr tab ty1064 2 t1).bind fun t6 =>
  (dLoad tab h ty113 t6).bind fun t7 =>
  (dLenT tab ty113 t7).bind fun t8 =>
  (dBin tab .gtr ty3 t8 (.int .i64 40)).bind fun t9 =>
  dIf t9
    ((some (.int .i64 4 : D)).bind fun t2_1 =>
    ((some (t2_1 : D)).bind fun d => (some ([] : List D)).bind fun ds => some (d :: ds)).bind fun ds => some (mkRes ds, h))
    ((some (.int .i64 0 : D)).bind fun t3 =>
  ((loopW (F1113_L0 t1) [t2, t3, .any, .any, .any, .any, .any, .any] h).bind fun r =>
    some ((unblk 0 r.1), [(nth 0 r.2.1), (nth 1 r.2.1), (nth 2 r.2.1), (nth 3 r.2.1), (nth 4 r.2.1), (nth 5 r.2.1), (nth 6 r.2.1), (nth 7 r.2.1)], r.2.2)).bind fun r_1 =>
  toEnd r_1.1 ((some (.int .i64 0 : D)).bind fun t2_5 =>
  ((some (t2_5 : D)).bind fun d => (some ([] : List D)).bind fun ds => some (d :: ds)).bind fun ds => some (mkRes ds, r_1.2.2)) fun x => exEnd x (((some ((nth 0 r_1.2.1) : D)).bind fun d => (some ([] : List D)).bind fun ds => some (d :: ds)).bind fun ds => some (mkRes ds, r_1.2.2)))
theorem e1113 (t0 : D) (h : Hp) : R fn1113 [t0] h = F1113 t0 h :=
  (run_fn (X := X) (F := Fs) (fi := i31) (by kernel_rfl) _ _).trans (by kernel_rfl)
/-- a loop: slots 0 7 11 -/
noncomputable def F1030_L0 (t1 : D) (ds : List D) (h_1 : Hp) : Option Out :=
    (some ((nth 1 ds) : D)).bind fun t10 =>
    (dBin tab .geq ty3 t10 (.int .i64 0)).bind fun t11 =>
    dIf t11
      ((some ((nth 0 ds) : D)).bind fun t14 =>
    (some (t1 : D)).bind fun t15 =>
    (some ((nth 1 ds) : D)).bind fun t16 =>
    (dBin tab .mul ty3 (.int .i64 8) t16).bind fun t17 =>
    (dBin tab .shr ty1029 t15 t17).bind fun t18 =>
    (dConv tab ty1029 ty5 t18).bind fun t19 =>
    (pLitF tab ty22 1 [0] [t19]).bind fun t20 =>
    (dAppend tab h_1 ty22 ty22 t14 t20).bind fun p21 =>
    (some (p21.1 : D)).bind fun t0_1 =>
    (some ((nth 1 ds) : D)).bind fun t12 =>
    (dBin tab .sub ty3 t12 (.int .i64 1)).bind fun t13 =>
    (some (t13 : D)).bind fun t7_1 =>
    some (.nrm, [t0_1, t7_1, t11], p21.2))
      (some ((.ext 0), [(nth 0 ds), (nth 1 ds), t11], h_1))
noncomputable def F1030 (t0 : D) (t1 : D) (t2 : D) (h : Hp) : Option (D × Hp) :=
  (some (.nils : D)).bind fun t6 =>
  (some (t2 : D)).bind fun t8 =>
  (dBin tab .sub ty3 t8 (.int .i64 1)).bind fun t9 =>
  (some (t9 : D)).bind fun t7 =>
  ((loopW (F1030_L0 t1) [t0, t7, .any] h).bind fun r =>
    some ((unblk 0 r.1), [(nth 0 r.2.1), (nth 1 r.2.1), (nth 2 r.2.1)], r.2.2)).bind fun r_1 =>
  toEnd r_1.1 ((some ((nth 0 r_1.2.1) : D)).bind fun t22 =>
  (some (t22 : D)).bind fun t6_1 =>
  ((some (t6_1 : D)).bind fun d => (some ([] : List D)).bind fun ds => some (d :: ds)).bind fun ds => some (mkRes ds, r_1.2.2)) fun x => exEnd x (((some (t6 : D)).bind fun d => (some ([] : List D)).bind fun ds => some (d :: ds)).bind fun ds => some (mkRes ds, r_1.2.2))
theorem e1030 (t0 : D) (t1 : D) (t2 : D) (h : Hp) : R fn1030 [t0, t1, t2] h = F1030 t0 t1 t2 h :=
  (run_fn (X := X) (F := Fs) (fi := i32) (by kernel_rfl) _ _).trans (by kernel_rfl)
noncomputable def F1114 (t0 : D) (h : Hp) : Option (D × Hp) :=
  (pBoxF t0).bind fun t1 =>
  (some (.nils : D)).bind fun t2 =>
  (some (.int .i64 0 : D)).bind fun t3 =>
  (dLoad tab h ty74 t1).bind fun t7 =>
  (R fn1004 [t7] h).bind fun p8 =>
  (some (p8.1 : D)).bind fun t4 =>
  (some (t4 : D)).bind fun t9 =>
  (dBin tab .neq ty49 t9 (.int .i64 0)).bind fun t10 =>
  dIf t10
    ((some (t4 : D)).bind fun t11 =>
    (some (.nils : D)).bind fun t2_1 =>
    (some (t11 : D)).bind fun t3_1 =>
    ((some (t2_1 : D)).bind fun d => ((some (t3_1 : D)).bind fun d => (some ([] : List D)).bind fun ds => some (d :: ds)).bind fun ds => some (d :: ds)).bind fun ds => scope h p8.2 (mkRes ds))
    ((dLoad tab p8.2 ty74 t1).bind fun t12 =>
  (R fn1115 [t12] p8.2).bind fun p13 =>
  (some (p13.1 : D)).bind fun t5 =>
  (some (t5 : D)).bind fun t14 =>
  (dLenT tab ty22 t14).bind fun t15 =>
  (dBin tab .add ty3 t15 (.int .i64 4)).bind fun t16 =>
  (dConv tab ty3 ty1029 t16).bind fun t17 =>
  (R fn1116 [.nils, t17, .int .i64 4] p13.2).bind fun p18 =>
  (some (t5 : D)).bind fun t19 =>
  (dAppend tab p18.2 ty22 ty22 p18.1 t19).bind fun p20 =>
  (some (p20.1 : D)).bind fun t6 =>
  (some (t6 : D)).bind fun t21 =>
  (some (t6 : D)).bind fun t22 =>
  (R fn1117 [t22] p20.2).bind fun p23 =>
  (R fn1116 [t21, p23.1, .int .i64 4] p23.2).bind fun p24 =>
  (some (p24.1 : D)).bind fun t2_2 =>
  (some (.int .i64 0 : D)).bind fun t3_2 =>
  ((some (t2_2 : D)).bind fun d => ((some (t3_2 : D)).bind fun d => (some ([] : List D)).bind fun ds => some (d :: ds)).bind fun ds => some (d :: ds)).bind fun ds => scope h p24.2 (mkRes ds))
theorem e1114 (t0 : D) (h : Hp) : R fn1114 [t0] h = F1114 t0 h :=
  (run_fn (X := X) (F := Fs) (fi := i33) (by kernel_rfl) _ _).trans (by kernel_rfl)
/-- a loop: slots 3 4 10 -/
noncomputable def F96_L0 (t0 : D) (ds : List D) (h_1 : Hp) : Option Out :=
    (some ((nth 1 ds) : D)).bind fun t9 =>
    (dBin tab .gtr ty3 t9 (.int .i64 0)).bind fun t10 =>
    dIf t10
      ((some ((nth 0 ds) : D)).bind fun t13 =>
    (pLitF tab ty98 5 [0, 1, 2, 3, 4] [.str [32], .str [32], .str [44, 32], .str [61], .str []]).bind fun t14 =>
    (some (t0 : D)).bind fun t15 =>
    (R fn24 [t15, .int .i64 5] h_1).bind fun p16 =>
    (dIndexAddr tab ty98 t14 p16.1).bind fun t17 =>
    (dLoad tab p16.2 ty9 t17).bind fun t18 =>
    (some (t0 : D)).bind fun t19 =>
    (R fn102 [t19] p16.2).bind fun p20 =>
    (dBin tab .add ty9 t18 p20.1).bind fun t21 =>
    (dBin tab .add ty9 t13 t21).bind fun t22 =>
    chk (dLoad tab p20.2 ty9 t17 = some t18)
    ((some (t22 : D)).bind fun t3_1 =>
    (some ((nth 1 ds) : D)).bind fun t11 =>
    (dBin tab .sub ty3 t11 (.int .i64 1)).bind fun t12 =>
    (some (t12 : D)).bind fun t4_1 =>
    some (.nrm, [t3_1, t4_1, t10], p20.2)))
      (some ((.ext 0), [(nth 0 ds), (nth 1 ds), t10], h_1))
noncomputable def F96 (t0 : D) (h : Hp) : Option (D × Hp) :=
  (some (.str [] : D)).bind fun t2 =>
  (some (t0 : D)).bind fun t5 =>
  (R fn102 [t5] h).bind fun p6 =>
  (some (p6.1 : D)).bind fun t3 =>
  (some (t0 : D)).bind fun t7 =>
  (R fn24 [t7, .int .i64 4] p6.2).bind fun p8 =>
  (some (p8.1 : D)).bind fun t4 =>
  ((loopW (F96_L0 t0) [t3, t4, .any] p8.2).bind fun r =>
    some ((unblk 0 r.1), [(nth 0 r.2.1), (nth 1 r.2.1), (nth 2 r.2.1)], r.2.2)).bind fun r_1 =>
  toEnd r_1.1 ((some ((nth 0 r_1.2.1) : D)).bind fun t23 =>
  (some (t23 : D)).bind fun t2_1 =>
  ((some (t2_1 : D)).bind fun d => (some ([] : List D)).bind fun ds => some (d :: ds)).bind fun ds => some (mkRes ds, r_1.2.2)) fun x => exEnd x (((some (t2 : D)).bind fun d => (some ([] : List D)).bind fun ds => some (d :: ds)).bind fun ds => some (mkRes ds, r_1.2.2))
theorem e96 (t0 : D) (h : Hp) : R fn96 [t0] h = F96 t0 h :=
  (run_fn (X := X) (F := Fs) (fi := i34) (by kernel_rfl) _ _).trans (by kernel_rfl)
noncomputable def F35 (t0 : D) (h : Hp) : Option (D × Hp) :=
  (some (.int .i64 0 : D)).bind fun t2 =>
  (some (t0 : D)).bind fun t3 =>
  (R fn24 [t3, .int .i64 4] h).bind fun p4 =>
  (dBin tab .eql ty3 p4.1 (.int .i64 0)).bind fun t6 =>
  (some (t6 : D)).bind fun t5 =>
  dIf t5
    ((some (t0 : D)).bind fun t7 =>
    (R fn24 [t7, .int .i64 40] p4.2).bind fun p8 =>
    (dBin tab .mul ty3 p8.1 (.int .i64 86400000)).bind fun t9 =>
    (some (t9 : D)).bind fun t2_1 =>
    ((some (t2_1 : D)).bind fun d => (some ([] : List D)).bind fun ds => some (d :: ds)).bind fun ds => some (mkRes ds, p8.2))
    ((dBin tab .eql ty3 p4.1 (.int .i64 1)).bind fun t11 =>
    (some (t11 : D)).bind fun t10 =>
    dIf t10
      ((some (t0 : D)).bind fun t12 =>
      (R fn24 [t12, .int .i64 3] p4.2).bind fun p13 =>
      (dBin tab .mul ty3 p13.1 (.int .i64 86400000)).bind fun t14 =>
      (dBin tab .sub ty3 (.int .i64 253402300799999) t14).bind fun t15 =>
      (some (t15 : D)).bind fun t2_2 =>
      ((some (t2_2 : D)).bind fun d => (some ([] : List D)).bind fun ds => some (d :: ds)).bind fun ds => some (mkRes ds, p13.2))
      ((some (t0 : D)).bind fun t16 =>
  (R fn24 [t16, .int .i64 60] p4.2).bind fun p17 =>
  (dBin tab .add ty3 (.int .i64 1000) p17.1).bind fun t18 =>
  (some (t18 : D)).bind fun t2_3 =>
  ((some (t2_3 : D)).bind fun d => (some ([] : List D)).bind fun ds => some (d :: ds)).bind fun ds => some (mkRes ds, p17.2)))
theorem e35 (t0 : D) (h : Hp) : R fn35 [t0] h = F35 t0 h :=
  (run_fn (X := X) (F := Fs) (fi := i35) (by kernel_rfl) _ _).trans (by kernel_rfl)
noncomputable def F97 (t0 : D) (h : Hp) : Option (D × Hp) :=
  (some (.int .i64 0 : D)).bind fun t2 =>
  (pLitF tab ty82 6 [0, 1, 2, 3, 4, 5] [.int .i64 1, .int .i64 1, .int .i64 2, .int .i64 5, .int .i64 10, .int .i64 5040]).bind fun t3 =>
  (some (t0 : D)).bind fun t4 =>
  (R fn24 [t4, .int .i64 6] h).bind fun p5 =>
  (dIndexAddr tab ty82 t3 p5.1).bind fun t6 =>
  (dLoad tab p5.2 ty3 t6).bind fun t7 =>
  (some (t7 : D)).bind fun t2_1 =>
  ((some (t2_1 : D)).bind fun d => (some ([] : List D)).bind fun ds => some (d :: ds)).bind fun ds => some (mkRes ds, p5.2)
theorem e97 (t0 : D) (h : Hp) : R fn97 [t0] h = F97 t0 h :=
  (run_fn (X := X) (F := Fs) (fi := i36) (by kernel_rfl) _ _).trans (by kernel_rfl)
/-- a loop: slots 3 5 10 15 -/
noncomputable def F98_L0 (t0 : D) (t4 : D) (ds : List D) (h_1 : Hp) : Option Out :=
    (some ((nth 1 ds) : D)).bind fun t7 =>
    (some (t4 : D)).bind fun t8 =>
    (dLenT tab ty98 t8).bind fun t9 =>
    (dBin tab .lss ty3 t7 t9).bind fun t10 =>
    dIf t10
      ((some (t0 : D)).bind fun t13 =>
    (R fn24 [t13, .int .i64 3] h_1).bind fun p14 =>
    (dBin tab .eql ty3 p14.1 (.int .i64 1)).bind fun t15 =>
    (dIf t15
      ((some ((nth 0 ds) : D)).bind fun t16 =>
      (some (t4 : D)).bind fun t17 =>
      (some ((nth 1 ds) : D)).bind fun t18 =>
      (dIndexAddr tab ty98 t17 t18).bind fun t19 =>
      (dLoad tab p14.2 ty9 t19).bind fun t20 =>
      (some (t0 : D)).bind fun t21 =>
      (R fn33 [t21] p14.2).bind fun p22 =>
      (dBuild tab ty109 [0, 1] [t20, p22.1]).bind fun t23 =>
      (pLitF tab ty29 1 [0] [t23]).bind fun t24 =>
      (dAppend tab p22.2 ty29 ty29 t16 t24).bind fun p25 =>
      chk (dLoad tab p22.2 ty9 t19 = some t20)
      ((some (p25.1 : D)).bind fun t3_1 =>
      some (.nrm, [t3_1], p25.2)))
      (some (.nrm, [(nth 0 ds)], p14.2))).bind fun r_1 =>
    toEnd (unblk 1 r_1.1) ((some ((nth 1 ds) : D)).bind fun t11 =>
    (dBin tab .add ty3 t11 (.int .i64 1)).bind fun t12 =>
    (some (t12 : D)).bind fun t5_1 =>
    some (.nrm, [(nth 0 r_1.2.1), t5_1, t10, t15], r_1.2.2)) fun x => some (x, [(nth 0 r_1.2.1), (nth 1 ds), t10, t15], r_1.2.2))
      (some ((.ext 0), [(nth 0 ds), (nth 1 ds), t10, (nth 3 ds)], h_1))
noncomputable def F98 (t0 : D) (h : Hp) : Option (D × Hp) :=
  (some (.nils : D)).bind fun t2 =>
  (some (.nils : D)).bind fun t3 =>
  (pLitF tab ty98 4 [0, 1, 2, 3] [.str [99, 111, 100, 101], .str [108, 101, 118, 101, 108], .str [109, 115], .str [117, 115, 101, 114]]).bind fun t6 =>
  (some (t6 : D)).bind fun t4 =>
  (some (.int .i64 0 : D)).bind fun t5 =>
  ((loopW (F98_L0 t0 t4) [t3, t5, .any, .any] h).bind fun r =>
    some ((unblk 0 r.1), [(nth 0 r.2.1), (nth 1 r.2.1), (nth 2 r.2.1), (nth 3 r.2.1)], r.2.2)).bind fun r_2 =>
  toEnd r_2.1 ((some ((nth 0 r_2.2.1) : D)).bind fun t26 =>
  (some (t26 : D)).bind fun t2_1 =>
  ((some (t2_1 : D)).bind fun d => (some ([] : List D)).bind fun ds => some (d :: ds)).bind fun ds => scope h r_2.2.2 (mkRes ds)) fun x_1 => exEnd x_1 (((some (t2 : D)).bind fun d => (some ([] : List D)).bind fun ds => some (d :: ds)).bind fun ds => scope h r_2.2.2 (mkRes ds))
theorem e98 (t0 : D) (h : Hp) : R fn98 [t0] h = F98 t0 h :=
  (run_fn (X := X) (F := Fs) (fi := i37) (by kernel_rfl) _ _).trans (by kernel_rfl)
/-- a loop: slots 2 6 61 70 -/
noncomputable def F1004_L0 (t3 : D) (ds : List D) (h_1 : Hp) : Option Out :=
    (some ((nth 1 ds) : D)).bind fun t57 =>
    (dFieldAddr tab ty31 4 t3).bind fun t58 =>
    (dLoad tab h_1 ty28 t58).bind fun t59 =>
    (dLenT tab ty28 t59).bind fun t60 =>
    (dBin tab .lss ty3 t57 t60).bind fun t61 =>
    dIf t61
      ((dFieldAddr tab ty31 4 t3).bind fun t64 =>
    (dLoad tab h_1 ty28 t64).bind fun t65 =>
    (some ((nth 1 ds) : D)).bind fun t66 =>
    (dIndexAddr tab ty28 t65 t66).bind fun t67 =>
    (dFieldAddr tab ty78 2 t67).bind fun t68 =>
    (dLoad tab h_1 ty9 t68).bind fun t69 =>
    (dBin tab .neq ty9 t69 (.str [])).bind fun t70 =>
    dIf t70
      ((some (.int .i64 19 : D)).bind fun t2_6 =>
      some (.ret, [t2_6, (nth 1 ds), t61, t70], h_1))
      ((some ((nth 1 ds) : D)).bind fun t62 =>
    (dBin tab .add ty3 t62 (.int .i64 1)).bind fun t63 =>
    (some (t63 : D)).bind fun t6_1 =>
    some (.nrm, [(nth 0 ds), t6_1, t61, t70], h_1)))
      (some ((.ext 0), [(nth 0 ds), (nth 1 ds), t61, (nth 3 ds)], h_1))
noncomputable def F1004 (t0 : D) (h : Hp) : Option (D × Hp) :=
  (pBoxF t0).bind fun t1 =>
  (some (.int .i64 0 : D)).bind fun t2 =>
  (dFieldAddr tab ty74 0 t1).bind fun t7 =>
  (dLoad tab h ty9 t7).bind fun t8 =>
  (dBin tab .eql ty9 t8 (.str [])).bind fun t9 =>
  dIf t9
    ((dFieldAddr tab ty74 1 t1).bind fun t10 =>
    (dLoad tab h ty31 t10).bind fun t11 =>
    (R fn1010 [t11] h).bind fun p12 =>
    (some (p12.1 : D)).bind fun t2_1 =>
    ((some (t2_1 : D)).bind fun d => (some ([] : List D)).bind fun ds => some (d :: ds)).bind fun ds => some (mkRes ds, p12.2))
    ((dFieldAddr tab ty74 0 t1).bind fun t13 =>
  (dLoad tab h ty9 t13).bind fun t14 =>
  (dLenT tab ty9 t14).bind fun t15 =>
  (dBin tab .gtr ty3 t15 (.int .i64 32)).bind fun t16 =>
  dIf t16
    ((some (.int .i64 3 : D)).bind fun t2_2 =>
    ((some (t2_2 : D)).bind fun d => (some ([] : List D)).bind fun ds => some (d :: ds)).bind fun ds => some (mkRes ds, h))
    ((dFieldAddr tab ty74 1 t1).bind fun t17 =>
  (dLoad tab h ty31 t17).bind fun t18 =>
  (boxN 10 t18).bind fun t3 =>
  (dLoad tab h ty31 t3).bind fun t19 =>
  (R fn1011 [t19] h).bind fun p20 =>
  (some (p20.1 : D)).bind fun t4 =>
  (some (t4 : D)).bind fun t21 =>
  (dBin tab .neq ty49 t21 (.int .i64 0)).bind fun t22 =>
  dIf t22
    ((some (t4 : D)).bind fun t23 =>
    (some (t23 : D)).bind fun t2_3 =>
    ((some (t2_3 : D)).bind fun d => (some ([] : List D)).bind fun ds => some (d :: ds)).bind fun ds => some (mkRes ds, p20.2))
    ((dLoad tab p20.2 ty31 t3).bind fun t24 =>
  (R fn1012 [t24, .int .i64 20000] p20.2).bind fun p25 =>
  (some (p25.1 : D)).bind fun t5 =>
  (some (t5 : D)).bind fun t26 =>
  (dBin tab .neq ty49 t26 (.int .i64 0)).bind fun t27 =>
  (some (t27 : D)).bind fun t28 =>
  (gd t28 true (some (t5 : D))).bind fun t29 =>
  (gd t28 true (dBin tab .neq ty49 t29 (.int .i64 3))).bind fun t30 =>
  (dPick t28 t30 (.bool false)).bind fun t31 =>
  dIf t31
    ((some (t5 : D)).bind fun t32 =>
    (some (t32 : D)).bind fun t2_4 =>
    ((some (t2_4 : D)).bind fun d => (some ([] : List D)).bind fun ds => some (d :: ds)).bind fun ds => some (mkRes ds, p25.2))
    ((dFieldAddr tab ty31 5 t3).bind fun t33 =>
  (dLoad tab p25.2 ty3 t33).bind fun t34 =>
  (dBin tab .neq ty3 t34 (.int .i64 0)).bind fun t35 =>
  (some (t35 : D)).bind fun t36 =>
  (gd t36 false (dFieldAddr tab ty31 6 t3)).bind fun t37 =>
  (gd t36 false (dLoad tab p25.2 ty3 t37)).bind fun t38 =>
  (gd t36 false (dBin tab .neq ty3 t38 (.int .i64 0))).bind fun t39 =>
  (dPick t36 (.bool true) t39).bind fun t40 =>
  (some (t40 : D)).bind fun t41 =>
  (gd t41 false (dFieldAddr tab ty31 7 t3)).bind fun t42 =>
  (gd t41 false (dLoad tab p25.2 ty9 t42)).bind fun t43 =>
  (gd t41 false (dBin tab .neq ty9 t43 (.str []))).bind fun t44 =>
  (dPick t41 (.bool true) t44).bind fun t45 =>
  (some (t45 : D)).bind fun t46 =>
  (gd t46 false (dFieldAddr tab ty31 8 t3)).bind fun t47 =>
  (gd t46 false (dLoad tab p25.2 ty9 t47)).bind fun t48 =>
  (gd t46 false (dBin tab .neq ty9 t48 (.str []))).bind fun t49 =>
  (dPick t46 (.bool true) t49).bind fun t50 =>
  (some (t50 : D)).bind fun t51 =>
  (gd t51 false (dFieldAddr tab ty31 9 t3)).bind fun t52 =>
  (gd t51 false (dLoad tab p25.2 ty29 t52)).bind fun t53 =>
  (gd t51 false (dLenT tab ty29 t53)).bind fun t54 =>
  (gd t51 false (dBin tab .neq ty3 t54 (.int .i64 0))).bind fun t55 =>
  (dPick t51 (.bool true) t55).bind fun t56 =>
  dIf t56
    ((some (.int .i64 19 : D)).bind fun t2_5 =>
    ((some (t2_5 : D)).bind fun d => (some ([] : List D)).bind fun ds => some (d :: ds)).bind fun ds => some (mkRes ds, p25.2))
    ((some (.int .i64 0 : D)).bind fun t6 =>
  ((loopW (F1004_L0 t3) [t2, t6, .any, .any] p25.2).bind fun r =>
    some ((unblk 0 r.1), [(nth 0 r.2.1), (nth 1 r.2.1), (nth 2 r.2.1), (nth 3 r.2.1)], r.2.2)).bind fun r_1 =>
  toEnd r_1.1 ((some (.int .i64 0 : D)).bind fun t2_7 =>
  ((some (t2_7 : D)).bind fun d => (some ([] : List D)).bind fun ds => some (d :: ds)).bind fun ds => some (mkRes ds, r_1.2.2)) fun x => exEnd x (((some ((nth 0 r_1.2.1) : D)).bind fun d => (some ([] : List D)).bind fun ds => some (d :: ds)).bind fun ds => some (mkRes ds, r_1.2.2)))))))
theorem e1004 (t0 : D) (h : Hp) : R fn1004 [t0] h = F1004 t0 h :=
  (run_fn (X := X) (F := Fs) (fi := i38) (by kernel_rfl) _ _).trans (by kernel_rfl)
/-- a loop: slots 4 5 35 -/
noncomputable def F1115_L0 (t3 : D) (ds : List D) (h_1 : Hp) : Option Out :=
    (some ((nth 1 ds) : D)).bind fun t31 =>
    (dFieldAddr tab ty31 4 t3).bind fun t32 =>
    (dLoad tab h_1 ty28 t32).bind fun t33 =>
    (dLenT tab ty28 t33).bind fun t34 =>
    (dBin tab .lss ty3 t31 t34).bind fun t35 =>
    dIf t35
      ((some ((nth 0 ds) : D)).bind fun t38 =>
    (dFieldAddr tab ty31 4 t3).bind fun t39 =>
    (dLoad tab h_1 ty28 t39).bind fun t40 =>
    (some ((nth 1 ds) : D)).bind fun t41 =>
    (dIndexAddr tab ty28 t40 t41).bind fun t42 =>
    (dFieldAddr tab ty78 0 t42).bind fun t43 =>
    (dLoad tab h_1 ty3 t43).bind fun t44 =>
    (R fn1119 [t38, t44] h_1).bind fun p45 =>
    (dFieldAddr tab ty31 4 t3).bind fun t46 =>
    (dLoad tab p45.2 ty28 t46).bind fun t47 =>
    (some ((nth 1 ds) : D)).bind fun t48 =>
    (dIndexAddr tab ty28 t47 t48).bind fun t49 =>
    (dFieldAddr tab ty78 1 t49).bind fun t50 =>
    (dLoad tab p45.2 ty3 t50).bind fun t51 =>
    (R fn1119 [p45.1, t51] p45.2).bind fun p52 =>
    (dFieldAddr tab ty31 4 t3).bind fun t53 =>
    (dLoad tab p52.2 ty28 t53).bind fun t54 =>
    (some ((nth 1 ds) : D)).bind fun t55 =>
    (dIndexAddr tab ty28 t54 t55).bind fun t56 =>
    (dFieldAddr tab ty78 2 t56).bind fun t57 =>
    (dLoad tab p52.2 ty9 t57).bind fun t58 =>
    (R fn1118 [p52.1, t58] p52.2).bind fun p59 =>
    chk (dLoad tab h_1 ty28 t46 = some t47)
    (chk (dLoad tab h_1 ty3 t50 = some t51)
    (chk (dLoad tab h_1 ty28 t53 = some t54)
    (chk (dLoad tab p45.2 ty28 t53 = some t54)
    (chk (dLoad tab h_1 ty9 t57 = some t58)
    (chk (dLoad tab p45.2 ty9 t57 = some t58)
    ((some (p59.1 : D)).bind fun t4_3 =>
    (some ((nth 1 ds) : D)).bind fun t36 =>
    (dBin tab .add ty3 t36 (.int .i64 1)).bind fun t37 =>
    (some (t37 : D)).bind fun t5_1 =>
    some (.nrm, [t4_3, t5_1, t35], p59.2))))))))
      (some ((.ext 0), [(nth 0 ds), (nth 1 ds), t35], h_1))
/-- a loop: slots 4 6 83 -/
noncomputable def F1115_L1 (t3 : D) (ds_1 : List D) (h_2 : Hp) : Option Out :=
    (some ((nth 1 ds_1) : D)).bind fun t79 =>
    (dFieldAddr tab ty31 9 t3).bind fun t80 =>
    (dLoad tab h_2 ty29 t80).bind fun t81 =>
    (dLenT tab ty29 t81).bind fun t82 =>
    (dBin tab .lss ty3 t79 t82).bind fun t83 =>
    dIf t83
      ((some ((nth 0 ds_1) : D)).bind fun t86 =>
    (dFieldAddr tab ty31 9 t3).bind fun t87 =>
    (dLoad tab h_2 ty29 t87).bind fun t88 =>
    (some ((nth 1 ds_1) : D)).bind fun t89 =>
    (dIndexAddr tab ty29 t88 t89).bind fun t90 =>
    (dFieldAddr tab ty109 0 t90).bind fun t91 =>
    (dLoad tab h_2 ty9 t91).bind fun t92 =>
    (R fn1118 [t86, t92] h_2).bind fun p93 =>
    (dFieldAddr tab ty31 9 t3).bind fun t94 =>
    (dLoad tab p93.2 ty29 t94).bind fun t95 =>
    (some ((nth 1 ds_1) : D)).bind fun t96 =>
    (dIndexAddr tab ty29 t95 t96).bind fun t97 =>
    (dFieldAddr tab ty109 1 t97).bind fun t98 =>
    (dLoad tab p93.2 ty9 t98).bind fun t99 =>
    (R fn1118 [p93.1, t99] p93.2).bind fun p100 =>
    chk (dLoad tab h_2 ty29 t94 = some t95)
    (chk (dLoad tab h_2 ty9 t98 = some t99)
    ((some (p100.1 : D)).bind fun t4_6 =>
    (some ((nth 1 ds_1) : D)).bind fun t84 =>
    (dBin tab .add ty3 t84 (.int .i64 1)).bind fun t85 =>
    (some (t85 : D)).bind fun t6_1 =>
    some (.nrm, [t4_6, t6_1, t83], p100.2))))
      (some ((.ext 2), [(nth 0 ds_1), (nth 1 ds_1), t83], h_2))
noncomputable def F1115 (t0 : D) (h : Hp) : Option (D × Hp) :=
  (pBoxF t0).bind fun t1 =>
  (some (.nils : D)).bind fun t2 =>
  (dFieldAddr tab ty74 1 t1).bind fun t7 =>
  (dLoad tab h ty31 t7).bind fun t8 =>
  (boxN 10 t8).bind fun t3 =>
  (dFieldAddr tab ty74 0 t1).bind fun t9 =>
  (dLoad tab h ty9 t9).bind fun t10 =>
  (R fn1118 [.nils, t10] h).bind fun p11 =>
  (some (p11.1 : D)).bind fun t4 =>
  (some (t4 : D)).bind fun t12 =>
  (dFieldAddr tab ty31 0 t3).bind fun t13 =>
  (dLoad tab p11.2 ty3 t13).bind fun t14 =>
  (R fn1119 [t12, t14] p11.2).bind fun p15 =>
  (dFieldAddr tab ty31 1 t3).bind fun t16 =>
  (dLoad tab p15.2 ty3 t16).bind fun t17 =>
  (R fn1119 [p15.1, t17] p15.2).bind fun p18 =>
  (dFieldAddr tab ty31 2 t3).bind fun t19 =>
  (dLoad tab p18.2 ty3 t19).bind fun t20 =>
  (R fn1119 [p18.1, t20] p18.2).bind fun p21 =>
  (dFieldAddr tab ty31 3 t3).bind fun t22 =>
  (dLoad tab p21.2 ty3 t22).bind fun t23 =>
  (R fn1119 [p21.1, t23] p21.2).bind fun p24 =>
  chk (dLoad tab p11.2 ty3 t16 = some t17)
  (chk (dLoad tab p11.2 ty3 t19 = some t20)
  (chk (dLoad tab p15.2 ty3 t19 = some t20)
  (chk (dLoad tab p11.2 ty3 t22 = some t23)
  (chk (dLoad tab p15.2 ty3 t22 = some t23)
  (chk (dLoad tab p18.2 ty3 t22 = some t23)
  ((some (p24.1 : D)).bind fun t4_1 =>
  (some (t4_1 : D)).bind fun t25 =>
  (dFieldAddr tab ty31 4 t3).bind fun t26 =>
  (dLoad tab p24.2 ty28 t26).bind fun t27 =>
  (dLenT tab ty28 t27).bind fun t28 =>
  (dConv tab ty3 ty1029 t28).bind fun t29 =>
  (R fn1116 [t25, t29, .int .i64 4] p24.2).bind fun p30 =>
  (some (p30.1 : D)).bind fun t4_2 =>
  (some (.int .i64 0 : D)).bind fun t5 =>
  ((loopW (F1115_L0 t3) [t4_2, t5, .any] p30.2).bind fun r =>
    some ((unblk 0 r.1), [(nth 0 r.2.1), (nth 1 r.2.1), (nth 2 r.2.1)], r.2.2)).bind fun r_1 =>
  toEnd r_1.1 ((some ((nth 0 r_1.2.1) : D)).bind fun t60 =>
  (dFieldAddr tab ty31 5 t3).bind fun t61 =>
  (dLoad tab r_1.2.2 ty3 t61).bind fun t62 =>
  (R fn1119 [t60, t62] r_1.2.2).bind fun p63 =>
  (dFieldAddr tab ty31 6 t3).bind fun t64 =>
  (dLoad tab p63.2 ty3 t64).bind fun t65 =>
  (R fn1119 [p63.1, t65] p63.2).bind fun p66 =>
  (dFieldAddr tab ty31 7 t3).bind fun t67 =>
  (dLoad tab p66.2 ty9 t67).bind fun t68 =>
  (R fn1118 [p66.1, t68] p66.2).bind fun p69 =>
  (dFieldAddr tab ty31 8 t3).bind fun t70 =>
  (dLoad tab p69.2 ty9 t70).bind fun t71 =>
  (R fn1118 [p69.1, t71] p69.2).bind fun p72 =>
  chk (dLoad tab r_1.2.2 ty3 t64 = some t65)
  (chk (dLoad tab r_1.2.2 ty9 t67 = some t68)
  (chk (dLoad tab p63.2 ty9 t67 = some t68)
  (chk (dLoad tab r_1.2.2 ty9 t70 = some t71)
  (chk (dLoad tab p63.2 ty9 t70 = some t71)
  (chk (dLoad tab p66.2 ty9 t70 = some t71)
  ((some (p72.1 : D)).bind fun t4_4 =>
  (some (t4_4 : D)).bind fun t73 =>
  (dFieldAddr tab ty31 9 t3).bind fun t74 =>
  (dLoad tab p72.2 ty29 t74).bind fun t75 =>
  (dLenT tab ty29 t75).bind fun t76 =>
  (dConv tab ty3 ty1029 t76).bind fun t77 =>
  (R fn1116 [t73, t77, .int .i64 4] p72.2).bind fun p78 =>
  (some (p78.1 : D)).bind fun t4_5 =>
  (some (.int .i64 0 : D)).bind fun t6 =>
  ((loopW (F1115_L1 t3) [t4_5, t6, .any] p78.2).bind fun r_2 =>
    some ((unblk 2 r_2.1), [(nth 0 r_2.2.1), (nth 1 r_2.2.1), (nth 2 r_2.2.1)], r_2.2.2)).bind fun r_3 =>
  toEnd r_3.1 ((some ((nth 0 r_3.2.1) : D)).bind fun t101 =>
  (some (t101 : D)).bind fun t2_1 =>
  ((some (t2_1 : D)).bind fun d => (some ([] : List D)).bind fun ds => some (d :: ds)).bind fun ds => some (mkRes ds, r_3.2.2)) fun x_1 => exEnd x_1 (((some (t2 : D)).bind fun d => (some ([] : List D)).bind fun ds => some (d :: ds)).bind fun ds => some (mkRes ds, r_3.2.2))))))))) fun x => exEnd x (((some (t2 : D)).bind fun d => (some ([] : List D)).bind fun ds => some (d :: ds)).bind fun ds => some (mkRes ds, r_1.2.2))))))))
theorem e1115 (t0 : D) (h : Hp) : R fn1115 [t0] h = F1115 t0 h :=
  (run_fn (X := X) (F := Fs) (fi := i39) (by kernel_rfl) _ _).trans (by kernel_rfl)
/-- a loop: slots 0 7 11 -/
noncomputable def F1116_L0 (t1 : D) (ds : List D) (h_1 : Hp) : Option Out :=
    (some ((nth 1 ds) : D)).bind fun t10 =>
    (dBin tab .geq ty3 t10 (.int .i64 0)).bind fun t11 =>
    dIf t11
      ((some ((nth 0 ds) : D)).bind fun t14 =>
    (some (t1 : D)).bind fun t15 =>
    (some ((nth 1 ds) : D)).bind fun t16 =>
    (dBin tab .mul ty3 (.int .i64 8) t16).bind fun t17 =>
    (dConv tab ty3 ty134 t17).bind fun t18 =>
    (dBin tab .shr ty1029 t15 t18).bind fun t19 =>
    (dConv tab ty1029 ty5 t19).bind fun t20 =>
    (pLitF tab ty22 1 [0] [t20]).bind fun t21 =>
    (dAppend tab h_1 ty22 ty22 t14 t21).bind fun p22 =>
    (some (p22.1 : D)).bind fun t0_1 =>
    (some ((nth 1 ds) : D)).bind fun t12 =>
    (dBin tab .sub ty3 t12 (.int .i64 1)).bind fun t13 =>
    (some (t13 : D)).bind fun t7_1 =>
    some (.nrm, [t0_1, t7_1, t11], p22.2))
      (some ((.ext 0), [(nth 0 ds), (nth 1 ds), t11], h_1))
noncomputable def F1116 (t0 : D) (t1 : D) (t2 : D) (h : Hp) : Option (D × Hp) :=
  (some (.nils : D)).bind fun t6 =>
  (some (t2 : D)).bind fun t8 =>
  (dBin tab .sub ty3 t8 (.int .i64 1)).bind fun t9 =>
  (some (t9 : D)).bind fun t7 =>
  ((loopW (F1116_L0 t1) [t0, t7, .any] h).bind fun r =>
    some ((unblk 0 r.1), [(nth 0 r.2.1), (nth 1 r.2.1), (nth 2 r.2.1)], r.2.2)).bind fun r_1 =>
  toEnd r_1.1 ((some ((nth 0 r_1.2.1) : D)).bind fun t23 =>
  (some (t23 : D)).bind fun t6_1 =>
  ((some (t6_1 : D)).bind fun d => (some ([] : List D)).bind fun ds => some (d :: ds)).bind fun ds => some (mkRes ds, r_1.2.2)) fun x => exEnd x (((some (t6 : D)).bind fun d => (some ([] : List D)).bind fun ds => some (d :: ds)).bind fun ds => some (mkRes ds, r_1.2.2))
theorem e1116 (t0 : D) (t1 : D) (t2 : D) (h : Hp) : R fn1116 [t0, t1, t2] h = F1116 t0 t1 t2 h :=
  (run_fn (X := X) (F := Fs) (fi := i40) (by kernel_rfl) _ _).trans (by kernel_rfl)
/-- a loop: slots 3 4 8 -/
noncomputable def F1117_L0 (t0 : D) (ds : List D) (h_1 : Hp) : Option Out :=
    (some ((nth 1 ds) : D)).bind fun t5 =>
    (some (t0 : D)).bind fun t6 =>
    (dLenT tab ty22 t6).bind fun t7 =>
    (dBin tab .lss ty3 t5 t7).bind fun t8 =>
    dIf t8
      ((some ((nth 0 ds) : D)).bind fun t11 =>
    (dBin tab .mul ty1029 t11 (.int .u64 31)).bind fun t12 =>
    (some (t0 : D)).bind fun t13 =>
    (some ((nth 1 ds) : D)).bind fun t14 =>
    (dIndexAddr tab ty22 t13 t14).bind fun t15 =>
    (dLoad tab h_1 ty5 t15).bind fun t16 =>
    (dConv tab ty5 ty1029 t16).bind fun t17 =>
    (dBin tab .add ty1029 t12 t17).bind fun t18 =>
    (dBin tab .rem ty1029 t18 (.int .u64 4294967291)).bind fun t19 =>
    (some (t19 : D)).bind fun t3_1 =>
    (some ((nth 1 ds) : D)).bind fun t9 =>
    (dBin tab .add ty3 t9 (.int .i64 1)).bind fun t10 =>
    (some (t10 : D)).bind fun t4_1 =>
    some (.nrm, [t3_1, t4_1, t8], h_1))
      (some ((.ext 0), [(nth 0 ds), (nth 1 ds), t8], h_1))
noncomputable def F1117 (t0 : D) (h : Hp) : Option (D × Hp) :=
  (some (.int .u64 0 : D)).bind fun t2 =>
  (some (.int .u64 1 : D)).bind fun t3 =>
  (some (.int .i64 0 : D)).bind fun t4 =>
  ((loopW (F1117_L0 t0) [t3, t4, .any] h).bind fun r =>
    some ((unblk 0 r.1), [(nth 0 r.2.1), (nth 1 r.2.1), (nth 2 r.2.1)], r.2.2)).bind fun r_1 =>
  toEnd r_1.1 ((some ((nth 0 r_1.2.1) : D)).bind fun t20 =>
  (some (t20 : D)).bind fun t2_1 =>
  ((some (t2_1 : D)).bind fun d => (some ([] : List D)).bind fun ds => some (d :: ds)).bind fun ds => some (mkRes ds, r_1.2.2)) fun x => exEnd x (((some (t2 : D)).bind fun d => (some ([] : List D)).bind fun ds => some (d :: ds)).bind fun ds => some (mkRes ds, r_1.2.2))
theorem e1117 (t0 : D) (h : Hp) : R fn1117 [t0] h = F1117 t0 h :=
  (run_fn (X := X) (F := Fs) (fi := i41) (by kernel_rfl) _ _).trans (by kernel_rfl)
noncomputable def F102 (t0 : D) (h : Hp) : Option (D × Hp) :=
  (some (.str [] : D)).bind fun t2 =>
  (pLitF tab ty98 14 [0, 1, 2, 3, 4, 5, 6, 7, 8, 9, 10, 11, 12, 13] [.str [103, 101, 116], .str [101, 114, 114, 111, 114], .str [119, 97, 114, 110], .str [97, 49], .str [117, 115, 101, 114, 95, 55], .str [120], .str [84, 105, 109, 101, 111, 117, 116], .str [50, 48, 48], .str [71, 69, 84], .str [101, 114, 114, 111], .str [122], .str [], .str [255], .str [97, 46, 98]]).bind fun t4 =>
  (some (t4 : D)).bind fun t3 =>
  (some (t3 : D)).bind fun t5 =>
  (some (t0 : D)).bind fun t6 =>
  (some (t3 : D)).bind fun t7 =>
  (dLenT tab ty98 t7).bind fun t8 =>
  (R fn24 [t6, t8] h).bind fun p9 =>
  (dIndexAddr tab ty98 t5 p9.1).bind fun t10 =>
  (dLoad tab p9.2 ty9 t10).bind fun t11 =>
  (some (t11 : D)).bind fun t2_1 =>
  ((some (t2_1 : D)).bind fun d => (some ([] : List D)).bind fun ds => some (d :: ds)).bind fun ds => some (mkRes ds, p9.2)
theorem e102 (t0 : D) (h : Hp) : R fn102 [t0] h = F102 t0 h :=
  (run_fn (X := X) (F := Fs) (fi := i42) (by kernel_rfl) _ _).trans (by kernel_rfl)
noncomputable def F33 (t0 : D) (h : Hp) : Option (D × Hp) :=
  (some (.str [] : D)).bind fun t2 =>
  (pLitF tab ty98 11 [0, 1, 2, 3, 4, 5, 6, 7, 8, 9, 10] [.str [119, 97, 114, 110], .str [105, 110, 102, 111], .str [55], .str [45, 51], .str [51, 49], .str [], .str [120, 32, 121], .str [57, 57, 57, 57, 57, 57, 57, 57, 57, 57, 57, 57, 57, 57, 57, 57, 57, 57], .str [49, 48, 48, 48, 48, 48, 48, 48, 48, 48, 48, 48, 48, 48, 48, 48, 48, 48, 48], .str [48, 55], .str [45]]).bind fun t4 =>
  (some (t4 : D)).bind fun t3 =>
  (some (t3 : D)).bind fun t5 =>
  (some (t0 : D)).bind fun t6 =>
  (some (t3 : D)).bind fun t7 =>
  (dLenT tab ty98 t7).bind fun t8 =>
  (R fn24 [t6, t8] h).bind fun p9 =>
  (dIndexAddr tab ty98 t5 p9.1).bind fun t10 =>
  (dLoad tab p9.2 ty9 t10).bind fun t11 =>
  (some (t11 : D)).bind fun t2_1 =>
  ((some (t2_1 : D)).bind fun d => (some ([] : List D)).bind fun ds => some (d :: ds)).bind fun ds => some (mkRes ds, p9.2)
theorem e33 (t0 : D) (h : Hp) : R fn33 [t0] h = F33 t0 h :=
  (run_fn (X := X) (F := Fs) (fi := i43) (by kernel_rfl) _ _).trans (by kernel_rfl)
/-- a loop: slots 2 7 58 67 -/
noncomputable def F1010_L0 (t5 : D) (ds : List D) (h_1 : Hp) : Option Out :=
    (some ((nth 1 ds) : D)).bind fun t55 =>
    (some (t5 : D)).bind fun t56 =>
    (dLenT tab ty29 t56).bind fun t57 =>
    (dBin tab .lss ty3 t55 t57).bind fun t58 =>
    dIf t58
      ((some (t5 : D)).bind fun t61 =>
    (some ((nth 1 ds) : D)).bind fun t62 =>
    (dIndexAddr tab ty29 t61 t62).bind fun t63 =>
    (dFieldAddr tab ty109 1 t63).bind fun t64 =>
    (dLoad tab h_1 ty9 t64).bind fun t65 =>
    (dLenT tab ty9 t65).bind fun t66 =>
    (dBin tab .gtr ty3 t66 (.int .i64 2000)).bind fun t67 =>
    dIf t67
      ((some (.int .i64 3 : D)).bind fun t2_7 =>
      some (.ret, [t2_7, (nth 1 ds), t58, t67], h_1))
      ((some ((nth 1 ds) : D)).bind fun t59 =>
    (dBin tab .add ty3 t59 (.int .i64 1)).bind fun t60 =>
    (some (t60 : D)).bind fun t7_1 =>
    some (.nrm, [(nth 0 ds), t7_1, t58, t67], h_1)))
      (some ((.ext 0), [(nth 0 ds), (nth 1 ds), t58, (nth 3 ds)], h_1))
noncomputable def F1010 (t0 : D) (h : Hp) : Option (D × Hp) :=
  (pBoxF t0).bind fun t1 =>
  (some (.int .i64 0 : D)).bind fun t2 =>
  (dLoad tab h ty31 t1).bind fun t8 =>
  (R fn1011 [t8] h).bind fun p9 =>
  (some (p9.1 : D)).bind fun t3 =>
  (some (t3 : D)).bind fun t10 =>
  (dBin tab .neq ty49 t10 (.int .i64 0)).bind fun t11 =>
  (some (t11 : D)).bind fun t12 =>
  (gd t12 false (dFieldAddr tab ty31 5 t1)).bind fun t13 =>
  (gd t12 false (dLoad tab p9.2 ty3 t13)).bind fun t14 =>
  (gd t12 false (dBin tab .lss ty3 t14 (.int .i64 0))).bind fun t15 =>
  (dPick t12 (.bool true) t15).bind fun t16 =>
  (some (t16 : D)).bind fun t17 =>
  (gd t17 false (dFieldAddr tab ty31 5 t1)).bind fun t18 =>
  (gd t17 false (dLoad tab p9.2 ty3 t18)).bind fun t19 =>
  (gd t17 false (dBin tab .gtr ty3 t19 (.int .i64 253402300799999))).bind fun t20 =>
  (dPick t17 (.bool true) t20).bind fun t21 =>
  dIf t21
    ((some (.int .i64 2 : D)).bind fun t2_1 =>
    ((some (t2_1 : D)).bind fun d => (some ([] : List D)).bind fun ds => some (d :: ds)).bind fun ds => some (mkRes ds, p9.2))
    ((dFieldAddr tab ty31 6 t1).bind fun t22 =>
  (dLoad tab p9.2 ty3 t22).bind fun t23 =>
  (R fn1014 [t23] p9.2).bind fun p24 =>
  (dUn .not p24.1).bind fun t25 =>
  dIf t25
    ((some (.int .i64 21 : D)).bind fun t2_2 =>
    ((some (t2_2 : D)).bind fun d => (some ([] : List D)).bind fun ds => some (d :: ds)).bind fun ds => some (mkRes ds, p24.2))
    ((dLoad tab p24.2 ty31 t1).bind fun t26 =>
  (R fn1012 [t26, .int .i64 2000] p24.2).bind fun p27 =>
  (some (p27.1 : D)).bind fun t4 =>
  (some (t4 : D)).bind fun t28 =>
  (dBin tab .neq ty49 t28 (.int .i64 0)).bind fun t29 =>
  dIf t29
    ((some (t4 : D)).bind fun t30 =>
    (some (t30 : D)).bind fun t2_3 =>
    ((some (t2_3 : D)).bind fun d => (some ([] : List D)).bind fun ds => some (d :: ds)).bind fun ds => some (mkRes ds, p27.2))
    ((dFieldAddr tab ty31 7 t1).bind fun t31 =>
  (dLoad tab p27.2 ty9 t31).bind fun t32 =>
  (dLenT tab ty9 t32).bind fun t33 =>
  (dBin tab .gtr ty3 t33 (.int .i64 32)).bind fun t34 =>
  (some (t34 : D)).bind fun t35 =>
  (gd t35 false (dFieldAddr tab ty31 8 t1)).bind fun t36 =>
  (gd t35 false (dLoad tab p27.2 ty9 t36)).bind fun t37 =>
  (gd t35 false (dLenT tab ty9 t37)).bind fun t38 =>
  (gd t35 false (dBin tab .gtr ty3 t38 (.int .i64 32))).bind fun t39 =>
  (dPick t35 (.bool true) t39).bind fun t40 =>
  dIf t40
    ((some (.int .i64 3 : D)).bind fun t2_4 =>
    ((some (t2_4 : D)).bind fun d => (some ([] : List D)).bind fun ds => some (d :: ds)).bind fun ds => some (mkRes ds, p27.2))
    ((dFieldAddr tab ty31 9 t1).bind fun t42 =>
  (dLoad tab p27.2 ty29 t42).bind fun t43 =>
  (R fn1015 [t43] p27.2).bind fun p44 =>
  (some (p44.1 : D)).bind fun t41 =>
  (dExtract 0 t41).bind fun t45 =>
  (dExtract 1 t41).bind fun t46 =>
  (some (t45 : D)).bind fun t5 =>
  (some (t46 : D)).bind fun t6 =>
  (some (t6 : D)).bind fun t47 =>
  (dBin tab .neq ty49 t47 (.int .i64 0)).bind fun t48 =>
  dIf t48
    ((some (t6 : D)).bind fun t49 =>
    (some (t49 : D)).bind fun t2_5 =>
    ((some (t2_5 : D)).bind fun d => (some ([] : List D)).bind fun ds => some (d :: ds)).bind fun ds => some (mkRes ds, p44.2))
    ((some (t5 : D)).bind fun t50 =>
  (dFieldAddr tab ty31 9 t1).bind fun t51 =>
  (dLoad tab p44.2 ty29 t51).bind fun t52 =>
  (R fn95 [t50, t52] p44.2).bind fun p53 =>
  (dUn .not p53.1).bind fun t54 =>
  dIf t54
    ((some (.int .i64 19 : D)).bind fun t2_6 =>
    ((some (t2_6 : D)).bind fun d => (some ([] : List D)).bind fun ds => some (d :: ds)).bind fun ds => some (mkRes ds, p53.2))
    ((some (.int .i64 0 : D)).bind fun t7 =>
  ((loopW (F1010_L0 t5) [t2, t7, .any, .any] p53.2).bind fun r =>
    some ((unblk 0 r.1), [(nth 0 r.2.1), (nth 1 r.2.1), (nth 2 r.2.1), (nth 3 r.2.1)], r.2.2)).bind fun r_1 =>
  toEnd r_1.1 ((some (.int .i64 0 : D)).bind fun t2_8 =>
  ((some (t2_8 : D)).bind fun d => (some ([] : List D)).bind fun ds => some (d :: ds)).bind fun ds => some (mkRes ds, r_1.2.2)) fun x => exEnd x (((some ((nth 0 r_1.2.1) : D)).bind fun d => (some ([] : List D)).bind fun ds => some (d :: ds)).bind fun ds => some (mkRes ds, r_1.2.2))))))))
theorem e1010 (t0 : D) (h : Hp) : R fn1010 [t0] h = F1010 t0 h :=
  (run_fn (X := X) (F := Fs) (fi := i44) (by kernel_rfl) _ _).trans (by kernel_rfl)
noncomputable def F1011 (t0 : D) (h : Hp) : Option (D × Hp) :=
  (pBoxF t0).bind fun t1 =>
  (some (.int .i64 0 : D)).bind fun t2 =>
  (dFieldAddr tab ty31 0 t1).bind fun t3 =>
  (dLoad tab h ty3 t3).bind fun t4 =>
  (dBin tab .lss ty3 t4 (.int .i64 0)).bind fun t5 =>
  (some (t5 : D)).bind fun t6 =>
  (gd t6 false (dFieldAddr tab ty31 0 t1)).bind fun t7 =>
  (gd t6 false (dLoad tab h ty3 t7)).bind fun t8 =>
  (gd t6 false (dBin tab .gtr ty3 t8 (.int .i64 999))).bind fun t9 =>
  (dPick t6 (.bool true) t9).bind fun t10 =>
  (some (t10 : D)).bind fun t11 =>
  (gd t11 false (dFieldAddr tab ty31 1 t1)).bind fun t12 =>
  (gd t11 false (dLoad tab h ty3 t12)).bind fun t13 =>
  (gd t11 false (dBin tab .lss ty3 t13 (.int .i64 0))).bind fun t14 =>
  (dPick t11 (.bool true) t14).bind fun t15 =>
  (some (t15 : D)).bind fun t16 =>
  (gd t16 false (dFieldAddr tab ty31 1 t1)).bind fun t17 =>
  (gd t16 false (dLoad tab h ty3 t17)).bind fun t18 =>
  (gd t16 false (dBin tab .gtr ty3 t18 (.int .i64 2147483646))).bind fun t19 =>
  (dPick t16 (.bool true) t19).bind fun t20 =>
  (some (t20 : D)).bind fun t21 =>
  (gd t21 false (dFieldAddr tab ty31 2 t1)).bind fun t22 =>
  (gd t21 false (dLoad tab h ty3 t22)).bind fun t23 =>
  (gd t21 false (dBin tab .lss ty3 t23 (.int .i64 0))).bind fun t24 =>
  (dPick t21 (.bool true) t24).bind fun t25 =>
  (some (t25 : D)).bind fun t26 =>
  (gd t26 false (dFieldAddr tab ty31 3 t1)).bind fun t27 =>
  (gd t26 false (dLoad tab h ty3 t27)).bind fun t28 =>
  (gd t26 false (dFieldAddr tab ty31 2 t1)).bind fun t29 =>
  (gd t26 false (dLoad tab h ty3 t29)).bind fun t30 =>
  (gd t26 false (dBin tab .leq ty3 t28 t30)).bind fun t31 =>
  (dPick t26 (.bool true) t31).bind fun t32 =>
  (some (t32 : D)).bind fun t33 =>
  (gd t33 false (dFieldAddr tab ty31 3 t1)).bind fun t34 =>
  (gd t33 false (dLoad tab h ty3 t34)).bind fun t35 =>
  (gd t33 false (dBin tab .gtr ty3 t35 (.int .i64 60000))).bind fun t36 =>
  (dPick t33 (.bool true) t36).bind fun t37 =>
  dIf t37
    ((some (.int .i64 2 : D)).bind fun t2_1 =>
    ((some (t2_1 : D)).bind fun d => (some ([] : List D)).bind fun ds => some (d :: ds)).bind fun ds => some (mkRes ds, h))
    ((some (.int .i64 0 : D)).bind fun t2_2 =>
  ((some (t2_2 : D)).bind fun d => (some ([] : List D)).bind fun ds => some (d :: ds)).bind fun ds => some (mkRes ds, h))
theorem e1011 (t0 : D) (h : Hp) : R fn1011 [t0] h = F1011 t0 h :=
  (run_fn (X := X) (F := Fs) (fi := i45) (by kernel_rfl) _ _).trans (by kernel_rfl)
/-- a loop: slots 4 5 6 7 22 64 69 -/
noncomputable def F1012_L0 (t1 : D) (t2 : D) (ds : List D) (h_1 : Hp) : Option Out :=
    (some ((nth 2 ds) : D)).bind fun t18 =>
    (dFieldAddr tab ty31 4 t2).bind fun t19 =>
    (dLoad tab h_1 ty28 t19).bind fun t20 =>
    (dLenT tab ty28 t20).bind fun t21 =>
    (dBin tab .lss ty3 t18 t21).bind fun t22 =>
    dIf t22
      ((dFieldAddr tab ty31 4 t2).bind fun t25 =>
    (dLoad tab h_1 ty28 t25).bind fun t26 =>
    (some ((nth 2 ds) : D)).bind fun t27 =>
    (dIndexAddr tab ty28 t26 t27).bind fun t28 =>
    (dLoad tab h_1 ty78 t28).bind fun t29 =>
    (boxN 3 t29).bind fun t7 =>
    (dFieldAddr tab ty78 0 t7).bind fun t30 =>
    (dLoad tab h_1 ty3 t30).bind fun t31 =>
    (some ((nth 1 ds) : D)).bind fun t32 =>
    (dBin tab .neq ty3 t31 t32).bind fun t33 =>
    (some (t33 : D)).bind fun t34 =>
    (gd t34 false (dFieldAddr tab ty78 1 t7)).bind fun t35 =>
    (gd t34 false (dLoad tab h_1 ty3 t35)).bind fun t36 =>
    (gd t34 false (dBin tab .lss ty3 t36 (.int .i64 1))).bind fun t37 =>
    (dPick t34 (.bool true) t37).bind fun t38 =>
    (some (t38 : D)).bind fun t39 =>
    (gd t39 false (dFieldAddr tab ty78 1 t7)).bind fun t40 =>
    (gd t39 false (dLoad tab h_1 ty3 t40)).bind fun t41 =>
    (gd t39 false (dFieldAddr tab ty31 3 t2)).bind fun t42 =>
    (gd t39 false (dLoad tab h_1 ty3 t42)).bind fun t43 =>
    (gd t39 false (some ((nth 1 ds) : D))).bind fun t44 =>
    (gd t39 false (dBin tab .sub ty3 t43 t44)).bind fun t45 =>
    (gd t39 false (dBin tab .gtr ty3 t41 t45)).bind fun t46 =>
    (dPick t39 (.bool true) t46).bind fun t47 =>
    (some (t47 : D)).bind fun t48 =>
    (gd t48 false (some ((nth 2 ds) : D))).bind fun t49 =>
    (gd t48 false (dFieldAddr tab ty31 4 t2)).bind fun t50 =>
    (gd t48 false (dLoad tab h_1 ty28 t50)).bind fun t51 =>
    (gd t48 false (dLenT tab ty28 t51)).bind fun t52 =>
    (gd t48 false (dBin tab .sub ty3 t52 (.int .i64 1))).bind fun t53 =>
    (gd t48 false (dBin tab .eql ty3 t49 t53)).bind fun t54 =>
    (gd t48 false (some (t54 : D))).bind fun t55 =>
    (gd t55 true (dFieldAddr tab ty78 1 t7)).bind fun t56 =>
    (gd t55 true (dLoad tab h_1 ty3 t56)).bind fun t57 =>
    (gd t55 true (dFieldAddr tab ty31 3 t2)).bind fun t58 =>
    (gd t55 true (dLoad tab h_1 ty3 t58)).bind fun t59 =>
    (gd t55 true (some ((nth 1 ds) : D))).bind fun t60 =>
    (gd t55 true (dBin tab .sub ty3 t59 t60)).bind fun t61 =>
    (gd t55 true (dBin tab .neq ty3 t57 t61)).bind fun t62 =>
    (gd t48 false (dPick t55 t62 (.bool false))).bind fun t63 =>
    (dPick t48 (.bool true) t63).bind fun t64 =>
    dIf t64
      ((some (.int .i64 19 : D)).bind fun t4_3 =>
      some (.ret, [t4_3, (nth 1 ds), (nth 2 ds), t7, t22, t64, (nth 6 ds)], h_1))
      ((dFieldAddr tab ty78 2 t7).bind fun t65 =>
    (dLoad tab h_1 ty9 t65).bind fun t66 =>
    (dLenT tab ty9 t66).bind fun t67 =>
    (some (t1 : D)).bind fun t68 =>
    (dBin tab .gtr ty3 t67 t68).bind fun t69 =>
    dIf t69
      ((some (.int .i64 3 : D)).bind fun t4_4 =>
      some (.ret, [t4_4, (nth 1 ds), (nth 2 ds), t7, t22, t64, t69], h_1))
      ((some ((nth 1 ds) : D)).bind fun t70 =>
    (dFieldAddr tab ty78 1 t7).bind fun t71 =>
    (dLoad tab h_1 ty3 t71).bind fun t72 =>
    (dBin tab .add ty3 t70 t72).bind fun t73 =>
    (some (t73 : D)).bind fun t5_1 =>
    (some ((nth 2 ds) : D)).bind fun t23 =>
    (dBin tab .add ty3 t23 (.int .i64 1)).bind fun t24 =>
    (some (t24 : D)).bind fun t6_1 =>
    some (.nrm, [(nth 0 ds), t5_1, t6_1, t7, t22, t64, t69], h_1))))
      (some ((.ext 0), [(nth 0 ds), (nth 1 ds), (nth 2 ds), (nth 3 ds), t22, (nth 5 ds), (nth 6 ds)], h_1))
noncomputable def F1012 (t0 : D) (t1 : D) (h : Hp) : Option (D × Hp) :=
  (pBoxF t0).bind fun t2 =>
  (some (.int .i64 0 : D)).bind fun t4 =>
  (dFieldAddr tab ty31 4 t2).bind fun t8 =>
  (dLoad tab h ty28 t8).bind fun t9 =>
  (dLenT tab ty28 t9).bind fun t10 =>
  (dBin tab .eql ty3 t10 (.int .i64 0)).bind fun t11 =>
  dIf t11
    ((some (.int .i64 9 : D)).bind fun t4_1 =>
    ((some (t4_1 : D)).bind fun d => (some ([] : List D)).bind fun ds => some (d :: ds)).bind fun ds => some (mkRes ds, h))
    ((dFieldAddr tab ty31 4 t2).bind fun t12 =>
  (dLoad tab h ty28 t12).bind fun t13 =>
  (dLenT tab ty28 t13).bind fun t14 =>
  (dBin tab .gtr ty3 t14 (.int .i64 40)).bind fun t15 =>
  dIf t15
    ((some (.int .i64 4 : D)).bind fun t4_2 =>
    ((some (t4_2 : D)).bind fun d => (some ([] : List D)).bind fun ds => some (d :: ds)).bind fun ds => some (mkRes ds, h))
    ((dFieldAddr tab ty31 2 t2).bind fun t16 =>
  (dLoad tab h ty3 t16).bind fun t17 =>
  (some (t17 : D)).bind fun t5 =>
  (some (.int .i64 0 : D)).bind fun t6 =>
  ((loopW (F1012_L0 t1 t2) [t4, t5, t6, .any, .any, .any, .any] h).bind fun r =>
    some ((unblk 0 r.1), [(nth 0 r.2.1), (nth 1 r.2.1), (nth 2 r.2.1), (nth 3 r.2.1), (nth 4 r.2.1), (nth 5 r.2.1), (nth 6 r.2.1)], r.2.2)).bind fun r_1 =>
  toEnd r_1.1 ((some (.int .i64 0 : D)).bind fun t4_5 =>
  ((some (t4_5 : D)).bind fun d => (some ([] : List D)).bind fun ds => some (d :: ds)).bind fun ds => some (mkRes ds, r_1.2.2)) fun x => exEnd x (((some ((nth 0 r_1.2.1) : D)).bind fun d => (some ([] : List D)).bind fun ds => some (d :: ds)).bind fun ds => some (mkRes ds, r_1.2.2))))
theorem e1012 (t0 : D) (t1 : D) (h : Hp) : R fn1012 [t0, t1] h = F1012 t0 t1 h :=
  (run_fn (X := X) (F := Fs) (fi := i46) (by kernel_rfl) _ _).trans (by kernel_rfl)
noncomputable def F1118 (t0 : D) (t1 : D) (h : Hp) : Option (D × Hp) :=
  (some (.nils : D)).bind fun t4 =>
  (some (t0 : D)).bind fun t5 =>
  (some (t1 : D)).bind fun t6 =>
  (dLenT tab ty9 t6).bind fun t7 =>
  (dConv tab ty3 ty1029 t7).bind fun t8 =>
  (R fn1116 [t5, t8, .int .i64 4] h).bind fun p9 =>
  (some (t1 : D)).bind fun t10 =>
  (dAppend tab p9.2 ty22 ty9 p9.1 t10).bind fun p11 =>
  (some (p11.1 : D)).bind fun t4_1 =>
  ((some (t4_1 : D)).bind fun d => (some ([] : List D)).bind fun ds => some (d :: ds)).bind fun ds => some (mkRes ds, p11.2)
theorem e1118 (t0 : D) (t1 : D) (h : Hp) : R fn1118 [t0, t1] h = F1118 t0 t1 h :=
  (run_fn (X := X) (F := Fs) (fi := i47) (by kernel_rfl) _ _).trans (by kernel_rfl)
noncomputable def F1119 (t0 : D) (t1 : D) (h : Hp) : Option (D × Hp) :=
  (some (.nils : D)).bind fun t4 =>
  (some (t0 : D)).bind fun t5 =>
  (some (t1 : D)).bind fun t6 =>
  (dConv tab ty3 ty1029 t6).bind fun t7 =>
  (R fn1116 [t5, t7, .int .i64 8] h).bind fun p8 =>
  (some (p8.1 : D)).bind fun t4_1 =>
  ((some (t4_1 : D)).bind fun d => (some ([] : List D)).bind fun ds => some (d :: ds)).bind fun ds => some (mkRes ds, p8.2)
theorem e1119 (t0 : D) (t1 : D) (h : Hp) : R fn1119 [t0, t1] h = F1119 t0 t1 h :=
  (run_fn (X := X) (F := Fs) (fi := i48) (by kernel_rfl) _ _).trans (by kernel_rfl)
noncomputable def F1014 (t0 : D) (h : Hp) : Option (D × Hp) :=
  (some (.bool false : D)).bind fun t2 =>
  (some (t0 : D)).bind fun t3 =>
  (dBin tab .geq ty3 t3 (.int .i64 1)).bind fun t4 =>
  (some (t4 : D)).bind fun t5 =>
  (gd t5 true (some (t0 : D))).bind fun t6 =>
  (gd t5 true (dBin tab .leq ty3 t6 (.int .i64 5040))).bind fun t7 =>
  (dPick t5 t7 (.bool false)).bind fun t8 =>
  (some (t8 : D)).bind fun t9 =>
  (gd t9 true (some (t0 : D))).bind fun t10 =>
  (gd t9 true (dBin tab .rem ty3 (.int .i64 5040) t10)).bind fun t11 =>
  (gd t9 true (dBin tab .eql ty3 t11 (.int .i64 0))).bind fun t12 =>
  (dPick t9 t12 (.bool false)).bind fun t13 =>
  (some (t13 : D)).bind fun t2_1 =>
  ((some (t2_1 : D)).bind fun d => (some ([] : List D)).bind fun ds => some (d :: ds)).bind fun ds => some (mkRes ds, h)
theorem e1014 (t0 : D) (h : Hp) : R fn1014 [t0] h = F1014 t0 h :=
  (run_fn (X := X) (F := Fs) (fi := i49) (by kernel_rfl) _ _).trans (by kernel_rfl)
end Go.Proofs.Ytjepklgnhdellaa
