/- Functions as Lean functions on data. -/
import Derived.Test.YtlpedofpnbggbaaDoorB1
set_option linter.unusedSimpArgs false
set_option linter.unusedVariables false
set_option linter.unnecessarySimpa false
set_option maxRecDepth 100000
namespace Go.Proofs.YtlpedofpnbggbaaDoor
open Go.Eng Go.Pi
noncomputable def F1120_L0 (t2 : D) (p8 : D × Hp) (p9 : D × Hp) (t46 : D) (t47 : D) (ds : List D) (h_1 : Hp) : Option Out :=
 (dBin tab .lss ty3 (nth 6 ds) t47).bind fun t49 =>
 dIf t49
   ((dIndexAddr tab ty113 t46 (nth 6 ds)).bind fun t50 =>
 (dLoad tab h_1 ty74 t50).bind fun t51 =>
 (boxN 11 t51).bind fun t11 =>
 (dFieldAddr tab ty74 1 t11).bind fun t53 =>
 (dLoad tab h_1 ty31 t53).bind fun t54 =>
 (some t2).bind fun t55 =>
 (R fn75 [t54, t55] h_1).bind fun p56 =>
 (some p56.1).bind fun t52 =>
 (dExtract 0 t52).bind fun t57 =>
 (dExtract 1 t52).bind fun t58 =>
 (some t57).bind fun t12 =>
 (some t58).bind fun t13 =>
 (dFieldAddr tab ty74 1 t11).bind fun t60 =>
 (dLoad tab p56.2 ty31 t60).bind fun t61 =>
 (some t2).bind fun t62 =>
 (R fn1124 [t61, t62] p56.2).bind fun p63 =>
 (some p63.1).bind fun t59 =>
 (dExtract 0 t59).bind fun t64 =>
 (dExtract 1 t59).bind fun t65 =>
 (some t64).bind fun t14 =>
 (some t65).bind fun t15 =>
 (dFieldAddr tab ty74 1 t11).bind fun t66 =>
 (dLoad tab p63.2 ty31 t66).bind fun t67 =>
 (R fn1043 [t67] p63.2).bind fun p68 =>
 (dFieldAddr tab ty74 1 t11).bind fun t69 =>
 (dLoad tab p68.2 ty31 t69).bind fun t70 =>
 (R fn1010 [t70] p68.2).bind fun p71 =>
 (dBin tab .neq ty49 p68.1 p71.1).bind fun t72 =>
 (some t72).bind fun t73 =>
 (gd t73 false (dLoad tab p71.2 ty74 t11)).bind fun t74 =>
 (gdW t73 false p71.2 (R fn1042 [t74] p71.2)).bind fun p75 =>
 (gd t73 false (dLoad tab p75.2 ty74 t11)).bind fun t76 =>
 (gdW t73 false p75.2 (R fn1004 [t76] p75.2)).bind fun p77 =>
 (gd t73 false (dBin tab .neq ty49 p75.1 p77.1)).bind fun t78 =>
 (dPick t73 (.bool true) t78).bind fun t79 =>
 (some t79).bind fun t80 =>
 (gd t80 false (dFieldAddr tab ty74 1 t11)).bind fun t81 =>
 (gd t80 false (dLoad tab p77.2 ty31 t81)).bind fun t82 =>
 (gd t80 false (dFieldAddr tab ty74 1 p9.1)).bind fun t83 =>
 (gd t80 false (dLoad tab p77.2 ty31 t83)).bind fun t84 =>
 (gdW t80 false p77.2 (R fn1037 [t82, t84] p77.2)).bind fun p85 =>
 (gd t80 false (dFieldAddr tab ty74 1 t11)).bind fun t86 =>
 (gd t80 false (dLoad tab p85.2 ty31 t86)).bind fun t87 =>
 (gd t80 false (dFieldAddr tab ty74 1 p9.1)).bind fun t88 =>
 (gd t80 false (dLoad tab p85.2 ty31 t88)).bind fun t89 =>
 (gdW t80 false p85.2 (R fn85 [t87, t89] p85.2)).bind fun p90 =>
 (gd t80 false (dBin tab .neq ty4 p85.1 p90.1)).bind fun t91 =>
 (dPick t80 (.bool true) t91).bind fun t92 =>
 (some t92).bind fun t93 =>
 (gd t93 false (dLoad tab p90.2 ty74 t11)).bind fun t94 =>
 (gd t93 false (dLoad tab p90.2 ty74 p8.1)).bind fun t95 =>
 (gdW t93 false p90.2 (R fn1125 [t94, t95] p90.2)).bind fun p96 =>
 (gd t93 false (dLoad tab p96.2 ty74 t11)).bind fun t97 =>
 (gd t93 false (dLoad tab p96.2 ty74 p8.1)).bind fun t98 =>
 (gdW t93 false p96.2 (R fn82 [t97, t98] p96.2)).bind fun p99 =>
 (gd t93 false (dBin tab .neq ty4 p96.1 p99.1)).bind fun t100 =>
 (dPick t93 (.bool true) t100).bind fun t101 =>
 (some t101).bind fun t102 =>
 (gd t102 false (dFieldAddr tab ty74 1 t11)).bind fun t103 =>
 (gd t102 false (dLoad tab p99.2 ty31 t103)).bind fun t104 =>
 (gdW t102 false p99.2 (R fn1126 [t104] p99.2)).bind fun p105 =>
 (gd t102 false (dFieldAddr tab ty74 1 t11)).bind fun t106 =>
 (gd t102 false (dLoad tab p105.2 ty31 t106)).bind fun t107 =>
 (gdW t102 false p105.2 (R fn1127 [t107] p105.2)).bind fun p108 =>
 (gd t102 false (dBin tab .neq ty9 p105.1 p108.1)).bind fun t109 =>
 (dPick t102 (.bool true) t109).bind fun t110 =>
 (some t110).bind fun t111 =>
 (gd t111 false (some t12)).bind fun t112 =>
 (gd t111 false (some t14)).bind fun t113 =>
 (gd t111 false (dBin tab .neq ty9 t112 t113)).bind fun t114 =>
 (dPick t111 (.bool true) t114).bind fun t115 =>
 (some t115).bind fun t116 =>
 (gd t116 false (some t13)).bind fun t117 =>
 (gd t116 false (some t15)).bind fun t118 =>
 (gd t116 false (dBin tab .neq ty4 t117 t118)).bind fun t119 =>
 (dPick t116 (.bool true) t119).bind fun t120 =>
 (some t120).bind fun t121 =>
 (gd t121 false (dLoad tab p108.2 ty74 t11)).bind fun t122 =>
 (gd t121 false (dLoad tab p108.2 ty74 t11)).bind fun t123 =>
 (gdW t121 false p108.2 (R fn1125 [t122, t123] p108.2)).bind fun p124 =>
 (gd t121 false (dUn .not p124.1)).bind fun t125 =>
 (dPick t121 (.bool true) t125).bind fun t126 =>
 chk (dLoad tab p63.2 ty31 t69 = some t70)
 (chk (gd t73 false (dLoad tab p71.2 ty74 t11) = some t76)
 (chk (gd t80 false (dLoad tab p77.2 ty31 t86) = some t87)
 (chk (gd t80 false (dLoad tab p77.2 ty31 t88) = some t89)
 (chk (gd t93 false (dLoad tab p90.2 ty74 t11) = some t97)
 (chk (gd t93 false (dLoad tab p90.2 ty74 p8.1) = some t98)
 (chk (gd t102 false (dLoad tab p99.2 ty31 t106) = some t107)
 (dIf t126
   ((some (.bool false : D)).bind fun t6_3 =>
 some (.ret, [t6_3, t11, t12, t13, t14, t15, (nth 6 ds), t49, t126], p124.2))
   ((dBin tab .add ty3 (nth 6 ds) (.int .i64 1)).bind fun t127 =>
 (some t127).bind fun t48_1 =>
 some (.nrm, [(nth 0 ds), t11, t12, t13, t14, t15, t48_1, t49, t126], p124.2))))))))))
   (some ((.ext 0), [(nth 0 ds), (nth 1 ds), (nth 2 ds), (nth 3 ds), (nth 4 ds), (nth 5 ds), (nth 6 ds), t49, (nth 8 ds)], h_1))
noncomputable def F1120 (t0 : D) (t1 : D) (t2 : D) (h : Hp) : Option (D × Hp) :=
  (pBoxF t0).bind fun t3 =>
 (some (.bool false : D)).bind fun t6 =>
 (R fn1036 [] h).bind fun p16 =>
 (dUn .not p16.1).bind fun t17 =>
 dIf t17
   ((some (.bool false : D)).bind fun t6_1 =>
 ((some t6_1).bind fun d => (some ([] : List D)).bind fun ds => some (d :: ds)).bind fun ds => scope h p16.2 (mkRes ds))
   ((dFieldAddr tab ty74 1 t3).bind fun t18 =>
 (dFieldAddr tab ty31 4 t18).bind fun t19 =>
 (dLoad tab p16.2 ty28 t19).bind fun t20 =>
 (dLenT tab ty28 t20).bind fun t21 =>
 (dBin tab .gtr ty3 t21 (.int .i64 60)).bind fun t22 =>
 (some t22).bind fun t23 =>
 (gd t23 false (dFieldAddr tab ty74 1 t3)).bind fun t24 =>
 (gd t23 false (dFieldAddr tab ty31 9 t24)).bind fun t25 =>
 (gd t23 false (dLoad tab p16.2 ty29 t25)).bind fun t26 =>
 (gd t23 false (dLenT tab ty29 t26)).bind fun t27 =>
 (gd t23 false (dBin tab .gtr ty3 t27 (.int .i64 60))).bind fun t28 =>
 (dPick t23 (.bool true) t28).bind fun t29 =>
 dIf t29
   ((some (.bool true : D)).bind fun t6_2 =>
 ((some t6_2).bind fun d => (some ([] : List D)).bind fun ds => some (d :: ds)).bind fun ds => scope h p16.2 (mkRes ds))
   ((some t1).bind fun t30 =>
 (R fn10 [t30, .int .i64 160] p16.2).bind fun p31 =>
 (some p31.1).bind fun t7 =>
 (some t7).bind fun t32 =>
 (R fn1038 [t32] p31.2).bind fun p33 =>
 (some t7).bind fun t34 =>
 (R fn1038 [t34] p33.2).bind fun p35 =>
 (some ((.ptr p35.2.length 0 0 : D), dNew p35.2 ty74 11 [[.str [], .int .i64 0, .int .i64 0, .int .i64 0, .int .i64 0, .nils, .int .i64 0, .int .i64 0, .str [], .str [], .nils]])).bind fun p8 =>
 (some ((.ptr p8.2.length 0 0 : D), dNew p8.2 ty74 11 [[.str [], .int .i64 0, .int .i64 0, .int .i64 0, .int .i64 0, .nils, .int .i64 0, .int .i64 0, .str [], .str [], .nils]])).bind fun p9 =>
 ((dStore tab p9.2 ty74 p8.1 p33.1).bind fun h' => some ((.und : D), h')).bind fun p906 =>
 ((dStore tab p906.2 ty74 p9.1 p35.1).bind fun h' => some ((.und : D), h')).bind fun p907 =>
 (dLoad tab p907.2 ty74 t3).bind fun t36 =>
 (dLoad tab p907.2 ty74 p8.1).bind fun t37 =>
 (some t7).bind fun t38 =>
 (dLoad tab p907.2 ty74 p8.1).bind fun t39 =>
 (R fn1123 [t38, t39] p907.2).bind fun p40 =>
 (some t7).bind fun t41 =>
 (some t7).bind fun t42 =>
 (dLoad tab p40.2 ty74 p8.1).bind fun t43 =>
 (R fn1123 [t42, t43] p40.2).bind fun p44 =>
 (R fn1123 [t41, p44.1] p44.2).bind fun p45 =>
 (pLitF tab ty113 4 [0, 1, 2, 3] [t36, t37, p40.1, p45.1]).bind fun t46 =>
 (dLenT tab ty113 t46).bind fun t47 =>
 (some (.int .i64 0 : D)).bind fun t48 =>
 chk (dLoad tab p40.2 ty74 t3 = some t36)
 (chk (dLoad tab p44.2 ty74 t3 = some t36)
 (chk (dLoad tab p45.2 ty74 t3 = some t36)
 (chk (dLoad tab p40.2 ty74 p8.1 = some t37)
 (chk (dLoad tab p44.2 ty74 p8.1 = some t37)
 (chk (dLoad tab p45.2 ty74 p8.1 = some t37)
 (chk (dLoad tab p907.2 ty74 p8.1 = some t43)
 (((loopW (F1120_L0 t2 p8 p9 t46 t47) [t6, .any, .any, .any, .any, .any, t48, .any, .any] p45.2).bind fun r =>
 some ((unblk 0 r.1), [(nth 0 r.2.1), (nth 1 r.2.1), (nth 2 r.2.1), (nth 3 r.2.1), (nth 4 r.2.1), (nth 5 r.2.1), (nth 6 r.2.1), (nth 7 r.2.1), (nth 8 r.2.1)], r.2.2)).bind fun r_1 =>
 toEnd r_1.1 ((some (.bool true : D)).bind fun t6_4 =>
 ((some t6_4).bind fun d => (some ([] : List D)).bind fun ds => some (d :: ds)).bind fun ds => scope h r_1.2.2 (mkRes ds)) fun x => exEnd x (((some (nth 0 r_1.2.1)).bind fun d => (some ([] : List D)).bind fun ds => some (d :: ds)).bind fun ds => scope h r_1.2.2 (mkRes ds)))))))))))
theorem e1120 (t0 : D) (t1 : D) (t2 : D) (h : Hp) : R fn1120 [t0, t1, t2] h = F1120 t0 t1 t2 h :=
  (run_fn (X := X) (F := Fs) (fi := i3) (by kernel_rfl) _ _).trans (by kernel_rfl)
noncomputable def F1036 (h : Hp) : Option (D × Hp) :=
  (some (.bool false : D)).bind fun t0 =>
 (dBuild tab ty78 [1] [.int .i64 5]).bind fun t4 =>
 (dBuild tab ty78 [0, 1, 2] [.int .i64 5, .int .i64 4, .str [120]]).bind fun t5 =>
 (pLitF tab ty28 2 [0, 1] [t4, t5]).bind fun t6 =>
 (dBuild tab ty31 [3, 6, 4] [.int .i64 9, .int .i64 1, t6]).bind fun t7 =>
 (boxN 10 t7).bind fun t1 =>
 (dLoad tab h ty31 t1).bind fun t9 =>
 (dBuild tab ty74 [1] [t9]).bind fun t10 =>
 (R fn1040 [t10, .int .i64 3] h).bind fun p11 =>
 (some p11.1).bind fun t8 =>
 (dExtract 0 t8).bind fun t12 =>
 (dExtract 1 t8).bind fun t13 =>
 (boxN 11 t12).bind fun t2 =>
 (some t13).bind fun t3 =>
 (dLoad tab p11.2 ty31 t1).bind fun t14 =>
 (R fn1043 [t14] p11.2).bind fun p15 =>
 (dBin tab .eql ty49 p15.1 (.int .i64 0)).bind fun t16 =>
 (some t16).bind fun t17 =>
 (gd t17 true (some t3)).bind fun t18 =>
 (dPick t17 t18 (.bool false)).bind fun t19 =>
 (some t19).bind fun t20 =>
 (gd t20 true (dFieldAddr tab ty74 1 t2)).bind fun t21 =>
 (gd t20 true (dFieldAddr tab ty31 2 t21)).bind fun t22 =>
 (gd t20 true (dLoad tab p15.2 ty3 t22)).bind fun t23 =>
 (gd t20 true (dBin tab .eql ty3 t23 (.int .i64 5))).bind fun t24 =>
 (dPick t20 t24 (.bool false)).bind fun t25 =>
 (some t25).bind fun t26 =>
 (gd t26 true (dFieldAddr tab ty74 1 t2)).bind fun t27 =>
 (gd t26 true (dFieldAddr tab ty31 4 t27)).bind fun t28 =>
 (gd t26 true (dLoad tab p15.2 ty28 t28)).bind fun t29 =>
 (gd t26 true (dLenT tab ty28 t29)).bind fun t30 =>
 (gd t26 true (dBin tab .eql ty3 t30 (.int .i64 1))).bind fun t31 =>
 (dPick t26 t31 (.bool false)).bind fun t32 =>
 (some t32).bind fun t0_1 =>
 ((some t0_1).bind fun d => (some ([] : List D)).bind fun ds => some (d :: ds)).bind fun ds => some (mkRes ds, p15.2)
theorem e1036 (h : Hp) : R fn1036 [] h = F1036 h :=
  (run_fn (X := X) (F := Fs) (fi := i6) (by kernel_rfl) _ _).trans (by kernel_rfl)
noncomputable def F10 (t0 : D) (t1 : D) (h : Hp) : Option (D × Hp) :=
  (some (.nilp : D)).bind fun t4 =>
 (some t0).bind fun t5 =>
 (dLenT tab ty22 t5).bind fun t6 =>
 (some t1).bind fun t7 =>
 (dBin tab .gtr ty3 t6 t7).bind fun t8 =>
 (dIf t8
   ((some t0).bind fun t9 =>
 (some t1).bind fun t10 =>
 (dSliceAt tab ty22 false true false [t9, t10]).bind fun t11 =>
 (some t11).bind fun t0_1 =>
 some (.nrm, [t0_1], h))
   (some (.nrm, [t0], h))).bind fun r =>
 toEnd r.1 ((some (nth 0 r.2.1)).bind fun t12 =>
 (dBuild tab ty80 [0] [t12]).bind fun t13 =>
 (wBox ty80 2 r.2.2 t13).bind fun p14 =>
 (some p14.1).bind fun t4_1 =>
 ((some t4_1).bind fun d => (some ([] : List D)).bind fun ds => some (d :: ds)).bind fun ds => some (mkRes ds, p14.2)) fun x => exEnd x (((some t4).bind fun d => (some ([] : List D)).bind fun ds => some (d :: ds)).bind fun ds => some (mkRes ds, r.2.2))
theorem e10 (t0 : D) (t1 : D) (h : Hp) : R fn10 [t0, t1] h = F10 t0 t1 h :=
  (run_fn (X := X) (F := Fs) (fi := i7) (by kernel_rfl) _ _).trans (by kernel_rfl)
noncomputable def F1038_L0 (t3 : D) (p4 : D × Hp) (t24 : D) (ds : List D) (h_1 : Hp) : Option Out :=
 (dBin tab .lss ty3 (nth 1 ds) t24).bind fun t26 =>
 dIf t26
   ((some (nth 1 ds)).bind fun t27 =>
 (some t27).bind fun t5 =>
 (dFieldAddr tab ty31 4 p4.1).bind fun t28 =>
 (dLoad tab h_1 ty28 t28).bind fun t29 =>
 (dFieldAddr tab ty31 4 t3).bind fun t30 =>
 (dLoad tab h_1 ty28 t30).bind fun t31 =>
 (some t5).bind fun t32 =>
 (dIndexAddr tab ty28 t31 t32).bind fun t33 =>
 (dFieldAddr tab ty78 0 t33).bind fun t34 =>
 (dLoad tab h_1 ty3 t34).bind fun t35 =>
 (dFieldAddr tab ty31 4 t3).bind fun t36 =>
 (dLoad tab h_1 ty28 t36).bind fun t37 =>
 (some t5).bind fun t38 =>
 (dIndexAddr tab ty28 t37 t38).bind fun t39 =>
 (dFieldAddr tab ty78 1 t39).bind fun t40 =>
 (dLoad tab h_1 ty3 t40).bind fun t41 =>
 (dBuild tab ty78 [0, 1] [t35, t41]).bind fun t42 =>
 (pLitF tab ty28 1 [0] [t42]).bind fun t43 =>
 (dAppend tab h_1 ty28 ty28 t29 t43).bind fun p44 =>
 (dFieldAddr tab ty31 4 p4.1).bind fun t45 =>
 ((dStore tab p44.2 ty28 t45 p44.1).bind fun h' => some ((.und : D), h')).bind fun p918 =>
 (dBin tab .add ty3 (nth 1 ds) (.int .i64 1)).bind fun t46 =>
 (some t46).bind fun t25_1 =>
 some (.nrm, [t5, t25_1, t26], p918.2))
   (some ((.ext 0), [(nth 0 ds), (nth 1 ds), t26], h_1))
noncomputable def F1038 (t0 : D) (h : Hp) : Option (D × Hp) :=
  (some ((.ptr h.length 0 0 : D), dNew h ty74 11 [[.str [], .int .i64 0, .int .i64 0, .int .i64 0, .int .i64 0, .nils, .int .i64 0, .int .i64 0, .str [], .str [], .nils]])).bind fun p2 =>
 (some t0).bind fun t6 =>
 (R fn12 [t6] p2.2).bind fun p7 =>
 (boxN 10 p7.1).bind fun t3 =>
 (some t0).bind fun t8 =>
 (R fn39 [t8, .int .i64 4] p7.2).bind fun p9 =>
 (dBin tab .lss ty3 p9.1 (.int .i64 3)).bind fun t10 =>
 dIf t10
   ((dLoad tab p9.2 ty31 t3).bind fun t11 =>
 (dBuild tab ty74 [1] [t11]).bind fun t12 =>
 ((dStore tab p9.2 ty74 p2.1 t12).bind fun h' => some ((.und : D), h')).bind fun p902 =>
 ((some (p2.1 : D)).bind fun p => (dLoad tab p902.2 ty74 p).bind fun d => (some ([] : List D)).bind fun ds => some (d :: ds)).bind fun ds => scope h p902.2 (mkRes ds))
   ((dFieldAddr tab ty31 0 t3).bind fun t13 =>
 (dLoad tab p9.2 ty3 t13).bind fun t14 =>
 (dFieldAddr tab ty31 1 t3).bind fun t15 =>
 (dLoad tab p9.2 ty3 t15).bind fun t16 =>
 (dFieldAddr tab ty31 2 t3).bind fun t17 =>
 (dLoad tab p9.2 ty3 t17).bind fun t18 =>
 (dFieldAddr tab ty31 3 t3).bind fun t19 =>
 (dLoad tab p9.2 ty3 t19).bind fun t20 =>
 (dBuild tab ty31 [0, 1, 2, 3] [t14, t16, t18, t20]).bind fun t21 =>
 (some ((.ptr p9.2.length 0 0 : D), dNew p9.2 ty31 10 [[.int .i64 0, .int .i64 0, .int .i64 0, .int .i64 0, .nils, .int .i64 0, .int .i64 0, .str [], .str [], .nils]])).bind fun p4 =>
 ((dStore tab p4.2 ty31 p4.1 t21).bind fun h' => some ((.und : D), h')).bind fun p910 =>
 (dFieldAddr tab ty31 4 t3).bind fun t22 =>
 (dLoad tab p910.2 ty28 t22).bind fun t23 =>
 (dLenT tab ty28 t23).bind fun t24 =>
 (some (.int .i64 0 : D)).bind fun t25 =>
 ((loopW (F1038_L0 t3 p4 t24) [.any, t25, .any] p910.2).bind fun r =>
 some ((unblk 0 r.1), [(nth 0 r.2.1), (nth 1 r.2.1), (nth 2 r.2.1)], r.2.2)).bind fun r_1 =>
 toEnd r_1.1 ((some t0).bind fun t47 =>
 (pLitF tab ty98 3 [0, 1, 2] [.str [115, 97, 109, 112, 108, 101], .str [116, 111, 111, 45, 108, 111, 110, 103], .str [114, 49]]).bind fun t48 =>
 (R fn40 [t47, t48] r_1.2.2).bind fun p49 =>
 (dLoad tab p49.2 ty31 p4.1).bind fun t50 =>
 (dBuild tab ty74 [0, 1] [p49.1, t50]).bind fun t51 =>
 chk (dLoad tab r_1.2.2 ty31 p4.1 = some t50)
 (((dStore tab p49.2 ty74 p2.1 t51).bind fun h' => some ((.und : D), h')).bind fun p905 =>
 ((some (p2.1 : D)).bind fun p => (dLoad tab p905.2 ty74 p).bind fun d => (some ([] : List D)).bind fun ds => some (d :: ds)).bind fun ds => scope h p905.2 (mkRes ds))) fun x => exEnd x (((some (p2.1 : D)).bind fun p => (dLoad tab r_1.2.2 ty74 p).bind fun d => (some ([] : List D)).bind fun ds => some (d :: ds)).bind fun ds => scope h r_1.2.2 (mkRes ds)))
theorem e1038 (t0 : D) (h : Hp) : R fn1038 [t0] h = F1038 t0 h :=
  (run_fn (X := X) (F := Fs) (fi := i8) (by kernel_rfl) _ _).trans (by kernel_rfl)
noncomputable def F1123_L0 (p5 : D × Hp) (ds : List D) (h_1 : Hp) : Option Out :=
 (dFieldAddr tab ty31 4 p5.1).bind fun t19 =>
 (dLoad tab h_1 ty28 t19).bind fun t20 =>
 (dLenT tab ty28 t20).bind fun t21 =>
 (dBin tab .gtr ty3 t21 (.int .i64 0)).bind fun t22 =>
 (some t22).bind fun t23 =>
 (gd t23 true (dFieldAddr tab ty31 4 p5.1)).bind fun t24 =>
 (gd t23 true (dLoad tab h_1 ty28 t24)).bind fun t25 =>
 (gd t23 true (dLenT tab ty28 t25)).bind fun t26 =>
 (gd t23 true (dBin tab .leq ty3 t26 (.int .i64 40))).bind fun t27 =>
 (dPick t23 t27 (.bool false)).bind fun t28 =>
 dIf t28
   ((dFieldAddr tab ty31 4 p5.1).bind fun t29 =>
 (dLoad tab h_1 ty28 t29).bind fun t30 =>
 (dFieldAddr tab ty31 4 p5.1).bind fun t31 =>
 (dLoad tab h_1 ty28 t31).bind fun t32 =>
 (dLenT tab ty28 t32).bind fun t33 =>
 (dBin tab .sub ty3 t33 (.int .i64 1)).bind fun t34 =>
 (dIndexAddr tab ty28 t30 t34).bind fun t35 =>
 (dLoad tab h_1 ty78 t35).bind fun t36 =>
 (boxN 3 t36).bind fun t6 =>
 (dFieldAddr tab ty31 4 p5.1).bind fun t37 =>
 (dLoad tab h_1 ty28 t37).bind fun t38 =>
 (dFieldAddr tab ty78 0 t6).bind fun t39 =>
 (dLoad tab h_1 ty3 t39).bind fun t40 =>
 (dFieldAddr tab ty78 1 t6).bind fun t41 =>
 (dLoad tab h_1 ty3 t41).bind fun t42 =>
 (dBin tab .add ty3 t40 t42).bind fun t43 =>
 (dBuild tab ty78 [0, 1] [t43, .int .i64 1]).bind fun t44 =>
 (pLitF tab ty28 1 [0] [t44]).bind fun t45 =>
 (dAppend tab h_1 ty28 ty28 t38 t45).bind fun p46 =>
 (dFieldAddr tab ty31 4 p5.1).bind fun t47 =>
 ((dStore tab p46.2 ty28 t47 p46.1).bind fun h' => some ((.und : D), h')).bind fun p911_3 =>
 (dFieldAddr tab ty31 3 p5.1).bind fun t48 =>
 (dLoad tab p911_3.2 ty3 t48).bind fun t49 =>
 (dBin tab .add ty3 t49 (.int .i64 1)).bind fun t50 =>
 (dFieldAddr tab ty31 3 p5.1).bind fun t51 =>
 ((dStore tab p911_3.2 ty3 t51 t50).bind fun h' => some ((.und : D), h')).bind fun p904_4 =>
 some (.nrm, [t6, t28], p904_4.2))
   (some ((.ext 1), [(nth 0 ds), t28], h_1))
noncomputable def F1123 (t0 : D) (t1 : D) (h : Hp) : Option (D × Hp) :=
  (wBox ty74 11 h t1).bind fun p3 =>
 (some ((.ptr p3.2.length 0 0 : D), dNew p3.2 ty74 11 [[.str [], .int .i64 0, .int .i64 0, .int .i64 0, .int .i64 0, .nils, .int .i64 0, .int .i64 0, .str [], .str [], .nils]])).bind fun p4 =>
 (dFieldAddr tab ty74 1 p3.1).bind fun t7 =>
 (dLoad tab p4.2 ty31 t7).bind fun t8 =>
 (some ((.ptr p4.2.length 0 0 : D), dNew p4.2 ty31 10 [[.int .i64 0, .int .i64 0, .int .i64 0, .int .i64 0, .nils, .int .i64 0, .int .i64 0, .str [], .str [], .nils]])).bind fun p5 =>
 ((dStore tab p5.2 ty31 p5.1 t8).bind fun h' => some ((.und : D), h')).bind fun p903 =>
 (dFieldAddr tab ty31 4 p5.1).bind fun t9 =>
 (dLoad tab p903.2 ty28 t9).bind fun t10 =>
 (dAppend tab p903.2 ty28 ty28 (.nils) t10).bind fun p11 =>
 (dFieldAddr tab ty31 4 p5.1).bind fun t12 =>
 ((dStore tab p11.2 ty28 t12 p11.1).bind fun h' => some ((.und : D), h')).bind fun p904 =>
 (dFieldAddr tab ty31 9 p5.1).bind fun t13 =>
 (dLoad tab p904.2 ty29 t13).bind fun t14 =>
 (dAppend tab p904.2 ty29 ty29 (.nils) t14).bind fun p15 =>
 (dFieldAddr tab ty31 9 p5.1).bind fun t16 =>
 ((dStore tab p15.2 ty29 t16 p15.1).bind fun h' => some ((.und : D), h')).bind fun p904_1 =>
 (some t0).bind fun t17 =>
 (R fn39 [t17, .int .i64 13] p904_1.2).bind fun p18 =>
 (dBin tab .eql ty3 p18.1 (.int .i64 0)).bind fun t53 =>
 (some t53).bind fun t52 =>
 (dIf t52
   ((some t0).bind fun t54 =>
 (R fn119 [t54] p18.2).bind fun p55 =>
 (dFieldAddr tab ty31 0 p5.1).bind fun t56 =>
 ((dStore tab p55.2 ty3 t56 p55.1).bind fun h' => some ((.und : D), h')).bind fun p903_1 =>
 some (.nrm, [.any, .any, .any, .any, .any, .any, .any, .any, .any, .any, .any, .any, .any, .any, .any], p903_1.2))
   ((dBin tab .eql ty3 p18.1 (.int .i64 1)).bind fun t58 =>
 (some t58).bind fun t57 =>
 (dIf t57
   ((some t0).bind fun t59 =>
 (R fn119 [t59] p18.2).bind fun p60 =>
 (dFieldAddr tab ty31 1 p5.1).bind fun t61 =>
 ((dStore tab p60.2 ty3 t61 p60.1).bind fun h' => some ((.und : D), h')).bind fun p903_2 =>
 some (.nrm, [.any, .any, .any, .any, .any, .any, .any, .any, .any, .any, .any, .any, .any, .any], p903_2.2))
   ((dBin tab .eql ty3 p18.1 (.int .i64 2)).bind fun t63 =>
 (some t63).bind fun t62 =>
 (dIf t62
   ((some t0).bind fun t64 =>
 (R fn119 [t64] p18.2).bind fun p65 =>
 (dFieldAddr tab ty31 2 p5.1).bind fun t66 =>
 ((dStore tab p65.2 ty3 t66 p65.1).bind fun h' => some ((.und : D), h')).bind fun p903_3 =>
 some (.nrm, [.any, .any, .any, .any, .any, .any, .any, .any, .any, .any, .any, .any, .any], p903_3.2))
   ((dBin tab .eql ty3 p18.1 (.int .i64 3)).bind fun t68 =>
 (some t68).bind fun t67 =>
 (dIf t67
   ((some t0).bind fun t69 =>
 (R fn119 [t69] p18.2).bind fun p70 =>
 (dFieldAddr tab ty31 3 p5.1).bind fun t71 =>
 ((dStore tab p70.2 ty3 t71 p70.1).bind fun h' => some ((.und : D), h')).bind fun p903_4 =>
 some (.nrm, [.any, .any, .any, .any, .any, .any, .any, .any, .any, .any, .any, .any], p903_4.2))
   ((dBin tab .eql ty3 p18.1 (.int .i64 4)).bind fun t73 =>
 (some t73).bind fun t72 =>
 (dIf t72
   ((some t0).bind fun t74 =>
 (R fn119 [t74] p18.2).bind fun p75 =>
 (dFieldAddr tab ty31 5 p5.1).bind fun t76 =>
 ((dStore tab p75.2 ty3 t76 p75.1).bind fun h' => some ((.und : D), h')).bind fun p903_5 =>
 some (.nrm, [.any, .any, .any, .any, .any, .any, .any, .any, .any, .any, .any], p903_5.2))
   ((dBin tab .eql ty3 p18.1 (.int .i64 5)).bind fun t78 =>
 (some t78).bind fun t77 =>
 (dIf t77
   ((some t0).bind fun t79 =>
 (R fn119 [t79] p18.2).bind fun p80 =>
 (dFieldAddr tab ty31 6 p5.1).bind fun t81 =>
 ((dStore tab p80.2 ty3 t81 p80.1).bind fun h' => some ((.und : D), h')).bind fun p903_6 =>
 some (.nrm, [.any, .any, .any, .any, .any, .any, .any, .any, .any, .any], p903_6.2))
   ((dBin tab .eql ty3 p18.1 (.int .i64 6)).bind fun t83 =>
 (some t83).bind fun t82 =>
 (dIf t82
   ((dFieldAddr tab ty31 4 p5.1).bind fun t84 =>
 (dLoad tab p18.2 ty28 t84).bind fun t85 =>
 (dLenT tab ty28 t85).bind fun t86 =>
 (dBin tab .gtr ty3 t86 (.int .i64 0)).bind fun t87 =>
 (dIf t87
   ((dFieldAddr tab ty31 4 p5.1).bind fun t88 =>
 (dLoad tab p18.2 ty28 t88).bind fun t89 =>
 (some t0).bind fun t90 =>
 (dFieldAddr tab ty31 4 p5.1).bind fun t91 =>
 (dLoad tab p18.2 ty28 t91).bind fun t92 =>
 (dLenT tab ty28 t92).bind fun t93 =>
 (R fn39 [t90, t93] p18.2).bind fun p94 =>
 (some t0).bind fun t95 =>
 (R fn119 [t95] p94.2).bind fun p96 =>
 (dIndexAddr tab ty28 t89 p94.1).bind fun t97 =>
 (dFieldAddr tab ty78 0 t97).bind fun t98 =>
 ((dStore tab p96.2 ty3 t98 p96.1).bind fun h' => some ((.und : D), h')).bind fun p911 =>
 chk (dLoad tab p94.2 ty28 t88 = some t89)
 (chk (dLoad tab p96.2 ty28 t88 = some t89)
 (some (.nrm, ([] : List D), p911.2))))
   (some (.nrm, ([] : List D), p18.2))).bind fun r =>
 some (r.1, [.any, .any, t87, .any, .any, .any, .any, .any, .any], r.2.2))
   ((dBin tab .eql ty3 p18.1 (.int .i64 7)).bind fun t100 =>
 (some t100).bind fun t99 =>
 (dIf t99
   ((dFieldAddr tab ty31 4 p5.1).bind fun t101 =>
 (dLoad tab p18.2 ty28 t101).bind fun t102 =>
 (dLenT tab ty28 t102).bind fun t103 =>
 (dBin tab .gtr ty3 t103 (.int .i64 0)).bind fun t104 =>
 (dIf t104
   ((dFieldAddr tab ty31 4 p5.1).bind fun t105 =>
 (dLoad tab p18.2 ty28 t105).bind fun t106 =>
 (some t0).bind fun t107 =>
 (dFieldAddr tab ty31 4 p5.1).bind fun t108 =>
 (dLoad tab p18.2 ty28 t108).bind fun t109 =>
 (dLenT tab ty28 t109).bind fun t110 =>
 (R fn39 [t107, t110] p18.2).bind fun p111 =>
 (some t0).bind fun t112 =>
 (R fn119 [t112] p111.2).bind fun p113 =>
 (dIndexAddr tab ty28 t106 p111.1).bind fun t114 =>
 (dFieldAddr tab ty78 1 t114).bind fun t115 =>
 ((dStore tab p113.2 ty3 t115 p113.1).bind fun h' => some ((.und : D), h')).bind fun p911_1 =>
 chk (dLoad tab p111.2 ty28 t105 = some t106)
 (chk (dLoad tab p113.2 ty28 t105 = some t106)
 (some (.nrm, ([] : List D), p911_1.2))))
   (some (.nrm, ([] : List D), p18.2))).bind fun r_1 =>
 some (r_1.1, [.any, .any, t104, .any, .any, .any, .any], r_1.2.2))
   ((dBin tab .eql ty3 p18.1 (.int .i64 8)).bind fun t117 =>
 (some t117).bind fun t116 =>
 (dIf t116
   ((dFieldAddr tab ty31 4 p5.1).bind fun t118 =>
 ((dStore tab p18.2 ty28 t118 (.nils)).bind fun h' => some ((.und : D), h')).bind fun p901 =>
 some (.nrm, [.any, .any, .any, .any, .any], p901.2))
   ((dBin tab .eql ty3 p18.1 (.int .i64 9)).bind fun t120 =>
 (some t120).bind fun t119 =>
 (dIf t119
   ((dFieldAddr tab ty31 9 p5.1).bind fun t121 =>
 (dLoad tab p18.2 ty29 t121).bind fun t122 =>
 (some t0).bind fun t123 =>
 (pLitF tab ty98 4 [0, 1, 2, 3] [.str [97], .str [122, 122], .str [], .str [49]]).bind fun t124 =>
 (R fn40 [t123, t124] p18.2).bind fun p125 =>
 (some t0).bind fun t126 =>
 (R fn83 [t126, .int .i64 3] p125.2).bind fun p127 =>
 (dBuild tab ty109 [0, 1] [p125.1, p127.1]).bind fun t128 =>
 (pLitF tab ty29 1 [0] [t128]).bind fun t129 =>
 (dAppend tab p127.2 ty29 ty29 t122 t129).bind fun p130 =>
 chk (dLoad tab p125.2 ty29 t121 = some t122)
 (chk (dLoad tab p127.2 ty29 t121 = some t122)
 ((dFieldAddr tab ty31 9 p5.1).bind fun t131 =>
 ((dStore tab p130.2 ty29 t131 p130.1).bind fun h' => some ((.und : D), h')).bind fun p911_2 =>
 some (.nrm, [.any, .any, .any, .any], p911_2.2))))
   ((dBin tab .eql ty3 p18.1 (.int .i64 10)).bind fun t133 =>
 (some t133).bind fun t132 =>
 (dIf t132
   ((some t0).bind fun t134 =>
 (pLitF tab ty98 3 [0, 1, 2] [.str [], .str [114], .str [97, 98, 99, 100, 101, 102, 103, 104, 105, 106, 107, 108, 109, 110, 111, 112, 113, 114, 115, 116, 117, 118, 119, 120, 121, 122, 97, 98, 99, 100, 101, 102, 103]]).bind fun t135 =>
 (R fn40 [t134, t135] p18.2).bind fun p136 =>
 (dFieldAddr tab ty74 0 p3.1).bind fun t137 =>
 ((dStore tab p136.2 ty9 t137 p136.1).bind fun h' => some ((.und : D), h')).bind fun p904_2 =>
 some (.nrm, [.any, .any, .any], p904_2.2))
   ((dBin tab .eql ty3 p18.1 (.int .i64 11)).bind fun t139 =>
 (some t139).bind fun t138 =>
 (dIf t138
   ((some t0).bind fun t140 =>
 (pLitF tab ty98 2 [0, 1] [.str [120], .str [97, 98, 99, 100, 101, 102, 103, 104, 105, 106, 107, 108, 109, 110, 111, 112, 113, 114, 115, 116, 117, 118, 119, 120, 121, 122, 97, 98, 99, 100, 101, 102, 103]]).bind fun t141 =>
 (R fn40 [t140, t141] p18.2).bind fun p142 =>
 (dFieldAddr tab ty31 7 p5.1).bind fun t143 =>
 ((dStore tab p142.2 ty9 t143 p142.1).bind fun h' => some ((.und : D), h')).bind fun p904_3 =>
 some (.nrm, [.any, .any], p904_3.2))
   (((loopW (F1123_L0 p5) [.any, .any] p18.2).bind fun r_2 =>
 some ((unblk 1 r_2.1), [(nth 0 r_2.2.1), (nth 1 r_2.2.1)], r_2.2.2)).bind fun r_3 =>
 some (r_3.1, [(nth 0 r_3.2.1), (nth 1 r_3.2.1)], r_3.2.2))).bind fun r_4 =>
 some (r_4.1, [(nth 0 r_4.2.1), (nth 1 r_4.2.1), t138], r_4.2.2))).bind fun r_5 =>
 some (r_5.1, [(nth 0 r_5.2.1), (nth 1 r_5.2.1), t132, (nth 2 r_5.2.1)], r_5.2.2))).bind fun r_6 =>
 some (r_6.1, [(nth 0 r_6.2.1), (nth 1 r_6.2.1), t119, (nth 2 r_6.2.1), (nth 3 r_6.2.1)], r_6.2.2))).bind fun r_7 =>
 some (r_7.1, [(nth 0 r_7.2.1), (nth 1 r_7.2.1), .any, t116, (nth 2 r_7.2.1), (nth 3 r_7.2.1), (nth 4 r_7.2.1)], r_7.2.2))).bind fun r_8 =>
 some (r_8.1, [(nth 0 r_8.2.1), (nth 1 r_8.2.1), .any, t99, (nth 2 r_8.2.1), (nth 3 r_8.2.1), (nth 4 r_8.2.1), (nth 5 r_8.2.1), (nth 6 r_8.2.1)], r_8.2.2))).bind fun r_9 =>
 some (r_9.1, [(nth 0 r_9.2.1), (nth 1 r_9.2.1), t82, (nth 2 r_9.2.1), (nth 3 r_9.2.1), (nth 4 r_9.2.1), (nth 5 r_9.2.1), (nth 6 r_9.2.1), (nth 7 r_9.2.1), (nth 8 r_9.2.1)], r_9.2.2))).bind fun r_10 =>
 some (r_10.1, [(nth 0 r_10.2.1), (nth 1 r_10.2.1), t77, (nth 2 r_10.2.1), (nth 3 r_10.2.1), (nth 4 r_10.2.1), (nth 5 r_10.2.1), (nth 6 r_10.2.1), (nth 7 r_10.2.1), (nth 8 r_10.2.1), (nth 9 r_10.2.1)], r_10.2.2))).bind fun r_11 =>
 some (r_11.1, [(nth 0 r_11.2.1), (nth 1 r_11.2.1), t72, (nth 2 r_11.2.1), (nth 3 r_11.2.1), (nth 4 r_11.2.1), (nth 5 r_11.2.1), (nth 6 r_11.2.1), (nth 7 r_11.2.1), (nth 8 r_11.2.1), (nth 9 r_11.2.1), (nth 10 r_11.2.1)], r_11.2.2))).bind fun r_12 =>
 some (r_12.1, [(nth 0 r_12.2.1), (nth 1 r_12.2.1), t67, (nth 2 r_12.2.1), (nth 3 r_12.2.1), (nth 4 r_12.2.1), (nth 5 r_12.2.1), (nth 6 r_12.2.1), (nth 7 r_12.2.1), (nth 8 r_12.2.1), (nth 9 r_12.2.1), (nth 10 r_12.2.1), (nth 11 r_12.2.1)], r_12.2.2))).bind fun r_13 =>
 some (r_13.1, [(nth 0 r_13.2.1), (nth 1 r_13.2.1), t62, (nth 2 r_13.2.1), (nth 3 r_13.2.1), (nth 4 r_13.2.1), (nth 5 r_13.2.1), (nth 6 r_13.2.1), (nth 7 r_13.2.1), (nth 8 r_13.2.1), (nth 9 r_13.2.1), (nth 10 r_13.2.1), (nth 11 r_13.2.1), (nth 12 r_13.2.1)], r_13.2.2))).bind fun r_14 =>
 some (r_14.1, [(nth 0 r_14.2.1), (nth 1 r_14.2.1), t57, (nth 2 r_14.2.1), (nth 3 r_14.2.1), (nth 4 r_14.2.1), (nth 5 r_14.2.1), (nth 6 r_14.2.1), (nth 7 r_14.2.1), (nth 8 r_14.2.1), (nth 9 r_14.2.1), (nth 10 r_14.2.1), (nth 11 r_14.2.1), (nth 12 r_14.2.1), (nth 13 r_14.2.1)], r_14.2.2))).bind fun r_15 =>
 toEnd (unblk 0 r_15.1) ((dLoad tab r_15.2.2 ty31 p5.1).bind fun t144 =>
 (dFieldAddr tab ty74 1 p3.1).bind fun t145 =>
 ((dStore tab r_15.2.2 ty31 t145 t144).bind fun h' => some ((.und : D), h')).bind fun p902 =>
 (dLoad tab p902.2 ty74 p3.1).bind fun t146 =>
 ((dStore tab p902.2 ty74 p4.1 t146).bind fun h' => some ((.und : D), h')).bind fun p901_1 =>
 ((some (p4.1 : D)).bind fun p => (dLoad tab p901_1.2 ty74 p).bind fun d => (some ([] : List D)).bind fun ds => some (d :: ds)).bind fun ds => scope h p901_1.2 (mkRes ds)) fun x => exEnd x (((some (p4.1 : D)).bind fun p => (dLoad tab r_15.2.2 ty74 p).bind fun d => (some ([] : List D)).bind fun ds => some (d :: ds)).bind fun ds => scope h r_15.2.2 (mkRes ds))
theorem e1123 (t0 : D) (t1 : D) (h : Hp) : R fn1123 [t0, t1] h = F1123 t0 t1 h :=
  (run_fn (X := X) (F := Fs) (fi := i9) (by kernel_rfl) _ _).trans (by kernel_rfl)
noncomputable def F75 (t0 : D) (t1 : D) (h : Hp) : Option (D × Hp) :=
  (pBoxF t0).bind fun t2 =>
 (some (.str [] : D)).bind fun t4 =>
 (some (.bool false : D)).bind fun t5 =>
 (dFieldAddr tab ty31 9 t2).bind fun t6 =>
 (dLoad tab h ty29 t6).bind fun t7 =>
 (some t1).bind fun t8 =>
 (R fn70 [t7, t8] h).bind fun p9 =>
 (dExtract 0 p9.1).bind fun t10 =>
 (dExtract 1 p9.1).bind fun t11 =>
 (some t10).bind fun t4_1 =>
 (some t11).bind fun t5_1 =>
 ((some t4_1).bind fun d => ((some t5_1).bind fun d => (some ([] : List D)).bind fun ds => some (d :: ds)).bind fun ds => some (d :: ds)).bind fun ds => some (mkRes ds, p9.2)
theorem e75 (t0 : D) (t1 : D) (h : Hp) : R fn75 [t0, t1] h = F75 t0 t1 h :=
  (run_fn (X := X) (F := Fs) (fi := i10) (by kernel_rfl) _ _).trans (by kernel_rfl)
noncomputable def F1124 (t0 : D) (t1 : D) (h : Hp) : Option (D × Hp) :=
  (pBoxF t0).bind fun t2 =>
 (some (.str [] : D)).bind fun t4 =>
 (some (.bool false : D)).bind fun t5 =>
 (dFieldAddr tab ty31 9 t2).bind fun t6 =>
 (dLoad tab h ty29 t6).bind fun t7 =>
 (some t1).bind fun t8 =>
 (R fn76 [t7, t8] h).bind fun p9 =>
 (dExtract 0 p9.1).bind fun t10 =>
 (dExtract 1 p9.1).bind fun t11 =>
 (some t10).bind fun t4_1 =>
 (some t11).bind fun t5_1 =>
 ((some t4_1).bind fun d => ((some t5_1).bind fun d => (some ([] : List D)).bind fun ds => some (d :: ds)).bind fun ds => some (d :: ds)).bind fun ds => some (mkRes ds, p9.2)
theorem e1124 (t0 : D) (t1 : D) (h : Hp) : R fn1124 [t0, t1] h = F1124 t0 t1 h :=
  (run_fn (X := X) (F := Fs) (fi := i11) (by kernel_rfl) _ _).trans (by kernel_rfl)
noncomputable def F1043 (t0 : D) (h : Hp) : Option (D × Hp) :=
  (pBoxF t0).bind fun t1 =>
 (some (.int .i64 0 : D)).bind fun t2 =>
 (dLoad tab h ty31 t1).bind fun t7 =>
 (R fn1047 [t7] h).bind fun p8 =>
 (dUn .not p8.1).bind fun t9 =>
 (some t9).bind fun t10 =>
 (gd t10 false (dFieldAddr tab ty31 5 t1)).bind fun t11 =>
 (gd t10 false (dLoad tab p8.2 ty3 t11)).bind fun t12 =>
 (gdW t10 false p8.2 (R fn1051 [t12, .int .i64 0, .int .i64 253402300799999] p8.2)).bind fun p13 =>
 (gd t10 false (dUn .not p13.1)).bind fun t14 =>
 (dPick t10 (.bool true) t14).bind fun t15 =>
 (some t15).bind fun t6 =>
 dIf t6
   ((some (.int .i64 2 : D)).bind fun t2_1 =>
 ((some t2_1).bind fun d => (some ([] : List D)).bind fun ds => some (d :: ds)).bind fun ds => scope h p13.2 (mkRes ds))
   ((dFieldAddr tab ty31 6 t1).bind fun t17 =>
 (dLoad tab p13.2 ty3 t17).bind fun t18 =>
 (dBin tab .lss ty3 t18 (.int .i64 1)).bind fun t19 =>
 (some t19).bind fun t20 =>
 (gd t20 false (dFieldAddr tab ty31 6 t1)).bind fun t21 =>
 (gd t20 false (dLoad tab p13.2 ty3 t21)).bind fun t22 =>
 (gd t20 false (dBin tab .rem ty3 (.int .i64 5040) t22)).bind fun t23 =>
 (gd t20 false (dBin tab .neq ty3 t23 (.int .i64 0))).bind fun t24 =>
 (dPick t20 (.bool true) t24).bind fun t25 =>
 (some t25).bind fun t16 =>
 dIf t16
   ((some (.int .i64 21 : D)).bind fun t2_2 =>
 ((some t2_2).bind fun d => (some ([] : List D)).bind fun ds => some (d :: ds)).bind fun ds => scope h p13.2 (mkRes ds))
   ((dLoad tab p13.2 ty31 t1).bind fun t26 =>
 (R fn1048 [t26, .int .i64 2000] p13.2).bind fun p27 =>
 (some p27.1).bind fun t3 =>
 (some t3).bind fun t28 =>
 (dBin tab .neq ty49 t28 (.int .i64 0)).bind fun t29 =>
 dIf t29
   ((some t3).bind fun t30 =>
 (some t30).bind fun t2_3 =>
 ((some t2_3).bind fun d => (some ([] : List D)).bind fun ds => some (d :: ds)).bind fun ds => scope h p27.2 (mkRes ds))
   ((dFieldAddr tab ty31 7 t1).bind fun t31 =>
 (dLoad tab p27.2 ty9 t31).bind fun t32 =>
 (dLenT tab ty9 t32).bind fun t33 =>
 (dBin tab .gtr ty3 t33 (.int .i64 32)).bind fun t34 =>
 (some t34).bind fun t35 =>
 (gd t35 false (dFieldAddr tab ty31 8 t1)).bind fun t36 =>
 (gd t35 false (dLoad tab p27.2 ty9 t36)).bind fun t37 =>
 (gd t35 false (dLenT tab ty9 t37)).bind fun t38 =>
 (gd t35 false (dBin tab .gtr ty3 t38 (.int .i64 32))).bind fun t39 =>
 (dPick t35 (.bool true) t39).bind fun t40 =>
 dIf t40
   ((some (.int .i64 3 : D)).bind fun t2_4 =>
 ((some t2_4).bind fun d => (some ([] : List D)).bind fun ds => some (d :: ds)).bind fun ds => scope h p27.2 (mkRes ds))
   ((dFieldAddr tab ty31 9 t1).bind fun t42 =>
 (dLoad tab p27.2 ty29 t42).bind fun t43 =>
 (R fn1052 [t43] p27.2).bind fun p44 =>
 (some p44.1).bind fun t41 =>
 (dExtract 0 t41).bind fun t45 =>
 (dExtract 1 t41).bind fun t46 =>
 (some t45).bind fun t4 =>
 (some t46).bind fun t5 =>
 (some t5).bind fun t47 =>
 (dBin tab .neq ty49 t47 (.int .i64 0)).bind fun t48 =>
 dIf t48
   ((some t5).bind fun t49 =>
 (some t49).bind fun t2_5 =>
 ((some t2_5).bind fun d => (some ([] : List D)).bind fun ds => some (d :: ds)).bind fun ds => scope h p44.2 (mkRes ds))
   ((some t4).bind fun t50 =>
 (dFieldAddr tab ty31 9 t1).bind fun t51 =>
 (dLoad tab p44.2 ty29 t51).bind fun t52 =>
 (R fn1053 [t50, t52] p44.2).bind fun p53 =>
 (dUn .not p53.1).bind fun t54 =>
 dIf t54
   ((some (.int .i64 19 : D)).bind fun t2_6 =>
 ((some t2_6).bind fun d => (some ([] : List D)).bind fun ds => some (d :: ds)).bind fun ds => scope h p53.2 (mkRes ds))
   ((some t4).bind fun t55 =>
 (R fn1054 [t55, .fn (.func fn1055) [] []] p53.2).bind fun p56 =>
 dIf p56.1
   ((some (.int .i64 3 : D)).bind fun t2_7 =>
 ((some t2_7).bind fun d => (some ([] : List D)).bind fun ds => some (d :: ds)).bind fun ds => scope h p56.2 (mkRes ds))
   ((some (.int .i64 0 : D)).bind fun t2_8 =>
 ((some t2_8).bind fun d => (some ([] : List D)).bind fun ds => some (d :: ds)).bind fun ds => scope h p56.2 (mkRes ds))))))))
theorem e1043 (t0 : D) (h : Hp) : R fn1043 [t0] h = F1043 t0 h :=
  (run_fn (X := X) (F := Fs) (fi := i12) (by kernel_rfl) _ _).trans (by kernel_rfl)
noncomputable def F1010_L0 (t5 : D) (ds : List D) (h_1 : Hp) : Option Out :=
 (some (nth 1 ds)).bind fun t55 =>
 (some t5).bind fun t56 =>
 (dLenT tab ty29 t56).bind fun t57 =>
 (dBin tab .lss ty3 t55 t57).bind fun t58 =>
 dIf t58
   ((some t5).bind fun t61 =>
 (some (nth 1 ds)).bind fun t62 =>
 (dIndexAddr tab ty29 t61 t62).bind fun t63 =>
 (dFieldAddr tab ty109 1 t63).bind fun t64 =>
 (dLoad tab h_1 ty9 t64).bind fun t65 =>
 (dLenT tab ty9 t65).bind fun t66 =>
 (dBin tab .gtr ty3 t66 (.int .i64 2000)).bind fun t67 =>
 dIf t67
   ((some (.int .i64 3 : D)).bind fun t2_7 =>
 some (.ret, [t2_7, (nth 1 ds), t58, t67], h_1))
   ((some (nth 1 ds)).bind fun t59 =>
 (dBin tab .add ty3 t59 (.int .i64 1)).bind fun t60 =>
 (some t60).bind fun t7_1 =>
 some (.nrm, [(nth 0 ds), t7_1, t58, t67], h_1)))
   (some ((.ext 0), [(nth 0 ds), (nth 1 ds), t58, (nth 3 ds)], h_1))
noncomputable def F1010 (t0 : D) (h : Hp) : Option (D × Hp) :=
  (pBoxF t0).bind fun t1 =>
 (some (.int .i64 0 : D)).bind fun t2 =>
 (dLoad tab h ty31 t1).bind fun t8 =>
 (R fn1011 [t8] h).bind fun p9 =>
 (some p9.1).bind fun t3 =>
 (some t3).bind fun t10 =>
 (dBin tab .neq ty49 t10 (.int .i64 0)).bind fun t11 =>
 (some t11).bind fun t12 =>
 (gd t12 false (dFieldAddr tab ty31 5 t1)).bind fun t13 =>
 (gd t12 false (dLoad tab p9.2 ty3 t13)).bind fun t14 =>
 (gd t12 false (dBin tab .lss ty3 t14 (.int .i64 0))).bind fun t15 =>
 (dPick t12 (.bool true) t15).bind fun t16 =>
 (some t16).bind fun t17 =>
 (gd t17 false (dFieldAddr tab ty31 5 t1)).bind fun t18 =>
 (gd t17 false (dLoad tab p9.2 ty3 t18)).bind fun t19 =>
 (gd t17 false (dBin tab .gtr ty3 t19 (.int .i64 253402300799999))).bind fun t20 =>
 (dPick t17 (.bool true) t20).bind fun t21 =>
 dIf t21
   ((some (.int .i64 2 : D)).bind fun t2_1 =>
 ((some t2_1).bind fun d => (some ([] : List D)).bind fun ds => some (d :: ds)).bind fun ds => some (mkRes ds, p9.2))
   ((dFieldAddr tab ty31 6 t1).bind fun t22 =>
 (dLoad tab p9.2 ty3 t22).bind fun t23 =>
 (R fn1014 [t23] p9.2).bind fun p24 =>
 (dUn .not p24.1).bind fun t25 =>
 dIf t25
   ((some (.int .i64 21 : D)).bind fun t2_2 =>
 ((some t2_2).bind fun d => (some ([] : List D)).bind fun ds => some (d :: ds)).bind fun ds => some (mkRes ds, p24.2))
   ((dLoad tab p24.2 ty31 t1).bind fun t26 =>
 (R fn1012 [t26, .int .i64 2000] p24.2).bind fun p27 =>
 (some p27.1).bind fun t4 =>
 (some t4).bind fun t28 =>
 (dBin tab .neq ty49 t28 (.int .i64 0)).bind fun t29 =>
 dIf t29
   ((some t4).bind fun t30 =>
 (some t30).bind fun t2_3 =>
 ((some t2_3).bind fun d => (some ([] : List D)).bind fun ds => some (d :: ds)).bind fun ds => some (mkRes ds, p27.2))
   ((dFieldAddr tab ty31 7 t1).bind fun t31 =>
 (dLoad tab p27.2 ty9 t31).bind fun t32 =>
 (dLenT tab ty9 t32).bind fun t33 =>
 (dBin tab .gtr ty3 t33 (.int .i64 32)).bind fun t34 =>
 (some t34).bind fun t35 =>
 (gd t35 false (dFieldAddr tab ty31 8 t1)).bind fun t36 =>
 (gd t35 false (dLoad tab p27.2 ty9 t36)).bind fun t37 =>
 (gd t35 false (dLenT tab ty9 t37)).bind fun t38 =>
 (gd t35 false (dBin tab .gtr ty3 t38 (.int .i64 32))).bind fun t39 =>
 (dPick t35 (.bool true) t39).bind fun t40 =>
 dIf t40
   ((some (.int .i64 3 : D)).bind fun t2_4 =>
 ((some t2_4).bind fun d => (some ([] : List D)).bind fun ds => some (d :: ds)).bind fun ds => some (mkRes ds, p27.2))
   ((dFieldAddr tab ty31 9 t1).bind fun t42 =>
 (dLoad tab p27.2 ty29 t42).bind fun t43 =>
 (R fn1015 [t43] p27.2).bind fun p44 =>
 (some p44.1).bind fun t41 =>
 (dExtract 0 t41).bind fun t45 =>
 (dExtract 1 t41).bind fun t46 =>
 (some t45).bind fun t5 =>
 (some t46).bind fun t6 =>
 (some t6).bind fun t47 =>
 (dBin tab .neq ty49 t47 (.int .i64 0)).bind fun t48 =>
 dIf t48
   ((some t6).bind fun t49 =>
 (some t49).bind fun t2_5 =>
 ((some t2_5).bind fun d => (some ([] : List D)).bind fun ds => some (d :: ds)).bind fun ds => some (mkRes ds, p44.2))
   ((some t5).bind fun t50 =>
 (dFieldAddr tab ty31 9 t1).bind fun t51 =>
 (dLoad tab p44.2 ty29 t51).bind fun t52 =>
 (R fn95 [t50, t52] p44.2).bind fun p53 =>
 (dUn .not p53.1).bind fun t54 =>
 dIf t54
   ((some (.int .i64 19 : D)).bind fun t2_6 =>
 ((some t2_6).bind fun d => (some ([] : List D)).bind fun ds => some (d :: ds)).bind fun ds => some (mkRes ds, p53.2))
   ((some (.int .i64 0 : D)).bind fun t7 =>
 ((loopW (F1010_L0 t5) [t2, t7, .any, .any] p53.2).bind fun r =>
 some ((unblk 0 r.1), [(nth 0 r.2.1), (nth 1 r.2.1), (nth 2 r.2.1), (nth 3 r.2.1)], r.2.2)).bind fun r_1 =>
 toEnd r_1.1 ((some (.int .i64 0 : D)).bind fun t2_8 =>
 ((some t2_8).bind fun d => (some ([] : List D)).bind fun ds => some (d :: ds)).bind fun ds => some (mkRes ds, r_1.2.2)) fun x => exEnd x (((some (nth 0 r_1.2.1)).bind fun d => (some ([] : List D)).bind fun ds => some (d :: ds)).bind fun ds => some (mkRes ds, r_1.2.2))))))))
theorem e1010 (t0 : D) (h : Hp) : R fn1010 [t0] h = F1010 t0 h :=
  (run_fn (X := X) (F := Fs) (fi := i13) (by kernel_rfl) _ _).trans (by kernel_rfl)
noncomputable def F1042 (t0 : D) (h : Hp) : Option (D × Hp) :=
  (pBoxF t0).bind fun t1 =>
 (some (.int .i64 0 : D)).bind fun t2 =>
 (dFieldAddr tab ty74 1 t1).bind fun t5 =>
 (dLoad tab h ty31 t5).bind fun t6 =>
 (boxN 10 t6).bind fun t3 =>
 (dFieldAddr tab ty74 0 t1).bind fun t8 =>
 (dLoad tab h ty9 t8).bind fun t9 =>
 (dBin tab .eql ty9 t9 (.str [])).bind fun t10 =>
 (some t10).bind fun t7 =>
 dIf t7
   ((dLoad tab h ty31 t3).bind fun t11 =>
 (R fn1043 [t11] h).bind fun p12 =>
 (some p12.1).bind fun t2_1 =>
 ((some t2_1).bind fun d => (some ([] : List D)).bind fun ds => some (d :: ds)).bind fun ds => some (mkRes ds, p12.2))
   ((dFieldAddr tab ty74 0 t1).bind fun t14 =>
 (dLoad tab h ty9 t14).bind fun t15 =>
 (dLenT tab ty9 t15).bind fun t16 =>
 (dBin tab .gtr ty3 t16 (.int .i64 32)).bind fun t17 =>
 (some t17).bind fun t13 =>
 dIf t13
   ((some (.int .i64 3 : D)).bind fun t2_2 =>
 ((some t2_2).bind fun d => (some ([] : List D)).bind fun ds => some (d :: ds)).bind fun ds => some (mkRes ds, h))
   ((dLoad tab h ty31 t3).bind fun t19 =>
 (R fn1047 [t19] h).bind fun p20 =>
 (dUn .not p20.1).bind fun t21 =>
 (some t21).bind fun t18 =>
 dIf t18
   ((some (.int .i64 2 : D)).bind fun t2_3 =>
 ((some t2_3).bind fun d => (some ([] : List D)).bind fun ds => some (d :: ds)).bind fun ds => some (mkRes ds, p20.2))
   ((dLoad tab p20.2 ty31 t3).bind fun t22 =>
 (R fn1048 [t22, .int .i64 60000] p20.2).bind fun p23 =>
 (some p23.1).bind fun t4 =>
 (some t4).bind fun t24 =>
 (dBin tab .eql ty49 t24 (.int .i64 9)).bind fun t25 =>
 (some t25).bind fun t26 =>
 (gd t26 false (some t4)).bind fun t27 =>
 (gd t26 false (dBin tab .eql ty49 t27 (.int .i64 4))).bind fun t28 =>
 (dPick t26 (.bool true) t28).bind fun t29 =>
 (some t29).bind fun t30 =>
 (gd t30 false (some t4)).bind fun t31 =>
 (gd t30 false (dBin tab .eql ty49 t31 (.int .i64 19))).bind fun t32 =>
 (dPick t30 (.bool true) t32).bind fun t33 =>
 dIf t33
   ((some t4).bind fun t34 =>
 (some t34).bind fun t2_4 =>
 ((some t2_4).bind fun d => (some ([] : List D)).bind fun ds => some (d :: ds)).bind fun ds => some (mkRes ds, p23.2))
   ((dFieldAddr tab ty31 5 t3).bind fun t35 =>
 (dLoad tab p23.2 ty3 t35).bind fun t36 =>
 (dBin tab .neq ty3 t36 (.int .i64 0)).bind fun t37 =>
 (some t37).bind fun t38 =>
 (gd t38 false (dFieldAddr tab ty31 6 t3)).bind fun t39 =>
 (gd t38 false (dLoad tab p23.2 ty3 t39)).bind fun t40 =>
 (gd t38 false (dBin tab .neq ty3 t40 (.int .i64 0))).bind fun t41 =>
 (dPick t38 (.bool true) t41).bind fun t42 =>
 (some t42).bind fun t43 =>
 (gd t43 false (dFieldAddr tab ty31 7 t3)).bind fun t44 =>
 (gd t43 false (dLoad tab p23.2 ty9 t44)).bind fun t45 =>
 (gd t43 false (dBin tab .neq ty9 t45 (.str []))).bind fun t46 =>
 (dPick t43 (.bool true) t46).bind fun t47 =>
 (some t47).bind fun t48 =>
 (gd t48 false (dFieldAddr tab ty31 8 t3)).bind fun t49 =>
 (gd t48 false (dLoad tab p23.2 ty9 t49)).bind fun t50 =>
 (gd t48 false (dBin tab .neq ty9 t50 (.str []))).bind fun t51 =>
 (dPick t48 (.bool true) t51).bind fun t52 =>
 (some t52).bind fun t53 =>
 (gd t53 false (dFieldAddr tab ty31 9 t3)).bind fun t54 =>
 (gd t53 false (dLoad tab p23.2 ty29 t54)).bind fun t55 =>
 (gd t53 false (dLenT tab ty29 t55)).bind fun t56 =>
 (gd t53 false (dBin tab .neq ty3 t56 (.int .i64 0))).bind fun t57 =>
 (dPick t53 (.bool true) t57).bind fun t58 =>
 (some t58).bind fun t59 =>
 (gd t59 false (dFieldAddr tab ty31 4 t3)).bind fun t60 =>
 (gd t59 false (dLoad tab p23.2 ty28 t60)).bind fun t61 =>
 (gdW t59 false p23.2 (R fn1049 [t61, .fn (.func fn1050) [] []] p23.2)).bind fun p62 =>
 (dPick t59 (.bool true) p62.1).bind fun t63 =>
 dIf t63
   ((some (.int .i64 19 : D)).bind fun t2_5 =>
 ((some t2_5).bind fun d => (some ([] : List D)).bind fun ds => some (d :: ds)).bind fun ds => some (mkRes ds, p62.2))
   ((some (.int .i64 0 : D)).bind fun t2_6 =>
 ((some t2_6).bind fun d => (some ([] : List D)).bind fun ds => some (d :: ds)).bind fun ds => some (mkRes ds, p62.2))))))
theorem e1042 (t0 : D) (h : Hp) : R fn1042 [t0] h = F1042 t0 h :=
  (run_fn (X := X) (F := Fs) (fi := i14) (by kernel_rfl) _ _).trans (by kernel_rfl)
noncomputable def F1004_L0 (t3 : D) (ds : List D) (h_1 : Hp) : Option Out :=
 (some (nth 1 ds)).bind fun t57 =>
 (dFieldAddr tab ty31 4 t3).bind fun t58 =>
 (dLoad tab h_1 ty28 t58).bind fun t59 =>
 (dLenT tab ty28 t59).bind fun t60 =>
 (dBin tab .lss ty3 t57 t60).bind fun t61 =>
 dIf t61
   ((dFieldAddr tab ty31 4 t3).bind fun t64 =>
 (dLoad tab h_1 ty28 t64).bind fun t65 =>
 (some (nth 1 ds)).bind fun t66 =>
 (dIndexAddr tab ty28 t65 t66).bind fun t67 =>
 (dFieldAddr tab ty78 2 t67).bind fun t68 =>
 (dLoad tab h_1 ty9 t68).bind fun t69 =>
 (dBin tab .neq ty9 t69 (.str [])).bind fun t70 =>
 dIf t70
   ((some (.int .i64 19 : D)).bind fun t2_6 =>
 some (.ret, [t2_6, (nth 1 ds), t61, t70], h_1))
   ((some (nth 1 ds)).bind fun t62 =>
 (dBin tab .add ty3 t62 (.int .i64 1)).bind fun t63 =>
 (some t63).bind fun t6_1 =>
 some (.nrm, [(nth 0 ds), t6_1, t61, t70], h_1)))
   (some ((.ext 0), [(nth 0 ds), (nth 1 ds), t61, (nth 3 ds)], h_1))
noncomputable def F1004 (t0 : D) (h : Hp) : Option (D × Hp) :=
  (pBoxF t0).bind fun t1 =>
 (some (.int .i64 0 : D)).bind fun t2 =>
 (dFieldAddr tab ty74 0 t1).bind fun t7 =>
 (dLoad tab h ty9 t7).bind fun t8 =>
 (dBin tab .eql ty9 t8 (.str [])).bind fun t9 =>
 dIf t9
   ((dFieldAddr tab ty74 1 t1).bind fun t10 =>
 (dLoad tab h ty31 t10).bind fun t11 =>
 (R fn1010 [t11] h).bind fun p12 =>
 (some p12.1).bind fun t2_1 =>
 ((some t2_1).bind fun d => (some ([] : List D)).bind fun ds => some (d :: ds)).bind fun ds => some (mkRes ds, p12.2))
   ((dFieldAddr tab ty74 0 t1).bind fun t13 =>
 (dLoad tab h ty9 t13).bind fun t14 =>
 (dLenT tab ty9 t14).bind fun t15 =>
 (dBin tab .gtr ty3 t15 (.int .i64 32)).bind fun t16 =>
 dIf t16
   ((some (.int .i64 3 : D)).bind fun t2_2 =>
 ((some t2_2).bind fun d => (some ([] : List D)).bind fun ds => some (d :: ds)).bind fun ds => some (mkRes ds, h))
   ((dFieldAddr tab ty74 1 t1).bind fun t17 =>
 (dLoad tab h ty31 t17).bind fun t18 =>
 (boxN 10 t18).bind fun t3 =>
 (dLoad tab h ty31 t3).bind fun t19 =>
 (R fn1011 [t19] h).bind fun p20 =>
 (some p20.1).bind fun t4 =>
 (some t4).bind fun t21 =>
 (dBin tab .neq ty49 t21 (.int .i64 0)).bind fun t22 =>
 dIf t22
   ((some t4).bind fun t23 =>
 (some t23).bind fun t2_3 =>
 ((some t2_3).bind fun d => (some ([] : List D)).bind fun ds => some (d :: ds)).bind fun ds => some (mkRes ds, p20.2))
   ((dLoad tab p20.2 ty31 t3).bind fun t24 =>
 (R fn1012 [t24, .int .i64 20000] p20.2).bind fun p25 =>
 (some p25.1).bind fun t5 =>
 (some t5).bind fun t26 =>
 (dBin tab .neq ty49 t26 (.int .i64 0)).bind fun t27 =>
 (some t27).bind fun t28 =>
 (gd t28 true (some t5)).bind fun t29 =>
 (gd t28 true (dBin tab .neq ty49 t29 (.int .i64 3))).bind fun t30 =>
 (dPick t28 t30 (.bool false)).bind fun t31 =>
 dIf t31
   ((some t5).bind fun t32 =>
 (some t32).bind fun t2_4 =>
 ((some t2_4).bind fun d => (some ([] : List D)).bind fun ds => some (d :: ds)).bind fun ds => some (mkRes ds, p25.2))
   ((dFieldAddr tab ty31 5 t3).bind fun t33 =>
 (dLoad tab p25.2 ty3 t33).bind fun t34 =>
 (dBin tab .neq ty3 t34 (.int .i64 0)).bind fun t35 =>
 (some t35).bind fun t36 =>
 (gd t36 false (dFieldAddr tab ty31 6 t3)).bind fun t37 =>
 (gd t36 false (dLoad tab p25.2 ty3 t37)).bind fun t38 =>
 (gd t36 false (dBin tab .neq ty3 t38 (.int .i64 0))).bind fun t39 =>
 (dPick t36 (.bool true) t39).bind fun t40 =>
 (some t40).bind fun t41 =>
 (gd t41 false (dFieldAddr tab ty31 7 t3)).bind fun t42 =>
 (gd t41 false (dLoad tab p25.2 ty9 t42)).bind fun t43 =>
 (gd t41 false (dBin tab .neq ty9 t43 (.str []))).bind fun t44 =>
 (dPick t41 (.bool true) t44).bind fun t45 =>
 (some t45).bind fun t46 =>
 (gd t46 false (dFieldAddr tab ty31 8 t3)).bind fun t47 =>
 (gd t46 false (dLoad tab p25.2 ty9 t47)).bind fun t48 =>
 (gd t46 false (dBin tab .neq ty9 t48 (.str []))).bind fun t49 =>
 (dPick t46 (.bool true) t49).bind fun t50 =>
 (some t50).bind fun t51 =>
 (gd t51 false (dFieldAddr tab ty31 9 t3)).bind fun t52 =>
 (gd t51 false (dLoad tab p25.2 ty29 t52)).bind fun t53 =>
 (gd t51 false (dLenT tab ty29 t53)).bind fun t54 =>
 (gd t51 false (dBin tab .neq ty3 t54 (.int .i64 0))).bind fun t55 =>
 (dPick t51 (.bool true) t55).bind fun t56 =>
 dIf t56
   ((some (.int .i64 19 : D)).bind fun t2_5 =>
 ((some t2_5).bind fun d => (some ([] : List D)).bind fun ds => some (d :: ds)).bind fun ds => some (mkRes ds, p25.2))
   ((some (.int .i64 0 : D)).bind fun t6 =>
 ((loopW (F1004_L0 t3) [t2, t6, .any, .any] p25.2).bind fun r =>
 some ((unblk 0 r.1), [(nth 0 r.2.1), (nth 1 r.2.1), (nth 2 r.2.1), (nth 3 r.2.1)], r.2.2)).bind fun r_1 =>
 toEnd r_1.1 ((some (.int .i64 0 : D)).bind fun t2_7 =>
 ((some t2_7).bind fun d => (some ([] : List D)).bind fun ds => some (d :: ds)).bind fun ds => some (mkRes ds, r_1.2.2)) fun x => exEnd x (((some (nth 0 r_1.2.1)).bind fun d => (some ([] : List D)).bind fun ds => some (d :: ds)).bind fun ds => some (mkRes ds, r_1.2.2)))))))
theorem e1004 (t0 : D) (h : Hp) : R fn1004 [t0] h = F1004 t0 h :=
  (run_fn (X := X) (F := Fs) (fi := i15) (by kernel_rfl) _ _).trans (by kernel_rfl)
noncomputable def F1037 (t0 : D) (t1 : D) (h : Hp) : Option (D × Hp) :=
  (pBoxF t0).bind fun t2 =>
 (pBoxF t1).bind fun t3 =>
 (some (.bool false : D)).bind fun t4 =>
 (dFieldAddr tab ty31 5 t2).bind fun t5 =>
 (dLoad tab h ty3 t5).bind fun t6 =>
 (dFieldAddr tab ty31 5 t3).bind fun t7 =>
 (dLoad tab h ty3 t7).bind fun t8 =>
 (R fn90 [t6, t8] h).bind fun p9 =>
 (dFieldAddr tab ty31 0 t2).bind fun t10 =>
 (dLoad tab p9.2 ty3 t10).bind fun t11 =>
 (dFieldAddr tab ty31 0 t3).bind fun t12 =>
 (dLoad tab p9.2 ty3 t12).bind fun t13 =>
 (R fn90 [t11, t13] p9.2).bind fun p14 =>
 (dFieldAddr tab ty31 1 t2).bind fun t15 =>
 (dLoad tab p14.2 ty3 t15).bind fun t16 =>
 (dFieldAddr tab ty31 1 t3).bind fun t17 =>
 (dLoad tab p14.2 ty3 t17).bind fun t18 =>
 (R fn90 [t16, t18] p14.2).bind fun p19 =>
 (dFieldAddr tab ty31 2 t2).bind fun t20 =>
 (dLoad tab p19.2 ty3 t20).bind fun t21 =>
 (dFieldAddr tab ty31 2 t3).bind fun t22 =>
 (dLoad tab p19.2 ty3 t22).bind fun t23 =>
 (R fn90 [t21, t23] p19.2).bind fun p24 =>
 (pLitF tab ty82 4 [0, 1, 2, 3] [p9.1, p14.1, p19.1, p24.1]).bind fun t25 =>
 (R fn89 [t25] p24.2).bind fun p26 =>
 (dBin tab .lss ty3 p26.1 (.int .i64 0)).bind fun t27 =>
 chk (dLoad tab h ty3 t10 = some t11)
 (chk (dLoad tab h ty3 t12 = some t13)
 (chk (dLoad tab h ty3 t15 = some t16)
 (chk (dLoad tab p9.2 ty3 t15 = some t16)
 (chk (dLoad tab h ty3 t17 = some t18)
 (chk (dLoad tab p9.2 ty3 t17 = some t18)
 (chk (dLoad tab h ty3 t20 = some t21)
 (chk (dLoad tab p9.2 ty3 t20 = some t21)
 (chk (dLoad tab p14.2 ty3 t20 = some t21)
 (chk (dLoad tab h ty3 t22 = some t23)
 (chk (dLoad tab p9.2 ty3 t22 = some t23)
 (chk (dLoad tab p14.2 ty3 t22 = some t23)
 ((some t27).bind fun t4_1 =>
 ((some t4_1).bind fun d => (some ([] : List D)).bind fun ds => some (d :: ds)).bind fun ds => some (mkRes ds, p26.2)))))))))))))
theorem e1037 (t0 : D) (t1 : D) (h : Hp) : R fn1037 [t0, t1] h = F1037 t0 t1 h :=
  (run_fn (X := X) (F := Fs) (fi := i16) (by kernel_rfl) _ _).trans (by kernel_rfl)
noncomputable def F85 (t0 : D) (t1 : D) (h : Hp) : Option (D × Hp) :=
  (pBoxF t0).bind fun t2 =>
 (pBoxF t1).bind fun t3 =>
 (some (.bool false : D)).bind fun t4 =>
 (dFieldAddr tab ty31 5 t2).bind fun t6 =>
 (dLoad tab h ty3 t6).bind fun t7 =>
 (dFieldAddr tab ty31 5 t3).bind fun t8 =>
 (dLoad tab h ty3 t8).bind fun t9 =>
 (dBin tab .neq ty3 t7 t9).bind fun t10 =>
 (some t10).bind fun t5 =>
 dIf t5
   ((dFieldAddr tab ty31 5 t2).bind fun t11 =>
 (dLoad tab h ty3 t11).bind fun t12 =>
 (dFieldAddr tab ty31 5 t3).bind fun t13 =>
 (dLoad tab h ty3 t13).bind fun t14 =>
 (dBin tab .lss ty3 t12 t14).bind fun t15 =>
 (some t15).bind fun t4_1 =>
 ((some t4_1).bind fun d => (some ([] : List D)).bind fun ds => some (d :: ds)).bind fun ds => some (mkRes ds, h))
   ((dFieldAddr tab ty31 0 t2).bind fun t17 =>
 (dLoad tab h ty3 t17).bind fun t18 =>
 (dFieldAddr tab ty31 0 t3).bind fun t19 =>
 (dLoad tab h ty3 t19).bind fun t20 =>
 (dBin tab .neq ty3 t18 t20).bind fun t21 =>
 (some t21).bind fun t16 =>
 dIf t16
   ((dFieldAddr tab ty31 0 t2).bind fun t22 =>
 (dLoad tab h ty3 t22).bind fun t23 =>
 (dFieldAddr tab ty31 0 t3).bind fun t24 =>
 (dLoad tab h ty3 t24).bind fun t25 =>
 (dBin tab .lss ty3 t23 t25).bind fun t26 =>
 (some t26).bind fun t4_2 =>
 ((some t4_2).bind fun d => (some ([] : List D)).bind fun ds => some (d :: ds)).bind fun ds => some (mkRes ds, h))
   ((dFieldAddr tab ty31 1 t2).bind fun t28 =>
 (dLoad tab h ty3 t28).bind fun t29 =>
 (dFieldAddr tab ty31 1 t3).bind fun t30 =>
 (dLoad tab h ty3 t30).bind fun t31 =>
 (dBin tab .neq ty3 t29 t31).bind fun t32 =>
 (some t32).bind fun t27 =>
 dIf t27
   ((dFieldAddr tab ty31 1 t2).bind fun t33 =>
 (dLoad tab h ty3 t33).bind fun t34 =>
 (dFieldAddr tab ty31 1 t3).bind fun t35 =>
 (dLoad tab h ty3 t35).bind fun t36 =>
 (dBin tab .lss ty3 t34 t36).bind fun t37 =>
 (some t37).bind fun t4_3 =>
 ((some t4_3).bind fun d => (some ([] : List D)).bind fun ds => some (d :: ds)).bind fun ds => some (mkRes ds, h))
   ((dFieldAddr tab ty31 2 t2).bind fun t38 =>
 (dLoad tab h ty3 t38).bind fun t39 =>
 (dFieldAddr tab ty31 2 t3).bind fun t40 =>
 (dLoad tab h ty3 t40).bind fun t41 =>
 (dBin tab .lss ty3 t39 t41).bind fun t42 =>
 (some t42).bind fun t4_4 =>
 ((some t4_4).bind fun d => (some ([] : List D)).bind fun ds => some (d :: ds)).bind fun ds => some (mkRes ds, h))))
theorem e85 (t0 : D) (t1 : D) (h : Hp) : R fn85 [t0, t1] h = F85 t0 t1 h :=
  (run_fn (X := X) (F := Fs) (fi := i17) (by kernel_rfl) _ _).trans (by kernel_rfl)
noncomputable def F1125 (t0 : D) (t1 : D) (h : Hp) : Option (D × Hp) :=
  (pBoxF t0).bind fun t2 =>
 (pBoxF t1).bind fun t3 =>
 (some (.bool false : D)).bind fun t4 =>
 (dFieldAddr tab ty74 1 t2).bind fun t7 =>
 (dLoad tab h ty31 t7).bind fun t8 =>
 (dFieldAddr tab ty74 1 t3).bind fun t9 =>
 (dLoad tab h ty31 t9).bind fun t10 =>
 (some ((.ptr h.length 0 0 : D), dNew h ty31 10 [[.int .i64 0, .int .i64 0, .int .i64 0, .int .i64 0, .nils, .int .i64 0, .int .i64 0, .str [], .str [], .nils]])).bind fun p5 =>
 (some (.any : D)).bind fun t6 =>
 ((dStore tab p5.2 ty31 p5.1 t8).bind fun h' => some ((.und : D), h')).bind fun p906 =>
 chk (dLoad tab p5.2 ty31 t7 = some t8)
 (chk (dLoad tab p5.2 ty31 t9 = some t10)
 (chk (dLoad tab p906.2 ty31 t9 = some t10)
 (((dStore tab (dNew p906.2 ty31 10 [[.int .i64 0, .int .i64 0, .int .i64 0, .int .i64 0, .nils, .int .i64 0, .int .i64 0, .str [], .str [], .nils]]) ty31 (.ptr p906.2.length 0 0) t10).bind fun h' => some ((.und : D), h')).bind fun p907 =>
 (dFieldAddr tab ty74 0 t2).bind fun t11 =>
 (dLoad tab p907.2 ty9 t11).bind fun t12 =>
 (dFieldAddr tab ty74 0 t3).bind fun t13 =>
 (dLoad tab p907.2 ty9 t13).bind fun t14 =>
 (dBin tab .eql ty9 t12 t14).bind fun t15 =>
 (some t15).bind fun t16 =>
 (gd t16 true (dFieldAddr tab ty31 0 p5.1)).bind fun t17 =>
 (gd t16 true (dLoad tab p907.2 ty3 t17)).bind fun t18 =>
 (gd t16 true (dFieldAddr tab ty31 0 (.ptr p906.2.length 0 0))).bind fun t19 =>
 (gd t16 true (dLoad tab p907.2 ty3 t19)).bind fun t20 =>
 (gd t16 true (dBin tab .eql ty3 t18 t20)).bind fun t21 =>
 (dPick t16 t21 (.bool false)).bind fun t22 =>
 (some t22).bind fun t23 =>
 (gd t23 true (dFieldAddr tab ty31 1 p5.1)).bind fun t24 =>
 (gd t23 true (dLoad tab p907.2 ty3 t24)).bind fun t25 =>
 (gd t23 true (dFieldAddr tab ty31 1 (.ptr p906.2.length 0 0))).bind fun t26 =>
 (gd t23 true (dLoad tab p907.2 ty3 t26)).bind fun t27 =>
 (gd t23 true (dBin tab .eql ty3 t25 t27)).bind fun t28 =>
 (dPick t23 t28 (.bool false)).bind fun t29 =>
 (some t29).bind fun t30 =>
 (gd t30 true (dFieldAddr tab ty31 2 p5.1)).bind fun t31 =>
 (gd t30 true (dLoad tab p907.2 ty3 t31)).bind fun t32 =>
 (gd t30 true (dFieldAddr tab ty31 2 (.ptr p906.2.length 0 0))).bind fun t33 =>
 (gd t30 true (dLoad tab p907.2 ty3 t33)).bind fun t34 =>
 (gd t30 true (dBin tab .eql ty3 t32 t34)).bind fun t35 =>
 (dPick t30 t35 (.bool false)).bind fun t36 =>
 (some t36).bind fun t37 =>
 (gd t37 true (dFieldAddr tab ty31 3 p5.1)).bind fun t38 =>
 (gd t37 true (dLoad tab p907.2 ty3 t38)).bind fun t39 =>
 (gd t37 true (dFieldAddr tab ty31 3 (.ptr p906.2.length 0 0))).bind fun t40 =>
 (gd t37 true (dLoad tab p907.2 ty3 t40)).bind fun t41 =>
 (gd t37 true (dBin tab .eql ty3 t39 t41)).bind fun t42 =>
 (dPick t37 t42 (.bool false)).bind fun t43 =>
 (some t43).bind fun t44 =>
 (gd t44 true (dFieldAddr tab ty31 4 p5.1)).bind fun t45 =>
 (gd t44 true (dLoad tab p907.2 ty28 t45)).bind fun t46 =>
 (gd t44 true (dFieldAddr tab ty31 4 (.ptr p906.2.length 0 0))).bind fun t47 =>
 (gd t44 true (dLoad tab p907.2 ty28 t47)).bind fun t48 =>
 (gdW t44 true p907.2 (R fn1131 [t46, t48] p907.2)).bind fun p49 =>
 (dPick t44 p49.1 (.bool false)).bind fun t50 =>
 (some t50).bind fun t51 =>
 (gd t51 true (dFieldAddr tab ty31 5 p5.1)).bind fun t52 =>
 (gd t51 true (dLoad tab p49.2 ty3 t52)).bind fun t53 =>
 (gd t51 true (dFieldAddr tab ty31 5 (.ptr p906.2.length 0 0))).bind fun t54 =>
 (gd t51 true (dLoad tab p49.2 ty3 t54)).bind fun t55 =>
 (gd t51 true (dBin tab .eql ty3 t53 t55)).bind fun t56 =>
 (dPick t51 t56 (.bool false)).bind fun t57 =>
 (some t57).bind fun t58 =>
 (gd t58 true (dFieldAddr tab ty31 6 p5.1)).bind fun t59 =>
 (gd t58 true (dLoad tab p49.2 ty3 t59)).bind fun t60 =>
 (gd t58 true (dFieldAddr tab ty31 6 (.ptr p906.2.length 0 0))).bind fun t61 =>
 (gd t58 true (dLoad tab p49.2 ty3 t61)).bind fun t62 =>
 (gd t58 true (dBin tab .eql ty3 t60 t62)).bind fun t63 =>
 (dPick t58 t63 (.bool false)).bind fun t64 =>
 (some t64).bind fun t65 =>
 (gd t65 true (dFieldAddr tab ty31 7 p5.1)).bind fun t66 =>
 (gd t65 true (dLoad tab p49.2 ty9 t66)).bind fun t67 =>
 (gd t65 true (dFieldAddr tab ty31 7 (.ptr p906.2.length 0 0))).bind fun t68 =>
 (gd t65 true (dLoad tab p49.2 ty9 t68)).bind fun t69 =>
 (gd t65 true (dBin tab .eql ty9 t67 t69)).bind fun t70 =>
 (dPick t65 t70 (.bool false)).bind fun t71 =>
 (some t71).bind fun t72 =>
 (gd t72 true (dFieldAddr tab ty31 8 p5.1)).bind fun t73 =>
 (gd t72 true (dLoad tab p49.2 ty9 t73)).bind fun t74 =>
 (gd t72 true (dFieldAddr tab ty31 8 (.ptr p906.2.length 0 0))).bind fun t75 =>
 (gd t72 true (dLoad tab p49.2 ty9 t75)).bind fun t76 =>
 (gd t72 true (dBin tab .eql ty9 t74 t76)).bind fun t77 =>
 (dPick t72 t77 (.bool false)).bind fun t78 =>
 (some t78).bind fun t79 =>
 (gd t79 true (dFieldAddr tab ty31 9 p5.1)).bind fun t80 =>
 (gd t79 true (dLoad tab p49.2 ty29 t80)).bind fun t81 =>
 (gd t79 true (dFieldAddr tab ty31 9 (.ptr p906.2.length 0 0))).bind fun t82 =>
 (gd t79 true (dLoad tab p49.2 ty29 t82)).bind fun t83 =>
 (gdW t79 true p49.2 (R fn1053 [t81, t83] p49.2)).bind fun p84 =>
 (dPick t79 p84.1 (.bool false)).bind fun t85 =>
 (some t85).bind fun t4_1 =>
 ((some t4_1).bind fun d => (some ([] : List D)).bind fun ds => some (d :: ds)).bind fun ds => scope h p84.2 (mkRes ds))))
theorem e1125 (t0 : D) (t1 : D) (h : Hp) : R fn1125 [t0, t1] h = F1125 t0 t1 h :=
  (run_fn (X := X) (F := Fs) (fi := i18) (by kernel_rfl) _ _).trans (by kernel_rfl)
noncomputable def F82 (t0 : D) (t1 : D) (h : Hp) : Option (D × Hp) :=
  (pBoxF t0).bind fun t2 =>
 (pBoxF t1).bind fun t3 =>
 (some (.bool false : D)).bind fun t4 =>
 (dFieldAddr tab ty74 1 t2).bind fun t7 =>
 (dLoad tab h ty31 t7).bind fun t8 =>
 (dFieldAddr tab ty74 1 t3).bind fun t9 =>
 (dLoad tab h ty31 t9).bind fun t10 =>
 (some ((.ptr h.length 0 0 : D), dNew h ty31 10 [[.int .i64 0, .int .i64 0, .int .i64 0, .int .i64 0, .nils, .int .i64 0, .int .i64 0, .str [], .str [], .nils]])).bind fun p5 =>
 (some (.any : D)).bind fun t6 =>
 ((dStore tab p5.2 ty31 p5.1 t8).bind fun h' => some ((.und : D), h')).bind fun p906 =>
 chk (dLoad tab p5.2 ty31 t7 = some t8)
 (chk (dLoad tab p5.2 ty31 t9 = some t10)
 (chk (dLoad tab p906.2 ty31 t9 = some t10)
 (((dStore tab (dNew p906.2 ty31 10 [[.int .i64 0, .int .i64 0, .int .i64 0, .int .i64 0, .nils, .int .i64 0, .int .i64 0, .str [], .str [], .nils]]) ty31 (.ptr p906.2.length 0 0) t10).bind fun h' => some ((.und : D), h')).bind fun p907 =>
 (dFieldAddr tab ty74 0 t2).bind fun t11 =>
 (dLoad tab p907.2 ty9 t11).bind fun t12 =>
 (dFieldAddr tab ty74 0 t3).bind fun t13 =>
 (dLoad tab p907.2 ty9 t13).bind fun t14 =>
 (dBin tab .eql ty9 t12 t14).bind fun t15 =>
 (some t15).bind fun t16 =>
 (gd t16 true (dFieldAddr tab ty31 0 p5.1)).bind fun t17 =>
 (gd t16 true (dLoad tab p907.2 ty3 t17)).bind fun t18 =>
 (gd t16 true (dFieldAddr tab ty31 0 (.ptr p906.2.length 0 0))).bind fun t19 =>
 (gd t16 true (dLoad tab p907.2 ty3 t19)).bind fun t20 =>
 (gd t16 true (dBin tab .eql ty3 t18 t20)).bind fun t21 =>
 (dPick t16 t21 (.bool false)).bind fun t22 =>
 (some t22).bind fun t23 =>
 (gd t23 true (dFieldAddr tab ty31 1 p5.1)).bind fun t24 =>
 (gd t23 true (dLoad tab p907.2 ty3 t24)).bind fun t25 =>
 (gd t23 true (dFieldAddr tab ty31 1 (.ptr p906.2.length 0 0))).bind fun t26 =>
 (gd t23 true (dLoad tab p907.2 ty3 t26)).bind fun t27 =>
 (gd t23 true (dBin tab .eql ty3 t25 t27)).bind fun t28 =>
 (dPick t23 t28 (.bool false)).bind fun t29 =>
 (some t29).bind fun t30 =>
 (gd t30 true (dFieldAddr tab ty31 2 p5.1)).bind fun t31 =>
 (gd t30 true (dLoad tab p907.2 ty3 t31)).bind fun t32 =>
 (gd t30 true (dFieldAddr tab ty31 2 (.ptr p906.2.length 0 0))).bind fun t33 =>
 (gd t30 true (dLoad tab p907.2 ty3 t33)).bind fun t34 =>
 (gd t30 true (dBin tab .eql ty3 t32 t34)).bind fun t35 =>
 (dPick t30 t35 (.bool false)).bind fun t36 =>
 (some t36).bind fun t37 =>
 (gd t37 true (dFieldAddr tab ty31 3 p5.1)).bind fun t38 =>
 (gd t37 true (dLoad tab p907.2 ty3 t38)).bind fun t39 =>
 (gd t37 true (dFieldAddr tab ty31 3 (.ptr p906.2.length 0 0))).bind fun t40 =>
 (gd t37 true (dLoad tab p907.2 ty3 t40)).bind fun t41 =>
 (gd t37 true (dBin tab .eql ty3 t39 t41)).bind fun t42 =>
 (dPick t37 t42 (.bool false)).bind fun t43 =>
 (some t43).bind fun t44 =>
 (gd t44 true (dFieldAddr tab ty31 5 p5.1)).bind fun t45 =>
 (gd t44 true (dLoad tab p907.2 ty3 t45)).bind fun t46 =>
 (gd t44 true (dFieldAddr tab ty31 5 (.ptr p906.2.length 0 0))).bind fun t47 =>
 (gd t44 true (dLoad tab p907.2 ty3 t47)).bind fun t48 =>
 (gd t44 true (dBin tab .eql ty3 t46 t48)).bind fun t49 =>
 (dPick t44 t49 (.bool false)).bind fun t50 =>
 (some t50).bind fun t51 =>
 (gd t51 true (dFieldAddr tab ty31 6 p5.1)).bind fun t52 =>
 (gd t51 true (dLoad tab p907.2 ty3 t52)).bind fun t53 =>
 (gd t51 true (dFieldAddr tab ty31 6 (.ptr p906.2.length 0 0))).bind fun t54 =>
 (gd t51 true (dLoad tab p907.2 ty3 t54)).bind fun t55 =>
 (gd t51 true (dBin tab .eql ty3 t53 t55)).bind fun t56 =>
 (dPick t51 t56 (.bool false)).bind fun t57 =>
 (some t57).bind fun t58 =>
 (gd t58 true (dFieldAddr tab ty31 7 p5.1)).bind fun t59 =>
 (gd t58 true (dLoad tab p907.2 ty9 t59)).bind fun t60 =>
 (gd t58 true (dFieldAddr tab ty31 7 (.ptr p906.2.length 0 0))).bind fun t61 =>
 (gd t58 true (dLoad tab p907.2 ty9 t61)).bind fun t62 =>
 (gd t58 true (dBin tab .eql ty9 t60 t62)).bind fun t63 =>
 (dPick t58 t63 (.bool false)).bind fun t64 =>
 (some t64).bind fun t65 =>
 (gd t65 true (dFieldAddr tab ty31 8 p5.1)).bind fun t66 =>
 (gd t65 true (dLoad tab p907.2 ty9 t66)).bind fun t67 =>
 (gd t65 true (dFieldAddr tab ty31 8 (.ptr p906.2.length 0 0))).bind fun t68 =>
 (gd t65 true (dLoad tab p907.2 ty9 t68)).bind fun t69 =>
 (gd t65 true (dBin tab .eql ty9 t67 t69)).bind fun t70 =>
 (dPick t65 t70 (.bool false)).bind fun t71 =>
 (some t71).bind fun t72 =>
 (gd t72 true (dFieldAddr tab ty31 4 p5.1)).bind fun t73 =>
 (gd t72 true (dLoad tab p907.2 ty28 t73)).bind fun t74 =>
 (gd t72 true (dFieldAddr tab ty31 4 (.ptr p906.2.length 0 0))).bind fun t75 =>
 (gd t72 true (dLoad tab p907.2 ty28 t75)).bind fun t76 =>
 (gdW t72 true p907.2 (R fn94 [t74, t76] p907.2)).bind fun p77 =>
 (dPick t72 p77.1 (.bool false)).bind fun t78 =>
 (some t78).bind fun t79 =>
 (gd t79 true (dFieldAddr tab ty31 9 p5.1)).bind fun t80 =>
 (gd t79 true (dLoad tab p77.2 ty29 t80)).bind fun t81 =>
 (gd t79 true (dFieldAddr tab ty31 9 (.ptr p906.2.length 0 0))).bind fun t82 =>
 (gd t79 true (dLoad tab p77.2 ty29 t82)).bind fun t83 =>
 (gdW t79 true p77.2 (R fn95 [t81, t83] p77.2)).bind fun p84 =>
 (dPick t79 p84.1 (.bool false)).bind fun t85 =>
 (some t85).bind fun t4_1 =>
 ((some t4_1).bind fun d => (some ([] : List D)).bind fun ds => some (d :: ds)).bind fun ds => scope h p84.2 (mkRes ds))))
theorem e82 (t0 : D) (t1 : D) (h : Hp) : R fn82 [t0, t1] h = F82 t0 t1 h :=
  (run_fn (X := X) (F := Fs) (fi := i19) (by kernel_rfl) _ _).trans (by kernel_rfl)
noncomputable def F1126_L0 (t7 : D) (t8 : D) (ds : List D) (h_1 : Hp) : Option Out :=
 (dBin tab .lss ty3 (nth 2 ds) t8).bind fun t10 =>
 dIf t10
   ((dIndexAddr tab ty28 t7 (nth 2 ds)).bind fun t11 =>
 (dLoad tab h_1 ty78 t11).bind fun t12 =>
 (boxN 3 t12).bind fun t5 =>
 (some (nth 0 ds)).bind fun t13 =>
 (dFieldAddr tab ty78 2 t5).bind fun t14 =>
 (dLoad tab h_1 ty9 t14).bind fun t15 =>
 (pLitF tab ty98 1 [0] [t15]).bind fun t16 =>
 (dAppend tab h_1 ty98 ty98 t13 t16).bind fun p17 =>
 (some p17.1).bind fun t3_1 =>
 (dBin tab .add ty3 (nth 2 ds) (.int .i64 1)).bind fun t18 =>
 (some t18).bind fun t9_1 =>
 some (.nrm, [t3_1, t5, t9_1, t10], p17.2))
   (some ((.ext 0), [(nth 0 ds), (nth 1 ds), (nth 2 ds), t10], h_1))
noncomputable def F1126 (t0 : D) (h : Hp) : Option (D × Hp) :=
  (pBoxF t0).bind fun t1 =>
 (some (.str [] : D)).bind fun t2 =>
 (some (.nils : D)).bind fun t3 =>
 (dFieldAddr tab ty31 4 t1).bind fun t6 =>
 (dLoad tab h ty28 t6).bind fun t7 =>
 (dLenT tab ty28 t7).bind fun t8 =>
 (some (.int .i64 0 : D)).bind fun t9 =>
 ((loopW (F1126_L0 t7 t8) [t3, .any, t9, .any] h).bind fun r =>
 some ((unblk 0 r.1), [(nth 0 r.2.1), (nth 1 r.2.1), (nth 2 r.2.1), (nth 3 r.2.1)], r.2.2)).bind fun r_1 =>
 toEnd r_1.1 ((some (nth 0 r_1.2.1)).bind fun t19 =>
 (R fn1132 [t19, .str [10]] r_1.2.2).bind fun p20 =>
 (some p20.1).bind fun t2_1 =>
 ((some t2_1).bind fun d => (some ([] : List D)).bind fun ds => some (d :: ds)).bind fun ds => scope h p20.2 (mkRes ds)) fun x => exEnd x (((some t2).bind fun d => (some ([] : List D)).bind fun ds => some (d :: ds)).bind fun ds => scope h r_1.2.2 (mkRes ds))
theorem e1126 (t0 : D) (h : Hp) : R fn1126 [t0] h = F1126 t0 h :=
  (run_fn (X := X) (F := Fs) (fi := i20) (by kernel_rfl) _ _).trans (by kernel_rfl)
noncomputable def F1127_L0 (t1 : D) (ds : List D) (h_1 : Hp) : Option Out :=
 (some (nth 1 ds)).bind fun t5 =>
 (dFieldAddr tab ty31 4 t1).bind fun t6 =>
 (dLoad tab h_1 ty28 t6).bind fun t7 =>
 (dLenT tab ty28 t7).bind fun t8 =>
 (dBin tab .lss ty3 t5 t8).bind fun t9 =>
 dIf t9
   ((some (nth 1 ds)).bind fun t12 =>
 (dBin tab .gtr ty3 t12 (.int .i64 0)).bind fun t13 =>
 (dIf t13
   ((some (nth 0 ds)).bind fun t14 =>
 (dBin tab .add ty9 t14 (.str [10])).bind fun t15 =>
 (some t15).bind fun t3_1 =>
 some (.nrm, [t3_1], h_1))
   (some (.nrm, [(nth 0 ds)], h_1))).bind fun r_1 =>
 toEnd r_1.1 ((some (nth 0 r_1.2.1)).bind fun t16 =>
 (dFieldAddr tab ty31 4 t1).bind fun t17 =>
 (dLoad tab r_1.2.2 ty28 t17).bind fun t18 =>
 (some (nth 1 ds)).bind fun t19 =>
 (dIndexAddr tab ty28 t18 t19).bind fun t20 =>
 (dFieldAddr tab ty78 2 t20).bind fun t21 =>
 (dLoad tab r_1.2.2 ty9 t21).bind fun t22 =>
 (dBin tab .add ty9 t16 t22).bind fun t23 =>
 (some t23).bind fun t3_2 =>
 (some (nth 1 ds)).bind fun t10 =>
 (dBin tab .add ty3 t10 (.int .i64 1)).bind fun t11 =>
 (some t11).bind fun t4_1 =>
 some (.nrm, [t3_2, t4_1, t9, t13], r_1.2.2)) fun x => toEnd (unblk 1 x) ((some (nth 1 ds)).bind fun t10_1 =>
 (dBin tab .add ty3 t10_1 (.int .i64 1)).bind fun t11_1 =>
 (some t11_1).bind fun t4_2 =>
 some (.nrm, [(nth 0 r_1.2.1), t4_2, t9, t13], r_1.2.2)) fun x_1 => some (x_1, [(nth 0 r_1.2.1), (nth 1 ds), t9, t13], r_1.2.2))
   (some ((.ext 0), [(nth 0 ds), (nth 1 ds), t9, (nth 3 ds)], h_1))
noncomputable def F1127 (t0 : D) (h : Hp) : Option (D × Hp) :=
  (pBoxF t0).bind fun t1 =>
 (some (.str [] : D)).bind fun t2 =>
 (some (.str [] : D)).bind fun t3 =>
 (some (.int .i64 0 : D)).bind fun t4 =>
 ((loopW (F1127_L0 t1) [t3, t4, .any, .any] h).bind fun r =>
 some ((unblk 0 r.1), [(nth 0 r.2.1), (nth 1 r.2.1), (nth 2 r.2.1), (nth 3 r.2.1)], r.2.2)).bind fun r_2 =>
 toEnd r_2.1 ((some (nth 0 r_2.2.1)).bind fun t24 =>
 (some t24).bind fun t2_1 =>
 ((some t2_1).bind fun d => (some ([] : List D)).bind fun ds => some (d :: ds)).bind fun ds => some (mkRes ds, r_2.2.2)) fun x_2 => exEnd x_2 (((some t2).bind fun d => (some ([] : List D)).bind fun ds => some (d :: ds)).bind fun ds => some (mkRes ds, r_2.2.2))
theorem e1127 (t0 : D) (h : Hp) : R fn1127 [t0] h = F1127 t0 h :=
  (run_fn (X := X) (F := Fs) (fi := i21) (by kernel_rfl) _ _).trans (by kernel_rfl)
noncomputable def F119 (t0 : D) (h : Hp) : Option (D × Hp) :=
  (some (.int .i64 0 : D)).bind fun t2 =>
 (pLitF tab ty82 12 [0, 1, 2, 3, 4, 5, 6, 7, 8, 9, 10, 11] [.int .i64 9223372036854775807, .int .i64 (-9223372036854775808), .int .i64 4294967296, .int .i64 (-1), .int .i64 (-2), .int .i64 65536, .int .i64 999, .int .i64 1000, .int .i64 253402300799999, .int .i64 253402300800000, .int .i64 0, .int .i64 41]).bind fun t4 =>
 (some t4).bind fun t3 =>
 (some t0).bind fun t5 =>
 (R fn39 [t5, .int .i64 4] h).bind fun p6 =>
 (dBin tab .eql ty3 p6.1 (.int .i64 3)).bind fun t7 =>
 dIf t7
   ((some t3).bind fun t8 =>
 (some t0).bind fun t9 =>
 (some t3).bind fun t10 =>
 (dLenT tab ty82 t10).bind fun t11 =>
 (R fn39 [t9, t11] p6.2).bind fun p12 =>
 (dIndexAddr tab ty82 t8 p12.1).bind fun t13 =>
 (dLoad tab p12.2 ty3 t13).bind fun t14 =>
 (some t14).bind fun t2_1 =>
 ((some t2_1).bind fun d => (some ([] : List D)).bind fun ds => some (d :: ds)).bind fun ds => some (mkRes ds, p12.2))
   ((some t0).bind fun t15 =>
 (R fn39 [t15, .int .i64 60] p6.2).bind fun p16 =>
 (dBin tab .sub ty3 p16.1 (.int .i64 3)).bind fun t17 =>
 (some t17).bind fun t2_2 =>
 ((some t2_2).bind fun d => (some ([] : List D)).bind fun ds => some (d :: ds)).bind fun ds => some (mkRes ds, p16.2))
theorem e119 (t0 : D) (h : Hp) : R fn119 [t0] h = F119 t0 h :=
  (run_fn (X := X) (F := Fs) (fi := i22) (by kernel_rfl) _ _).trans (by kernel_rfl)
noncomputable def F1040 (t0 : D) (t1 : D) (h : Hp) : Option (D × Hp) :=
  (wBox ty74 11 h t0).bind fun p2 =>
 (pBoxF t1).bind fun t3 =>
 (some ((.ptr p2.2.length 0 0 : D), dNew p2.2 ty74 11 [[.str [], .int .i64 0, .int .i64 0, .int .i64 0, .int .i64 0, .nils, .int .i64 0, .int .i64 0, .str [], .str [], .nils]])).bind fun p4 =>
 (some (.bool false : D)).bind fun t5 =>
 (dLoad tab p4.2 ty3 t3).bind fun t7 =>
 (dFieldAddr tab ty74 1 p2.1).bind fun t8 =>
 (dFieldAddr tab ty31 2 t8).bind fun t9 =>
 (dLoad tab p4.2 ty3 t9).bind fun t10 =>
 (dBin tab .leq ty3 t7 t10).bind fun t11 =>
 dIf t11
   ((dLoad tab p4.2 ty74 p2.1).bind fun t12 =>
 ((dStore tab p4.2 ty74 p4.1 t12).bind fun h' => some ((.und : D), h')).bind fun p901 =>
 (some (.bool true : D)).bind fun t5_1 =>
 ((some (p4.1 : D)).bind fun p => (dLoad tab p901.2 ty74 p).bind fun d => ((some t5_1).bind fun d => (some ([] : List D)).bind fun ds => some (d :: ds)).bind fun ds => some (d :: ds)).bind fun ds => scope h p901.2 (mkRes ds))
   ((dFieldAddr tab ty74 1 p2.1).bind fun t13 =>
 (dFieldAddr tab ty31 4 t13).bind fun t14 =>
 (dLoad tab p4.2 ty28 t14).bind fun t15 =>
 (some (.fn (.func fn1044) [] [t3] : D)).bind fun t16 =>
 (R fn1006 [t15, t16] p4.2).bind fun p17 =>
 (some p17.1).bind fun t6 =>
 (dLoad tab p17.2 ty3 t3).bind fun t18 =>
 (dFieldAddr tab ty74 1 p2.1).bind fun t19 =>
 (dFieldAddr tab ty31 3 t19).bind fun t20 =>
 (dLoad tab p17.2 ty3 t20).bind fun t21 =>
 (dBin tab .geq ty3 t18 t21).bind fun t22 =>
 (some t22).bind fun t23 =>
 (gd t23 false (some t6)).bind fun t24 =>
 (gd t23 false (dBin tab .lss ty3 t24 (.int .i64 0))).bind fun t25 =>
 (dPick t23 (.bool true) t25).bind fun t26 =>
 dIf t26
   ((dBuild tab ty74 [] []).bind fun t27 =>
 ((dStore tab p17.2 ty74 p4.1 t27).bind fun h' => some ((.und : D), h')).bind fun p901_1 =>
 (some (.bool false : D)).bind fun t5_2 =>
 ((some (p4.1 : D)).bind fun p => (dLoad tab p901_1.2 ty74 p).bind fun d => ((some t5_2).bind fun d => (some ([] : List D)).bind fun ds => some (d :: ds)).bind fun ds => some (d :: ds)).bind fun ds => scope h p901_1.2 (mkRes ds))
   ((dFieldAddr tab ty74 1 p2.1).bind fun t28 =>
 (dFieldAddr tab ty31 4 t28).bind fun t29 =>
 (dLoad tab p17.2 ty28 t29).bind fun t30 =>
 (R fn1008 [t30] p17.2).bind fun p31 =>
 (some (.fn (.func fn1046) [] [t3] : D)).bind fun t32 =>
 (R fn1045 [p31.1, t32] p31.2).bind fun p33 =>
 (dFieldAddr tab ty74 1 p2.1).bind fun t34 =>
 (dFieldAddr tab ty31 4 t34).bind fun t35 =>
 ((dStore tab p33.2 ty28 t35 p33.1).bind fun h' => some ((.und : D), h')).bind fun p908 =>
 (dFieldAddr tab ty74 1 p2.1).bind fun t36 =>
 (dFieldAddr tab ty31 4 t36).bind fun t37 =>
 (dLoad tab p908.2 ty28 t37).bind fun t38 =>
 (dIndexAddr tab ty28 t38 (.int .i64 0)).bind fun t39 =>
 (dFieldAddr tab ty78 0 t39).bind fun t40 =>
 (dLoad tab p908.2 ty3 t40).bind fun t41 =>
 (dFieldAddr tab ty74 1 p2.1).bind fun t42 =>
 (dFieldAddr tab ty31 2 t42).bind fun t43 =>
 ((dStore tab p908.2 ty3 t43 t41).bind fun h' => some ((.und : D), h')).bind fun p908_1 =>
 (dLoad tab p908_1.2 ty74 p2.1).bind fun t44 =>
 ((dStore tab p908_1.2 ty74 p4.1 t44).bind fun h' => some ((.und : D), h')).bind fun p901_2 =>
 (some (.bool true : D)).bind fun t5_3 =>
 ((some (p4.1 : D)).bind fun p => (dLoad tab p901_2.2 ty74 p).bind fun d => ((some t5_3).bind fun d => (some ([] : List D)).bind fun ds => some (d :: ds)).bind fun ds => some (d :: ds)).bind fun ds => scope h p901_2.2 (mkRes ds)))
theorem e1040 (t0 : D) (t1 : D) (h : Hp) : R fn1040 [t0, t1] h = F1040 t0 t1 h :=
  (run_fn (X := X) (F := Fs) (fi := i29) (by kernel_rfl) _ _).trans (by kernel_rfl)
noncomputable def F12 (t0 : D) (h : Hp) : Option (D × Hp) :=
  (some ((.ptr h.length 0 0 : D), dNew h ty31 10 [[.int .i64 0, .int .i64 0, .int .i64 0, .int .i64 0, .nils, .int .i64 0, .int .i64 0, .str [], .str [], .nils]])).bind fun p2 =>
 (some t0).bind fun t5 =>
 (R fn39 [t5, .int .i64 3] p2.2).bind fun p6 =>
 (some t0).bind fun t7 =>
 (R fn39 [t7, .int .i64 3] p6.2).bind fun p8 =>
 (some t0).bind fun t9 =>
 (R fn39 [t9, .int .i64 6] p8.2).bind fun p10 =>
 (dBin tab .mul ty3 (.int .i64 10) p10.1).bind fun t11 =>
 (some t0).bind fun t12 =>
 (R fn39 [t12, .int .i64 256] p10.2).bind fun p13 =>
 (dBin tab .mul ty3 (.int .i64 1000) p13.1).bind fun t14 =>
 (pLitF tab ty82 4 [0, 1, 2, 3] [.int .i64 1, .int .i64 1, .int .i64 2, .int .i64 5040]).bind fun t15 =>
 (some t0).bind fun t16 =>
 (R fn39 [t16, .int .i64 4] p13.2).bind fun p17 =>
 (dIndexAddr tab ty82 t15 p17.1).bind fun t18 =>
 (dLoad tab p17.2 ty3 t18).bind fun t19 =>
 (some t0).bind fun t20 =>
 (pLitF tab ty98 4 [0, 1, 2, 3] [.str [], .str [116, 49], .str [116, 50], .str [105, 100]]).bind fun t21 =>
 (R fn40 [t20, t21] p17.2).bind fun p22 =>
 (some t0).bind fun t23 =>
 (pLitF tab ty98 2 [0, 1] [.str [109, 97, 105, 110], .str [97, 117, 100, 105, 116]]).bind fun t24 =>
 (R fn40 [t23, t24] p22.2).bind fun p25 =>
 (some t0).bind fun t26 =>
 (R fn41 [t26] p25.2).bind fun p27 =>
 (dBuild tab ty31 [0, 1, 2, 5, 6, 7, 8, 9] [p6.1, p8.1, t11, t14, t19, p22.1, p25.1, p27.1]).bind fun t28 =>
 (some (.any : D)).bind fun t3 =>
 chk (dLoad tab p22.2 ty3 t18 = some t19)
 (chk (dLoad tab p25.2 ty3 t18 = some t19)
 (chk (dLoad tab p27.2 ty3 t18 = some t19)
 (((dStore tab (dNew p27.2 ty31 10 [[.int .i64 0, .int .i64 0, .int .i64 0, .int .i64 0, .nils, .int .i64 0, .int .i64 0, .str [], .str [], .nils]]) ty31 (.ptr p27.2.length 0 0) t28).bind fun h' => some ((.und : D), h')).bind fun p925 =>
 (some t0).bind fun t29 =>
 (dFieldAddr tab ty31 2 (.ptr p27.2.length 0 0)).bind fun t30 =>
 (dLoad tab p925.2 ty3 t30).bind fun t31 =>
 (R fn42 [t29, t31, .int .i64 3, .bool true] p925.2).bind fun p32 =>
 (dFieldAddr tab ty31 4 (.ptr p27.2.length 0 0)).bind fun t33 =>
 ((dStore tab p32.2 ty28 t33 p32.1).bind fun h' => some ((.und : D), h')).bind fun p905 =>
 (dFieldAddr tab ty31 4 (.ptr p27.2.length 0 0)).bind fun t34 =>
 (dLoad tab p905.2 ty28 t34).bind fun t35 =>
 (dFieldAddr tab ty31 4 (.ptr p27.2.length 0 0)).bind fun t36 =>
 (dLoad tab p905.2 ty28 t36).bind fun t37 =>
 (dLenT tab ty28 t37).bind fun t38 =>
 (dBin tab .sub ty3 t38 (.int .i64 1)).bind fun t39 =>
 (dIndexAddr tab ty28 t35 t39).bind fun t40 =>
 (dLoad tab p905.2 ty78 t40).bind fun t41 =>
 (boxN 3 t41).bind fun t4 =>
 (dFieldAddr tab ty78 0 t4).bind fun t42 =>
 (dLoad tab p905.2 ty3 t42).bind fun t43 =>
 (dFieldAddr tab ty78 1 t4).bind fun t44 =>
 (dLoad tab p905.2 ty3 t44).bind fun t45 =>
 (dBin tab .add ty3 t43 t45).bind fun t46 =>
 (dFieldAddr tab ty31 3 (.ptr p27.2.length 0 0)).bind fun t47 =>
 ((dStore tab p905.2 ty3 t47 t46).bind fun h' => some ((.und : D), h')).bind fun p906 =>
 (dLoad tab p906.2 ty31 (.ptr p27.2.length 0 0)).bind fun t48 =>
 ((dStore tab p906.2 ty31 p2.1 t48).bind fun h' => some ((.und : D), h')).bind fun p901 =>
 ((some (p2.1 : D)).bind fun p => (dLoad tab p901.2 ty31 p).bind fun d => (some ([] : List D)).bind fun ds => some (d :: ds)).bind fun ds => scope h p901.2 (mkRes ds))))
theorem e12 (t0 : D) (h : Hp) : R fn12 [t0] h = F12 t0 h :=
  (run_fn (X := X) (F := Fs) (fi := i30) (by kernel_rfl) _ _).trans (by kernel_rfl)
noncomputable def F39 (t0 : D) (t1 : D) (h : Hp) : Option (D × Hp) :=
  (some (.int .i64 0 : D)).bind fun t4 =>
 (some t0).bind fun t5 =>
 (R fn66 [t5] h).bind fun p6 =>
 (dUn .not p6.1).bind fun t7 =>
 (some t7).bind fun t8 =>
 (gd t8 false (some t1)).bind fun t9 =>
 (gd t8 false (dBin tab .lss ty3 t9 (.int .i64 1))).bind fun t10 =>
 (dPick t8 (.bool true) t10).bind fun t11 =>
 dIf t11
   ((some (.int .i64 0 : D)).bind fun t4_1 =>
 ((some t4_1).bind fun d => (some ([] : List D)).bind fun ds => some (d :: ds)).bind fun ds => some (mkRes ds, p6.2))
   ((some t0).bind fun t12 =>
 (dNilCheck tab t12).bind fun t13 =>
 (dFieldAddr tab ty80 1 t13).bind fun t14 =>
 (dLoad tab p6.2 ty3 t14).bind fun t15 =>
 (dBin tab .add ty3 t15 (.int .i64 1)).bind fun t16 =>
 (dNilCheck tab t12).bind fun t17 =>
 (dFieldAddr tab ty80 1 t17).bind fun t18 =>
 ((dStore tab p6.2 ty3 t18 t16).bind fun h' => some ((.und : D), h')).bind fun p907 =>
 (some t0).bind fun t19 =>
 (dNilCheck tab t19).bind fun t20 =>
 (dFieldAddr tab ty80 0 t20).bind fun t21 =>
 (dLoad tab p907.2 ty22 t21).bind fun t22 =>
 (some t0).bind fun t23 =>
 (dNilCheck tab t23).bind fun t24 =>
 (dFieldAddr tab ty80 1 t24).bind fun t25 =>
 (dLoad tab p907.2 ty3 t25).bind fun t26 =>
 (dBin tab .sub ty3 t26 (.int .i64 1)).bind fun t27 =>
 (dIndexAddr tab ty22 t22 t27).bind fun t28 =>
 (dLoad tab p907.2 ty5 t28).bind fun t29 =>
 (dConv tab ty5 ty3 t29).bind fun t30 =>
 (some t1).bind fun t31 =>
 (dBin tab .rem ty3 t30 t31).bind fun t32 =>
 (some t32).bind fun t4_2 =>
 ((some t4_2).bind fun d => (some ([] : List D)).bind fun ds => some (d :: ds)).bind fun ds => some (mkRes ds, p907.2))
theorem e39 (t0 : D) (t1 : D) (h : Hp) : R fn39 [t0, t1] h = F39 t0 t1 h :=
  (run_fn (X := X) (F := Fs) (fi := i31) (by kernel_rfl) _ _).trans (by kernel_rfl)
noncomputable def F40 (t0 : D) (t1 : D) (h : Hp) : Option (D × Hp) :=
  (some (.str [] : D)).bind fun t4 =>
 (some t1).bind fun t5 =>
 (some t0).bind fun t6 =>
 (some t1).bind fun t7 =>
 (dLenT tab ty98 t7).bind fun t8 =>
 (R fn39 [t6, t8] h).bind fun p9 =>
 (dIndexAddr tab ty98 t5 p9.1).bind fun t10 =>
 (dLoad tab p9.2 ty9 t10).bind fun t11 =>
 (some t11).bind fun t4_1 =>
 ((some t4_1).bind fun d => (some ([] : List D)).bind fun ds => some (d :: ds)).bind fun ds => some (mkRes ds, p9.2)
theorem e40 (t0 : D) (t1 : D) (h : Hp) : R fn40 [t0, t1] h = F40 t0 t1 h :=
  (run_fn (X := X) (F := Fs) (fi := i32) (by kernel_rfl) _ _).trans (by kernel_rfl)
noncomputable def F83_L0 (t0 : D) (ds : List D) (h_1 : Hp) : Option Out :=
 (some (nth 1 ds)).bind fun t11 =>
 (dBin tab .gtr ty3 t11 (.int .i64 0)).bind fun t12 =>
 dIf t12
   ((some (nth 0 ds)).bind fun t15 =>
 (some t0).bind fun t16 =>
 (pLitF tab ty98 18 [0, 1, 2, 3, 4, 5, 6, 7, 8, 9, 10, 11, 12, 13, 14, 15, 16, 17] [.str [97], .str [98], .str [32], .str [49], .str [117, 115, 101, 114], .str [61], .str [34], .str [55], .str [46], .str [44], .str [120, 32, 121], .str [49, 48, 46, 50], .str [45], .str [195, 169], .str [91], .str [105, 100], .str [9], .str [58]]).bind fun t17 =>
 (R fn40 [t16, t17] h_1).bind fun p18 =>
 (dBin tab .add ty9 t15 p18.1).bind fun t19 =>
 (some t19).bind fun t5_1 =>
 (some (nth 1 ds)).bind fun t13 =>
 (dBin tab .sub ty3 t13 (.int .i64 1)).bind fun t14 =>
 (some t14).bind fun t6_1 =>
 some (.nrm, [t5_1, t6_1, t12], p18.2))
   (some ((.ext 0), [(nth 0 ds), (nth 1 ds), t12], h_1))
noncomputable def F83 (t0 : D) (t1 : D) (h : Hp) : Option (D × Hp) :=
  (some (.str [] : D)).bind fun t4 =>
 (some (.str [] : D)).bind fun t5 =>
 (some t0).bind fun t7 =>
 (some t1).bind fun t8 =>
 (dBin tab .add ty3 t8 (.int .i64 1)).bind fun t9 =>
 (R fn39 [t7, t9] h).bind fun p10 =>
 (some p10.1).bind fun t6 =>
 ((loopW (F83_L0 t0) [t5, t6, .any] p10.2).bind fun r =>
 some ((unblk 0 r.1), [(nth 0 r.2.1), (nth 1 r.2.1), (nth 2 r.2.1)], r.2.2)).bind fun r_1 =>
 toEnd r_1.1 ((some (nth 0 r_1.2.1)).bind fun t20 =>
 (some t20).bind fun t4_1 =>
 ((some t4_1).bind fun d => (some ([] : List D)).bind fun ds => some (d :: ds)).bind fun ds => some (mkRes ds, r_1.2.2)) fun x => exEnd x (((some t4).bind fun d => (some ([] : List D)).bind fun ds => some (d :: ds)).bind fun ds => some (mkRes ds, r_1.2.2))
theorem e83 (t0 : D) (t1 : D) (h : Hp) : R fn83 [t0, t1] h = F83 t0 t1 h :=
  (run_fn (X := X) (F := Fs) (fi := i33) (by kernel_rfl) _ _).trans (by kernel_rfl)
noncomputable def F70_L0 (t1 : D) (t8 : D) (t9 : D) (ds : List D) (h_1 : Hp) : Option Out :=
 (dBin tab .lss ty3 (nth 3 ds) t9).bind fun t11 =>
 dIf t11
   ((dIndexAddr tab ty29 t8 (nth 3 ds)).bind fun t12 =>
 (dLoad tab h_1 ty109 t12).bind fun t13 =>
 (boxN 2 t13).bind fun t7 =>
 (dFieldAddr tab ty109 0 t7).bind fun t14 =>
 (dLoad tab h_1 ty9 t14).bind fun t15 =>
 (some t1).bind fun t16 =>
 (dBin tab .eql ty9 t15 t16).bind fun t17 =>
 dIf t17
   ((dFieldAddr tab ty109 1 t7).bind fun t18 =>
 (dLoad tab h_1 ty9 t18).bind fun t19 =>
 (some t19).bind fun t4_1 =>
 (some (.bool true : D)).bind fun t5_1 =>
 some (.ret, [t4_1, t5_1, t7, (nth 3 ds), t11, t17], h_1))
   ((dBin tab .add ty3 (nth 3 ds) (.int .i64 1)).bind fun t20 =>
 (some t20).bind fun t10_1 =>
 some (.nrm, [(nth 0 ds), (nth 1 ds), t7, t10_1, t11, t17], h_1)))
   (some ((.ext 0), [(nth 0 ds), (nth 1 ds), (nth 2 ds), (nth 3 ds), t11, (nth 5 ds)], h_1))
noncomputable def F70 (t0 : D) (t1 : D) (h : Hp) : Option (D × Hp) :=
  (some (.str [] : D)).bind fun t4 =>
 (some (.bool false : D)).bind fun t5 =>
 (some t0).bind fun t8 =>
 (dLenT tab ty29 t8).bind fun t9 =>
 (some (.int .i64 0 : D)).bind fun t10 =>
 ((loopW (F70_L0 t1 t8 t9) [t4, t5, .any, t10, .any, .any] h).bind fun r =>
 some ((unblk 0 r.1), [(nth 0 r.2.1), (nth 1 r.2.1), (nth 2 r.2.1), (nth 3 r.2.1), (nth 4 r.2.1), (nth 5 r.2.1)], r.2.2)).bind fun r_1 =>
 toEnd r_1.1 ((some (.str [] : D)).bind fun t4_2 =>
 (some (.bool false : D)).bind fun t5_2 =>
 ((some t4_2).bind fun d => ((some t5_2).bind fun d => (some ([] : List D)).bind fun ds => some (d :: ds)).bind fun ds => some (d :: ds)).bind fun ds => some (mkRes ds, r_1.2.2)) fun x => exEnd x (((some (nth 0 r_1.2.1)).bind fun d => ((some (nth 1 r_1.2.1)).bind fun d => (some ([] : List D)).bind fun ds => some (d :: ds)).bind fun ds => some (d :: ds)).bind fun ds => some (mkRes ds, r_1.2.2))
theorem e70 (t0 : D) (t1 : D) (h : Hp) : R fn70 [t0, t1] h = F70 t0 t1 h :=
  (run_fn (X := X) (F := Fs) (fi := i34) (by kernel_rfl) _ _).trans (by kernel_rfl)
noncomputable def F76_L0 (t0 : D) (t1 : D) (ds : List D) (h_1 : Hp) : Option Out :=
 (some (nth 2 ds)).bind fun t7 =>
 (some t0).bind fun t8 =>
 (dLenT tab ty29 t8).bind fun t9 =>
 (dBin tab .lss ty3 t7 t9).bind fun t10 =>
 dIf t10
   ((some t0).bind fun t13 =>
 (some (nth 2 ds)).bind fun t14 =>
 (dIndexAddr tab ty29 t13 t14).bind fun t15 =>
 (dFieldAddr tab ty109 0 t15).bind fun t16 =>
 (dLoad tab h_1 ty9 t16).bind fun t17 =>
 (some t1).bind fun t18 =>
 (dBin tab .eql ty9 t17 t18).bind fun t19 =>
 dIf t19
   ((some t0).bind fun t20 =>
 (some (nth 2 ds)).bind fun t21 =>
 (dIndexAddr tab ty29 t20 t21).bind fun t22 =>
 (dFieldAddr tab ty109 1 t22).bind fun t23 =>
 (dLoad tab h_1 ty9 t23).bind fun t24 =>
 (some t24).bind fun t4_1 =>
 (some (.bool true : D)).bind fun t5_1 =>
 some (.ret, [t4_1, t5_1, (nth 2 ds), t10, t19], h_1))
   ((some (nth 2 ds)).bind fun t11 =>
 (dBin tab .add ty3 t11 (.int .i64 1)).bind fun t12 =>
 (some t12).bind fun t6_1 =>
 some (.nrm, [(nth 0 ds), (nth 1 ds), t6_1, t10, t19], h_1)))
   (some ((.ext 0), [(nth 0 ds), (nth 1 ds), (nth 2 ds), t10, (nth 4 ds)], h_1))
noncomputable def F76 (t0 : D) (t1 : D) (h : Hp) : Option (D × Hp) :=
  (some (.str [] : D)).bind fun t4 =>
 (some (.bool false : D)).bind fun t5 =>
 (some (.int .i64 0 : D)).bind fun t6 =>
 ((loopW (F76_L0 t0 t1) [t4, t5, t6, .any, .any] h).bind fun r =>
 some ((unblk 0 r.1), [(nth 0 r.2.1), (nth 1 r.2.1), (nth 2 r.2.1), (nth 3 r.2.1), (nth 4 r.2.1)], r.2.2)).bind fun r_1 =>
 toEnd r_1.1 ((some (.str [] : D)).bind fun t4_2 =>
 (some (.bool false : D)).bind fun t5_2 =>
 ((some t4_2).bind fun d => ((some t5_2).bind fun d => (some ([] : List D)).bind fun ds => some (d :: ds)).bind fun ds => some (d :: ds)).bind fun ds => some (mkRes ds, r_1.2.2)) fun x => exEnd x (((some (nth 0 r_1.2.1)).bind fun d => ((some (nth 1 r_1.2.1)).bind fun d => (some ([] : List D)).bind fun ds => some (d :: ds)).bind fun ds => some (d :: ds)).bind fun ds => some (mkRes ds, r_1.2.2))
theorem e76 (t0 : D) (t1 : D) (h : Hp) : R fn76 [t0, t1] h = F76 t0 t1 h :=
  (run_fn (X := X) (F := Fs) (fi := i35) (by kernel_rfl) _ _).trans (by kernel_rfl)
noncomputable def F1047 (t0 : D) (h : Hp) : Option (D × Hp) :=
  (pBoxF t0).bind fun t1 =>
 (some (.bool false : D)).bind fun t2 =>
 (dFieldAddr tab ty31 0 t1).bind fun t3 =>
 (dLoad tab h ty3 t3).bind fun t4 =>
 (R fn1051 [t4, .int .i64 0, .int .i64 999] h).bind fun p5 =>
 (some p5.1).bind fun t6 =>
 (gd t6 true (dFieldAddr tab ty31 1 t1)).bind fun t7 =>
 (gd t6 true (dLoad tab p5.2 ty3 t7)).bind fun t8 =>
 (gdW t6 true p5.2 (R fn1051 [t8, .int .i64 0, .int .i64 2147483646] p5.2)).bind fun p9 =>
 (dPick t6 p9.1 (.bool false)).bind fun t10 =>
 (some t10).bind fun t11 =>
 (gd t11 true (dFieldAddr tab ty31 2 t1)).bind fun t12 =>
 (gd t11 true (dLoad tab p9.2 ty3 t12)).bind fun t13 =>
 (gd t11 true (dBin tab .geq ty3 t13 (.int .i64 0))).bind fun t14 =>
 (dPick t11 t14 (.bool false)).bind fun t15 =>
 (some t15).bind fun t16 =>
 (gd t16 true (dFieldAddr tab ty31 3 t1)).bind fun t17 =>
 (gd t16 true (dLoad tab p9.2 ty3 t17)).bind fun t18 =>
 (gd t16 true (dFieldAddr tab ty31 2 t1)).bind fun t19 =>
 (gd t16 true (dLoad tab p9.2 ty3 t19)).bind fun t20 =>
 (gd t16 true (dBin tab .gtr ty3 t18 t20)).bind fun t21 =>
 (dPick t16 t21 (.bool false)).bind fun t22 =>
 (some t22).bind fun t23 =>
 (gd t23 true (dFieldAddr tab ty31 3 t1)).bind fun t24 =>
 (gd t23 true (dLoad tab p9.2 ty3 t24)).bind fun t25 =>
 (gd t23 true (dBin tab .leq ty3 t25 (.int .i64 60000))).bind fun t26 =>
 (dPick t23 t26 (.bool false)).bind fun t27 =>
 (some t27).bind fun t2_1 =>
 ((some t2_1).bind fun d => (some ([] : List D)).bind fun ds => some (d :: ds)).bind fun ds => some (mkRes ds, p9.2)
theorem e1047 (t0 : D) (h : Hp) : R fn1047 [t0] h = F1047 t0 h :=
  (run_fn (X := X) (F := Fs) (fi := i36) (by kernel_rfl) _ _).trans (by kernel_rfl)
noncomputable def F1051 (t0 : D) (t1 : D) (t2 : D) (h : Hp) : Option (D × Hp) :=
  (some (.bool false : D)).bind fun t6 =>
 (some t1).bind fun t7 =>
 (some t0).bind fun t8 =>
 (dBin tab .leq ty3 t7 t8).bind fun t9 =>
 (some t9).bind fun t10 =>
 (gd t10 true (some t0)).bind fun t11 =>
 (gd t10 true (some t2)).bind fun t12 =>
 (gd t10 true (dBin tab .leq ty3 t11 t12)).bind fun t13 =>
 (dPick t10 t13 (.bool false)).bind fun t14 =>
 (some t14).bind fun t6_1 =>
 ((some t6_1).bind fun d => (some ([] : List D)).bind fun ds => some (d :: ds)).bind fun ds => some (mkRes ds, h)
theorem e1051 (t0 : D) (t1 : D) (t2 : D) (h : Hp) : R fn1051 [t0, t1, t2] h = F1051 t0 t1 t2 h :=
  (run_fn (X := X) (F := Fs) (fi := i37) (by kernel_rfl) _ _).trans (by kernel_rfl)
noncomputable def F1048_L0 (t1 : D) (t2 : D) (t22 : D) (t23 : D) (ds : List D) (h_1 : Hp) : Option Out :=
 (dBin tab .lss ty3 (nth 5 ds) t23).bind fun t25 =>
 dIf t25
   ((some (nth 5 ds)).bind fun t26 =>
 (dIndexAddr tab ty28 t22 (nth 5 ds)).bind fun t27 =>
 (dLoad tab h_1 ty78 t27).bind fun t28 =>
 (some ((.ptr h_1.length 0 0 : D), dNew h_1 ty78 3 [[.int .i64 0, .int .i64 0, .str []]])).bind fun p7 =>
 (some t26).bind fun t6 =>
 ((dStore tab p7.2 ty78 p7.1 t28).bind fun h' => some ((.und : D), h')).bind fun p905 =>
 (some t6).bind fun t29 =>
 (dFieldAddr tab ty31 4 t2).bind fun t30 =>
 (dLoad tab p905.2 ty28 t30).bind fun t31 =>
 (dLenT tab ty28 t31).bind fun t32 =>
 (dBin tab .sub ty3 t32 (.int .i64 1)).bind fun t33 =>
 (dBin tab .eql ty3 t29 t33).bind fun t34 =>
 (some t34).bind fun t8 =>
 (dFieldAddr tab ty78 0 p7.1).bind fun t35 =>
 (dLoad tab p905.2 ty3 t35).bind fun t36 =>
 (some (nth 1 ds)).bind fun t37 =>
 (dBin tab .neq ty3 t36 t37).bind fun t38 =>
 (some t38).bind fun t39 =>
 (gd t39 false (dFieldAddr tab ty78 1 p7.1)).bind fun t40 =>
 (gd t39 false (dLoad tab p905.2 ty3 t40)).bind fun t41 =>
 (gd t39 false (dBin tab .lss ty3 t41 (.int .i64 1))).bind fun t42 =>
 (dPick t39 (.bool true) t42).bind fun t43 =>
 (some t43).bind fun t44 =>
 (gd t44 false (dFieldAddr tab ty78 1 p7.1)).bind fun t45 =>
 (gd t44 false (dLoad tab p905.2 ty3 t45)).bind fun t46 =>
 (gd t44 false (dFieldAddr tab ty31 3 t2)).bind fun t47 =>
 (gd t44 false (dLoad tab p905.2 ty3 t47)).bind fun t48 =>
 (gd t44 false (some (nth 1 ds))).bind fun t49 =>
 (gd t44 false (dBin tab .sub ty3 t48 t49)).bind fun t50 =>
 (gd t44 false (dBin tab .gtr ty3 t46 t50)).bind fun t51 =>
 (dPick t44 (.bool true) t51).bind fun t52 =>
 (some t52).bind fun t53 =>
 (gd t53 false (some t8)).bind fun t54 =>
 (gd t53 false (some t54)).bind fun t55 =>
 (gd t55 true (dFieldAddr tab ty78 1 p7.1)).bind fun t56 =>
 (gd t55 true (dLoad tab p905.2 ty3 t56)).bind fun t57 =>
 (gd t55 true (dFieldAddr tab ty31 3 t2)).bind fun t58 =>
 (gd t55 true (dLoad tab p905.2 ty3 t58)).bind fun t59 =>
 (gd t55 true (some (nth 1 ds))).bind fun t60 =>
 (gd t55 true (dBin tab .sub ty3 t59 t60)).bind fun t61 =>
 (gd t55 true (dBin tab .lss ty3 t57 t61)).bind fun t62 =>
 (gd t53 false (dPick t55 t62 (.bool false))).bind fun t63 =>
 (dPick t53 (.bool true) t63).bind fun t64 =>
 dIf t64
   ((some (.int .i64 19 : D)).bind fun t4_3 =>
 some (.ret, [t4_3, (nth 1 ds), t6, p7.1, t8, (nth 5 ds), t25, t64, (nth 8 ds)], p905.2))
   ((dFieldAddr tab ty78 2 p7.1).bind fun t65 =>
 (dLoad tab p905.2 ty9 t65).bind fun t66 =>
 (dLenT tab ty9 t66).bind fun t67 =>
 (some t1).bind fun t68 =>
 (dBin tab .gtr ty3 t67 t68).bind fun t69 =>
 dIf t69
   ((some (.int .i64 3 : D)).bind fun t4_4 =>
 some (.ret, [t4_4, (nth 1 ds), t6, p7.1, t8, (nth 5 ds), t25, t64, t69], p905.2))
   ((some (nth 1 ds)).bind fun t70 =>
 (dFieldAddr tab ty78 1 p7.1).bind fun t71 =>
 (dLoad tab p905.2 ty3 t71).bind fun t72 =>
 (dBin tab .add ty3 t70 t72).bind fun t73 =>
 (some t73).bind fun t5_1 =>
 (dBin tab .add ty3 (nth 5 ds) (.int .i64 1)).bind fun t74 =>
 (some t74).bind fun t24_1 =>
 some (.nrm, [(nth 0 ds), t5_1, t6, p7.1, t8, t24_1, t25, t64, t69], p905.2))))
   (some ((.ext 1), [(nth 0 ds), (nth 1 ds), (nth 2 ds), (nth 3 ds), (nth 4 ds), (nth 5 ds), t25, (nth 7 ds), (nth 8 ds)], h_1))
noncomputable def F1048 (t0 : D) (t1 : D) (h : Hp) : Option (D × Hp) :=
  (pBoxF t0).bind fun t2 =>
 (some (.int .i64 0 : D)).bind fun t4 =>
 (dFieldAddr tab ty31 4 t2).bind fun t10 =>
 (dLoad tab h ty28 t10).bind fun t11 =>
 (dLenT tab ty28 t11).bind fun t12 =>
 (dBin tab .eql ty3 t12 (.int .i64 0)).bind fun t13 =>
 (some t13).bind fun t9 =>
 dIf t9
   ((some (.int .i64 9 : D)).bind fun t4_1 =>
 ((some t4_1).bind fun d => (some ([] : List D)).bind fun ds => some (d :: ds)).bind fun ds => scope h h (mkRes ds))
   ((dFieldAddr tab ty31 4 t2).bind fun t15 =>
 (dLoad tab h ty28 t15).bind fun t16 =>
 (dLenT tab ty28 t16).bind fun t17 =>
 (dBin tab .gtr ty3 t17 (.int .i64 40)).bind fun t18 =>
 (some t18).bind fun t14 =>
 dIf t14
   ((some (.int .i64 4 : D)).bind fun t4_2 =>
 ((some t4_2).bind fun d => (some ([] : List D)).bind fun ds => some (d :: ds)).bind fun ds => scope h h (mkRes ds))
   ((dFieldAddr tab ty31 2 t2).bind fun t19 =>
 (dLoad tab h ty3 t19).bind fun t20 =>
 (some t20).bind fun t5 =>
 (dFieldAddr tab ty31 4 t2).bind fun t21 =>
 (dLoad tab h ty28 t21).bind fun t22 =>
 (dLenT tab ty28 t22).bind fun t23 =>
 (some (.int .i64 0 : D)).bind fun t24 =>
 ((loopW (F1048_L0 t1 t2 t22 t23) [t4, t5, .any, .any, .any, t24, .any, .any, .any] h).bind fun r =>
 some ((unblk 1 r.1), [(nth 0 r.2.1), (nth 1 r.2.1), (nth 2 r.2.1), (nth 3 r.2.1), (nth 4 r.2.1), (nth 5 r.2.1), (nth 6 r.2.1), (nth 7 r.2.1), (nth 8 r.2.1)], r.2.2)).bind fun r_1 =>
 toEnd r_1.1 ((some (.int .i64 0 : D)).bind fun t4_5 =>
 ((some t4_5).bind fun d => (some ([] : List D)).bind fun ds => some (d :: ds)).bind fun ds => scope h r_1.2.2 (mkRes ds)) fun x => exEnd x (((some (nth 0 r_1.2.1)).bind fun d => (some ([] : List D)).bind fun ds => some (d :: ds)).bind fun ds => scope h r_1.2.2 (mkRes ds))))
theorem e1048 (t0 : D) (t1 : D) (h : Hp) : R fn1048 [t0, t1] h = F1048 t0 t1 h :=
  (run_fn (X := X) (F := Fs) (fi := i38) (by kernel_rfl) _ _).trans (by kernel_rfl)
noncomputable def F1052_L0 (t10 : D) (t11 : D) (ds : List D) (h_1 : Hp) : Option Out :=
 (dBin tab .lss ty3 (nth 3 ds) t11).bind fun t13 =>
 dIf t13
   ((dIndexAddr tab ty29 t10 (nth 3 ds)).bind fun t14 =>
 (dLoad tab h_1 ty109 t14).bind fun t15 =>
 (boxN 2 t15).bind fun t5 =>
 (dFieldAddr tab ty109 0 t5).bind fun t16 =>
 (dLoad tab h_1 ty9 t16).bind fun t17 =>
 (R fn1056 [t17] h_1).bind fun p18 =>
 (dUn .not p18.1).bind fun t19 =>
 dIf t19
   ((some (.nils : D)).bind fun t2_2 =>
 (some (.int .i64 6 : D)).bind fun t3_2 =>
 some (.ret, [t2_2, t3_2, t5, (nth 3 ds), t13, t19], p18.2))
   ((dBin tab .add ty3 (nth 3 ds) (.int .i64 1)).bind fun t20 =>
 (some t20).bind fun t12_1 =>
 some (.nrm, [(nth 0 ds), (nth 1 ds), t5, t12_1, t13, t19], p18.2)))
   (some ((.ext 0), [(nth 0 ds), (nth 1 ds), (nth 2 ds), (nth 3 ds), t13, (nth 5 ds)], h_1))
noncomputable def F1052_L1 (t0_1 : D) (ds_1 : List D) (h_2 : Hp) : Option Out :=
 (some (nth 2 ds_1)).bind fun t25 =>
 (some t0_1).bind fun t26 =>
 (dLenT tab ty29 t26).bind fun t27 =>
 (dBin tab .lss ty3 t25 t27).bind fun t28 =>
 dIf t28
   ((some t0_1).bind fun t31 =>
 (some (nth 2 ds_1)).bind fun t32 =>
 (dIndexAddr tab ty29 t31 t32).bind fun t33 =>
 (dFieldAddr tab ty109 0 t33).bind fun t34 =>
 (dLoad tab h_2 ty9 t34).bind fun t35 =>
 (some t0_1).bind fun t36 =>
 (some (nth 2 ds_1)).bind fun t37 =>
 (dBin tab .sub ty3 t37 (.int .i64 1)).bind fun t38 =>
 (dIndexAddr tab ty29 t36 t38).bind fun t39 =>
 (dFieldAddr tab ty109 0 t39).bind fun t40 =>
 (dLoad tab h_2 ty9 t40).bind fun t41 =>
 (dBin tab .eql ty9 t35 t41).bind fun t42 =>
 dIf t42
   ((some (.nils : D)).bind fun t2_3 =>
 (some (.int .i64 7 : D)).bind fun t3_3 =>
 some (.ret, [t2_3, t3_3, (nth 2 ds_1), t28, t42], h_2))
   ((some (nth 2 ds_1)).bind fun t29 =>
 (dBin tab .add ty3 t29 (.int .i64 1)).bind fun t30 =>
 (some t30).bind fun t6_1 =>
 some (.nrm, [(nth 0 ds_1), (nth 1 ds_1), t6_1, t28, t42], h_2)))
   (some ((.ext 2), [(nth 0 ds_1), (nth 1 ds_1), (nth 2 ds_1), t28, (nth 4 ds_1)], h_2))
noncomputable def F1052 (t0 : D) (h : Hp) : Option (D × Hp) :=
  (some (.nils : D)).bind fun t2 =>
 (some (.int .i64 0 : D)).bind fun t3 =>
 (some t0).bind fun t7 =>
 (dLenT tab ty29 t7).bind fun t8 =>
 (dBin tab .gtr ty3 t8 (.int .i64 32)).bind fun t9 =>
 dIf t9
   ((some (.nils : D)).bind fun t2_1 =>
 (some (.int .i64 4 : D)).bind fun t3_1 =>
 ((some t2_1).bind fun d => ((some t3_1).bind fun d => (some ([] : List D)).bind fun ds => some (d :: ds)).bind fun ds => some (d :: ds)).bind fun ds => some (mkRes ds, h))
   ((some t0).bind fun t10 =>
 (dLenT tab ty29 t10).bind fun t11 =>
 (some (.int .i64 0 : D)).bind fun t12 =>
 ((loopW (F1052_L0 t10 t11) [t2, t3, .any, t12, .any, .any] h).bind fun r =>
 some ((unblk 0 r.1), [(nth 0 r.2.1), (nth 1 r.2.1), (nth 2 r.2.1), (nth 3 r.2.1), (nth 4 r.2.1), (nth 5 r.2.1)], r.2.2)).bind fun r_1 =>
 toEnd r_1.1 ((some t0).bind fun t21 =>
 (R fn1009 [t21] r_1.2.2).bind fun p22 =>
 (some p22.1).bind fun t0_1 =>
 (some t0_1).bind fun t23 =>
 (R fn1057 [t23, .fn (.func fn1058) [] []] p22.2).bind fun p24 =>
 (some (.int .i64 1 : D)).bind fun t6 =>
 ((loopW (F1052_L1 t0_1) [(nth 0 r_1.2.1), (nth 1 r_1.2.1), t6, .any, .any] p24.2).bind fun r_2 =>
 some ((unblk 2 r_2.1), [(nth 0 r_2.2.1), (nth 1 r_2.2.1), (nth 2 r_2.2.1), (nth 3 r_2.2.1), (nth 4 r_2.2.1)], r_2.2.2)).bind fun r_3 =>
 toEnd r_3.1 ((some t0_1).bind fun t43 =>
 (some t43).bind fun t2_4 =>
 (some (.int .i64 0 : D)).bind fun t3_4 =>
 ((some t2_4).bind fun d => ((some t3_4).bind fun d => (some ([] : List D)).bind fun ds => some (d :: ds)).bind fun ds => some (d :: ds)).bind fun ds => some (mkRes ds, r_3.2.2)) fun x_1 => exEnd x_1 (((some (nth 0 r_3.2.1)).bind fun d => ((some (nth 1 r_3.2.1)).bind fun d => (some ([] : List D)).bind fun ds => some (d :: ds)).bind fun ds => some (d :: ds)).bind fun ds => some (mkRes ds, r_3.2.2))) fun x => exEnd x (((some (nth 0 r_1.2.1)).bind fun d => ((some (nth 1 r_1.2.1)).bind fun d => (some ([] : List D)).bind fun ds => some (d :: ds)).bind fun ds => some (d :: ds)).bind fun ds => some (mkRes ds, r_1.2.2)))
theorem e1052 (t0 : D) (h : Hp) : R fn1052 [t0] h = F1052 t0 h :=
  (run_fn (X := X) (F := Fs) (fi := i39) (by kernel_rfl) _ _).trans (by kernel_rfl)
noncomputable def F1053_L0 (t0 : D) (t1 : D) (t12 : D) (ds : List D) (h_1 : Hp) : Option Out :=
 (dBin tab .lss ty3 (nth 2 ds) t12).bind fun t14 =>
 dIf t14
   ((some (nth 2 ds)).bind fun t15 =>
 (some t15).bind fun t5 =>
 (some t0).bind fun t16 =>
 (some t5).bind fun t17 =>
 (dIndexAddr tab ty29 t16 t17).bind fun t18 =>
 (dLoad tab h_1 ty109 t18).bind fun t19 =>
 (some t1).bind fun t20 =>
 (some t5).bind fun t21 =>
 (dIndexAddr tab ty29 t20 t21).bind fun t22 =>
 (dLoad tab h_1 ty109 t22).bind fun t23 =>
 (dBin tab .neq ty109 t19 t23).bind fun t24 =>
 dIf t24
   ((some (.bool false : D)).bind fun t4_2 =>
 some (.ret, [t4_2, t5, (nth 2 ds), t14, t24], h_1))
   ((dBin tab .add ty3 (nth 2 ds) (.int .i64 1)).bind fun t25 =>
 (some t25).bind fun t13_1 =>
 some (.nrm, [(nth 0 ds), t5, t13_1, t14, t24], h_1)))
   (some ((.ext 0), [(nth 0 ds), (nth 1 ds), (nth 2 ds), t14, (nth 4 ds)], h_1))
noncomputable def F1053 (t0 : D) (t1 : D) (h : Hp) : Option (D × Hp) :=
  (some (.bool false : D)).bind fun t4 =>
 (some t0).bind fun t6 =>
 (dLenT tab ty29 t6).bind fun t7 =>
 (some t1).bind fun t8 =>
 (dLenT tab ty29 t8).bind fun t9 =>
 (dBin tab .neq ty3 t7 t9).bind fun t10 =>
 dIf t10
   ((some (.bool false : D)).bind fun t4_1 =>
 ((some t4_1).bind fun d => (some ([] : List D)).bind fun ds => some (d :: ds)).bind fun ds => some (mkRes ds, h))
   ((some t0).bind fun t11 =>
 (dLenT tab ty29 t11).bind fun t12 =>
 (some (.int .i64 0 : D)).bind fun t13 =>
 ((loopW (F1053_L0 t0 t1 t12) [t4, .any, t13, .any, .any] h).bind fun r =>
 some ((unblk 0 r.1), [(nth 0 r.2.1), (nth 1 r.2.1), (nth 2 r.2.1), (nth 3 r.2.1), (nth 4 r.2.1)], r.2.2)).bind fun r_1 =>
 toEnd r_1.1 ((some (.bool true : D)).bind fun t4_3 =>
 ((some t4_3).bind fun d => (some ([] : List D)).bind fun ds => some (d :: ds)).bind fun ds => some (mkRes ds, r_1.2.2)) fun x => exEnd x (((some (nth 0 r_1.2.1)).bind fun d => (some ([] : List D)).bind fun ds => some (d :: ds)).bind fun ds => some (mkRes ds, r_1.2.2)))
theorem e1053 (t0 : D) (t1 : D) (h : Hp) : R fn1053 [t0, t1] h = F1053 t0 t1 h :=
  (run_fn (X := X) (F := Fs) (fi := i40) (by kernel_rfl) _ _).trans (by kernel_rfl)
noncomputable def F1054 (t0 : D) (t1 : D) (h : Hp) : Option (D × Hp) :=
  (some (.bool false : D)).bind fun t4 =>
 (some t0).bind fun t5 =>
 (some t1).bind fun t6 =>
 (R fn1060 [t5, t6] h).bind fun p7 =>
 (dBin tab .geq ty3 p7.1 (.int .i64 0)).bind fun t8 =>
 (some t8).bind fun t4_1 =>
 ((some t4_1).bind fun d => (some ([] : List D)).bind fun ds => some (d :: ds)).bind fun ds => some (mkRes ds, p7.2)
theorem e1054 (t0 : D) (t1 : D) (h : Hp) : R fn1054 [t0, t1] h = F1054 t0 t1 h :=
  (run_fn (X := X) (F := Fs) (fi := i41) (by kernel_rfl) _ _).trans (by kernel_rfl)
noncomputable def F1055 (t0 : D) (h : Hp) : Option (D × Hp) :=
  (pBoxF t0).bind fun t1 =>
 (some (.bool false : D)).bind fun t2 =>
 (dFieldAddr tab ty109 1 t1).bind fun t3 =>
 (dLoad tab h ty9 t3).bind fun t4 =>
 (dLenT tab ty9 t4).bind fun t5 =>
 (dBin tab .gtr ty3 t5 (.int .i64 2000)).bind fun t6 =>
 (some t6).bind fun t2_1 =>
 ((some t2_1).bind fun d => (some ([] : List D)).bind fun ds => some (d :: ds)).bind fun ds => some (mkRes ds, h)
theorem e1055 (t0 : D) (h : Hp) : R fn1055 [t0] h = F1055 t0 h :=
  (run_fn (X := X) (F := Fs) (fi := i42) (by kernel_rfl) _ _).trans (by kernel_rfl)
noncomputable def F1011 (t0 : D) (h : Hp) : Option (D × Hp) :=
  (pBoxF t0).bind fun t1 =>
 (some (.int .i64 0 : D)).bind fun t2 =>
 (dFieldAddr tab ty31 0 t1).bind fun t3 =>
 (dLoad tab h ty3 t3).bind fun t4 =>
 (dBin tab .lss ty3 t4 (.int .i64 0)).bind fun t5 =>
 (some t5).bind fun t6 =>
 (gd t6 false (dFieldAddr tab ty31 0 t1)).bind fun t7 =>
 (gd t6 false (dLoad tab h ty3 t7)).bind fun t8 =>
 (gd t6 false (dBin tab .gtr ty3 t8 (.int .i64 999))).bind fun t9 =>
 (dPick t6 (.bool true) t9).bind fun t10 =>
 (some t10).bind fun t11 =>
 (gd t11 false (dFieldAddr tab ty31 1 t1)).bind fun t12 =>
 (gd t11 false (dLoad tab h ty3 t12)).bind fun t13 =>
 (gd t11 false (dBin tab .lss ty3 t13 (.int .i64 0))).bind fun t14 =>
 (dPick t11 (.bool true) t14).bind fun t15 =>
 (some t15).bind fun t16 =>
 (gd t16 false (dFieldAddr tab ty31 1 t1)).bind fun t17 =>
 (gd t16 false (dLoad tab h ty3 t17)).bind fun t18 =>
 (gd t16 false (dBin tab .gtr ty3 t18 (.int .i64 2147483646))).bind fun t19 =>
 (dPick t16 (.bool true) t19).bind fun t20 =>
 (some t20).bind fun t21 =>
 (gd t21 false (dFieldAddr tab ty31 2 t1)).bind fun t22 =>
 (gd t21 false (dLoad tab h ty3 t22)).bind fun t23 =>
 (gd t21 false (dBin tab .lss ty3 t23 (.int .i64 0))).bind fun t24 =>
 (dPick t21 (.bool true) t24).bind fun t25 =>
 (some t25).bind fun t26 =>
 (gd t26 false (dFieldAddr tab ty31 3 t1)).bind fun t27 =>
 (gd t26 false (dLoad tab h ty3 t27)).bind fun t28 =>
 (gd t26 false (dFieldAddr tab ty31 2 t1)).bind fun t29 =>
 (gd t26 false (dLoad tab h ty3 t29)).bind fun t30 =>
 (gd t26 false (dBin tab .leq ty3 t28 t30)).bind fun t31 =>
 (dPick t26 (.bool true) t31).bind fun t32 =>
 (some t32).bind fun t33 =>
 (gd t33 false (dFieldAddr tab ty31 3 t1)).bind fun t34 =>
 (gd t33 false (dLoad tab h ty3 t34)).bind fun t35 =>
 (gd t33 false (dBin tab .gtr ty3 t35 (.int .i64 60000))).bind fun t36 =>
 (dPick t33 (.bool true) t36).bind fun t37 =>
 dIf t37
   ((some (.int .i64 2 : D)).bind fun t2_1 =>
 ((some t2_1).bind fun d => (some ([] : List D)).bind fun ds => some (d :: ds)).bind fun ds => some (mkRes ds, h))
   ((some (.int .i64 0 : D)).bind fun t2_2 =>
 ((some t2_2).bind fun d => (some ([] : List D)).bind fun ds => some (d :: ds)).bind fun ds => some (mkRes ds, h))
theorem e1011 (t0 : D) (h : Hp) : R fn1011 [t0] h = F1011 t0 h :=
  (run_fn (X := X) (F := Fs) (fi := i43) (by kernel_rfl) _ _).trans (by kernel_rfl)
noncomputable def F1014 (t0 : D) (h : Hp) : Option (D × Hp) :=
  (some (.bool false : D)).bind fun t2 =>
 (some t0).bind fun t3 =>
 (dBin tab .geq ty3 t3 (.int .i64 1)).bind fun t4 =>
 (some t4).bind fun t5 =>
 (gd t5 true (some t0)).bind fun t6 =>
 (gd t5 true (dBin tab .leq ty3 t6 (.int .i64 5040))).bind fun t7 =>
 (dPick t5 t7 (.bool false)).bind fun t8 =>
 (some t8).bind fun t9 =>
 (gd t9 true (some t0)).bind fun t10 =>
 (gd t9 true (dBin tab .rem ty3 (.int .i64 5040) t10)).bind fun t11 =>
 (gd t9 true (dBin tab .eql ty3 t11 (.int .i64 0))).bind fun t12 =>
 (dPick t9 t12 (.bool false)).bind fun t13 =>
 (some t13).bind fun t2_1 =>
 ((some t2_1).bind fun d => (some ([] : List D)).bind fun ds => some (d :: ds)).bind fun ds => some (mkRes ds, h)
theorem e1014 (t0 : D) (h : Hp) : R fn1014 [t0] h = F1014 t0 h :=
  (run_fn (X := X) (F := Fs) (fi := i44) (by kernel_rfl) _ _).trans (by kernel_rfl)
noncomputable def F1012_L0 (t1 : D) (t2 : D) (ds : List D) (h_1 : Hp) : Option Out :=
 (some (nth 2 ds)).bind fun t18 =>
 (dFieldAddr tab ty31 4 t2).bind fun t19 =>
 (dLoad tab h_1 ty28 t19).bind fun t20 =>
 (dLenT tab ty28 t20).bind fun t21 =>
 (dBin tab .lss ty3 t18 t21).bind fun t22 =>
 dIf t22
   ((dFieldAddr tab ty31 4 t2).bind fun t25 =>
 (dLoad tab h_1 ty28 t25).bind fun t26 =>
 (some (nth 2 ds)).bind fun t27 =>
 (dIndexAddr tab ty28 t26 t27).bind fun t28 =>
 (dLoad tab h_1 ty78 t28).bind fun t29 =>
 (boxN 3 t29).bind fun t7 =>
 (dFieldAddr tab ty78 0 t7).bind fun t30 =>
 (dLoad tab h_1 ty3 t30).bind fun t31 =>
 (some (nth 1 ds)).bind fun t32 =>
 (dBin tab .neq ty3 t31 t32).bind fun t33 =>
 (some t33).bind fun t34 =>
 (gd t34 false (dFieldAddr tab ty78 1 t7)).bind fun t35 =>
 (gd t34 false (dLoad tab h_1 ty3 t35)).bind fun t36 =>
 (gd t34 false (dBin tab .lss ty3 t36 (.int .i64 1))).bind fun t37 =>
 (dPick t34 (.bool true) t37).bind fun t38 =>
 (some t38).bind fun t39 =>
 (gd t39 false (dFieldAddr tab ty78 1 t7)).bind fun t40 =>
 (gd t39 false (dLoad tab h_1 ty3 t40)).bind fun t41 =>
 (gd t39 false (dFieldAddr tab ty31 3 t2)).bind fun t42 =>
 (gd t39 false (dLoad tab h_1 ty3 t42)).bind fun t43 =>
 (gd t39 false (some (nth 1 ds))).bind fun t44 =>
 (gd t39 false (dBin tab .sub ty3 t43 t44)).bind fun t45 =>
 (gd t39 false (dBin tab .gtr ty3 t41 t45)).bind fun t46 =>
 (dPick t39 (.bool true) t46).bind fun t47 =>
 (some t47).bind fun t48 =>
 (gd t48 false (some (nth 2 ds))).bind fun t49 =>
 (gd t48 false (dFieldAddr tab ty31 4 t2)).bind fun t50 =>
 (gd t48 false (dLoad tab h_1 ty28 t50)).bind fun t51 =>
 (gd t48 false (dLenT tab ty28 t51)).bind fun t52 =>
 (gd t48 false (dBin tab .sub ty3 t52 (.int .i64 1))).bind fun t53 =>
 (gd t48 false (dBin tab .eql ty3 t49 t53)).bind fun t54 =>
 (gd t48 false (some t54)).bind fun t55 =>
 (gd t55 true (dFieldAddr tab ty78 1 t7)).bind fun t56 =>
 (gd t55 true (dLoad tab h_1 ty3 t56)).bind fun t57 =>
 (gd t55 true (dFieldAddr tab ty31 3 t2)).bind fun t58 =>
 (gd t55 true (dLoad tab h_1 ty3 t58)).bind fun t59 =>
 (gd t55 true (some (nth 1 ds))).bind fun t60 =>
 (gd t55 true (dBin tab .sub ty3 t59 t60)).bind fun t61 =>
 (gd t55 true (dBin tab .neq ty3 t57 t61)).bind fun t62 =>
 (gd t48 false (dPick t55 t62 (.bool false))).bind fun t63 =>
 (dPick t48 (.bool true) t63).bind fun t64 =>
 dIf t64
   ((some (.int .i64 19 : D)).bind fun t4_3 =>
 some (.ret, [t4_3, (nth 1 ds), (nth 2 ds), t7, t22, t64, (nth 6 ds)], h_1))
   ((dFieldAddr tab ty78 2 t7).bind fun t65 =>
 (dLoad tab h_1 ty9 t65).bind fun t66 =>
 (dLenT tab ty9 t66).bind fun t67 =>
 (some t1).bind fun t68 =>
 (dBin tab .gtr ty3 t67 t68).bind fun t69 =>
 dIf t69
   ((some (.int .i64 3 : D)).bind fun t4_4 =>
 some (.ret, [t4_4, (nth 1 ds), (nth 2 ds), t7, t22, t64, t69], h_1))
   ((some (nth 1 ds)).bind fun t70 =>
 (dFieldAddr tab ty78 1 t7).bind fun t71 =>
 (dLoad tab h_1 ty3 t71).bind fun t72 =>
 (dBin tab .add ty3 t70 t72).bind fun t73 =>
 (some t73).bind fun t5_1 =>
 (some (nth 2 ds)).bind fun t23 =>
 (dBin tab .add ty3 t23 (.int .i64 1)).bind fun t24 =>
 (some t24).bind fun t6_1 =>
 some (.nrm, [(nth 0 ds), t5_1, t6_1, t7, t22, t64, t69], h_1))))
   (some ((.ext 0), [(nth 0 ds), (nth 1 ds), (nth 2 ds), (nth 3 ds), t22, (nth 5 ds), (nth 6 ds)], h_1))
noncomputable def F1012 (t0 : D) (t1 : D) (h : Hp) : Option (D × Hp) :=
  (pBoxF t0).bind fun t2 =>
 (some (.int .i64 0 : D)).bind fun t4 =>
 (dFieldAddr tab ty31 4 t2).bind fun t8 =>
 (dLoad tab h ty28 t8).bind fun t9 =>
 (dLenT tab ty28 t9).bind fun t10 =>
 (dBin tab .eql ty3 t10 (.int .i64 0)).bind fun t11 =>
 dIf t11
   ((some (.int .i64 9 : D)).bind fun t4_1 =>
 ((some t4_1).bind fun d => (some ([] : List D)).bind fun ds => some (d :: ds)).bind fun ds => some (mkRes ds, h))
   ((dFieldAddr tab ty31 4 t2).bind fun t12 =>
 (dLoad tab h ty28 t12).bind fun t13 =>
 (dLenT tab ty28 t13).bind fun t14 =>
 (dBin tab .gtr ty3 t14 (.int .i64 40)).bind fun t15 =>
 dIf t15
   ((some (.int .i64 4 : D)).bind fun t4_2 =>
 ((some t4_2).bind fun d => (some ([] : List D)).bind fun ds => some (d :: ds)).bind fun ds => some (mkRes ds, h))
   ((dFieldAddr tab ty31 2 t2).bind fun t16 =>
 (dLoad tab h ty3 t16).bind fun t17 =>
 (some t17).bind fun t5 =>
 (some (.int .i64 0 : D)).bind fun t6 =>
 ((loopW (F1012_L0 t1 t2) [t4, t5, t6, .any, .any, .any, .any] h).bind fun r =>
 some ((unblk 0 r.1), [(nth 0 r.2.1), (nth 1 r.2.1), (nth 2 r.2.1), (nth 3 r.2.1), (nth 4 r.2.1), (nth 5 r.2.1), (nth 6 r.2.1)], r.2.2)).bind fun r_1 =>
 toEnd r_1.1 ((some (.int .i64 0 : D)).bind fun t4_5 =>
 ((some t4_5).bind fun d => (some ([] : List D)).bind fun ds => some (d :: ds)).bind fun ds => some (mkRes ds, r_1.2.2)) fun x => exEnd x (((some (nth 0 r_1.2.1)).bind fun d => (some ([] : List D)).bind fun ds => some (d :: ds)).bind fun ds => some (mkRes ds, r_1.2.2))))
theorem e1012 (t0 : D) (t1 : D) (h : Hp) : R fn1012 [t0, t1] h = F1012 t0 t1 h :=
  (run_fn (X := X) (F := Fs) (fi := i45) (by kernel_rfl) _ _).trans (by kernel_rfl)
noncomputable def F1015_L0 (t0 : D) (ds : List D) (h_1 : Hp) : Option Out :=
 (some (nth 2 ds)).bind fun t11 =>
 (some t0).bind fun t12 =>
 (dLenT tab ty29 t12).bind fun t13 =>
 (dBin tab .lss ty3 t11 t13).bind fun t14 =>
 dIf t14
   ((some t0).bind fun t17 =>
 (some (nth 2 ds)).bind fun t18 =>
 (dIndexAddr tab ty29 t17 t18).bind fun t19 =>
 (dFieldAddr tab ty109 0 t19).bind fun t20 =>
 (dLoad tab h_1 ty9 t20).bind fun t21 =>
 (R fn1018 [t21] h_1).bind fun p22 =>
 (dUn .not p22.1).bind fun t23 =>
 dIf t23
   ((some (.nils : D)).bind fun t2_2 =>
 (some (.int .i64 6 : D)).bind fun t3_2 =>
 some (.ret, [t2_2, t3_2, (nth 2 ds), t14, t23], p22.2))
   ((some (nth 2 ds)).bind fun t15 =>
 (dBin tab .add ty3 t15 (.int .i64 1)).bind fun t16 =>
 (some t16).bind fun t4_1 =>
 some (.nrm, [(nth 0 ds), (nth 1 ds), t4_1, t14, t23], p22.2)))
   (some ((.ext 0), [(nth 0 ds), (nth 1 ds), (nth 2 ds), t14, (nth 4 ds)], h_1))
noncomputable def F1015_L2 (t0 : D) (ds_1 : List D) (t5_1 : D) (ds_2 : List D) (h_3 : Hp) : Option Out :=
 (some (nth 0 ds_2)).bind fun t39 =>
 (dBin tab .gtr ty3 t39 (.int .i64 0)).bind fun t40 =>
 (some t40).bind fun t41 =>
 (gd t41 true (some t5_1)).bind fun t42 =>
 (gd t41 true (some (nth 0 ds_2))).bind fun t43 =>
 (gd t41 true (dBin tab .sub ty3 t43 (.int .i64 1))).bind fun t44 =>
 (gd t41 true (dIndexAddr tab ty29 t42 t44)).bind fun t45 =>
 (gd t41 true (dFieldAddr tab ty109 0 t45)).bind fun t46 =>
 (gd t41 true (dLoad tab h_3 ty9 t46)).bind fun t47 =>
 (gd t41 true (some t0)).bind fun t48 =>
 (gd t41 true (some (nth 3 ds_1))).bind fun t49 =>
 (gd t41 true (dIndexAddr tab ty29 t48 t49)).bind fun t50 =>
 (gd t41 true (dFieldAddr tab ty109 0 t50)).bind fun t51 =>
 (gd t41 true (dLoad tab h_3 ty9 t51)).bind fun t52 =>
 (gd t41 true (dBin tab .gtr ty9 t47 t52)).bind fun t53 =>
 (dPick t41 t53 (.bool false)).bind fun t54 =>
 dIf t54
   ((some t5_1).bind fun t55 =>
 (some (nth 0 ds_2)).bind fun t56 =>
 (some t5_1).bind fun t57 =>
 (some (nth 0 ds_2)).bind fun t58 =>
 (dBin tab .sub ty3 t58 (.int .i64 1)).bind fun t59 =>
 (dIndexAddr tab ty29 t57 t59).bind fun t60 =>
 (dLoad tab h_3 ty109 t60).bind fun t61 =>
 (dIndexAddr tab ty29 t55 t56).bind fun t62 =>
 ((dStore tab h_3 ty109 t62 t61).bind fun h' => some ((.und : D), h')).bind fun p908 =>
 (some (nth 0 ds_2)).bind fun t63 =>
 (dBin tab .sub ty3 t63 (.int .i64 1)).bind fun t64 =>
 (some t64).bind fun t7_1 =>
 some (.nrm, [t7_1, t54], p908.2))
   (some ((.ext 4), [(nth 0 ds_2), t54], h_3))
noncomputable def F1015_L1 (t0 : D) (ds_1 : List D) (h_2 : Hp) : Option Out :=
 (some (nth 3 ds_1)).bind fun t24 =>
 (some t0).bind fun t25 =>
 (dLenT tab ty29 t25).bind fun t26 =>
 (dBin tab .lss ty3 t24 t26).bind fun t27 =>
 dIf t27
   ((some (nth 2 ds_1)).bind fun t30 =>
 (dLenT tab ty29 t30).bind fun t31 =>
 (some t31).bind fun t7 =>
 (some (nth 2 ds_1)).bind fun t32 =>
 (some t0).bind fun t33 =>
 (some (nth 3 ds_1)).bind fun t34 =>
 (dIndexAddr tab ty29 t33 t34).bind fun t35 =>
 (dLoad tab h_2 ty109 t35).bind fun t36 =>
 (pLitF tab ty29 1 [0] [t36]).bind fun t37 =>
 (dAppend tab h_2 ty29 ty29 t32 t37).bind fun p38 =>
 (some p38.1).bind fun t5_1 =>
 ((loopW (F1015_L2 t0 ds_1 t5_1) [t7, (nth 6 ds_1)] p38.2).bind fun r_3 =>
 some ((unblk 4 r_3.1), [(nth 0 r_3.2.1), (nth 1 r_3.2.1)], r_3.2.2)).bind fun r_4 =>
 toEnd r_4.1 ((some t5_1).bind fun t65 =>
 (some (nth 0 r_4.2.1)).bind fun t66 =>
 (some t0).bind fun t67 =>
 (some (nth 3 ds_1)).bind fun t68 =>
 (dIndexAddr tab ty29 t67 t68).bind fun t69 =>
 (dLoad tab r_4.2.2 ty109 t69).bind fun t70 =>
 (dIndexAddr tab ty29 t65 t66).bind fun t71 =>
 ((dStore tab r_4.2.2 ty109 t71 t70).bind fun h' => some ((.und : D), h')).bind fun p907 =>
 (some (nth 0 r_4.2.1)).bind fun t72 =>
 (dBin tab .gtr ty3 t72 (.int .i64 0)).bind fun t73 =>
 (some t73).bind fun t74 =>
 (gd t74 true (some t5_1)).bind fun t75 =>
 (gd t74 true (some (nth 0 r_4.2.1))).bind fun t76 =>
 (gd t74 true (dBin tab .sub ty3 t76 (.int .i64 1))).bind fun t77 =>
 (gd t74 true (dIndexAddr tab ty29 t75 t77)).bind fun t78 =>
 (gd t74 true (dFieldAddr tab ty109 0 t78)).bind fun t79 =>
 (gd t74 true (dLoad tab p907.2 ty9 t79)).bind fun t80 =>
 (gd t74 true (some t0)).bind fun t81 =>
 (gd t74 true (some (nth 3 ds_1))).bind fun t82 =>
 (gd t74 true (dIndexAddr tab ty29 t81 t82)).bind fun t83 =>
 (gd t74 true (dFieldAddr tab ty109 0 t83)).bind fun t84 =>
 (gd t74 true (dLoad tab p907.2 ty9 t84)).bind fun t85 =>
 (gd t74 true (dBin tab .eql ty9 t80 t85)).bind fun t86 =>
 (dPick t74 t86 (.bool false)).bind fun t87 =>
 dIf t87
   ((some (.nils : D)).bind fun t2_3 =>
 (some (.int .i64 7 : D)).bind fun t3_3 =>
 some (.ret, [t2_3, t3_3, t5_1, (nth 3 ds_1), (nth 0 r_4.2.1), t27, (nth 1 r_4.2.1), t87], p907.2))
   ((some (nth 3 ds_1)).bind fun t28 =>
 (dBin tab .add ty3 t28 (.int .i64 1)).bind fun t29 =>
 (some t29).bind fun t6_1 =>
 some (.nrm, [(nth 0 ds_1), (nth 1 ds_1), t5_1, t6_1, (nth 0 r_4.2.1), t27, (nth 1 r_4.2.1), t87], p907.2))) fun x_1 => toEnd (unblk 3 x_1) ((some (nth 3 ds_1)).bind fun t28_1 =>
 (dBin tab .add ty3 t28_1 (.int .i64 1)).bind fun t29_1 =>
 (some t29_1).bind fun t6_2 =>
 some (.nrm, [(nth 0 ds_1), (nth 1 ds_1), t5_1, t6_2, (nth 0 r_4.2.1), t27, (nth 1 r_4.2.1), (nth 7 ds_1)], r_4.2.2)) fun x_2 => some (x_2, [(nth 0 ds_1), (nth 1 ds_1), t5_1, (nth 3 ds_1), (nth 0 r_4.2.1), t27, (nth 1 r_4.2.1), (nth 7 ds_1)], r_4.2.2))
   (some ((.ext 2), [(nth 0 ds_1), (nth 1 ds_1), (nth 2 ds_1), (nth 3 ds_1), (nth 4 ds_1), t27, (nth 6 ds_1), (nth 7 ds_1)], h_2))
noncomputable def F1015 (t0 : D) (h : Hp) : Option (D × Hp) :=
  (some (.nils : D)).bind fun t2 =>
 (some (.int .i64 0 : D)).bind fun t3 =>
 (some t0).bind fun t8 =>
 (dLenT tab ty29 t8).bind fun t9 =>
 (dBin tab .gtr ty3 t9 (.int .i64 32)).bind fun t10 =>
 dIf t10
   ((some (.nils : D)).bind fun t2_1 =>
 (some (.int .i64 4 : D)).bind fun t3_1 =>
 ((some t2_1).bind fun d => ((some t3_1).bind fun d => (some ([] : List D)).bind fun ds => some (d :: ds)).bind fun ds => some (d :: ds)).bind fun ds => scope h h (mkRes ds))
   ((some (.int .i64 0 : D)).bind fun t4 =>
 ((loopW (F1015_L0 t0) [t2, t3, t4, .any, .any] h).bind fun r =>
 some ((unblk 0 r.1), [(nth 0 r.2.1), (nth 1 r.2.1), (nth 2 r.2.1), (nth 3 r.2.1), (nth 4 r.2.1)], r.2.2)).bind fun r_1 =>
 toEnd r_1.1 ((some (.nils : D)).bind fun t5 =>
 (some (.int .i64 0 : D)).bind fun t6 =>
 ((loopW (F1015_L1 t0) [(nth 0 r_1.2.1), (nth 1 r_1.2.1), t5, t6, .any, .any, .any, .any] r_1.2.2).bind fun r_2 =>
 some ((unblk 2 r_2.1), [(nth 0 r_2.2.1), (nth 1 r_2.2.1), (nth 2 r_2.2.1), (nth 3 r_2.2.1), (nth 4 r_2.2.1), (nth 5 r_2.2.1), (nth 6 r_2.2.1), (nth 7 r_2.2.1)], r_2.2.2)).bind fun r_5 =>
 toEnd r_5.1 ((some (nth 2 r_5.2.1)).bind fun t88 =>
 (some t88).bind fun t2_4 =>
 (some (.int .i64 0 : D)).bind fun t3_4 =>
 ((some t2_4).bind fun d => ((some t3_4).bind fun d => (some ([] : List D)).bind fun ds => some (d :: ds)).bind fun ds => some (d :: ds)).bind fun ds => scope h r_5.2.2 (mkRes ds)) fun x_3 => exEnd x_3 (((some (nth 0 r_5.2.1)).bind fun d => ((some (nth 1 r_5.2.1)).bind fun d => (some ([] : List D)).bind fun ds => some (d :: ds)).bind fun ds => some (d :: ds)).bind fun ds => scope h r_5.2.2 (mkRes ds))) fun x => exEnd x (((some (nth 0 r_1.2.1)).bind fun d => ((some (nth 1 r_1.2.1)).bind fun d => (some ([] : List D)).bind fun ds => some (d :: ds)).bind fun ds => some (d :: ds)).bind fun ds => scope h r_1.2.2 (mkRes ds)))
theorem e1015 (t0 : D) (h : Hp) : R fn1015 [t0] h = F1015 t0 h :=
  (run_fn (X := X) (F := Fs) (fi := i46) (by kernel_rfl) _ _).trans (by kernel_rfl)
noncomputable def F95_L0 (t0 : D) (t1 : D) (ds : List D) (h_1 : Hp) : Option Out :=
 (some (nth 1 ds)).bind fun t11 =>
 (some t0).bind fun t12 =>
 (dLenT tab ty29 t12).bind fun t13 =>
 (dBin tab .lss ty3 t11 t13).bind fun t14 =>
 dIf t14
   ((some t0).bind fun t17 =>
 (some (nth 1 ds)).bind fun t18 =>
 (dIndexAddr tab ty29 t17 t18).bind fun t19 =>
 (dLoad tab h_1 ty109 t19).bind fun t20 =>
 (some t1).bind fun t21 =>
 (some (nth 1 ds)).bind fun t22 =>
 (dIndexAddr tab ty29 t21 t22).bind fun t23 =>
 (dLoad tab h_1 ty109 t23).bind fun t24 =>
 (dBin tab .neq ty109 t20 t24).bind fun t25 =>
 dIf t25
   ((some (.bool false : D)).bind fun t4_2 =>
 some (.ret, [t4_2, (nth 1 ds), t14, t25], h_1))
   ((some (nth 1 ds)).bind fun t15 =>
 (dBin tab .add ty3 t15 (.int .i64 1)).bind fun t16 =>
 (some t16).bind fun t5_1 =>
 some (.nrm, [(nth 0 ds), t5_1, t14, t25], h_1)))
   (some ((.ext 0), [(nth 0 ds), (nth 1 ds), t14, (nth 3 ds)], h_1))
noncomputable def F95 (t0 : D) (t1 : D) (h : Hp) : Option (D × Hp) :=
  (some (.bool false : D)).bind fun t4 =>
 (some t0).bind fun t6 =>
 (dLenT tab ty29 t6).bind fun t7 =>
 (some t1).bind fun t8 =>
 (dLenT tab ty29 t8).bind fun t9 =>
 (dBin tab .neq ty3 t7 t9).bind fun t10 =>
 dIf t10
   ((some (.bool false : D)).bind fun t4_1 =>
 ((some t4_1).bind fun d => (some ([] : List D)).bind fun ds => some (d :: ds)).bind fun ds => some (mkRes ds, h))
   ((some (.int .i64 0 : D)).bind fun t5 =>
 ((loopW (F95_L0 t0 t1) [t4, t5, .any, .any] h).bind fun r =>
 some ((unblk 0 r.1), [(nth 0 r.2.1), (nth 1 r.2.1), (nth 2 r.2.1), (nth 3 r.2.1)], r.2.2)).bind fun r_1 =>
 toEnd r_1.1 ((some (.bool true : D)).bind fun t4_3 =>
 ((some t4_3).bind fun d => (some ([] : List D)).bind fun ds => some (d :: ds)).bind fun ds => some (mkRes ds, r_1.2.2)) fun x => exEnd x (((some (nth 0 r_1.2.1)).bind fun d => (some ([] : List D)).bind fun ds => some (d :: ds)).bind fun ds => some (mkRes ds, r_1.2.2)))
theorem e95 (t0 : D) (t1 : D) (h : Hp) : R fn95 [t0, t1] h = F95 t0 t1 h :=
  (run_fn (X := X) (F := Fs) (fi := i47) (by kernel_rfl) _ _).trans (by kernel_rfl)
noncomputable def F1049 (t0 : D) (t1 : D) (h : Hp) : Option (D × Hp) :=
  (some (.bool false : D)).bind fun t4 =>
 (some t0).bind fun t5 =>
 (some t1).bind fun t6 =>
 (R fn1006 [t5, t6] h).bind fun p7 =>
 (dBin tab .geq ty3 p7.1 (.int .i64 0)).bind fun t8 =>
 (some t8).bind fun t4_1 =>
 ((some t4_1).bind fun d => (some ([] : List D)).bind fun ds => some (d :: ds)).bind fun ds => some (mkRes ds, p7.2)
theorem e1049 (t0 : D) (t1 : D) (h : Hp) : R fn1049 [t0, t1] h = F1049 t0 t1 h :=
  (run_fn (X := X) (F := Fs) (fi := i48) (by kernel_rfl) _ _).trans (by kernel_rfl)
noncomputable def F1050 (t0 : D) (h : Hp) : Option (D × Hp) :=
  (pBoxF t0).bind fun t1 =>
 (some (.bool false : D)).bind fun t2 =>
 (dFieldAddr tab ty78 2 t1).bind fun t3 =>
 (dLoad tab h ty9 t3).bind fun t4 =>
 (dBin tab .neq ty9 t4 (.str [])).bind fun t5 =>
 (some t5).bind fun t2_1 =>
 ((some t2_1).bind fun d => (some ([] : List D)).bind fun ds => some (d :: ds)).bind fun ds => some (mkRes ds, h)
theorem e1050 (t0 : D) (h : Hp) : R fn1050 [t0] h = F1050 t0 h :=
  (run_fn (X := X) (F := Fs) (fi := i49) (by kernel_rfl) _ _).trans (by kernel_rfl)
noncomputable def F89_L0 (t3 : D) (t6 : D) (t7 : D) (ds : List D) (h_1 : Hp) : Option Out :=
 (dBin tab .lss ty3 (nth 2 ds) t7).bind fun t9 =>
 dIf t9
   ((dIndexAddr tab ty82 t6 (nth 2 ds)).bind fun t10 =>
 (dLoad tab h_1 ty3 t10).bind fun t11 =>
 (some t11).bind fun t5 =>
 (some t5).bind fun t12 =>
 (some t3).bind fun t13 =>
 (dBin tab .neq ty3 t12 t13).bind fun t14 =>
 dIf t14
   ((some t5).bind fun t15 =>
 (some t15).bind fun t2_1 =>
 some (.ret, [t2_1, t5, (nth 2 ds), t9, t14], h_1))
   ((dBin tab .add ty3 (nth 2 ds) (.int .i64 1)).bind fun t16 =>
 (some t16).bind fun t8_1 =>
 some (.nrm, [(nth 0 ds), t5, t8_1, t9, t14], h_1)))
   (some ((.ext 0), [(nth 0 ds), (nth 1 ds), (nth 2 ds), t9, (nth 4 ds)], h_1))
noncomputable def F89 (t0 : D) (h : Hp) : Option (D × Hp) :=
  (some (.int .i64 0 : D)).bind fun t2 =>
 (some (.int .i64 0 : D)).bind fun t3 =>
 (some t0).bind fun t6 =>
 (dLenT tab ty82 t6).bind fun t7 =>
 (some (.int .i64 0 : D)).bind fun t8 =>
 ((loopW (F89_L0 t3 t6 t7) [t2, .any, t8, .any, .any] h).bind fun r =>
 some ((unblk 0 r.1), [(nth 0 r.2.1), (nth 1 r.2.1), (nth 2 r.2.1), (nth 3 r.2.1), (nth 4 r.2.1)], r.2.2)).bind fun r_1 =>
 toEnd r_1.1 ((some t3).bind fun t17 =>
 (some t17).bind fun t2_2 =>
 ((some t2_2).bind fun d => (some ([] : List D)).bind fun ds => some (d :: ds)).bind fun ds => some (mkRes ds, r_1.2.2)) fun x => exEnd x (((some (nth 0 r_1.2.1)).bind fun d => (some ([] : List D)).bind fun ds => some (d :: ds)).bind fun ds => some (mkRes ds, r_1.2.2))
theorem e89 (t0 : D) (h : Hp) : R fn89 [t0] h = F89 t0 h :=
  (run_fn (X := X) (F := Fs) (fi := i50) (by kernel_rfl) _ _).trans (by kernel_rfl)
noncomputable def F90 (t0 : D) (t1 : D) (h : Hp) : Option (D × Hp) :=
  (some (.int .i64 0 : D)).bind fun t4 =>
 (some t0).bind fun t7 =>
 (R fn99 [t7] h).bind fun p8 =>
 (some p8.1).bind fun t5 =>
 (some t1).bind fun t9 =>
 (R fn99 [t9] p8.2).bind fun p10 =>
 (some p10.1).bind fun t6 =>
 (some t5).bind fun t11 =>
 dIf t11
   ((some t6).bind fun t12 =>
 dIf t12
   ((some (.int .i64 0 : D)).bind fun t4_1 =>
 ((some t4_1).bind fun d => (some ([] : List D)).bind fun ds => some (d :: ds)).bind fun ds => some (mkRes ds, p10.2))
   ((some (.int .i64 (-1) : D)).bind fun t4_2 =>
 ((some t4_2).bind fun d => (some ([] : List D)).bind fun ds => some (d :: ds)).bind fun ds => some (mkRes ds, p10.2)))
   ((some t6).bind fun t13 =>
 dIf t13
   ((some (.int .i64 1 : D)).bind fun t4_3 =>
 ((some t4_3).bind fun d => (some ([] : List D)).bind fun ds => some (d :: ds)).bind fun ds => some (mkRes ds, p10.2))
   ((some t0).bind fun t14 =>
 (some t1).bind fun t15 =>
 (dBin tab .lss ty3 t14 t15).bind fun t16 =>
 dIf t16
   ((some (.int .i64 (-1) : D)).bind fun t4_4 =>
 ((some t4_4).bind fun d => (some ([] : List D)).bind fun ds => some (d :: ds)).bind fun ds => some (mkRes ds, p10.2))
   ((some t0).bind fun t17 =>
 (some t1).bind fun t18 =>
 (dBin tab .gtr ty3 t17 t18).bind fun t19 =>
 dIf t19
   ((some (.int .i64 1 : D)).bind fun t4_5 =>
 ((some t4_5).bind fun d => (some ([] : List D)).bind fun ds => some (d :: ds)).bind fun ds => some (mkRes ds, p10.2))
   ((some (.int .i64 0 : D)).bind fun t4_6 =>
 ((some t4_6).bind fun d => (some ([] : List D)).bind fun ds => some (d :: ds)).bind fun ds => some (mkRes ds, p10.2)))))
theorem e90 (t0 : D) (t1 : D) (h : Hp) : R fn90 [t0, t1] h = F90 t0 t1 h :=
  (run_fn (X := X) (F := Fs) (fi := i51) (by kernel_rfl) _ _).trans (by kernel_rfl)
noncomputable def F1131_L0 (t0 : D) (t1 : D) (t12 : D) (ds : List D) (h_1 : Hp) : Option Out :=
 (dBin tab .lss ty3 (nth 2 ds) t12).bind fun t14 =>
 dIf t14
   ((some (nth 2 ds)).bind fun t15 =>
 (some t15).bind fun t5 =>
 (some t0).bind fun t16 =>
 (some t5).bind fun t17 =>
 (dIndexAddr tab ty28 t16 t17).bind fun t18 =>
 (dLoad tab h_1 ty78 t18).bind fun t19 =>
 (some t1).bind fun t20 =>
 (some t5).bind fun t21 =>
 (dIndexAddr tab ty28 t20 t21).bind fun t22 =>
 (dLoad tab h_1 ty78 t22).bind fun t23 =>
 (dBin tab .neq ty78 t19 t23).bind fun t24 =>
 dIf t24
   ((some (.bool false : D)).bind fun t4_2 =>
 some (.ret, [t4_2, t5, (nth 2 ds), t14, t24], h_1))
   ((dBin tab .add ty3 (nth 2 ds) (.int .i64 1)).bind fun t25 =>
 (some t25).bind fun t13_1 =>
 some (.nrm, [(nth 0 ds), t5, t13_1, t14, t24], h_1)))
   (some ((.ext 0), [(nth 0 ds), (nth 1 ds), (nth 2 ds), t14, (nth 4 ds)], h_1))
noncomputable def F1131 (t0 : D) (t1 : D) (h : Hp) : Option (D × Hp) :=
  (some (.bool false : D)).bind fun t4 =>
 (some t0).bind fun t6 =>
 (dLenT tab ty28 t6).bind fun t7 =>
 (some t1).bind fun t8 =>
 (dLenT tab ty28 t8).bind fun t9 =>
 (dBin tab .neq ty3 t7 t9).bind fun t10 =>
 dIf t10
   ((some (.bool false : D)).bind fun t4_1 =>
 ((some t4_1).bind fun d => (some ([] : List D)).bind fun ds => some (d :: ds)).bind fun ds => some (mkRes ds, h))
   ((some t0).bind fun t11 =>
 (dLenT tab ty28 t11).bind fun t12 =>
 (some (.int .i64 0 : D)).bind fun t13 =>
 ((loopW (F1131_L0 t0 t1 t12) [t4, .any, t13, .any, .any] h).bind fun r =>
 some ((unblk 0 r.1), [(nth 0 r.2.1), (nth 1 r.2.1), (nth 2 r.2.1), (nth 3 r.2.1), (nth 4 r.2.1)], r.2.2)).bind fun r_1 =>
 toEnd r_1.1 ((some (.bool true : D)).bind fun t4_3 =>
 ((some t4_3).bind fun d => (some ([] : List D)).bind fun ds => some (d :: ds)).bind fun ds => some (mkRes ds, r_1.2.2)) fun x => exEnd x (((some (nth 0 r_1.2.1)).bind fun d => (some ([] : List D)).bind fun ds => some (d :: ds)).bind fun ds => some (mkRes ds, r_1.2.2)))
theorem e1131 (t0 : D) (t1 : D) (h : Hp) : R fn1131 [t0, t1] h = F1131 t0 t1 h :=
  (run_fn (X := X) (F := Fs) (fi := i52) (by kernel_rfl) _ _).trans (by kernel_rfl)
noncomputable def F94_L0 (t0 : D) (t1 : D) (ds : List D) (h_1 : Hp) : Option Out :=
 (some (nth 1 ds)).bind fun t11 =>
 (some t0).bind fun t12 =>
 (dLenT tab ty28 t12).bind fun t13 =>
 (dBin tab .lss ty3 t11 t13).bind fun t14 =>
 dIf t14
   ((some t0).bind fun t17 =>
 (some (nth 1 ds)).bind fun t18 =>
 (dIndexAddr tab ty28 t17 t18).bind fun t19 =>
 (dLoad tab h_1 ty78 t19).bind fun t20 =>
 (some t1).bind fun t21 =>
 (some (nth 1 ds)).bind fun t22 =>
 (dIndexAddr tab ty28 t21 t22).bind fun t23 =>
 (dLoad tab h_1 ty78 t23).bind fun t24 =>
 (dBin tab .neq ty78 t20 t24).bind fun t25 =>
 dIf t25
   ((some (.bool false : D)).bind fun t4_2 =>
 some (.ret, [t4_2, (nth 1 ds), t14, t25], h_1))
   ((some (nth 1 ds)).bind fun t15 =>
 (dBin tab .add ty3 t15 (.int .i64 1)).bind fun t16 =>
 (some t16).bind fun t5_1 =>
 some (.nrm, [(nth 0 ds), t5_1, t14, t25], h_1)))
   (some ((.ext 0), [(nth 0 ds), (nth 1 ds), t14, (nth 3 ds)], h_1))
noncomputable def F94 (t0 : D) (t1 : D) (h : Hp) : Option (D × Hp) :=
  (some (.bool false : D)).bind fun t4 =>
 (some t0).bind fun t6 =>
 (dLenT tab ty28 t6).bind fun t7 =>
 (some t1).bind fun t8 =>
 (dLenT tab ty28 t8).bind fun t9 =>
 (dBin tab .neq ty3 t7 t9).bind fun t10 =>
 dIf t10
   ((some (.bool false : D)).bind fun t4_1 =>
 ((some t4_1).bind fun d => (some ([] : List D)).bind fun ds => some (d :: ds)).bind fun ds => some (mkRes ds, h))
   ((some (.int .i64 0 : D)).bind fun t5 =>
 ((loopW (F94_L0 t0 t1) [t4, t5, .any, .any] h).bind fun r =>
 some ((unblk 0 r.1), [(nth 0 r.2.1), (nth 1 r.2.1), (nth 2 r.2.1), (nth 3 r.2.1)], r.2.2)).bind fun r_1 =>
 toEnd r_1.1 ((some (.bool true : D)).bind fun t4_3 =>
 ((some t4_3).bind fun d => (some ([] : List D)).bind fun ds => some (d :: ds)).bind fun ds => some (mkRes ds, r_1.2.2)) fun x => exEnd x (((some (nth 0 r_1.2.1)).bind fun d => (some ([] : List D)).bind fun ds => some (d :: ds)).bind fun ds => some (mkRes ds, r_1.2.2)))
theorem e94 (t0 : D) (t1 : D) (h : Hp) : R fn94 [t0, t1] h = F94 t0 t1 h :=
  (run_fn (X := X) (F := Fs) (fi := i53) (by kernel_rfl) _ _).trans (by kernel_rfl)
noncomputable def F1006_L0 (t0 : D) (t1 : D) (t7 : D) (ds : List D) (h_1 : Hp) : Option Out :=
 (dBin tab .lss ty3 (nth 2 ds) t7).bind fun t9 =>
 dIf t9
   ((some (nth 2 ds)).bind fun t10 =>
 (some t10).bind fun t5 =>
 (some t1).bind fun t11 =>
 (some t0).bind fun t12 =>
 (some t5).bind fun t13 =>
 (dIndexAddr tab ty28 t12 t13).bind fun t14 =>
 (dLoad tab h_1 ty78 t14).bind fun t15 =>
 (callV R t11 [t15] h_1).bind fun p16 =>
 dIf p16.1
   ((some t5).bind fun t17 =>
 (some t17).bind fun t4_1 =>
 some (.ret, [t4_1, t5, (nth 2 ds), t9, p16.1], p16.2))
   ((dBin tab .add ty3 (nth 2 ds) (.int .i64 1)).bind fun t18 =>
 (some t18).bind fun t8_1 =>
 some (.nrm, [(nth 0 ds), t5, t8_1, t9, p16.1], p16.2)))
   (some ((.ext 0), [(nth 0 ds), (nth 1 ds), (nth 2 ds), t9, (nth 4 ds)], h_1))
noncomputable def F1006 (t0 : D) (t1 : D) (h : Hp) : Option (D × Hp) :=
  (some (.int .i64 0 : D)).bind fun t4 =>
 (some t0).bind fun t6 =>
 (dLenT tab ty28 t6).bind fun t7 =>
 (some (.int .i64 0 : D)).bind fun t8 =>
 ((loopW (F1006_L0 t0 t1 t7) [t4, .any, t8, .any, .any] h).bind fun r =>
 some ((unblk 0 r.1), [(nth 0 r.2.1), (nth 1 r.2.1), (nth 2 r.2.1), (nth 3 r.2.1), (nth 4 r.2.1)], r.2.2)).bind fun r_1 =>
 toEnd r_1.1 ((some (.int .i64 (-1) : D)).bind fun t4_2 =>
 ((some t4_2).bind fun d => (some ([] : List D)).bind fun ds => some (d :: ds)).bind fun ds => some (mkRes ds, r_1.2.2)) fun x => exEnd x (((some (nth 0 r_1.2.1)).bind fun d => (some ([] : List D)).bind fun ds => some (d :: ds)).bind fun ds => some (mkRes ds, r_1.2.2))
theorem e1006 (t0 : D) (t1 : D) (h : Hp) : R fn1006 [t0, t1] h = F1006 t0 t1 h :=
  (run_fn (X := X) (F := Fs) (fi := i65) (by kernel_rfl) _ _).trans (by kernel_rfl)
noncomputable def F1044 (t0 : D) (t1 : D) (h : Hp) : Option (D × Hp) :=
  (pBoxF t0).bind fun t2 =>
 (some (.bool false : D)).bind fun t3 =>
 (dFieldAddr tab ty78 0 t2).bind fun t4 =>
 (dLoad tab h ty3 t4).bind fun t5 =>
 (dLoad tab h ty3 t1).bind fun t6 =>
 (dBin tab .geq ty3 t5 t6).bind fun t7 =>
 (some t7).bind fun t3_1 =>
 ((some t3_1).bind fun d => (some ([] : List D)).bind fun ds => some (d :: ds)).bind fun ds => some (mkRes ds, h)
theorem e1044 (t0 : D) (t1 : D) (h : Hp) : R fn1044 [t0, t1] h = F1044 t0 t1 h :=
  (run_fn (X := X) (F := Fs) (fi := i66) (by kernel_rfl) _ _).trans (by kernel_rfl)
noncomputable def F1045_L0 (t0 : D) (t1 : D) (ds : List D) (h_1 : Hp) : Option Out :=
 (some (nth 1 ds)).bind fun t16 =>
 (some t0).bind fun t17 =>
 (dLenT tab ty28 t17).bind fun t18 =>
 (dBin tab .lss ty3 t16 t18).bind fun t19 =>
 dIf t19
   ((some t0).bind fun t22 =>
 (some (nth 1 ds)).bind fun t23 =>
 (dIndexAddr tab ty28 t22 t23).bind fun t24 =>
 (dLoad tab h_1 ty78 t24).bind fun t25 =>
 (boxN 3 t25).bind fun t7 =>
 (some t1).bind fun t26 =>
 (dLoad tab h_1 ty78 t7).bind fun t27 =>
 (callV R t26 [t27] h_1).bind fun p28 =>
 (dUn .not p28.1).bind fun t29 =>
 (dIf t29
   ((some t0).bind fun t30 =>
 (some (nth 0 ds)).bind fun t31 =>
 (dLoad tab p28.2 ty78 t7).bind fun t32 =>
 (dIndexAddr tab ty28 t30 t31).bind fun t33 =>
 ((dStore tab p28.2 ty78 t33 t32).bind fun h' => some ((.und : D), h')).bind fun p904 =>
 (some (nth 0 ds)).bind fun t34 =>
 (dBin tab .add ty3 t34 (.int .i64 1)).bind fun t35 =>
 (some t35).bind fun t5_1 =>
 some (.nrm, [t5_1], p904.2))
   (some (.nrm, [(nth 0 ds)], p28.2))).bind fun r_1 =>
 toEnd (unblk 1 r_1.1) ((some (nth 1 ds)).bind fun t20 =>
 (dBin tab .add ty3 t20 (.int .i64 1)).bind fun t21 =>
 (some t21).bind fun t6_1 =>
 some (.nrm, [(nth 0 r_1.2.1), t6_1, t7, t19, t29], r_1.2.2)) fun x => some (x, [(nth 0 r_1.2.1), (nth 1 ds), t7, t19, t29], r_1.2.2))
   (some ((.ext 0), [(nth 0 ds), (nth 1 ds), (nth 2 ds), t19, (nth 4 ds)], h_1))
noncomputable def F1045 (t0 : D) (t1 : D) (h : Hp) : Option (D × Hp) :=
  (some (.nils : D)).bind fun t4 =>
 (some t0).bind fun t8 =>
 (some t1).bind fun t9 =>
 (R fn1006 [t8, t9] h).bind fun p10 =>
 (some p10.1).bind fun t5 =>
 (some t5).bind fun t11 =>
 (dBin tab .eql ty3 t11 (.int .i64 (-1))).bind fun t12 =>
 dIf t12
   ((some t0).bind fun t13 =>
 (some t13).bind fun t4_1 =>
 ((some t4_1).bind fun d => (some ([] : List D)).bind fun ds => some (d :: ds)).bind fun ds => some (mkRes ds, p10.2))
   ((some t5).bind fun t14 =>
 (dBin tab .add ty3 t14 (.int .i64 1)).bind fun t15 =>
 (some t15).bind fun t6 =>
 ((loopW (F1045_L0 t0 t1) [t5, t6, .any, .any, .any] p10.2).bind fun r =>
 some ((unblk 0 r.1), [(nth 0 r.2.1), (nth 1 r.2.1), (nth 2 r.2.1), (nth 3 r.2.1), (nth 4 r.2.1)], r.2.2)).bind fun r_2 =>
 toEnd r_2.1 ((some t0).bind fun t36 =>
 (some (nth 0 r_2.2.1)).bind fun t37 =>
 (dSliceAt tab ty28 true false false [t36, t37]).bind fun t38 =>
 (dClear tab r_2.2.2 ty28 t38).bind fun p903 =>
 (some t0).bind fun t39 =>
 (some (nth 0 r_2.2.1)).bind fun t40 =>
 (dSliceAt tab ty28 false true false [t39, t40]).bind fun t41 =>
 (some t41).bind fun t4_2 =>
 ((some t4_2).bind fun d => (some ([] : List D)).bind fun ds => some (d :: ds)).bind fun ds => some (mkRes ds, p903.2)) fun x_1 => exEnd x_1 (((some t4).bind fun d => (some ([] : List D)).bind fun ds => some (d :: ds)).bind fun ds => some (mkRes ds, r_2.2.2)))
theorem e1045 (t0 : D) (t1 : D) (h : Hp) : R fn1045 [t0, t1] h = F1045 t0 t1 h :=
  (run_fn (X := X) (F := Fs) (fi := i67) (by kernel_rfl) _ _).trans (by kernel_rfl)
noncomputable def F1008 (t0 : D) (h : Hp) : Option (D × Hp) :=
  (some (.nils : D)).bind fun t2 =>
 (some t0).bind fun t3 =>
 (dBin tab .eql ty28 t3 (.nils)).bind fun t4 =>
 dIf t4
   ((some (.nils : D)).bind fun t2_1 =>
 ((some t2_1).bind fun d => (some ([] : List D)).bind fun ds => some (d :: ds)).bind fun ds => some (mkRes ds, h))
   ((pLitF tab ty28 0 [] []).bind fun t5 =>
 (some t0).bind fun t6 =>
 (dAppend tab h ty28 ty28 t5 t6).bind fun p7 =>
 (some p7.1).bind fun t2_2 =>
 ((some t2_2).bind fun d => (some ([] : List D)).bind fun ds => some (d :: ds)).bind fun ds => some (mkRes ds, p7.2))
theorem e1008 (t0 : D) (h : Hp) : R fn1008 [t0] h = F1008 t0 h :=
  (run_fn (X := X) (F := Fs) (fi := i68) (by kernel_rfl) _ _).trans (by kernel_rfl)
noncomputable def F1046 (t0 : D) (t1 : D) (h : Hp) : Option (D × Hp) :=
  (pBoxF t0).bind fun t2 =>
 (some (.bool false : D)).bind fun t3 =>
 (dFieldAddr tab ty78 0 t2).bind fun t4 =>
 (dLoad tab h ty3 t4).bind fun t5 =>
 (dLoad tab h ty3 t1).bind fun t6 =>
 (dBin tab .lss ty3 t5 t6).bind fun t7 =>
 (some t7).bind fun t3_1 =>
 ((some t3_1).bind fun d => (some ([] : List D)).bind fun ds => some (d :: ds)).bind fun ds => some (mkRes ds, h)
theorem e1046 (t0 : D) (t1 : D) (h : Hp) : R fn1046 [t0, t1] h = F1046 t0 t1 h :=
  (run_fn (X := X) (F := Fs) (fi := i69) (by kernel_rfl) _ _).trans (by kernel_rfl)
noncomputable def F41_L0 (t0 : D) (t6 : D) (t7 : D) (ds : List D) (h_1 : Hp) : Option Out :=
 (dBin tab .lss ty3 (nth 2 ds) t7).bind fun t9 =>
 dIf t9
   ((dIndexAddr tab ty98 t6 (nth 2 ds)).bind fun t10 =>
 (dLoad tab h_1 ty9 t10).bind fun t11 =>
 (some t11).bind fun t5 =>
 (some t0).bind fun t12 =>
 (R fn39 [t12, .int .i64 3] h_1).bind fun p13 =>
 (dBin tab .gtr ty3 p13.1 (.int .i64 0)).bind fun t14 =>
 (dIf t14
   ((some (nth 0 ds)).bind fun t15 =>
 (some t5).bind fun t16 =>
 (some t0).bind fun t17 =>
 (pLitF tab ty98 8 [0, 1, 2, 3, 4, 5, 6, 7] [.str [], .str [49], .str [105, 110, 102, 111], .str [119, 97, 114, 110], .str [97, 110, 110], .str [50, 46, 53, 48], .str [116, 114, 117, 101], .str [116, 49]]).bind fun t18 =>
 (R fn40 [t17, t18] p13.2).bind fun p19 =>
 (dBuild tab ty109 [0, 1] [t16, p19.1]).bind fun t20 =>
 (pLitF tab ty29 1 [0] [t20]).bind fun t21 =>
 (dAppend tab p19.2 ty29 ty29 t15 t21).bind fun p22 =>
 (some p22.1).bind fun t3_1 =>
 some (.nrm, [t3_1], p22.2))
   (some (.nrm, [(nth 0 ds)], p13.2))).bind fun r_1 =>
 toEnd (unblk 1 r_1.1) ((dBin tab .add ty3 (nth 2 ds) (.int .i64 1)).bind fun t23 =>
 (some t23).bind fun t8_1 =>
 some (.nrm, [(nth 0 r_1.2.1), t5, t8_1, t9, t14], r_1.2.2)) fun x => some (x, [(nth 0 r_1.2.1), t5, (nth 2 ds), t9, t14], r_1.2.2))
   (some ((.ext 0), [(nth 0 ds), (nth 1 ds), (nth 2 ds), t9, (nth 4 ds)], h_1))
noncomputable def F41 (t0 : D) (h : Hp) : Option (D × Hp) :=
  (some (.nils : D)).bind fun t2 =>
 (some (.nils : D)).bind fun t3 =>
 (pLitF tab ty98 4 [0, 1, 2, 3] [.str [97], .str [105, 100], .str [108, 101, 118, 101, 108], .str [117, 115, 101, 114]]).bind fun t6 =>
 (dLenT tab ty98 t6).bind fun t7 =>
 (some (.int .i64 0 : D)).bind fun t8 =>
 ((loopW (F41_L0 t0 t6 t7) [t3, .any, t8, .any, .any] h).bind fun r =>
 some ((unblk 0 r.1), [(nth 0 r.2.1), (nth 1 r.2.1), (nth 2 r.2.1), (nth 3 r.2.1), (nth 4 r.2.1)], r.2.2)).bind fun r_2 =>
 toEnd r_2.1 ((some (nth 0 r_2.2.1)).bind fun t24 =>
 (some t24).bind fun t2_1 =>
 ((some t2_1).bind fun d => (some ([] : List D)).bind fun ds => some (d :: ds)).bind fun ds => scope h r_2.2.2 (mkRes ds)) fun x_1 => exEnd x_1 (((some t2).bind fun d => (some ([] : List D)).bind fun ds => some (d :: ds)).bind fun ds => scope h r_2.2.2 (mkRes ds))
theorem e41 (t0 : D) (h : Hp) : R fn41 [t0] h = F41 t0 h :=
  (run_fn (X := X) (F := Fs) (fi := i70) (by kernel_rfl) _ _).trans (by kernel_rfl)
noncomputable def F42_L0 (t0 : D) (t3 : D) (ds : List D) (h_1 : Hp) : Option Out :=
 (some (nth 2 ds)).bind fun t16 =>
 (dBin tab .gtr ty3 t16 (.int .i64 0)).bind fun t17 =>
 dIf t17
   ((some (nth 0 ds)).bind fun t20 =>
 (some t0).bind fun t21 =>
 (R fn39 [t21, .int .i64 20] h_1).bind fun p22 =>
 (dBin tab .add ty3 (.int .i64 1) p22.1).bind fun t23 =>
 (dBuild tab ty78 [0, 1] [t20, t23]).bind fun t24 =>
 (some ((.ptr p22.2.length 0 0 : D), dNew p22.2 ty78 3 [[.int .i64 0, .int .i64 0, .str []]])).bind fun p11 =>
 ((dStore tab p11.2 ty78 p11.1 t24).bind fun h' => some ((.und : D), h')).bind fun p906 =>
 (some t3).bind fun t25 =>
 (dIf t25
   ((some t0).bind fun t26 =>
 (R fn67 [t26] p906.2).bind fun p27 =>
 (dFieldAddr tab ty78 2 p11.1).bind fun t28 =>
 ((dStore tab p27.2 ty9 t28 p27.1).bind fun h' => some ((.und : D), h')).bind fun p903 =>
 some (.nrm, ([] : List D), p903.2))
   (some (.nrm, ([] : List D), p906.2))).bind fun r_1 =>
 toEnd r_1.1 ((some (nth 1 ds)).bind fun t29 =>
 (dLoad tab r_1.2.2 ty78 p11.1).bind fun t30 =>
 (pLitF tab ty28 1 [0] [t30]).bind fun t31 =>
 (dAppend tab r_1.2.2 ty28 ty28 t29 t31).bind fun p32 =>
 (some p32.1).bind fun t9_1 =>
 (some (nth 0 ds)).bind fun t33 =>
 (dFieldAddr tab ty78 1 p11.1).bind fun t34 =>
 (dLoad tab p32.2 ty3 t34).bind fun t35 =>
 (dBin tab .add ty3 t33 t35).bind fun t36 =>
 (some t36).bind fun t1_1 =>
 (some (nth 2 ds)).bind fun t18 =>
 (dBin tab .sub ty3 t18 (.int .i64 1)).bind fun t19 =>
 (some t19).bind fun t10_1 =>
 some (.nrm, [t1_1, t9_1, t10_1, p11.1, t17, t25], p32.2)) fun x => toEnd (unblk 1 x) ((some (nth 2 ds)).bind fun t18_1 =>
 (dBin tab .sub ty3 t18_1 (.int .i64 1)).bind fun t19_1 =>
 (some t19_1).bind fun t10_2 =>
 some (.nrm, [(nth 0 ds), (nth 1 ds), t10_2, p11.1, t17, t25], r_1.2.2)) fun x_1 => some (x_1, [(nth 0 ds), (nth 1 ds), (nth 2 ds), p11.1, t17, t25], r_1.2.2))
   (some ((.ext 0), [(nth 0 ds), (nth 1 ds), (nth 2 ds), (nth 3 ds), t17, (nth 5 ds)], h_1))
noncomputable def F42 (t0 : D) (t1 : D) (t2 : D) (t3 : D) (h : Hp) : Option (D × Hp) :=
  (some (.nils : D)).bind fun t8 =>
 (some (.nils : D)).bind fun t9 =>
 (some t0).bind fun t12 =>
 (some t2).bind fun t13 =>
 (R fn39 [t12, t13] h).bind fun p14 =>
 (dBin tab .add ty3 (.int .i64 1) p14.1).bind fun t15 =>
 (some t15).bind fun t10 =>
 ((loopW (F42_L0 t0 t3) [t1, t9, t10, .any, .any, .any] p14.2).bind fun r =>
 some ((unblk 0 r.1), [(nth 0 r.2.1), (nth 1 r.2.1), (nth 2 r.2.1), (nth 3 r.2.1), (nth 4 r.2.1), (nth 5 r.2.1)], r.2.2)).bind fun r_2 =>
 toEnd r_2.1 ((some (nth 1 r_2.2.1)).bind fun t37 =>
 (some t37).bind fun t8_1 =>
 ((some t8_1).bind fun d => (some ([] : List D)).bind fun ds => some (d :: ds)).bind fun ds => scope h r_2.2.2 (mkRes ds)) fun x_2 => exEnd x_2 (((some t8).bind fun d => (some ([] : List D)).bind fun ds => some (d :: ds)).bind fun ds => scope h r_2.2.2 (mkRes ds))
theorem e42 (t0 : D) (t1 : D) (t2 : D) (t3 : D) (h : Hp) : R fn42 [t0, t1, t2, t3] h = F42 t0 t1 t2 t3 h :=
  (run_fn (X := X) (F := Fs) (fi := i71) (by kernel_rfl) _ _).trans (by kernel_rfl)
noncomputable def F66 (t0 : D) (h : Hp) : Option (D × Hp) :=
  (some (.bool false : D)).bind fun t2 =>
 (some t0).bind fun t3 =>
 (dNilCheck tab t3).bind fun t4 =>
 (dFieldAddr tab ty80 1 t4).bind fun t5 =>
 (dLoad tab h ty3 t5).bind fun t6 =>
 (some t0).bind fun t7 =>
 (dNilCheck tab t7).bind fun t8 =>
 (dFieldAddr tab ty80 0 t8).bind fun t9 =>
 (dLoad tab h ty22 t9).bind fun t10 =>
 (dLenT tab ty22 t10).bind fun t11 =>
 (dBin tab .lss ty3 t6 t11).bind fun t12 =>
 (some t12).bind fun t2_1 =>
 ((some t2_1).bind fun d => (some ([] : List D)).bind fun ds => some (d :: ds)).bind fun ds => some (mkRes ds, h)
theorem e66 (t0 : D) (h : Hp) : R fn66 [t0] h = F66 t0 h :=
  (run_fn (X := X) (F := Fs) (fi := i72) (by kernel_rfl) _ _).trans (by kernel_rfl)
noncomputable def F1056_L0 (p24 : D × Hp) (t25 : D) (ds : List D) (h_1 : Hp) : Option Out :=
 (dBin tab .lss ty3 (nth 2 ds) t25).bind fun t27 =>
 dIf t27
   ((dIndexAddr tab ty22 p24.1 (nth 2 ds)).bind fun t28 =>
 (dLoad tab h_1 ty5 t28).bind fun t29 =>
 (some t29).bind fun t4 =>
 (some t4).bind fun t30 =>
 (R fn1062 [t30] h_1).bind fun p31 =>
 (dUn .not p31.1).bind fun t32 =>
 (some t32).bind fun t33 =>
 (gd t33 true (some t4)).bind fun t34 =>
 (gd t33 true (dBin tab .neq ty5 t34 (.int .u8 46))).bind fun t35 =>
 (dPick t33 t35 (.bool false)).bind fun t36 =>
 dIf t36
   ((some (.bool false : D)).bind fun t2_2 =>
 some (.ret, [t2_2, t4, (nth 2 ds), t27, t36], p31.2))
   ((dBin tab .add ty3 (nth 2 ds) (.int .i64 1)).bind fun t37 =>
 (some t37).bind fun t26_1 =>
 some (.nrm, [(nth 0 ds), t4, t26_1, t27, t36], p31.2)))
   (some ((.ext 0), [(nth 0 ds), (nth 1 ds), (nth 2 ds), t27, (nth 4 ds)], h_1))
noncomputable def F1056 (t0 : D) (h : Hp) : Option (D × Hp) :=
  (some (.bool false : D)).bind fun t2 =>
 (some t0).bind fun t5 =>
 (dBin tab .eql ty9 t5 (.str [])).bind fun t6 =>
 (some t6).bind fun t7 =>
 (gd t7 false (some t0)).bind fun t8 =>
 (gd t7 false (dLenT tab ty9 t8)).bind fun t9 =>
 (gd t7 false (dBin tab .gtr ty3 t9 (.int .i64 32))).bind fun t10 =>
 (dPick t7 (.bool true) t10).bind fun t11 =>
 (some t11).bind fun t12 =>
 (gd t12 false (some t0)).bind fun t13 =>
 (gd t12 false (dIndex tab ty9 t13 (.int .i64 0))).bind fun t14 =>
 (gdW t12 false h (R fn1061 [t14] h)).bind fun p15 =>
 (gd t12 false (dUn .not p15.1)).bind fun t16 =>
 (gd t12 false (some t16)).bind fun t17 =>
 (gd t17 true (some t0)).bind fun t18 =>
 (gd t17 true (dIndex tab ty9 t18 (.int .i64 0))).bind fun t19 =>
 (gd t17 true (dBin tab .neq ty5 t19 (.int .u8 95))).bind fun t20 =>
 (gd t12 false (dPick t17 t20 (.bool false))).bind fun t21 =>
 (dPick t12 (.bool true) t21).bind fun t22 =>
 dIf t22
   ((some (.bool false : D)).bind fun t2_1 =>
 ((some t2_1).bind fun d => (some ([] : List D)).bind fun ds => some (d :: ds)).bind fun ds => scope h p15.2 (mkRes ds))
   ((some t0).bind fun t23 =>
 (wBytes ty5 p15.2 t23).bind fun p24 =>
 (dLenT tab ty22 p24.1).bind fun t25 =>
 (some (.int .i64 0 : D)).bind fun t26 =>
 ((loopW (F1056_L0 p24 t25) [t2, .any, t26, .any, .any] p24.2).bind fun r =>
 some ((unblk 0 r.1), [(nth 0 r.2.1), (nth 1 r.2.1), (nth 2 r.2.1), (nth 3 r.2.1), (nth 4 r.2.1)], r.2.2)).bind fun r_1 =>
 toEnd r_1.1 ((some (.bool true : D)).bind fun t2_3 =>
 ((some t2_3).bind fun d => (some ([] : List D)).bind fun ds => some (d :: ds)).bind fun ds => scope h r_1.2.2 (mkRes ds)) fun x => exEnd x (((some (nth 0 r_1.2.1)).bind fun d => (some ([] : List D)).bind fun ds => some (d :: ds)).bind fun ds => scope h r_1.2.2 (mkRes ds)))
theorem e1056 (t0 : D) (h : Hp) : R fn1056 [t0] h = F1056 t0 h :=
  (run_fn (X := X) (F := Fs) (fi := i73) (by kernel_rfl) _ _).trans (by kernel_rfl)
noncomputable def F1009 (t0 : D) (h : Hp) : Option (D × Hp) :=
  (some (.nils : D)).bind fun t2 =>
 (some t0).bind fun t3 =>
 (dBin tab .eql ty29 t3 (.nils)).bind fun t4 =>
 dIf t4
   ((some (.nils : D)).bind fun t2_1 =>
 ((some t2_1).bind fun d => (some ([] : List D)).bind fun ds => some (d :: ds)).bind fun ds => some (mkRes ds, h))
   ((pLitF tab ty29 0 [] []).bind fun t5 =>
 (some t0).bind fun t6 =>
 (dAppend tab h ty29 ty29 t5 t6).bind fun p7 =>
 (some p7.1).bind fun t2_2 =>
 ((some t2_2).bind fun d => (some ([] : List D)).bind fun ds => some (d :: ds)).bind fun ds => some (mkRes ds, p7.2))
theorem e1009 (t0 : D) (h : Hp) : R fn1009 [t0] h = F1009 t0 h :=
  (run_fn (X := X) (F := Fs) (fi := i74) (by kernel_rfl) _ _).trans (by kernel_rfl)
noncomputable def F1057 (t0 : D) (t1 : D) (h : Hp) : Option (D × Hp) :=
  (some t0).bind fun t4 =>
 (some t0).bind fun t5 =>
 (dLenT tab ty29 t5).bind fun t6 =>
 (some t1).bind fun t7 =>
 (R fn1063 [t4, t6, t7] h).bind fun p8 =>
 (some ([] : List D)).bind fun ds => some (mkRes ds, p8.2)
theorem e1057 (t0 : D) (t1 : D) (h : Hp) : R fn1057 [t0, t1] h = F1057 t0 t1 h :=
  (run_fn (X := X) (F := Fs) (fi := i75) (by kernel_rfl) _ _).trans (by kernel_rfl)
noncomputable def F1058 (t0 : D) (t1 : D) (h : Hp) : Option (D × Hp) :=
  (pBoxF t0).bind fun t2 =>
 (pBoxF t1).bind fun t3 =>
 (some (.int .i64 0 : D)).bind fun t4 =>
 (dFieldAddr tab ty109 0 t2).bind fun t5 =>
 (dLoad tab h ty9 t5).bind fun t6 =>
 (dFieldAddr tab ty109 0 t3).bind fun t7 =>
 (dLoad tab h ty9 t7).bind fun t8 =>
 (R fn1059 [t6, t8] h).bind fun p9 =>
 (some p9.1).bind fun t4_1 =>
 ((some t4_1).bind fun d => (some ([] : List D)).bind fun ds => some (d :: ds)).bind fun ds => some (mkRes ds, p9.2)
theorem e1058 (t0 : D) (t1 : D) (h : Hp) : R fn1058 [t0, t1] h = F1058 t0 t1 h :=
  (run_fn (X := X) (F := Fs) (fi := i76) (by kernel_rfl) _ _).trans (by kernel_rfl)
noncomputable def F1059 (t0 : D) (t1 : D) (h : Hp) : Option (D × Hp) :=
  (some (.int .i64 0 : D)).bind fun t4 =>
 (some t0).bind fun t5 =>
 (some t1).bind fun t6 =>
 (R fn1064 [t5, t6] h).bind fun p7 =>
 (some p7.1).bind fun t4_1 =>
 ((some t4_1).bind fun d => (some ([] : List D)).bind fun ds => some (d :: ds)).bind fun ds => some (mkRes ds, p7.2)
theorem e1059 (t0 : D) (t1 : D) (h : Hp) : R fn1059 [t0, t1] h = F1059 t0 t1 h :=
  (run_fn (X := X) (F := Fs) (fi := i77) (by kernel_rfl) _ _).trans (by kernel_rfl)
noncomputable def F1060_L0 (t0 : D) (t1 : D) (t7 : D) (ds : List D) (h_1 : Hp) : Option Out :=
 (dBin tab .lss ty3 (nth 2 ds) t7).bind fun t9 =>
 dIf t9
   ((some (nth 2 ds)).bind fun t10 =>
 (some t10).bind fun t5 =>
 (some t1).bind fun t11 =>
 (some t0).bind fun t12 =>
 (some t5).bind fun t13 =>
 (dIndexAddr tab ty29 t12 t13).bind fun t14 =>
 (dLoad tab h_1 ty109 t14).bind fun t15 =>
 (callV R t11 [t15] h_1).bind fun p16 =>
 dIf p16.1
   ((some t5).bind fun t17 =>
 (some t17).bind fun t4_1 =>
 some (.ret, [t4_1, t5, (nth 2 ds), t9, p16.1], p16.2))
   ((dBin tab .add ty3 (nth 2 ds) (.int .i64 1)).bind fun t18 =>
 (some t18).bind fun t8_1 =>
 some (.nrm, [(nth 0 ds), t5, t8_1, t9, p16.1], p16.2)))
   (some ((.ext 0), [(nth 0 ds), (nth 1 ds), (nth 2 ds), t9, (nth 4 ds)], h_1))
noncomputable def F1060 (t0 : D) (t1 : D) (h : Hp) : Option (D × Hp) :=
  (some (.int .i64 0 : D)).bind fun t4 =>
 (some t0).bind fun t6 =>
 (dLenT tab ty29 t6).bind fun t7 =>
 (some (.int .i64 0 : D)).bind fun t8 =>
 ((loopW (F1060_L0 t0 t1 t7) [t4, .any, t8, .any, .any] h).bind fun r =>
 some ((unblk 0 r.1), [(nth 0 r.2.1), (nth 1 r.2.1), (nth 2 r.2.1), (nth 3 r.2.1), (nth 4 r.2.1)], r.2.2)).bind fun r_1 =>
 toEnd r_1.1 ((some (.int .i64 (-1) : D)).bind fun t4_2 =>
 ((some t4_2).bind fun d => (some ([] : List D)).bind fun ds => some (d :: ds)).bind fun ds => some (mkRes ds, r_1.2.2)) fun x => exEnd x (((some (nth 0 r_1.2.1)).bind fun d => (some ([] : List D)).bind fun ds => some (d :: ds)).bind fun ds => some (mkRes ds, r_1.2.2))
theorem e1060 (t0 : D) (t1 : D) (h : Hp) : R fn1060 [t0, t1] h = F1060 t0 t1 h :=
  (run_fn (X := X) (F := Fs) (fi := i78) (by kernel_rfl) _ _).trans (by kernel_rfl)
end Go.Proofs.YtlpedofpnbggbaaDoor
