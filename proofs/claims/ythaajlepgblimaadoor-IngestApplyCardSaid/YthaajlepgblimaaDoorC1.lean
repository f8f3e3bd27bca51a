/- Functions as Lean functions on data. -/
import Derived.Test.YthaajlepgblimaaDoorB1
set_option linter.unusedSimpArgs false
set_option linter.unusedVariables false
set_option linter.unnecessarySimpa false
set_option maxRecDepth 100000
namespace Go.Proofs.YthaajlepgblimaaDoor
open Go.Eng Go.Pi
noncomputable def F1207_L0 (p6 : D × Hp) (p7 : D × Hp) (t8 : D) (ds : List D) (h_1 : Hp) : Option Out :=
 (some (nth 1 ds)).bind fun t35 =>
 (some t8).bind fun t36 =>
 (dLenT tab ty1059 t36).bind fun t37 =>
 (dBin tab .lss ty3 t35 t37).bind fun t38 =>
 dIf t38
   ((dLoad tab h_1 ty1009 p6.1).bind fun t42 =>
 (some t8).bind fun t43 =>
 (some (nth 1 ds)).bind fun t44 =>
 (dIndexAddr tab ty1059 t43 t44).bind fun t45 =>
 (dLoad tab h_1 ty1064 t45).bind fun t46 =>
 (R fn1089 [t42, t46] h_1).bind fun p47 =>
 (some p47.1).bind fun t41 =>
 (dExtract 0 t41).bind fun t48 =>
 (dExtract 1 t41).bind fun t49 =>
 (dExtract 2 t41).bind fun t50 =>
 (some (.any : D)).bind fun t10 =>
 ((dStore tab (dNew p47.2 ty1009 2 [[.nils, .nils]]) ty1009 (.ptr p47.2.length 0 0) t48).bind fun h' => some ((.und : D), h')).bind fun p911 =>
 (some t49).bind fun t11 =>
 (some t50).bind fun t12 =>
 (dLoad tab p911.2 ty1009 p7.1).bind fun t52 =>
 (some t8).bind fun t53 =>
 (some (nth 1 ds)).bind fun t54 =>
 (dIndexAddr tab ty1059 t53 t54).bind fun t55 =>
 (dLoad tab p911.2 ty1064 t55).bind fun t56 =>
 (R fn1209 [t52, t56] p911.2).bind fun p57 =>
 (some p57.1).bind fun t51 =>
 (dExtract 0 t51).bind fun t58 =>
 (dExtract 1 t51).bind fun t59 =>
 (dExtract 2 t51).bind fun t60 =>
 (some (.any : D)).bind fun t13 =>
 ((dStore tab (dNew p57.2 ty1009 2 [[.nils, .nils]]) ty1009 (.ptr p57.2.length 0 0) t58).bind fun h' => some ((.und : D), h')).bind fun p911_1 =>
 (some t59).bind fun t14 =>
 (some t60).bind fun t15 =>
 (some t12).bind fun t61 =>
 (some t15).bind fun t62 =>
 (dBin tab .neq ty49 t61 t62).bind fun t63 =>
 (some t63).bind fun t64 =>
 (gd t64 false (dLoad tab p911_1.2 ty1009 (.ptr p47.2.length 0 0))).bind fun t65 =>
 (gd t64 false (dLoad tab p911_1.2 ty1009 (.ptr p57.2.length 0 0))).bind fun t66 =>
 (gdW t64 false p911_1.2 (R fn1090 [t65, t66] p911_1.2)).bind fun p67 =>
 (gd t64 false (dUn .not p67.1)).bind fun t68 =>
 (dPick t64 (.bool true) t68).bind fun t69 =>
 (some t69).bind fun t70 =>
 (gd t70 false (some t11)).bind fun t71 =>
 (gd t70 false (some t14)).bind fun t72 =>
 (gdW t70 false p67.2 (R fn29 [t71, t72] p67.2)).bind fun p73 =>
 (gd t70 false (dUn .not p73.1)).bind fun t74 =>
 (dPick t70 (.bool true) t74).bind fun t75 =>
 dIf t75
   ((some (.bool false : D)).bind fun t4_2 =>
 some (.ret, [t4_2, (nth 1 ds), .ptr p47.2.length 0 0, t11, t12, .ptr p57.2.length 0 0, t14, t15, t38, t75], p73.2))
   ((dLoad tab p73.2 ty1009 (.ptr p47.2.length 0 0)).bind fun t76 =>
 (dLoad tab p73.2 ty1009 (.ptr p57.2.length 0 0)).bind fun t77 =>
 ((dStore tab p73.2 ty1009 p6.1 t76).bind fun h' => some ((.und : D), h')).bind fun p902 =>
 chk (dLoad tab p902.2 ty1009 (.ptr p57.2.length 0 0) = some t77)
 (((dStore tab p902.2 ty1009 p7.1 t77).bind fun h' => some ((.und : D), h')).bind fun p903 =>
 (some (nth 1 ds)).bind fun t39 =>
 (dBin tab .add ty3 t39 (.int .i64 1)).bind fun t40 =>
 (some t40).bind fun t9_1 =>
 some (.nrm, [(nth 0 ds), t9_1, .ptr p47.2.length 0 0, t11, t12, .ptr p57.2.length 0 0, t14, t15, t38, t75], p903.2))))
   (some ((.ext 0), [(nth 0 ds), (nth 1 ds), (nth 2 ds), (nth 3 ds), (nth 4 ds), (nth 5 ds), (nth 6 ds), (nth 7 ds), t38, (nth 9 ds)], h_1))
noncomputable def F1207 (t0 : D) (t1 : D) (h : Hp) : Option (D × Hp) :=
  (pBoxF t1).bind fun t3 =>
 (some (.bool false : D)).bind fun t4 =>
 (R fn1001 [] h).bind fun p16 =>
 (dUn .not p16.1).bind fun t17 =>
 (some t17).bind fun t18 =>
 (gd t18 false (dLoad tab p16.2 ty1064 t3)).bind fun t19 =>
 (gdW t18 false p16.2 (R fn1208 [t19] p16.2)).bind fun p20 =>
 (gd t18 false (dUn .not p20.1)).bind fun t21 =>
 (dPick t18 (.bool true) t21).bind fun t22 =>
 dIf t22
   ((dLoad tab p20.2 ty1064 t3).bind fun t23 =>
 (R fn1208 [t23] p20.2).bind fun p24 =>
 (dUn .not p24.1).bind fun t25 =>
 (some t25).bind fun t4_1 =>
 ((some t4_1).bind fun d => (some ([] : List D)).bind fun ds => some (d :: ds)).bind fun ds => scope h p24.2 (mkRes ds))
   ((some t0).bind fun t26 =>
 (R fn44 [t26, .int .i64 400] p20.2).bind fun p27 =>
 (some p27.1).bind fun t5 =>
 (dBuild tab ty1009 [] []).bind fun t28 =>
 (dBuild tab ty1009 [] []).bind fun t29 =>
 (some ((.ptr p27.2.length 0 0 : D), dNew p27.2 ty1009 2 [[.nils, .nils]])).bind fun p6 =>
 (some ((.ptr p6.2.length 0 0 : D), dNew p6.2 ty1009 2 [[.nils, .nils]])).bind fun p7 =>
 ((dStore tab p7.2 ty1009 p6.1 t28).bind fun h' => some ((.und : D), h')).bind fun p904 =>
 ((dStore tab p904.2 ty1009 p7.1 t29).bind fun h' => some ((.und : D), h')).bind fun p905 =>
 (some t5).bind fun t30 =>
 (R fn1088 [t30, .int .i64 1, .int .i64 6] p905.2).bind fun p31 =>
 (dLoad tab p31.2 ty1064 t3).bind fun t32 =>
 (pLitF tab ty1059 1 [0] [t32]).bind fun t33 =>
 ((dAppend tab p31.2 ty1059 ty1059 p31.1 t33).bind fun p => some (aftC 3 p)).bind fun p34 =>
 chk (dLoad tab p905.2 ty1064 t3 = some t32)
 ((some p34.1).bind fun t8 =>
 (some (.int .i64 0 : D)).bind fun t9 =>
 ((loopW (F1207_L0 p6 p7 t8) [t4, t9, .any, .any, .any, .any, .any, .any, .any, .any] p34.2).bind fun r =>
 some ((unblk 0 r.1), [(nth 0 r.2.1), (nth 1 r.2.1), (nth 2 r.2.1), (nth 3 r.2.1), (nth 4 r.2.1), (nth 5 r.2.1), (nth 6 r.2.1), (nth 7 r.2.1), (nth 8 r.2.1), (nth 9 r.2.1)], r.2.2)).bind fun r_1 =>
 toEnd r_1.1 ((some (.bool true : D)).bind fun t4_3 =>
 ((some t4_3).bind fun d => (some ([] : List D)).bind fun ds => some (d :: ds)).bind fun ds => scope h r_1.2.2 (mkRes ds)) fun x => exEnd x (((some (nth 0 r_1.2.1)).bind fun d => (some ([] : List D)).bind fun ds => some (d :: ds)).bind fun ds => scope h r_1.2.2 (mkRes ds))))
theorem e1207 (t0 : D) (t1 : D) (h : Hp) : R fn1207 [t0, t1] h = F1207 t0 t1 h :=
  (run_fn (X := X) (F := Fs) (fi := i4) (by kernel_rfl) _ _).trans (by kernel_rfl)
noncomputable def F1001 (h : Hp) : Option (D × Hp) :=
  (some (.bool false : D)).bind fun t0 =>
 (dBuild tab ty1006 [0, 1, 2] [.int .i64 1, .int .i64 2, .int .i64 3]).bind fun t1 =>
 (pLitF tab ty1007 1 [0] [t1]).bind fun t2 =>
 (dBuild tab ty1009 [0] [t2]).bind fun t3 =>
 (R fn1005 [t3, .int .i64 1, .int .i64 2] h).bind fun p4 =>
 (dBin tab .eql ty3 p4.1 (.int .i64 3)).bind fun t5 =>
 (some t5).bind fun t0_1 =>
 ((some t0_1).bind fun d => (some ([] : List D)).bind fun ds => some (d :: ds)).bind fun ds => some (mkRes ds, p4.2)
theorem e1001 (h : Hp) : R fn1001 [] h = F1001 h :=
  (run_fn (X := X) (F := Fs) (fi := i5) (by kernel_rfl) _ _).trans (by kernel_rfl)
noncomputable def F1208_L0 (t1 : D) (ds : List D) (h_1 : Hp) : Option Out :=
 (some (nth 1 ds)).bind fun t8 =>
 (dFieldAddr tab ty1064 2 t1).bind fun t9 =>
 (dLoad tab h_1 ty113 t9).bind fun t10 =>
 (dLenT tab ty113 t10).bind fun t11 =>
 (dBin tab .lss ty3 t8 t11).bind fun t12 =>
 (some t12).bind fun t13 =>
 (gd t13 true (some (nth 0 ds))).bind fun t14 =>
 (gd t13 true (dBin tab .leq ty3 t14 (.int .i64 300))).bind fun t15 =>
 (dPick t13 t15 (.bool false)).bind fun t16 =>
 dIf t16
   ((some (nth 0 ds)).bind fun t19 =>
 (dFieldAddr tab ty1064 2 t1).bind fun t20 =>
 (dLoad tab h_1 ty113 t20).bind fun t21 =>
 (some (nth 1 ds)).bind fun t22 =>
 (dIndexAddr tab ty113 t21 t22).bind fun t23 =>
 (dFieldAddr tab ty74 1 t23).bind fun t24 =>
 (dFieldAddr tab ty31 4 t24).bind fun t25 =>
 (dLoad tab h_1 ty28 t25).bind fun t26 =>
 (dLenT tab ty28 t26).bind fun t27 =>
 (dFieldAddr tab ty1064 2 t1).bind fun t28 =>
 (dLoad tab h_1 ty113 t28).bind fun t29 =>
 (some (nth 1 ds)).bind fun t30 =>
 (dIndexAddr tab ty113 t29 t30).bind fun t31 =>
 (dFieldAddr tab ty74 1 t31).bind fun t32 =>
 (dFieldAddr tab ty31 9 t32).bind fun t33 =>
 (dLoad tab h_1 ty29 t33).bind fun t34 =>
 (dLenT tab ty29 t34).bind fun t35 =>
 (dBin tab .add ty3 t27 t35).bind fun t36 =>
 (dBin tab .add ty3 t19 t36).bind fun t37 =>
 (some t37).bind fun t3_1 =>
 (some (nth 1 ds)).bind fun t17 =>
 (dBin tab .add ty3 t17 (.int .i64 1)).bind fun t18 =>
 (some t18).bind fun t4_1 =>
 some (.nrm, [t3_1, t4_1, t16], h_1))
   (some ((.ext 0), [(nth 0 ds), (nth 1 ds), t16], h_1))
noncomputable def F1208 (t0 : D) (h : Hp) : Option (D × Hp) :=
  (pBoxF t0).bind fun t1 =>
 (some (.bool false : D)).bind fun t2 =>
 (dFieldAddr tab ty1064 2 t1).bind fun t5 =>
 (dLoad tab h ty113 t5).bind fun t6 =>
 (dLenT tab ty113 t6).bind fun t7 =>
 (some t7).bind fun t3 =>
 (some (.int .i64 0 : D)).bind fun t4 =>
 ((loopW (F1208_L0 t1) [t3, t4, .any] h).bind fun r =>
 some ((unblk 0 r.1), [(nth 0 r.2.1), (nth 1 r.2.1), (nth 2 r.2.1)], r.2.2)).bind fun r_1 =>
 toEnd r_1.1 ((some (nth 0 r_1.2.1)).bind fun t38 =>
 (dBin tab .leq ty3 t38 (.int .i64 300)).bind fun t39 =>
 (some t39).bind fun t2_1 =>
 ((some t2_1).bind fun d => (some ([] : List D)).bind fun ds => some (d :: ds)).bind fun ds => some (mkRes ds, r_1.2.2)) fun x => exEnd x (((some t2).bind fun d => (some ([] : List D)).bind fun ds => some (d :: ds)).bind fun ds => some (mkRes ds, r_1.2.2))
theorem e1208 (t0 : D) (h : Hp) : R fn1208 [t0] h = F1208 t0 h :=
  (run_fn (X := X) (F := Fs) (fi := i6) (by kernel_rfl) _ _).trans (by kernel_rfl)
noncomputable def F44 (t0 : D) (t1 : D) (h : Hp) : Option (D × Hp) :=
  (some (.nilp : D)).bind fun t4 =>
 (some t0).bind fun t5 =>
 (some t0).bind fun t6 =>
 (dLenT tab ty22 t6).bind fun t7 =>
 (some t1).bind fun t8 =>
 (dMin t7 t8).bind fun t9 =>
 (dSliceAt tab ty22 false true false [t5, t9]).bind fun t10 =>
 (dBuild tab ty101 [0] [t10]).bind fun t11 =>
 (wBox ty101 2 h t11).bind fun p12 =>
 (some p12.1).bind fun t4_1 =>
 ((some t4_1).bind fun d => (some ([] : List D)).bind fun ds => some (d :: ds)).bind fun ds => some (mkRes ds, p12.2)
theorem e44 (t0 : D) (t1 : D) (h : Hp) : R fn44 [t0, t1] h = F44 t0 t1 h :=
  (run_fn (X := X) (F := Fs) (fi := i7) (by kernel_rfl) _ _).trans (by kernel_rfl)
noncomputable def F1088_L1 (t0 : D) (t7 : D) (t8 : D) (p11 : D × Hp) (ds_1 : List D) (h_2 : Hp) : Option Out :=
 (some (nth 0 ds_1)).bind fun t32 =>
 (dBin tab .gtr ty3 t32 (.int .i64 0)).bind fun t33 =>
 dIf t33
   (((some t0).bind fun t36 =>
 (some t7).bind fun t37 =>
 (dLenT tab ty111 t37).bind fun t38 =>
 (R fn24 [t36, t38] h_2).bind fun p39 =>
 (some p39.1).bind fun t13 =>
 (some t8).bind fun t40 =>
 (some t13).bind fun t41 =>
 (dIndexAddr tab ty82 t40 t41).bind fun t42 =>
 (dLoad tab p39.2 ty3 t42).bind fun t43 =>
 (some t7).bind fun t44 =>
 (some t13).bind fun t45 =>
 (dIndexAddr tab ty111 t44 t45).bind fun t46 =>
 (dLoad tab p39.2 ty113 t46).bind fun t47 =>
 (dLenT tab ty113 t47).bind fun t48 =>
 (dBin tab .geq ty3 t43 t48).bind fun t49 =>
 dIf t49
   (some (.nrm, [t13, (nth 2 ds_1), t49, (nth 5 ds_1), (nth 6 ds_1), (nth 7 ds_1), (nth 8 ds_1), (nth 9 ds_1)], p39.2))
   ((some t7).bind fun t50 =>
 (some t13).bind fun t51 =>
 (dIndexAddr tab ty111 t50 t51).bind fun t52 =>
 (dLoad tab p39.2 ty113 t52).bind fun t53 =>
 (some t8).bind fun t54 =>
 (some t13).bind fun t55 =>
 (dIndexAddr tab ty82 t54 t55).bind fun t56 =>
 (dLoad tab p39.2 ty3 t56).bind fun t57 =>
 (dIndexAddr tab ty113 t53 t57).bind fun t58 =>
 (dLoad tab p39.2 ty74 t58).bind fun t59 =>
 (some ((.ptr p39.2.length 0 0 : D), dNew p39.2 ty74 11 [[.str [], .int .i64 0, .int .i64 0, .int .i64 0, .int .i64 0, .nils, .int .i64 0, .int .i64 0, .str [], .str [], .nils]])).bind fun p14 =>
 chk (dLoad tab p14.2 ty113 t52 = some t53)
 (chk (dLoad tab p14.2 ty3 t56 = some t57)
 (chk (dLoad tab p14.2 ty74 t58 = some t59)
 (((dStore tab p14.2 ty74 p14.1 t59).bind fun h' => some ((.und : D), h')).bind fun p911 =>
 (some t0).bind fun t60 =>
 (R fn24 [t60, .int .i64 8] p911.2).bind fun p61 =>
 (dBin tab .eql ty3 p61.1 (.int .i64 6)).bind fun t63 =>
 (some t63).bind fun t62 =>
 (dIf t62
   ((some t8).bind fun t64 =>
 (some t13).bind fun t65 =>
 (dIndexAddr tab ty82 t64 t65).bind fun t66 =>
 (dLoad tab p61.2 ty3 t66).bind fun t67 =>
 (dBin tab .gtr ty3 t67 (.int .i64 0)).bind fun t68 =>
 (dIf t68
   ((some t7).bind fun t69 =>
 (some t13).bind fun t70 =>
 (dIndexAddr tab ty111 t69 t70).bind fun t71 =>
 (dLoad tab p61.2 ty113 t71).bind fun t72 =>
 (some t8).bind fun t73 =>
 (some t13).bind fun t74 =>
 (dIndexAddr tab ty82 t73 t74).bind fun t75 =>
 (dLoad tab p61.2 ty3 t75).bind fun t76 =>
 (dBin tab .sub ty3 t76 (.int .i64 1)).bind fun t77 =>
 (dIndexAddr tab ty113 t72 t77).bind fun t78 =>
 (dLoad tab p61.2 ty74 t78).bind fun t79 =>
 (dLoad tab p61.2 ty74 p14.1).bind fun t80 =>
 (R fn1093 [t79, t80] p61.2).bind fun p81 =>
 ((dStore tab p81.2 ty74 p14.1 p81.1).bind fun h' => some ((.und : D), h')).bind fun p913 =>
 some (.nrm, ([] : List D), p913.2))
   (some (.nrm, ([] : List D), p61.2))).bind fun r_2 =>
 some (r_2.1, [t68, (nth 8 ds_1)], r_2.2.2))
   ((dBin tab .eql ty3 p61.1 (.int .i64 7)).bind fun t83 =>
 (some t83).bind fun t82 =>
 dIf t82
   ((some t7).bind fun t84 =>
 (some t13).bind fun t85 =>
 (dIndexAddr tab ty111 t84 t85).bind fun t86 =>
 (dLoad tab p61.2 ty113 t86).bind fun t87 =>
 (some t8).bind fun t88 =>
 (some t13).bind fun t89 =>
 (dIndexAddr tab ty82 t88 t89).bind fun t90 =>
 (dLoad tab p61.2 ty3 t90).bind fun t91 =>
 (dBin tab .add ty3 t91 (.int .i64 1)).bind fun t92 =>
 (some t7).bind fun t93 =>
 (some t13).bind fun t94 =>
 (dIndexAddr tab ty111 t93 t94).bind fun t95 =>
 (dLoad tab p61.2 ty113 t95).bind fun t96 =>
 (dLenT tab ty113 t96).bind fun t97 =>
 (dBin tab .sub ty3 t97 (.int .i64 1)).bind fun t98 =>
 (dMin t92 t98).bind fun t99 =>
 (dIndexAddr tab ty113 t87 t99).bind fun t100 =>
 (dLoad tab p61.2 ty74 t100).bind fun t101 =>
 ((dStore tab p61.2 ty74 p14.1 t101).bind fun h' => some ((.und : D), h')).bind fun p918 =>
 (dFieldAddr tab ty1064 2 p11.1).bind fun t102 =>
 (dLoad tab p918.2 ty113 t102).bind fun t103 =>
 (dLoad tab p918.2 ty74 p14.1).bind fun t104 =>
 (pLitF tab ty113 1 [0] [t104]).bind fun t105 =>
 (dAppend tab p918.2 ty113 ty113 t103 t105).bind fun p106 =>
 (dFieldAddr tab ty1064 2 p11.1).bind fun t107 =>
 ((dStore tab p106.2 ty113 t107 p106.1).bind fun h' => some ((.und : D), h')).bind fun p906 =>
 some ((.ext 3), [(nth 7 ds_1), t82], p906.2))
   (some (.nrm, [(nth 7 ds_1), t82], p61.2)))).bind fun r_3 =>
 toEnd (unblk 4 r_3.1) ((dFieldAddr tab ty1064 2 p11.1).bind fun t108 =>
 (dLoad tab r_3.2.2 ty113 t108).bind fun t109 =>
 (dLoad tab r_3.2.2 ty74 p14.1).bind fun t110 =>
 (pLitF tab ty113 1 [0] [t110]).bind fun t111 =>
 (dAppend tab r_3.2.2 ty113 ty113 t109 t111).bind fun p112 =>
 (dFieldAddr tab ty1064 2 p11.1).bind fun t113 =>
 ((dStore tab p112.2 ty113 t113 p112.1).bind fun h' => some ((.und : D), h')).bind fun p906_1 =>
 (some t0).bind fun t114 =>
 (R fn24 [t114, .int .i64 4] p906_1.2).bind fun p115 =>
 (dBin tab .gtr ty3 p115.1 (.int .i64 0)).bind fun t116 =>
 (dIf t116
   ((some t8).bind fun t117 =>
 (some t13).bind fun t118 =>
 (dIndexAddr tab ty82 t117 t118).bind fun t119 =>
 (dLoad tab p115.2 ty3 t119).bind fun t120 =>
 (dBin tab .add ty3 t120 (.int .i64 1)).bind fun t121 =>
 (dIndexAddr tab ty82 t117 t118).bind fun t122 =>
 ((dStore tab p115.2 ty3 t122 t121).bind fun h' => some ((.und : D), h')).bind fun p906_2 =>
 some (.nrm, ([] : List D), p906_2.2))
   (some (.nrm, ([] : List D), p115.2))).bind fun r_4 =>
 some ((unblk 3 r_4.1), [t13, p14.1, t49, p61.1, t62, (nth 0 r_3.2.1), (nth 1 r_3.2.1), t116], r_4.2.2)) fun x => some ((unblk 3 x), [t13, p14.1, t49, p61.1, t62, (nth 0 r_3.2.1), (nth 1 r_3.2.1), (nth 9 ds_1)], r_3.2.2)))))).bind fun r_5 =>
 toEnd r_5.1 ((some (nth 0 ds_1)).bind fun t34 =>
 (dBin tab .sub ty3 t34 (.int .i64 1)).bind fun t35 =>
 (some t35).bind fun t12_1 =>
 some (.nrm, [t12_1, (nth 0 r_5.2.1), (nth 1 r_5.2.1), t33, (nth 2 r_5.2.1), (nth 3 r_5.2.1), (nth 4 r_5.2.1), (nth 5 r_5.2.1), (nth 6 r_5.2.1), (nth 7 r_5.2.1)], r_5.2.2)) fun x_1 => some (x_1, [(nth 0 ds_1), (nth 0 r_5.2.1), (nth 1 r_5.2.1), t33, (nth 2 r_5.2.1), (nth 3 r_5.2.1), (nth 4 r_5.2.1), (nth 5 r_5.2.1), (nth 6 r_5.2.1), (nth 7 r_5.2.1)], r_5.2.2))
   (some ((.ext 2), [(nth 0 ds_1), (nth 1 ds_1), (nth 2 ds_1), t33, (nth 4 ds_1), (nth 5 ds_1), (nth 6 ds_1), (nth 7 ds_1), (nth 8 ds_1), (nth 9 ds_1)], h_2))
noncomputable def F1088_L0 (t0 : D) (t1 : D) (t7 : D) (t8 : D) (ds : List D) (h_1 : Hp) : Option Out :=
 (some (nth 1 ds)).bind fun t22 =>
 (dBin tab .lss ty3 t22 (.int .i64 12)).bind fun t23 =>
 dIf t23
   ((some t1).bind fun t26 =>
 (some (nth 1 ds)).bind fun t27 =>
 (dBuild tab ty1064 [0, 1] [t26, t27]).bind fun t28 =>
 (some ((.ptr h_1.length 0 0 : D), dNew h_1 ty1064 3 [[.int .i64 0, .int .i64 0, .nils]])).bind fun p11 =>
 ((dStore tab p11.2 ty1064 p11.1 t28).bind fun h' => some ((.und : D), h')).bind fun p904 =>
 (some t0).bind fun t29 =>
 (R fn24 [t29, .int .i64 3] p904.2).bind fun p30 =>
 (dBin tab .add ty3 (.int .i64 1) p30.1).bind fun t31 =>
 (some t31).bind fun t12 =>
 ((loopW (F1088_L1 t0 t7 t8 p11) [t12, (nth 4 ds), (nth 5 ds), (nth 7 ds), (nth 8 ds), (nth 9 ds), (nth 10 ds), (nth 11 ds), (nth 12 ds), (nth 13 ds)] p30.2).bind fun r_1 =>
 some ((unblk 2 r_1.1), [(nth 0 r_1.2.1), (nth 1 r_1.2.1), (nth 2 r_1.2.1), (nth 3 r_1.2.1), (nth 4 r_1.2.1), (nth 5 r_1.2.1), (nth 6 r_1.2.1), (nth 7 r_1.2.1), (nth 8 r_1.2.1), (nth 9 r_1.2.1)], r_1.2.2)).bind fun r_6 =>
 toEnd r_6.1 ((some (nth 0 ds)).bind fun t123 =>
 (dLoad tab r_6.2.2 ty1064 p11.1).bind fun t124 =>
 (pLitF tab ty1059 1 [0] [t124]).bind fun t125 =>
 (dAppend tab r_6.2.2 ty1059 ty1059 t123 t125).bind fun p126 =>
 (some p126.1).bind fun t9_1 =>
 (some t0).bind fun t127 =>
 (R fn24 [t127, .int .i64 4] p126.2).bind fun p128 =>
 (dBin tab .eql ty3 p128.1 (.int .i64 3)).bind fun t129 =>
 (some t129).bind fun t130 =>
 (gd t130 true (some t9_1)).bind fun t131 =>
 (gd t130 true (dLenT tab ty1059 t131)).bind fun t132 =>
 (gd t130 true (dBin tab .gtr ty3 t132 (.int .i64 0))).bind fun t133 =>
 (dPick t130 t133 (.bool false)).bind fun t134 =>
 (dIf t134
   ((some t9_1).bind fun t135 =>
 (some t9_1).bind fun t136 =>
 (some t0).bind fun t137 =>
 (some t9_1).bind fun t138 =>
 (dLenT tab ty1059 t138).bind fun t139 =>
 (R fn24 [t137, t139] p128.2).bind fun p140 =>
 (dIndexAddr tab ty1059 t136 p140.1).bind fun t141 =>
 (dLoad tab p140.2 ty1064 t141).bind fun t142 =>
 (pLitF tab ty1059 1 [0] [t142]).bind fun t143 =>
 (dAppend tab p140.2 ty1059 ty1059 t135 t143).bind fun p144 =>
 (some p144.1).bind fun t9_2 =>
 some (.nrm, [t9_2], p144.2))
   (some (.nrm, [t9_1], p128.2))).bind fun r_7 =>
 toEnd (unblk 1 r_7.1) ((some (nth 1 ds)).bind fun t24 =>
 (dBin tab .add ty3 t24 (.int .i64 1)).bind fun t25 =>
 (some t25).bind fun t10_1 =>
 some (.nrm, [(nth 0 r_7.2.1), t10_1, p11.1, (nth 0 r_6.2.1), (nth 1 r_6.2.1), (nth 2 r_6.2.1), t23, (nth 3 r_6.2.1), (nth 4 r_6.2.1), (nth 5 r_6.2.1), (nth 6 r_6.2.1), (nth 7 r_6.2.1), (nth 8 r_6.2.1), (nth 9 r_6.2.1), t134], r_7.2.2)) fun x_3 => some (x_3, [(nth 0 r_7.2.1), (nth 1 ds), p11.1, (nth 0 r_6.2.1), (nth 1 r_6.2.1), (nth 2 r_6.2.1), t23, (nth 3 r_6.2.1), (nth 4 r_6.2.1), (nth 5 r_6.2.1), (nth 6 r_6.2.1), (nth 7 r_6.2.1), (nth 8 r_6.2.1), (nth 9 r_6.2.1), t134], r_7.2.2)) fun x_2 => toEnd (unblk 1 x_2) ((some (nth 1 ds)).bind fun t24_1 =>
 (dBin tab .add ty3 t24_1 (.int .i64 1)).bind fun t25_1 =>
 (some t25_1).bind fun t10_2 =>
 some (.nrm, [(nth 0 ds), t10_2, p11.1, (nth 0 r_6.2.1), (nth 1 r_6.2.1), (nth 2 r_6.2.1), t23, (nth 3 r_6.2.1), (nth 4 r_6.2.1), (nth 5 r_6.2.1), (nth 6 r_6.2.1), (nth 7 r_6.2.1), (nth 8 r_6.2.1), (nth 9 r_6.2.1), (nth 14 ds)], r_6.2.2)) fun x_4 => some (x_4, [(nth 0 ds), (nth 1 ds), p11.1, (nth 0 r_6.2.1), (nth 1 r_6.2.1), (nth 2 r_6.2.1), t23, (nth 3 r_6.2.1), (nth 4 r_6.2.1), (nth 5 r_6.2.1), (nth 6 r_6.2.1), (nth 7 r_6.2.1), (nth 8 r_6.2.1), (nth 9 r_6.2.1), (nth 14 ds)], r_6.2.2))
   (some ((.ext 0), [(nth 0 ds), (nth 1 ds), (nth 2 ds), (nth 3 ds), (nth 4 ds), (nth 5 ds), t23, (nth 7 ds), (nth 8 ds), (nth 9 ds), (nth 10 ds), (nth 11 ds), (nth 12 ds), (nth 13 ds), (nth 14 ds)], h_1))
noncomputable def F1088 (t0 : D) (t1 : D) (t2 : D) (h : Hp) : Option (D × Hp) :=
  (some (.nils : D)).bind fun t6 =>
 (some t0).bind fun t15 =>
 (some t1).bind fun t16 =>
 (some t2).bind fun t17 =>
 (R fn71 [t15, t16, t17] h).bind fun p18 =>
 (some p18.1).bind fun t7 =>
 (some t7).bind fun t19 =>
 (dLenT tab ty111 t19).bind fun t20 =>
 (dMake tab p18.2 ty82 t20 t20).bind fun p21 =>
 (some p21.1).bind fun t8 =>
 (some (.nils : D)).bind fun t9 =>
 (some (.int .i64 0 : D)).bind fun t10 =>
 ((loopW (F1088_L0 t0 t1 t7 t8) [t9, t10, .any, .any, .any, .any, .any, .any, .any, .any, .any, .any, .any, .any, .any] p21.2).bind fun r =>
 some ((unblk 0 r.1), [(nth 0 r.2.1), (nth 1 r.2.1), (nth 2 r.2.1), (nth 3 r.2.1), (nth 4 r.2.1), (nth 5 r.2.1), (nth 6 r.2.1), (nth 7 r.2.1), (nth 8 r.2.1), (nth 9 r.2.1), (nth 10 r.2.1), (nth 11 r.2.1), (nth 12 r.2.1), (nth 13 r.2.1), (nth 14 r.2.1)], r.2.2)).bind fun r_8 =>
 toEnd r_8.1 ((some (nth 0 r_8.2.1)).bind fun t145 =>
 (some t145).bind fun t6_1 =>
 ((some t6_1).bind fun d => (some ([] : List D)).bind fun ds => some (d :: ds)).bind fun ds => some (mkRes ds, r_8.2.2)) fun x_5 => exEnd x_5 (((some t6).bind fun d => (some ([] : List D)).bind fun ds => some (d :: ds)).bind fun ds => some (mkRes ds, r_8.2.2))
theorem e1088 (t0 : D) (t1 : D) (t2 : D) (h : Hp) : R fn1088 [t0, t1, t2] h = F1088 t0 t1 t2 h :=
  (run_fn (X := X) (F := Fs) (fi := i8) (by kernel_rfl) _ _).trans (by kernel_rfl)
noncomputable def F24 (t0 : D) (t1 : D) (h : Hp) : Option (D × Hp) :=
  (some (.int .i64 0 : D)).bind fun t4 =>
 (some t0).bind fun t6 =>
 (R fn57 [t6] h).bind fun p7 =>
 (dUn .not p7.1).bind fun t8 =>
 (some t8).bind fun t9 =>
 (gd t9 false (some t1)).bind fun t10 =>
 (gd t9 false (dBin tab .lss ty3 t10 (.int .i64 1))).bind fun t11 =>
 (dPick t9 (.bool true) t11).bind fun t12 =>
 dIf t12
   ((some (.int .i64 0 : D)).bind fun t4_1 =>
 ((some t4_1).bind fun d => (some ([] : List D)).bind fun ds => some (d :: ds)).bind fun ds => some (mkRes ds, p7.2))
   ((some t0).bind fun t13 =>
 (dNilCheck tab t13).bind fun t14 =>
 (dFieldAddr tab ty101 0 t14).bind fun t15 =>
 (dLoad tab p7.2 ty22 t15).bind fun t16 =>
 (some t0).bind fun t17 =>
 (dNilCheck tab t17).bind fun t18 =>
 (dFieldAddr tab ty101 1 t18).bind fun t19 =>
 (dLoad tab p7.2 ty3 t19).bind fun t20 =>
 (dIndexAddr tab ty22 t16 t20).bind fun t21 =>
 (dLoad tab p7.2 ty5 t21).bind fun t22 =>
 (dConv tab ty5 ty3 t22).bind fun t23 =>
 (some t23).bind fun t5 =>
 (some t0).bind fun t24 =>
 (dNilCheck tab t24).bind fun t25 =>
 (dFieldAddr tab ty101 1 t25).bind fun t26 =>
 (dLoad tab p7.2 ty3 t26).bind fun t27 =>
 (dBin tab .add ty3 t27 (.int .i64 1)).bind fun t28 =>
 (dNilCheck tab t24).bind fun t29 =>
 (dFieldAddr tab ty101 1 t29).bind fun t30 =>
 ((dStore tab p7.2 ty3 t30 t28).bind fun h' => some ((.und : D), h')).bind fun p907 =>
 (some t5).bind fun t31 =>
 (some t1).bind fun t32 =>
 (dBin tab .mul ty3 t31 t32).bind fun t33 =>
 (dBin tab .quo ty3 t33 (.int .i64 256)).bind fun t34 =>
 (some t34).bind fun t4_2 =>
 ((some t4_2).bind fun d => (some ([] : List D)).bind fun ds => some (d :: ds)).bind fun ds => some (mkRes ds, p907.2))
theorem e24 (t0 : D) (t1 : D) (h : Hp) : R fn24 [t0, t1] h = F24 t0 t1 h :=
  (run_fn (X := X) (F := Fs) (fi := i9) (by kernel_rfl) _ _).trans (by kernel_rfl)
noncomputable def F1094_L0 (t1 : D) (t11 : D) (t12 : D) (ds : List D) (h_1 : Hp) : Option Out :=
 (dBin tab .lss ty3 (nth 3 ds) t12).bind fun t14 =>
 dIf t14
   ((dIndexAddr tab ty113 t11 (nth 3 ds)).bind fun t15 =>
 (dLoad tab h_1 ty74 t15).bind fun t16 =>
 (boxN 11 t16).bind fun t4 =>
 (dLoad tab h_1 ty74 t4).bind fun t17 =>
 (R fn1042 [t17] h_1).bind fun p18 =>
 (some p18.1).bind fun t5 =>
 (some t5).bind fun t20 =>
 (dBin tab .neq ty49 t20 (.int .i64 0)).bind fun t21 =>
 (some t21).bind fun t19 =>
 dIf t19
   ((some t5).bind fun t22 =>
 (some t22).bind fun t2_2 =>
 some (.ret, [t2_2, t4, t5, (nth 3 ds), t14, t19, (nth 6 ds), (nth 7 ds)], p18.2))
   ((dFieldAddr tab ty74 1 t4).bind fun t24 =>
 (dFieldAddr tab ty31 0 t24).bind fun t25 =>
 (dLoad tab p18.2 ty3 t25).bind fun t26 =>
 (dFieldAddr tab ty1064 0 t1).bind fun t27 =>
 (dLoad tab p18.2 ty3 t27).bind fun t28 =>
 (dBin tab .neq ty3 t26 t28).bind fun t29 =>
 (some t29).bind fun t23 =>
 dIf t23
   ((some (.int .i64 24 : D)).bind fun t2_3 =>
 some (.ret, [t2_3, t4, t5, (nth 3 ds), t14, t19, t23, (nth 7 ds)], p18.2))
   ((dFieldAddr tab ty74 0 t4).bind fun t31 =>
 (dLoad tab p18.2 ty9 t31).bind fun t32 =>
 (dBin tab .eql ty9 t32 (.str [42])).bind fun t33 =>
 (some t33).bind fun t30 =>
 dIf t30
   ((some (.int .i64 6 : D)).bind fun t2_4 =>
 some (.ret, [t2_4, t4, t5, (nth 3 ds), t14, t19, t23, t30], p18.2))
   ((dBin tab .add ty3 (nth 3 ds) (.int .i64 1)).bind fun t34 =>
 (some t34).bind fun t13_1 =>
 some (.nrm, [(nth 0 ds), t4, t5, t13_1, t14, t19, t23, t30], p18.2)))))
   (some ((.ext 0), [(nth 0 ds), (nth 1 ds), (nth 2 ds), (nth 3 ds), t14, (nth 5 ds), (nth 6 ds), (nth 7 ds)], h_1))
noncomputable def F1094 (t0 : D) (h : Hp) : Option (D × Hp) :=
  (pBoxF t0).bind fun t1 =>
 (some (.int .i64 0 : D)).bind fun t2 =>
 (dFieldAddr tab ty1064 2 t1).bind fun t6 =>
 (dLoad tab h ty113 t6).bind fun t7 =>
 (dLenT tab ty113 t7).bind fun t8 =>
 (dBin tab .gtr ty3 t8 (.int .i64 40)).bind fun t9 =>
 dIf t9
   ((some (.int .i64 4 : D)).bind fun t2_1 =>
 ((some t2_1).bind fun d => (some ([] : List D)).bind fun ds => some (d :: ds)).bind fun ds => some (mkRes ds, h))
   ((dFieldAddr tab ty1064 2 t1).bind fun t10 =>
 (dLoad tab h ty113 t10).bind fun t11 =>
 (dLenT tab ty113 t11).bind fun t12 =>
 (some (.int .i64 0 : D)).bind fun t13 =>
 ((loopW (F1094_L0 t1 t11 t12) [t2, .any, .any, t13, .any, .any, .any, .any] h).bind fun r =>
 some ((unblk 0 r.1), [(nth 0 r.2.1), (nth 1 r.2.1), (nth 2 r.2.1), (nth 3 r.2.1), (nth 4 r.2.1), (nth 5 r.2.1), (nth 6 r.2.1), (nth 7 r.2.1)], r.2.2)).bind fun r_1 =>
 toEnd r_1.1 ((some (.int .i64 0 : D)).bind fun t2_5 =>
 ((some t2_5).bind fun d => (some ([] : List D)).bind fun ds => some (d :: ds)).bind fun ds => some (mkRes ds, r_1.2.2)) fun x => exEnd x (((some (nth 0 r_1.2.1)).bind fun d => (some ([] : List D)).bind fun ds => some (d :: ds)).bind fun ds => some (mkRes ds, r_1.2.2)))
theorem e1094 (t0 : D) (h : Hp) : R fn1094 [t0] h = F1094 t0 h :=
  (run_fn (X := X) (F := Fs) (fi := i10) (by kernel_rfl) _ _).trans (by kernel_rfl)
noncomputable def F1113_L0 (t1 : D) (ds : List D) (h_1 : Hp) : Option Out :=
 (some (nth 1 ds)).bind fun t10 =>
 (dFieldAddr tab ty1064 2 t1).bind fun t11 =>
 (dLoad tab h_1 ty113 t11).bind fun t12 =>
 (dLenT tab ty113 t12).bind fun t13 =>
 (dBin tab .lss ty3 t10 t13).bind fun t14 =>
 dIf t14
   ((dFieldAddr tab ty1064 2 t1).bind fun t17 =>
 (dLoad tab h_1 ty113 t17).bind fun t18 =>
 (some (nth 1 ds)).bind fun t19 =>
 (dIndexAddr tab ty113 t18 t19).bind fun t20 =>
 (dLoad tab h_1 ty74 t20).bind fun t21 =>
 (boxN 11 t21).bind fun t4 =>
 (dLoad tab h_1 ty74 t4).bind fun t22 =>
 (R fn1004 [t22] h_1).bind fun p23 =>
 (some p23.1).bind fun t5 =>
 (some t5).bind fun t24 =>
 (dBin tab .neq ty49 t24 (.int .i64 0)).bind fun t25 =>
 dIf t25
   ((some t5).bind fun t26 =>
 (some t26).bind fun t2_2 =>
 some (.ret, [t2_2, (nth 1 ds), t4, t5, t14, t25, (nth 6 ds), (nth 7 ds)], p23.2))
   ((dFieldAddr tab ty74 1 t4).bind fun t27 =>
 (dFieldAddr tab ty31 0 t27).bind fun t28 =>
 (dLoad tab p23.2 ty3 t28).bind fun t29 =>
 (dFieldAddr tab ty1064 0 t1).bind fun t30 =>
 (dLoad tab p23.2 ty3 t30).bind fun t31 =>
 (dBin tab .neq ty3 t29 t31).bind fun t32 =>
 dIf t32
   ((some (.int .i64 24 : D)).bind fun t2_3 =>
 some (.ret, [t2_3, (nth 1 ds), t4, t5, t14, t25, t32, (nth 7 ds)], p23.2))
   ((dFieldAddr tab ty74 0 t4).bind fun t33 =>
 (dLoad tab p23.2 ty9 t33).bind fun t34 =>
 (dBin tab .eql ty9 t34 (.str [42])).bind fun t35 =>
 dIf t35
   ((some (.int .i64 6 : D)).bind fun t2_4 =>
 some (.ret, [t2_4, (nth 1 ds), t4, t5, t14, t25, t32, t35], p23.2))
   ((some (nth 1 ds)).bind fun t15 =>
 (dBin tab .add ty3 t15 (.int .i64 1)).bind fun t16 =>
 (some t16).bind fun t3_1 =>
 some (.nrm, [(nth 0 ds), t3_1, t4, t5, t14, t25, t32, t35], p23.2)))))
   (some ((.ext 0), [(nth 0 ds), (nth 1 ds), (nth 2 ds), (nth 3 ds), t14, (nth 5 ds), (nth 6 ds), (nth 7 ds)], h_1))
noncomputable def F1113 (t0 : D) (h : Hp) : Option (D × Hp) :=
  (pBoxF t0).bind fun t1 =>
 (some (.int .i64 0 : D)).bind fun t2 =>
 (dFieldAddr tab ty1064 2 t1).bind fun t6 =>
 (dLoad tab h ty113 t6).bind fun t7 =>
 (dLenT tab ty113 t7).bind fun t8 =>
 (dBin tab .gtr ty3 t8 (.int .i64 40)).bind fun t9 =>
 dIf t9
   ((some (.int .i64 4 : D)).bind fun t2_1 =>
 ((some t2_1).bind fun d => (some ([] : List D)).bind fun ds => some (d :: ds)).bind fun ds => some (mkRes ds, h))
   ((some (.int .i64 0 : D)).bind fun t3 =>
 ((loopW (F1113_L0 t1) [t2, t3, .any, .any, .any, .any, .any, .any] h).bind fun r =>
 some ((unblk 0 r.1), [(nth 0 r.2.1), (nth 1 r.2.1), (nth 2 r.2.1), (nth 3 r.2.1), (nth 4 r.2.1), (nth 5 r.2.1), (nth 6 r.2.1), (nth 7 r.2.1)], r.2.2)).bind fun r_1 =>
 toEnd r_1.1 ((some (.int .i64 0 : D)).bind fun t2_5 =>
 ((some t2_5).bind fun d => (some ([] : List D)).bind fun ds => some (d :: ds)).bind fun ds => some (mkRes ds, r_1.2.2)) fun x => exEnd x (((some (nth 0 r_1.2.1)).bind fun d => (some ([] : List D)).bind fun ds => some (d :: ds)).bind fun ds => some (mkRes ds, r_1.2.2)))
theorem e1113 (t0 : D) (h : Hp) : R fn1113 [t0] h = F1113 t0 h :=
  (run_fn (X := X) (F := Fs) (fi := i11) (by kernel_rfl) _ _).trans (by kernel_rfl)
noncomputable def F84_L0 (t0 : D) (p9 : D × Hp) (ds : List D) (h_1 : Hp) : Option Out :=
 (some (nth 1 ds)).bind fun t23 =>
 (dBin tab .gtr ty3 t23 (.int .i64 0)).bind fun t24 =>
 dIf t24
   ((some t0).bind fun t27 =>
 (R fn96 [t27] h_1).bind fun p28 =>
 (some p28.1).bind fun t12 =>
 (some t12).bind fun t29 =>
 (dLenT tab ty9 t29).bind fun t30 =>
 (dBin tab .add ty3 t30 (.int .i64 1)).bind fun t31 =>
 (some t0).bind fun t32 =>
 (R fn24 [t32, .int .i64 2] p28.2).bind fun p33 =>
 (dBin tab .add ty3 t31 p33.1).bind fun t34 =>
 (some t34).bind fun t13 =>
 (dFieldAddr tab ty31 4 p9.1).bind fun t35 =>
 (dLoad tab p33.2 ty28 t35).bind fun t36 =>
 (some (nth 0 ds)).bind fun t37 =>
 (some t13).bind fun t38 =>
 (some t12).bind fun t39 =>
 (dBuild tab ty78 [0, 1, 2] [t37, t38, t39]).bind fun t40 =>
 (pLitF tab ty28 1 [0] [t40]).bind fun t41 =>
 (dAppend tab p33.2 ty28 ty28 t36 t41).bind fun p42 =>
 (dFieldAddr tab ty31 4 p9.1).bind fun t43 =>
 ((dStore tab p42.2 ty28 t43 p42.1).bind fun h' => some ((.und : D), h')).bind fun p909 =>
 (some (nth 0 ds)).bind fun t44 =>
 (some t13).bind fun t45 =>
 (dBin tab .add ty3 t44 t45).bind fun t46 =>
 (some t46).bind fun t10_1 =>
 (some (nth 1 ds)).bind fun t25 =>
 (dBin tab .sub ty3 t25 (.int .i64 1)).bind fun t26 =>
 (some t26).bind fun t11_1 =>
 some (.nrm, [t10_1, t11_1, t12, t13, t24], p909.2))
   (some ((.ext 0), [(nth 0 ds), (nth 1 ds), (nth 2 ds), (nth 3 ds), t24], h_1))
noncomputable def F84_L1 (p9 : D × Hp) (ds_1 : List D) (h_2 : Hp) : Option Out :=
 (some (nth 0 ds_1)).bind fun t52 =>
 (dFieldAddr tab ty31 4 p9.1).bind fun t53 =>
 (dLoad tab h_2 ty28 t53).bind fun t54 =>
 (dLenT tab ty28 t54).bind fun t55 =>
 (dBin tab .lss ty3 t52 t55).bind fun t56 =>
 dIf t56
   ((dFieldAddr tab ty31 4 p9.1).bind fun t59 =>
 (dLoad tab h_2 ty28 t59).bind fun t60 =>
 (some (nth 0 ds_1)).bind fun t61 =>
 (dIndexAddr tab ty28 t60 t61).bind fun t62 =>
 (dFieldAddr tab ty78 2 t62).bind fun t63 =>
 ((dStore tab h_2 ty9 t63 (.str [])).bind fun h' => some ((.und : D), h')).bind fun p905_1 =>
 (some (nth 0 ds_1)).bind fun t57 =>
 (dBin tab .add ty3 t57 (.int .i64 1)).bind fun t58 =>
 (some t58).bind fun t14_1 =>
 some (.nrm, [t14_1, t56], p905_1.2))
   (some ((.ext 2), [(nth 0 ds_1), t56], h_2))
noncomputable def F84 (t0 : D) (t1 : D) (t2 : D) (t3 : D) (h : Hp) : Option (D × Hp) :=
  (some ((.ptr h.length 0 0 : D), dNew h ty74 11 [[.str [], .int .i64 0, .int .i64 0, .int .i64 0, .int .i64 0, .nils, .int .i64 0, .int .i64 0, .str [], .str [], .nils]])).bind fun p8 =>
 (some t1).bind fun t15 =>
 (some t2).bind fun t16 =>
 (some t3).bind fun t17 =>
 (dBuild tab ty31 [0, 1, 2] [t15, t16, t17]).bind fun t18 =>
 (some ((.ptr p8.2.length 0 0 : D), dNew p8.2 ty31 10 [[.int .i64 0, .int .i64 0, .int .i64 0, .int .i64 0, .nils, .int .i64 0, .int .i64 0, .str [], .str [], .nils]])).bind fun p9 =>
 ((dStore tab p9.2 ty31 p9.1 t18).bind fun h' => some ((.und : D), h')).bind fun p905 =>
 (some t3).bind fun t19 =>
 (some t19).bind fun t10 =>
 (some t0).bind fun t20 =>
 (R fn24 [t20, .int .i64 3] p905.2).bind fun p21 =>
 (dBin tab .add ty3 (.int .i64 1) p21.1).bind fun t22 =>
 (some t22).bind fun t11 =>
 ((loopW (F84_L0 t0 p9) [t10, t11, .any, .any, .any] p21.2).bind fun r =>
 some ((unblk 0 r.1), [(nth 0 r.2.1), (nth 1 r.2.1), (nth 2 r.2.1), (nth 3 r.2.1), (nth 4 r.2.1)], r.2.2)).bind fun r_1 =>
 toEnd r_1.1 ((some (nth 0 r_1.2.1)).bind fun t47 =>
 (dFieldAddr tab ty31 3 p9.1).bind fun t48 =>
 ((dStore tab r_1.2.2 ty3 t48 t47).bind fun h' => some ((.und : D), h')).bind fun p902 =>
 (some t0).bind fun t49 =>
 (R fn24 [t49, .int .i64 5] p902.2).bind fun p50 =>
 (dBin tab .eql ty3 p50.1 (.int .i64 4)).bind fun t51 =>
 dIf t51
   ((some (.int .i64 0 : D)).bind fun t14 =>
 ((loopW (F84_L1 p9) [t14, .any] p50.2).bind fun r_2 =>
 some ((unblk 2 r_2.1), [(nth 0 r_2.2.1), (nth 1 r_2.2.1)], r_2.2.2)).bind fun r_3 =>
 toEnd r_3.1 ((pLitF tab ty98 3 [0, 1, 2] [.str [115, 97, 109, 112, 108, 101], .str [100, 114, 111, 112], .str [116, 111, 111, 45, 108, 111, 110, 103]]).bind fun t64 =>
 (some t0).bind fun t65 =>
 (R fn24 [t65, .int .i64 3] r_3.2.2).bind fun p66 =>
 (dIndexAddr tab ty98 t64 p66.1).bind fun t67 =>
 (dLoad tab p66.2 ty9 t67).bind fun t68 =>
 (dLoad tab p66.2 ty31 p9.1).bind fun t69 =>
 (dBuild tab ty74 [0, 1] [t68, t69]).bind fun t70 =>
 chk (dLoad tab r_3.2.2 ty31 p9.1 = some t69)
 (((dStore tab p66.2 ty74 p8.1 t70).bind fun h' => some ((.und : D), h')).bind fun p907 =>
 ((some (p8.1 : D)).bind fun p => (dLoad tab p907.2 ty74 p).bind fun d => (some ([] : List D)).bind fun ds => some (d :: ds)).bind fun ds => scope h p907.2 (mkRes ds))) fun x_1 => toEnd x_1 ((some t0).bind fun t71 =>
 (R fn35 [t71] r_3.2.2).bind fun p72 =>
 (some t0).bind fun t73 =>
 (R fn97 [t73] p72.2).bind fun p74 =>
 (dFieldAddr tab ty31 5 p9.1).bind fun t75 =>
 ((dStore tab p74.2 ty3 t75 p72.1).bind fun h' => some ((.und : D), h')).bind fun p905_2 =>
 (dFieldAddr tab ty31 6 p9.1).bind fun t76 =>
 ((dStore tab p905_2.2 ty3 t76 p74.1).bind fun h' => some ((.und : D), h')).bind fun p907_1 =>
 (pLitF tab ty98 4 [0, 1, 2, 3] [.str [116, 49], .str [116, 50], .str [], .str [49, 58, 50, 58, 48]]).bind fun t77 =>
 (some t0).bind fun t78 =>
 (R fn24 [t78, .int .i64 4] p907_1.2).bind fun p79 =>
 (dIndexAddr tab ty98 t77 p79.1).bind fun t80 =>
 (dLoad tab p79.2 ty9 t80).bind fun t81 =>
 (pLitF tab ty98 2 [0, 1] [.str [109, 97, 105, 110], .str [100, 101, 98, 117, 103]]).bind fun t82 =>
 (some t0).bind fun t83 =>
 (R fn24 [t83, .int .i64 2] p79.2).bind fun p84 =>
 (dIndexAddr tab ty98 t82 p84.1).bind fun t85 =>
 (dLoad tab p84.2 ty9 t85).bind fun t86 =>
 (dFieldAddr tab ty31 7 p9.1).bind fun t87 =>
 ((dStore tab p84.2 ty9 t87 t81).bind fun h' => some ((.und : D), h')).bind fun p911 =>
 chk (dLoad tab p84.2 ty9 t80 = some t81)
 (chk (dLoad tab p911.2 ty9 t85 = some t86)
 ((dFieldAddr tab ty31 8 p9.1).bind fun t88 =>
 ((dStore tab p911.2 ty9 t88 t86).bind fun h' => some ((.und : D), h')).bind fun p913 =>
 (some t0).bind fun t89 =>
 (R fn98 [t89] p913.2).bind fun p90 =>
 (dFieldAddr tab ty31 9 p9.1).bind fun t91 =>
 ((dStore tab p90.2 ty29 t91 p90.1).bind fun h' => some ((.und : D), h')).bind fun p903 =>
 (dLoad tab p903.2 ty31 p9.1).bind fun t92 =>
 (dBuild tab ty74 [1] [t92]).bind fun t93 =>
 ((dStore tab p903.2 ty74 p8.1 t93).bind fun h' => some ((.und : D), h')).bind fun p902_1 =>
 ((some (p8.1 : D)).bind fun p => (dLoad tab p902_1.2 ty74 p).bind fun d => (some ([] : List D)).bind fun ds => some (d :: ds)).bind fun ds => scope h p902_1.2 (mkRes ds)))) fun x_2 => exEnd x_2 (((some (p8.1 : D)).bind fun p => (dLoad tab r_3.2.2 ty74 p).bind fun d => (some ([] : List D)).bind fun ds => some (d :: ds)).bind fun ds => scope h r_3.2.2 (mkRes ds)))
   ((some t0).bind fun t71_1 =>
 (R fn35 [t71_1] p50.2).bind fun p72_1 =>
 (some t0).bind fun t73_1 =>
 (R fn97 [t73_1] p72_1.2).bind fun p74_1 =>
 (dFieldAddr tab ty31 5 p9.1).bind fun t75_1 =>
 ((dStore tab p74_1.2 ty3 t75_1 p72_1.1).bind fun h' => some ((.und : D), h')).bind fun p905_3 =>
 (dFieldAddr tab ty31 6 p9.1).bind fun t76_1 =>
 ((dStore tab p905_3.2 ty3 t76_1 p74_1.1).bind fun h' => some ((.und : D), h')).bind fun p907_2 =>
 (pLitF tab ty98 4 [0, 1, 2, 3] [.str [116, 49], .str [116, 50], .str [], .str [49, 58, 50, 58, 48]]).bind fun t77_1 =>
 (some t0).bind fun t78_1 =>
 (R fn24 [t78_1, .int .i64 4] p907_2.2).bind fun p79_1 =>
 (dIndexAddr tab ty98 t77_1 p79_1.1).bind fun t80_1 =>
 (dLoad tab p79_1.2 ty9 t80_1).bind fun t81_1 =>
 (pLitF tab ty98 2 [0, 1] [.str [109, 97, 105, 110], .str [100, 101, 98, 117, 103]]).bind fun t82_1 =>
 (some t0).bind fun t83_1 =>
 (R fn24 [t83_1, .int .i64 2] p79_1.2).bind fun p84_1 =>
 (dIndexAddr tab ty98 t82_1 p84_1.1).bind fun t85_1 =>
 (dLoad tab p84_1.2 ty9 t85_1).bind fun t86_1 =>
 (dFieldAddr tab ty31 7 p9.1).bind fun t87_1 =>
 ((dStore tab p84_1.2 ty9 t87_1 t81_1).bind fun h' => some ((.und : D), h')).bind fun p911_1 =>
 chk (dLoad tab p84_1.2 ty9 t80_1 = some t81_1)
 (chk (dLoad tab p911_1.2 ty9 t85_1 = some t86_1)
 ((dFieldAddr tab ty31 8 p9.1).bind fun t88_1 =>
 ((dStore tab p911_1.2 ty9 t88_1 t86_1).bind fun h' => some ((.und : D), h')).bind fun p913_1 =>
 (some t0).bind fun t89_1 =>
 (R fn98 [t89_1] p913_1.2).bind fun p90_1 =>
 (dFieldAddr tab ty31 9 p9.1).bind fun t91_1 =>
 ((dStore tab p90_1.2 ty29 t91_1 p90_1.1).bind fun h' => some ((.und : D), h')).bind fun p903_1 =>
 (dLoad tab p903_1.2 ty31 p9.1).bind fun t92_1 =>
 (dBuild tab ty74 [1] [t92_1]).bind fun t93_1 =>
 ((dStore tab p903_1.2 ty74 p8.1 t93_1).bind fun h' => some ((.und : D), h')).bind fun p902_2 =>
 ((some (p8.1 : D)).bind fun p => (dLoad tab p902_2.2 ty74 p).bind fun d => (some ([] : List D)).bind fun ds => some (d :: ds)).bind fun ds => scope h p902_2.2 (mkRes ds))))) fun x => exEnd x (((some (p8.1 : D)).bind fun p => (dLoad tab r_1.2.2 ty74 p).bind fun d => (some ([] : List D)).bind fun ds => some (d :: ds)).bind fun ds => scope h r_1.2.2 (mkRes ds))
theorem e84 (t0 : D) (t1 : D) (t2 : D) (t3 : D) (h : Hp) : R fn84 [t0, t1, t2, t3] h = F84 t0 t1 t2 t3 h :=
  (run_fn (X := X) (F := Fs) (fi := i12) (by kernel_rfl) _ _).trans (by kernel_rfl)
noncomputable def F1089_L0 (t2 : D) (p4 : D × Hp) (t8 : D) (t27 : D) (t28 : D) (ds : List D) (h_1 : Hp) : Option Out :=
 (dBin tab .lss ty3 (nth 3 ds) t28).bind fun t30 =>
 dIf t30
   ((dIndexAddr tab ty113 t27 (nth 3 ds)).bind fun t31 =>
 (dLoad tab h_1 ty74 t31).bind fun t32 =>
 (boxN 11 t32).bind fun t10 =>
 (some t8).bind fun t33 =>
 (dLoad tab h_1 ty74 t10).bind fun t34 =>
 (R fn1096 [t33, t34] h_1).bind fun p35 =>
 (dUn .not p35.1).bind fun t36 =>
 dIf t36
   ((dLoad tab p35.2 ty1009 t2).bind fun t37 =>
 ((dStore tab p35.2 ty1009 p4.1 t37).bind fun h' => some ((.und : D), h')).bind fun p901 =>
 (some (.nils : D)).bind fun t5_2 =>
 (some (.int .i64 23 : D)).bind fun t6_2 =>
 some (.ret, [t5_2, t6_2, t10, (nth 3 ds), t30, t36], p901.2))
   ((dBin tab .add ty3 (nth 3 ds) (.int .i64 1)).bind fun t38 =>
 (some t38).bind fun t29_1 =>
 some (.nrm, [(nth 0 ds), (nth 1 ds), t10, t29_1, t30, t36], p35.2)))
   (some ((.ext 0), [(nth 0 ds), (nth 1 ds), (nth 2 ds), (nth 3 ds), t30, (nth 5 ds)], h_1))
noncomputable def F1089 (t0 : D) (t1 : D) (h : Hp) : Option (D × Hp) :=
  (pBoxF t0).bind fun t2 =>
 (pBoxF t1).bind fun t3 =>
 (some ((.ptr h.length 0 0 : D), dNew h ty1009 2 [[.nils, .nils]])).bind fun p4 =>
 (some (.nils : D)).bind fun t5 =>
 (some (.int .i64 0 : D)).bind fun t6 =>
 (dLoad tab p4.2 ty1064 t3).bind fun t11 =>
 (R fn1094 [t11] p4.2).bind fun p12 =>
 (some p12.1).bind fun t7 =>
 (some t7).bind fun t13 =>
 (dBin tab .neq ty49 t13 (.int .i64 0)).bind fun t14 =>
 dIf t14
   ((dLoad tab p12.2 ty1009 t2).bind fun t15 =>
 (some t7).bind fun t16 =>
 ((dStore tab p12.2 ty1009 p4.1 t15).bind fun h' => some ((.und : D), h')).bind fun p902 =>
 (some (.nils : D)).bind fun t5_1 =>
 (some t16).bind fun t6_1 =>
 ((some (p4.1 : D)).bind fun p => (dLoad tab p902.2 ty1009 p).bind fun d => ((some t5_1).bind fun d => ((some t6_1).bind fun d => (some ([] : List D)).bind fun ds => some (d :: ds)).bind fun ds => some (d :: ds)).bind fun ds => some (d :: ds)).bind fun ds => scope h p902.2 (mkRes ds))
   ((dFieldAddr tab ty1009 0 t2).bind fun t17 =>
 (dLoad tab p12.2 ty1007 t17).bind fun t18 =>
 (R fn1095 [t18] p12.2).bind fun p19 =>
 (dFieldAddr tab ty1009 1 t2).bind fun t20 =>
 (dLoad tab p19.2 ty58 t20).bind fun t21 =>
 (R fn79 [t21] p19.2).bind fun p22 =>
 (dBuild tab ty1009 [0, 1] [p19.1, p22.1]).bind fun t23 =>
 (dBuild tab ty1073 [0] [t23]).bind fun t24 =>
 (wBox ty1073 3 p22.2 t24).bind fun p25 =>
 chk (dLoad tab p12.2 ty58 t20 = some t21)
 ((some p25.1).bind fun t8 =>
 (dFieldAddr tab ty1064 2 t3).bind fun t26 =>
 (dLoad tab p25.2 ty113 t26).bind fun t27 =>
 (dLenT tab ty113 t27).bind fun t28 =>
 (some (.int .i64 0 : D)).bind fun t29 =>
 ((loopW (F1089_L0 t2 p4 t8 t27 t28) [t5, t6, .any, t29, .any, .any] p25.2).bind fun r =>
 some ((unblk 0 r.1), [(nth 0 r.2.1), (nth 1 r.2.1), (nth 2 r.2.1), (nth 3 r.2.1), (nth 4 r.2.1), (nth 5 r.2.1)], r.2.2)).bind fun r_1 =>
 toEnd r_1.1 ((some t8).bind fun t39 =>
 (dNilCheck tab t39).bind fun t40 =>
 (dFieldAddr tab ty1073 0 t40).bind fun t41 =>
 (dLoad tab r_1.2.2 ty1009 t41).bind fun t42 =>
 (some t8).bind fun t43 =>
 (dNilCheck tab t43).bind fun t44 =>
 (dFieldAddr tab ty1073 1 t44).bind fun t45 =>
 (dLoad tab r_1.2.2 ty40 t45).bind fun t46 =>
 ((dStore tab r_1.2.2 ty1009 p4.1 t42).bind fun h' => some ((.und : D), h')).bind fun p908 =>
 chk (dLoad tab p908.2 ty40 t45 = some t46)
 ((some t46).bind fun t5_3 =>
 (some (.int .i64 0 : D)).bind fun t6_3 =>
 ((some (p4.1 : D)).bind fun p => (dLoad tab p908.2 ty1009 p).bind fun d => ((some t5_3).bind fun d => ((some t6_3).bind fun d => (some ([] : List D)).bind fun ds => some (d :: ds)).bind fun ds => some (d :: ds)).bind fun ds => some (d :: ds)).bind fun ds => scope h p908.2 (mkRes ds))) fun x => exEnd x (((some (p4.1 : D)).bind fun p => (dLoad tab r_1.2.2 ty1009 p).bind fun d => ((some (nth 0 r_1.2.1)).bind fun d => ((some (nth 1 r_1.2.1)).bind fun d => (some ([] : List D)).bind fun ds => some (d :: ds)).bind fun ds => some (d :: ds)).bind fun ds => some (d :: ds)).bind fun ds => scope h r_1.2.2 (mkRes ds))))
theorem e1089 (t0 : D) (t1 : D) (h : Hp) : R fn1089 [t0, t1] h = F1089 t0 t1 h :=
  (run_fn (X := X) (F := Fs) (fi := i14) (by kernel_rfl) _ _).trans (by kernel_rfl)
noncomputable def F1209_L0 (t2 : D) (t3 : D) (p4 : D × Hp) (p8 : D × Hp) (ds : List D) (h_1 : Hp) : Option Out :=
 (some (nth 3 ds)).bind fun t23 =>
 (dFieldAddr tab ty1064 2 t3).bind fun t24 =>
 (dLoad tab h_1 ty113 t24).bind fun t25 =>
 (dLenT tab ty113 t25).bind fun t26 =>
 (dBin tab .lss ty3 t23 t26).bind fun t27 =>
 dIf t27
   (((dFieldAddr tab ty1064 2 t3).bind fun t30 =>
 (dLoad tab h_1 ty113 t30).bind fun t31 =>
 (some (nth 3 ds)).bind fun t32 =>
 (dIndexAddr tab ty113 t31 t32).bind fun t33 =>
 (dLoad tab h_1 ty74 t33).bind fun t34 =>
 (some ((.ptr h_1.length 0 0 : D), dNew h_1 ty74 11 [[.str [], .int .i64 0, .int .i64 0, .int .i64 0, .int .i64 0, .nils, .int .i64 0, .int .i64 0, .str [], .str [], .nils]])).bind fun p11 =>
 ((dStore tab p11.2 ty74 p11.1 t34).bind fun h' => some ((.und : D), h')).bind fun p906 =>
 (dLoad tab p906.2 ty1009 p8.1).bind fun t35 =>
 (dFieldAddr tab ty74 1 p11.1).bind fun t36 =>
 (dFieldAddr tab ty31 0 t36).bind fun t37 =>
 (dLoad tab p906.2 ty3 t37).bind fun t38 =>
 (dFieldAddr tab ty74 1 p11.1).bind fun t39 =>
 (dFieldAddr tab ty31 1 t39).bind fun t40 =>
 (dLoad tab p906.2 ty3 t40).bind fun t41 =>
 (R fn1077 [t35, t38, t41] p906.2).bind fun p42 =>
 (some p42.1).bind fun t12 =>
 (dFieldAddr tab ty74 1 p11.1).bind fun t43 =>
 (dFieldAddr tab ty31 4 t43).bind fun t44 =>
 (dLoad tab p42.2 ty28 t44).bind fun t45 =>
 (dLenT tab ty28 t45).bind fun t46 =>
 (some t46).bind fun t13 =>
 (dFieldAddr tab ty74 1 p11.1).bind fun t47 =>
 (dFieldAddr tab ty31 3 t47).bind fun t48 =>
 (dLoad tab p42.2 ty3 t48).bind fun t49 =>
 (some t12).bind fun t50 =>
 (dBin tab .leq ty3 t49 t50).bind fun t51 =>
 dIf t51
   ((dFieldAddr tab ty1009 1 p8.1).bind fun t52 =>
 (dLoad tab p42.2 ty58 t52).bind fun t53 =>
 (dFieldAddr tab ty1064 0 t3).bind fun t54 =>
 (dLoad tab p42.2 ty3 t54).bind fun t55 =>
 (some t13).bind fun t56 =>
 (R fn60 [t53, t55, .str [42], t56] p42.2).bind fun p57 =>
 (dFieldAddr tab ty1009 1 p8.1).bind fun t58 =>
 ((dStore tab p57.2 ty58 t58 p57.1).bind fun h' => some ((.und : D), h')).bind fun p907 =>
 some (.nrm, [(nth 0 ds), (nth 1 ds), (nth 2 ds), p11.1, t12, t13, (nth 7 ds), (nth 8 ds), t51, (nth 11 ds), (nth 12 ds), (nth 13 ds), (nth 14 ds)], p907.2))
   ((dFieldAddr tab ty74 1 p11.1).bind fun t59 =>
 (dFieldAddr tab ty31 2 t59).bind fun t60 =>
 (dLoad tab p42.2 ty3 t60).bind fun t61 =>
 (some t12).bind fun t62 =>
 (dBin tab .lss ty3 t61 t62).bind fun t63 =>
 (dIf t63
   ((dLoad tab p42.2 ty74 p11.1).bind fun t65 =>
 (some t12).bind fun t66 =>
 (R fn1003 [t65, t66] p42.2).bind fun p67 =>
 (some p67.1).bind fun t64 =>
 (dExtract 0 t64).bind fun t68 =>
 (dExtract 1 t64).bind fun t69 =>
 (boxN 11 t68).bind fun t14 =>
 (some t69).bind fun t15 =>
 (some t15).bind fun t70 =>
 (dUn .not t70).bind fun t71 =>
 dIf t71
   ((dLoad tab p67.2 ty1009 t2).bind fun t72 =>
 ((dStore tab p67.2 ty1009 p4.1 t72).bind fun h' => some ((.und : D), h')).bind fun p901 =>
 (some (.nils : D)).bind fun t5_2 =>
 (some (.int .i64 23 : D)).bind fun t6_2 =>
 some (.ret, [t5_2, t6_2, t14, t15, t71], p901.2))
   ((dLoad tab p67.2 ty74 t14).bind fun t73 =>
 ((dStore tab p67.2 ty74 p11.1 t73).bind fun h' => some ((.und : D), h')).bind fun p901_1 =>
 (dFieldAddr tab ty1009 1 p8.1).bind fun t74 =>
 (dLoad tab p901_1.2 ty58 t74).bind fun t75 =>
 (dFieldAddr tab ty1064 0 t3).bind fun t76 =>
 (dLoad tab p901_1.2 ty3 t76).bind fun t77 =>
 (some t13).bind fun t78 =>
 (dFieldAddr tab ty74 1 p11.1).bind fun t79 =>
 (dFieldAddr tab ty31 4 t79).bind fun t80 =>
 (dLoad tab p901_1.2 ty28 t80).bind fun t81 =>
 (dLenT tab ty28 t81).bind fun t82 =>
 (dBin tab .sub ty3 t78 t82).bind fun t83 =>
 (R fn60 [t75, t77, .str [42], t83] p901_1.2).bind fun p84 =>
 (dFieldAddr tab ty1009 1 p8.1).bind fun t85 =>
 ((dStore tab p84.2 ty58 t85 p84.1).bind fun h' => some ((.und : D), h')).bind fun p912 =>
 some (.nrm, [(nth 0 ds), (nth 1 ds), t14, t15, t71], p912.2)))
   (some (.nrm, [(nth 0 ds), (nth 1 ds), (nth 7 ds), (nth 8 ds), (nth 12 ds)], p42.2))).bind fun r_1 =>
 toEnd r_1.1 ((dFieldAddr tab ty74 1 p11.1).bind fun t86 =>
 (dFieldAddr tab ty31 2 t86).bind fun t87 =>
 (dLoad tab r_1.2.2 ty3 t87).bind fun t88 =>
 (some t12).bind fun t89 =>
 (dBin tab .gtr ty3 t88 t89).bind fun t90 =>
 dIf t90
   ((dLoad tab r_1.2.2 ty1009 t2).bind fun t91 =>
 ((dStore tab r_1.2.2 ty1009 p4.1 t91).bind fun h' => some ((.und : D), h')).bind fun p901_2 =>
 (some (.nils : D)).bind fun t5_3 =>
 (some (.int .i64 23 : D)).bind fun t6_3 =>
 some (.ret, [t5_3, t6_3, (nth 2 ds), p11.1, t12, t13, (nth 2 r_1.2.1), (nth 3 r_1.2.1), t51, t63, (nth 4 r_1.2.1), t90, (nth 14 ds)], p901_2.2))
   ((dFieldAddr tab ty1009 0 p8.1).bind fun t92 =>
 (dLoad tab r_1.2.2 ty1007 t92).bind fun t93 =>
 (dFieldAddr tab ty74 1 p11.1).bind fun t94 =>
 (dFieldAddr tab ty31 0 t94).bind fun t95 =>
 (dLoad tab r_1.2.2 ty3 t95).bind fun t96 =>
 (dFieldAddr tab ty74 1 p11.1).bind fun t97 =>
 (dFieldAddr tab ty31 1 t97).bind fun t98 =>
 (dLoad tab r_1.2.2 ty3 t98).bind fun t99 =>
 (dFieldAddr tab ty74 1 p11.1).bind fun t100 =>
 (dFieldAddr tab ty31 3 t100).bind fun t101 =>
 (dLoad tab r_1.2.2 ty3 t101).bind fun t102 =>
 (dBuild tab ty1006 [0, 1, 2] [t96, t99, t102]).bind fun t103 =>
 (R fn1210 [t93, t103] r_1.2.2).bind fun p104 =>
 (dFieldAddr tab ty1009 0 p8.1).bind fun t105 =>
 ((dStore tab p104.2 ty1007 t105 p104.1).bind fun h' => some ((.und : D), h')).bind fun p914 =>
 (dFieldAddr tab ty1009 1 p8.1).bind fun t106 =>
 (dLoad tab p914.2 ty58 t106).bind fun t107 =>
 (dFieldAddr tab ty1064 0 t3).bind fun t108 =>
 (dLoad tab p914.2 ty3 t108).bind fun t109 =>
 (dFieldAddr tab ty74 0 p11.1).bind fun t110 =>
 (dLoad tab p914.2 ty9 t110).bind fun t111 =>
 (dFieldAddr tab ty74 1 p11.1).bind fun t112 =>
 (dFieldAddr tab ty31 4 t112).bind fun t113 =>
 (dLoad tab p914.2 ty28 t113).bind fun t114 =>
 (dLenT tab ty28 t114).bind fun t115 =>
 (R fn60 [t107, t109, t111, t115] p914.2).bind fun p116 =>
 (dFieldAddr tab ty1009 1 p8.1).bind fun t117 =>
 ((dStore tab p116.2 ty58 t117 p116.1).bind fun h' => some ((.und : D), h')).bind fun p912_1 =>
 (dFieldAddr tab ty74 0 p11.1).bind fun t118 =>
 (dLoad tab p912_1.2 ty9 t118).bind fun t119 =>
 (dBin tab .eql ty9 t119 (.str [])).bind fun t120 =>
 (dIf t120
   ((some (nth 2 ds)).bind fun t121 =>
 (dFieldAddr tab ty74 1 p11.1).bind fun t122 =>
 (dLoad tab p912_1.2 ty31 t122).bind fun t123 =>
 (pLitF tab ty40 1 [0] [t123]).bind fun t124 =>
 (dAppend tab p912_1.2 ty40 ty40 t121 t124).bind fun p125 =>
 (some p125.1).bind fun t9_1 =>
 some (.nrm, [t9_1], p125.2))
   (some (.nrm, [(nth 2 ds)], p912_1.2))).bind fun r_2 =>
 some ((unblk 1 r_2.1), [(nth 0 r_1.2.1), (nth 1 r_1.2.1), (nth 0 r_2.2.1), p11.1, t12, t13, (nth 2 r_1.2.1), (nth 3 r_1.2.1), t51, t63, (nth 4 r_1.2.1), t90, t120], r_2.2.2))) fun x => some ((unblk 1 x), [(nth 0 r_1.2.1), (nth 1 r_1.2.1), (nth 2 ds), p11.1, t12, t13, (nth 2 r_1.2.1), (nth 3 r_1.2.1), t51, t63, (nth 4 r_1.2.1), (nth 13 ds), (nth 14 ds)], r_1.2.2))).bind fun r_3 =>
 toEnd r_3.1 ((some (nth 3 ds)).bind fun t28 =>
 (dBin tab .add ty3 t28 (.int .i64 1)).bind fun t29 =>
 (some t29).bind fun t10_1 =>
 some (.nrm, [(nth 0 r_3.2.1), (nth 1 r_3.2.1), (nth 2 r_3.2.1), t10_1, (nth 3 r_3.2.1), (nth 4 r_3.2.1), (nth 5 r_3.2.1), (nth 6 r_3.2.1), (nth 7 r_3.2.1), t27, (nth 8 r_3.2.1), (nth 9 r_3.2.1), (nth 10 r_3.2.1), (nth 11 r_3.2.1), (nth 12 r_3.2.1)], r_3.2.2)) fun x_1 => some (x_1, [(nth 0 r_3.2.1), (nth 1 r_3.2.1), (nth 2 r_3.2.1), (nth 3 ds), (nth 3 r_3.2.1), (nth 4 r_3.2.1), (nth 5 r_3.2.1), (nth 6 r_3.2.1), (nth 7 r_3.2.1), t27, (nth 8 r_3.2.1), (nth 9 r_3.2.1), (nth 10 r_3.2.1), (nth 11 r_3.2.1), (nth 12 r_3.2.1)], r_3.2.2))
   (some ((.ext 0), [(nth 0 ds), (nth 1 ds), (nth 2 ds), (nth 3 ds), (nth 4 ds), (nth 5 ds), (nth 6 ds), (nth 7 ds), (nth 8 ds), t27, (nth 10 ds), (nth 11 ds), (nth 12 ds), (nth 13 ds), (nth 14 ds)], h_1))
noncomputable def F1209 (t0 : D) (t1 : D) (h : Hp) : Option (D × Hp) :=
  (pBoxF t0).bind fun t2 =>
 (pBoxF t1).bind fun t3 =>
 (some ((.ptr h.length 0 0 : D), dNew h ty1009 2 [[.nils, .nils]])).bind fun p4 =>
 (some (.nils : D)).bind fun t5 =>
 (some (.int .i64 0 : D)).bind fun t6 =>
 (dLoad tab p4.2 ty1064 t3).bind fun t16 =>
 (R fn1113 [t16] p4.2).bind fun p17 =>
 (some p17.1).bind fun t7 =>
 (some t7).bind fun t18 =>
 (dBin tab .neq ty49 t18 (.int .i64 0)).bind fun t19 =>
 dIf t19
   ((dLoad tab p17.2 ty1009 t2).bind fun t20 =>
 (some t7).bind fun t21 =>
 ((dStore tab p17.2 ty1009 p4.1 t20).bind fun h' => some ((.und : D), h')).bind fun p902 =>
 (some (.nils : D)).bind fun t5_1 =>
 (some t21).bind fun t6_1 =>
 ((some (p4.1 : D)).bind fun p => (dLoad tab p902.2 ty1009 p).bind fun d => ((some t5_1).bind fun d => ((some t6_1).bind fun d => (some ([] : List D)).bind fun ds => some (d :: ds)).bind fun ds => some (d :: ds)).bind fun ds => some (d :: ds)).bind fun ds => scope h p902.2 (mkRes ds))
   ((dLoad tab p17.2 ty1009 t2).bind fun t22 =>
 (some ((.ptr p17.2.length 0 0 : D), dNew p17.2 ty1009 2 [[.nils, .nils]])).bind fun p8 =>
 ((dStore tab p8.2 ty1009 p8.1 t22).bind fun h' => some ((.und : D), h')).bind fun p902_1 =>
 (some (.nils : D)).bind fun t9 =>
 (some (.int .i64 0 : D)).bind fun t10 =>
 ((loopW (F1209_L0 t2 t3 p4 p8) [t5, t6, t9, t10, .any, .any, .any, .any, .any, .any, .any, .any, .any, .any, .any] p902_1.2).bind fun r =>
 some ((unblk 0 r.1), [(nth 0 r.2.1), (nth 1 r.2.1), (nth 2 r.2.1), (nth 3 r.2.1), (nth 4 r.2.1), (nth 5 r.2.1), (nth 6 r.2.1), (nth 7 r.2.1), (nth 8 r.2.1), (nth 9 r.2.1), (nth 10 r.2.1), (nth 11 r.2.1), (nth 12 r.2.1), (nth 13 r.2.1), (nth 14 r.2.1)], r.2.2)).bind fun r_4 =>
 toEnd r_4.1 ((dLoad tab r_4.2.2 ty1009 p8.1).bind fun t126 =>
 (some (nth 2 r_4.2.1)).bind fun t127 =>
 ((dStore tab r_4.2.2 ty1009 p4.1 t126).bind fun h' => some ((.und : D), h')).bind fun p902_2 =>
 (some t127).bind fun t5_4 =>
 (some (.int .i64 0 : D)).bind fun t6_4 =>
 ((some (p4.1 : D)).bind fun p => (dLoad tab p902_2.2 ty1009 p).bind fun d => ((some t5_4).bind fun d => ((some t6_4).bind fun d => (some ([] : List D)).bind fun ds => some (d :: ds)).bind fun ds => some (d :: ds)).bind fun ds => some (d :: ds)).bind fun ds => scope h p902_2.2 (mkRes ds)) fun x_2 => exEnd x_2 (((some (p4.1 : D)).bind fun p => (dLoad tab r_4.2.2 ty1009 p).bind fun d => ((some (nth 0 r_4.2.1)).bind fun d => ((some (nth 1 r_4.2.1)).bind fun d => (some ([] : List D)).bind fun ds => some (d :: ds)).bind fun ds => some (d :: ds)).bind fun ds => some (d :: ds)).bind fun ds => scope h r_4.2.2 (mkRes ds)))
theorem e1209 (t0 : D) (t1 : D) (h : Hp) : R fn1209 [t0, t1] h = F1209 t0 t1 h :=
  (run_fn (X := X) (F := Fs) (fi := i15) (by kernel_rfl) _ _).trans (by kernel_rfl)
noncomputable def F1090 (t0 : D) (t1 : D) (h : Hp) : Option (D × Hp) :=
  (pBoxF t0).bind fun t2 =>
 (pBoxF t1).bind fun t3 =>
 (some (.bool false : D)).bind fun t4 =>
 (dFieldAddr tab ty1009 0 t2).bind fun t5 =>
 (dLoad tab h ty1007 t5).bind fun t6 =>
 (dFieldAddr tab ty1009 0 t3).bind fun t7 =>
 (dLoad tab h ty1007 t7).bind fun t8 =>
 (R fn1092 [t6, t8] h).bind fun p9 =>
 (some p9.1).bind fun t10 =>
 (gd t10 true (dFieldAddr tab ty1009 1 t2)).bind fun t11 =>
 (gd t10 true (dLoad tab p9.2 ty58 t11)).bind fun t12 =>
 (gd t10 true (dFieldAddr tab ty1009 1 t3)).bind fun t13 =>
 (gd t10 true (dLoad tab p9.2 ty58 t13)).bind fun t14 =>
 (gdW t10 true p9.2 (R fn30 [t12, t14] p9.2)).bind fun p15 =>
 (dPick t10 p15.1 (.bool false)).bind fun t16 =>
 (some t16).bind fun t4_1 =>
 ((some t4_1).bind fun d => (some ([] : List D)).bind fun ds => some (d :: ds)).bind fun ds => some (mkRes ds, p15.2)
theorem e1090 (t0 : D) (t1 : D) (h : Hp) : R fn1090 [t0, t1] h = F1090 t0 t1 h :=
  (run_fn (X := X) (F := Fs) (fi := i16) (by kernel_rfl) _ _).trans (by kernel_rfl)
noncomputable def F29_L0 (t0 : D) (t1 : D) (ds : List D) (h_1 : Hp) : Option Out :=
 (some (nth 1 ds)).bind fun t11 =>
 (some t0).bind fun t12 =>
 (dLenT tab ty40 t12).bind fun t13 =>
 (dBin tab .lss ty3 t11 t13).bind fun t14 =>
 dIf t14
   ((some t0).bind fun t17 =>
 (some (nth 1 ds)).bind fun t18 =>
 (dIndexAddr tab ty40 t17 t18).bind fun t19 =>
 (dLoad tab h_1 ty31 t19).bind fun t20 =>
 (some t1).bind fun t21 =>
 (some (nth 1 ds)).bind fun t22 =>
 (dIndexAddr tab ty40 t21 t22).bind fun t23 =>
 (dLoad tab h_1 ty31 t23).bind fun t24 =>
 (R fn61 [t20, t24] h_1).bind fun p25 =>
 (dUn .not p25.1).bind fun t26 =>
 dIf t26
   ((some (.bool false : D)).bind fun t4_2 =>
 some (.ret, [t4_2, (nth 1 ds), t14, t26], p25.2))
   ((some (nth 1 ds)).bind fun t15 =>
 (dBin tab .add ty3 t15 (.int .i64 1)).bind fun t16 =>
 (some t16).bind fun t5_1 =>
 some (.nrm, [(nth 0 ds), t5_1, t14, t26], p25.2)))
   (some ((.ext 0), [(nth 0 ds), (nth 1 ds), t14, (nth 3 ds)], h_1))
noncomputable def F29 (t0 : D) (t1 : D) (h : Hp) : Option (D × Hp) :=
  (some (.bool false : D)).bind fun t4 =>
 (some t0).bind fun t6 =>
 (dLenT tab ty40 t6).bind fun t7 =>
 (some t1).bind fun t8 =>
 (dLenT tab ty40 t8).bind fun t9 =>
 (dBin tab .neq ty3 t7 t9).bind fun t10 =>
 dIf t10
   ((some (.bool false : D)).bind fun t4_1 =>
 ((some t4_1).bind fun d => (some ([] : List D)).bind fun ds => some (d :: ds)).bind fun ds => some (mkRes ds, h))
   ((some (.int .i64 0 : D)).bind fun t5 =>
 ((loopW (F29_L0 t0 t1) [t4, t5, .any, .any] h).bind fun r =>
 some ((unblk 0 r.1), [(nth 0 r.2.1), (nth 1 r.2.1), (nth 2 r.2.1), (nth 3 r.2.1)], r.2.2)).bind fun r_1 =>
 toEnd r_1.1 ((some (.bool true : D)).bind fun t4_3 =>
 ((some t4_3).bind fun d => (some ([] : List D)).bind fun ds => some (d :: ds)).bind fun ds => some (mkRes ds, r_1.2.2)) fun x => exEnd x (((some (nth 0 r_1.2.1)).bind fun d => (some ([] : List D)).bind fun ds => some (d :: ds)).bind fun ds => some (mkRes ds, r_1.2.2)))
theorem e29 (t0 : D) (t1 : D) (h : Hp) : R fn29 [t0, t1] h = F29 t0 t1 h :=
  (run_fn (X := X) (F := Fs) (fi := i17) (by kernel_rfl) _ _).trans (by kernel_rfl)
noncomputable def F1005 (t0 : D) (t1 : D) (t2 : D) (h : Hp) : Option (D × Hp) :=
  (pBoxF t0).bind fun t3 =>
 (some (.int .i64 0 : D)).bind fun t6 =>
 (dFieldAddr tab ty1009 0 t3).bind fun t10 =>
 (dLoad tab h ty1007 t10).bind fun t11 =>
 (some t1).bind fun t12 =>
 (some t2).bind fun t13 =>
 (R fn1013 [t11, t12, t13] h).bind fun p14 =>
 (some p14.1).bind fun t9 =>
 (dExtract 0 t9).bind fun t15 =>
 (dExtract 1 t9).bind fun t16 =>
 (some t15).bind fun t7 =>
 (some t16).bind fun t8 =>
 (some t8).bind fun t17 =>
 dIf t17
   ((dFieldAddr tab ty1009 0 t3).bind fun t18 =>
 (dLoad tab p14.2 ty1007 t18).bind fun t19 =>
 (some t7).bind fun t20 =>
 (dIndexAddr tab ty1007 t19 t20).bind fun t21 =>
 (dFieldAddr tab ty1006 2 t21).bind fun t22 =>
 (dLoad tab p14.2 ty3 t22).bind fun t23 =>
 (some t23).bind fun t6_1 =>
 ((some t6_1).bind fun d => (some ([] : List D)).bind fun ds => some (d :: ds)).bind fun ds => some (mkRes ds, p14.2))
   ((some (.int .i64 0 : D)).bind fun t6_2 =>
 ((some t6_2).bind fun d => (some ([] : List D)).bind fun ds => some (d :: ds)).bind fun ds => some (mkRes ds, p14.2))
theorem e1005 (t0 : D) (t1 : D) (t2 : D) (h : Hp) : R fn1005 [t0, t1, t2] h = F1005 t0 t1 t2 h :=
  (run_fn (X := X) (F := Fs) (fi := i18) (by kernel_rfl) _ _).trans (by kernel_rfl)
noncomputable def F71_L1 (t0 : D) (t1 : D) (ds : List D) (ds_1 : List D) (h_2 : Hp) : Option Out :=
 (some (nth 2 ds_1)).bind fun t23 =>
 (dBin tab .gtr ty3 t23 (.int .i64 0)).bind fun t24 =>
 dIf t24
   ((some t0).bind fun t27 =>
 (some t1).bind fun t28 =>
 (some (nth 1 ds)).bind fun t29 =>
 (dBin tab .add ty3 (.int .i64 5) t29).bind fun t30 =>
 (some (nth 1 ds_1)).bind fun t31 =>
 (R fn84 [t27, t28, t30, t31] h_2).bind fun p32 =>
 (boxN 11 p32.1).bind fun t12 =>
 (some (nth 0 ds_1)).bind fun t33 =>
 (dLoad tab p32.2 ty74 t12).bind fun t34 =>
 (pLitF tab ty113 1 [0] [t34]).bind fun t35 =>
 (dAppend tab p32.2 ty113 ty113 t33 t35).bind fun p36 =>
 (some p36.1).bind fun t9_1 =>
 (dFieldAddr tab ty74 1 t12).bind fun t37 =>
 (dFieldAddr tab ty31 3 t37).bind fun t38 =>
 (dLoad tab p36.2 ty3 t38).bind fun t39 =>
 (some t39).bind fun t10_1 =>
 (some (nth 2 ds_1)).bind fun t25 =>
 (dBin tab .sub ty3 t25 (.int .i64 1)).bind fun t26 =>
 (some t26).bind fun t11_1 =>
 some (.nrm, [t9_1, t10_1, t11_1, t12, t24], p36.2))
   (some ((.ext 2), [(nth 0 ds_1), (nth 1 ds_1), (nth 2 ds_1), (nth 3 ds_1), t24], h_2))
noncomputable def F71_L0 (t0 : D) (t1 : D) (t2 : D) (ds : List D) (h_1 : Hp) : Option Out :=
 (some (nth 1 ds)).bind fun t13 =>
 (some t0).bind fun t14 =>
 (R fn24 [t14, .int .i64 3] h_1).bind fun p15 =>
 (dBin tab .leq ty3 t13 p15.1).bind fun t16 =>
 dIf t16
   ((some (.nils : D)).bind fun t9 =>
 (some (.int .i64 0 : D)).bind fun t10 =>
 (some t0).bind fun t19 =>
 (some t2).bind fun t20 =>
 (dBin tab .add ty3 t20 (.int .i64 1)).bind fun t21 =>
 (R fn24 [t19, t21] p15.2).bind fun p22 =>
 (some p22.1).bind fun t11 =>
 ((loopW (F71_L1 t0 t1 ds) [t9, t10, t11, (nth 5 ds), (nth 7 ds)] p22.2).bind fun r_1 =>
 some ((unblk 2 r_1.1), [(nth 0 r_1.2.1), (nth 1 r_1.2.1), (nth 2 r_1.2.1), (nth 3 r_1.2.1), (nth 4 r_1.2.1)], r_1.2.2)).bind fun r_2 =>
 toEnd r_2.1 ((some (nth 0 ds)).bind fun t40 =>
 (some (nth 0 r_2.2.1)).bind fun t41 =>
 (pLitF tab ty111 1 [0] [t41]).bind fun t42 =>
 (dAppend tab r_2.2.2 ty111 ty111 t40 t42).bind fun p43 =>
 (some p43.1).bind fun t7_1 =>
 (some (nth 1 ds)).bind fun t17 =>
 (dBin tab .add ty3 t17 (.int .i64 1)).bind fun t18 =>
 (some t18).bind fun t8_1 =>
 some (.nrm, [t7_1, t8_1, (nth 0 r_2.2.1), (nth 1 r_2.2.1), (nth 2 r_2.2.1), (nth 3 r_2.2.1), t16, (nth 4 r_2.2.1)], p43.2)) fun x => toEnd (unblk 1 x) ((some (nth 1 ds)).bind fun t17_1 =>
 (dBin tab .add ty3 t17_1 (.int .i64 1)).bind fun t18_1 =>
 (some t18_1).bind fun t8_2 =>
 some (.nrm, [(nth 0 ds), t8_2, (nth 0 r_2.2.1), (nth 1 r_2.2.1), (nth 2 r_2.2.1), (nth 3 r_2.2.1), t16, (nth 4 r_2.2.1)], r_2.2.2)) fun x_1 => some (x_1, [(nth 0 ds), (nth 1 ds), (nth 0 r_2.2.1), (nth 1 r_2.2.1), (nth 2 r_2.2.1), (nth 3 r_2.2.1), t16, (nth 4 r_2.2.1)], r_2.2.2))
   (some ((.ext 0), [(nth 0 ds), (nth 1 ds), (nth 2 ds), (nth 3 ds), (nth 4 ds), (nth 5 ds), t16, (nth 7 ds)], p15.2))
noncomputable def F71 (t0 : D) (t1 : D) (t2 : D) (h : Hp) : Option (D × Hp) :=
  (some (.nils : D)).bind fun t6 =>
 (some (.nils : D)).bind fun t7 =>
 (some (.int .i64 0 : D)).bind fun t8 =>
 ((loopW (F71_L0 t0 t1 t2) [t7, t8, .any, .any, .any, .any, .any, .any] h).bind fun r =>
 some ((unblk 0 r.1), [(nth 0 r.2.1), (nth 1 r.2.1), (nth 2 r.2.1), (nth 3 r.2.1), (nth 4 r.2.1), (nth 5 r.2.1), (nth 6 r.2.1), (nth 7 r.2.1)], r.2.2)).bind fun r_3 =>
 toEnd r_3.1 ((some (nth 0 r_3.2.1)).bind fun t44 =>
 (some t44).bind fun t6_1 =>
 ((some t6_1).bind fun d => (some ([] : List D)).bind fun ds => some (d :: ds)).bind fun ds => scope h r_3.2.2 (mkRes ds)) fun x_2 => exEnd x_2 (((some t6).bind fun d => (some ([] : List D)).bind fun ds => some (d :: ds)).bind fun ds => scope h r_3.2.2 (mkRes ds))
theorem e71 (t0 : D) (t1 : D) (t2 : D) (h : Hp) : R fn71 [t0, t1, t2] h = F71 t0 t1 t2 h :=
  (run_fn (X := X) (F := Fs) (fi := i19) (by kernel_rfl) _ _).trans (by kernel_rfl)
noncomputable def F1093_L0 (t3 : D) (p5 : D × Hp) (t6 : D) (ds : List D) (h_1 : Hp) : Option Out :=
 (some (nth 0 ds)).bind fun t24 =>
 (some t6).bind fun t25 =>
 (dLenT tab ty28 t25).bind fun t26 =>
 (dBin tab .lss ty3 t24 t26).bind fun t27 =>
 dIf t27
   ((dFieldAddr tab ty74 0 t3).bind fun t30 =>
 (dLoad tab h_1 ty9 t30).bind fun t31 =>
 (dBin tab .neq ty9 t31 (.str [])).bind fun t32 =>
 (dIf t32
   ((some t6).bind fun t33 =>
 (some (nth 0 ds)).bind fun t34 =>
 (dIndexAddr tab ty28 t33 t34).bind fun t35 =>
 (dFieldAddr tab ty78 2 t35).bind fun t36 =>
 ((dStore tab h_1 ty9 t36 (.str [])).bind fun h' => some ((.und : D), h')).bind fun p904 =>
 some (.nrm, ([] : List D), p904.2))
   (some (.nrm, ([] : List D), h_1))).bind fun r_1 =>
 toEnd r_1.1 ((dFieldAddr tab ty74 1 p5.1).bind fun t37 =>
 (dFieldAddr tab ty31 4 t37).bind fun t38 =>
 (dLoad tab r_1.2.2 ty28 t38).bind fun t39 =>
 (some t6).bind fun t40 =>
 (some (nth 0 ds)).bind fun t41 =>
 (dIndexAddr tab ty28 t40 t41).bind fun t42 =>
 (dLoad tab r_1.2.2 ty78 t42).bind fun t43 =>
 (pLitF tab ty28 1 [0] [t43]).bind fun t44 =>
 (dAppend tab r_1.2.2 ty28 ty28 t39 t44).bind fun p45 =>
 (dFieldAddr tab ty74 1 p5.1).bind fun t46 =>
 (dFieldAddr tab ty31 4 t46).bind fun t47 =>
 ((dStore tab p45.2 ty28 t47 p45.1).bind fun h' => some ((.und : D), h')).bind fun p911 =>
 (some (nth 0 ds)).bind fun t28 =>
 (dBin tab .add ty3 t28 (.int .i64 1)).bind fun t29 =>
 (some t29).bind fun t7_1 =>
 some (.nrm, [t7_1, t27, t32], p911.2)) fun x => toEnd (unblk 1 x) ((some (nth 0 ds)).bind fun t28_1 =>
 (dBin tab .add ty3 t28_1 (.int .i64 1)).bind fun t29_1 =>
 (some t29_1).bind fun t7_2 =>
 some (.nrm, [t7_2, t27, t32], r_1.2.2)) fun x_1 => some (x_1, [(nth 0 ds), t27, t32], r_1.2.2))
   (some ((.ext 0), [(nth 0 ds), t27, (nth 2 ds)], h_1))
noncomputable def F1093 (t0 : D) (t1 : D) (h : Hp) : Option (D × Hp) :=
  (pBoxF t0).bind fun t2 =>
 (pBoxF t1).bind fun t3 =>
 (some ((.ptr h.length 0 0 : D), dNew h ty74 11 [[.str [], .int .i64 0, .int .i64 0, .int .i64 0, .int .i64 0, .nils, .int .i64 0, .int .i64 0, .str [], .str [], .nils]])).bind fun p4 =>
 (dLoad tab p4.2 ty74 t3).bind fun t8 =>
 (some ((.ptr p4.2.length 0 0 : D), dNew p4.2 ty74 11 [[.str [], .int .i64 0, .int .i64 0, .int .i64 0, .int .i64 0, .nils, .int .i64 0, .int .i64 0, .str [], .str [], .nils]])).bind fun p5 =>
 ((dStore tab p5.2 ty74 p5.1 t8).bind fun h' => some ((.und : D), h')).bind fun p902 =>
 (dFieldAddr tab ty74 1 t2).bind fun t9 =>
 (dFieldAddr tab ty31 2 t9).bind fun t10 =>
 (dLoad tab p902.2 ty3 t10).bind fun t11 =>
 (dFieldAddr tab ty74 1 p5.1).bind fun t12 =>
 (dFieldAddr tab ty31 2 t12).bind fun t13 =>
 ((dStore tab p902.2 ty3 t13 t11).bind fun h' => some ((.und : D), h')).bind fun p905 =>
 (dFieldAddr tab ty74 1 p5.1).bind fun t14 =>
 (dFieldAddr tab ty31 4 t14).bind fun t15 =>
 ((dStore tab p905.2 ty28 t15 (.nils)).bind fun h' => some ((.und : D), h')).bind fun p902_1 =>
 (dFieldAddr tab ty74 1 t2).bind fun t16 =>
 (dFieldAddr tab ty31 4 t16).bind fun t17 =>
 (dLoad tab p902_1.2 ty28 t17).bind fun t18 =>
 (dAppend tab p902_1.2 ty28 ty28 (.nils) t18).bind fun p19 =>
 (dFieldAddr tab ty74 1 t3).bind fun t20 =>
 (dFieldAddr tab ty31 4 t20).bind fun t21 =>
 (dLoad tab p19.2 ty28 t21).bind fun t22 =>
 (dAppend tab p19.2 ty28 ty28 p19.1 t22).bind fun p23 =>
 chk (dLoad tab p902_1.2 ty28 t21 = some t22)
 ((some p23.1).bind fun t6 =>
 (some (.int .i64 0 : D)).bind fun t7 =>
 ((loopW (F1093_L0 t3 p5 t6) [t7, .any, .any] p23.2).bind fun r =>
 some ((unblk 0 r.1), [(nth 0 r.2.1), (nth 1 r.2.1), (nth 2 r.2.1)], r.2.2)).bind fun r_2 =>
 toEnd r_2.1 ((dLoad tab r_2.2.2 ty74 p5.1).bind fun t48 =>
 ((dStore tab r_2.2.2 ty74 p4.1 t48).bind fun h' => some ((.und : D), h')).bind fun p901 =>
 ((some (p4.1 : D)).bind fun p => (dLoad tab p901.2 ty74 p).bind fun d => (some ([] : List D)).bind fun ds => some (d :: ds)).bind fun ds => scope h p901.2 (mkRes ds)) fun x_2 => exEnd x_2 (((some (p4.1 : D)).bind fun p => (dLoad tab r_2.2.2 ty74 p).bind fun d => (some ([] : List D)).bind fun ds => some (d :: ds)).bind fun ds => scope h r_2.2.2 (mkRes ds)))
theorem e1093 (t0 : D) (t1 : D) (h : Hp) : R fn1093 [t0, t1] h = F1093 t0 t1 h :=
  (run_fn (X := X) (F := Fs) (fi := i20) (by kernel_rfl) _ _).trans (by kernel_rfl)
noncomputable def F57 (t0 : D) (h : Hp) : Option (D × Hp) :=
  (some (.bool false : D)).bind fun t2 =>
 (some t0).bind fun t3 =>
 (dNilCheck tab t3).bind fun t4 =>
 (dFieldAddr tab ty101 1 t4).bind fun t5 =>
 (dLoad tab h ty3 t5).bind fun t6 =>
 (some t0).bind fun t7 =>
 (dNilCheck tab t7).bind fun t8 =>
 (dFieldAddr tab ty101 0 t8).bind fun t9 =>
 (dLoad tab h ty22 t9).bind fun t10 =>
 (dLenT tab ty22 t10).bind fun t11 =>
 (dBin tab .lss ty3 t6 t11).bind fun t12 =>
 (some t12).bind fun t2_1 =>
 ((some t2_1).bind fun d => (some ([] : List D)).bind fun ds => some (d :: ds)).bind fun ds => some (mkRes ds, h)
theorem e57 (t0 : D) (h : Hp) : R fn57 [t0] h = F57 t0 h :=
  (run_fn (X := X) (F := Fs) (fi := i21) (by kernel_rfl) _ _).trans (by kernel_rfl)
noncomputable def F1042 (t0 : D) (h : Hp) : Option (D × Hp) :=
  (pBoxF t0).bind fun t1 =>
 (some (.int .i64 0 : D)).bind fun t2 =>
 (dFieldAddr tab ty74 1 t1).bind fun t5 =>
 (dLoad tab h ty31 t5).bind fun t6 =>
 (boxN 10 t6).bind fun t3 =>
 (dFieldAddr tab ty74 0 t1).bind fun t8 =>
 (dLoad tab h ty9 t8).bind fun t9 =>
 (dBin tab .eql ty9 t9 (.str [])).bind fun t10 =>
 (some t10).bind fun t7 =>
 dIf t7
   ((dLoad tab h ty31 t3).bind fun t11 =>
 (R fn1043 [t11] h).bind fun p12 =>
 (some p12.1).bind fun t2_1 =>
 ((some t2_1).bind fun d => (some ([] : List D)).bind fun ds => some (d :: ds)).bind fun ds => some (mkRes ds, p12.2))
   ((dFieldAddr tab ty74 0 t1).bind fun t14 =>
 (dLoad tab h ty9 t14).bind fun t15 =>
 (dLenT tab ty9 t15).bind fun t16 =>
 (dBin tab .gtr ty3 t16 (.int .i64 32)).bind fun t17 =>
 (some t17).bind fun t13 =>
 dIf t13
   ((some (.int .i64 3 : D)).bind fun t2_2 =>
 ((some t2_2).bind fun d => (some ([] : List D)).bind fun ds => some (d :: ds)).bind fun ds => some (mkRes ds, h))
   ((dLoad tab h ty31 t3).bind fun t19 =>
 (R fn1047 [t19] h).bind fun p20 =>
 (dUn .not p20.1).bind fun t21 =>
 (some t21).bind fun t18 =>
 dIf t18
   ((some (.int .i64 2 : D)).bind fun t2_3 =>
 ((some t2_3).bind fun d => (some ([] : List D)).bind fun ds => some (d :: ds)).bind fun ds => some (mkRes ds, p20.2))
   ((dLoad tab p20.2 ty31 t3).bind fun t22 =>
 (R fn1048 [t22, .int .i64 60000] p20.2).bind fun p23 =>
 (some p23.1).bind fun t4 =>
 (some t4).bind fun t24 =>
 (dBin tab .eql ty49 t24 (.int .i64 9)).bind fun t25 =>
 (some t25).bind fun t26 =>
 (gd t26 false (some t4)).bind fun t27 =>
 (gd t26 false (dBin tab .eql ty49 t27 (.int .i64 4))).bind fun t28 =>
 (dPick t26 (.bool true) t28).bind fun t29 =>
 (some t29).bind fun t30 =>
 (gd t30 false (some t4)).bind fun t31 =>
 (gd t30 false (dBin tab .eql ty49 t31 (.int .i64 19))).bind fun t32 =>
 (dPick t30 (.bool true) t32).bind fun t33 =>
 dIf t33
   ((some t4).bind fun t34 =>
 (some t34).bind fun t2_4 =>
 ((some t2_4).bind fun d => (some ([] : List D)).bind fun ds => some (d :: ds)).bind fun ds => some (mkRes ds, p23.2))
   ((dFieldAddr tab ty31 5 t3).bind fun t35 =>
 (dLoad tab p23.2 ty3 t35).bind fun t36 =>
 (dBin tab .neq ty3 t36 (.int .i64 0)).bind fun t37 =>
 (some t37).bind fun t38 =>
 (gd t38 false (dFieldAddr tab ty31 6 t3)).bind fun t39 =>
 (gd t38 false (dLoad tab p23.2 ty3 t39)).bind fun t40 =>
 (gd t38 false (dBin tab .neq ty3 t40 (.int .i64 0))).bind fun t41 =>
 (dPick t38 (.bool true) t41).bind fun t42 =>
 (some t42).bind fun t43 =>
 (gd t43 false (dFieldAddr tab ty31 7 t3)).bind fun t44 =>
 (gd t43 false (dLoad tab p23.2 ty9 t44)).bind fun t45 =>
 (gd t43 false (dBin tab .neq ty9 t45 (.str []))).bind fun t46 =>
 (dPick t43 (.bool true) t46).bind fun t47 =>
 (some t47).bind fun t48 =>
 (gd t48 false (dFieldAddr tab ty31 8 t3)).bind fun t49 =>
 (gd t48 false (dLoad tab p23.2 ty9 t49)).bind fun t50 =>
 (gd t48 false (dBin tab .neq ty9 t50 (.str []))).bind fun t51 =>
 (dPick t48 (.bool true) t51).bind fun t52 =>
 (some t52).bind fun t53 =>
 (gd t53 false (dFieldAddr tab ty31 9 t3)).bind fun t54 =>
 (gd t53 false (dLoad tab p23.2 ty29 t54)).bind fun t55 =>
 (gd t53 false (dLenT tab ty29 t55)).bind fun t56 =>
 (gd t53 false (dBin tab .neq ty3 t56 (.int .i64 0))).bind fun t57 =>
 (dPick t53 (.bool true) t57).bind fun t58 =>
 (some t58).bind fun t59 =>
 (gd t59 false (dFieldAddr tab ty31 4 t3)).bind fun t60 =>
 (gd t59 false (dLoad tab p23.2 ty28 t60)).bind fun t61 =>
 (gdW t59 false p23.2 (R fn1049 [t61, .fn (.func fn1050) [] []] p23.2)).bind fun p62 =>
 (dPick t59 (.bool true) p62.1).bind fun t63 =>
 dIf t63
   ((some (.int .i64 19 : D)).bind fun t2_5 =>
 ((some t2_5).bind fun d => (some ([] : List D)).bind fun ds => some (d :: ds)).bind fun ds => some (mkRes ds, p62.2))
   ((some (.int .i64 0 : D)).bind fun t2_6 =>
 ((some t2_6).bind fun d => (some ([] : List D)).bind fun ds => some (d :: ds)).bind fun ds => some (mkRes ds, p62.2))))))
theorem e1042 (t0 : D) (h : Hp) : R fn1042 [t0] h = F1042 t0 h :=
  (run_fn (X := X) (F := Fs) (fi := i22) (by kernel_rfl) _ _).trans (by kernel_rfl)
noncomputable def F1004_L0 (t3 : D) (ds : List D) (h_1 : Hp) : Option Out :=
 (some (nth 1 ds)).bind fun t57 =>
 (dFieldAddr tab ty31 4 t3).bind fun t58 =>
 (dLoad tab h_1 ty28 t58).bind fun t59 =>
 (dLenT tab ty28 t59).bind fun t60 =>
 (dBin tab .lss ty3 t57 t60).bind fun t61 =>
 dIf t61
   ((dFieldAddr tab ty31 4 t3).bind fun t64 =>
 (dLoad tab h_1 ty28 t64).bind fun t65 =>
 (some (nth 1 ds)).bind fun t66 =>
 (dIndexAddr tab ty28 t65 t66).bind fun t67 =>
 (dFieldAddr tab ty78 2 t67).bind fun t68 =>
 (dLoad tab h_1 ty9 t68).bind fun t69 =>
 (dBin tab .neq ty9 t69 (.str [])).bind fun t70 =>
 dIf t70
   ((some (.int .i64 19 : D)).bind fun t2_6 =>
 some (.ret, [t2_6, (nth 1 ds), t61, t70], h_1))
   ((some (nth 1 ds)).bind fun t62 =>
 (dBin tab .add ty3 t62 (.int .i64 1)).bind fun t63 =>
 (some t63).bind fun t6_1 =>
 some (.nrm, [(nth 0 ds), t6_1, t61, t70], h_1)))
   (some ((.ext 0), [(nth 0 ds), (nth 1 ds), t61, (nth 3 ds)], h_1))
noncomputable def F1004 (t0 : D) (h : Hp) : Option (D × Hp) :=
  (pBoxF t0).bind fun t1 =>
 (some (.int .i64 0 : D)).bind fun t2 =>
 (dFieldAddr tab ty74 0 t1).bind fun t7 =>
 (dLoad tab h ty9 t7).bind fun t8 =>
 (dBin tab .eql ty9 t8 (.str [])).bind fun t9 =>
 dIf t9
   ((dFieldAddr tab ty74 1 t1).bind fun t10 =>
 (dLoad tab h ty31 t10).bind fun t11 =>
 (R fn1010 [t11] h).bind fun p12 =>
 (some p12.1).bind fun t2_1 =>
 ((some t2_1).bind fun d => (some ([] : List D)).bind fun ds => some (d :: ds)).bind fun ds => some (mkRes ds, p12.2))
   ((dFieldAddr tab ty74 0 t1).bind fun t13 =>
 (dLoad tab h ty9 t13).bind fun t14 =>
 (dLenT tab ty9 t14).bind fun t15 =>
 (dBin tab .gtr ty3 t15 (.int .i64 32)).bind fun t16 =>
 dIf t16
   ((some (.int .i64 3 : D)).bind fun t2_2 =>
 ((some t2_2).bind fun d => (some ([] : List D)).bind fun ds => some (d :: ds)).bind fun ds => some (mkRes ds, h))
   ((dFieldAddr tab ty74 1 t1).bind fun t17 =>
 (dLoad tab h ty31 t17).bind fun t18 =>
 (boxN 10 t18).bind fun t3 =>
 (dLoad tab h ty31 t3).bind fun t19 =>
 (R fn1011 [t19] h).bind fun p20 =>
 (some p20.1).bind fun t4 =>
 (some t4).bind fun t21 =>
 (dBin tab .neq ty49 t21 (.int .i64 0)).bind fun t22 =>
 dIf t22
   ((some t4).bind fun t23 =>
 (some t23).bind fun t2_3 =>
 ((some t2_3).bind fun d => (some ([] : List D)).bind fun ds => some (d :: ds)).bind fun ds => some (mkRes ds, p20.2))
   ((dLoad tab p20.2 ty31 t3).bind fun t24 =>
 (R fn1012 [t24, .int .i64 20000] p20.2).bind fun p25 =>
 (some p25.1).bind fun t5 =>
 (some t5).bind fun t26 =>
 (dBin tab .neq ty49 t26 (.int .i64 0)).bind fun t27 =>
 (some t27).bind fun t28 =>
 (gd t28 true (some t5)).bind fun t29 =>
 (gd t28 true (dBin tab .neq ty49 t29 (.int .i64 3))).bind fun t30 =>
 (dPick t28 t30 (.bool false)).bind fun t31 =>
 dIf t31
   ((some t5).bind fun t32 =>
 (some t32).bind fun t2_4 =>
 ((some t2_4).bind fun d => (some ([] : List D)).bind fun ds => some (d :: ds)).bind fun ds => some (mkRes ds, p25.2))
   ((dFieldAddr tab ty31 5 t3).bind fun t33 =>
 (dLoad tab p25.2 ty3 t33).bind fun t34 =>
 (dBin tab .neq ty3 t34 (.int .i64 0)).bind fun t35 =>
 (some t35).bind fun t36 =>
 (gd t36 false (dFieldAddr tab ty31 6 t3)).bind fun t37 =>
 (gd t36 false (dLoad tab p25.2 ty3 t37)).bind fun t38 =>
 (gd t36 false (dBin tab .neq ty3 t38 (.int .i64 0))).bind fun t39 =>
 (dPick t36 (.bool true) t39).bind fun t40 =>
 (some t40).bind fun t41 =>
 (gd t41 false (dFieldAddr tab ty31 7 t3)).bind fun t42 =>
 (gd t41 false (dLoad tab p25.2 ty9 t42)).bind fun t43 =>
 (gd t41 false (dBin tab .neq ty9 t43 (.str []))).bind fun t44 =>
 (dPick t41 (.bool true) t44).bind fun t45 =>
 (some t45).bind fun t46 =>
 (gd t46 false (dFieldAddr tab ty31 8 t3)).bind fun t47 =>
 (gd t46 false (dLoad tab p25.2 ty9 t47)).bind fun t48 =>
 (gd t46 false (dBin tab .neq ty9 t48 (.str []))).bind fun t49 =>
 (dPick t46 (.bool true) t49).bind fun t50 =>
 (some t50).bind fun t51 =>
 (gd t51 false (dFieldAddr tab ty31 9 t3)).bind fun t52 =>
 (gd t51 false (dLoad tab p25.2 ty29 t52)).bind fun t53 =>
 (gd t51 false (dLenT tab ty29 t53)).bind fun t54 =>
 (gd t51 false (dBin tab .neq ty3 t54 (.int .i64 0))).bind fun t55 =>
 (dPick t51 (.bool true) t55).bind fun t56 =>
 dIf t56
   ((some (.int .i64 19 : D)).bind fun t2_5 =>
 ((some t2_5).bind fun d => (some ([] : List D)).bind fun ds => some (d :: ds)).bind fun ds => some (mkRes ds, p25.2))
   ((some (.int .i64 0 : D)).bind fun t6 =>
 ((loopW (F1004_L0 t3) [t2, t6, .any, .any] p25.2).bind fun r =>
 some ((unblk 0 r.1), [(nth 0 r.2.1), (nth 1 r.2.1), (nth 2 r.2.1), (nth 3 r.2.1)], r.2.2)).bind fun r_1 =>
 toEnd r_1.1 ((some (.int .i64 0 : D)).bind fun t2_7 =>
 ((some t2_7).bind fun d => (some ([] : List D)).bind fun ds => some (d :: ds)).bind fun ds => some (mkRes ds, r_1.2.2)) fun x => exEnd x (((some (nth 0 r_1.2.1)).bind fun d => (some ([] : List D)).bind fun ds => some (d :: ds)).bind fun ds => some (mkRes ds, r_1.2.2)))))))
theorem e1004 (t0 : D) (h : Hp) : R fn1004 [t0] h = F1004 t0 h :=
  (run_fn (X := X) (F := Fs) (fi := i23) (by kernel_rfl) _ _).trans (by kernel_rfl)
noncomputable def F96_L0 (t0 : D) (ds : List D) (h_1 : Hp) : Option Out :=
 (some (nth 1 ds)).bind fun t9 =>
 (dBin tab .gtr ty3 t9 (.int .i64 0)).bind fun t10 =>
 dIf t10
   ((some (nth 0 ds)).bind fun t13 =>
 (pLitF tab ty98 5 [0, 1, 2, 3, 4] [.str [32], .str [32], .str [44, 32], .str [61], .str []]).bind fun t14 =>
 (some t0).bind fun t15 =>
 (R fn24 [t15, .int .i64 5] h_1).bind fun p16 =>
 (dIndexAddr tab ty98 t14 p16.1).bind fun t17 =>
 (dLoad tab p16.2 ty9 t17).bind fun t18 =>
 (some t0).bind fun t19 =>
 (R fn102 [t19] p16.2).bind fun p20 =>
 (dBin tab .add ty9 t18 p20.1).bind fun t21 =>
 (dBin tab .add ty9 t13 t21).bind fun t22 =>
 chk (dLoad tab p20.2 ty9 t17 = some t18)
 ((some t22).bind fun t3_1 =>
 (some (nth 1 ds)).bind fun t11 =>
 (dBin tab .sub ty3 t11 (.int .i64 1)).bind fun t12 =>
 (some t12).bind fun t4_1 =>
 some (.nrm, [t3_1, t4_1, t10], p20.2)))
   (some ((.ext 0), [(nth 0 ds), (nth 1 ds), t10], h_1))
noncomputable def F96 (t0 : D) (h : Hp) : Option (D × Hp) :=
  (some (.str [] : D)).bind fun t2 =>
 (some t0).bind fun t5 =>
 (R fn102 [t5] h).bind fun p6 =>
 (some p6.1).bind fun t3 =>
 (some t0).bind fun t7 =>
 (R fn24 [t7, .int .i64 4] p6.2).bind fun p8 =>
 (some p8.1).bind fun t4 =>
 ((loopW (F96_L0 t0) [t3, t4, .any] p8.2).bind fun r =>
 some ((unblk 0 r.1), [(nth 0 r.2.1), (nth 1 r.2.1), (nth 2 r.2.1)], r.2.2)).bind fun r_1 =>
 toEnd r_1.1 ((some (nth 0 r_1.2.1)).bind fun t23 =>
 (some t23).bind fun t2_1 =>
 ((some t2_1).bind fun d => (some ([] : List D)).bind fun ds => some (d :: ds)).bind fun ds => some (mkRes ds, r_1.2.2)) fun x => exEnd x (((some t2).bind fun d => (some ([] : List D)).bind fun ds => some (d :: ds)).bind fun ds => some (mkRes ds, r_1.2.2))
theorem e96 (t0 : D) (h : Hp) : R fn96 [t0] h = F96 t0 h :=
  (run_fn (X := X) (F := Fs) (fi := i24) (by kernel_rfl) _ _).trans (by kernel_rfl)
noncomputable def F35 (t0 : D) (h : Hp) : Option (D × Hp) :=
  (some (.int .i64 0 : D)).bind fun t2 =>
 (some t0).bind fun t3 =>
 (R fn24 [t3, .int .i64 4] h).bind fun p4 =>
 (dBin tab .eql ty3 p4.1 (.int .i64 0)).bind fun t6 =>
 (some t6).bind fun t5 =>
 dIf t5
   ((some t0).bind fun t7 =>
 (R fn24 [t7, .int .i64 40] p4.2).bind fun p8 =>
 (dBin tab .mul ty3 p8.1 (.int .i64 86400000)).bind fun t9 =>
 (some t9).bind fun t2_1 =>
 ((some t2_1).bind fun d => (some ([] : List D)).bind fun ds => some (d :: ds)).bind fun ds => some (mkRes ds, p8.2))
   ((dBin tab .eql ty3 p4.1 (.int .i64 1)).bind fun t11 =>
 (some t11).bind fun t10 =>
 dIf t10
   ((some t0).bind fun t12 =>
 (R fn24 [t12, .int .i64 3] p4.2).bind fun p13 =>
 (dBin tab .mul ty3 p13.1 (.int .i64 86400000)).bind fun t14 =>
 (dBin tab .sub ty3 (.int .i64 253402300799999) t14).bind fun t15 =>
 (some t15).bind fun t2_2 =>
 ((some t2_2).bind fun d => (some ([] : List D)).bind fun ds => some (d :: ds)).bind fun ds => some (mkRes ds, p13.2))
   ((some t0).bind fun t16 =>
 (R fn24 [t16, .int .i64 60] p4.2).bind fun p17 =>
 (dBin tab .add ty3 (.int .i64 1000) p17.1).bind fun t18 =>
 (some t18).bind fun t2_3 =>
 ((some t2_3).bind fun d => (some ([] : List D)).bind fun ds => some (d :: ds)).bind fun ds => some (mkRes ds, p17.2)))
theorem e35 (t0 : D) (h : Hp) : R fn35 [t0] h = F35 t0 h :=
  (run_fn (X := X) (F := Fs) (fi := i25) (by kernel_rfl) _ _).trans (by kernel_rfl)
noncomputable def F97 (t0 : D) (h : Hp) : Option (D × Hp) :=
  (some (.int .i64 0 : D)).bind fun t2 =>
 (pLitF tab ty82 6 [0, 1, 2, 3, 4, 5] [.int .i64 1, .int .i64 1, .int .i64 2, .int .i64 5, .int .i64 10, .int .i64 5040]).bind fun t3 =>
 (some t0).bind fun t4 =>
 (R fn24 [t4, .int .i64 6] h).bind fun p5 =>
 (dIndexAddr tab ty82 t3 p5.1).bind fun t6 =>
 (dLoad tab p5.2 ty3 t6).bind fun t7 =>
 (some t7).bind fun t2_1 =>
 ((some t2_1).bind fun d => (some ([] : List D)).bind fun ds => some (d :: ds)).bind fun ds => some (mkRes ds, p5.2)
theorem e97 (t0 : D) (h : Hp) : R fn97 [t0] h = F97 t0 h :=
  (run_fn (X := X) (F := Fs) (fi := i26) (by kernel_rfl) _ _).trans (by kernel_rfl)
noncomputable def F98_L0 (t0 : D) (t4 : D) (ds : List D) (h_1 : Hp) : Option Out :=
 (some (nth 1 ds)).bind fun t7 =>
 (some t4).bind fun t8 =>
 (dLenT tab ty98 t8).bind fun t9 =>
 (dBin tab .lss ty3 t7 t9).bind fun t10 =>
 dIf t10
   ((some t0).bind fun t13 =>
 (R fn24 [t13, .int .i64 3] h_1).bind fun p14 =>
 (dBin tab .eql ty3 p14.1 (.int .i64 1)).bind fun t15 =>
 (dIf t15
   ((some (nth 0 ds)).bind fun t16 =>
 (some t4).bind fun t17 =>
 (some (nth 1 ds)).bind fun t18 =>
 (dIndexAddr tab ty98 t17 t18).bind fun t19 =>
 (dLoad tab p14.2 ty9 t19).bind fun t20 =>
 (some t0).bind fun t21 =>
 (R fn33 [t21] p14.2).bind fun p22 =>
 (dBuild tab ty109 [0, 1] [t20, p22.1]).bind fun t23 =>
 (pLitF tab ty29 1 [0] [t23]).bind fun t24 =>
 (dAppend tab p22.2 ty29 ty29 t16 t24).bind fun p25 =>
 chk (dLoad tab p22.2 ty9 t19 = some t20)
 ((some p25.1).bind fun t3_1 =>
 some (.nrm, [t3_1], p25.2)))
   (some (.nrm, [(nth 0 ds)], p14.2))).bind fun r_1 =>
 toEnd (unblk 1 r_1.1) ((some (nth 1 ds)).bind fun t11 =>
 (dBin tab .add ty3 t11 (.int .i64 1)).bind fun t12 =>
 (some t12).bind fun t5_1 =>
 some (.nrm, [(nth 0 r_1.2.1), t5_1, t10, t15], r_1.2.2)) fun x => some (x, [(nth 0 r_1.2.1), (nth 1 ds), t10, t15], r_1.2.2))
   (some ((.ext 0), [(nth 0 ds), (nth 1 ds), t10, (nth 3 ds)], h_1))
noncomputable def F98 (t0 : D) (h : Hp) : Option (D × Hp) :=
  (some (.nils : D)).bind fun t2 =>
 (some (.nils : D)).bind fun t3 =>
 (pLitF tab ty98 4 [0, 1, 2, 3] [.str [99, 111, 100, 101], .str [108, 101, 118, 101, 108], .str [109, 115], .str [117, 115, 101, 114]]).bind fun t6 =>
 (some t6).bind fun t4 =>
 (some (.int .i64 0 : D)).bind fun t5 =>
 ((loopW (F98_L0 t0 t4) [t3, t5, .any, .any] h).bind fun r =>
 some ((unblk 0 r.1), [(nth 0 r.2.1), (nth 1 r.2.1), (nth 2 r.2.1), (nth 3 r.2.1)], r.2.2)).bind fun r_2 =>
 toEnd r_2.1 ((some (nth 0 r_2.2.1)).bind fun t26 =>
 (some t26).bind fun t2_1 =>
 ((some t2_1).bind fun d => (some ([] : List D)).bind fun ds => some (d :: ds)).bind fun ds => scope h r_2.2.2 (mkRes ds)) fun x_1 => exEnd x_1 (((some t2).bind fun d => (some ([] : List D)).bind fun ds => some (d :: ds)).bind fun ds => scope h r_2.2.2 (mkRes ds))
theorem e98 (t0 : D) (h : Hp) : R fn98 [t0] h = F98 t0 h :=
  (run_fn (X := X) (F := Fs) (fi := i27) (by kernel_rfl) _ _).trans (by kernel_rfl)
noncomputable def F1095 (t0 : D) (h : Hp) : Option (D × Hp) :=
  (some (.nils : D)).bind fun t2 =>
 (some t0).bind fun t3 =>
 (dBin tab .eql ty1007 t3 (.nils)).bind fun t4 =>
 dIf t4
   ((some (.nils : D)).bind fun t2_1 =>
 ((some t2_1).bind fun d => (some ([] : List D)).bind fun ds => some (d :: ds)).bind fun ds => some (mkRes ds, h))
   ((pLitF tab ty1007 0 [] []).bind fun t5 =>
 (some t0).bind fun t6 =>
 (dAppend tab h ty1007 ty1007 t5 t6).bind fun p7 =>
 (some p7.1).bind fun t2_2 =>
 ((some t2_2).bind fun d => (some ([] : List D)).bind fun ds => some (d :: ds)).bind fun ds => some (mkRes ds, p7.2))
theorem e1095 (t0 : D) (h : Hp) : R fn1095 [t0] h = F1095 t0 h :=
  (run_fn (X := X) (F := Fs) (fi := i28) (by kernel_rfl) _ _).trans (by kernel_rfl)
noncomputable def F79 (t0 : D) (h : Hp) : Option (D × Hp) :=
  (some (.nils : D)).bind fun t2 =>
 (some t0).bind fun t3 =>
 (dBin tab .eql ty58 t3 (.nils)).bind fun t4 =>
 dIf t4
   ((some (.nils : D)).bind fun t2_1 =>
 ((some t2_1).bind fun d => (some ([] : List D)).bind fun ds => some (d :: ds)).bind fun ds => some (mkRes ds, h))
   ((pLitF tab ty58 0 [] []).bind fun t5 =>
 (some t0).bind fun t6 =>
 (dAppend tab h ty58 ty58 t5 t6).bind fun p7 =>
 (some p7.1).bind fun t2_2 =>
 ((some t2_2).bind fun d => (some ([] : List D)).bind fun ds => some (d :: ds)).bind fun ds => some (mkRes ds, p7.2))
theorem e79 (t0 : D) (h : Hp) : R fn79 [t0] h = F79 t0 h :=
  (run_fn (X := X) (F := Fs) (fi := i29) (by kernel_rfl) _ _).trans (by kernel_rfl)
noncomputable def F1096 (t0 : D) (t1 : D) (h : Hp) : Option (D × Hp) :=
  (wBox ty74 11 h t1).bind fun p3 =>
 (some (.bool false : D)).bind fun t4 =>
 (dFieldAddr tab ty74 1 p3.1).bind fun t15 =>
 (dFieldAddr tab ty31 0 t15).bind fun t16 =>
 (dLoad tab p3.2 ty3 t16).bind fun t17 =>
 (dFieldAddr tab ty74 1 p3.1).bind fun t18 =>
 (dFieldAddr tab ty31 1 t18).bind fun t19 =>
 (dLoad tab p3.2 ty3 t19).bind fun t20 =>
 (dFieldAddr tab ty74 1 p3.1).bind fun t21 =>
 (dFieldAddr tab ty31 3 t21).bind fun t22 =>
 (dLoad tab p3.2 ty3 t22).bind fun t23 =>
 (some t17).bind fun t5 =>
 (some t20).bind fun t6 =>
 (some t23).bind fun t7 =>
 (some t0).bind fun t24 =>
 (dNilCheck tab t24).bind fun t25 =>
 (dFieldAddr tab ty1073 0 t25).bind fun t26 =>
 (dLoad tab p3.2 ty1009 t26).bind fun t27 =>
 (some t5).bind fun t28 =>
 (some t6).bind fun t29 =>
 (R fn1005 [t27, t28, t29] p3.2).bind fun p30 =>
 (dFieldAddr tab ty74 1 p3.1).bind fun t31 =>
 (dFieldAddr tab ty31 4 t31).bind fun t32 =>
 (dLoad tab p30.2 ty28 t32).bind fun t33 =>
 (dLenT tab ty28 t33).bind fun t34 =>
 (some p30.1).bind fun t8 =>
 chk (dLoad tab p3.2 ty28 t32 = some t33)
 ((some t34).bind fun t9 =>
 (some t7).bind fun t36 =>
 (some t8).bind fun t37 =>
 (dBin tab .leq ty3 t36 t37).bind fun t38 =>
 (some t38).bind fun t35 =>
 dIf t35
   ((some t0).bind fun t39 =>
 (some t5).bind fun t40 =>
 (some t9).bind fun t41 =>
 (R fn1097 [t39, t40, .str [42], t41] p30.2).bind fun p42 =>
 (some (.bool true : D)).bind fun t4_1 =>
 ((some t4_1).bind fun d => (some ([] : List D)).bind fun ds => some (d :: ds)).bind fun ds => some (mkRes ds, p42.2))
   ((dFieldAddr tab ty74 1 p3.1).bind fun t44 =>
 (dFieldAddr tab ty31 2 t44).bind fun t45 =>
 (dLoad tab p30.2 ty3 t45).bind fun t46 =>
 (some t8).bind fun t47 =>
 (dBin tab .gtr ty3 t46 t47).bind fun t48 =>
 (some t48).bind fun t43 =>
 dIf t43
   ((some (.bool false : D)).bind fun t4_2 =>
 ((some t4_2).bind fun d => (some ([] : List D)).bind fun ds => some (d :: ds)).bind fun ds => some (mkRes ds, p30.2))
   ((dFieldAddr tab ty74 1 p3.1).bind fun t50 =>
 (dFieldAddr tab ty31 2 t50).bind fun t51 =>
 (dLoad tab p30.2 ty3 t51).bind fun t52 =>
 (some t8).bind fun t53 =>
 (dBin tab .lss ty3 t52 t53).bind fun t54 =>
 (some t54).bind fun t49 =>
 (dIf t49
   ((dLoad tab p30.2 ty74 p3.1).bind fun t56 =>
 (some t8).bind fun t57 =>
 (R fn1002 [t56, t57] p30.2).bind fun p58 =>
 (some p58.1).bind fun t55 =>
 (dExtract 0 t55).bind fun t59 =>
 (dExtract 1 t55).bind fun t60 =>
 (boxN 11 t59).bind fun t10 =>
 (some t60).bind fun t11 =>
 (some t11).bind fun t61 =>
 (dUn .not t61).bind fun t62 =>
 dIf t62
   ((some (.bool false : D)).bind fun t4_3 =>
 some (.ret, [t4_3, t10, t11, t62], p58.2))
   ((dLoad tab p58.2 ty74 t10).bind fun t63 =>
 ((dStore tab p58.2 ty74 p3.1 t63).bind fun h' => some ((.und : D), h')).bind fun p901 =>
 (some t0).bind fun t64 =>
 (some t5).bind fun t65 =>
 (some t9).bind fun t66 =>
 (dFieldAddr tab ty74 1 p3.1).bind fun t67 =>
 (dFieldAddr tab ty31 4 t67).bind fun t68 =>
 (dLoad tab p901.2 ty28 t68).bind fun t69 =>
 (dLenT tab ty28 t69).bind fun t70 =>
 (dBin tab .sub ty3 t66 t70).bind fun t71 =>
 (R fn1097 [t64, t65, .str [42], t71] p901.2).bind fun p72 =>
 some (.nrm, [t4, t10, t11, t62], p72.2)))
   (some (.nrm, [t4, .any, .any, .any], p30.2))).bind fun r =>
 toEnd (unblk 0 r.1) ((some t0).bind fun t74 =>
 (dNilCheck tab t74).bind fun t75 =>
 (dFieldAddr tab ty1073 0 t75).bind fun t76 =>
 (dFieldAddr tab ty1009 0 t76).bind fun t77 =>
 (dLoad tab r.2.2 ty1007 t77).bind fun t78 =>
 (some t5).bind fun t79 =>
 (some t6).bind fun t80 =>
 (R fn1013 [t78, t79, t80] r.2.2).bind fun p81 =>
 (some p81.1).bind fun t73 =>
 (dExtract 0 t73).bind fun t82 =>
 (dExtract 1 t73).bind fun t83 =>
 (some t82).bind fun t12 =>
 (some t83).bind fun t13 =>
 (some t13).bind fun t84 =>
 (dUn .not t84).bind fun t85 =>
 (dIf t85
   ((some t0).bind fun t86 =>
 (some t0).bind fun t87 =>
 (dNilCheck tab t87).bind fun t88 =>
 (dFieldAddr tab ty1073 0 t88).bind fun t89 =>
 (dFieldAddr tab ty1009 0 t89).bind fun t90 =>
 (dLoad tab p81.2 ty1007 t90).bind fun t91 =>
 (some t12).bind fun t92 =>
 (some t5).bind fun t93 =>
 (some t6).bind fun t94 =>
 (dBuild tab ty1006 [0, 1] [t93, t94]).bind fun t95 =>
 (pLitF tab ty1007 1 [0] [t95]).bind fun t96 =>
 (R fn1098 [t91, t92, t96] p81.2).bind fun p97 =>
 (dNilCheck tab t86).bind fun t98 =>
 (dFieldAddr tab ty1073 0 t98).bind fun t99 =>
 (dFieldAddr tab ty1009 0 t99).bind fun t100 =>
 ((dStore tab p97.2 ty1007 t100 p97.1).bind fun h' => some ((.und : D), h')).bind fun p915 =>
 some (.nrm, ([] : List D), p915.2))
   (some (.nrm, ([] : List D), p81.2))).bind fun r_1 =>
 toEnd r_1.1 ((some t0).bind fun t101 =>
 (dNilCheck tab t101).bind fun t102 =>
 (dFieldAddr tab ty1073 0 t102).bind fun t103 =>
 (dFieldAddr tab ty1009 0 t103).bind fun t104 =>
 (dLoad tab r_1.2.2 ty1007 t104).bind fun t105 =>
 (some t12).bind fun t106 =>
 (some t7).bind fun t107 =>
 (dIndexAddr tab ty1007 t105 t106).bind fun t108 =>
 (dFieldAddr tab ty1006 2 t108).bind fun t109 =>
 ((dStore tab r_1.2.2 ty3 t109 t107).bind fun h' => some ((.und : D), h')).bind fun p909 =>
 (some t0).bind fun t110 =>
 (some t5).bind fun t111 =>
 (dFieldAddr tab ty74 0 p3.1).bind fun t112 =>
 (dLoad tab p909.2 ty9 t112).bind fun t113 =>
 (dFieldAddr tab ty74 1 p3.1).bind fun t114 =>
 (dFieldAddr tab ty31 4 t114).bind fun t115 =>
 (dLoad tab p909.2 ty28 t115).bind fun t116 =>
 (dLenT tab ty28 t116).bind fun t117 =>
 (R fn1097 [t110, t111, t113, t117] p909.2).bind fun p118 =>
 (dFieldAddr tab ty74 0 p3.1).bind fun t119 =>
 (dLoad tab p118.2 ty9 t119).bind fun t120 =>
 (dBin tab .eql ty9 t120 (.str [])).bind fun t121 =>
 (dIf t121
   ((dFieldAddr tab ty74 1 p3.1).bind fun t122 =>
 (dLoad tab p118.2 ty31 t122).bind fun t123 =>
 (some ((.ptr p118.2.length 0 0 : D), dNew p118.2 ty31 10 [[.int .i64 0, .int .i64 0, .int .i64 0, .int .i64 0, .nils, .int .i64 0, .int .i64 0, .str [], .str [], .nils]])).bind fun p14 =>
 ((dStore tab p14.2 ty31 p14.1 t123).bind fun h' => some ((.und : D), h')).bind fun p903 =>
 (dFieldAddr tab ty31 4 p14.1).bind fun t124 =>
 (dLoad tab p903.2 ty28 t124).bind fun t125 =>
 (R fn1008 [t125] p903.2).bind fun p126 =>
 (dFieldAddr tab ty31 9 p14.1).bind fun t127 =>
 (dLoad tab p126.2 ty29 t127).bind fun t128 =>
 (R fn1009 [t128] p126.2).bind fun p129 =>
 (dFieldAddr tab ty31 4 p14.1).bind fun t130 =>
 chk (dLoad tab p903.2 ty29 t127 = some t128)
 (((dStore tab p129.2 ty28 t130 p126.1).bind fun h' => some ((.und : D), h')).bind fun p907 =>
 (dFieldAddr tab ty31 9 p14.1).bind fun t131 =>
 ((dStore tab p907.2 ty29 t131 p129.1).bind fun h' => some ((.und : D), h')).bind fun p909_1 =>
 (some t0).bind fun t132 =>
 (some t0).bind fun t133 =>
 (dNilCheck tab t133).bind fun t134 =>
 (dFieldAddr tab ty1073 1 t134).bind fun t135 =>
 (dLoad tab p909_1.2 ty40 t135).bind fun t136 =>
 (dLoad tab p909_1.2 ty31 p14.1).bind fun t137 =>
 (pLitF tab ty40 1 [0] [t137]).bind fun t138 =>
 (dAppend tab p909_1.2 ty40 ty40 t136 t138).bind fun p139 =>
 (dNilCheck tab t132).bind fun t140 =>
 (dFieldAddr tab ty1073 1 t140).bind fun t141 =>
 ((dStore tab p139.2 ty40 t141 p139.1).bind fun h' => some ((.und : D), h')).bind fun p910 =>
 some (.nrm, [p14.1], p910.2)))
   (some (.nrm, [.any], p118.2))).bind fun r_2 =>
 toEnd r_2.1 ((some (.bool true : D)).bind fun t4_4 =>
 ((some t4_4).bind fun d => (some ([] : List D)).bind fun ds => some (d :: ds)).bind fun ds => some (mkRes ds, r_2.2.2)) fun x_2 => exEnd x_2 (((some (nth 0 r.2.1)).bind fun d => (some ([] : List D)).bind fun ds => some (d :: ds)).bind fun ds => some (mkRes ds, r_2.2.2))) fun x_1 => exEnd x_1 (((some (nth 0 r.2.1)).bind fun d => (some ([] : List D)).bind fun ds => some (d :: ds)).bind fun ds => some (mkRes ds, r_1.2.2))) fun x => exEnd x (((some (nth 0 r.2.1)).bind fun d => (some ([] : List D)).bind fun ds => some (d :: ds)).bind fun ds => some (mkRes ds, r.2.2)))))
theorem e1096 (t0 : D) (t1 : D) (h : Hp) : R fn1096 [t0, t1] h = F1096 t0 t1 h :=
  (run_fn (X := X) (F := Fs) (fi := i30) (by kernel_rfl) _ _).trans (by kernel_rfl)
noncomputable def F1077 (t0 : D) (t1 : D) (t2 : D) (h : Hp) : Option (D × Hp) :=
  (pBoxF t0).bind fun t3 =>
 (some (.int .i64 0 : D)).bind fun t6 =>
 (dFieldAddr tab ty1009 0 t3).bind fun t10 =>
 (dLoad tab h ty1007 t10).bind fun t11 =>
 (some t1).bind fun t12 =>
 (some t2).bind fun t13 =>
 (R fn1084 [t11, t12, t13] h).bind fun p14 =>
 (some p14.1).bind fun t9 =>
 (dExtract 0 t9).bind fun t15 =>
 (dExtract 1 t9).bind fun t16 =>
 (some t15).bind fun t7 =>
 (some t16).bind fun t8 =>
 (some t8).bind fun t17 =>
 dIf t17
   ((dFieldAddr tab ty1009 0 t3).bind fun t18 =>
 (dLoad tab p14.2 ty1007 t18).bind fun t19 =>
 (some t7).bind fun t20 =>
 (dIndexAddr tab ty1007 t19 t20).bind fun t21 =>
 (dFieldAddr tab ty1006 2 t21).bind fun t22 =>
 (dLoad tab p14.2 ty3 t22).bind fun t23 =>
 (some t23).bind fun t6_1 =>
 ((some t6_1).bind fun d => (some ([] : List D)).bind fun ds => some (d :: ds)).bind fun ds => some (mkRes ds, p14.2))
   ((some (.int .i64 0 : D)).bind fun t6_2 =>
 ((some t6_2).bind fun d => (some ([] : List D)).bind fun ds => some (d :: ds)).bind fun ds => some (mkRes ds, p14.2))
theorem e1077 (t0 : D) (t1 : D) (t2 : D) (h : Hp) : R fn1077 [t0, t1, t2] h = F1077 t0 t1 t2 h :=
  (run_fn (X := X) (F := Fs) (fi := i31) (by kernel_rfl) _ _).trans (by kernel_rfl)
noncomputable def F60_L0 (t0 : D) (t1 : D) (t2 : D) (ds : List D) (h_1 : Hp) : Option Out :=
 (some (nth 0 ds)).bind fun t14 =>
 (some t0).bind fun t15 =>
 (dLenT tab ty58 t15).bind fun t16 =>
 (dBin tab .lss ty3 t14 t16).bind fun t17 =>
 (some t17).bind fun t18 =>
 (gd t18 true (some t0)).bind fun t19 =>
 (gd t18 true (some (nth 0 ds))).bind fun t20 =>
 (gd t18 true (dIndexAddr tab ty58 t19 t20)).bind fun t21 =>
 (gd t18 true (dFieldAddr tab ty106 0 t21)).bind fun t22 =>
 (gd t18 true (dLoad tab h_1 ty3 t22)).bind fun t23 =>
 (gd t18 true (some t1)).bind fun t24 =>
 (gd t18 true (dBin tab .lss ty3 t23 t24)).bind fun t25 =>
 (gd t18 true (some t25)).bind fun t26 =>
 (gd t26 false (some t0)).bind fun t27 =>
 (gd t26 false (some (nth 0 ds))).bind fun t28 =>
 (gd t26 false (dIndexAddr tab ty58 t27 t28)).bind fun t29 =>
 (gd t26 false (dFieldAddr tab ty106 0 t29)).bind fun t30 =>
 (gd t26 false (dLoad tab h_1 ty3 t30)).bind fun t31 =>
 (gd t26 false (some t1)).bind fun t32 =>
 (gd t26 false (dBin tab .eql ty3 t31 t32)).bind fun t33 =>
 (gd t26 false (some t33)).bind fun t34 =>
 (gd t34 true (some t0)).bind fun t35 =>
 (gd t34 true (some (nth 0 ds))).bind fun t36 =>
 (gd t34 true (dIndexAddr tab ty58 t35 t36)).bind fun t37 =>
 (gd t34 true (dFieldAddr tab ty106 1 t37)).bind fun t38 =>
 (gd t34 true (dLoad tab h_1 ty9 t38)).bind fun t39 =>
 (gd t34 true (some t2)).bind fun t40 =>
 (gd t34 true (dBin tab .lss ty9 t39 t40)).bind fun t41 =>
 (gd t26 false (dPick t34 t41 (.bool false))).bind fun t42 =>
 (gd t18 true (dPick t26 (.bool true) t42)).bind fun t43 =>
 (dPick t18 t43 (.bool false)).bind fun t44 =>
 dIf t44
   ((some (nth 0 ds)).bind fun t45 =>
 (dBin tab .add ty3 t45 (.int .i64 1)).bind fun t46 =>
 (some t46).bind fun t9_1 =>
 some (.nrm, [t9_1, t44], h_1))
   (some ((.ext 0), [(nth 0 ds), t44], h_1))
noncomputable def F60 (t0 : D) (t1 : D) (t2 : D) (t3 : D) (h : Hp) : Option (D × Hp) :=
  (some (.nils : D)).bind fun t8 =>
 (some t3).bind fun t11 =>
 (dBin tab .leq ty3 t11 (.int .i64 0)).bind fun t12 =>
 dIf t12
   ((some t0).bind fun t13 =>
 (some t13).bind fun t8_1 =>
 ((some t8_1).bind fun d => (some ([] : List D)).bind fun ds => some (d :: ds)).bind fun ds => scope h h (mkRes ds))
   ((some (.int .i64 0 : D)).bind fun t9 =>
 ((loopW (F60_L0 t0 t1 t2) [t9, .any] h).bind fun r =>
 some ((unblk 0 r.1), [(nth 0 r.2.1), (nth 1 r.2.1)], r.2.2)).bind fun r_1 =>
 toEnd r_1.1 ((some t0).bind fun t47 =>
 (dAppend tab r_1.2.2 ty58 ty58 (.nils) t47).bind fun p48 =>
 (some p48.1).bind fun t10 =>
 (some (nth 0 r_1.2.1)).bind fun t49 =>
 (some t0).bind fun t50 =>
 (dLenT tab ty58 t50).bind fun t51 =>
 (dBin tab .lss ty3 t49 t51).bind fun t52 =>
 (some t52).bind fun t53 =>
 (gd t53 true (some t0)).bind fun t54 =>
 (gd t53 true (some (nth 0 r_1.2.1))).bind fun t55 =>
 (gd t53 true (dIndexAddr tab ty58 t54 t55)).bind fun t56 =>
 (gd t53 true (dFieldAddr tab ty106 0 t56)).bind fun t57 =>
 (gd t53 true (dLoad tab p48.2 ty3 t57)).bind fun t58 =>
 (gd t53 true (some t1)).bind fun t59 =>
 (gd t53 true (dBin tab .eql ty3 t58 t59)).bind fun t60 =>
 (dPick t53 t60 (.bool false)).bind fun t61 =>
 (some t61).bind fun t62 =>
 (gd t62 true (some t0)).bind fun t63 =>
 (gd t62 true (some (nth 0 r_1.2.1))).bind fun t64 =>
 (gd t62 true (dIndexAddr tab ty58 t63 t64)).bind fun t65 =>
 (gd t62 true (dFieldAddr tab ty106 1 t65)).bind fun t66 =>
 (gd t62 true (dLoad tab p48.2 ty9 t66)).bind fun t67 =>
 (gd t62 true (some t2)).bind fun t68 =>
 (gd t62 true (dBin tab .eql ty9 t67 t68)).bind fun t69 =>
 (dPick t62 t69 (.bool false)).bind fun t70 =>
 dIf t70
   ((some t10).bind fun t71 =>
 (some (nth 0 r_1.2.1)).bind fun t72 =>
 (dIndexAddr tab ty58 t71 t72).bind fun t73 =>
 (dFieldAddr tab ty106 2 t73).bind fun t74 =>
 (dLoad tab p48.2 ty3 t74).bind fun t75 =>
 (some t3).bind fun t76 =>
 (dBin tab .add ty3 t75 t76).bind fun t77 =>
 (dIndexAddr tab ty58 t71 t72).bind fun t78 =>
 (dFieldAddr tab ty106 2 t78).bind fun t79 =>
 ((dStore tab p48.2 ty3 t79 t77).bind fun h' => some ((.und : D), h')).bind fun p909 =>
 (some t10).bind fun t80 =>
 (some t80).bind fun t8_2 =>
 ((some t8_2).bind fun d => (some ([] : List D)).bind fun ds => some (d :: ds)).bind fun ds => scope h p909.2 (mkRes ds))
   ((some t10).bind fun t81 =>
 (some (nth 0 r_1.2.1)).bind fun t82 =>
 (some (nth 0 r_1.2.1)).bind fun t83 =>
 (dCut tab p48.2 ty58 false true [t81, t82, t83]).bind fun p84 =>
 (some t1).bind fun t85 =>
 (some t2).bind fun t86 =>
 (some t3).bind fun t87 =>
 (dBuild tab ty106 [0, 1, 2] [t85, t86, t87]).bind fun t88 =>
 (pLitF tab ty58 1 [0] [t88]).bind fun t89 =>
 (dAppend tab p84.2 ty58 ty58 p84.1 t89).bind fun p90 =>
 (some p90.1).bind fun t10_1 =>
 (some t10_1).bind fun t91 =>
 (some t0).bind fun t92 =>
 (some (nth 0 r_1.2.1)).bind fun t93 =>
 (dSliceAt tab ty58 true false false [t92, t93]).bind fun t94 =>
 (dAppend tab p90.2 ty58 ty58 t91 t94).bind fun p95 =>
 (some p95.1).bind fun t8_3 =>
 ((some t8_3).bind fun d => (some ([] : List D)).bind fun ds => some (d :: ds)).bind fun ds => scope h p95.2 (mkRes ds))) fun x => exEnd x (((some t8).bind fun d => (some ([] : List D)).bind fun ds => some (d :: ds)).bind fun ds => scope h r_1.2.2 (mkRes ds)))
theorem e60 (t0 : D) (t1 : D) (t2 : D) (t3 : D) (h : Hp) : R fn60 [t0, t1, t2, t3] h = F60 t0 t1 t2 t3 h :=
  (run_fn (X := X) (F := Fs) (fi := i32) (by kernel_rfl) _ _).trans (by kernel_rfl)
noncomputable def F1003_L0 (t1 : D) (p2 : D × Hp) (p4 : D × Hp) (t6 : D) (ds : List D) (h_1 : Hp) : Option Out :=
 (some (nth 1 ds)).bind fun t11 =>
 (some t6).bind fun t12 =>
 (dLenT tab ty28 t12).bind fun t13 =>
 (dBin tab .lss ty3 t11 t13).bind fun t14 =>
 dIf t14
   ((some t6).bind fun t17 =>
 (some (nth 1 ds)).bind fun t18 =>
 (dIndexAddr tab ty28 t17 t18).bind fun t19 =>
 (dFieldAddr tab ty78 0 t19).bind fun t20 =>
 (dLoad tab h_1 ty3 t20).bind fun t21 =>
 (some t1).bind fun t22 =>
 (dBin tab .eql ty3 t21 t22).bind fun t23 =>
 dIf t23
   ((some t1).bind fun t24 =>
 (some t6).bind fun t25 =>
 (some (nth 1 ds)).bind fun t26 =>
 (dSliceAt tab ty28 true false false [t25, t26]).bind fun t27 =>
 (dAppend tab h_1 ty28 ty28 (.nils) t27).bind fun p28 =>
 (dFieldAddr tab ty74 1 p2.1).bind fun t29 =>
 (dFieldAddr tab ty31 2 t29).bind fun t30 =>
 ((dStore tab p28.2 ty3 t30 t24).bind fun h' => some ((.und : D), h')).bind fun p907 =>
 (dFieldAddr tab ty74 1 p2.1).bind fun t31 =>
 (dFieldAddr tab ty31 4 t31).bind fun t32 =>
 ((dStore tab p907.2 ty28 t32 p28.1).bind fun h' => some ((.und : D), h')).bind fun p910 =>
 (dLoad tab p910.2 ty74 p2.1).bind fun t33 =>
 ((dStore tab p910.2 ty74 p4.1 t33).bind fun h' => some ((.und : D), h')).bind fun p901 =>
 (some (.bool true : D)).bind fun t5_1 =>
 some (.ret, [t5_1, (nth 1 ds), t14, t23], p901.2))
   ((some (nth 1 ds)).bind fun t15 =>
 (dBin tab .add ty3 t15 (.int .i64 1)).bind fun t16 =>
 (some t16).bind fun t7_1 =>
 some (.nrm, [(nth 0 ds), t7_1, t14, t23], h_1)))
   (some ((.ext 0), [(nth 0 ds), (nth 1 ds), t14, (nth 3 ds)], h_1))
noncomputable def F1003 (t0 : D) (t1 : D) (h : Hp) : Option (D × Hp) :=
  (wBox ty74 11 h t0).bind fun p2 =>
 (some ((.ptr p2.2.length 0 0 : D), dNew p2.2 ty74 11 [[.str [], .int .i64 0, .int .i64 0, .int .i64 0, .int .i64 0, .nils, .int .i64 0, .int .i64 0, .str [], .str [], .nils]])).bind fun p4 =>
 (some (.bool false : D)).bind fun t5 =>
 (dFieldAddr tab ty74 1 p2.1).bind fun t8 =>
 (dFieldAddr tab ty31 4 t8).bind fun t9 =>
 (dLoad tab p4.2 ty28 t9).bind fun t10 =>
 (some t10).bind fun t6 =>
 (some (.int .i64 1 : D)).bind fun t7 =>
 ((loopW (F1003_L0 t1 p2 p4 t6) [t5, t7, .any, .any] p4.2).bind fun r =>
 some ((unblk 0 r.1), [(nth 0 r.2.1), (nth 1 r.2.1), (nth 2 r.2.1), (nth 3 r.2.1)], r.2.2)).bind fun r_1 =>
 toEnd r_1.1 ((dBuild tab ty74 [] []).bind fun t34 =>
 ((dStore tab r_1.2.2 ty74 p4.1 t34).bind fun h' => some ((.und : D), h')).bind fun p901_1 =>
 (some (.bool false : D)).bind fun t5_2 =>
 ((some (p4.1 : D)).bind fun p => (dLoad tab p901_1.2 ty74 p).bind fun d => ((some t5_2).bind fun d => (some ([] : List D)).bind fun ds => some (d :: ds)).bind fun ds => some (d :: ds)).bind fun ds => scope h p901_1.2 (mkRes ds)) fun x => exEnd x (((some (p4.1 : D)).bind fun p => (dLoad tab r_1.2.2 ty74 p).bind fun d => ((some (nth 0 r_1.2.1)).bind fun d => (some ([] : List D)).bind fun ds => some (d :: ds)).bind fun ds => some (d :: ds)).bind fun ds => scope h r_1.2.2 (mkRes ds))
theorem e1003 (t0 : D) (t1 : D) (h : Hp) : R fn1003 [t0, t1] h = F1003 t0 t1 h :=
  (run_fn (X := X) (F := Fs) (fi := i33) (by kernel_rfl) _ _).trans (by kernel_rfl)
noncomputable def F1210 (t0 : D) (t1 : D) (h : Hp) : Option (D × Hp) :=
  (pBoxF t1).bind fun t3 =>
 (some (.nils : D)).bind fun t4 =>
 (some t0).bind fun t9 =>
 (dFieldAddr tab ty1006 0 t3).bind fun t10 =>
 (dLoad tab h ty3 t10).bind fun t11 =>
 (dFieldAddr tab ty1006 1 t3).bind fun t12 =>
 (dLoad tab h ty3 t12).bind fun t13 =>
 (R fn1084 [t9, t11, t13] h).bind fun p14 =>
 (some p14.1).bind fun t8 =>
 (dExtract 0 t8).bind fun t15 =>
 (dExtract 1 t8).bind fun t16 =>
 (some t15).bind fun t5 =>
 (some t16).bind fun t6 =>
 (some t0).bind fun t17 =>
 (some t5).bind fun t18 =>
 (dSliceAt tab ty1007 false true false [t17, t18]).bind fun t19 =>
 (dAppend tab p14.2 ty1007 ty1007 (.nils) t19).bind fun p20 =>
 (some p20.1).bind fun t7 =>
 (some t7).bind fun t21 =>
 (dLoad tab p20.2 ty1006 t3).bind fun t22 =>
 (pLitF tab ty1007 1 [0] [t22]).bind fun t23 =>
 (dAppend tab p20.2 ty1007 ty1007 t21 t23).bind fun p24 =>
 (some p24.1).bind fun t7_1 =>
 (some t6).bind fun t25 =>
 (dIf t25
   ((some t5).bind fun t26 =>
 (dBin tab .add ty3 t26 (.int .i64 1)).bind fun t27 =>
 (some t27).bind fun t5_1 =>
 some (.nrm, [t5_1], p24.2))
   (some (.nrm, [t5], p24.2))).bind fun r =>
 toEnd r.1 ((some t7_1).bind fun t28 =>
 (some t0).bind fun t29 =>
 (some (nth 0 r.2.1)).bind fun t30 =>
 (dSliceAt tab ty1007 true false false [t29, t30]).bind fun t31 =>
 (dAppend tab r.2.2 ty1007 ty1007 t28 t31).bind fun p32 =>
 (some p32.1).bind fun t4_1 =>
 ((some t4_1).bind fun d => (some ([] : List D)).bind fun ds => some (d :: ds)).bind fun ds => scope h p32.2 (mkRes ds)) fun x => exEnd x (((some t4).bind fun d => (some ([] : List D)).bind fun ds => some (d :: ds)).bind fun ds => scope h r.2.2 (mkRes ds))
theorem e1210 (t0 : D) (t1 : D) (h : Hp) : R fn1210 [t0, t1] h = F1210 t0 t1 h :=
  (run_fn (X := X) (F := Fs) (fi := i34) (by kernel_rfl) _ _).trans (by kernel_rfl)
noncomputable def F1092_L0 (t0 : D) (t1 : D) (ds : List D) (h_1 : Hp) : Option Out :=
 (some (nth 1 ds)).bind fun t11 =>
 (some t0).bind fun t12 =>
 (dLenT tab ty1007 t12).bind fun t13 =>
 (dBin tab .lss ty3 t11 t13).bind fun t14 =>
 dIf t14
   ((some t0).bind fun t17 =>
 (some (nth 1 ds)).bind fun t18 =>
 (dIndexAddr tab ty1007 t17 t18).bind fun t19 =>
 (dLoad tab h_1 ty1006 t19).bind fun t20 =>
 (some t1).bind fun t21 =>
 (some (nth 1 ds)).bind fun t22 =>
 (dIndexAddr tab ty1007 t21 t22).bind fun t23 =>
 (dLoad tab h_1 ty1006 t23).bind fun t24 =>
 (dBin tab .neq ty1006 t20 t24).bind fun t25 =>
 dIf t25
   ((some (.bool false : D)).bind fun t4_2 =>
 some (.ret, [t4_2, (nth 1 ds), t14, t25], h_1))
   ((some (nth 1 ds)).bind fun t15 =>
 (dBin tab .add ty3 t15 (.int .i64 1)).bind fun t16 =>
 (some t16).bind fun t5_1 =>
 some (.nrm, [(nth 0 ds), t5_1, t14, t25], h_1)))
   (some ((.ext 0), [(nth 0 ds), (nth 1 ds), t14, (nth 3 ds)], h_1))
noncomputable def F1092 (t0 : D) (t1 : D) (h : Hp) : Option (D × Hp) :=
  (some (.bool false : D)).bind fun t4 =>
 (some t0).bind fun t6 =>
 (dLenT tab ty1007 t6).bind fun t7 =>
 (some t1).bind fun t8 =>
 (dLenT tab ty1007 t8).bind fun t9 =>
 (dBin tab .neq ty3 t7 t9).bind fun t10 =>
 dIf t10
   ((some (.bool false : D)).bind fun t4_1 =>
 ((some t4_1).bind fun d => (some ([] : List D)).bind fun ds => some (d :: ds)).bind fun ds => some (mkRes ds, h))
   ((some (.int .i64 0 : D)).bind fun t5 =>
 ((loopW (F1092_L0 t0 t1) [t4, t5, .any, .any] h).bind fun r =>
 some ((unblk 0 r.1), [(nth 0 r.2.1), (nth 1 r.2.1), (nth 2 r.2.1), (nth 3 r.2.1)], r.2.2)).bind fun r_1 =>
 toEnd r_1.1 ((some (.bool true : D)).bind fun t4_3 =>
 ((some t4_3).bind fun d => (some ([] : List D)).bind fun ds => some (d :: ds)).bind fun ds => some (mkRes ds, r_1.2.2)) fun x => exEnd x (((some (nth 0 r_1.2.1)).bind fun d => (some ([] : List D)).bind fun ds => some (d :: ds)).bind fun ds => some (mkRes ds, r_1.2.2)))
theorem e1092 (t0 : D) (t1 : D) (h : Hp) : R fn1092 [t0, t1] h = F1092 t0 t1 h :=
  (run_fn (X := X) (F := Fs) (fi := i35) (by kernel_rfl) _ _).trans (by kernel_rfl)
noncomputable def F30_L0 (t0 : D) (t1 : D) (ds : List D) (h_1 : Hp) : Option Out :=
 (some (nth 1 ds)).bind fun t11 =>
 (some t0).bind fun t12 =>
 (dLenT tab ty58 t12).bind fun t13 =>
 (dBin tab .lss ty3 t11 t13).bind fun t14 =>
 dIf t14
   ((some t0).bind fun t17 =>
 (some (nth 1 ds)).bind fun t18 =>
 (dIndexAddr tab ty58 t17 t18).bind fun t19 =>
 (dLoad tab h_1 ty106 t19).bind fun t20 =>
 (some t1).bind fun t21 =>
 (some (nth 1 ds)).bind fun t22 =>
 (dIndexAddr tab ty58 t21 t22).bind fun t23 =>
 (dLoad tab h_1 ty106 t23).bind fun t24 =>
 (dBin tab .neq ty106 t20 t24).bind fun t25 =>
 dIf t25
   ((some (.bool false : D)).bind fun t4_2 =>
 some (.ret, [t4_2, (nth 1 ds), t14, t25], h_1))
   ((some (nth 1 ds)).bind fun t15 =>
 (dBin tab .add ty3 t15 (.int .i64 1)).bind fun t16 =>
 (some t16).bind fun t5_1 =>
 some (.nrm, [(nth 0 ds), t5_1, t14, t25], h_1)))
   (some ((.ext 0), [(nth 0 ds), (nth 1 ds), t14, (nth 3 ds)], h_1))
noncomputable def F30 (t0 : D) (t1 : D) (h : Hp) : Option (D × Hp) :=
  (some (.bool false : D)).bind fun t4 =>
 (some t0).bind fun t6 =>
 (dLenT tab ty58 t6).bind fun t7 =>
 (some t1).bind fun t8 =>
 (dLenT tab ty58 t8).bind fun t9 =>
 (dBin tab .neq ty3 t7 t9).bind fun t10 =>
 dIf t10
   ((some (.bool false : D)).bind fun t4_1 =>
 ((some t4_1).bind fun d => (some ([] : List D)).bind fun ds => some (d :: ds)).bind fun ds => some (mkRes ds, h))
   ((some (.int .i64 0 : D)).bind fun t5 =>
 ((loopW (F30_L0 t0 t1) [t4, t5, .any, .any] h).bind fun r =>
 some ((unblk 0 r.1), [(nth 0 r.2.1), (nth 1 r.2.1), (nth 2 r.2.1), (nth 3 r.2.1)], r.2.2)).bind fun r_1 =>
 toEnd r_1.1 ((some (.bool true : D)).bind fun t4_3 =>
 ((some t4_3).bind fun d => (some ([] : List D)).bind fun ds => some (d :: ds)).bind fun ds => some (mkRes ds, r_1.2.2)) fun x => exEnd x (((some (nth 0 r_1.2.1)).bind fun d => (some ([] : List D)).bind fun ds => some (d :: ds)).bind fun ds => some (mkRes ds, r_1.2.2)))
theorem e30 (t0 : D) (t1 : D) (h : Hp) : R fn30 [t0, t1] h = F30 t0 t1 h :=
  (run_fn (X := X) (F := Fs) (fi := i36) (by kernel_rfl) _ _).trans (by kernel_rfl)
noncomputable def F61 (t0 : D) (t1 : D) (h : Hp) : Option (D × Hp) :=
  (pBoxF t0).bind fun t2 =>
 (pBoxF t1).bind fun t3 =>
 (some (.bool false : D)).bind fun t4 =>
 (dLoad tab h ty31 t2).bind fun t5 =>
 (dBuild tab ty74 [1] [t5]).bind fun t6 =>
 (dLoad tab h ty31 t3).bind fun t7 =>
 (dBuild tab ty74 [1] [t7]).bind fun t8 =>
 (R fn82 [t6, t8] h).bind fun p9 =>
 (some p9.1).bind fun t4_1 =>
 ((some t4_1).bind fun d => (some ([] : List D)).bind fun ds => some (d :: ds)).bind fun ds => some (mkRes ds, p9.2)
theorem e61 (t0 : D) (t1 : D) (h : Hp) : R fn61 [t0, t1] h = F61 t0 t1 h :=
  (run_fn (X := X) (F := Fs) (fi := i37) (by kernel_rfl) _ _).trans (by kernel_rfl)
noncomputable def F1013 (t0 : D) (t1 : D) (t2 : D) (h : Hp) : Option (D × Hp) :=
  (some (.int .i64 0 : D)).bind fun t6 =>
 (some (.bool false : D)).bind fun t7 =>
 (some t0).bind fun t8 =>
 (some t1).bind fun t9 =>
 (some t2).bind fun t10 =>
 (dBuild tab ty1006 [0, 1] [t9, t10]).bind fun t11 =>
 (R fn1016 [t8, t11, .fn (.func fn1017) [] []] h).bind fun p12 =>
 (dExtract 0 p12.1).bind fun t13 =>
 (dExtract 1 p12.1).bind fun t14 =>
 (some t13).bind fun t6_1 =>
 (some t14).bind fun t7_1 =>
 ((some t6_1).bind fun d => ((some t7_1).bind fun d => (some ([] : List D)).bind fun ds => some (d :: ds)).bind fun ds => some (d :: ds)).bind fun ds => some (mkRes ds, p12.2)
theorem e1013 (t0 : D) (t1 : D) (t2 : D) (h : Hp) : R fn1013 [t0, t1, t2] h = F1013 t0 t1 t2 h :=
  (run_fn (X := X) (F := Fs) (fi := i38) (by kernel_rfl) _ _).trans (by kernel_rfl)
noncomputable def F1043 (t0 : D) (h : Hp) : Option (D × Hp) :=
  (pBoxF t0).bind fun t1 =>
 (some (.int .i64 0 : D)).bind fun t2 =>
 (dLoad tab h ty31 t1).bind fun t7 =>
 (R fn1047 [t7] h).bind fun p8 =>
 (dUn .not p8.1).bind fun t9 =>
 (some t9).bind fun t10 =>
 (gd t10 false (dFieldAddr tab ty31 5 t1)).bind fun t11 =>
 (gd t10 false (dLoad tab p8.2 ty3 t11)).bind fun t12 =>
 (gdW t10 false p8.2 (R fn1051 [t12, .int .i64 0, .int .i64 253402300799999] p8.2)).bind fun p13 =>
 (gd t10 false (dUn .not p13.1)).bind fun t14 =>
 (dPick t10 (.bool true) t14).bind fun t15 =>
 (some t15).bind fun t6 =>
 dIf t6
   ((some (.int .i64 2 : D)).bind fun t2_1 =>
 ((some t2_1).bind fun d => (some ([] : List D)).bind fun ds => some (d :: ds)).bind fun ds => scope h p13.2 (mkRes ds))
   ((dFieldAddr tab ty31 6 t1).bind fun t17 =>
 (dLoad tab p13.2 ty3 t17).bind fun t18 =>
 (dBin tab .lss ty3 t18 (.int .i64 1)).bind fun t19 =>
 (some t19).bind fun t20 =>
 (gd t20 false (dFieldAddr tab ty31 6 t1)).bind fun t21 =>
 (gd t20 false (dLoad tab p13.2 ty3 t21)).bind fun t22 =>
 (gd t20 false (dBin tab .rem ty3 (.int .i64 5040) t22)).bind fun t23 =>
 (gd t20 false (dBin tab .neq ty3 t23 (.int .i64 0))).bind fun t24 =>
 (dPick t20 (.bool true) t24).bind fun t25 =>
 (some t25).bind fun t16 =>
 dIf t16
   ((some (.int .i64 21 : D)).bind fun t2_2 =>
 ((some t2_2).bind fun d => (some ([] : List D)).bind fun ds => some (d :: ds)).bind fun ds => scope h p13.2 (mkRes ds))
   ((dLoad tab p13.2 ty31 t1).bind fun t26 =>
 (R fn1048 [t26, .int .i64 2000] p13.2).bind fun p27 =>
 (some p27.1).bind fun t3 =>
 (some t3).bind fun t28 =>
 (dBin tab .neq ty49 t28 (.int .i64 0)).bind fun t29 =>
 dIf t29
   ((some t3).bind fun t30 =>
 (some t30).bind fun t2_3 =>
 ((some t2_3).bind fun d => (some ([] : List D)).bind fun ds => some (d :: ds)).bind fun ds => scope h p27.2 (mkRes ds))
   ((dFieldAddr tab ty31 7 t1).bind fun t31 =>
 (dLoad tab p27.2 ty9 t31).bind fun t32 =>
 (dLenT tab ty9 t32).bind fun t33 =>
 (dBin tab .gtr ty3 t33 (.int .i64 32)).bind fun t34 =>
 (some t34).bind fun t35 =>
 (gd t35 false (dFieldAddr tab ty31 8 t1)).bind fun t36 =>
 (gd t35 false (dLoad tab p27.2 ty9 t36)).bind fun t37 =>
 (gd t35 false (dLenT tab ty9 t37)).bind fun t38 =>
 (gd t35 false (dBin tab .gtr ty3 t38 (.int .i64 32))).bind fun t39 =>
 (dPick t35 (.bool true) t39).bind fun t40 =>
 dIf t40
   ((some (.int .i64 3 : D)).bind fun t2_4 =>
 ((some t2_4).bind fun d => (some ([] : List D)).bind fun ds => some (d :: ds)).bind fun ds => scope h p27.2 (mkRes ds))
   ((dFieldAddr tab ty31 9 t1).bind fun t42 =>
 (dLoad tab p27.2 ty29 t42).bind fun t43 =>
 (R fn1052 [t43] p27.2).bind fun p44 =>
 (some p44.1).bind fun t41 =>
 (dExtract 0 t41).bind fun t45 =>
 (dExtract 1 t41).bind fun t46 =>
 (some t45).bind fun t4 =>
 (some t46).bind fun t5 =>
 (some t5).bind fun t47 =>
 (dBin tab .neq ty49 t47 (.int .i64 0)).bind fun t48 =>
 dIf t48
   ((some t5).bind fun t49 =>
 (some t49).bind fun t2_5 =>
 ((some t2_5).bind fun d => (some ([] : List D)).bind fun ds => some (d :: ds)).bind fun ds => scope h p44.2 (mkRes ds))
   ((some t4).bind fun t50 =>
 (dFieldAddr tab ty31 9 t1).bind fun t51 =>
 (dLoad tab p44.2 ty29 t51).bind fun t52 =>
 (R fn1053 [t50, t52] p44.2).bind fun p53 =>
 (dUn .not p53.1).bind fun t54 =>
 dIf t54
   ((some (.int .i64 19 : D)).bind fun t2_6 =>
 ((some t2_6).bind fun d => (some ([] : List D)).bind fun ds => some (d :: ds)).bind fun ds => scope h p53.2 (mkRes ds))
   ((some t4).bind fun t55 =>
 (R fn1054 [t55, .fn (.func fn1055) [] []] p53.2).bind fun p56 =>
 dIf p56.1
   ((some (.int .i64 3 : D)).bind fun t2_7 =>
 ((some t2_7).bind fun d => (some ([] : List D)).bind fun ds => some (d :: ds)).bind fun ds => scope h p56.2 (mkRes ds))
   ((some (.int .i64 0 : D)).bind fun t2_8 =>
 ((some t2_8).bind fun d => (some ([] : List D)).bind fun ds => some (d :: ds)).bind fun ds => scope h p56.2 (mkRes ds))))))))
theorem e1043 (t0 : D) (h : Hp) : R fn1043 [t0] h = F1043 t0 h :=
  (run_fn (X := X) (F := Fs) (fi := i39) (by kernel_rfl) _ _).trans (by kernel_rfl)
noncomputable def F1047 (t0 : D) (h : Hp) : Option (D × Hp) :=
  (pBoxF t0).bind fun t1 =>
 (some (.bool false : D)).bind fun t2 =>
 (dFieldAddr tab ty31 0 t1).bind fun t3 =>
 (dLoad tab h ty3 t3).bind fun t4 =>
 (R fn1051 [t4, .int .i64 0, .int .i64 999] h).bind fun p5 =>
 (some p5.1).bind fun t6 =>
 (gd t6 true (dFieldAddr tab ty31 1 t1)).bind fun t7 =>
 (gd t6 true (dLoad tab p5.2 ty3 t7)).bind fun t8 =>
 (gdW t6 true p5.2 (R fn1051 [t8, .int .i64 0, .int .i64 2147483646] p5.2)).bind fun p9 =>
 (dPick t6 p9.1 (.bool false)).bind fun t10 =>
 (some t10).bind fun t11 =>
 (gd t11 true (dFieldAddr tab ty31 2 t1)).bind fun t12 =>
 (gd t11 true (dLoad tab p9.2 ty3 t12)).bind fun t13 =>
 (gd t11 true (dBin tab .geq ty3 t13 (.int .i64 0))).bind fun t14 =>
 (dPick t11 t14 (.bool false)).bind fun t15 =>
 (some t15).bind fun t16 =>
 (gd t16 true (dFieldAddr tab ty31 3 t1)).bind fun t17 =>
 (gd t16 true (dLoad tab p9.2 ty3 t17)).bind fun t18 =>
 (gd t16 true (dFieldAddr tab ty31 2 t1)).bind fun t19 =>
 (gd t16 true (dLoad tab p9.2 ty3 t19)).bind fun t20 =>
 (gd t16 true (dBin tab .gtr ty3 t18 t20)).bind fun t21 =>
 (dPick t16 t21 (.bool false)).bind fun t22 =>
 (some t22).bind fun t23 =>
 (gd t23 true (dFieldAddr tab ty31 3 t1)).bind fun t24 =>
 (gd t23 true (dLoad tab p9.2 ty3 t24)).bind fun t25 =>
 (gd t23 true (dBin tab .leq ty3 t25 (.int .i64 60000))).bind fun t26 =>
 (dPick t23 t26 (.bool false)).bind fun t27 =>
 (some t27).bind fun t2_1 =>
 ((some t2_1).bind fun d => (some ([] : List D)).bind fun ds => some (d :: ds)).bind fun ds => some (mkRes ds, p9.2)
theorem e1047 (t0 : D) (h : Hp) : R fn1047 [t0] h = F1047 t0 h :=
  (run_fn (X := X) (F := Fs) (fi := i40) (by kernel_rfl) _ _).trans (by kernel_rfl)
noncomputable def F1048_L0 (t1 : D) (t2 : D) (t22 : D) (t23 : D) (ds : List D) (h_1 : Hp) : Option Out :=
 (dBin tab .lss ty3 (nth 5 ds) t23).bind fun t25 =>
 dIf t25
   ((some (nth 5 ds)).bind fun t26 =>
 (dIndexAddr tab ty28 t22 (nth 5 ds)).bind fun t27 =>
 (dLoad tab h_1 ty78 t27).bind fun t28 =>
 (some ((.ptr h_1.length 0 0 : D), dNew h_1 ty78 3 [[.int .i64 0, .int .i64 0, .str []]])).bind fun p7 =>
 (some t26).bind fun t6 =>
 ((dStore tab p7.2 ty78 p7.1 t28).bind fun h' => some ((.und : D), h')).bind fun p905 =>
 (some t6).bind fun t29 =>
 (dFieldAddr tab ty31 4 t2).bind fun t30 =>
 (dLoad tab p905.2 ty28 t30).bind fun t31 =>
 (dLenT tab ty28 t31).bind fun t32 =>
 (dBin tab .sub ty3 t32 (.int .i64 1)).bind fun t33 =>
 (dBin tab .eql ty3 t29 t33).bind fun t34 =>
 (some t34).bind fun t8 =>
 (dFieldAddr tab ty78 0 p7.1).bind fun t35 =>
 (dLoad tab p905.2 ty3 t35).bind fun t36 =>
 (some (nth 1 ds)).bind fun t37 =>
 (dBin tab .neq ty3 t36 t37).bind fun t38 =>
 (some t38).bind fun t39 =>
 (gd t39 false (dFieldAddr tab ty78 1 p7.1)).bind fun t40 =>
 (gd t39 false (dLoad tab p905.2 ty3 t40)).bind fun t41 =>
 (gd t39 false (dBin tab .lss ty3 t41 (.int .i64 1))).bind fun t42 =>
 (dPick t39 (.bool true) t42).bind fun t43 =>
 (some t43).bind fun t44 =>
 (gd t44 false (dFieldAddr tab ty78 1 p7.1)).bind fun t45 =>
 (gd t44 false (dLoad tab p905.2 ty3 t45)).bind fun t46 =>
 (gd t44 false (dFieldAddr tab ty31 3 t2)).bind fun t47 =>
 (gd t44 false (dLoad tab p905.2 ty3 t47)).bind fun t48 =>
 (gd t44 false (some (nth 1 ds))).bind fun t49 =>
 (gd t44 false (dBin tab .sub ty3 t48 t49)).bind fun t50 =>
 (gd t44 false (dBin tab .gtr ty3 t46 t50)).bind fun t51 =>
 (dPick t44 (.bool true) t51).bind fun t52 =>
 (some t52).bind fun t53 =>
 (gd t53 false (some t8)).bind fun t54 =>
 (gd t53 false (some t54)).bind fun t55 =>
 (gd t55 true (dFieldAddr tab ty78 1 p7.1)).bind fun t56 =>
 (gd t55 true (dLoad tab p905.2 ty3 t56)).bind fun t57 =>
 (gd t55 true (dFieldAddr tab ty31 3 t2)).bind fun t58 =>
 (gd t55 true (dLoad tab p905.2 ty3 t58)).bind fun t59 =>
 (gd t55 true (some (nth 1 ds))).bind fun t60 =>
 (gd t55 true (dBin tab .sub ty3 t59 t60)).bind fun t61 =>
 (gd t55 true (dBin tab .lss ty3 t57 t61)).bind fun t62 =>
 (gd t53 false (dPick t55 t62 (.bool false))).bind fun t63 =>
 (dPick t53 (.bool true) t63).bind fun t64 =>
 dIf t64
   ((some (.int .i64 19 : D)).bind fun t4_3 =>
 some (.ret, [t4_3, (nth 1 ds), t6, p7.1, t8, (nth 5 ds), t25, t64, (nth 8 ds)], p905.2))
   ((dFieldAddr tab ty78 2 p7.1).bind fun t65 =>
 (dLoad tab p905.2 ty9 t65).bind fun t66 =>
 (dLenT tab ty9 t66).bind fun t67 =>
 (some t1).bind fun t68 =>
 (dBin tab .gtr ty3 t67 t68).bind fun t69 =>
 dIf t69
   ((some (.int .i64 3 : D)).bind fun t4_4 =>
 some (.ret, [t4_4, (nth 1 ds), t6, p7.1, t8, (nth 5 ds), t25, t64, t69], p905.2))
   ((some (nth 1 ds)).bind fun t70 =>
 (dFieldAddr tab ty78 1 p7.1).bind fun t71 =>
 (dLoad tab p905.2 ty3 t71).bind fun t72 =>
 (dBin tab .add ty3 t70 t72).bind fun t73 =>
 (some t73).bind fun t5_1 =>
 (dBin tab .add ty3 (nth 5 ds) (.int .i64 1)).bind fun t74 =>
 (some t74).bind fun t24_1 =>
 some (.nrm, [(nth 0 ds), t5_1, t6, p7.1, t8, t24_1, t25, t64, t69], p905.2))))
   (some ((.ext 1), [(nth 0 ds), (nth 1 ds), (nth 2 ds), (nth 3 ds), (nth 4 ds), (nth 5 ds), t25, (nth 7 ds), (nth 8 ds)], h_1))
noncomputable def F1048 (t0 : D) (t1 : D) (h : Hp) : Option (D × Hp) :=
  (pBoxF t0).bind fun t2 =>
 (some (.int .i64 0 : D)).bind fun t4 =>
 (dFieldAddr tab ty31 4 t2).bind fun t10 =>
 (dLoad tab h ty28 t10).bind fun t11 =>
 (dLenT tab ty28 t11).bind fun t12 =>
 (dBin tab .eql ty3 t12 (.int .i64 0)).bind fun t13 =>
 (some t13).bind fun t9 =>
 dIf t9
   ((some (.int .i64 9 : D)).bind fun t4_1 =>
 ((some t4_1).bind fun d => (some ([] : List D)).bind fun ds => some (d :: ds)).bind fun ds => scope h h (mkRes ds))
   ((dFieldAddr tab ty31 4 t2).bind fun t15 =>
 (dLoad tab h ty28 t15).bind fun t16 =>
 (dLenT tab ty28 t16).bind fun t17 =>
 (dBin tab .gtr ty3 t17 (.int .i64 40)).bind fun t18 =>
 (some t18).bind fun t14 =>
 dIf t14
   ((some (.int .i64 4 : D)).bind fun t4_2 =>
 ((some t4_2).bind fun d => (some ([] : List D)).bind fun ds => some (d :: ds)).bind fun ds => scope h h (mkRes ds))
   ((dFieldAddr tab ty31 2 t2).bind fun t19 =>
 (dLoad tab h ty3 t19).bind fun t20 =>
 (some t20).bind fun t5 =>
 (dFieldAddr tab ty31 4 t2).bind fun t21 =>
 (dLoad tab h ty28 t21).bind fun t22 =>
 (dLenT tab ty28 t22).bind fun t23 =>
 (some (.int .i64 0 : D)).bind fun t24 =>
 ((loopW (F1048_L0 t1 t2 t22 t23) [t4, t5, .any, .any, .any, t24, .any, .any, .any] h).bind fun r =>
 some ((unblk 1 r.1), [(nth 0 r.2.1), (nth 1 r.2.1), (nth 2 r.2.1), (nth 3 r.2.1), (nth 4 r.2.1), (nth 5 r.2.1), (nth 6 r.2.1), (nth 7 r.2.1), (nth 8 r.2.1)], r.2.2)).bind fun r_1 =>
 toEnd r_1.1 ((some (.int .i64 0 : D)).bind fun t4_5 =>
 ((some t4_5).bind fun d => (some ([] : List D)).bind fun ds => some (d :: ds)).bind fun ds => scope h r_1.2.2 (mkRes ds)) fun x => exEnd x (((some (nth 0 r_1.2.1)).bind fun d => (some ([] : List D)).bind fun ds => some (d :: ds)).bind fun ds => scope h r_1.2.2 (mkRes ds))))
theorem e1048 (t0 : D) (t1 : D) (h : Hp) : R fn1048 [t0, t1] h = F1048 t0 t1 h :=
  (run_fn (X := X) (F := Fs) (fi := i41) (by kernel_rfl) _ _).trans (by kernel_rfl)
noncomputable def F1049 (t0 : D) (t1 : D) (h : Hp) : Option (D × Hp) :=
  (some (.bool false : D)).bind fun t4 =>
 (some t0).bind fun t5 =>
 (some t1).bind fun t6 =>
 (R fn1006 [t5, t6] h).bind fun p7 =>
 (dBin tab .geq ty3 p7.1 (.int .i64 0)).bind fun t8 =>
 (some t8).bind fun t4_1 =>
 ((some t4_1).bind fun d => (some ([] : List D)).bind fun ds => some (d :: ds)).bind fun ds => some (mkRes ds, p7.2)
theorem e1049 (t0 : D) (t1 : D) (h : Hp) : R fn1049 [t0, t1] h = F1049 t0 t1 h :=
  (run_fn (X := X) (F := Fs) (fi := i42) (by kernel_rfl) _ _).trans (by kernel_rfl)
noncomputable def F1050 (t0 : D) (h : Hp) : Option (D × Hp) :=
  (pBoxF t0).bind fun t1 =>
 (some (.bool false : D)).bind fun t2 =>
 (dFieldAddr tab ty78 2 t1).bind fun t3 =>
 (dLoad tab h ty9 t3).bind fun t4 =>
 (dBin tab .neq ty9 t4 (.str [])).bind fun t5 =>
 (some t5).bind fun t2_1 =>
 ((some t2_1).bind fun d => (some ([] : List D)).bind fun ds => some (d :: ds)).bind fun ds => some (mkRes ds, h)
theorem e1050 (t0 : D) (h : Hp) : R fn1050 [t0] h = F1050 t0 h :=
  (run_fn (X := X) (F := Fs) (fi := i43) (by kernel_rfl) _ _).trans (by kernel_rfl)
noncomputable def F1010_L0 (t5 : D) (ds : List D) (h_1 : Hp) : Option Out :=
 (some (nth 1 ds)).bind fun t55 =>
 (some t5).bind fun t56 =>
 (dLenT tab ty29 t56).bind fun t57 =>
 (dBin tab .lss ty3 t55 t57).bind fun t58 =>
 dIf t58
   ((some t5).bind fun t61 =>
 (some (nth 1 ds)).bind fun t62 =>
 (dIndexAddr tab ty29 t61 t62).bind fun t63 =>
 (dFieldAddr tab ty109 1 t63).bind fun t64 =>
 (dLoad tab h_1 ty9 t64).bind fun t65 =>
 (dLenT tab ty9 t65).bind fun t66 =>
 (dBin tab .gtr ty3 t66 (.int .i64 2000)).bind fun t67 =>
 dIf t67
   ((some (.int .i64 3 : D)).bind fun t2_7 =>
 some (.ret, [t2_7, (nth 1 ds), t58, t67], h_1))
   ((some (nth 1 ds)).bind fun t59 =>
 (dBin tab .add ty3 t59 (.int .i64 1)).bind fun t60 =>
 (some t60).bind fun t7_1 =>
 some (.nrm, [(nth 0 ds), t7_1, t58, t67], h_1)))
   (some ((.ext 0), [(nth 0 ds), (nth 1 ds), t58, (nth 3 ds)], h_1))
noncomputable def F1010 (t0 : D) (h : Hp) : Option (D × Hp) :=
  (pBoxF t0).bind fun t1 =>
 (some (.int .i64 0 : D)).bind fun t2 =>
 (dLoad tab h ty31 t1).bind fun t8 =>
 (R fn1011 [t8] h).bind fun p9 =>
 (some p9.1).bind fun t3 =>
 (some t3).bind fun t10 =>
 (dBin tab .neq ty49 t10 (.int .i64 0)).bind fun t11 =>
 (some t11).bind fun t12 =>
 (gd t12 false (dFieldAddr tab ty31 5 t1)).bind fun t13 =>
 (gd t12 false (dLoad tab p9.2 ty3 t13)).bind fun t14 =>
 (gd t12 false (dBin tab .lss ty3 t14 (.int .i64 0))).bind fun t15 =>
 (dPick t12 (.bool true) t15).bind fun t16 =>
 (some t16).bind fun t17 =>
 (gd t17 false (dFieldAddr tab ty31 5 t1)).bind fun t18 =>
 (gd t17 false (dLoad tab p9.2 ty3 t18)).bind fun t19 =>
 (gd t17 false (dBin tab .gtr ty3 t19 (.int .i64 253402300799999))).bind fun t20 =>
 (dPick t17 (.bool true) t20).bind fun t21 =>
 dIf t21
   ((some (.int .i64 2 : D)).bind fun t2_1 =>
 ((some t2_1).bind fun d => (some ([] : List D)).bind fun ds => some (d :: ds)).bind fun ds => some (mkRes ds, p9.2))
   ((dFieldAddr tab ty31 6 t1).bind fun t22 =>
 (dLoad tab p9.2 ty3 t22).bind fun t23 =>
 (R fn1014 [t23] p9.2).bind fun p24 =>
 (dUn .not p24.1).bind fun t25 =>
 dIf t25
   ((some (.int .i64 21 : D)).bind fun t2_2 =>
 ((some t2_2).bind fun d => (some ([] : List D)).bind fun ds => some (d :: ds)).bind fun ds => some (mkRes ds, p24.2))
   ((dLoad tab p24.2 ty31 t1).bind fun t26 =>
 (R fn1012 [t26, .int .i64 2000] p24.2).bind fun p27 =>
 (some p27.1).bind fun t4 =>
 (some t4).bind fun t28 =>
 (dBin tab .neq ty49 t28 (.int .i64 0)).bind fun t29 =>
 dIf t29
   ((some t4).bind fun t30 =>
 (some t30).bind fun t2_3 =>
 ((some t2_3).bind fun d => (some ([] : List D)).bind fun ds => some (d :: ds)).bind fun ds => some (mkRes ds, p27.2))
   ((dFieldAddr tab ty31 7 t1).bind fun t31 =>
 (dLoad tab p27.2 ty9 t31).bind fun t32 =>
 (dLenT tab ty9 t32).bind fun t33 =>
 (dBin tab .gtr ty3 t33 (.int .i64 32)).bind fun t34 =>
 (some t34).bind fun t35 =>
 (gd t35 false (dFieldAddr tab ty31 8 t1)).bind fun t36 =>
 (gd t35 false (dLoad tab p27.2 ty9 t36)).bind fun t37 =>
 (gd t35 false (dLenT tab ty9 t37)).bind fun t38 =>
 (gd t35 false (dBin tab .gtr ty3 t38 (.int .i64 32))).bind fun t39 =>
 (dPick t35 (.bool true) t39).bind fun t40 =>
 dIf t40
   ((some (.int .i64 3 : D)).bind fun t2_4 =>
 ((some t2_4).bind fun d => (some ([] : List D)).bind fun ds => some (d :: ds)).bind fun ds => some (mkRes ds, p27.2))
   ((dFieldAddr tab ty31 9 t1).bind fun t42 =>
 (dLoad tab p27.2 ty29 t42).bind fun t43 =>
 (R fn1015 [t43] p27.2).bind fun p44 =>
 (some p44.1).bind fun t41 =>
 (dExtract 0 t41).bind fun t45 =>
 (dExtract 1 t41).bind fun t46 =>
 (some t45).bind fun t5 =>
 (some t46).bind fun t6 =>
 (some t6).bind fun t47 =>
 (dBin tab .neq ty49 t47 (.int .i64 0)).bind fun t48 =>
 dIf t48
   ((some t6).bind fun t49 =>
 (some t49).bind fun t2_5 =>
 ((some t2_5).bind fun d => (some ([] : List D)).bind fun ds => some (d :: ds)).bind fun ds => some (mkRes ds, p44.2))
   ((some t5).bind fun t50 =>
 (dFieldAddr tab ty31 9 t1).bind fun t51 =>
 (dLoad tab p44.2 ty29 t51).bind fun t52 =>
 (R fn95 [t50, t52] p44.2).bind fun p53 =>
 (dUn .not p53.1).bind fun t54 =>
 dIf t54
   ((some (.int .i64 19 : D)).bind fun t2_6 =>
 ((some t2_6).bind fun d => (some ([] : List D)).bind fun ds => some (d :: ds)).bind fun ds => some (mkRes ds, p53.2))
   ((some (.int .i64 0 : D)).bind fun t7 =>
 ((loopW (F1010_L0 t5) [t2, t7, .any, .any] p53.2).bind fun r =>
 some ((unblk 0 r.1), [(nth 0 r.2.1), (nth 1 r.2.1), (nth 2 r.2.1), (nth 3 r.2.1)], r.2.2)).bind fun r_1 =>
 toEnd r_1.1 ((some (.int .i64 0 : D)).bind fun t2_8 =>
 ((some t2_8).bind fun d => (some ([] : List D)).bind fun ds => some (d :: ds)).bind fun ds => some (mkRes ds, r_1.2.2)) fun x => exEnd x (((some (nth 0 r_1.2.1)).bind fun d => (some ([] : List D)).bind fun ds => some (d :: ds)).bind fun ds => some (mkRes ds, r_1.2.2))))))))
theorem e1010 (t0 : D) (h : Hp) : R fn1010 [t0] h = F1010 t0 h :=
  (run_fn (X := X) (F := Fs) (fi := i44) (by kernel_rfl) _ _).trans (by kernel_rfl)
noncomputable def F1011 (t0 : D) (h : Hp) : Option (D × Hp) :=
  (pBoxF t0).bind fun t1 =>
 (some (.int .i64 0 : D)).bind fun t2 =>
 (dFieldAddr tab ty31 0 t1).bind fun t3 =>
 (dLoad tab h ty3 t3).bind fun t4 =>
 (dBin tab .lss ty3 t4 (.int .i64 0)).bind fun t5 =>
 (some t5).bind fun t6 =>
 (gd t6 false (dFieldAddr tab ty31 0 t1)).bind fun t7 =>
 (gd t6 false (dLoad tab h ty3 t7)).bind fun t8 =>
 (gd t6 false (dBin tab .gtr ty3 t8 (.int .i64 999))).bind fun t9 =>
 (dPick t6 (.bool true) t9).bind fun t10 =>
 (some t10).bind fun t11 =>
 (gd t11 false (dFieldAddr tab ty31 1 t1)).bind fun t12 =>
 (gd t11 false (dLoad tab h ty3 t12)).bind fun t13 =>
 (gd t11 false (dBin tab .lss ty3 t13 (.int .i64 0))).bind fun t14 =>
 (dPick t11 (.bool true) t14).bind fun t15 =>
 (some t15).bind fun t16 =>
 (gd t16 false (dFieldAddr tab ty31 1 t1)).bind fun t17 =>
 (gd t16 false (dLoad tab h ty3 t17)).bind fun t18 =>
 (gd t16 false (dBin tab .gtr ty3 t18 (.int .i64 2147483646))).bind fun t19 =>
 (dPick t16 (.bool true) t19).bind fun t20 =>
 (some t20).bind fun t21 =>
 (gd t21 false (dFieldAddr tab ty31 2 t1)).bind fun t22 =>
 (gd t21 false (dLoad tab h ty3 t22)).bind fun t23 =>
 (gd t21 false (dBin tab .lss ty3 t23 (.int .i64 0))).bind fun t24 =>
 (dPick t21 (.bool true) t24).bind fun t25 =>
 (some t25).bind fun t26 =>
 (gd t26 false (dFieldAddr tab ty31 3 t1)).bind fun t27 =>
 (gd t26 false (dLoad tab h ty3 t27)).bind fun t28 =>
 (gd t26 false (dFieldAddr tab ty31 2 t1)).bind fun t29 =>
 (gd t26 false (dLoad tab h ty3 t29)).bind fun t30 =>
 (gd t26 false (dBin tab .leq ty3 t28 t30)).bind fun t31 =>
 (dPick t26 (.bool true) t31).bind fun t32 =>
 (some t32).bind fun t33 =>
 (gd t33 false (dFieldAddr tab ty31 3 t1)).bind fun t34 =>
 (gd t33 false (dLoad tab h ty3 t34)).bind fun t35 =>
 (gd t33 false (dBin tab .gtr ty3 t35 (.int .i64 60000))).bind fun t36 =>
 (dPick t33 (.bool true) t36).bind fun t37 =>
 dIf t37
   ((some (.int .i64 2 : D)).bind fun t2_1 =>
 ((some t2_1).bind fun d => (some ([] : List D)).bind fun ds => some (d :: ds)).bind fun ds => some (mkRes ds, h))
   ((some (.int .i64 0 : D)).bind fun t2_2 =>
 ((some t2_2).bind fun d => (some ([] : List D)).bind fun ds => some (d :: ds)).bind fun ds => some (mkRes ds, h))
theorem e1011 (t0 : D) (h : Hp) : R fn1011 [t0] h = F1011 t0 h :=
  (run_fn (X := X) (F := Fs) (fi := i45) (by kernel_rfl) _ _).trans (by kernel_rfl)
noncomputable def F1012_L0 (t1 : D) (t2 : D) (ds : List D) (h_1 : Hp) : Option Out :=
 (some (nth 2 ds)).bind fun t18 =>
 (dFieldAddr tab ty31 4 t2).bind fun t19 =>
 (dLoad tab h_1 ty28 t19).bind fun t20 =>
 (dLenT tab ty28 t20).bind fun t21 =>
 (dBin tab .lss ty3 t18 t21).bind fun t22 =>
 dIf t22
   ((dFieldAddr tab ty31 4 t2).bind fun t25 =>
 (dLoad tab h_1 ty28 t25).bind fun t26 =>
 (some (nth 2 ds)).bind fun t27 =>
 (dIndexAddr tab ty28 t26 t27).bind fun t28 =>
 (dLoad tab h_1 ty78 t28).bind fun t29 =>
 (boxN 3 t29).bind fun t7 =>
 (dFieldAddr tab ty78 0 t7).bind fun t30 =>
 (dLoad tab h_1 ty3 t30).bind fun t31 =>
 (some (nth 1 ds)).bind fun t32 =>
 (dBin tab .neq ty3 t31 t32).bind fun t33 =>
 (some t33).bind fun t34 =>
 (gd t34 false (dFieldAddr tab ty78 1 t7)).bind fun t35 =>
 (gd t34 false (dLoad tab h_1 ty3 t35)).bind fun t36 =>
 (gd t34 false (dBin tab .lss ty3 t36 (.int .i64 1))).bind fun t37 =>
 (dPick t34 (.bool true) t37).bind fun t38 =>
 (some t38).bind fun t39 =>
 (gd t39 false (dFieldAddr tab ty78 1 t7)).bind fun t40 =>
 (gd t39 false (dLoad tab h_1 ty3 t40)).bind fun t41 =>
 (gd t39 false (dFieldAddr tab ty31 3 t2)).bind fun t42 =>
 (gd t39 false (dLoad tab h_1 ty3 t42)).bind fun t43 =>
 (gd t39 false (some (nth 1 ds))).bind fun t44 =>
 (gd t39 false (dBin tab .sub ty3 t43 t44)).bind fun t45 =>
 (gd t39 false (dBin tab .gtr ty3 t41 t45)).bind fun t46 =>
 (dPick t39 (.bool true) t46).bind fun t47 =>
 (some t47).bind fun t48 =>
 (gd t48 false (some (nth 2 ds))).bind fun t49 =>
 (gd t48 false (dFieldAddr tab ty31 4 t2)).bind fun t50 =>
 (gd t48 false (dLoad tab h_1 ty28 t50)).bind fun t51 =>
 (gd t48 false (dLenT tab ty28 t51)).bind fun t52 =>
 (gd t48 false (dBin tab .sub ty3 t52 (.int .i64 1))).bind fun t53 =>
 (gd t48 false (dBin tab .eql ty3 t49 t53)).bind fun t54 =>
 (gd t48 false (some t54)).bind fun t55 =>
 (gd t55 true (dFieldAddr tab ty78 1 t7)).bind fun t56 =>
 (gd t55 true (dLoad tab h_1 ty3 t56)).bind fun t57 =>
 (gd t55 true (dFieldAddr tab ty31 3 t2)).bind fun t58 =>
 (gd t55 true (dLoad tab h_1 ty3 t58)).bind fun t59 =>
 (gd t55 true (some (nth 1 ds))).bind fun t60 =>
 (gd t55 true (dBin tab .sub ty3 t59 t60)).bind fun t61 =>
 (gd t55 true (dBin tab .neq ty3 t57 t61)).bind fun t62 =>
 (gd t48 false (dPick t55 t62 (.bool false))).bind fun t63 =>
 (dPick t48 (.bool true) t63).bind fun t64 =>
 dIf t64
   ((some (.int .i64 19 : D)).bind fun t4_3 =>
 some (.ret, [t4_3, (nth 1 ds), (nth 2 ds), t7, t22, t64, (nth 6 ds)], h_1))
   ((dFieldAddr tab ty78 2 t7).bind fun t65 =>
 (dLoad tab h_1 ty9 t65).bind fun t66 =>
 (dLenT tab ty9 t66).bind fun t67 =>
 (some t1).bind fun t68 =>
 (dBin tab .gtr ty3 t67 t68).bind fun t69 =>
 dIf t69
   ((some (.int .i64 3 : D)).bind fun t4_4 =>
 some (.ret, [t4_4, (nth 1 ds), (nth 2 ds), t7, t22, t64, t69], h_1))
   ((some (nth 1 ds)).bind fun t70 =>
 (dFieldAddr tab ty78 1 t7).bind fun t71 =>
 (dLoad tab h_1 ty3 t71).bind fun t72 =>
 (dBin tab .add ty3 t70 t72).bind fun t73 =>
 (some t73).bind fun t5_1 =>
 (some (nth 2 ds)).bind fun t23 =>
 (dBin tab .add ty3 t23 (.int .i64 1)).bind fun t24 =>
 (some t24).bind fun t6_1 =>
 some (.nrm, [(nth 0 ds), t5_1, t6_1, t7, t22, t64, t69], h_1))))
   (some ((.ext 0), [(nth 0 ds), (nth 1 ds), (nth 2 ds), (nth 3 ds), t22, (nth 5 ds), (nth 6 ds)], h_1))
noncomputable def F1012 (t0 : D) (t1 : D) (h : Hp) : Option (D × Hp) :=
  (pBoxF t0).bind fun t2 =>
 (some (.int .i64 0 : D)).bind fun t4 =>
 (dFieldAddr tab ty31 4 t2).bind fun t8 =>
 (dLoad tab h ty28 t8).bind fun t9 =>
 (dLenT tab ty28 t9).bind fun t10 =>
 (dBin tab .eql ty3 t10 (.int .i64 0)).bind fun t11 =>
 dIf t11
   ((some (.int .i64 9 : D)).bind fun t4_1 =>
 ((some t4_1).bind fun d => (some ([] : List D)).bind fun ds => some (d :: ds)).bind fun ds => some (mkRes ds, h))
   ((dFieldAddr tab ty31 4 t2).bind fun t12 =>
 (dLoad tab h ty28 t12).bind fun t13 =>
 (dLenT tab ty28 t13).bind fun t14 =>
 (dBin tab .gtr ty3 t14 (.int .i64 40)).bind fun t15 =>
 dIf t15
   ((some (.int .i64 4 : D)).bind fun t4_2 =>
 ((some t4_2).bind fun d => (some ([] : List D)).bind fun ds => some (d :: ds)).bind fun ds => some (mkRes ds, h))
   ((dFieldAddr tab ty31 2 t2).bind fun t16 =>
 (dLoad tab h ty3 t16).bind fun t17 =>
 (some t17).bind fun t5 =>
 (some (.int .i64 0 : D)).bind fun t6 =>
 ((loopW (F1012_L0 t1 t2) [t4, t5, t6, .any, .any, .any, .any] h).bind fun r =>
 some ((unblk 0 r.1), [(nth 0 r.2.1), (nth 1 r.2.1), (nth 2 r.2.1), (nth 3 r.2.1), (nth 4 r.2.1), (nth 5 r.2.1), (nth 6 r.2.1)], r.2.2)).bind fun r_1 =>
 toEnd r_1.1 ((some (.int .i64 0 : D)).bind fun t4_5 =>
 ((some t4_5).bind fun d => (some ([] : List D)).bind fun ds => some (d :: ds)).bind fun ds => some (mkRes ds, r_1.2.2)) fun x => exEnd x (((some (nth 0 r_1.2.1)).bind fun d => (some ([] : List D)).bind fun ds => some (d :: ds)).bind fun ds => some (mkRes ds, r_1.2.2))))
theorem e1012 (t0 : D) (t1 : D) (h : Hp) : R fn1012 [t0, t1] h = F1012 t0 t1 h :=
  (run_fn (X := X) (F := Fs) (fi := i46) (by kernel_rfl) _ _).trans (by kernel_rfl)
noncomputable def F102 (t0 : D) (h : Hp) : Option (D × Hp) :=
  (some (.str [] : D)).bind fun t2 =>
 (pLitF tab ty98 14 [0, 1, 2, 3, 4, 5, 6, 7, 8, 9, 10, 11, 12, 13] [.str [103, 101, 116], .str [101, 114, 114, 111, 114], .str [119, 97, 114, 110], .str [97, 49], .str [117, 115, 101, 114, 95, 55], .str [120], .str [84, 105, 109, 101, 111, 117, 116], .str [50, 48, 48], .str [71, 69, 84], .str [101, 114, 114, 111], .str [122], .str [], .str [255], .str [97, 46, 98]]).bind fun t4 =>
 (some t4).bind fun t3 =>
 (some t3).bind fun t5 =>
 (some t0).bind fun t6 =>
 (some t3).bind fun t7 =>
 (dLenT tab ty98 t7).bind fun t8 =>
 (R fn24 [t6, t8] h).bind fun p9 =>
 (dIndexAddr tab ty98 t5 p9.1).bind fun t10 =>
 (dLoad tab p9.2 ty9 t10).bind fun t11 =>
 (some t11).bind fun t2_1 =>
 ((some t2_1).bind fun d => (some ([] : List D)).bind fun ds => some (d :: ds)).bind fun ds => some (mkRes ds, p9.2)
theorem e102 (t0 : D) (h : Hp) : R fn102 [t0] h = F102 t0 h :=
  (run_fn (X := X) (F := Fs) (fi := i47) (by kernel_rfl) _ _).trans (by kernel_rfl)
noncomputable def F33 (t0 : D) (h : Hp) : Option (D × Hp) :=
  (some (.str [] : D)).bind fun t2 =>
 (pLitF tab ty98 11 [0, 1, 2, 3, 4, 5, 6, 7, 8, 9, 10] [.str [119, 97, 114, 110], .str [105, 110, 102, 111], .str [55], .str [45, 51], .str [51, 49], .str [], .str [120, 32, 121], .str [57, 57, 57, 57, 57, 57, 57, 57, 57, 57, 57, 57, 57, 57, 57, 57, 57, 57], .str [49, 48, 48, 48, 48, 48, 48, 48, 48, 48, 48, 48, 48, 48, 48, 48, 48, 48, 48], .str [48, 55], .str [45]]).bind fun t4 =>
 (some t4).bind fun t3 =>
 (some t3).bind fun t5 =>
 (some t0).bind fun t6 =>
 (some t3).bind fun t7 =>
 (dLenT tab ty98 t7).bind fun t8 =>
 (R fn24 [t6, t8] h).bind fun p9 =>
 (dIndexAddr tab ty98 t5 p9.1).bind fun t10 =>
 (dLoad tab p9.2 ty9 t10).bind fun t11 =>
 (some t11).bind fun t2_1 =>
 ((some t2_1).bind fun d => (some ([] : List D)).bind fun ds => some (d :: ds)).bind fun ds => some (mkRes ds, p9.2)
theorem e33 (t0 : D) (h : Hp) : R fn33 [t0] h = F33 t0 h :=
  (run_fn (X := X) (F := Fs) (fi := i48) (by kernel_rfl) _ _).trans (by kernel_rfl)
noncomputable def F1097 (t0 : D) (t1 : D) (t2 : D) (t3 : D) (h : Hp) : Option (D × Hp) :=
  (some t0).bind fun t8 =>
 (some t0).bind fun t9 =>
 (dNilCheck tab t9).bind fun t10 =>
 (dFieldAddr tab ty1073 0 t10).bind fun t11 =>
 (dFieldAddr tab ty1009 1 t11).bind fun t12 =>
 (dLoad tab h ty58 t12).bind fun t13 =>
 (some t1).bind fun t14 =>
 (some t2).bind fun t15 =>
 (some t3).bind fun t16 =>
 (R fn59 [t13, t14, t15, t16] h).bind fun p17 =>
 (dNilCheck tab t8).bind fun t18 =>
 (dFieldAddr tab ty1073 0 t18).bind fun t19 =>
 (dFieldAddr tab ty1009 1 t19).bind fun t20 =>
 ((dStore tab p17.2 ty58 t20 p17.1).bind fun h' => some ((.und : D), h')).bind fun p913 =>
 (some ([] : List D)).bind fun ds => some (mkRes ds, p913.2)
theorem e1097 (t0 : D) (t1 : D) (t2 : D) (t3 : D) (h : Hp) : R fn1097 [t0, t1, t2, t3] h = F1097 t0 t1 t2 t3 h :=
  (run_fn (X := X) (F := Fs) (fi := i49) (by kernel_rfl) _ _).trans (by kernel_rfl)
noncomputable def F1002 (t0 : D) (t1 : D) (h : Hp) : Option (D × Hp) :=
  (wBox ty74 11 h t0).bind fun p2 =>
 (pBoxF t1).bind fun t3 =>
 (some ((.ptr p2.2.length 0 0 : D), dNew p2.2 ty74 11 [[.str [], .int .i64 0, .int .i64 0, .int .i64 0, .int .i64 0, .nils, .int .i64 0, .int .i64 0, .str [], .str [], .nils]])).bind fun p4 =>
 (some (.bool false : D)).bind fun t5 =>
 (dFieldAddr tab ty74 1 p2.1).bind fun t8 =>
 (dFieldAddr tab ty31 4 t8).bind fun t9 =>
 (dLoad tab p4.2 ty28 t9).bind fun t10 =>
 (some t10).bind fun t6 =>
 (some t6).bind fun t11 =>
 (some (.fn (.func fn1007) [] [t3] : D)).bind fun t12 =>
 (R fn1006 [t11, t12] p4.2).bind fun p13 =>
 (some p13.1).bind fun t7 =>
 (some t7).bind fun t14 =>
 (dBin tab .lss ty3 t14 (.int .i64 1)).bind fun t15 =>
 dIf t15
   ((dBuild tab ty74 [] []).bind fun t16 =>
 ((dStore tab p13.2 ty74 p4.1 t16).bind fun h' => some ((.und : D), h')).bind fun p901 =>
 (some (.bool false : D)).bind fun t5_1 =>
 ((some (p4.1 : D)).bind fun p => (dLoad tab p901.2 ty74 p).bind fun d => ((some t5_1).bind fun d => (some ([] : List D)).bind fun ds => some (d :: ds)).bind fun ds => some (d :: ds)).bind fun ds => scope h p901.2 (mkRes ds))
   ((dLoad tab p13.2 ty3 t3).bind fun t17 =>
 (some t6).bind fun t18 =>
 (some t7).bind fun t19 =>
 (dSliceAt tab ty28 true false false [t18, t19]).bind fun t20 =>
 (R fn1008 [t20] p13.2).bind fun p21 =>
 (dFieldAddr tab ty74 1 p2.1).bind fun t22 =>
 (dFieldAddr tab ty31 2 t22).bind fun t23 =>
 ((dStore tab p21.2 ty3 t23 t17).bind fun h' => some ((.und : D), h')).bind fun p907 =>
 (dFieldAddr tab ty74 1 p2.1).bind fun t24 =>
 (dFieldAddr tab ty31 4 t24).bind fun t25 =>
 ((dStore tab p907.2 ty28 t25 p21.1).bind fun h' => some ((.und : D), h')).bind fun p910 =>
 chk (dLoad tab p21.2 ty3 t3 = some t17)
 ((dFieldAddr tab ty74 1 p2.1).bind fun t26 =>
 (dFieldAddr tab ty31 9 t26).bind fun t27 =>
 (dLoad tab p910.2 ty29 t27).bind fun t28 =>
 (R fn1009 [t28] p910.2).bind fun p29 =>
 (dFieldAddr tab ty74 1 p2.1).bind fun t30 =>
 (dFieldAddr tab ty31 9 t30).bind fun t31 =>
 ((dStore tab p29.2 ty29 t31 p29.1).bind fun h' => some ((.und : D), h')).bind fun p906 =>
 (dLoad tab p906.2 ty74 p2.1).bind fun t32 =>
 ((dStore tab p906.2 ty74 p4.1 t32).bind fun h' => some ((.und : D), h')).bind fun p901_1 =>
 (some (.bool true : D)).bind fun t5_2 =>
 ((some (p4.1 : D)).bind fun p => (dLoad tab p901_1.2 ty74 p).bind fun d => ((some t5_2).bind fun d => (some ([] : List D)).bind fun ds => some (d :: ds)).bind fun ds => some (d :: ds)).bind fun ds => scope h p901_1.2 (mkRes ds)))
theorem e1002 (t0 : D) (t1 : D) (h : Hp) : R fn1002 [t0, t1] h = F1002 t0 t1 h :=
  (run_fn (X := X) (F := Fs) (fi := i50) (by kernel_rfl) _ _).trans (by kernel_rfl)
noncomputable def F1008 (t0 : D) (h : Hp) : Option (D × Hp) :=
  (some (.nils : D)).bind fun t2 =>
 (some t0).bind fun t3 =>
 (dBin tab .eql ty28 t3 (.nils)).bind fun t4 =>
 dIf t4
   ((some (.nils : D)).bind fun t2_1 =>
 ((some t2_1).bind fun d => (some ([] : List D)).bind fun ds => some (d :: ds)).bind fun ds => scope h h (mkRes ds))
   ((pLitF tab ty28 0 [] []).bind fun t5 =>
 (some t0).bind fun t6 =>
 (dAppend tab h ty28 ty28 t5 t6).bind fun p7 =>
 (some p7.1).bind fun t2_2 =>
 ((some t2_2).bind fun d => (some ([] : List D)).bind fun ds => some (d :: ds)).bind fun ds => scope h p7.2 (mkRes ds))
theorem e1008 (t0 : D) (h : Hp) : R fn1008 [t0] h = F1008 t0 h :=
  (run_fn (X := X) (F := Fs) (fi := i52) (by kernel_rfl) _ _).trans (by kernel_rfl)
noncomputable def F1009 (t0 : D) (h : Hp) : Option (D × Hp) :=
  (some (.nils : D)).bind fun t2 =>
 (some t0).bind fun t3 =>
 (dBin tab .eql ty29 t3 (.nils)).bind fun t4 =>
 dIf t4
   ((some (.nils : D)).bind fun t2_1 =>
 ((some t2_1).bind fun d => (some ([] : List D)).bind fun ds => some (d :: ds)).bind fun ds => some (mkRes ds, h))
   ((pLitF tab ty29 0 [] []).bind fun t5 =>
 (some t0).bind fun t6 =>
 (dAppend tab h ty29 ty29 t5 t6).bind fun p7 =>
 (some p7.1).bind fun t2_2 =>
 ((some t2_2).bind fun d => (some ([] : List D)).bind fun ds => some (d :: ds)).bind fun ds => some (mkRes ds, p7.2))
theorem e1009 (t0 : D) (h : Hp) : R fn1009 [t0] h = F1009 t0 h :=
  (run_fn (X := X) (F := Fs) (fi := i53) (by kernel_rfl) _ _).trans (by kernel_rfl)
noncomputable def F1084_L0 (t0 : D) (t1 : D) (t2 : D) (ds : List D) (h_1 : Hp) : Option Out :=
 (some (nth 0 ds)).bind fun t9 =>
 (some t0).bind fun t10 =>
 (dLenT tab ty1007 t10).bind fun t11 =>
 (dBin tab .lss ty3 t9 t11).bind fun t12 =>
 (some t12).bind fun t13 =>
 (gd t13 true (some t0)).bind fun t14 =>
 (gd t13 true (some (nth 0 ds))).bind fun t15 =>
 (gd t13 true (dIndexAddr tab ty1007 t14 t15)).bind fun t16 =>
 (gd t13 true (dFieldAddr tab ty1006 0 t16)).bind fun t17 =>
 (gd t13 true (dLoad tab h_1 ty3 t17)).bind fun t18 =>
 (gd t13 true (some t1)).bind fun t19 =>
 (gd t13 true (dBin tab .lss ty3 t18 t19)).bind fun t20 =>
 (gd t13 true (some t20)).bind fun t21 =>
 (gd t21 false (some t0)).bind fun t22 =>
 (gd t21 false (some (nth 0 ds))).bind fun t23 =>
 (gd t21 false (dIndexAddr tab ty1007 t22 t23)).bind fun t24 =>
 (gd t21 false (dFieldAddr tab ty1006 0 t24)).bind fun t25 =>
 (gd t21 false (dLoad tab h_1 ty3 t25)).bind fun t26 =>
 (gd t21 false (some t1)).bind fun t27 =>
 (gd t21 false (dBin tab .eql ty3 t26 t27)).bind fun t28 =>
 (gd t21 false (some t28)).bind fun t29 =>
 (gd t29 true (some t0)).bind fun t30 =>
 (gd t29 true (some (nth 0 ds))).bind fun t31 =>
 (gd t29 true (dIndexAddr tab ty1007 t30 t31)).bind fun t32 =>
 (gd t29 true (dFieldAddr tab ty1006 1 t32)).bind fun t33 =>
 (gd t29 true (dLoad tab h_1 ty3 t33)).bind fun t34 =>
 (gd t29 true (some t2)).bind fun t35 =>
 (gd t29 true (dBin tab .lss ty3 t34 t35)).bind fun t36 =>
 (gd t21 false (dPick t29 t36 (.bool false))).bind fun t37 =>
 (gd t13 true (dPick t21 (.bool true) t37)).bind fun t38 =>
 (dPick t13 t38 (.bool false)).bind fun t39 =>
 dIf t39
   ((some (nth 0 ds)).bind fun t40 =>
 (dBin tab .add ty3 t40 (.int .i64 1)).bind fun t41 =>
 (some t41).bind fun t8_1 =>
 some (.nrm, [t8_1, t39], h_1))
   (some ((.ext 0), [(nth 0 ds), t39], h_1))
noncomputable def F1084 (t0 : D) (t1 : D) (t2 : D) (h : Hp) : Option (D × Hp) :=
  (some (.int .i64 0 : D)).bind fun t6 =>
 (some (.bool false : D)).bind fun t7 =>
 (some (.int .i64 0 : D)).bind fun t8 =>
 ((loopW (F1084_L0 t0 t1 t2) [t8, .any] h).bind fun r =>
 some ((unblk 0 r.1), [(nth 0 r.2.1), (nth 1 r.2.1)], r.2.2)).bind fun r_1 =>
 toEnd r_1.1 ((some (nth 0 r_1.2.1)).bind fun t42 =>
 (some (nth 0 r_1.2.1)).bind fun t43 =>
 (some t0).bind fun t44 =>
 (dLenT tab ty1007 t44).bind fun t45 =>
 (dBin tab .lss ty3 t43 t45).bind fun t46 =>
 (some t46).bind fun t47 =>
 (gd t47 true (some t0)).bind fun t48 =>
 (gd t47 true (some (nth 0 r_1.2.1))).bind fun t49 =>
 (gd t47 true (dIndexAddr tab ty1007 t48 t49)).bind fun t50 =>
 (gd t47 true (dFieldAddr tab ty1006 0 t50)).bind fun t51 =>
 (gd t47 true (dLoad tab r_1.2.2 ty3 t51)).bind fun t52 =>
 (gd t47 true (some t1)).bind fun t53 =>
 (gd t47 true (dBin tab .eql ty3 t52 t53)).bind fun t54 =>
 (dPick t47 t54 (.bool false)).bind fun t55 =>
 (some t55).bind fun t56 =>
 (gd t56 true (some t0)).bind fun t57 =>
 (gd t56 true (some (nth 0 r_1.2.1))).bind fun t58 =>
 (gd t56 true (dIndexAddr tab ty1007 t57 t58)).bind fun t59 =>
 (gd t56 true (dFieldAddr tab ty1006 1 t59)).bind fun t60 =>
 (gd t56 true (dLoad tab r_1.2.2 ty3 t60)).bind fun t61 =>
 (gd t56 true (some t2)).bind fun t62 =>
 (gd t56 true (dBin tab .eql ty3 t61 t62)).bind fun t63 =>
 (dPick t56 t63 (.bool false)).bind fun t64 =>
 (some t42).bind fun t6_1 =>
 (some t64).bind fun t7_1 =>
 ((some t6_1).bind fun d => ((some t7_1).bind fun d => (some ([] : List D)).bind fun ds => some (d :: ds)).bind fun ds => some (d :: ds)).bind fun ds => some (mkRes ds, r_1.2.2)) fun x => exEnd x (((some t6).bind fun d => ((some t7).bind fun d => (some ([] : List D)).bind fun ds => some (d :: ds)).bind fun ds => some (d :: ds)).bind fun ds => some (mkRes ds, r_1.2.2))
theorem e1084 (t0 : D) (t1 : D) (t2 : D) (h : Hp) : R fn1084 [t0, t1, t2] h = F1084 t0 t1 t2 h :=
  (run_fn (X := X) (F := Fs) (fi := i54) (by kernel_rfl) _ _).trans (by kernel_rfl)
noncomputable def F82 (t0 : D) (t1 : D) (h : Hp) : Option (D × Hp) :=
  (pBoxF t0).bind fun t2 =>
 (pBoxF t1).bind fun t3 =>
 (some (.bool false : D)).bind fun t4 =>
 (dFieldAddr tab ty74 1 t2).bind fun t7 =>
 (dLoad tab h ty31 t7).bind fun t8 =>
 (dFieldAddr tab ty74 1 t3).bind fun t9 =>
 (dLoad tab h ty31 t9).bind fun t10 =>
 (some ((.ptr h.length 0 0 : D), dNew h ty31 10 [[.int .i64 0, .int .i64 0, .int .i64 0, .int .i64 0, .nils, .int .i64 0, .int .i64 0, .str [], .str [], .nils]])).bind fun p5 =>
 (some (.any : D)).bind fun t6 =>
 ((dStore tab p5.2 ty31 p5.1 t8).bind fun h' => some ((.und : D), h')).bind fun p906 =>
 chk (dLoad tab p5.2 ty31 t7 = some t8)
 (chk (dLoad tab p5.2 ty31 t9 = some t10)
 (chk (dLoad tab p906.2 ty31 t9 = some t10)
 (((dStore tab (dNew p906.2 ty31 10 [[.int .i64 0, .int .i64 0, .int .i64 0, .int .i64 0, .nils, .int .i64 0, .int .i64 0, .str [], .str [], .nils]]) ty31 (.ptr p906.2.length 0 0) t10).bind fun h' => some ((.und : D), h')).bind fun p907 =>
 (dFieldAddr tab ty74 0 t2).bind fun t11 =>
 (dLoad tab p907.2 ty9 t11).bind fun t12 =>
 (dFieldAddr tab ty74 0 t3).bind fun t13 =>
 (dLoad tab p907.2 ty9 t13).bind fun t14 =>
 (dBin tab .eql ty9 t12 t14).bind fun t15 =>
 (some t15).bind fun t16 =>
 (gd t16 true (dFieldAddr tab ty31 0 p5.1)).bind fun t17 =>
 (gd t16 true (dLoad tab p907.2 ty3 t17)).bind fun t18 =>
 (gd t16 true (dFieldAddr tab ty31 0 (.ptr p906.2.length 0 0))).bind fun t19 =>
 (gd t16 true (dLoad tab p907.2 ty3 t19)).bind fun t20 =>
 (gd t16 true (dBin tab .eql ty3 t18 t20)).bind fun t21 =>
 (dPick t16 t21 (.bool false)).bind fun t22 =>
 (some t22).bind fun t23 =>
 (gd t23 true (dFieldAddr tab ty31 1 p5.1)).bind fun t24 =>
 (gd t23 true (dLoad tab p907.2 ty3 t24)).bind fun t25 =>
 (gd t23 true (dFieldAddr tab ty31 1 (.ptr p906.2.length 0 0))).bind fun t26 =>
 (gd t23 true (dLoad tab p907.2 ty3 t26)).bind fun t27 =>
 (gd t23 true (dBin tab .eql ty3 t25 t27)).bind fun t28 =>
 (dPick t23 t28 (.bool false)).bind fun t29 =>
 (some t29).bind fun t30 =>
 (gd t30 true (dFieldAddr tab ty31 2 p5.1)).bind fun t31 =>
 (gd t30 true (dLoad tab p907.2 ty3 t31)).bind fun t32 =>
 (gd t30 true (dFieldAddr tab ty31 2 (.ptr p906.2.length 0 0))).bind fun t33 =>
 (gd t30 true (dLoad tab p907.2 ty3 t33)).bind fun t34 =>
 (gd t30 true (dBin tab .eql ty3 t32 t34)).bind fun t35 =>
 (dPick t30 t35 (.bool false)).bind fun t36 =>
 (some t36).bind fun t37 =>
 (gd t37 true (dFieldAddr tab ty31 3 p5.1)).bind fun t38 =>
 (gd t37 true (dLoad tab p907.2 ty3 t38)).bind fun t39 =>
 (gd t37 true (dFieldAddr tab ty31 3 (.ptr p906.2.length 0 0))).bind fun t40 =>
 (gd t37 true (dLoad tab p907.2 ty3 t40)).bind fun t41 =>
 (gd t37 true (dBin tab .eql ty3 t39 t41)).bind fun t42 =>
 (dPick t37 t42 (.bool false)).bind fun t43 =>
 (some t43).bind fun t44 =>
 (gd t44 true (dFieldAddr tab ty31 5 p5.1)).bind fun t45 =>
 (gd t44 true (dLoad tab p907.2 ty3 t45)).bind fun t46 =>
 (gd t44 true (dFieldAddr tab ty31 5 (.ptr p906.2.length 0 0))).bind fun t47 =>
 (gd t44 true (dLoad tab p907.2 ty3 t47)).bind fun t48 =>
 (gd t44 true (dBin tab .eql ty3 t46 t48)).bind fun t49 =>
 (dPick t44 t49 (.bool false)).bind fun t50 =>
 (some t50).bind fun t51 =>
 (gd t51 true (dFieldAddr tab ty31 6 p5.1)).bind fun t52 =>
 (gd t51 true (dLoad tab p907.2 ty3 t52)).bind fun t53 =>
 (gd t51 true (dFieldAddr tab ty31 6 (.ptr p906.2.length 0 0))).bind fun t54 =>
 (gd t51 true (dLoad tab p907.2 ty3 t54)).bind fun t55 =>
 (gd t51 true (dBin tab .eql ty3 t53 t55)).bind fun t56 =>
 (dPick t51 t56 (.bool false)).bind fun t57 =>
 (some t57).bind fun t58 =>
 (gd t58 true (dFieldAddr tab ty31 7 p5.1)).bind fun t59 =>
 (gd t58 true (dLoad tab p907.2 ty9 t59)).bind fun t60 =>
 (gd t58 true (dFieldAddr tab ty31 7 (.ptr p906.2.length 0 0))).bind fun t61 =>
 (gd t58 true (dLoad tab p907.2 ty9 t61)).bind fun t62 =>
 (gd t58 true (dBin tab .eql ty9 t60 t62)).bind fun t63 =>
 (dPick t58 t63 (.bool false)).bind fun t64 =>
 (some t64).bind fun t65 =>
 (gd t65 true (dFieldAddr tab ty31 8 p5.1)).bind fun t66 =>
 (gd t65 true (dLoad tab p907.2 ty9 t66)).bind fun t67 =>
 (gd t65 true (dFieldAddr tab ty31 8 (.ptr p906.2.length 0 0))).bind fun t68 =>
 (gd t65 true (dLoad tab p907.2 ty9 t68)).bind fun t69 =>
 (gd t65 true (dBin tab .eql ty9 t67 t69)).bind fun t70 =>
 (dPick t65 t70 (.bool false)).bind fun t71 =>
 (some t71).bind fun t72 =>
 (gd t72 true (dFieldAddr tab ty31 4 p5.1)).bind fun t73 =>
 (gd t72 true (dLoad tab p907.2 ty28 t73)).bind fun t74 =>
 (gd t72 true (dFieldAddr tab ty31 4 (.ptr p906.2.length 0 0))).bind fun t75 =>
 (gd t72 true (dLoad tab p907.2 ty28 t75)).bind fun t76 =>
 (gdW t72 true p907.2 (R fn94 [t74, t76] p907.2)).bind fun p77 =>
 (dPick t72 p77.1 (.bool false)).bind fun t78 =>
 (some t78).bind fun t79 =>
 (gd t79 true (dFieldAddr tab ty31 9 p5.1)).bind fun t80 =>
 (gd t79 true (dLoad tab p77.2 ty29 t80)).bind fun t81 =>
 (gd t79 true (dFieldAddr tab ty31 9 (.ptr p906.2.length 0 0))).bind fun t82 =>
 (gd t79 true (dLoad tab p77.2 ty29 t82)).bind fun t83 =>
 (gdW t79 true p77.2 (R fn95 [t81, t83] p77.2)).bind fun p84 =>
 (dPick t79 p84.1 (.bool false)).bind fun t85 =>
 (some t85).bind fun t4_1 =>
 ((some t4_1).bind fun d => (some ([] : List D)).bind fun ds => some (d :: ds)).bind fun ds => scope h p84.2 (mkRes ds))))
theorem e82 (t0 : D) (t1 : D) (h : Hp) : R fn82 [t0, t1] h = F82 t0 t1 h :=
  (run_fn (X := X) (F := Fs) (fi := i55) (by kernel_rfl) _ _).trans (by kernel_rfl)
end Go.Proofs.YthaajlepgblimaaDoor
