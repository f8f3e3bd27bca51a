/- Functions as Lean functions on data. -/
import Derived.Test.YtmbjebbjeaafgaaDoorC1
set_option linter.unusedSimpArgs false
set_option linter.unusedVariables false
set_option linter.unnecessarySimpa false
set_option maxRecDepth 100000
namespace Go.Proofs.YtmbjebbjeaafgaaDoor
open Go.Eng Go.Pi
/-- a loop: slots 10 11 12 33 50 -/
noncomputable def F1066_L0 (t0 : D) (t1 : D) (t4 : D) (ds : List D) (h_1 : Hp) : Option Out :=
    (some ((nth 0 ds) : D)).bind fun t31 =>
    (some ((nth 1 ds) : D)).bind fun t32 =>
    (dBin tab .lss ty3 t31 t32).bind fun t33 =>
    dIf t33
      ((some ((nth 0 ds) : D)).bind fun t34 =>
    (some ((nth 1 ds) : D)).bind fun t35 =>
    (dBin tab .add ty3 t34 t35).bind fun t36 =>
    (dConv tab ty3 ty134 t36).bind fun t37 =>
    (dBin tab .shr ty134 t37 (.int .u64 1)).bind fun t38 =>
    (dConv tab ty134 ty3 t38).bind fun t39 =>
    (some (t39 : D)).bind fun t12 =>
    (some (t4 : D)).bind fun t40 =>
    (some (t0 : D)).bind fun t41 =>
    (some (t12 : D)).bind fun t42 =>
    (dIndexAddr tab ty29 t41 t42).bind fun t43 =>
    (dLoad tab h_1 ty109 t43).bind fun t44 =>
    (some (t0 : D)).bind fun t45 =>
    (some (t1 : D)).bind fun t46 =>
    (dIndexAddr tab ty29 t45 t46).bind fun t47 =>
    (dLoad tab h_1 ty109 t47).bind fun t48 =>
    (callV R t40 [t44, t48] h_1).bind fun p49 =>
    (dBin tab .lss ty3 p49.1 (.int .i64 0)).bind fun t50 =>
    (dIf t50
      ((some (t12 : D)).bind fun t51 =>
      (dBin tab .add ty3 t51 (.int .i64 1)).bind fun t52 =>
      (some (t52 : D)).bind fun t10_1 =>
      some (.nrm, [t10_1, (nth 1 ds)], p49.2))
      ((some (t12 : D)).bind fun t53 =>
      (some (t53 : D)).bind fun t11_1 =>
      some (.nrm, [(nth 0 ds), t11_1], p49.2))).bind fun r_1 =>
    some ((unblk 1 r_1.1), [(nth 0 r_1.2.1), (nth 1 r_1.2.1), t12, t33, t50], r_1.2.2))
      (some ((.ext 0), [(nth 0 ds), (nth 1 ds), (nth 2 ds), t33, (nth 4 ds)], h_1))
/-- a loop: slots 13 58 -/
noncomputable def F1066_L1 (t0 : D) (r_2 : Out) (ds_1 : List D) (h_2 : Hp) : Option Out :=
    (some ((nth 0 ds_1) : D)).bind fun t55 =>
    (some ((nth 0 r_2.2.1) : D)).bind fun t56 =>
    (dBin tab .sub ty3 t56 (.int .i64 1)).bind fun t57 =>
    (dBin tab .lss ty3 t55 t57).bind fun t58 =>
    dIf t58
      ((some (t0 : D)).bind fun t61 =>
    (some ((nth 0 ds_1) : D)).bind fun t62 =>
    (some (t0 : D)).bind fun t63 =>
    (some ((nth 0 ds_1) : D)).bind fun t64 =>
    (dBin tab .add ty3 t64 (.int .i64 1)).bind fun t65 =>
    (some (t0 : D)).bind fun t66 =>
    (some ((nth 0 ds_1) : D)).bind fun t67 =>
    (dBin tab .add ty3 t67 (.int .i64 1)).bind fun t68 =>
    (dIndexAddr tab ty29 t66 t68).bind fun t69 =>
    (dLoad tab h_2 ty109 t69).bind fun t70 =>
    (some (t0 : D)).bind fun t71 =>
    (some ((nth 0 ds_1) : D)).bind fun t72 =>
    (dIndexAddr tab ty29 t71 t72).bind fun t73 =>
    (dLoad tab h_2 ty109 t73).bind fun t74 =>
    (dIndexAddr tab ty29 t61 t62).bind fun t75 =>
    ((dStore tab h_2 ty109 t75 t70).bind fun h' => some ((.und : D), h')).bind fun p915 =>
    (dIndexAddr tab ty29 t63 t65).bind fun t76 =>
    ((dStore tab p915.2 ty109 t76 t74).bind fun h' => some ((.und : D), h')).bind fun p917 =>
    (some ((nth 0 ds_1) : D)).bind fun t59 =>
    (dBin tab .add ty3 t59 (.int .i64 1)).bind fun t60 =>
    (some (t60 : D)).bind fun t13_1 =>
    some (.nrm, [t13_1, t58], p917.2))
      (some ((.ext 2), [(nth 0 ds_1), t58], h_2))
/-- a loop: slots 14 15 16 85 103 -/
noncomputable def F1066_L2 (t0 : D) (t2 : D) (t4 : D) (ds_2 : List D) (h_3 : Hp) : Option Out :=
    (some ((nth 0 ds_2) : D)).bind fun t83 =>
    (some ((nth 1 ds_2) : D)).bind fun t84 =>
    (dBin tab .lss ty3 t83 t84).bind fun t85 =>
    dIf t85
      ((some ((nth 0 ds_2) : D)).bind fun t86 =>
    (some ((nth 1 ds_2) : D)).bind fun t87 =>
    (dBin tab .add ty3 t86 t87).bind fun t88 =>
    (dConv tab ty3 ty134 t88).bind fun t89 =>
    (dBin tab .shr ty134 t89 (.int .u64 1)).bind fun t90 =>
    (dConv tab ty134 ty3 t90).bind fun t91 =>
    (some (t91 : D)).bind fun t16 =>
    (some (t4 : D)).bind fun t92 =>
    (some (t0 : D)).bind fun t93 =>
    (some (t2 : D)).bind fun t94 =>
    (dIndexAddr tab ty29 t93 t94).bind fun t95 =>
    (dLoad tab h_3 ty109 t95).bind fun t96 =>
    (some (t0 : D)).bind fun t97 =>
    (some (t16 : D)).bind fun t98 =>
    (dIndexAddr tab ty29 t97 t98).bind fun t99 =>
    (dLoad tab h_3 ty109 t99).bind fun t100 =>
    (callV R t92 [t96, t100] h_3).bind fun p101 =>
    (dBin tab .lss ty3 p101.1 (.int .i64 0)).bind fun t102 =>
    (dUn .not t102).bind fun t103 =>
    (dIf t103
      ((some (t16 : D)).bind fun t104 =>
      (dBin tab .add ty3 t104 (.int .i64 1)).bind fun t105 =>
      (some (t105 : D)).bind fun t14_1 =>
      some (.nrm, [t14_1, (nth 1 ds_2)], p101.2))
      ((some (t16 : D)).bind fun t106 =>
      (some (t106 : D)).bind fun t15_1 =>
      some (.nrm, [(nth 0 ds_2), t15_1], p101.2))).bind fun r_6 =>
    some ((unblk 5 r_6.1), [(nth 0 r_6.2.1), (nth 1 r_6.2.1), t16, t85, t103], r_6.2.2))
      (some ((.ext 4), [(nth 0 ds_2), (nth 1 ds_2), (nth 2 ds_2), t85, (nth 4 ds_2)], h_3))
/-- a loop: slots 17 110 -/
noncomputable def F1066_L3 (t0 : D) (r_7 : Out) (ds_3 : List D) (h_4 : Hp) : Option Out :=
    (some ((nth 0 ds_3) : D)).bind fun t108 =>
    (some ((nth 0 r_7.2.1) : D)).bind fun t109 =>
    (dBin tab .gtr ty3 t108 t109).bind fun t110 =>
    dIf t110
      ((some (t0 : D)).bind fun t113 =>
    (some ((nth 0 ds_3) : D)).bind fun t114 =>
    (some (t0 : D)).bind fun t115 =>
    (some ((nth 0 ds_3) : D)).bind fun t116 =>
    (dBin tab .sub ty3 t116 (.int .i64 1)).bind fun t117 =>
    (some (t0 : D)).bind fun t118 =>
    (some ((nth 0 ds_3) : D)).bind fun t119 =>
    (dBin tab .sub ty3 t119 (.int .i64 1)).bind fun t120 =>
    (dIndexAddr tab ty29 t118 t120).bind fun t121 =>
    (dLoad tab h_4 ty109 t121).bind fun t122 =>
    (some (t0 : D)).bind fun t123 =>
    (some ((nth 0 ds_3) : D)).bind fun t124 =>
    (dIndexAddr tab ty29 t123 t124).bind fun t125 =>
    (dLoad tab h_4 ty109 t125).bind fun t126 =>
    (dIndexAddr tab ty29 t113 t114).bind fun t127 =>
    ((dStore tab h_4 ty109 t127 t122).bind fun h' => some ((.und : D), h')).bind fun p915_1 =>
    (dIndexAddr tab ty29 t115 t117).bind fun t128 =>
    ((dStore tab p915_1.2 ty109 t128 t126).bind fun h' => some ((.und : D), h')).bind fun p917_1 =>
    (some ((nth 0 ds_3) : D)).bind fun t111 =>
    (dBin tab .sub ty3 t111 (.int .i64 1)).bind fun t112 =>
    (some (t112 : D)).bind fun t17_1 =>
    some (.nrm, [t17_1, t110], p917_1.2))
      (some ((.ext 6), [(nth 0 ds_3), t110], h_4))
/-- a loop: slots 20 21 23 151 171 -/
noncomputable def F1066_L4 (t0 : D) (t4 : D) (t22 : D) (ds_4 : List D) (h_5 : Hp) : Option Out :=
    (some ((nth 0 ds_4) : D)).bind fun t149 =>
    (some ((nth 1 ds_4) : D)).bind fun t150 =>
    (dBin tab .lss ty3 t149 t150).bind fun t151 =>
    dIf t151
      ((some ((nth 0 ds_4) : D)).bind fun t152 =>
    (some ((nth 1 ds_4) : D)).bind fun t153 =>
    (dBin tab .add ty3 t152 t153).bind fun t154 =>
    (dConv tab ty3 ty134 t154).bind fun t155 =>
    (dBin tab .shr ty134 t155 (.int .u64 1)).bind fun t156 =>
    (dConv tab ty134 ty3 t156).bind fun t157 =>
    (some (t157 : D)).bind fun t23 =>
    (some (t4 : D)).bind fun t158 =>
    (some (t0 : D)).bind fun t159 =>
    (some (t22 : D)).bind fun t160 =>
    (some (t23 : D)).bind fun t161 =>
    (dBin tab .sub ty3 t160 t161).bind fun t162 =>
    (dIndexAddr tab ty29 t159 t162).bind fun t163 =>
    (dLoad tab h_5 ty109 t163).bind fun t164 =>
    (some (t0 : D)).bind fun t165 =>
    (some (t23 : D)).bind fun t166 =>
    (dIndexAddr tab ty29 t165 t166).bind fun t167 =>
    (dLoad tab h_5 ty109 t167).bind fun t168 =>
    (callV R t158 [t164, t168] h_5).bind fun p169 =>
    (dBin tab .lss ty3 p169.1 (.int .i64 0)).bind fun t170 =>
    (dUn .not t170).bind fun t171 =>
    (dIf t171
      ((some (t23 : D)).bind fun t172 =>
      (dBin tab .add ty3 t172 (.int .i64 1)).bind fun t173 =>
      (some (t173 : D)).bind fun t20_3 =>
      some (.nrm, [t20_3, (nth 1 ds_4)], p169.2))
      ((some (t23 : D)).bind fun t174 =>
      (some (t174 : D)).bind fun t21_3 =>
      some (.nrm, [(nth 0 ds_4), t21_3], p169.2))).bind fun r_12 =>
    some ((unblk 9 r_12.1), [(nth 0 r_12.2.1), (nth 1 r_12.2.1), t23, t151, t171], r_12.2.2))
      (some ((.ext 8), [(nth 0 ds_4), (nth 1 ds_4), (nth 2 ds_4), t151, (nth 4 ds_4)], h_5))
/-- a loop: slots 20 21 23 151 171 -/
noncomputable def F1066_L5 (t0 : D) (t4 : D) (t22_1 : D) (ds_5 : List D) (h_6 : Hp) : Option Out :=
    (some ((nth 0 ds_5) : D)).bind fun t149_1 =>
    (some ((nth 1 ds_5) : D)).bind fun t150_1 =>
    (dBin tab .lss ty3 t149_1 t150_1).bind fun t151_1 =>
    dIf t151_1
      ((some ((nth 0 ds_5) : D)).bind fun t152_1 =>
    (some ((nth 1 ds_5) : D)).bind fun t153_1 =>
    (dBin tab .add ty3 t152_1 t153_1).bind fun t154_1 =>
    (dConv tab ty3 ty134 t154_1).bind fun t155_1 =>
    (dBin tab .shr ty134 t155_1 (.int .u64 1)).bind fun t156_1 =>
    (dConv tab ty134 ty3 t156_1).bind fun t157_1 =>
    (some (t157_1 : D)).bind fun t23_1 =>
    (some (t4 : D)).bind fun t158_1 =>
    (some (t0 : D)).bind fun t159_1 =>
    (some (t22_1 : D)).bind fun t160_1 =>
    (some (t23_1 : D)).bind fun t161_1 =>
    (dBin tab .sub ty3 t160_1 t161_1).bind fun t162_1 =>
    (dIndexAddr tab ty29 t159_1 t162_1).bind fun t163_1 =>
    (dLoad tab h_6 ty109 t163_1).bind fun t164_1 =>
    (some (t0 : D)).bind fun t165_1 =>
    (some (t23_1 : D)).bind fun t166_1 =>
    (dIndexAddr tab ty29 t165_1 t166_1).bind fun t167_1 =>
    (dLoad tab h_6 ty109 t167_1).bind fun t168_1 =>
    (callV R t158_1 [t164_1, t168_1] h_6).bind fun p169_1 =>
    (dBin tab .lss ty3 p169_1.1 (.int .i64 0)).bind fun t170_1 =>
    (dUn .not t170_1).bind fun t171_1 =>
    (dIf t171_1
      ((some (t23_1 : D)).bind fun t172_1 =>
      (dBin tab .add ty3 t172_1 (.int .i64 1)).bind fun t173_1 =>
      (some (t173_1 : D)).bind fun t20_7 =>
      some (.nrm, [t20_7, (nth 1 ds_5)], p169_1.2))
      ((some (t23_1 : D)).bind fun t174_1 =>
      (some (t174_1 : D)).bind fun t21_7 =>
      some (.nrm, [(nth 0 ds_5), t21_7], p169_1.2))).bind fun r_19 =>
    some ((unblk 9 r_19.1), [(nth 0 r_19.2.1), (nth 1 r_19.2.1), t23_1, t151_1, t171_1], r_19.2.2))
      (some ((.ext 8), [(nth 0 ds_5), (nth 1 ds_5), (nth 2 ds_5), t151_1, (nth 4 ds_5)], h_6))
/-- a loop: slots 20 21 23 151 171 -/
noncomputable def F1066_L6 (t0 : D) (t4 : D) (t22_2 : D) (ds_6 : List D) (h_7 : Hp) : Option Out :=
    (some ((nth 0 ds_6) : D)).bind fun t149_2 =>
    (some ((nth 1 ds_6) : D)).bind fun t150_2 =>
    (dBin tab .lss ty3 t149_2 t150_2).bind fun t151_2 =>
    dIf t151_2
      ((some ((nth 0 ds_6) : D)).bind fun t152_2 =>
    (some ((nth 1 ds_6) : D)).bind fun t153_2 =>
    (dBin tab .add ty3 t152_2 t153_2).bind fun t154_2 =>
    (dConv tab ty3 ty134 t154_2).bind fun t155_2 =>
    (dBin tab .shr ty134 t155_2 (.int .u64 1)).bind fun t156_2 =>
    (dConv tab ty134 ty3 t156_2).bind fun t157_2 =>
    (some (t157_2 : D)).bind fun t23_2 =>
    (some (t4 : D)).bind fun t158_2 =>
    (some (t0 : D)).bind fun t159_2 =>
    (some (t22_2 : D)).bind fun t160_2 =>
    (some (t23_2 : D)).bind fun t161_2 =>
    (dBin tab .sub ty3 t160_2 t161_2).bind fun t162_2 =>
    (dIndexAddr tab ty29 t159_2 t162_2).bind fun t163_2 =>
    (dLoad tab h_7 ty109 t163_2).bind fun t164_2 =>
    (some (t0 : D)).bind fun t165_2 =>
    (some (t23_2 : D)).bind fun t166_2 =>
    (dIndexAddr tab ty29 t165_2 t166_2).bind fun t167_2 =>
    (dLoad tab h_7 ty109 t167_2).bind fun t168_2 =>
    (callV R t158_2 [t164_2, t168_2] h_7).bind fun p169_2 =>
    (dBin tab .lss ty3 p169_2.1 (.int .i64 0)).bind fun t170_2 =>
    (dUn .not t170_2).bind fun t171_2 =>
    (dIf t171_2
      ((some (t23_2 : D)).bind fun t172_2 =>
      (dBin tab .add ty3 t172_2 (.int .i64 1)).bind fun t173_2 =>
      (some (t173_2 : D)).bind fun t20_11 =>
      some (.nrm, [t20_11, (nth 1 ds_6)], p169_2.2))
      ((some (t23_2 : D)).bind fun t174_2 =>
      (some (t174_2 : D)).bind fun t21_11 =>
      some (.nrm, [(nth 0 ds_6), t21_11], p169_2.2))).bind fun r_26 =>
    some ((unblk 9 r_26.1), [(nth 0 r_26.2.1), (nth 1 r_26.2.1), t23_2, t151_2, t171_2], r_26.2.2))
      (some ((.ext 8), [(nth 0 ds_6), (nth 1 ds_6), (nth 2 ds_6), t151_2, (nth 4 ds_6)], h_7))
/-- a loop: slots 14 15 16 85 103 -/
noncomputable def F1066_L7 (t0 : D) (t2 : D) (t4 : D) (ds_7 : List D) (h_8 : Hp) : Option Out :=
    (some ((nth 0 ds_7) : D)).bind fun t83_1 =>
    (some ((nth 1 ds_7) : D)).bind fun t84_1 =>
    (dBin tab .lss ty3 t83_1 t84_1).bind fun t85_1 =>
    dIf t85_1
      ((some ((nth 0 ds_7) : D)).bind fun t86_1 =>
    (some ((nth 1 ds_7) : D)).bind fun t87_1 =>
    (dBin tab .add ty3 t86_1 t87_1).bind fun t88_1 =>
    (dConv tab ty3 ty134 t88_1).bind fun t89_1 =>
    (dBin tab .shr ty134 t89_1 (.int .u64 1)).bind fun t90_1 =>
    (dConv tab ty134 ty3 t90_1).bind fun t91_1 =>
    (some (t91_1 : D)).bind fun t16_1 =>
    (some (t4 : D)).bind fun t92_1 =>
    (some (t0 : D)).bind fun t93_1 =>
    (some (t2 : D)).bind fun t94_1 =>
    (dIndexAddr tab ty29 t93_1 t94_1).bind fun t95_1 =>
    (dLoad tab h_8 ty109 t95_1).bind fun t96_1 =>
    (some (t0 : D)).bind fun t97_1 =>
    (some (t16_1 : D)).bind fun t98_1 =>
    (dIndexAddr tab ty29 t97_1 t98_1).bind fun t99_1 =>
    (dLoad tab h_8 ty109 t99_1).bind fun t100_1 =>
    (callV R t92_1 [t96_1, t100_1] h_8).bind fun p101_1 =>
    (dBin tab .lss ty3 p101_1.1 (.int .i64 0)).bind fun t102_1 =>
    (dUn .not t102_1).bind fun t103_1 =>
    (dIf t103_1
      ((some (t16_1 : D)).bind fun t104_1 =>
      (dBin tab .add ty3 t104_1 (.int .i64 1)).bind fun t105_1 =>
      (some (t105_1 : D)).bind fun t14_3 =>
      some (.nrm, [t14_3, (nth 1 ds_7)], p101_1.2))
      ((some (t16_1 : D)).bind fun t106_1 =>
      (some (t106_1 : D)).bind fun t15_3 =>
      some (.nrm, [(nth 0 ds_7), t15_3], p101_1.2))).bind fun r_32 =>
    some ((unblk 5 r_32.1), [(nth 0 r_32.2.1), (nth 1 r_32.2.1), t16_1, t85_1, t103_1], r_32.2.2))
      (some ((.ext 4), [(nth 0 ds_7), (nth 1 ds_7), (nth 2 ds_7), t85_1, (nth 4 ds_7)], h_8))
/-- a loop: slots 17 110 -/
noncomputable def F1066_L8 (t0 : D) (r_33 : Out) (ds_8 : List D) (h_9 : Hp) : Option Out :=
    (some ((nth 0 ds_8) : D)).bind fun t108_1 =>
    (some ((nth 0 r_33.2.1) : D)).bind fun t109_1 =>
    (dBin tab .gtr ty3 t108_1 t109_1).bind fun t110_1 =>
    dIf t110_1
      ((some (t0 : D)).bind fun t113_1 =>
    (some ((nth 0 ds_8) : D)).bind fun t114_1 =>
    (some (t0 : D)).bind fun t115_1 =>
    (some ((nth 0 ds_8) : D)).bind fun t116_1 =>
    (dBin tab .sub ty3 t116_1 (.int .i64 1)).bind fun t117_1 =>
    (some (t0 : D)).bind fun t118_1 =>
    (some ((nth 0 ds_8) : D)).bind fun t119_1 =>
    (dBin tab .sub ty3 t119_1 (.int .i64 1)).bind fun t120_1 =>
    (dIndexAddr tab ty29 t118_1 t120_1).bind fun t121_1 =>
    (dLoad tab h_9 ty109 t121_1).bind fun t122_1 =>
    (some (t0 : D)).bind fun t123_1 =>
    (some ((nth 0 ds_8) : D)).bind fun t124_1 =>
    (dIndexAddr tab ty29 t123_1 t124_1).bind fun t125_1 =>
    (dLoad tab h_9 ty109 t125_1).bind fun t126_1 =>
    (dIndexAddr tab ty29 t113_1 t114_1).bind fun t127_1 =>
    ((dStore tab h_9 ty109 t127_1 t122_1).bind fun h' => some ((.und : D), h')).bind fun p915_2 =>
    (dIndexAddr tab ty29 t115_1 t117_1).bind fun t128_1 =>
    ((dStore tab p915_2.2 ty109 t128_1 t126_1).bind fun h' => some ((.und : D), h')).bind fun p917_2 =>
    (some ((nth 0 ds_8) : D)).bind fun t111_1 =>
    (dBin tab .sub ty3 t111_1 (.int .i64 1)).bind fun t112_1 =>
    (some (t112_1 : D)).bind fun t17_3 =>
    some (.nrm, [t17_3, t110_1], p917_2.2))
      (some ((.ext 6), [(nth 0 ds_8), t110_1], h_9))
/-- a loop: slots 20 21 23 151 171 -/
noncomputable def F1066_L9 (t0 : D) (t4 : D) (t22_3 : D) (ds_9 : List D) (h_10 : Hp) : Option Out :=
    (some ((nth 0 ds_9) : D)).bind fun t149_3 =>
    (some ((nth 1 ds_9) : D)).bind fun t150_3 =>
    (dBin tab .lss ty3 t149_3 t150_3).bind fun t151_3 =>
    dIf t151_3
      ((some ((nth 0 ds_9) : D)).bind fun t152_3 =>
    (some ((nth 1 ds_9) : D)).bind fun t153_3 =>
    (dBin tab .add ty3 t152_3 t153_3).bind fun t154_3 =>
    (dConv tab ty3 ty134 t154_3).bind fun t155_3 =>
    (dBin tab .shr ty134 t155_3 (.int .u64 1)).bind fun t156_3 =>
    (dConv tab ty134 ty3 t156_3).bind fun t157_3 =>
    (some (t157_3 : D)).bind fun t23_3 =>
    (some (t4 : D)).bind fun t158_3 =>
    (some (t0 : D)).bind fun t159_3 =>
    (some (t22_3 : D)).bind fun t160_3 =>
    (some (t23_3 : D)).bind fun t161_3 =>
    (dBin tab .sub ty3 t160_3 t161_3).bind fun t162_3 =>
    (dIndexAddr tab ty29 t159_3 t162_3).bind fun t163_3 =>
    (dLoad tab h_10 ty109 t163_3).bind fun t164_3 =>
    (some (t0 : D)).bind fun t165_3 =>
    (some (t23_3 : D)).bind fun t166_3 =>
    (dIndexAddr tab ty29 t165_3 t166_3).bind fun t167_3 =>
    (dLoad tab h_10 ty109 t167_3).bind fun t168_3 =>
    (callV R t158_3 [t164_3, t168_3] h_10).bind fun p169_3 =>
    (dBin tab .lss ty3 p169_3.1 (.int .i64 0)).bind fun t170_3 =>
    (dUn .not t170_3).bind fun t171_3 =>
    (dIf t171_3
      ((some (t23_3 : D)).bind fun t172_3 =>
      (dBin tab .add ty3 t172_3 (.int .i64 1)).bind fun t173_3 =>
      (some (t173_3 : D)).bind fun t20_15 =>
      some (.nrm, [t20_15, (nth 1 ds_9)], p169_3.2))
      ((some (t23_3 : D)).bind fun t174_3 =>
      (some (t174_3 : D)).bind fun t21_15 =>
      some (.nrm, [(nth 0 ds_9), t21_15], p169_3.2))).bind fun r_38 =>
    some ((unblk 9 r_38.1), [(nth 0 r_38.2.1), (nth 1 r_38.2.1), t23_3, t151_3, t171_3], r_38.2.2))
      (some ((.ext 8), [(nth 0 ds_9), (nth 1 ds_9), (nth 2 ds_9), t151_3, (nth 4 ds_9)], h_10))
/-- a loop: slots 20 21 23 151 171 -/
noncomputable def F1066_L10 (t0 : D) (t4 : D) (t22_4 : D) (ds_10 : List D) (h_11 : Hp) : Option Out :=
    (some ((nth 0 ds_10) : D)).bind fun t149_4 =>
    (some ((nth 1 ds_10) : D)).bind fun t150_4 =>
    (dBin tab .lss ty3 t149_4 t150_4).bind fun t151_4 =>
    dIf t151_4
      ((some ((nth 0 ds_10) : D)).bind fun t152_4 =>
    (some ((nth 1 ds_10) : D)).bind fun t153_4 =>
    (dBin tab .add ty3 t152_4 t153_4).bind fun t154_4 =>
    (dConv tab ty3 ty134 t154_4).bind fun t155_4 =>
    (dBin tab .shr ty134 t155_4 (.int .u64 1)).bind fun t156_4 =>
    (dConv tab ty134 ty3 t156_4).bind fun t157_4 =>
    (some (t157_4 : D)).bind fun t23_4 =>
    (some (t4 : D)).bind fun t158_4 =>
    (some (t0 : D)).bind fun t159_4 =>
    (some (t22_4 : D)).bind fun t160_4 =>
    (some (t23_4 : D)).bind fun t161_4 =>
    (dBin tab .sub ty3 t160_4 t161_4).bind fun t162_4 =>
    (dIndexAddr tab ty29 t159_4 t162_4).bind fun t163_4 =>
    (dLoad tab h_11 ty109 t163_4).bind fun t164_4 =>
    (some (t0 : D)).bind fun t165_4 =>
    (some (t23_4 : D)).bind fun t166_4 =>
    (dIndexAddr tab ty29 t165_4 t166_4).bind fun t167_4 =>
    (dLoad tab h_11 ty109 t167_4).bind fun t168_4 =>
    (callV R t158_4 [t164_4, t168_4] h_11).bind fun p169_4 =>
    (dBin tab .lss ty3 p169_4.1 (.int .i64 0)).bind fun t170_4 =>
    (dUn .not t170_4).bind fun t171_4 =>
    (dIf t171_4
      ((some (t23_4 : D)).bind fun t172_4 =>
      (dBin tab .add ty3 t172_4 (.int .i64 1)).bind fun t173_4 =>
      (some (t173_4 : D)).bind fun t20_19 =>
      some (.nrm, [t20_19, (nth 1 ds_10)], p169_4.2))
      ((some (t23_4 : D)).bind fun t174_4 =>
      (some (t174_4 : D)).bind fun t21_19 =>
      some (.nrm, [(nth 0 ds_10), t21_19], p169_4.2))).bind fun r_45 =>
    some ((unblk 9 r_45.1), [(nth 0 r_45.2.1), (nth 1 r_45.2.1), t23_4, t151_4, t171_4], r_45.2.2))
      (some ((.ext 8), [(nth 0 ds_10), (nth 1 ds_10), (nth 2 ds_10), t151_4, (nth 4 ds_10)], h_11))
/-- a loop: slots 20 21 23 151 171 -/
noncomputable def F1066_L11 (t0 : D) (t4 : D) (t22_5 : D) (ds_11 : List D) (h_12 : Hp) : Option Out :=
    (some ((nth 0 ds_11) : D)).bind fun t149_5 =>
    (some ((nth 1 ds_11) : D)).bind fun t150_5 =>
    (dBin tab .lss ty3 t149_5 t150_5).bind fun t151_5 =>
    dIf t151_5
      ((some ((nth 0 ds_11) : D)).bind fun t152_5 =>
    (some ((nth 1 ds_11) : D)).bind fun t153_5 =>
    (dBin tab .add ty3 t152_5 t153_5).bind fun t154_5 =>
    (dConv tab ty3 ty134 t154_5).bind fun t155_5 =>
    (dBin tab .shr ty134 t155_5 (.int .u64 1)).bind fun t156_5 =>
    (dConv tab ty134 ty3 t156_5).bind fun t157_5 =>
    (some (t157_5 : D)).bind fun t23_5 =>
    (some (t4 : D)).bind fun t158_5 =>
    (some (t0 : D)).bind fun t159_5 =>
    (some (t22_5 : D)).bind fun t160_5 =>
    (some (t23_5 : D)).bind fun t161_5 =>
    (dBin tab .sub ty3 t160_5 t161_5).bind fun t162_5 =>
    (dIndexAddr tab ty29 t159_5 t162_5).bind fun t163_5 =>
    (dLoad tab h_12 ty109 t163_5).bind fun t164_5 =>
    (some (t0 : D)).bind fun t165_5 =>
    (some (t23_5 : D)).bind fun t166_5 =>
    (dIndexAddr tab ty29 t165_5 t166_5).bind fun t167_5 =>
    (dLoad tab h_12 ty109 t167_5).bind fun t168_5 =>
    (callV R t158_5 [t164_5, t168_5] h_12).bind fun p169_5 =>
    (dBin tab .lss ty3 p169_5.1 (.int .i64 0)).bind fun t170_5 =>
    (dUn .not t170_5).bind fun t171_5 =>
    (dIf t171_5
      ((some (t23_5 : D)).bind fun t172_5 =>
      (dBin tab .add ty3 t172_5 (.int .i64 1)).bind fun t173_5 =>
      (some (t173_5 : D)).bind fun t20_23 =>
      some (.nrm, [t20_23, (nth 1 ds_11)], p169_5.2))
      ((some (t23_5 : D)).bind fun t174_5 =>
      (some (t174_5 : D)).bind fun t21_23 =>
      some (.nrm, [(nth 0 ds_11), t21_23], p169_5.2))).bind fun r_52 =>
    some ((unblk 9 r_52.1), [(nth 0 r_52.2.1), (nth 1 r_52.2.1), t23_5, t151_5, t171_5], r_52.2.2))
      (some ((.ext 8), [(nth 0 ds_11), (nth 1 ds_11), (nth 2 ds_11), t151_5, (nth 4 ds_11)], h_12))
/-- a loop: slots 14 15 16 85 103 -/
noncomputable def F1066_L12 (t0 : D) (t2 : D) (t4 : D) (ds_12 : List D) (h_13 : Hp) : Option Out :=
    (some ((nth 0 ds_12) : D)).bind fun t83_2 =>
    (some ((nth 1 ds_12) : D)).bind fun t84_2 =>
    (dBin tab .lss ty3 t83_2 t84_2).bind fun t85_2 =>
    dIf t85_2
      ((some ((nth 0 ds_12) : D)).bind fun t86_2 =>
    (some ((nth 1 ds_12) : D)).bind fun t87_2 =>
    (dBin tab .add ty3 t86_2 t87_2).bind fun t88_2 =>
    (dConv tab ty3 ty134 t88_2).bind fun t89_2 =>
    (dBin tab .shr ty134 t89_2 (.int .u64 1)).bind fun t90_2 =>
    (dConv tab ty134 ty3 t90_2).bind fun t91_2 =>
    (some (t91_2 : D)).bind fun t16_2 =>
    (some (t4 : D)).bind fun t92_2 =>
    (some (t0 : D)).bind fun t93_2 =>
    (some (t2 : D)).bind fun t94_2 =>
    (dIndexAddr tab ty29 t93_2 t94_2).bind fun t95_2 =>
    (dLoad tab h_13 ty109 t95_2).bind fun t96_2 =>
    (some (t0 : D)).bind fun t97_2 =>
    (some (t16_2 : D)).bind fun t98_2 =>
    (dIndexAddr tab ty29 t97_2 t98_2).bind fun t99_2 =>
    (dLoad tab h_13 ty109 t99_2).bind fun t100_2 =>
    (callV R t92_2 [t96_2, t100_2] h_13).bind fun p101_2 =>
    (dBin tab .lss ty3 p101_2.1 (.int .i64 0)).bind fun t102_2 =>
    (dUn .not t102_2).bind fun t103_2 =>
    (dIf t103_2
      ((some (t16_2 : D)).bind fun t104_2 =>
      (dBin tab .add ty3 t104_2 (.int .i64 1)).bind fun t105_2 =>
      (some (t105_2 : D)).bind fun t14_5 =>
      some (.nrm, [t14_5, (nth 1 ds_12)], p101_2.2))
      ((some (t16_2 : D)).bind fun t106_2 =>
      (some (t106_2 : D)).bind fun t15_5 =>
      some (.nrm, [(nth 0 ds_12), t15_5], p101_2.2))).bind fun r_58 =>
    some ((unblk 5 r_58.1), [(nth 0 r_58.2.1), (nth 1 r_58.2.1), t16_2, t85_2, t103_2], r_58.2.2))
      (some ((.ext 4), [(nth 0 ds_12), (nth 1 ds_12), (nth 2 ds_12), t85_2, (nth 4 ds_12)], h_13))
/-- a loop: slots 17 110 -/
noncomputable def F1066_L13 (t0 : D) (r_59 : Out) (ds_13 : List D) (h_14 : Hp) : Option Out :=
    (some ((nth 0 ds_13) : D)).bind fun t108_2 =>
    (some ((nth 0 r_59.2.1) : D)).bind fun t109_2 =>
    (dBin tab .gtr ty3 t108_2 t109_2).bind fun t110_2 =>
    dIf t110_2
      ((some (t0 : D)).bind fun t113_2 =>
    (some ((nth 0 ds_13) : D)).bind fun t114_2 =>
    (some (t0 : D)).bind fun t115_2 =>
    (some ((nth 0 ds_13) : D)).bind fun t116_2 =>
    (dBin tab .sub ty3 t116_2 (.int .i64 1)).bind fun t117_2 =>
    (some (t0 : D)).bind fun t118_2 =>
    (some ((nth 0 ds_13) : D)).bind fun t119_2 =>
    (dBin tab .sub ty3 t119_2 (.int .i64 1)).bind fun t120_2 =>
    (dIndexAddr tab ty29 t118_2 t120_2).bind fun t121_2 =>
    (dLoad tab h_14 ty109 t121_2).bind fun t122_2 =>
    (some (t0 : D)).bind fun t123_2 =>
    (some ((nth 0 ds_13) : D)).bind fun t124_2 =>
    (dIndexAddr tab ty29 t123_2 t124_2).bind fun t125_2 =>
    (dLoad tab h_14 ty109 t125_2).bind fun t126_2 =>
    (dIndexAddr tab ty29 t113_2 t114_2).bind fun t127_2 =>
    ((dStore tab h_14 ty109 t127_2 t122_2).bind fun h' => some ((.und : D), h')).bind fun p915_3 =>
    (dIndexAddr tab ty29 t115_2 t117_2).bind fun t128_2 =>
    ((dStore tab p915_3.2 ty109 t128_2 t126_2).bind fun h' => some ((.und : D), h')).bind fun p917_3 =>
    (some ((nth 0 ds_13) : D)).bind fun t111_2 =>
    (dBin tab .sub ty3 t111_2 (.int .i64 1)).bind fun t112_2 =>
    (some (t112_2 : D)).bind fun t17_5 =>
    some (.nrm, [t17_5, t110_2], p917_3.2))
      (some ((.ext 6), [(nth 0 ds_13), t110_2], h_14))
/-- a loop: slots 20 21 23 151 171 -/
noncomputable def F1066_L14 (t0 : D) (t4 : D) (t22_6 : D) (ds_14 : List D) (h_15 : Hp) : Option Out :=
    (some ((nth 0 ds_14) : D)).bind fun t149_6 =>
    (some ((nth 1 ds_14) : D)).bind fun t150_6 =>
    (dBin tab .lss ty3 t149_6 t150_6).bind fun t151_6 =>
    dIf t151_6
      ((some ((nth 0 ds_14) : D)).bind fun t152_6 =>
    (some ((nth 1 ds_14) : D)).bind fun t153_6 =>
    (dBin tab .add ty3 t152_6 t153_6).bind fun t154_6 =>
    (dConv tab ty3 ty134 t154_6).bind fun t155_6 =>
    (dBin tab .shr ty134 t155_6 (.int .u64 1)).bind fun t156_6 =>
    (dConv tab ty134 ty3 t156_6).bind fun t157_6 =>
    (some (t157_6 : D)).bind fun t23_6 =>
    (some (t4 : D)).bind fun t158_6 =>
    (some (t0 : D)).bind fun t159_6 =>
    (some (t22_6 : D)).bind fun t160_6 =>
    (some (t23_6 : D)).bind fun t161_6 =>
    (dBin tab .sub ty3 t160_6 t161_6).bind fun t162_6 =>
    (dIndexAddr tab ty29 t159_6 t162_6).bind fun t163_6 =>
    (dLoad tab h_15 ty109 t163_6).bind fun t164_6 =>
    (some (t0 : D)).bind fun t165_6 =>
    (some (t23_6 : D)).bind fun t166_6 =>
    (dIndexAddr tab ty29 t165_6 t166_6).bind fun t167_6 =>
    (dLoad tab h_15 ty109 t167_6).bind fun t168_6 =>
    (callV R t158_6 [t164_6, t168_6] h_15).bind fun p169_6 =>
    (dBin tab .lss ty3 p169_6.1 (.int .i64 0)).bind fun t170_6 =>
    (dUn .not t170_6).bind fun t171_6 =>
    (dIf t171_6
      ((some (t23_6 : D)).bind fun t172_6 =>
      (dBin tab .add ty3 t172_6 (.int .i64 1)).bind fun t173_6 =>
      (some (t173_6 : D)).bind fun t20_27 =>
      some (.nrm, [t20_27, (nth 1 ds_14)], p169_6.2))
      ((some (t23_6 : D)).bind fun t174_6 =>
      (some (t174_6 : D)).bind fun t21_27 =>
      some (.nrm, [(nth 0 ds_14), t21_27], p169_6.2))).bind fun r_64 =>
    some ((unblk 9 r_64.1), [(nth 0 r_64.2.1), (nth 1 r_64.2.1), t23_6, t151_6, t171_6], r_64.2.2))
      (some ((.ext 8), [(nth 0 ds_14), (nth 1 ds_14), (nth 2 ds_14), t151_6, (nth 4 ds_14)], h_15))
/-- a loop: slots 20 21 23 151 171 -/
noncomputable def F1066_L15 (t0 : D) (t4 : D) (t22_7 : D) (ds_15 : List D) (h_16 : Hp) : Option Out :=
    (some ((nth 0 ds_15) : D)).bind fun t149_7 =>
    (some ((nth 1 ds_15) : D)).bind fun t150_7 =>
    (dBin tab .lss ty3 t149_7 t150_7).bind fun t151_7 =>
    dIf t151_7
      ((some ((nth 0 ds_15) : D)).bind fun t152_7 =>
    (some ((nth 1 ds_15) : D)).bind fun t153_7 =>
    (dBin tab .add ty3 t152_7 t153_7).bind fun t154_7 =>
    (dConv tab ty3 ty134 t154_7).bind fun t155_7 =>
    (dBin tab .shr ty134 t155_7 (.int .u64 1)).bind fun t156_7 =>
    (dConv tab ty134 ty3 t156_7).bind fun t157_7 =>
    (some (t157_7 : D)).bind fun t23_7 =>
    (some (t4 : D)).bind fun t158_7 =>
    (some (t0 : D)).bind fun t159_7 =>
    (some (t22_7 : D)).bind fun t160_7 =>
    (some (t23_7 : D)).bind fun t161_7 =>
    (dBin tab .sub ty3 t160_7 t161_7).bind fun t162_7 =>
    (dIndexAddr tab ty29 t159_7 t162_7).bind fun t163_7 =>
    (dLoad tab h_16 ty109 t163_7).bind fun t164_7 =>
    (some (t0 : D)).bind fun t165_7 =>
    (some (t23_7 : D)).bind fun t166_7 =>
    (dIndexAddr tab ty29 t165_7 t166_7).bind fun t167_7 =>
    (dLoad tab h_16 ty109 t167_7).bind fun t168_7 =>
    (callV R t158_7 [t164_7, t168_7] h_16).bind fun p169_7 =>
    (dBin tab .lss ty3 p169_7.1 (.int .i64 0)).bind fun t170_7 =>
    (dUn .not t170_7).bind fun t171_7 =>
    (dIf t171_7
      ((some (t23_7 : D)).bind fun t172_7 =>
      (dBin tab .add ty3 t172_7 (.int .i64 1)).bind fun t173_7 =>
      (some (t173_7 : D)).bind fun t20_31 =>
      some (.nrm, [t20_31, (nth 1 ds_15)], p169_7.2))
      ((some (t23_7 : D)).bind fun t174_7 =>
      (some (t174_7 : D)).bind fun t21_31 =>
      some (.nrm, [(nth 0 ds_15), t21_31], p169_7.2))).bind fun r_71 =>
    some ((unblk 9 r_71.1), [(nth 0 r_71.2.1), (nth 1 r_71.2.1), t23_7, t151_7, t171_7], r_71.2.2))
      (some ((.ext 8), [(nth 0 ds_15), (nth 1 ds_15), (nth 2 ds_15), t151_7, (nth 4 ds_15)], h_16))
/-- a loop: slots 20 21 23 151 171 -/
noncomputable def F1066_L16 (t0 : D) (t4 : D) (t22_8 : D) (ds_16 : List D) (h_17 : Hp) : Option Out :=
    (some ((nth 0 ds_16) : D)).bind fun t149_8 =>
    (some ((nth 1 ds_16) : D)).bind fun t150_8 =>
    (dBin tab .lss ty3 t149_8 t150_8).bind fun t151_8 =>
    dIf t151_8
      ((some ((nth 0 ds_16) : D)).bind fun t152_8 =>
    (some ((nth 1 ds_16) : D)).bind fun t153_8 =>
    (dBin tab .add ty3 t152_8 t153_8).bind fun t154_8 =>
    (dConv tab ty3 ty134 t154_8).bind fun t155_8 =>
    (dBin tab .shr ty134 t155_8 (.int .u64 1)).bind fun t156_8 =>
    (dConv tab ty134 ty3 t156_8).bind fun t157_8 =>
    (some (t157_8 : D)).bind fun t23_8 =>
    (some (t4 : D)).bind fun t158_8 =>
    (some (t0 : D)).bind fun t159_8 =>
    (some (t22_8 : D)).bind fun t160_8 =>
    (some (t23_8 : D)).bind fun t161_8 =>
    (dBin tab .sub ty3 t160_8 t161_8).bind fun t162_8 =>
    (dIndexAddr tab ty29 t159_8 t162_8).bind fun t163_8 =>
    (dLoad tab h_17 ty109 t163_8).bind fun t164_8 =>
    (some (t0 : D)).bind fun t165_8 =>
    (some (t23_8 : D)).bind fun t166_8 =>
    (dIndexAddr tab ty29 t165_8 t166_8).bind fun t167_8 =>
    (dLoad tab h_17 ty109 t167_8).bind fun t168_8 =>
    (callV R t158_8 [t164_8, t168_8] h_17).bind fun p169_8 =>
    (dBin tab .lss ty3 p169_8.1 (.int .i64 0)).bind fun t170_8 =>
    (dUn .not t170_8).bind fun t171_8 =>
    (dIf t171_8
      ((some (t23_8 : D)).bind fun t172_8 =>
      (dBin tab .add ty3 t172_8 (.int .i64 1)).bind fun t173_8 =>
      (some (t173_8 : D)).bind fun t20_35 =>
      some (.nrm, [t20_35, (nth 1 ds_16)], p169_8.2))
      ((some (t23_8 : D)).bind fun t174_8 =>
      (some (t174_8 : D)).bind fun t21_35 =>
      some (.nrm, [(nth 0 ds_16), t21_35], p169_8.2))).bind fun r_78 =>
    some ((unblk 9 r_78.1), [(nth 0 r_78.2.1), (nth 1 r_78.2.1), t23_8, t151_8, t171_8], r_78.2.2))
      (some ((.ext 8), [(nth 0 ds_16), (nth 1 ds_16), (nth 2 ds_16), t151_8, (nth 4 ds_16)], h_17))
noncomputable def F1066 (t0 : D) (t1 : D) (t2 : D) (t3 : D) (t4 : D) (h : Hp) : Option (D × Hp) :=
  (some (t2 : D)).bind fun t25 =>
  (some (t1 : D)).bind fun t26 =>
  (dBin tab .sub ty3 t25 t26).bind fun t27 =>
  (dBin tab .eql ty3 t27 (.int .i64 1)).bind fun t28 =>
  dIf t28
    ((some (t2 : D)).bind fun t29 =>
    (some (t29 : D)).bind fun t10 =>
    (some (t3 : D)).bind fun t30 =>
    (some (t30 : D)).bind fun t11 =>
    ((loopW (F1066_L0 t0 t1 t4) [t10, t11, .any, .any, .any] h).bind fun r =>
      some ((unblk 0 r.1), [(nth 0 r.2.1), (nth 1 r.2.1), (nth 2 r.2.1), (nth 3 r.2.1), (nth 4 r.2.1)], r.2.2)).bind fun r_2 =>
    toEnd r_2.1 ((some (t1 : D)).bind fun t54 =>
    (some (t54 : D)).bind fun t13 =>
    ((loopW (F1066_L1 t0 r_2) [t13, .any] r_2.2.2).bind fun r_3 =>
      some ((unblk 2 r_3.1), [(nth 0 r_3.2.1), (nth 1 r_3.2.1)], r_3.2.2)).bind fun r_4 =>
    toEnd r_4.1 ((some ([] : List D)).bind fun ds => some (mkRes ds, r_4.2.2)) fun x_1 => toEnd x_1 ((some (t3 : D)).bind fun t77 =>
  (some (t2 : D)).bind fun t78 =>
  (dBin tab .sub ty3 t77 t78).bind fun t79 =>
  (dBin tab .eql ty3 t79 (.int .i64 1)).bind fun t80 =>
  dIf t80
    ((some (t1 : D)).bind fun t81 =>
    (some (t81 : D)).bind fun t14 =>
    (some (t2 : D)).bind fun t82 =>
    (some (t82 : D)).bind fun t15 =>
    ((loopW (F1066_L2 t0 t2 t4) [t14, t15, .any, .any, .any] r_4.2.2).bind fun r_5 =>
      some ((unblk 4 r_5.1), [(nth 0 r_5.2.1), (nth 1 r_5.2.1), (nth 2 r_5.2.1), (nth 3 r_5.2.1), (nth 4 r_5.2.1)], r_5.2.2)).bind fun r_7 =>
    toEnd r_7.1 ((some (t2 : D)).bind fun t107 =>
    (some (t107 : D)).bind fun t17 =>
    ((loopW (F1066_L3 t0 r_7) [t17, .any] r_7.2.2).bind fun r_8 =>
      some ((unblk 6 r_8.1), [(nth 0 r_8.2.1), (nth 1 r_8.2.1)], r_8.2.2)).bind fun r_9 =>
    toEnd r_9.1 ((some ([] : List D)).bind fun ds => some (mkRes ds, r_9.2.2)) fun x_4 => toEnd x_4 ((some (t1 : D)).bind fun t129 =>
  (some (t3 : D)).bind fun t130 =>
  (dBin tab .add ty3 t129 t130).bind fun t131 =>
  (dConv tab ty3 ty134 t131).bind fun t132 =>
  (dBin tab .shr ty134 t132 (.int .u64 1)).bind fun t133 =>
  (dConv tab ty134 ty3 t133).bind fun t134 =>
  (some (t134 : D)).bind fun t18 =>
  (some (t18 : D)).bind fun t135 =>
  (some (t2 : D)).bind fun t136 =>
  (dBin tab .add ty3 t135 t136).bind fun t137 =>
  (some (t137 : D)).bind fun t19 =>
  (some (.int .i64 0 : D)).bind fun t20 =>
  (some (.int .i64 0 : D)).bind fun t21 =>
  (some (t2 : D)).bind fun t138 =>
  (some (t18 : D)).bind fun t139 =>
  (dBin tab .gtr ty3 t138 t139).bind fun t140 =>
  (dIf t140
    ((some (t19 : D)).bind fun t141 =>
    (some (t3 : D)).bind fun t142 =>
    (dBin tab .sub ty3 t141 t142).bind fun t143 =>
    (some (t143 : D)).bind fun t20_1 =>
    (some (t18 : D)).bind fun t144 =>
    (some (t144 : D)).bind fun t21_1 =>
    some (.nrm, [t20_1, t21_1], r_9.2.2))
    ((some (t1 : D)).bind fun t145 =>
    (some (t145 : D)).bind fun t20_2 =>
    (some (t2 : D)).bind fun t146 =>
    (some (t146 : D)).bind fun t21_2 =>
    some (.nrm, [t20_2, t21_2], r_9.2.2))).bind fun r_10 =>
  toEnd r_10.1 ((some (t19 : D)).bind fun t147 =>
  (dBin tab .sub ty3 t147 (.int .i64 1)).bind fun t148 =>
  (some (t148 : D)).bind fun t22 =>
  ((loopW (F1066_L4 t0 t4 t22) [(nth 0 r_10.2.1), (nth 1 r_10.2.1), .any, .any, .any] r_10.2.2).bind fun r_11 =>
    some ((unblk 8 r_11.1), [(nth 0 r_11.2.1), (nth 1 r_11.2.1), (nth 2 r_11.2.1), (nth 3 r_11.2.1), (nth 4 r_11.2.1)], r_11.2.2)).bind fun r_13 =>
  toEnd r_13.1 ((some (t19 : D)).bind fun t175 =>
  (some ((nth 0 r_13.2.1) : D)).bind fun t176 =>
  (dBin tab .sub ty3 t175 t176).bind fun t177 =>
  (some (t177 : D)).bind fun t24 =>
  (some ((nth 0 r_13.2.1) : D)).bind fun t178 =>
  (some (t2 : D)).bind fun t179 =>
  (dBin tab .lss ty3 t178 t179).bind fun t180 =>
  (some (t180 : D)).bind fun t181 =>
  (gd t181 true (some (t2 : D))).bind fun t182 =>
  (gd t181 true (some (t24 : D))).bind fun t183 =>
  (gd t181 true (dBin tab .lss ty3 t182 t183)).bind fun t184 =>
  (dPick t181 t184 (.bool false)).bind fun t185 =>
  (dIf t185
    ((some (t0 : D)).bind fun t186 =>
    (some ((nth 0 r_13.2.1) : D)).bind fun t187 =>
    (some (t2 : D)).bind fun t188 =>
    (some (t24 : D)).bind fun t189 =>
    (some (t4 : D)).bind fun t190 =>
    (R fn1068 [t186, t187, t188, t189, t190] r_13.2.2).bind fun p191 =>
    some (.nrm, ([] : List D), p191.2))
    (some (.nrm, ([] : List D), r_13.2.2))).bind fun r_14 =>
  toEnd r_14.1 ((some (t1 : D)).bind fun t192 =>
  (some ((nth 0 r_13.2.1) : D)).bind fun t193 =>
  (dBin tab .lss ty3 t192 t193).bind fun t194 =>
  (some (t194 : D)).bind fun t195 =>
  (gd t195 true (some ((nth 0 r_13.2.1) : D))).bind fun t196 =>
  (gd t195 true (some (t18 : D))).bind fun t197 =>
  (gd t195 true (dBin tab .lss ty3 t196 t197)).bind fun t198 =>
  (dPick t195 t198 (.bool false)).bind fun t199 =>
  (dIf t199
    ((some (t0 : D)).bind fun t200 =>
    (some (t1 : D)).bind fun t201 =>
    (some ((nth 0 r_13.2.1) : D)).bind fun t202 =>
    (some (t18 : D)).bind fun t203 =>
    (some (t4 : D)).bind fun t204 =>
    (R fn1066 [t200, t201, t202, t203, t204] r_14.2.2).bind fun p205 =>
    some (.nrm, ([] : List D), p205.2))
    (some (.nrm, ([] : List D), r_14.2.2))).bind fun r_15 =>
  toEnd r_15.1 ((some (t18 : D)).bind fun t206 =>
  (some (t24 : D)).bind fun t207 =>
  (dBin tab .lss ty3 t206 t207).bind fun t208 =>
  (some (t208 : D)).bind fun t209 =>
  (gd t209 true (some (t24 : D))).bind fun t210 =>
  (gd t209 true (some (t3 : D))).bind fun t211 =>
  (gd t209 true (dBin tab .lss ty3 t210 t211)).bind fun t212 =>
  (dPick t209 t212 (.bool false)).bind fun t213 =>
  (dIf t213
    ((some (t0 : D)).bind fun t214 =>
    (some (t18 : D)).bind fun t215 =>
    (some (t24 : D)).bind fun t216 =>
    (some (t3 : D)).bind fun t217 =>
    (some (t4 : D)).bind fun t218 =>
    (R fn1066 [t214, t215, t216, t217, t218] r_15.2.2).bind fun p219 =>
    some (.nrm, ([] : List D), p219.2))
    (some (.nrm, ([] : List D), r_15.2.2))).bind fun r_16 =>
  exEnd r_16.1 ((some ([] : List D)).bind fun ds => some (mkRes ds, r_16.2.2))) fun x_9 => exEnd x_9 ((some ([] : List D)).bind fun ds => some (mkRes ds, r_15.2.2))) fun x_8 => exEnd x_8 ((some ([] : List D)).bind fun ds => some (mkRes ds, r_14.2.2))) fun x_7 => exEnd x_7 ((some ([] : List D)).bind fun ds => some (mkRes ds, r_13.2.2))) fun x_6 => exEnd x_6 ((some ([] : List D)).bind fun ds => some (mkRes ds, r_10.2.2))) fun x_5 => exEnd x_5 ((some ([] : List D)).bind fun ds => some (mkRes ds, r_9.2.2))) fun x_3 => toEnd x_3 ((some (t1 : D)).bind fun t129_1 =>
  (some (t3 : D)).bind fun t130_1 =>
  (dBin tab .add ty3 t129_1 t130_1).bind fun t131_1 =>
  (dConv tab ty3 ty134 t131_1).bind fun t132_1 =>
  (dBin tab .shr ty134 t132_1 (.int .u64 1)).bind fun t133_1 =>
  (dConv tab ty134 ty3 t133_1).bind fun t134_1 =>
  (some (t134_1 : D)).bind fun t18_1 =>
  (some (t18_1 : D)).bind fun t135_1 =>
  (some (t2 : D)).bind fun t136_1 =>
  (dBin tab .add ty3 t135_1 t136_1).bind fun t137_1 =>
  (some (t137_1 : D)).bind fun t19_1 =>
  (some (.int .i64 0 : D)).bind fun t20_4 =>
  (some (.int .i64 0 : D)).bind fun t21_4 =>
  (some (t2 : D)).bind fun t138_1 =>
  (some (t18_1 : D)).bind fun t139_1 =>
  (dBin tab .gtr ty3 t138_1 t139_1).bind fun t140_1 =>
  (dIf t140_1
    ((some (t19_1 : D)).bind fun t141_1 =>
    (some (t3 : D)).bind fun t142_1 =>
    (dBin tab .sub ty3 t141_1 t142_1).bind fun t143_1 =>
    (some (t143_1 : D)).bind fun t20_5 =>
    (some (t18_1 : D)).bind fun t144_1 =>
    (some (t144_1 : D)).bind fun t21_5 =>
    some (.nrm, [t20_5, t21_5], r_7.2.2))
    ((some (t1 : D)).bind fun t145_1 =>
    (some (t145_1 : D)).bind fun t20_6 =>
    (some (t2 : D)).bind fun t146_1 =>
    (some (t146_1 : D)).bind fun t21_6 =>
    some (.nrm, [t20_6, t21_6], r_7.2.2))).bind fun r_17 =>
  toEnd r_17.1 ((some (t19_1 : D)).bind fun t147_1 =>
  (dBin tab .sub ty3 t147_1 (.int .i64 1)).bind fun t148_1 =>
  (some (t148_1 : D)).bind fun t22_1 =>
  ((loopW (F1066_L5 t0 t4 t22_1) [(nth 0 r_17.2.1), (nth 1 r_17.2.1), .any, .any, .any] r_17.2.2).bind fun r_18 =>
    some ((unblk 8 r_18.1), [(nth 0 r_18.2.1), (nth 1 r_18.2.1), (nth 2 r_18.2.1), (nth 3 r_18.2.1), (nth 4 r_18.2.1)], r_18.2.2)).bind fun r_20 =>
  toEnd r_20.1 ((some (t19_1 : D)).bind fun t175_1 =>
  (some ((nth 0 r_20.2.1) : D)).bind fun t176_1 =>
  (dBin tab .sub ty3 t175_1 t176_1).bind fun t177_1 =>
  (some (t177_1 : D)).bind fun t24_1 =>
  (some ((nth 0 r_20.2.1) : D)).bind fun t178_1 =>
  (some (t2 : D)).bind fun t179_1 =>
  (dBin tab .lss ty3 t178_1 t179_1).bind fun t180_1 =>
  (some (t180_1 : D)).bind fun t181_1 =>
  (gd t181_1 true (some (t2 : D))).bind fun t182_1 =>
  (gd t181_1 true (some (t24_1 : D))).bind fun t183_1 =>
  (gd t181_1 true (dBin tab .lss ty3 t182_1 t183_1)).bind fun t184_1 =>
  (dPick t181_1 t184_1 (.bool false)).bind fun t185_1 =>
  (dIf t185_1
    ((some (t0 : D)).bind fun t186_1 =>
    (some ((nth 0 r_20.2.1) : D)).bind fun t187_1 =>
    (some (t2 : D)).bind fun t188_1 =>
    (some (t24_1 : D)).bind fun t189_1 =>
    (some (t4 : D)).bind fun t190_1 =>
    (R fn1068 [t186_1, t187_1, t188_1, t189_1, t190_1] r_20.2.2).bind fun p191_1 =>
    some (.nrm, ([] : List D), p191_1.2))
    (some (.nrm, ([] : List D), r_20.2.2))).bind fun r_21 =>
  toEnd r_21.1 ((some (t1 : D)).bind fun t192_1 =>
  (some ((nth 0 r_20.2.1) : D)).bind fun t193_1 =>
  (dBin tab .lss ty3 t192_1 t193_1).bind fun t194_1 =>
  (some (t194_1 : D)).bind fun t195_1 =>
  (gd t195_1 true (some ((nth 0 r_20.2.1) : D))).bind fun t196_1 =>
  (gd t195_1 true (some (t18_1 : D))).bind fun t197_1 =>
  (gd t195_1 true (dBin tab .lss ty3 t196_1 t197_1)).bind fun t198_1 =>
  (dPick t195_1 t198_1 (.bool false)).bind fun t199_1 =>
  (dIf t199_1
    ((some (t0 : D)).bind fun t200_1 =>
    (some (t1 : D)).bind fun t201_1 =>
    (some ((nth 0 r_20.2.1) : D)).bind fun t202_1 =>
    (some (t18_1 : D)).bind fun t203_1 =>
    (some (t4 : D)).bind fun t204_1 =>
    (R fn1066 [t200_1, t201_1, t202_1, t203_1, t204_1] r_21.2.2).bind fun p205_1 =>
    some (.nrm, ([] : List D), p205_1.2))
    (some (.nrm, ([] : List D), r_21.2.2))).bind fun r_22 =>
  toEnd r_22.1 ((some (t18_1 : D)).bind fun t206_1 =>
  (some (t24_1 : D)).bind fun t207_1 =>
  (dBin tab .lss ty3 t206_1 t207_1).bind fun t208_1 =>
  (some (t208_1 : D)).bind fun t209_1 =>
  (gd t209_1 true (some (t24_1 : D))).bind fun t210_1 =>
  (gd t209_1 true (some (t3 : D))).bind fun t211_1 =>
  (gd t209_1 true (dBin tab .lss ty3 t210_1 t211_1)).bind fun t212_1 =>
  (dPick t209_1 t212_1 (.bool false)).bind fun t213_1 =>
  (dIf t213_1
    ((some (t0 : D)).bind fun t214_1 =>
    (some (t18_1 : D)).bind fun t215_1 =>
    (some (t24_1 : D)).bind fun t216_1 =>
    (some (t3 : D)).bind fun t217_1 =>
    (some (t4 : D)).bind fun t218_1 =>
    (R fn1066 [t214_1, t215_1, t216_1, t217_1, t218_1] r_22.2.2).bind fun p219_1 =>
    some (.nrm, ([] : List D), p219_1.2))
    (some (.nrm, ([] : List D), r_22.2.2))).bind fun r_23 =>
  exEnd r_23.1 ((some ([] : List D)).bind fun ds => some (mkRes ds, r_23.2.2))) fun x_14 => exEnd x_14 ((some ([] : List D)).bind fun ds => some (mkRes ds, r_22.2.2))) fun x_13 => exEnd x_13 ((some ([] : List D)).bind fun ds => some (mkRes ds, r_21.2.2))) fun x_12 => exEnd x_12 ((some ([] : List D)).bind fun ds => some (mkRes ds, r_20.2.2))) fun x_11 => exEnd x_11 ((some ([] : List D)).bind fun ds => some (mkRes ds, r_17.2.2))) fun x_10 => exEnd x_10 ((some ([] : List D)).bind fun ds => some (mkRes ds, r_7.2.2)))
    ((some (t1 : D)).bind fun t129_2 =>
  (some (t3 : D)).bind fun t130_2 =>
  (dBin tab .add ty3 t129_2 t130_2).bind fun t131_2 =>
  (dConv tab ty3 ty134 t131_2).bind fun t132_2 =>
  (dBin tab .shr ty134 t132_2 (.int .u64 1)).bind fun t133_2 =>
  (dConv tab ty134 ty3 t133_2).bind fun t134_2 =>
  (some (t134_2 : D)).bind fun t18_2 =>
  (some (t18_2 : D)).bind fun t135_2 =>
  (some (t2 : D)).bind fun t136_2 =>
  (dBin tab .add ty3 t135_2 t136_2).bind fun t137_2 =>
  (some (t137_2 : D)).bind fun t19_2 =>
  (some (.int .i64 0 : D)).bind fun t20_8 =>
  (some (.int .i64 0 : D)).bind fun t21_8 =>
  (some (t2 : D)).bind fun t138_2 =>
  (some (t18_2 : D)).bind fun t139_2 =>
  (dBin tab .gtr ty3 t138_2 t139_2).bind fun t140_2 =>
  (dIf t140_2
    ((some (t19_2 : D)).bind fun t141_2 =>
    (some (t3 : D)).bind fun t142_2 =>
    (dBin tab .sub ty3 t141_2 t142_2).bind fun t143_2 =>
    (some (t143_2 : D)).bind fun t20_9 =>
    (some (t18_2 : D)).bind fun t144_2 =>
    (some (t144_2 : D)).bind fun t21_9 =>
    some (.nrm, [t20_9, t21_9], r_4.2.2))
    ((some (t1 : D)).bind fun t145_2 =>
    (some (t145_2 : D)).bind fun t20_10 =>
    (some (t2 : D)).bind fun t146_2 =>
    (some (t146_2 : D)).bind fun t21_10 =>
    some (.nrm, [t20_10, t21_10], r_4.2.2))).bind fun r_24 =>
  toEnd r_24.1 ((some (t19_2 : D)).bind fun t147_2 =>
  (dBin tab .sub ty3 t147_2 (.int .i64 1)).bind fun t148_2 =>
  (some (t148_2 : D)).bind fun t22_2 =>
  ((loopW (F1066_L6 t0 t4 t22_2) [(nth 0 r_24.2.1), (nth 1 r_24.2.1), .any, .any, .any] r_24.2.2).bind fun r_25 =>
    some ((unblk 8 r_25.1), [(nth 0 r_25.2.1), (nth 1 r_25.2.1), (nth 2 r_25.2.1), (nth 3 r_25.2.1), (nth 4 r_25.2.1)], r_25.2.2)).bind fun r_27 =>
  toEnd r_27.1 ((some (t19_2 : D)).bind fun t175_2 =>
  (some ((nth 0 r_27.2.1) : D)).bind fun t176_2 =>
  (dBin tab .sub ty3 t175_2 t176_2).bind fun t177_2 =>
  (some (t177_2 : D)).bind fun t24_2 =>
  (some ((nth 0 r_27.2.1) : D)).bind fun t178_2 =>
  (some (t2 : D)).bind fun t179_2 =>
  (dBin tab .lss ty3 t178_2 t179_2).bind fun t180_2 =>
  (some (t180_2 : D)).bind fun t181_2 =>
  (gd t181_2 true (some (t2 : D))).bind fun t182_2 =>
  (gd t181_2 true (some (t24_2 : D))).bind fun t183_2 =>
  (gd t181_2 true (dBin tab .lss ty3 t182_2 t183_2)).bind fun t184_2 =>
  (dPick t181_2 t184_2 (.bool false)).bind fun t185_2 =>
  (dIf t185_2
    ((some (t0 : D)).bind fun t186_2 =>
    (some ((nth 0 r_27.2.1) : D)).bind fun t187_2 =>
    (some (t2 : D)).bind fun t188_2 =>
    (some (t24_2 : D)).bind fun t189_2 =>
    (some (t4 : D)).bind fun t190_2 =>
    (R fn1068 [t186_2, t187_2, t188_2, t189_2, t190_2] r_27.2.2).bind fun p191_2 =>
    some (.nrm, ([] : List D), p191_2.2))
    (some (.nrm, ([] : List D), r_27.2.2))).bind fun r_28 =>
  toEnd r_28.1 ((some (t1 : D)).bind fun t192_2 =>
  (some ((nth 0 r_27.2.1) : D)).bind fun t193_2 =>
  (dBin tab .lss ty3 t192_2 t193_2).bind fun t194_2 =>
  (some (t194_2 : D)).bind fun t195_2 =>
  (gd t195_2 true (some ((nth 0 r_27.2.1) : D))).bind fun t196_2 =>
  (gd t195_2 true (some (t18_2 : D))).bind fun t197_2 =>
  (gd t195_2 true (dBin tab .lss ty3 t196_2 t197_2)).bind fun t198_2 =>
  (dPick t195_2 t198_2 (.bool false)).bind fun t199_2 =>
  (dIf t199_2
    ((some (t0 : D)).bind fun t200_2 =>
    (some (t1 : D)).bind fun t201_2 =>
    (some ((nth 0 r_27.2.1) : D)).bind fun t202_2 =>
    (some (t18_2 : D)).bind fun t203_2 =>
    (some (t4 : D)).bind fun t204_2 =>
    (R fn1066 [t200_2, t201_2, t202_2, t203_2, t204_2] r_28.2.2).bind fun p205_2 =>
    some (.nrm, ([] : List D), p205_2.2))
    (some (.nrm, ([] : List D), r_28.2.2))).bind fun r_29 =>
  toEnd r_29.1 ((some (t18_2 : D)).bind fun t206_2 =>
  (some (t24_2 : D)).bind fun t207_2 =>
  (dBin tab .lss ty3 t206_2 t207_2).bind fun t208_2 =>
  (some (t208_2 : D)).bind fun t209_2 =>
  (gd t209_2 true (some (t24_2 : D))).bind fun t210_2 =>
  (gd t209_2 true (some (t3 : D))).bind fun t211_2 =>
  (gd t209_2 true (dBin tab .lss ty3 t210_2 t211_2)).bind fun t212_2 =>
  (dPick t209_2 t212_2 (.bool false)).bind fun t213_2 =>
  (dIf t213_2
    ((some (t0 : D)).bind fun t214_2 =>
    (some (t18_2 : D)).bind fun t215_2 =>
    (some (t24_2 : D)).bind fun t216_2 =>
    (some (t3 : D)).bind fun t217_2 =>
    (some (t4 : D)).bind fun t218_2 =>
    (R fn1066 [t214_2, t215_2, t216_2, t217_2, t218_2] r_29.2.2).bind fun p219_2 =>
    some (.nrm, ([] : List D), p219_2.2))
    (some (.nrm, ([] : List D), r_29.2.2))).bind fun r_30 =>
  exEnd r_30.1 ((some ([] : List D)).bind fun ds => some (mkRes ds, r_30.2.2))) fun x_18 => exEnd x_18 ((some ([] : List D)).bind fun ds => some (mkRes ds, r_29.2.2))) fun x_17 => exEnd x_17 ((some ([] : List D)).bind fun ds => some (mkRes ds, r_28.2.2))) fun x_16 => exEnd x_16 ((some ([] : List D)).bind fun ds => some (mkRes ds, r_27.2.2))) fun x_15 => exEnd x_15 ((some ([] : List D)).bind fun ds => some (mkRes ds, r_24.2.2)))) fun x_2 => exEnd x_2 ((some ([] : List D)).bind fun ds => some (mkRes ds, r_4.2.2))) fun x => toEnd x ((some (t3 : D)).bind fun t77_1 =>
  (some (t2 : D)).bind fun t78_1 =>
  (dBin tab .sub ty3 t77_1 t78_1).bind fun t79_1 =>
  (dBin tab .eql ty3 t79_1 (.int .i64 1)).bind fun t80_1 =>
  dIf t80_1
    ((some (t1 : D)).bind fun t81_1 =>
    (some (t81_1 : D)).bind fun t14_2 =>
    (some (t2 : D)).bind fun t82_1 =>
    (some (t82_1 : D)).bind fun t15_2 =>
    ((loopW (F1066_L7 t0 t2 t4) [t14_2, t15_2, .any, .any, .any] r_2.2.2).bind fun r_31 =>
      some ((unblk 4 r_31.1), [(nth 0 r_31.2.1), (nth 1 r_31.2.1), (nth 2 r_31.2.1), (nth 3 r_31.2.1), (nth 4 r_31.2.1)], r_31.2.2)).bind fun r_33 =>
    toEnd r_33.1 ((some (t2 : D)).bind fun t107_1 =>
    (some (t107_1 : D)).bind fun t17_2 =>
    ((loopW (F1066_L8 t0 r_33) [t17_2, .any] r_33.2.2).bind fun r_34 =>
      some ((unblk 6 r_34.1), [(nth 0 r_34.2.1), (nth 1 r_34.2.1)], r_34.2.2)).bind fun r_35 =>
    toEnd r_35.1 ((some ([] : List D)).bind fun ds => some (mkRes ds, r_35.2.2)) fun x_21 => toEnd x_21 ((some (t1 : D)).bind fun t129_3 =>
  (some (t3 : D)).bind fun t130_3 =>
  (dBin tab .add ty3 t129_3 t130_3).bind fun t131_3 =>
  (dConv tab ty3 ty134 t131_3).bind fun t132_3 =>
  (dBin tab .shr ty134 t132_3 (.int .u64 1)).bind fun t133_3 =>
  (dConv tab ty134 ty3 t133_3).bind fun t134_3 =>
  (some (t134_3 : D)).bind fun t18_3 =>
  (some (t18_3 : D)).bind fun t135_3 =>
  (some (t2 : D)).bind fun t136_3 =>
  (dBin tab .add ty3 t135_3 t136_3).bind fun t137_3 =>
  (some (t137_3 : D)).bind fun t19_3 =>
  (some (.int .i64 0 : D)).bind fun t20_12 =>
  (some (.int .i64 0 : D)).bind fun t21_12 =>
  (some (t2 : D)).bind fun t138_3 =>
  (some (t18_3 : D)).bind fun t139_3 =>
  (dBin tab .gtr ty3 t138_3 t139_3).bind fun t140_3 =>
  (dIf t140_3
    ((some (t19_3 : D)).bind fun t141_3 =>
    (some (t3 : D)).bind fun t142_3 =>
    (dBin tab .sub ty3 t141_3 t142_3).bind fun t143_3 =>
    (some (t143_3 : D)).bind fun t20_13 =>
    (some (t18_3 : D)).bind fun t144_3 =>
    (some (t144_3 : D)).bind fun t21_13 =>
    some (.nrm, [t20_13, t21_13], r_35.2.2))
    ((some (t1 : D)).bind fun t145_3 =>
    (some (t145_3 : D)).bind fun t20_14 =>
    (some (t2 : D)).bind fun t146_3 =>
    (some (t146_3 : D)).bind fun t21_14 =>
    some (.nrm, [t20_14, t21_14], r_35.2.2))).bind fun r_36 =>
  toEnd r_36.1 ((some (t19_3 : D)).bind fun t147_3 =>
  (dBin tab .sub ty3 t147_3 (.int .i64 1)).bind fun t148_3 =>
  (some (t148_3 : D)).bind fun t22_3 =>
  ((loopW (F1066_L9 t0 t4 t22_3) [(nth 0 r_36.2.1), (nth 1 r_36.2.1), .any, .any, .any] r_36.2.2).bind fun r_37 =>
    some ((unblk 8 r_37.1), [(nth 0 r_37.2.1), (nth 1 r_37.2.1), (nth 2 r_37.2.1), (nth 3 r_37.2.1), (nth 4 r_37.2.1)], r_37.2.2)).bind fun r_39 =>
  toEnd r_39.1 ((some (t19_3 : D)).bind fun t175_3 =>
  (some ((nth 0 r_39.2.1) : D)).bind fun t176_3 =>
  (dBin tab .sub ty3 t175_3 t176_3).bind fun t177_3 =>
  (some (t177_3 : D)).bind fun t24_3 =>
  (some ((nth 0 r_39.2.1) : D)).bind fun t178_3 =>
  (some (t2 : D)).bind fun t179_3 =>
  (dBin tab .lss ty3 t178_3 t179_3).bind fun t180_3 =>
  (some (t180_3 : D)).bind fun t181_3 =>
  (gd t181_3 true (some (t2 : D))).bind fun t182_3 =>
  (gd t181_3 true (some (t24_3 : D))).bind fun t183_3 =>
  (gd t181_3 true (dBin tab .lss ty3 t182_3 t183_3)).bind fun t184_3 =>
  (dPick t181_3 t184_3 (.bool false)).bind fun t185_3 =>
  (dIf t185_3
    ((some (t0 : D)).bind fun t186_3 =>
    (some ((nth 0 r_39.2.1) : D)).bind fun t187_3 =>
    (some (t2 : D)).bind fun t188_3 =>
    (some (t24_3 : D)).bind fun t189_3 =>
    (some (t4 : D)).bind fun t190_3 =>
    (R fn1068 [t186_3, t187_3, t188_3, t189_3, t190_3] r_39.2.2).bind fun p191_3 =>
    some (.nrm, ([] : List D), p191_3.2))
    (some (.nrm, ([] : List D), r_39.2.2))).bind fun r_40 =>
  toEnd r_40.1 ((some (t1 : D)).bind fun t192_3 =>
  (some ((nth 0 r_39.2.1) : D)).bind fun t193_3 =>
  (dBin tab .lss ty3 t192_3 t193_3).bind fun t194_3 =>
  (some (t194_3 : D)).bind fun t195_3 =>
  (gd t195_3 true (some ((nth 0 r_39.2.1) : D))).bind fun t196_3 =>
  (gd t195_3 true (some (t18_3 : D))).bind fun t197_3 =>
  (gd t195_3 true (dBin tab .lss ty3 t196_3 t197_3)).bind fun t198_3 =>
  (dPick t195_3 t198_3 (.bool false)).bind fun t199_3 =>
  (dIf t199_3
    ((some (t0 : D)).bind fun t200_3 =>
    (some (t1 : D)).bind fun t201_3 =>
    (some ((nth 0 r_39.2.1) : D)).bind fun t202_3 =>
    (some (t18_3 : D)).bind fun t203_3 =>
    (some (t4 : D)).bind fun t204_3 =>
    (R fn1066 [t200_3, t201_3, t202_3, t203_3, t204_3] r_40.2.2).bind fun p205_3 =>
    some (.nrm, ([] : List D), p205_3.2))
    (some (.nrm, ([] : List D), r_40.2.2))).bind fun r_41 =>
  toEnd r_41.1 ((some (t18_3 : D)).bind fun t206_3 =>
  (some (t24_3 : D)).bind fun t207_3 =>
  (dBin tab .lss ty3 t206_3 t207_3).bind fun t208_3 =>
  (some (t208_3 : D)).bind fun t209_3 =>
  (gd t209_3 true (some (t24_3 : D))).bind fun t210_3 =>
  (gd t209_3 true (some (t3 : D))).bind fun t211_3 =>
  (gd t209_3 true (dBin tab .lss ty3 t210_3 t211_3)).bind fun t212_3 =>
  (dPick t209_3 t212_3 (.bool false)).bind fun t213_3 =>
  (dIf t213_3
    ((some (t0 : D)).bind fun t214_3 =>
    (some (t18_3 : D)).bind fun t215_3 =>
    (some (t24_3 : D)).bind fun t216_3 =>
    (some (t3 : D)).bind fun t217_3 =>
    (some (t4 : D)).bind fun t218_3 =>
    (R fn1066 [t214_3, t215_3, t216_3, t217_3, t218_3] r_41.2.2).bind fun p219_3 =>
    some (.nrm, ([] : List D), p219_3.2))
    (some (.nrm, ([] : List D), r_41.2.2))).bind fun r_42 =>
  exEnd r_42.1 ((some ([] : List D)).bind fun ds => some (mkRes ds, r_42.2.2))) fun x_26 => exEnd x_26 ((some ([] : List D)).bind fun ds => some (mkRes ds, r_41.2.2))) fun x_25 => exEnd x_25 ((some ([] : List D)).bind fun ds => some (mkRes ds, r_40.2.2))) fun x_24 => exEnd x_24 ((some ([] : List D)).bind fun ds => some (mkRes ds, r_39.2.2))) fun x_23 => exEnd x_23 ((some ([] : List D)).bind fun ds => some (mkRes ds, r_36.2.2))) fun x_22 => exEnd x_22 ((some ([] : List D)).bind fun ds => some (mkRes ds, r_35.2.2))) fun x_20 => toEnd x_20 ((some (t1 : D)).bind fun t129_4 =>
  (some (t3 : D)).bind fun t130_4 =>
  (dBin tab .add ty3 t129_4 t130_4).bind fun t131_4 =>
  (dConv tab ty3 ty134 t131_4).bind fun t132_4 =>
  (dBin tab .shr ty134 t132_4 (.int .u64 1)).bind fun t133_4 =>
  (dConv tab ty134 ty3 t133_4).bind fun t134_4 =>
  (some (t134_4 : D)).bind fun t18_4 =>
  (some (t18_4 : D)).bind fun t135_4 =>
  (some (t2 : D)).bind fun t136_4 =>
  (dBin tab .add ty3 t135_4 t136_4).bind fun t137_4 =>
  (some (t137_4 : D)).bind fun t19_4 =>
  (some (.int .i64 0 : D)).bind fun t20_16 =>
  (some (.int .i64 0 : D)).bind fun t21_16 =>
  (some (t2 : D)).bind fun t138_4 =>
  (some (t18_4 : D)).bind fun t139_4 =>
  (dBin tab .gtr ty3 t138_4 t139_4).bind fun t140_4 =>
  (dIf t140_4
    ((some (t19_4 : D)).bind fun t141_4 =>
    (some (t3 : D)).bind fun t142_4 =>
    (dBin tab .sub ty3 t141_4 t142_4).bind fun t143_4 =>
    (some (t143_4 : D)).bind fun t20_17 =>
    (some (t18_4 : D)).bind fun t144_4 =>
    (some (t144_4 : D)).bind fun t21_17 =>
    some (.nrm, [t20_17, t21_17], r_33.2.2))
    ((some (t1 : D)).bind fun t145_4 =>
    (some (t145_4 : D)).bind fun t20_18 =>
    (some (t2 : D)).bind fun t146_4 =>
    (some (t146_4 : D)).bind fun t21_18 =>
    some (.nrm, [t20_18, t21_18], r_33.2.2))).bind fun r_43 =>
  toEnd r_43.1 ((some (t19_4 : D)).bind fun t147_4 =>
  (dBin tab .sub ty3 t147_4 (.int .i64 1)).bind fun t148_4 =>
  (some (t148_4 : D)).bind fun t22_4 =>
  ((loopW (F1066_L10 t0 t4 t22_4) [(nth 0 r_43.2.1), (nth 1 r_43.2.1), .any, .any, .any] r_43.2.2).bind fun r_44 =>
    some ((unblk 8 r_44.1), [(nth 0 r_44.2.1), (nth 1 r_44.2.1), (nth 2 r_44.2.1), (nth 3 r_44.2.1), (nth 4 r_44.2.1)], r_44.2.2)).bind fun r_46 =>
  toEnd r_46.1 ((some (t19_4 : D)).bind fun t175_4 =>
  (some ((nth 0 r_46.2.1) : D)).bind fun t176_4 =>
  (dBin tab .sub ty3 t175_4 t176_4).bind fun t177_4 =>
  (some (t177_4 : D)).bind fun t24_4 =>
  (some ((nth 0 r_46.2.1) : D)).bind fun t178_4 =>
  (some (t2 : D)).bind fun t179_4 =>
  (dBin tab .lss ty3 t178_4 t179_4).bind fun t180_4 =>
  (some (t180_4 : D)).bind fun t181_4 =>
  (gd t181_4 true (some (t2 : D))).bind fun t182_4 =>
  (gd t181_4 true (some (t24_4 : D))).bind fun t183_4 =>
  (gd t181_4 true (dBin tab .lss ty3 t182_4 t183_4)).bind fun t184_4 =>
  (dPick t181_4 t184_4 (.bool false)).bind fun t185_4 =>
  (dIf t185_4
    ((some (t0 : D)).bind fun t186_4 =>
    (some ((nth 0 r_46.2.1) : D)).bind fun t187_4 =>
    (some (t2 : D)).bind fun t188_4 =>
    (some (t24_4 : D)).bind fun t189_4 =>
    (some (t4 : D)).bind fun t190_4 =>
    (R fn1068 [t186_4, t187_4, t188_4, t189_4, t190_4] r_46.2.2).bind fun p191_4 =>
    some (.nrm, ([] : List D), p191_4.2))
    (some (.nrm, ([] : List D), r_46.2.2))).bind fun r_47 =>
  toEnd r_47.1 ((some (t1 : D)).bind fun t192_4 =>
  (some ((nth 0 r_46.2.1) : D)).bind fun t193_4 =>
  (dBin tab .lss ty3 t192_4 t193_4).bind fun t194_4 =>
  (some (t194_4 : D)).bind fun t195_4 =>
  (gd t195_4 true (some ((nth 0 r_46.2.1) : D))).bind fun t196_4 =>
  (gd t195_4 true (some (t18_4 : D))).bind fun t197_4 =>
  (gd t195_4 true (dBin tab .lss ty3 t196_4 t197_4)).bind fun t198_4 =>
  (dPick t195_4 t198_4 (.bool false)).bind fun t199_4 =>
  (dIf t199_4
    ((some (t0 : D)).bind fun t200_4 =>
    (some (t1 : D)).bind fun t201_4 =>
    (some ((nth 0 r_46.2.1) : D)).bind fun t202_4 =>
    (some (t18_4 : D)).bind fun t203_4 =>
    (some (t4 : D)).bind fun t204_4 =>
    (R fn1066 [t200_4, t201_4, t202_4, t203_4, t204_4] r_47.2.2).bind fun p205_4 =>
    some (.nrm, ([] : List D), p205_4.2))
    (some (.nrm, ([] : List D), r_47.2.2))).bind fun r_48 =>
  toEnd r_48.1 ((some (t18_4 : D)).bind fun t206_4 =>
  (some (t24_4 : D)).bind fun t207_4 =>
  (dBin tab .lss ty3 t206_4 t207_4).bind fun t208_4 =>
  (some (t208_4 : D)).bind fun t209_4 =>
  (gd t209_4 true (some (t24_4 : D))).bind fun t210_4 =>
  (gd t209_4 true (some (t3 : D))).bind fun t211_4 =>
  (gd t209_4 true (dBin tab .lss ty3 t210_4 t211_4)).bind fun t212_4 =>
  (dPick t209_4 t212_4 (.bool false)).bind fun t213_4 =>
  (dIf t213_4
    ((some (t0 : D)).bind fun t214_4 =>
    (some (t18_4 : D)).bind fun t215_4 =>
    (some (t24_4 : D)).bind fun t216_4 =>
    (some (t3 : D)).bind fun t217_4 =>
    (some (t4 : D)).bind fun t218_4 =>
    (R fn1066 [t214_4, t215_4, t216_4, t217_4, t218_4] r_48.2.2).bind fun p219_4 =>
    some (.nrm, ([] : List D), p219_4.2))
    (some (.nrm, ([] : List D), r_48.2.2))).bind fun r_49 =>
  exEnd r_49.1 ((some ([] : List D)).bind fun ds => some (mkRes ds, r_49.2.2))) fun x_31 => exEnd x_31 ((some ([] : List D)).bind fun ds => some (mkRes ds, r_48.2.2))) fun x_30 => exEnd x_30 ((some ([] : List D)).bind fun ds => some (mkRes ds, r_47.2.2))) fun x_29 => exEnd x_29 ((some ([] : List D)).bind fun ds => some (mkRes ds, r_46.2.2))) fun x_28 => exEnd x_28 ((some ([] : List D)).bind fun ds => some (mkRes ds, r_43.2.2))) fun x_27 => exEnd x_27 ((some ([] : List D)).bind fun ds => some (mkRes ds, r_33.2.2)))
    ((some (t1 : D)).bind fun t129_5 =>
  (some (t3 : D)).bind fun t130_5 =>
  (dBin tab .add ty3 t129_5 t130_5).bind fun t131_5 =>
  (dConv tab ty3 ty134 t131_5).bind fun t132_5 =>
  (dBin tab .shr ty134 t132_5 (.int .u64 1)).bind fun t133_5 =>
  (dConv tab ty134 ty3 t133_5).bind fun t134_5 =>
  (some (t134_5 : D)).bind fun t18_5 =>
  (some (t18_5 : D)).bind fun t135_5 =>
  (some (t2 : D)).bind fun t136_5 =>
  (dBin tab .add ty3 t135_5 t136_5).bind fun t137_5 =>
  (some (t137_5 : D)).bind fun t19_5 =>
  (some (.int .i64 0 : D)).bind fun t20_20 =>
  (some (.int .i64 0 : D)).bind fun t21_20 =>
  (some (t2 : D)).bind fun t138_5 =>
  (some (t18_5 : D)).bind fun t139_5 =>
  (dBin tab .gtr ty3 t138_5 t139_5).bind fun t140_5 =>
  (dIf t140_5
    ((some (t19_5 : D)).bind fun t141_5 =>
    (some (t3 : D)).bind fun t142_5 =>
    (dBin tab .sub ty3 t141_5 t142_5).bind fun t143_5 =>
    (some (t143_5 : D)).bind fun t20_21 =>
    (some (t18_5 : D)).bind fun t144_5 =>
    (some (t144_5 : D)).bind fun t21_21 =>
    some (.nrm, [t20_21, t21_21], r_2.2.2))
    ((some (t1 : D)).bind fun t145_5 =>
    (some (t145_5 : D)).bind fun t20_22 =>
    (some (t2 : D)).bind fun t146_5 =>
    (some (t146_5 : D)).bind fun t21_22 =>
    some (.nrm, [t20_22, t21_22], r_2.2.2))).bind fun r_50 =>
  toEnd r_50.1 ((some (t19_5 : D)).bind fun t147_5 =>
  (dBin tab .sub ty3 t147_5 (.int .i64 1)).bind fun t148_5 =>
  (some (t148_5 : D)).bind fun t22_5 =>
  ((loopW (F1066_L11 t0 t4 t22_5) [(nth 0 r_50.2.1), (nth 1 r_50.2.1), .any, .any, .any] r_50.2.2).bind fun r_51 =>
    some ((unblk 8 r_51.1), [(nth 0 r_51.2.1), (nth 1 r_51.2.1), (nth 2 r_51.2.1), (nth 3 r_51.2.1), (nth 4 r_51.2.1)], r_51.2.2)).bind fun r_53 =>
  toEnd r_53.1 ((some (t19_5 : D)).bind fun t175_5 =>
  (some ((nth 0 r_53.2.1) : D)).bind fun t176_5 =>
  (dBin tab .sub ty3 t175_5 t176_5).bind fun t177_5 =>
  (some (t177_5 : D)).bind fun t24_5 =>
  (some ((nth 0 r_53.2.1) : D)).bind fun t178_5 =>
  (some (t2 : D)).bind fun t179_5 =>
  (dBin tab .lss ty3 t178_5 t179_5).bind fun t180_5 =>
  (some (t180_5 : D)).bind fun t181_5 =>
  (gd t181_5 true (some (t2 : D))).bind fun t182_5 =>
  (gd t181_5 true (some (t24_5 : D))).bind fun t183_5 =>
  (gd t181_5 true (dBin tab .lss ty3 t182_5 t183_5)).bind fun t184_5 =>
  (dPick t181_5 t184_5 (.bool false)).bind fun t185_5 =>
  (dIf t185_5
    ((some (t0 : D)).bind fun t186_5 =>
    (some ((nth 0 r_53.2.1) : D)).bind fun t187_5 =>
    (some (t2 : D)).bind fun t188_5 =>
    (some (t24_5 : D)).bind fun t189_5 =>
    (some (t4 : D)).bind fun t190_5 =>
    (R fn1068 [t186_5, t187_5, t188_5, t189_5, t190_5] r_53.2.2).bind fun p191_5 =>
    some (.nrm, ([] : List D), p191_5.2))
    (some (.nrm, ([] : List D), r_53.2.2))).bind fun r_54 =>
  toEnd r_54.1 ((some (t1 : D)).bind fun t192_5 =>
  (some ((nth 0 r_53.2.1) : D)).bind fun t193_5 =>
  (dBin tab .lss ty3 t192_5 t193_5).bind fun t194_5 =>
  (some (t194_5 : D)).bind fun t195_5 =>
  (gd t195_5 true (some ((nth 0 r_53.2.1) : D))).bind fun t196_5 =>
  (gd t195_5 true (some (t18_5 : D))).bind fun t197_5 =>
  (gd t195_5 true (dBin tab .lss ty3 t196_5 t197_5)).bind fun t198_5 =>
  (dPick t195_5 t198_5 (.bool false)).bind fun t199_5 =>
  (dIf t199_5
    ((some (t0 : D)).bind fun t200_5 =>
    (some (t1 : D)).bind fun t201_5 =>
    (some ((nth 0 r_53.2.1) : D)).bind fun t202_5 =>
    (some (t18_5 : D)).bind fun t203_5 =>
    (some (t4 : D)).bind fun t204_5 =>
    (R fn1066 [t200_5, t201_5, t202_5, t203_5, t204_5] r_54.2.2).bind fun p205_5 =>
    some (.nrm, ([] : List D), p205_5.2))
    (some (.nrm, ([] : List D), r_54.2.2))).bind fun r_55 =>
  toEnd r_55.1 ((some (t18_5 : D)).bind fun t206_5 =>
  (some (t24_5 : D)).bind fun t207_5 =>
  (dBin tab .lss ty3 t206_5 t207_5).bind fun t208_5 =>
  (some (t208_5 : D)).bind fun t209_5 =>
  (gd t209_5 true (some (t24_5 : D))).bind fun t210_5 =>
  (gd t209_5 true (some (t3 : D))).bind fun t211_5 =>
  (gd t209_5 true (dBin tab .lss ty3 t210_5 t211_5)).bind fun t212_5 =>
  (dPick t209_5 t212_5 (.bool false)).bind fun t213_5 =>
  (dIf t213_5
    ((some (t0 : D)).bind fun t214_5 =>
    (some (t18_5 : D)).bind fun t215_5 =>
    (some (t24_5 : D)).bind fun t216_5 =>
    (some (t3 : D)).bind fun t217_5 =>
    (some (t4 : D)).bind fun t218_5 =>
    (R fn1066 [t214_5, t215_5, t216_5, t217_5, t218_5] r_55.2.2).bind fun p219_5 =>
    some (.nrm, ([] : List D), p219_5.2))
    (some (.nrm, ([] : List D), r_55.2.2))).bind fun r_56 =>
  exEnd r_56.1 ((some ([] : List D)).bind fun ds => some (mkRes ds, r_56.2.2))) fun x_35 => exEnd x_35 ((some ([] : List D)).bind fun ds => some (mkRes ds, r_55.2.2))) fun x_34 => exEnd x_34 ((some ([] : List D)).bind fun ds => some (mkRes ds, r_54.2.2))) fun x_33 => exEnd x_33 ((some ([] : List D)).bind fun ds => some (mkRes ds, r_53.2.2))) fun x_32 => exEnd x_32 ((some ([] : List D)).bind fun ds => some (mkRes ds, r_50.2.2)))) fun x_19 => exEnd x_19 ((some ([] : List D)).bind fun ds => some (mkRes ds, r_2.2.2)))
    ((some (t3 : D)).bind fun t77_2 =>
  (some (t2 : D)).bind fun t78_2 =>
  (dBin tab .sub ty3 t77_2 t78_2).bind fun t79_2 =>
  (dBin tab .eql ty3 t79_2 (.int .i64 1)).bind fun t80_2 =>
  dIf t80_2
    ((some (t1 : D)).bind fun t81_2 =>
    (some (t81_2 : D)).bind fun t14_4 =>
    (some (t2 : D)).bind fun t82_2 =>
    (some (t82_2 : D)).bind fun t15_4 =>
    ((loopW (F1066_L12 t0 t2 t4) [t14_4, t15_4, .any, .any, .any] h).bind fun r_57 =>
      some ((unblk 4 r_57.1), [(nth 0 r_57.2.1), (nth 1 r_57.2.1), (nth 2 r_57.2.1), (nth 3 r_57.2.1), (nth 4 r_57.2.1)], r_57.2.2)).bind fun r_59 =>
    toEnd r_59.1 ((some (t2 : D)).bind fun t107_2 =>
    (some (t107_2 : D)).bind fun t17_4 =>
    ((loopW (F1066_L13 t0 r_59) [t17_4, .any] r_59.2.2).bind fun r_60 =>
      some ((unblk 6 r_60.1), [(nth 0 r_60.2.1), (nth 1 r_60.2.1)], r_60.2.2)).bind fun r_61 =>
    toEnd r_61.1 ((some ([] : List D)).bind fun ds => some (mkRes ds, r_61.2.2)) fun x_37 => toEnd x_37 ((some (t1 : D)).bind fun t129_6 =>
  (some (t3 : D)).bind fun t130_6 =>
  (dBin tab .add ty3 t129_6 t130_6).bind fun t131_6 =>
  (dConv tab ty3 ty134 t131_6).bind fun t132_6 =>
  (dBin tab .shr ty134 t132_6 (.int .u64 1)).bind fun t133_6 =>
  (dConv tab ty134 ty3 t133_6).bind fun t134_6 =>
  (some (t134_6 : D)).bind fun t18_6 =>
  (some (t18_6 : D)).bind fun t135_6 =>
  (some (t2 : D)).bind fun t136_6 =>
  (dBin tab .add ty3 t135_6 t136_6).bind fun t137_6 =>
  (some (t137_6 : D)).bind fun t19_6 =>
  (some (.int .i64 0 : D)).bind fun t20_24 =>
  (some (.int .i64 0 : D)).bind fun t21_24 =>
  (some (t2 : D)).bind fun t138_6 =>
  (some (t18_6 : D)).bind fun t139_6 =>
  (dBin tab .gtr ty3 t138_6 t139_6).bind fun t140_6 =>
  (dIf t140_6
    ((some (t19_6 : D)).bind fun t141_6 =>
    (some (t3 : D)).bind fun t142_6 =>
    (dBin tab .sub ty3 t141_6 t142_6).bind fun t143_6 =>
    (some (t143_6 : D)).bind fun t20_25 =>
    (some (t18_6 : D)).bind fun t144_6 =>
    (some (t144_6 : D)).bind fun t21_25 =>
    some (.nrm, [t20_25, t21_25], r_61.2.2))
    ((some (t1 : D)).bind fun t145_6 =>
    (some (t145_6 : D)).bind fun t20_26 =>
    (some (t2 : D)).bind fun t146_6 =>
    (some (t146_6 : D)).bind fun t21_26 =>
    some (.nrm, [t20_26, t21_26], r_61.2.2))).bind fun r_62 =>
  toEnd r_62.1 ((some (t19_6 : D)).bind fun t147_6 =>
  (dBin tab .sub ty3 t147_6 (.int .i64 1)).bind fun t148_6 =>
  (some (t148_6 : D)).bind fun t22_6 =>
  ((loopW (F1066_L14 t0 t4 t22_6) [(nth 0 r_62.2.1), (nth 1 r_62.2.1), .any, .any, .any] r_62.2.2).bind fun r_63 =>
    some ((unblk 8 r_63.1), [(nth 0 r_63.2.1), (nth 1 r_63.2.1), (nth 2 r_63.2.1), (nth 3 r_63.2.1), (nth 4 r_63.2.1)], r_63.2.2)).bind fun r_65 =>
  toEnd r_65.1 ((some (t19_6 : D)).bind fun t175_6 =>
  (some ((nth 0 r_65.2.1) : D)).bind fun t176_6 =>
  (dBin tab .sub ty3 t175_6 t176_6).bind fun t177_6 =>
  (some (t177_6 : D)).bind fun t24_6 =>
  (some ((nth 0 r_65.2.1) : D)).bind fun t178_6 =>
  (some (t2 : D)).bind fun t179_6 =>
  (dBin tab .lss ty3 t178_6 t179_6).bind fun t180_6 =>
  (some (t180_6 : D)).bind fun t181_6 =>
  (gd t181_6 true (some (t2 : D))).bind fun t182_6 =>
  (gd t181_6 true (some (t24_6 : D))).bind fun t183_6 =>
  (gd t181_6 true (dBin tab .lss ty3 t182_6 t183_6)).bind fun t184_6 =>
  (dPick t181_6 t184_6 (.bool false)).bind fun t185_6 =>
  (dIf t185_6
    ((some (t0 : D)).bind fun t186_6 =>
    (some ((nth 0 r_65.2.1) : D)).bind fun t187_6 =>
    (some (t2 : D)).bind fun t188_6 =>
    (some (t24_6 : D)).bind fun t189_6 =>
    (some (t4 : D)).bind fun t190_6 =>
    (R fn1068 [t186_6, t187_6, t188_6, t189_6, t190_6] r_65.2.2).bind fun p191_6 =>
    some (.nrm, ([] : List D), p191_6.2))
    (some (.nrm, ([] : List D), r_65.2.2))).bind fun r_66 =>
  toEnd r_66.1 ((some (t1 : D)).bind fun t192_6 =>
  (some ((nth 0 r_65.2.1) : D)).bind fun t193_6 =>
  (dBin tab .lss ty3 t192_6 t193_6).bind fun t194_6 =>
  (some (t194_6 : D)).bind fun t195_6 =>
  (gd t195_6 true (some ((nth 0 r_65.2.1) : D))).bind fun t196_6 =>
  (gd t195_6 true (some (t18_6 : D))).bind fun t197_6 =>
  (gd t195_6 true (dBin tab .lss ty3 t196_6 t197_6)).bind fun t198_6 =>
  (dPick t195_6 t198_6 (.bool false)).bind fun t199_6 =>
  (dIf t199_6
    ((some (t0 : D)).bind fun t200_6 =>
    (some (t1 : D)).bind fun t201_6 =>
    (some ((nth 0 r_65.2.1) : D)).bind fun t202_6 =>
    (some (t18_6 : D)).bind fun t203_6 =>
    (some (t4 : D)).bind fun t204_6 =>
    (R fn1066 [t200_6, t201_6, t202_6, t203_6, t204_6] r_66.2.2).bind fun p205_6 =>
    some (.nrm, ([] : List D), p205_6.2))
    (some (.nrm, ([] : List D), r_66.2.2))).bind fun r_67 =>
  toEnd r_67.1 ((some (t18_6 : D)).bind fun t206_6 =>
  (some (t24_6 : D)).bind fun t207_6 =>
  (dBin tab .lss ty3 t206_6 t207_6).bind fun t208_6 =>
  (some (t208_6 : D)).bind fun t209_6 =>
  (gd t209_6 true (some (t24_6 : D))).bind fun t210_6 =>
  (gd t209_6 true (some (t3 : D))).bind fun t211_6 =>
  (gd t209_6 true (dBin tab .lss ty3 t210_6 t211_6)).bind fun t212_6 =>
  (dPick t209_6 t212_6 (.bool false)).bind fun t213_6 =>
  (dIf t213_6
    ((some (t0 : D)).bind fun t214_6 =>
    (some (t18_6 : D)).bind fun t215_6 =>
    (some (t24_6 : D)).bind fun t216_6 =>
    (some (t3 : D)).bind fun t217_6 =>
    (some (t4 : D)).bind fun t218_6 =>
    (R fn1066 [t214_6, t215_6, t216_6, t217_6, t218_6] r_67.2.2).bind fun p219_6 =>
    some (.nrm, ([] : List D), p219_6.2))
    (some (.nrm, ([] : List D), r_67.2.2))).bind fun r_68 =>
  exEnd r_68.1 ((some ([] : List D)).bind fun ds => some (mkRes ds, r_68.2.2))) fun x_42 => exEnd x_42 ((some ([] : List D)).bind fun ds => some (mkRes ds, r_67.2.2))) fun x_41 => exEnd x_41 ((some ([] : List D)).bind fun ds => some (mkRes ds, r_66.2.2))) fun x_40 => exEnd x_40 ((some ([] : List D)).bind fun ds => some (mkRes ds, r_65.2.2))) fun x_39 => exEnd x_39 ((some ([] : List D)).bind fun ds => some (mkRes ds, r_62.2.2))) fun x_38 => exEnd x_38 ((some ([] : List D)).bind fun ds => some (mkRes ds, r_61.2.2))) fun x_36 => toEnd x_36 ((some (t1 : D)).bind fun t129_7 =>
  (some (t3 : D)).bind fun t130_7 =>
  (dBin tab .add ty3 t129_7 t130_7).bind fun t131_7 =>
  (dConv tab ty3 ty134 t131_7).bind fun t132_7 =>
  (dBin tab .shr ty134 t132_7 (.int .u64 1)).bind fun t133_7 =>
  (dConv tab ty134 ty3 t133_7).bind fun t134_7 =>
  (some (t134_7 : D)).bind fun t18_7 =>
  (some (t18_7 : D)).bind fun t135_7 =>
  (some (t2 : D)).bind fun t136_7 =>
  (dBin tab .add ty3 t135_7 t136_7).bind fun t137_7 =>
  (some (t137_7 : D)).bind fun t19_7 =>
  (some (.int .i64 0 : D)).bind fun t20_28 =>
  (some (.int .i64 0 : D)).bind fun t21_28 =>
  (some (t2 : D)).bind fun t138_7 =>
  (some (t18_7 : D)).bind fun t139_7 =>
  (dBin tab .gtr ty3 t138_7 t139_7).bind fun t140_7 =>
  (dIf t140_7
    ((some (t19_7 : D)).bind fun t141_7 =>
    (some (t3 : D)).bind fun t142_7 =>
    (dBin tab .sub ty3 t141_7 t142_7).bind fun t143_7 =>
    (some (t143_7 : D)).bind fun t20_29 =>
    (some (t18_7 : D)).bind fun t144_7 =>
    (some (t144_7 : D)).bind fun t21_29 =>
    some (.nrm, [t20_29, t21_29], r_59.2.2))
    ((some (t1 : D)).bind fun t145_7 =>
    (some (t145_7 : D)).bind fun t20_30 =>
    (some (t2 : D)).bind fun t146_7 =>
    (some (t146_7 : D)).bind fun t21_30 =>
    some (.nrm, [t20_30, t21_30], r_59.2.2))).bind fun r_69 =>
  toEnd r_69.1 ((some (t19_7 : D)).bind fun t147_7 =>
  (dBin tab .sub ty3 t147_7 (.int .i64 1)).bind fun t148_7 =>
  (some (t148_7 : D)).bind fun t22_7 =>
  ((loopW (F1066_L15 t0 t4 t22_7) [(nth 0 r_69.2.1), (nth 1 r_69.2.1), .any, .any, .any] r_69.2.2).bind fun r_70 =>
    some ((unblk 8 r_70.1), [(nth 0 r_70.2.1), (nth 1 r_70.2.1), (nth 2 r_70.2.1), (nth 3 r_70.2.1), (nth 4 r_70.2.1)], r_70.2.2)).bind fun r_72 =>
  toEnd r_72.1 ((some (t19_7 : D)).bind fun t175_7 =>
  (some ((nth 0 r_72.2.1) : D)).bind fun t176_7 =>
  (dBin tab .sub ty3 t175_7 t176_7).bind fun t177_7 =>
  (some (t177_7 : D)).bind fun t24_7 =>
  (some ((nth 0 r_72.2.1) : D)).bind fun t178_7 =>
  (some (t2 : D)).bind fun t179_7 =>
  (dBin tab .lss ty3 t178_7 t179_7).bind fun t180_7 =>
  (some (t180_7 : D)).bind fun t181_7 =>
  (gd t181_7 true (some (t2 : D))).bind fun t182_7 =>
  (gd t181_7 true (some (t24_7 : D))).bind fun t183_7 =>
  (gd t181_7 true (dBin tab .lss ty3 t182_7 t183_7)).bind fun t184_7 =>
  (dPick t181_7 t184_7 (.bool false)).bind fun t185_7 =>
  (dIf t185_7
    ((some (t0 : D)).bind fun t186_7 =>
    (some ((nth 0 r_72.2.1) : D)).bind fun t187_7 =>
    (some (t2 : D)).bind fun t188_7 =>
    (some (t24_7 : D)).bind fun t189_7 =>
    (some (t4 : D)).bind fun t190_7 =>
    (R fn1068 [t186_7, t187_7, t188_7, t189_7, t190_7] r_72.2.2).bind fun p191_7 =>
    some (.nrm, ([] : List D), p191_7.2))
    (some (.nrm, ([] : List D), r_72.2.2))).bind fun r_73 =>
  toEnd r_73.1 ((some (t1 : D)).bind fun t192_7 =>
  (some ((nth 0 r_72.2.1) : D)).bind fun t193_7 =>
  (dBin tab .lss ty3 t192_7 t193_7).bind fun t194_7 =>
  (some (t194_7 : D)).bind fun t195_7 =>
  (gd t195_7 true (some ((nth 0 r_72.2.1) : D))).bind fun t196_7 =>
  (gd t195_7 true (some (t18_7 : D))).bind fun t197_7 =>
  (gd t195_7 true (dBin tab .lss ty3 t196_7 t197_7)).bind fun t198_7 =>
  (dPick t195_7 t198_7 (.bool false)).bind fun t199_7 =>
  (dIf t199_7
    ((some (t0 : D)).bind fun t200_7 =>
    (some (t1 : D)).bind fun t201_7 =>
    (some ((nth 0 r_72.2.1) : D)).bind fun t202_7 =>
    (some (t18_7 : D)).bind fun t203_7 =>
    (some (t4 : D)).bind fun t204_7 =>
    (R fn1066 [t200_7, t201_7, t202_7, t203_7, t204_7] r_73.2.2).bind fun p205_7 =>
    some (.nrm, ([] : List D), p205_7.2))
    (some (.nrm, ([] : List D), r_73.2.2))).bind fun r_74 =>
  toEnd r_74.1 ((some (t18_7 : D)).bind fun t206_7 =>
  (some (t24_7 : D)).bind fun t207_7 =>
  (dBin tab .lss ty3 t206_7 t207_7).bind fun t208_7 =>
  (some (t208_7 : D)).bind fun t209_7 =>
  (gd t209_7 true (some (t24_7 : D))).bind fun t210_7 =>
  (gd t209_7 true (some (t3 : D))).bind fun t211_7 =>
  (gd t209_7 true (dBin tab .lss ty3 t210_7 t211_7)).bind fun t212_7 =>
  (dPick t209_7 t212_7 (.bool false)).bind fun t213_7 =>
  (dIf t213_7
    ((some (t0 : D)).bind fun t214_7 =>
    (some (t18_7 : D)).bind fun t215_7 =>
    (some (t24_7 : D)).bind fun t216_7 =>
    (some (t3 : D)).bind fun t217_7 =>
    (some (t4 : D)).bind fun t218_7 =>
    (R fn1066 [t214_7, t215_7, t216_7, t217_7, t218_7] r_74.2.2).bind fun p219_7 =>
    some (.nrm, ([] : List D), p219_7.2))
    (some (.nrm, ([] : List D), r_74.2.2))).bind fun r_75 =>
  exEnd r_75.1 ((some ([] : List D)).bind fun ds => some (mkRes ds, r_75.2.2))) fun x_47 => exEnd x_47 ((some ([] : List D)).bind fun ds => some (mkRes ds, r_74.2.2))) fun x_46 => exEnd x_46 ((some ([] : List D)).bind fun ds => some (mkRes ds, r_73.2.2))) fun x_45 => exEnd x_45 ((some ([] : List D)).bind fun ds => some (mkRes ds, r_72.2.2))) fun x_44 => exEnd x_44 ((some ([] : List D)).bind fun ds => some (mkRes ds, r_69.2.2))) fun x_43 => exEnd x_43 ((some ([] : List D)).bind fun ds => some (mkRes ds, r_59.2.2)))
    ((some (t1 : D)).bind fun t129_8 =>
  (some (t3 : D)).bind fun t130_8 =>
  (dBin tab .add ty3 t129_8 t130_8).bind fun t131_8 =>
  (dConv tab ty3 ty134 t131_8).bind fun t132_8 =>
  (dBin tab .shr ty134 t132_8 (.int .u64 1)).bind fun t133_8 =>
  (dConv tab ty134 ty3 t133_8).bind fun t134_8 =>
  (some (t134_8 : D)).bind fun t18_8 =>
  (some (t18_8 : D)).bind fun t135_8 =>
  (some (t2 : D)).bind fun t136_8 =>
  (dBin tab .add ty3 t135_8 t136_8).bind fun t137_8 =>
  (some (t137_8 : D)).bind fun t19_8 =>
  (some (.int .i64 0 : D)).bind fun t20_32 =>
  (some (.int .i64 0 : D)).bind fun t21_32 =>
  (some (t2 : D)).bind fun t138_8 =>
  (some (t18_8 : D)).bind fun t139_8 =>
  (dBin tab .gtr ty3 t138_8 t139_8).bind fun t140_8 =>
  (dIf t140_8
    ((some (t19_8 : D)).bind fun t141_8 =>
    (some (t3 : D)).bind fun t142_8 =>
    (dBin tab .sub ty3 t141_8 t142_8).bind fun t143_8 =>
    (some (t143_8 : D)).bind fun t20_33 =>
    (some (t18_8 : D)).bind fun t144_8 =>
    (some (t144_8 : D)).bind fun t21_33 =>
    some (.nrm, [t20_33, t21_33], h))
    ((some (t1 : D)).bind fun t145_8 =>
    (some (t145_8 : D)).bind fun t20_34 =>
    (some (t2 : D)).bind fun t146_8 =>
    (some (t146_8 : D)).bind fun t21_34 =>
    some (.nrm, [t20_34, t21_34], h))).bind fun r_76 =>
  toEnd r_76.1 ((some (t19_8 : D)).bind fun t147_8 =>
  (dBin tab .sub ty3 t147_8 (.int .i64 1)).bind fun t148_8 =>
  (some (t148_8 : D)).bind fun t22_8 =>
  ((loopW (F1066_L16 t0 t4 t22_8) [(nth 0 r_76.2.1), (nth 1 r_76.2.1), .any, .any, .any] r_76.2.2).bind fun r_77 =>
    some ((unblk 8 r_77.1), [(nth 0 r_77.2.1), (nth 1 r_77.2.1), (nth 2 r_77.2.1), (nth 3 r_77.2.1), (nth 4 r_77.2.1)], r_77.2.2)).bind fun r_79 =>
  toEnd r_79.1 ((some (t19_8 : D)).bind fun t175_8 =>
  (some ((nth 0 r_79.2.1) : D)).bind fun t176_8 =>
  (dBin tab .sub ty3 t175_8 t176_8).bind fun t177_8 =>
  (some (t177_8 : D)).bind fun t24_8 =>
  (some ((nth 0 r_79.2.1) : D)).bind fun t178_8 =>
  (some (t2 : D)).bind fun t179_8 =>
  (dBin tab .lss ty3 t178_8 t179_8).bind fun t180_8 =>
  (some (t180_8 : D)).bind fun t181_8 =>
  (gd t181_8 true (some (t2 : D))).bind fun t182_8 =>
  (gd t181_8 true (some (t24_8 : D))).bind fun t183_8 =>
  (gd t181_8 true (dBin tab .lss ty3 t182_8 t183_8)).bind fun t184_8 =>
  (dPick t181_8 t184_8 (.bool false)).bind fun t185_8 =>
  (dIf t185_8
    ((some (t0 : D)).bind fun t186_8 =>
    (some ((nth 0 r_79.2.1) : D)).bind fun t187_8 =>
    (some (t2 : D)).bind fun t188_8 =>
    (some (t24_8 : D)).bind fun t189_8 =>
    (some (t4 : D)).bind fun t190_8 =>
    (R fn1068 [t186_8, t187_8, t188_8, t189_8, t190_8] r_79.2.2).bind fun p191_8 =>
    some (.nrm, ([] : List D), p191_8.2))
    (some (.nrm, ([] : List D), r_79.2.2))).bind fun r_80 =>
  toEnd r_80.1 ((some (t1 : D)).bind fun t192_8 =>
  (some ((nth 0 r_79.2.1) : D)).bind fun t193_8 =>
  (dBin tab .lss ty3 t192_8 t193_8).bind fun t194_8 =>
  (some (t194_8 : D)).bind fun t195_8 =>
  (gd t195_8 true (some ((nth 0 r_79.2.1) : D))).bind fun t196_8 =>
  (gd t195_8 true (some (t18_8 : D))).bind fun t197_8 =>
  (gd t195_8 true (dBin tab .lss ty3 t196_8 t197_8)).bind fun t198_8 =>
  (dPick t195_8 t198_8 (.bool false)).bind fun t199_8 =>
  (dIf t199_8
    ((some (t0 : D)).bind fun t200_8 =>
    (some (t1 : D)).bind fun t201_8 =>
    (some ((nth 0 r_79.2.1) : D)).bind fun t202_8 =>
    (some (t18_8 : D)).bind fun t203_8 =>
    (some (t4 : D)).bind fun t204_8 =>
    (R fn1066 [t200_8, t201_8, t202_8, t203_8, t204_8] r_80.2.2).bind fun p205_8 =>
    some (.nrm, ([] : List D), p205_8.2))
    (some (.nrm, ([] : List D), r_80.2.2))).bind fun r_81 =>
  toEnd r_81.1 ((some (t18_8 : D)).bind fun t206_8 =>
  (some (t24_8 : D)).bind fun t207_8 =>
  (dBin tab .lss ty3 t206_8 t207_8).bind fun t208_8 =>
  (some (t208_8 : D)).bind fun t209_8 =>
  (gd t209_8 true (some (t24_8 : D))).bind fun t210_8 =>
  (gd t209_8 true (some (t3 : D))).bind fun t211_8 =>
  (gd t209_8 true (dBin tab .lss ty3 t210_8 t211_8)).bind fun t212_8 =>
  (dPick t209_8 t212_8 (.bool false)).bind fun t213_8 =>
  (dIf t213_8
    ((some (t0 : D)).bind fun t214_8 =>
    (some (t18_8 : D)).bind fun t215_8 =>
    (some (t24_8 : D)).bind fun t216_8 =>
    (some (t3 : D)).bind fun t217_8 =>
    (some (t4 : D)).bind fun t218_8 =>
    (R fn1066 [t214_8, t215_8, t216_8, t217_8, t218_8] r_81.2.2).bind fun p219_8 =>
    some (.nrm, ([] : List D), p219_8.2))
    (some (.nrm, ([] : List D), r_81.2.2))).bind fun r_82 =>
  exEnd r_82.1 ((some ([] : List D)).bind fun ds => some (mkRes ds, r_82.2.2))) fun x_51 => exEnd x_51 ((some ([] : List D)).bind fun ds => some (mkRes ds, r_81.2.2))) fun x_50 => exEnd x_50 ((some ([] : List D)).bind fun ds => some (mkRes ds, r_80.2.2))) fun x_49 => exEnd x_49 ((some ([] : List D)).bind fun ds => some (mkRes ds, r_79.2.2))) fun x_48 => exEnd x_48 ((some ([] : List D)).bind fun ds => some (mkRes ds, r_76.2.2))))
theorem e1066 (t0 : D) (t1 : D) (t2 : D) (t3 : D) (t4 : D) (h : Hp) : R fn1066 [t0, t1, t2, t3, t4] h = F1066 t0 t1 t2 t3 t4 h :=
  (run_fn (X := X) (F := Fs) (fi := i47) (by kernel_rfl) _ _).trans (by kernel_rfl)
/-- a loop: slots 10 11 20 23 -/
noncomputable def F1068_L0 (t0 : D) (t2 : D) (t4 : D) (ds : List D) (h_1 : Hp) : Option Out :=
    (some ((nth 0 ds) : D)).bind fun t18 =>
    (some ((nth 1 ds) : D)).bind fun t19 =>
    (dBin tab .neq ty3 t18 t19).bind fun t20 =>
    dIf t20
      ((some ((nth 0 ds) : D)).bind fun t21 =>
    (some ((nth 1 ds) : D)).bind fun t22 =>
    (dBin tab .gtr ty3 t21 t22).bind fun t23 =>
    (dIf t23
      ((some (t0 : D)).bind fun t24 =>
      (some (t2 : D)).bind fun t25 =>
      (some ((nth 0 ds) : D)).bind fun t26 =>
      (dBin tab .sub ty3 t25 t26).bind fun t27 =>
      (some (t2 : D)).bind fun t28 =>
      (some ((nth 1 ds) : D)).bind fun t29 =>
      (some (t4 : D)).bind fun t30 =>
      (R fn1069 [t24, t27, t28, t29, t30] h_1).bind fun p31 =>
      (some ((nth 0 ds) : D)).bind fun t32 =>
      (some ((nth 1 ds) : D)).bind fun t33 =>
      (dBin tab .sub ty3 t32 t33).bind fun t34 =>
      (some (t34 : D)).bind fun t10_1 =>
      some (.nrm, [t10_1, (nth 1 ds)], p31.2))
      ((some (t0 : D)).bind fun t35 =>
      (some (t2 : D)).bind fun t36 =>
      (some ((nth 0 ds) : D)).bind fun t37 =>
      (dBin tab .sub ty3 t36 t37).bind fun t38 =>
      (some (t2 : D)).bind fun t39 =>
      (some ((nth 1 ds) : D)).bind fun t40 =>
      (dBin tab .add ty3 t39 t40).bind fun t41 =>
      (some ((nth 0 ds) : D)).bind fun t42 =>
      (dBin tab .sub ty3 t41 t42).bind fun t43 =>
      (some ((nth 0 ds) : D)).bind fun t44 =>
      (some (t4 : D)).bind fun t45 =>
      (R fn1069 [t35, t38, t43, t44, t45] h_1).bind fun p46 =>
      (some ((nth 1 ds) : D)).bind fun t47 =>
      (some ((nth 0 ds) : D)).bind fun t48 =>
      (dBin tab .sub ty3 t47 t48).bind fun t49 =>
      (some (t49 : D)).bind fun t11_1 =>
      some (.nrm, [(nth 0 ds), t11_1], p46.2))).bind fun r_1 =>
    some ((unblk 1 r_1.1), [(nth 0 r_1.2.1), (nth 1 r_1.2.1), t20, t23], r_1.2.2))
      (some ((.ext 0), [(nth 0 ds), (nth 1 ds), t20, (nth 3 ds)], h_1))
noncomputable def F1068 (t0 : D) (t1 : D) (t2 : D) (t3 : D) (t4 : D) (h : Hp) : Option (D × Hp) :=
  (some (t2 : D)).bind fun t12 =>
  (some (t1 : D)).bind fun t13 =>
  (dBin tab .sub ty3 t12 t13).bind fun t14 =>
  (some (t14 : D)).bind fun t10 =>
  (some (t3 : D)).bind fun t15 =>
  (some (t2 : D)).bind fun t16 =>
  (dBin tab .sub ty3 t15 t16).bind fun t17 =>
  (some (t17 : D)).bind fun t11 =>
  ((loopW (F1068_L0 t0 t2 t4) [t10, t11, .any, .any] h).bind fun r =>
    some ((unblk 0 r.1), [(nth 0 r.2.1), (nth 1 r.2.1), (nth 2 r.2.1), (nth 3 r.2.1)], r.2.2)).bind fun r_2 =>
  toEnd r_2.1 ((some (t0 : D)).bind fun t50 =>
  (some (t2 : D)).bind fun t51 =>
  (some ((nth 0 r_2.2.1) : D)).bind fun t52 =>
  (dBin tab .sub ty3 t51 t52).bind fun t53 =>
  (some (t2 : D)).bind fun t54 =>
  (some ((nth 0 r_2.2.1) : D)).bind fun t55 =>
  (some (t4 : D)).bind fun t56 =>
  (R fn1069 [t50, t53, t54, t55, t56] r_2.2.2).bind fun p57 =>
  (some ([] : List D)).bind fun ds => some (mkRes ds, p57.2)) fun x => exEnd x ((some ([] : List D)).bind fun ds => some (mkRes ds, r_2.2.2))
theorem e1068 (t0 : D) (t1 : D) (t2 : D) (t3 : D) (t4 : D) (h : Hp) : R fn1068 [t0, t1, t2, t3, t4] h = F1068 t0 t1 t2 t3 t4 h :=
  (run_fn (X := X) (F := Fs) (fi := i49) (by kernel_rfl) _ _).trans (by kernel_rfl)
/-- a loop: slots 10 13 -/
noncomputable def F1069_L0 (t0 : D) (t1 : D) (t2 : D) (t3 : D) (ds : List D) (h_1 : Hp) : Option Out :=
    (some ((nth 0 ds) : D)).bind fun t11 =>
    (some (t3 : D)).bind fun t12 =>
    (dBin tab .lss ty3 t11 t12).bind fun t13 =>
    dIf t13
      ((some (t0 : D)).bind fun t16 =>
    (some (t1 : D)).bind fun t17 =>
    (some ((nth 0 ds) : D)).bind fun t18 =>
    (dBin tab .add ty3 t17 t18).bind fun t19 =>
    (some (t0 : D)).bind fun t20 =>
    (some (t2 : D)).bind fun t21 =>
    (some ((nth 0 ds) : D)).bind fun t22 =>
    (dBin tab .add ty3 t21 t22).bind fun t23 =>
    (some (t0 : D)).bind fun t24 =>
    (some (t2 : D)).bind fun t25 =>
    (some ((nth 0 ds) : D)).bind fun t26 =>
    (dBin tab .add ty3 t25 t26).bind fun t27 =>
    (dIndexAddr tab ty29 t24 t27).bind fun t28 =>
    (dLoad tab h_1 ty109 t28).bind fun t29 =>
    (some (t0 : D)).bind fun t30 =>
    (some (t1 : D)).bind fun t31 =>
    (some ((nth 0 ds) : D)).bind fun t32 =>
    (dBin tab .add ty3 t31 t32).bind fun t33 =>
    (dIndexAddr tab ty29 t30 t33).bind fun t34 =>
    (dLoad tab h_1 ty109 t34).bind fun t35 =>
    (dIndexAddr tab ty29 t16 t19).bind fun t36 =>
    ((dStore tab h_1 ty109 t36 t29).bind fun h' => some ((.und : D), h')).bind fun p921 =>
    (dIndexAddr tab ty29 t20 t23).bind fun t37 =>
    ((dStore tab p921.2 ty109 t37 t35).bind fun h' => some ((.und : D), h')).bind fun p923 =>
    (some ((nth 0 ds) : D)).bind fun t14 =>
    (dBin tab .add ty3 t14 (.int .i64 1)).bind fun t15 =>
    (some (t15 : D)).bind fun t10_1 =>
    some (.nrm, [t10_1, t13], p923.2))
      (some ((.ext 0), [(nth 0 ds), t13], h_1))
noncomputable def F1069 (t0 : D) (t1 : D) (t2 : D) (t3 : D) (t4 : D) (h : Hp) : Option (D × Hp) :=
  (some (.int .i64 0 : D)).bind fun t10 =>
  ((loopW (F1069_L0 t0 t1 t2 t3) [t10, .any] h).bind fun r =>
    some ((unblk 0 r.1), [(nth 0 r.2.1), (nth 1 r.2.1)], r.2.2)).bind fun r_1 =>
  exEnd r_1.1 ((some ([] : List D)).bind fun ds => some (mkRes ds, r_1.2.2))
theorem e1069 (t0 : D) (t1 : D) (t2 : D) (t3 : D) (t4 : D) (h : Hp) : R fn1069 [t0, t1, t2, t3, t4] h = F1069 t0 t1 t2 t3 t4 h :=
  (run_fn (X := X) (F := Fs) (fi := i50) (by kernel_rfl) _ _).trans (by kernel_rfl)
end Go.Proofs.YtmbjebbjeaafgaaDoor
