/- Functions as Lean functions on data. -/
import Derived.Test.YthaajlepgblimaaGreatDoorB1
set_option linter.unusedSimpArgs false
set_option linter.unusedVariables false
set_option linter.unnecessarySimpa false
set_option maxRecDepth 100000
namespace Go.Proofs.YthaajlepgblimaaGreatDoor
open Go.Eng Go.Pi
noncomputable def a8T (t5 : D) (ds : List D) (h_1 : Hp) : Option Out :=
 (a0a tab a0q 2 t5).bind fun t38 =>
 (a0c tab h_1 a0K t38).bind fun t39 =>
 (a0y tab a0K t39).bind fun t40 =>
 (a0k tab .lss ty3 (nth 1 ds) t40).bind fun t41 =>
 (gd t41 true (some (nth 0 ds))).bind fun t43 =>
 (gd t41 true (a0k tab .leq ty3 t43 (.int .i64 300))).bind fun t44 =>
 (a0M t41 t44 (.bool false)).bind fun t45 =>
 dIf t45
  ((a0a tab a0q 2 t5).bind fun t49 =>
 (a0c tab h_1 a0K t49).bind fun t50 =>
 (a0b tab a0K t50 (nth 1 ds)).bind fun t52 =>
 (a0a tab a0D 1 t52).bind fun t53 =>
 (a0a tab a0E 4 t53).bind fun t54 =>
 (a0c tab h_1 a1u t54).bind fun t55 =>
 (a0y tab a1u t55).bind fun t56 =>
 (a0a tab a0q 2 t5).bind fun t57 =>
 (a0c tab h_1 a0K t57).bind fun t58 =>
 (a0b tab a0K t58 (nth 1 ds)).bind fun t60 =>
 (a0a tab a0D 1 t60).bind fun t61 =>
 (a0a tab a0E 9 t61).bind fun t62 =>
 (a0c tab h_1 a1c t62).bind fun t63 =>
 (a0y tab a1c t63).bind fun t64 =>
 (a0k tab .add ty3 t56 t64).bind fun t65 =>
 (a0k tab .add ty3 (nth 0 ds) t65).bind fun t66 =>
 (a0k tab .add ty3 (nth 1 ds) (.int .i64 1)).bind fun t47 =>
 some (.nrm,[t66,t47,t45],h_1))
  (some ((.ext 0),[nth 0 ds,nth 1 ds,t45],h_1))
noncomputable def a8U (p162 : D × Hp) (t163 : D) (ds_2 : List D) (h_3 : Hp) : Option Out :=
 (a0k tab .lss ty3 (nth 6 ds_2) t163).bind fun t165 =>
 dIf t165
  ((a0b tab a2i p162.1 (nth 6 ds_2)).bind fun t166 =>
 (a0c tab h_3 a0H t166).bind fun t167 =>
 (R b3o [t167] h_3).bind fun p170 =>
 (a0p 0 p170.1).bind fun t171 =>
 (a0p 1 p170.1).bind fun t172 =>
 (a6t 3 t171).bind fun t27 =>
 (R b3q [t167] p170.2).bind fun p175 =>
 (a0p 0 p175.1).bind fun t176 =>
 (a0p 1 p175.1).bind fun t177 =>
 (a6t 3 t176).bind fun t29 =>
 (a0k tab .neq a5n t172 t177).bind fun t180 =>
 (gd t180 false (a0c tab p175.2 a0q t27)).bind fun t182 =>
 (gd t180 false (a0c tab p175.2 a0q t29)).bind fun t183 =>
 (gdW t180 false p175.2 (R b3p [t182,t183] p175.2)).bind fun p184 =>
 (gd t180 false (dUn .not p184.1)).bind fun t185 =>
 (a0M t180 (.bool true) t185).bind fun t186 =>
 dIf t186
  (some (.ret,[.bool false,t167,t27,t172,t29,t177,nth 6 ds_2,t165,t186],p184.2))
  ((a0k tab .add ty3 (nth 6 ds_2) (.int .i64 1)).bind fun t187 =>
 some (.nrm,[nth 0 ds_2,t167,t27,t172,t29,t177,t187,t165,t186],p184.2)))
  (some ((.ext 4),[nth 0 ds_2,nth 1 ds_2,nth 2 ds_2,nth 3 ds_2,nth 4 ds_2,nth 5 ds_2,nth 6 ds_2,t165,nth 8 ds_2],h_3))
noncomputable def b2D (t1 t3 t4 t13m : D) (ds_1 : List D) (h_2 : Hp) : Option Out :=
 (a0y tab a1G t13m).bind fun t86 =>
 (a0k tab .lss ty3 (nth 1 ds_1) t86).bind fun t87 =>
 dIf t87
  ((a0b tab a1G t13m (nth 1 ds_1)).bind fun t93 =>
 (a0c tab h_2 a0q t93).bind fun t94 =>
 (R a8l [t94] h_2).bind fun p95 =>
 (a0p 0 p95.1).bind fun t96 =>
 (a0p 1 p95.1).bind fun t97 =>
 (a0b tab a1G t13m (nth 1 ds_1)).bind fun t101 =>
 (a0c tab p95.2 a0q t101).bind fun t102 =>
 (R a8k [t102] p95.2).bind fun p103 =>
 (a0p 0 p103.1).bind fun t104 =>
 (a0p 1 p103.1).bind fun t105 =>
 (a0b tab a1G t13m (nth 1 ds_1)).bind fun t110 =>
 (a0c tab p103.2 a0q t110).bind fun t111 =>
 (R b6f [t1,t111] p103.2).bind fun p112 =>
 (a0p 0 p112.1).bind fun t113 =>
 (a0p 1 p112.1).bind fun t114 =>
 (a0b tab a1G t13m (nth 1 ds_1)).bind fun t119 =>
 (a0c tab p112.2 a0q t119).bind fun t120 =>
 (R b3g [t1,t120] p112.2).bind fun p121 =>
 (a0p 0 p121.1).bind fun t122 =>
 (a0p 1 p121.1).bind fun t123 =>
 (a0k tab .neq a5n t97 t105).bind fun t126 =>
 (gd t126 false (some t96)).bind fun t128 =>
 (gd t126 false (some t104)).bind fun t129 =>
 (gdW t126 false p121.2 (R b0o [t128,t129] p121.2)).bind fun p130 =>
 (gd t126 false (dUn .not p130.1)).bind fun t131 =>
 (a0M t126 (.bool true) t131).bind fun t132 =>
 (gd t132 false (some t114)).bind fun t134 =>
 (gd t132 false (some t123)).bind fun t135 =>
 (gd t132 false (a0k tab .neq a5n t134 t135)).bind fun t136 =>
 (a0M t132 (.bool true) t136).bind fun t137 =>
 (gd t137 false (some t113)).bind fun t139 =>
 (gd t137 false (some t122)).bind fun t140 =>
 (gdW t137 false p130.2 (R b0o [t139,t140] p130.2)).bind fun p141 =>
 (gd t137 false (dUn .not p141.1)).bind fun t142 =>
 (a0M t137 (.bool true) t142).bind fun t143 =>
 dIf t143
  (some (.ret,[.bool false,nth 1 ds_1,t96,t97,t104,t105,t113,t114,t122,t123,nth 10 ds_1,nth 11 ds_1,nth 12 ds_1,nth 13 ds_1,nth 14 ds_1,nth 15 ds_1,t87,t143,nth 18 ds_1,nth 19 ds_1,nth 20 ds_1,nth 21 ds_1,nth 22 ds_1,nth 23 ds_1],p141.2))
  ((a0C tab p141.2 a0H a0H (.nils) t104).bind fun p145 =>
 (a0y tab a0H p145.1).bind fun t147 =>
 (a0k tab .gtr ty3 t147 (.int .i64 0)).bind fun t148 =>
 (dIf t148
  ((a0y tab a0H p145.1).bind fun t152 =>
 (R b5Z [t3,t152] p145.2).bind fun p153 =>
 (a0b tab a0H p145.1 p153.1).bind fun t154 =>
 (a0c tab p153.2 ty5 t154).bind fun t155 =>
 (a0k tab .xor ty5 t155 t4).bind fun t157 =>
 (a0b tab a0H p145.1 p153.1).bind fun t158 =>
 ((a0h tab p153.2 ty5 t158 t157).bind fun h' => some ((.und : D),h')).bind fun p910 =>
 some (.nrm,([] : List D),p910.2))
  (some (.nrm,([] : List D),p145.2))).bind fun r_3 =>
 a0Q r_3.1 ((c7d tab (r_3.2.2.map fun _ => .dead) a2i 3 [0,1,2] [frz 0 r_3.2.2 3 t1,frz 0 r_3.2.2 3 t104,frz 0 r_3.2.2 3 p145.1]).bind fun p162 =>
 (a0y tab a2i p162.1).bind fun t163 =>
 ((a0I (a8U p162 t163) [nth 0 ds_1,nth 11 ds_1,nth 12 ds_1,nth 13 ds_1,nth 14 ds_1,nth 15 ds_1,.int .i64 0,nth 22 ds_1,nth 23 ds_1] p162.2).bind fun r_4 =>
 some ((a0L 4 r_4.1),[nth 0 r_4.2.1,nth 1 r_4.2.1,nth 2 r_4.2.1,nth 3 r_4.2.1,nth 4 r_4.2.1,nth 5 r_4.2.1,nth 6 r_4.2.1,nth 7 r_4.2.1,nth 8 r_4.2.1],r_4.2.2)).bind fun r_5 =>
 a0Q (a0L 3 r_5.1) ((a0k tab .add ty3 (nth 1 ds_1) (.int .i64 1)).bind fun t89 =>
 some (.nrm,[nth 0 r_5.2.1,t89,t96,t97,t104,t105,t113,t114,t122,t123,p145.1,nth 1 r_5.2.1,nth 2 r_5.2.1,nth 3 r_5.2.1,nth 4 r_5.2.1,nth 5 r_5.2.1,t87,t143,t148,p162.1,t163,nth 6 r_5.2.1,nth 7 r_5.2.1,nth 8 r_5.2.1],r_5.2.2)) fun x_2 => some (x_2,[nth 0 r_5.2.1,nth 1 ds_1,t96,t97,t104,t105,t113,t114,t122,t123,p145.1,nth 1 r_5.2.1,nth 2 r_5.2.1,nth 3 r_5.2.1,nth 4 r_5.2.1,nth 5 r_5.2.1,t87,t143,t148,p162.1,t163,nth 6 r_5.2.1,nth 7 r_5.2.1,nth 8 r_5.2.1],r_5.2.2)) fun x_1 => a0Q (a0L 3 x_1) ((a0k tab .add ty3 (nth 1 ds_1) (.int .i64 1)).bind fun t89_1 =>
 some (.nrm,[nth 0 ds_1,t89_1,t96,t97,t104,t105,t113,t114,t122,t123,p145.1,nth 11 ds_1,nth 12 ds_1,nth 13 ds_1,nth 14 ds_1,nth 15 ds_1,t87,t143,t148,nth 19 ds_1,nth 20 ds_1,nth 21 ds_1,nth 22 ds_1,nth 23 ds_1],r_3.2.2)) fun x_3 => some (x_3,[nth 0 ds_1,nth 1 ds_1,t96,t97,t104,t105,t113,t114,t122,t123,p145.1,nth 11 ds_1,nth 12 ds_1,nth 13 ds_1,nth 14 ds_1,nth 15 ds_1,t87,t143,t148,nth 19 ds_1,nth 20 ds_1,nth 21 ds_1,nth 22 ds_1,nth 23 ds_1],r_3.2.2)))
  (some ((.ext 2),[nth 0 ds_1,nth 1 ds_1,nth 2 ds_1,nth 3 ds_1,nth 4 ds_1,nth 5 ds_1,nth 6 ds_1,nth 7 ds_1,nth 8 ds_1,nth 9 ds_1,nth 10 ds_1,nth 11 ds_1,nth 12 ds_1,nth 13 ds_1,nth 14 ds_1,nth 15 ds_1,t87,nth 17 ds_1,nth 18 ds_1,nth 19 ds_1,nth 20 ds_1,nth 21 ds_1,nth 22 ds_1,nth 23 ds_1],h_2))
noncomputable def c4p (t0 t1 t2 t3 t4 : D) (h : Hp) : Option (D × Hp) :=
 (a2p t0).bind fun t5 =>
 (a0a tab a0q 2 t5).bind fun t31 =>
 (a0c tab h a0K t31).bind fun t32 =>
 (a0y tab a0K t32).bind fun t33 =>
 (a0y tab a0H t1).bind fun t35 =>
 (a0k tab .add ty3 t33 t35).bind fun t36 =>
 ((a0I (a8T t5) [t36,.int .i64 0,.any] h).bind fun r =>
 some ((a0L 0 r.1),[nth 0 r.2.1,nth 1 r.2.1,nth 2 r.2.1],r.2.2)).bind fun r_1 =>
 a0Q r_1.1 ((R b5J [] r_1.2.2).bind fun p67 =>
 (dUn .not p67.1).bind fun t68 =>
 (gd t68 false (some (nth 0 r_1.2.1))).bind fun t70 =>
 (gd t68 false (a0k tab .gtr ty3 t70 (.int .i64 300))).bind fun t71 =>
 (a0M t68 (.bool true) t71).bind fun t72 =>
 dIf t72
  ((a0k tab .gtr ty3 (nth 0 r_1.2.1) (.int .i64 300)).bind fun t74 =>
 scope h p67.2 (a0i [t74]))
  ((R b3f [t2] p67.2).bind fun p77 =>
 (a0p 0 p77.1).bind fun t78 =>
 (a0p 1 p77.1).bind fun t79 =>
 (a0c tab p77.2 a0q t5).bind fun t81 =>
 (a1h tab a1G 1 [0] [t81]).bind fun t82 =>
 ((a0C tab p77.2 a1G a1G t78 t82).bind fun p => some (c6H 0 p)).bind fun p83 =>
 ((a0I (b2D t1 t3 t4 p83.1) [.bool false,.int .i64 0,.any,.any,.any,.any,.any,.any,.any,.any,.any,.any,.any,.any,.any,.any,.any,.any,.any,.any,.any,.any,.any,.any] p83.2).bind fun r_2 =>
 some ((a0L 2 r_2.1),[nth 0 r_2.2.1,nth 1 r_2.2.1,nth 2 r_2.2.1,nth 3 r_2.2.1,nth 4 r_2.2.1,nth 5 r_2.2.1,nth 6 r_2.2.1,nth 7 r_2.2.1,nth 8 r_2.2.1,nth 9 r_2.2.1,nth 10 r_2.2.1,nth 11 r_2.2.1,nth 12 r_2.2.1,nth 13 r_2.2.1,nth 14 r_2.2.1,nth 15 r_2.2.1,nth 16 r_2.2.1,nth 17 r_2.2.1,nth 18 r_2.2.1,nth 19 r_2.2.1,nth 20 r_2.2.1,nth 21 r_2.2.1,nth 22 r_2.2.1,nth 23 r_2.2.1],r_2.2.2)).bind fun r_6 =>
 a0Q r_6.1 (scope h r_6.2.2 (a0i [.bool true])) fun x_4 => a1a x_4 (scope h r_6.2.2 (a0i [nth 0 r_6.2.1])))) fun x => a1a x (scope h r_1.2.2 (a0i [.bool false]))
theorem c8V (t0 t1 t2 t3 t4 : D) (h : Hp) : R b6h [t0,t1,t2,t3,t4] h = c4p t0 t1 t2 t3 t4 h :=
 er i3 (by kernel_rfl) (by kernel_rfl)
noncomputable def c3g (h : Hp) : Option (D × Hp) :=
 (a1h tab a0H 1 [0] [.int .u8 1]).bind fun t4 =>
 (R b2Z [.nils,t4] h).bind fun p5 =>
 (a0p 0 p5.1).bind fun t6 =>
 (a0p 1 p5.1).bind fun t7 =>
 (a0k tab .eql a5n t7 (.int .i64 0)).bind fun t9 =>
 (gd t9 true (some t6)).bind fun t11 =>
 (gd t9 true (a0y tab a0H t11)).bind fun t12 =>
 (gd t9 true (a0k tab .eql ty3 t12 (.int .i64 9))).bind fun t13 =>
 (a0M t9 t13 (.bool false)).bind fun t14 =>
 some (a0i [t14],p5.2)
theorem c7E (h : Hp) : R b5J [] h = c3g h :=
 er i6 (by kernel_rfl) (by kernel_rfl)
noncomputable def b2q (t5m : D) (ds : List D) (h_1 : Hp) : Option Out :=
 (a0y tab a1G t5m).bind fun t14 =>
 (a0k tab .lss ty3 (nth 1 ds) t14).bind fun t15 =>
 dIf t15
  ((a0b tab a1G t5m (nth 1 ds)).bind fun t22 =>
 (a0c tab h_1 a0q t22).bind fun t23 =>
 (R b3g [nth 0 ds,t23] h_1).bind fun p24 =>
 (a0p 0 p24.1).bind fun t25 =>
 (a0p 1 p24.1).bind fun t26 =>
 (a0k tab .add ty3 (nth 1 ds) (.int .i64 1)).bind fun t17 =>
 some (.nrm,[t25,t17,t15],p24.2))
  (some ((.ext 0),[nth 0 ds,nth 1 ds,t15],h_1))
noncomputable def c3J (t0 : D) (h : Hp) : Option (D × Hp) :=
 (R c9O [t0,.int .i64 400] h).bind fun p9 =>
 (R b3d [p9.1,.int .i64 1,.int .i64 5] p9.2).bind fun p11 =>
 ((a0I (b2q p11.1) [.nils,.int .i64 0,.any] p11.2).bind fun r =>
 some ((a0L 0 r.1),[nth 0 r.2.1,nth 1 r.2.1,nth 2 r.2.1],r.2.2)).bind fun r_1 =>
 a0Q r_1.1 (some (a0i [p11.1,nth 0 r_1.2.1],r_1.2.2)) fun x => a1a x (some (a0i [.nils,.nils],r_1.2.2))
theorem c8m (t0 : D) (h : Hp) : R b3f [t0] h = c3J t0 h :=
 er i7 (by kernel_rfl) (by kernel_rfl)
noncomputable def b2A (t28 t29 : D) (ds : List D) (h_1 : Hp) : Option Out :=
 (a0k tab .lss ty3 (nth 6 ds) t29).bind fun t31 =>
 dIf t31
  ((a0b tab a0K t28 (nth 6 ds)).bind fun t32 =>
 (a0c tab h_1 a0D t32).bind fun t33 =>
 (a6t 11 t33).bind fun t7 =>
 (a0c tab h_1 a0D t7).bind fun t35 =>
 (R b3j [t35] h_1).bind fun p36 =>
 (a0p 0 p36.1).bind fun t37 =>
 (a0p 1 p36.1).bind fun t38 =>
 (a0k tab .neq a5n t38 (.int .i64 0)).bind fun t40 =>
 dIf t40
  (some (.ret,[.nils,t38,nth 2 ds,t7,t37,t38,nth 6 ds,t31,t40],p36.2))
  ((a0C tab p36.2 a0H a0H (nth 2 ds) t37).bind fun p44 =>
 (a0k tab .add ty3 (nth 6 ds) (.int .i64 1)).bind fun t45 =>
 some (.nrm,[nth 0 ds,nth 1 ds,p44.1,t7,t37,t38,t45,t31,t40],p44.2)))
  (some ((.ext 0),[nth 0 ds,nth 1 ds,nth 2 ds,nth 3 ds,nth 4 ds,nth 5 ds,nth 6 ds,t31,nth 8 ds],h_1))
noncomputable def c1e (t0 : D) (h : Hp) : Option (D × Hp) :=
 (a2p t0).bind fun t1 =>
 (a0c tab h a0q t1).bind fun t10 =>
 (R b6a [t10] h).bind fun p11 =>
 (a0k tab .neq a5n p11.1 (.int .i64 0)).bind fun t13 =>
 dIf t13
  (scope h p11.2 (a0i [.nils,p11.1]))
  ((a0a tab a0q 0 t1).bind fun t15 =>
 (a0c tab p11.2 ty3 t15).bind fun t16 =>
 (R b0B [.nils,t16] p11.2).bind fun p17 =>
 (a0a tab a0q 1 t1).bind fun t18 =>
 (a0c tab p17.2 ty3 t18).bind fun t19 =>
 (R b0B [p17.1,t19] p17.2).bind fun p20 =>
 (a0a tab a0q 2 t1).bind fun t21 =>
 (a0c tab p20.2 a0K t21).bind fun t22 =>
 (a0y tab a0K t22).bind fun t23 =>
 (a0Z tab ty3 a3p t23).bind fun t24 =>
 (R a7s [t24] p20.2).bind fun p25 =>
 (a0C tab p25.2 a0H a0H p20.1 p25.1).bind fun p26 =>
 chk (a0c tab p11.2 ty3 t18 = some t19)
 (chk (a0c tab p11.2 a0K t21 = some t22)
 (chk (a0c tab p17.2 a0K t21 = some t22)
 ((a0a tab a0q 2 t1).bind fun t27 =>
 (a0c tab p26.2 a0K t27).bind fun t28 =>
 (a0y tab a0K t28).bind fun t29 =>
 ((a0I (b2A t28 t29) [.nils,.int .i64 0,p26.1,.any,.any,.any,.int .i64 0,.any,.any] p26.2).bind fun r =>
 some ((a0L 0 r.1),[nth 0 r.2.1,nth 1 r.2.1,nth 2 r.2.1,nth 3 r.2.1,nth 4 r.2.1,nth 5 r.2.1,nth 6 r.2.1,nth 7 r.2.1,nth 8 r.2.1],r.2.2)).bind fun r_1 =>
 a0Q r_1.1 (scope h r_1.2.2 (a0i [nth 2 r_1.2.1,.int .i64 0])) fun x => a1a x (scope h r_1.2.2 (a0i [nth 0 r_1.2.1,nth 1 r_1.2.1]))))))
theorem c4Q (t0 : D) (h : Hp) : R a8l [t0] h = c1e t0 h :=
 er i8 (by kernel_rfl) (by kernel_rfl)
noncomputable def b2s (t1 : D) (ds : List D) (h_1 : Hp) : Option Out :=
 (a0a tab a0q 2 t1).bind fun t28 =>
 (a0c tab h_1 a0K t28).bind fun t29 =>
 (a0y tab a0K t29).bind fun t30 =>
 (a0k tab .lss ty3 (nth 1 ds) t30).bind fun t31 =>
 dIf t31
  ((a0a tab a0q 2 t1).bind fun t35 =>
 (a0c tab h_1 a0K t35).bind fun t36 =>
 (a0b tab a0K t36 (nth 1 ds)).bind fun t38 =>
 (a0c tab h_1 a0D t38).bind fun t39 =>
 (R b3h [t39] h_1).bind fun p40 =>
 (a0p 0 p40.1).bind fun t41 =>
 (a0p 1 p40.1).bind fun t42 =>
 (a0C tab p40.2 a0H a0H (nth 0 ds) t41).bind fun p45 =>
 (a0k tab .add ty3 (nth 1 ds) (.int .i64 1)).bind fun t33 =>
 some (.nrm,[p45.1,t33,t41,t31],p45.2))
  (some ((.ext 0),[nth 0 ds,nth 1 ds,nth 2 ds,t31],h_1))
noncomputable def c1c (t0 : D) (h : Hp) : Option (D × Hp) :=
 (a2p t0).bind fun t1 =>
 (a0c tab h a0q t1).bind fun t9 =>
 (R b6b [t9] h).bind fun p10 =>
 (a0k tab .neq a5n p10.1 (.int .i64 0)).bind fun t12 =>
 dIf t12
  (scope h p10.2 (a0i [.nils,p10.1]))
  ((a0a tab a0q 0 t1).bind fun t14 =>
 (a0c tab p10.2 ty3 t14).bind fun t15 =>
 (a0Z tab ty3 a0J t15).bind fun t16 =>
 (R a4s [.nils,t16,.int .i64 8] p10.2).bind fun p17 =>
 (a0a tab a0q 1 t1).bind fun t18 =>
 (a0c tab p17.2 ty3 t18).bind fun t19 =>
 (a0Z tab ty3 a0J t19).bind fun t20 =>
 (R a4s [p17.1,t20,.int .i64 8] p17.2).bind fun p21 =>
 (a0a tab a0q 2 t1).bind fun t22 =>
 (a0c tab p21.2 a0K t22).bind fun t23 =>
 (a0y tab a0K t23).bind fun t24 =>
 (a0Z tab ty3 a0J t24).bind fun t25 =>
 (R a4s [p21.1,t25,.int .i64 4] p21.2).bind fun p26 =>
 chk (a0c tab p10.2 ty3 t18 = some t19)
 (chk (a0c tab p10.2 a0K t22 = some t23)
 (chk (a0c tab p17.2 a0K t22 = some t23)
 (((a0I (b2s t1) [p26.1,.int .i64 0,.any,.any] p26.2).bind fun r =>
 some ((a0L 0 r.1),[nth 0 r.2.1,nth 1 r.2.1,nth 2 r.2.1,nth 3 r.2.1],r.2.2)).bind fun r_1 =>
 a0Q r_1.1 (scope h r_1.2.2 (a0i [nth 0 r_1.2.1,.int .i64 0])) fun x => a1a x (scope h r_1.2.2 (a0i [.nils,.int .i64 0]))))))
theorem c4O (t0 : D) (h : Hp) : R a8k [t0] h = c1c t0 h :=
 er i9 (by kernel_rfl) (by kernel_rfl)
noncomputable def c1g (t0 t1 : D) (h : Hp) : Option (D × Hp) :=
 (a2p t1).bind fun t3 =>
 (a0c tab h a0q t3).bind fun t9 =>
 (R a8l [t9] h).bind fun p10 =>
 (a0p 0 p10.1).bind fun t11 =>
 (a0p 1 p10.1).bind fun t12 =>
 (a0k tab .neq a5n t12 (.int .i64 0)).bind fun t14 =>
 dIf t14
  (some (a0i [.nils,t12],p10.2))
  ((R b2Z [t0,t11] p10.2).bind fun p18 =>
 (a0p 0 p18.1).bind fun t19 =>
 (a0p 1 p18.1).bind fun t20 =>
 some (a0i [t19,t20],p18.2))
theorem c8Q (t0 t1 : D) (h : Hp) : R b6f [t0,t1] h = c1g t0 t1 h :=
 er i10 (by kernel_rfl) (by kernel_rfl)
noncomputable def c1b (t0 t1 : D) (h : Hp) : Option (D × Hp) :=
 (a2p t1).bind fun t3 =>
 (a0c tab h a0q t3).bind fun t9 =>
 (R a8k [t9] h).bind fun p10 =>
 (a0p 0 p10.1).bind fun t11 =>
 (a0p 1 p10.1).bind fun t12 =>
 (a0k tab .neq a5n t12 (.int .i64 0)).bind fun t14 =>
 dIf t14
  (some (a0i [.nils,t12],p10.2))
  ((R b5K [t0,t11] p10.2).bind fun p18 =>
 (a0p 0 p18.1).bind fun t19 =>
 (a0p 1 p18.1).bind fun t20 =>
 some (a0i [t19,t20],p18.2))
theorem c8o (t0 t1 : D) (h : Hp) : R b3g [t0,t1] h = c1b t0 t1 h :=
 er i11 (by kernel_rfl) (by kernel_rfl)
noncomputable def b2d (t0 t1 : D) (ds : List D) (h_1 : Hp) : Option Out :=
 (a0y tab a0H t0).bind fun t13 =>
 (a0k tab .lss ty3 (nth 1 ds) t13).bind fun t14 =>
 dIf t14
  ((a0b tab a0H t0 (nth 1 ds)).bind fun t19 =>
 (a0c tab h_1 ty5 t19).bind fun t20 =>
 (a0b tab a0H t1 (nth 1 ds)).bind fun t23 =>
 (a0c tab h_1 ty5 t23).bind fun t24 =>
 (a0k tab .neq ty5 t20 t24).bind fun t25 =>
 dIf t25
  (some (.ret,[.bool false,nth 1 ds,t14,t25],h_1))
  ((a0k tab .add ty3 (nth 1 ds) (.int .i64 1)).bind fun t16 =>
 some (.nrm,[nth 0 ds,t16,t14,t25],h_1)))
  (some ((.ext 0),[nth 0 ds,nth 1 ds,t14,nth 3 ds],h_1))
noncomputable def c3h (t0 t1 : D) (h : Hp) : Option (D × Hp) :=
 (a0y tab a0H t0).bind fun t7 =>
 (a0y tab a0H t1).bind fun t9 =>
 (a0k tab .neq ty3 t7 t9).bind fun t10 =>
 dIf t10
  (some (a0i [.bool false],h))
  (((a0I (b2d t0 t1) [.bool false,.int .i64 0,.any,.any] h).bind fun r =>
 some ((a0L 0 r.1),[nth 0 r.2.1,nth 1 r.2.1,nth 2 r.2.1,nth 3 r.2.1],r.2.2)).bind fun r_1 =>
 a0Q r_1.1 (some (a0i [.bool true],r_1.2.2)) fun x => a1a x (some (a0i [nth 0 r_1.2.1],r_1.2.2)))
theorem c7H (t0 t1 : D) (h : Hp) : R b0o [t0,t1] h = c3h t0 t1 h :=
 er i12 (by kernel_rfl) (by kernel_rfl)
noncomputable def c1a (t0 t1 : D) (h : Hp) : Option (D × Hp) :=
 (a0k tab .lss ty3 t1 (.int .i64 1)).bind fun t6 =>
 dIf t6
  (some (a0i [.int .i64 0],h))
  ((a0k tab .rem ty3 t0 t1).bind fun t9 =>
 (a0k tab .add ty3 t9 t1).bind fun t11 =>
 (a0k tab .rem ty3 t11 t1).bind fun t13 =>
 some (a0i [t13],h))
theorem c8j (t0 t1 : D) (h : Hp) : R b5Z [t0,t1] h = c1a t0 t1 h :=
 er i13 (by kernel_rfl) (by kernel_rfl)
noncomputable def b2B (p2 p20 : D × Hp) (ds : List D) (h_1 : Hp) : Option Out :=
 (a0k tab .gtr a3p (nth 2 ds) (.int .u32 0)).bind fun t28 =>
 (gd t28 true (some (nth 1 ds))).bind fun t30 =>
 (gd t28 true (a0y tab a0H t30)).bind fun t31 =>
 (gd t28 true (a0k tab .gtr ty3 t31 (.int .i64 0))).bind fun t32 =>
 (a0M t28 t32 (.bool false)).bind fun t33 =>
 dIf t33
  ((R b0w [nth 1 ds] h_1).bind fun p38 =>
 (a0p 0 p38.1).bind fun t39 =>
 (a0p 1 p38.1).bind fun t40 =>
 (a0p 2 p38.1).bind fun t41 =>
 (a6t 11 t39).bind fun t7 =>
 (a0k tab .neq a5n t41 (.int .i64 0)).bind fun t43 =>
 dIf t43
  ((a0X tab a0q [] []).bind fun t44 =>
 ((a0h tab p38.2 a0q p2.1 t44).bind fun h' => some ((.und : D),h')).bind fun p901_1 =>
 some (.ret,[.int .i64 22,nth 1 ds,nth 2 ds,t7,t40,t41,t33,t43],p901_1.2))
  ((a0a tab a0q 2 (.ptr p20.2.length 0 0)).bind fun t45 =>
 (a0c tab p38.2 a0K t45).bind fun t46 =>
 (a0c tab p38.2 a0D t7).bind fun t47 =>
 (a1h tab a0K 1 [0] [t47]).bind fun t48 =>
 (a0C tab p38.2 a0K a0K t46 t48).bind fun p49 =>
 (a0G tab a0H true false false [nth 1 ds,t40]).bind fun t52 =>
 (a0a tab a0q 2 (.ptr p20.2.length 0 0)).bind fun t53 =>
 ((a0h tab p49.2 a0K t53 p49.1).bind fun h' => some ((.und : D),h')).bind fun p909 =>
 (a0k tab .sub a3p (nth 2 ds) (.int .u32 1)).bind fun t35 =>
 some (.nrm,[nth 0 ds,t52,t35,t7,t40,t41,t33,t43],p909.2)))
  (some ((.ext 0),[nth 0 ds,nth 1 ds,nth 2 ds,nth 3 ds,nth 4 ds,nth 5 ds,t33,nth 7 ds],h_1))
noncomputable def c1f (t0 : D) (h : Hp) : Option (D × Hp) :=
 (some ((.ptr h.length 0 0 : D),a0F h a0q 3 [[.int .i64 0,.int .i64 0,.nils]])).bind fun p2 =>
 (a0y tab a0H t0).bind fun t13 =>
 (a0k tab .lss ty3 t13 (.int .i64 20)).bind fun t14 =>
 dIf t14
  ((a0X tab a0q [] []).bind fun t15 =>
 ((a0h tab p2.2 a0q p2.1 t15).bind fun h' => some ((.und : D),h')).bind fun p901 =>
 (a0c tab p901.2 a0q p2.1).bind fun d0 => scope h p901.2 (a0i [d0,.int .i64 22]))
  ((R a8m [t0] p2.2).bind fun p17 =>
 (a0G tab a0H true false false [t0,.int .i64 8]).bind fun t19 =>
 (R a8m [t19] p17.2).bind fun p20 =>
 (a0X tab a0q [0,1] [p17.1,p20.1]).bind fun t21 =>
 (some (.any : D)).bind fun t4 =>
 ((a0h tab (a0F p20.2 a0q 3 [[.int .i64 0,.int .i64 0,.nils]]) a0q (.ptr p20.2.length 0 0) t21).bind fun h' => some ((.und : D),h')).bind fun p907 =>
 (a0G tab a0H true false false [t0,.int .i64 20]).bind fun t23 =>
 (a0G tab a0H true false false [t0,.int .i64 16]).bind fun t25 =>
 (R a7v [t25] p907.2).bind fun p26 =>
 ((a0I (b2B p2 p20) [.int .i64 0,t23,p26.1,.any,.any,.any,.any,.any] p26.2).bind fun r =>
 some ((a0L 0 r.1),[nth 0 r.2.1,nth 1 r.2.1,nth 2 r.2.1,nth 3 r.2.1,nth 4 r.2.1,nth 5 r.2.1,nth 6 r.2.1,nth 7 r.2.1],r.2.2)).bind fun r_1 =>
 a0Q r_1.1 ((a0c tab r_1.2.2 a0q (.ptr p20.2.length 0 0)).bind fun t55 =>
 (R a8l [t55] r_1.2.2).bind fun p56 =>
 (a0p 0 p56.1).bind fun t57 =>
 (a0p 1 p56.1).bind fun t58 =>
 (a0k tab .neq a5n t58 (.int .i64 0)).bind fun t60 =>
 (gd t60 false (some t57)).bind fun t62 =>
 (gd t60 false (some t0)).bind fun t63 =>
 (gdW t60 false p56.2 (R b6g [t62,t63] p56.2)).bind fun p64 =>
 (gd t60 false (dUn .not p64.1)).bind fun t65 =>
 (a0M t60 (.bool true) t65).bind fun t66 =>
 dIf t66
  ((a0X tab a0q [] []).bind fun t67 =>
 ((a0h tab p64.2 a0q p2.1 t67).bind fun h' => some ((.und : D),h')).bind fun p901_2 =>
 (a0c tab p901_2.2 a0q p2.1).bind fun d0 => scope h p901_2.2 (a0i [d0,.int .i64 22]))
  ((a0c tab p64.2 a0q (.ptr p20.2.length 0 0)).bind fun t68 =>
 ((a0h tab p64.2 a0q p2.1 t68).bind fun h' => some ((.und : D),h')).bind fun p901_3 =>
 (a0c tab p901_3.2 a0q p2.1).bind fun d0 => scope h p901_3.2 (a0i [d0,.int .i64 0]))) fun x => a1a x ((a0c tab r_1.2.2 a0q p2.1).bind fun d0 => scope h r_1.2.2 (a0i [d0,nth 0 r_1.2.1])))
theorem c8P (t0 : D) (h : Hp) : R b3o [t0] h = c1f t0 h :=
 er i14 (by kernel_rfl) (by kernel_rfl)
noncomputable def b2E (t0 : D) (p2 p22 : D × Hp) (ds : List D) (h_1 : Hp) : Option Out :=
 (a0k tab .gtr a0J (nth 1 ds) (.int .u64 0)).bind fun t32 =>
 dIf t32
  ((a0G tab a0H true false false [t0,nth 2 ds]).bind fun t38 =>
 (R b0x [t38] h_1).bind fun p39 =>
 (a0p 0 p39.1).bind fun t40 =>
 (a0p 1 p39.1).bind fun t41 =>
 (a0p 2 p39.1).bind fun t42 =>
 (a6t 11 t40).bind fun t7 =>
 (a0k tab .neq a5n t42 (.int .i64 0)).bind fun t44 =>
 dIf t44
  ((a0X tab a0q [] []).bind fun t45 =>
 ((a0h tab p39.2 a0q p2.1 t45).bind fun h' => some ((.und : D),h')).bind fun p901_2 =>
 some (.ret,[.int .i64 22,nth 1 ds,nth 2 ds,t7,t41,t42,t32,t44],p901_2.2))
  ((a0a tab a0q 2 (.ptr p22.2.length 0 0)).bind fun t46 =>
 (a0c tab p39.2 a0K t46).bind fun t47 =>
 (a0c tab p39.2 a0D t7).bind fun t48 =>
 (a1h tab a0K 1 [0] [t48]).bind fun t49 =>
 (a0C tab p39.2 a0K a0K t47 t49).bind fun p50 =>
 (a0a tab a0q 2 (.ptr p22.2.length 0 0)).bind fun t51 =>
 ((a0h tab p50.2 a0K t51 p50.1).bind fun h' => some ((.und : D),h')).bind fun p906 =>
 (a0k tab .add ty3 (nth 2 ds) t41).bind fun t54 =>
 (a0k tab .sub a0J (nth 1 ds) (.int .u64 1)).bind fun t34 =>
 some (.nrm,[nth 0 ds,t34,t54,t7,t41,t42,t32,t44],p906.2)))
  (some ((.ext 0),[nth 0 ds,nth 1 ds,nth 2 ds,nth 3 ds,nth 4 ds,nth 5 ds,t32,nth 7 ds],h_1))
noncomputable def c1h (t0 : D) (h : Hp) : Option (D × Hp) :=
 (some ((.ptr h.length 0 0 : D),a0F h a0q 3 [[.int .i64 0,.int .i64 0,.nils]])).bind fun p2 =>
 (a0y tab a0H t0).bind fun t13 =>
 (a0k tab .lss ty3 t13 (.int .i64 20)).bind fun t14 =>
 dIf t14
  ((a0X tab a0q [] []).bind fun t15 =>
 ((a0h tab p2.2 a0q p2.1 t15).bind fun h' => some ((.und : D),h')).bind fun p901 =>
 (a0c tab p901.2 a0q p2.1).bind fun d0 => scope h p901.2 (a0i [d0,.int .i64 22]))
  ((a0G tab a0H false true false [t0,.int .i64 8]).bind fun t17 =>
 (R a6y [t17] p2.2).bind fun p18 =>
 (a0Z tab a0J ty3 p18.1).bind fun t19 =>
 (a0G tab a0H true true false [t0,.int .i64 8,.int .i64 16]).bind fun t21 =>
 (R a6y [t21] p18.2).bind fun p22 =>
 (a0Z tab a0J ty3 p22.1).bind fun t23 =>
 (a0X tab a0q [0,1] [t19,t23]).bind fun t24 =>
 (some (.any : D)).bind fun t4 =>
 ((a0h tab (a0F p22.2 a0q 3 [[.int .i64 0,.int .i64 0,.nils]]) a0q (.ptr p22.2.length 0 0) t24).bind fun h' => some ((.und : D),h')).bind fun p910 =>
 (a0G tab a0H true true false [t0,.int .i64 16,.int .i64 20]).bind fun t26 =>
 (R a6y [t26] p910.2).bind fun p27 =>
 (a0k tab .gtr a0J p27.1 (.int .u64 40)).bind fun t29 =>
 dIf t29
  ((a0X tab a0q [] []).bind fun t30 =>
 ((a0h tab p27.2 a0q p2.1 t30).bind fun h' => some ((.und : D),h')).bind fun p901_1 =>
 (a0c tab p901_1.2 a0q p2.1).bind fun d0 => scope h p901_1.2 (a0i [d0,.int .i64 22]))
  (((a0I (b2E t0 p2 p22) [.int .i64 0,p27.1,.int .i64 20,.any,.any,.any,.any,.any] p27.2).bind fun r =>
 some ((a0L 0 r.1),[nth 0 r.2.1,nth 1 r.2.1,nth 2 r.2.1,nth 3 r.2.1,nth 4 r.2.1,nth 5 r.2.1,nth 6 r.2.1,nth 7 r.2.1],r.2.2)).bind fun r_1 =>
 a0Q r_1.1 ((a0c tab r_1.2.2 a0q (.ptr p22.2.length 0 0)).bind fun t56 =>
 (R a8k [t56] r_1.2.2).bind fun p57 =>
 (a0p 0 p57.1).bind fun t58 =>
 (a0p 1 p57.1).bind fun t59 =>
 (a0k tab .neq a5n t59 (.int .i64 0)).bind fun t61 =>
 (gd t61 false (some t58)).bind fun t63 =>
 (gd t61 false (some t0)).bind fun t64 =>
 (gdW t61 false p57.2 (R b0o [t63,t64] p57.2)).bind fun p65 =>
 (gd t61 false (dUn .not p65.1)).bind fun t66 =>
 (a0M t61 (.bool true) t66).bind fun t67 =>
 dIf t67
  ((a0X tab a0q [] []).bind fun t68 =>
 ((a0h tab p65.2 a0q p2.1 t68).bind fun h' => some ((.und : D),h')).bind fun p901_3 =>
 (a0c tab p901_3.2 a0q p2.1).bind fun d0 => scope h p901_3.2 (a0i [d0,.int .i64 22]))
  ((a0c tab p65.2 a0q (.ptr p22.2.length 0 0)).bind fun t69 =>
 ((a0h tab p65.2 a0q p2.1 t69).bind fun h' => some ((.und : D),h')).bind fun p901_4 =>
 (a0c tab p901_4.2 a0q p2.1).bind fun d0 => scope h p901_4.2 (a0i [d0,.int .i64 0]))) fun x => a1a x ((a0c tab r_1.2.2 a0q p2.1).bind fun d0 => scope h r_1.2.2 (a0i [d0,nth 0 r_1.2.1]))))
theorem c8W (t0 : D) (h : Hp) : R b3q [t0] h = c1h t0 h :=
 er i15 (by kernel_rfl) (by kernel_rfl)
noncomputable def b2C (t2 t3 : D) (ds : List D) (h_1 : Hp) : Option Out :=
 (a0a tab a0q 2 t2).bind fun t28 =>
 (a0c tab h_1 a0K t28).bind fun t29 =>
 (a0y tab a0K t29).bind fun t30 =>
 (a0k tab .lss ty3 (nth 1 ds) t30).bind fun t31 =>
 dIf t31
  ((a0a tab a0q 2 t2).bind fun t34 =>
 (a0c tab h_1 a0K t34).bind fun t35 =>
 (a0b tab a0K t35 (nth 1 ds)).bind fun t37 =>
 (a0c tab h_1 a0D t37).bind fun t38 =>
 (a0a tab a0q 2 t3).bind fun t39 =>
 (a0c tab h_1 a0K t39).bind fun t40 =>
 (a0b tab a0K t40 (nth 1 ds)).bind fun t42 =>
 (a0c tab h_1 a0D t42).bind fun t43 =>
 (R c9P [t38,t43] h_1).bind fun p44 =>
 (dUn .not p44.1).bind fun t45 =>
 dIf t45
  (some (.ret,[.bool false,nth 1 ds,t31,t45],p44.2))
  ((a0k tab .add ty3 (nth 1 ds) (.int .i64 1)).bind fun t33 =>
 some (.nrm,[nth 0 ds,t33,t31,t45],p44.2)))
  (some ((.ext 0),[nth 0 ds,nth 1 ds,t31,nth 3 ds],h_1))
noncomputable def c4k (t0 t1 : D) (h : Hp) : Option (D × Hp) :=
 (a2p t0).bind fun t2 =>
 (a2p t1).bind fun t3 =>
 (a0a tab a0q 0 t2).bind fun t6 =>
 (a0c tab h ty3 t6).bind fun t7 =>
 (a0a tab a0q 0 t3).bind fun t8 =>
 (a0c tab h ty3 t8).bind fun t9 =>
 (a0k tab .neq ty3 t7 t9).bind fun t10 =>
 (gd t10 false (a0a tab a0q 1 t2)).bind fun t12 =>
 (gd t10 false (a0c tab h ty3 t12)).bind fun t13 =>
 (gd t10 false (a0a tab a0q 1 t3)).bind fun t14 =>
 (gd t10 false (a0c tab h ty3 t14)).bind fun t15 =>
 (gd t10 false (a0k tab .neq ty3 t13 t15)).bind fun t16 =>
 (a0M t10 (.bool true) t16).bind fun t17 =>
 (gd t17 false (a0a tab a0q 2 t2)).bind fun t19 =>
 (gd t17 false (a0c tab h a0K t19)).bind fun t20 =>
 (gd t17 false (a0y tab a0K t20)).bind fun t21 =>
 (gd t17 false (a0a tab a0q 2 t3)).bind fun t22 =>
 (gd t17 false (a0c tab h a0K t22)).bind fun t23 =>
 (gd t17 false (a0y tab a0K t23)).bind fun t24 =>
 (gd t17 false (a0k tab .neq ty3 t21 t24)).bind fun t25 =>
 (a0M t17 (.bool true) t25).bind fun t26 =>
 dIf t26
  (some (a0i [.bool false],h))
  (((a0I (b2C t2 t3) [.bool false,.int .i64 0,.any,.any] h).bind fun r =>
 some ((a0L 0 r.1),[nth 0 r.2.1,nth 1 r.2.1,nth 2 r.2.1,nth 3 r.2.1],r.2.2)).bind fun r_1 =>
 a0Q r_1.1 (some (a0i [.bool true],r_1.2.2)) fun x => a1a x (some (a0i [nth 0 r_1.2.1],r_1.2.2)))
theorem c8R (t0 t1 : D) (h : Hp) : R b3p [t0,t1] h = c4k t0 t1 h :=
 er i16 (by kernel_rfl) (by kernel_rfl)
noncomputable def b3W (t0 t1 : D) (h : Hp) : Option (D × Hp) :=
 (a0y tab a0H t1).bind fun t10 =>
 (a0k tab .eql ty3 t10 (.int .i64 0)).bind fun t11 =>
 (gd t11 false (some t1)).bind fun t13 =>
 (gd t11 false (a0y tab a0H t13)).bind fun t14 =>
 (gd t11 false (a0k tab .gtr ty3 t14 (.int .i64 8388608))).bind fun t15 =>
 (a0M t11 (.bool true) t15).bind fun t16 =>
 dIf t16
  (scope h h (a0i [.nils,.int .i64 3]))
  ((a0y tab a0H t0).bind fun t18 =>
 (a0k tab .add ty3 t18 (.int .i64 8)).bind fun t19 =>
 (a0y tab a0H t1).bind fun t21 =>
 (a0k tab .add ty3 t19 t21).bind fun t22 =>
 (a0k tab .gtr ty3 t22 (.int .i64 67108864)).bind fun t23 =>
 dIf t23
  (scope h h (a0i [.nils,.int .i64 16]))
  ((a0y tab a0H t1).bind fun t25 =>
 (a0Z tab ty3 a0J t25).bind fun t26 =>
 (R a4s [.nils,t26,.int .i64 4] h).bind fun p27 =>
 (a0C tab p27.2 a0H a0H (.nils) p27.1).bind fun p29 =>
 (a0C tab p29.2 a0H a0H p29.1 t1).bind fun p31 =>
 (R b5M [p31.1] p31.2).bind fun p32 =>
 (a0C tab p32.2 a0H a0H (.nils) t0).bind fun p34 =>
 (a0Z tab a3p a0J p32.1).bind fun t37 =>
 (R a4s [p27.1,t37,.int .i64 4] p34.2).bind fun p38 =>
 (a0C tab p38.2 a0H a0H p34.1 p38.1).bind fun p39 =>
 (a0C tab p39.2 a0H a0H p39.1 t1).bind fun p42 =>
 scope h p42.2 (a0i [p42.1,.int .i64 0])))
theorem c7G (t0 t1 : D) (h : Hp) : R b5K [t0,t1] h = b3W t0 t1 h :=
 er i17 (by kernel_rfl) (by kernel_rfl)
noncomputable def F44 (t0 t1 : D) (h : Hp) : Option (D × Hp) :=
 (a0y tab a0H t0).bind fun t7 =>
 (b8p t7 t1).bind fun t9 =>
 (a0G tab a0H false true false [t0,t9]).bind fun t10 =>
 (a0X tab a4V [0] [t10]).bind fun t11 =>
 (b8h a4V 2 h t11).bind fun p12 =>
 some (a0i [p12.1],p12.2)
theorem e44 (t0 t1 : D) (h : Hp) : R c9O [t0,t1] h = F44 t0 t1 h :=
 er i18 (by kernel_rfl) (by kernel_rfl)
noncomputable def b4J (t0 t1 : D) (h : Hp) : Option (D × Hp) :=
 (a0y tab a0H t1).bind fun t9 =>
 (a0k tab .eql ty3 t9 (.int .i64 0)).bind fun t10 =>
 (gd t10 false (some t1)).bind fun t12 =>
 (gd t10 false (a0y tab a0H t12)).bind fun t13 =>
 (gd t10 false (a0k tab .gtr ty3 t13 (.int .i64 8388608))).bind fun t14 =>
 (a0M t10 (.bool true) t14).bind fun t15 =>
 dIf t15
  (scope h h (a0i [.nils,.int .i64 3]))
  ((a0y tab a0H t0).bind fun t18 =>
 (a0k tab .add ty3 t18 (.int .i64 8)).bind fun t19 =>
 (a0y tab a0H t1).bind fun t21 =>
 (a0k tab .add ty3 t19 t21).bind fun t22 =>
 (a0k tab .gtr ty3 t22 (.int .i64 67108864)).bind fun t23 =>
 dIf t23
  (scope h h (a0i [.nils,.int .i64 16]))
  ((a0y tab a0H t1).bind fun t25 =>
 (a0Z tab ty3 a3p t25).bind fun t26 =>
 (R a7s [t26] h).bind fun p27 =>
 (R b5L [p27.1,t1] p27.2).bind fun p32 =>
 (R a7s [p32.1] p32.2).bind fun p33 =>
 (a1h tab a2i 4 [0,1,2,3] [t0,p27.1,p33.1,t1]).bind fun t35 =>
 (R a8i [t35] p33.2).bind fun p36 =>
 scope h p36.2 (a0i [p36.1,.int .i64 0])))
theorem c7F (t0 t1 : D) (h : Hp) : R b2Z [t0,t1] h = b4J t0 t1 h :=
 er i26 (by kernel_rfl) (by kernel_rfl)
noncomputable def a6I (t0 t7m t8m : D) (p11 : D × Hp) (ds_1 : List D) (h_2 : Hp) : Option Out :=
 (a0k tab .gtr ty3 (nth 0 ds_1) (.int .i64 0)).bind fun t33 =>
 dIf t33
  (((a0y tab a4p t7m).bind fun t38 =>
 (R a5q [t0,t38] h_2).bind fun p39 =>
 (a0b tab b1i t8m p39.1).bind fun t42 =>
 (a0c tab p39.2 ty3 t42).bind fun t43 =>
 (a0b tab a4p t7m p39.1).bind fun t46 =>
 (a0c tab p39.2 a0K t46).bind fun t47 =>
 (a0y tab a0K t47).bind fun t48 =>
 (a0k tab .geq ty3 t43 t48).bind fun t49 =>
 dIf t49
  (some (.nrm,[p39.1,nth 2 ds_1,t49,nth 5 ds_1,nth 6 ds_1,nth 7 ds_1,nth 8 ds_1,nth 9 ds_1],p39.2))
  ((a0b tab a4p t7m p39.1).bind fun t52 =>
 (a0c tab p39.2 a0K t52).bind fun t53 =>
 (a0b tab b1i t8m p39.1).bind fun t56 =>
 (a0c tab p39.2 ty3 t56).bind fun t57 =>
 (a0b tab a0K t53 t57).bind fun t58 =>
 (a0c tab p39.2 a0D t58).bind fun t59 =>
 (some ((.ptr p39.2.length 0 0 : D),a0F p39.2 a0D 11 [[.str [],.int .i64 0,.int .i64 0,.int .i64 0,.int .i64 0,.nils,.int .i64 0,.int .i64 0,.str [],.str [],.nils]])).bind fun p14 =>
 chk (a0c tab p14.2 a0K t52 = some t53)
 (chk (a0c tab p14.2 ty3 t56 = some t57)
 (chk (a0c tab p14.2 a0D t58 = some t59)
 (((a0h tab p14.2 a0D p14.1 t59).bind fun h' => some ((.und : D),h')).bind fun p911 =>
 (R a5q [t0,.int .i64 8] p911.2).bind fun p61 =>
 (a0k tab .eql ty3 p61.1 (.int .i64 6)).bind fun t63 =>
 (dIf t63
  ((a0b tab b1i t8m p39.1).bind fun t66 =>
 (a0c tab p61.2 ty3 t66).bind fun t67 =>
 (a0k tab .gtr ty3 t67 (.int .i64 0)).bind fun t68 =>
 (dIf t68
  ((a0b tab a4p t7m p39.1).bind fun t71 =>
 (a0c tab p61.2 a0K t71).bind fun t72 =>
 (a0b tab b1i t8m p39.1).bind fun t75 =>
 (a0c tab p61.2 ty3 t75).bind fun t76 =>
 (a0k tab .sub ty3 t76 (.int .i64 1)).bind fun t77 =>
 (a0b tab a0K t72 t77).bind fun t78 =>
 (a0c tab p61.2 a0D t78).bind fun t79 =>
 (a0c tab p61.2 a0D p14.1).bind fun t80 =>
 (R b3e [t79,t80] p61.2).bind fun p81 =>
 ((a0h tab p81.2 a0D p14.1 p81.1).bind fun h' => some ((.und : D),h')).bind fun p913 =>
 some (.nrm,([] : List D),p913.2))
  (some (.nrm,([] : List D),p61.2))).bind fun r_2 =>
 some (r_2.1,[t68,nth 8 ds_1],r_2.2.2))
  ((a0k tab .eql ty3 p61.1 (.int .i64 7)).bind fun t83 =>
 dIf t83
  ((a0b tab a4p t7m p39.1).bind fun t86 =>
 (a0c tab p61.2 a0K t86).bind fun t87 =>
 (a0b tab b1i t8m p39.1).bind fun t90 =>
 (a0c tab p61.2 ty3 t90).bind fun t91 =>
 (a0k tab .add ty3 t91 (.int .i64 1)).bind fun t92 =>
 (a0b tab a4p t7m p39.1).bind fun t95 =>
 (a0c tab p61.2 a0K t95).bind fun t96 =>
 (a0y tab a0K t96).bind fun t97 =>
 (a0k tab .sub ty3 t97 (.int .i64 1)).bind fun t98 =>
 (b8p t92 t98).bind fun t99 =>
 (a0b tab a0K t87 t99).bind fun t100 =>
 (a0c tab p61.2 a0D t100).bind fun t101 =>
 ((a0h tab p61.2 a0D p14.1 t101).bind fun h' => some ((.und : D),h')).bind fun p918 =>
 (a0a tab a0q 2 p11.1).bind fun t102 =>
 (a0c tab p918.2 a0K t102).bind fun t103 =>
 (a0c tab p918.2 a0D p14.1).bind fun t104 =>
 (a1h tab a0K 1 [0] [t104]).bind fun t105 =>
 (a0C tab p918.2 a0K a0K t103 t105).bind fun p106 =>
 (a0a tab a0q 2 p11.1).bind fun t107 =>
 ((a0h tab p106.2 a0K t107 p106.1).bind fun h' => some ((.und : D),h')).bind fun p906 =>
 some ((.ext 3),[nth 7 ds_1,t83],p906.2))
  (some (.nrm,[nth 7 ds_1,t83],p61.2)))).bind fun r_3 =>
 a0Q (a0L 4 r_3.1) ((a0a tab a0q 2 p11.1).bind fun t108 =>
 (a0c tab r_3.2.2 a0K t108).bind fun t109 =>
 (a0c tab r_3.2.2 a0D p14.1).bind fun t110 =>
 (a1h tab a0K 1 [0] [t110]).bind fun t111 =>
 (a0C tab r_3.2.2 a0K a0K t109 t111).bind fun p112 =>
 (a0a tab a0q 2 p11.1).bind fun t113 =>
 ((a0h tab p112.2 a0K t113 p112.1).bind fun h' => some ((.und : D),h')).bind fun p906_1 =>
 (R a5q [t0,.int .i64 4] p906_1.2).bind fun p115 =>
 (a0k tab .gtr ty3 p115.1 (.int .i64 0)).bind fun t116 =>
 (dIf t116
  ((a0b tab b1i t8m p39.1).bind fun t119 =>
 (a0c tab p115.2 ty3 t119).bind fun t120 =>
 (a0k tab .add ty3 t120 (.int .i64 1)).bind fun t121 =>
 (a0b tab b1i t8m p39.1).bind fun t122 =>
 ((a0h tab p115.2 ty3 t122 t121).bind fun h' => some ((.und : D),h')).bind fun p906_2 =>
 some (.nrm,([] : List D),p906_2.2))
  (some (.nrm,([] : List D),p115.2))).bind fun r_4 =>
 some ((a0L 3 r_4.1),[p39.1,p14.1,t49,p61.1,t63,nth 0 r_3.2.1,nth 1 r_3.2.1,t116],r_4.2.2)) fun x => some ((a0L 3 x),[p39.1,p14.1,t49,p61.1,t63,nth 0 r_3.2.1,nth 1 r_3.2.1,nth 9 ds_1],r_3.2.2)))))).bind fun r_5 =>
 a0Q r_5.1 ((a0k tab .sub ty3 (nth 0 ds_1) (.int .i64 1)).bind fun t35 =>
 some (.nrm,[t35,nth 0 r_5.2.1,nth 1 r_5.2.1,t33,nth 2 r_5.2.1,nth 3 r_5.2.1,nth 4 r_5.2.1,nth 5 r_5.2.1,nth 6 r_5.2.1,nth 7 r_5.2.1],r_5.2.2)) fun x_1 => some (x_1,[nth 0 ds_1,nth 0 r_5.2.1,nth 1 r_5.2.1,t33,nth 2 r_5.2.1,nth 3 r_5.2.1,nth 4 r_5.2.1,nth 5 r_5.2.1,nth 6 r_5.2.1,nth 7 r_5.2.1],r_5.2.2))
  (some ((.ext 2),[nth 0 ds_1,nth 1 ds_1,nth 2 ds_1,t33,nth 4 ds_1,nth 5 ds_1,nth 6 ds_1,nth 7 ds_1,nth 8 ds_1,nth 9 ds_1],h_2))
noncomputable def b2n (t0 t1 t7m t8m : D) (ds : List D) (h_1 : Hp) : Option Out :=
 (a0k tab .lss ty3 (nth 1 ds) (.int .i64 12)).bind fun t23 =>
 dIf t23
  ((a0X tab a0q [0,1] [t1,nth 1 ds]).bind fun t28 =>
 (some ((.ptr h_1.length 0 0 : D),a0F h_1 a0q 3 [[.int .i64 0,.int .i64 0,.nils]])).bind fun p11 =>
 ((a0h tab p11.2 a0q p11.1 t28).bind fun h' => some ((.und : D),h')).bind fun p904 =>
 (R a5q [t0,.int .i64 3] p904.2).bind fun p30 =>
 (a0k tab .add ty3 (.int .i64 1) p30.1).bind fun t31 =>
 ((a0I (a6I t0 t7m t8m p11) [t31,nth 4 ds,nth 5 ds,nth 7 ds,nth 8 ds,nth 9 ds,nth 10 ds,nth 11 ds,nth 12 ds,nth 13 ds] p30.2).bind fun r_1 =>
 some ((a0L 2 r_1.1),[nth 0 r_1.2.1,nth 1 r_1.2.1,nth 2 r_1.2.1,nth 3 r_1.2.1,nth 4 r_1.2.1,nth 5 r_1.2.1,nth 6 r_1.2.1,nth 7 r_1.2.1,nth 8 r_1.2.1,nth 9 r_1.2.1],r_1.2.2)).bind fun r_6 =>
 a0Q r_6.1 ((a0c tab r_6.2.2 a0q p11.1).bind fun t124 =>
 (a1h tab a1G 1 [0] [t124]).bind fun t125 =>
 (a0C tab r_6.2.2 a1G a1G (nth 0 ds) t125).bind fun p126 =>
 (R a5q [t0,.int .i64 4] p126.2).bind fun p128 =>
 (a0k tab .eql ty3 p128.1 (.int .i64 3)).bind fun t129 =>
 (gd t129 true (some p126.1)).bind fun t131 =>
 (gd t129 true (a0y tab a1G t131)).bind fun t132 =>
 (gd t129 true (a0k tab .gtr ty3 t132 (.int .i64 0))).bind fun t133 =>
 (a0M t129 t133 (.bool false)).bind fun t134 =>
 (dIf t134
  ((a0y tab a1G p126.1).bind fun t139 =>
 (R a5q [t0,t139] p128.2).bind fun p140 =>
 (a0b tab a1G p126.1 p140.1).bind fun t141 =>
 (a0c tab p140.2 a0q t141).bind fun t142 =>
 (a1h tab a1G 1 [0] [t142]).bind fun t143 =>
 (a0C tab p140.2 a1G a1G p126.1 t143).bind fun p144 =>
 some (.nrm,[p144.1],p144.2))
  (some (.nrm,[p126.1],p128.2))).bind fun r_7 =>
 a0Q (a0L 1 r_7.1) ((a0k tab .add ty3 (nth 1 ds) (.int .i64 1)).bind fun t25 =>
 some (.nrm,[nth 0 r_7.2.1,t25,p11.1,nth 0 r_6.2.1,nth 1 r_6.2.1,nth 2 r_6.2.1,t23,nth 3 r_6.2.1,nth 4 r_6.2.1,nth 5 r_6.2.1,nth 6 r_6.2.1,nth 7 r_6.2.1,nth 8 r_6.2.1,nth 9 r_6.2.1,t134],r_7.2.2)) fun x_3 => some (x_3,[nth 0 r_7.2.1,nth 1 ds,p11.1,nth 0 r_6.2.1,nth 1 r_6.2.1,nth 2 r_6.2.1,t23,nth 3 r_6.2.1,nth 4 r_6.2.1,nth 5 r_6.2.1,nth 6 r_6.2.1,nth 7 r_6.2.1,nth 8 r_6.2.1,nth 9 r_6.2.1,t134],r_7.2.2)) fun x_2 => a0Q (a0L 1 x_2) ((a0k tab .add ty3 (nth 1 ds) (.int .i64 1)).bind fun t25_1 =>
 some (.nrm,[nth 0 ds,t25_1,p11.1,nth 0 r_6.2.1,nth 1 r_6.2.1,nth 2 r_6.2.1,t23,nth 3 r_6.2.1,nth 4 r_6.2.1,nth 5 r_6.2.1,nth 6 r_6.2.1,nth 7 r_6.2.1,nth 8 r_6.2.1,nth 9 r_6.2.1,nth 14 ds],r_6.2.2)) fun x_4 => some (x_4,[nth 0 ds,nth 1 ds,p11.1,nth 0 r_6.2.1,nth 1 r_6.2.1,nth 2 r_6.2.1,t23,nth 3 r_6.2.1,nth 4 r_6.2.1,nth 5 r_6.2.1,nth 6 r_6.2.1,nth 7 r_6.2.1,nth 8 r_6.2.1,nth 9 r_6.2.1,nth 14 ds],r_6.2.2))
  (some ((.ext 0),[nth 0 ds,nth 1 ds,nth 2 ds,nth 3 ds,nth 4 ds,nth 5 ds,t23,nth 7 ds,nth 8 ds,nth 9 ds,nth 10 ds,nth 11 ds,nth 12 ds,nth 13 ds,nth 14 ds],h_1))
noncomputable def c3G (t0 t1 t2 : D) (h : Hp) : Option (D × Hp) :=
 (R c6N [t0,t1,t2] h).bind fun p18 =>
 (a0y tab a4p p18.1).bind fun t20 =>
 (a9b tab p18.2 b1i t20 t20).bind fun p21 =>
 ((a0I (b2n t0 t1 p18.1 p21.1) [.nils,.int .i64 0,.any,.any,.any,.any,.any,.any,.any,.any,.any,.any,.any,.any,.any] p21.2).bind fun r =>
 some ((a0L 0 r.1),[nth 0 r.2.1,nth 1 r.2.1,nth 2 r.2.1,nth 3 r.2.1,nth 4 r.2.1,nth 5 r.2.1,nth 6 r.2.1,nth 7 r.2.1,nth 8 r.2.1,nth 9 r.2.1,nth 10 r.2.1,nth 11 r.2.1,nth 12 r.2.1,nth 13 r.2.1,nth 14 r.2.1],r.2.2)).bind fun r_8 =>
 a0Q r_8.1 (some (a0i [nth 0 r_8.2.1],r_8.2.2)) fun x_5 => a1a x_5 (some (a0i [.nils],r_8.2.2))
theorem c8i (t0 t1 t2 : D) (h : Hp) : R b3d [t0,t1,t2] h = c3G t0 t1 t2 h :=
 er i27 (by kernel_rfl) (by kernel_rfl)
noncomputable def b2p (t1 t11 t12 : D) (ds : List D) (h_1 : Hp) : Option Out :=
 (a0k tab .lss ty3 (nth 3 ds) t12).bind fun t14 =>
 dIf t14
  ((a0b tab a0K t11 (nth 3 ds)).bind fun t15 =>
 (a0c tab h_1 a0D t15).bind fun t16 =>
 (a6t 11 t16).bind fun t4 =>
 (a0c tab h_1 a0D t4).bind fun t17 =>
 (R a5P [t17] h_1).bind fun p18 =>
 (a0k tab .neq a5n p18.1 (.int .i64 0)).bind fun t21 =>
 dIf t21
  (some (.ret,[p18.1,t4,p18.1,nth 3 ds,t14,t21,nth 6 ds,nth 7 ds],p18.2))
  ((a0a tab a0D 1 t4).bind fun t24 =>
 (a0a tab a0E 0 t24).bind fun t25 =>
 (a0c tab p18.2 ty3 t25).bind fun t26 =>
 (a0a tab a0q 0 t1).bind fun t27 =>
 (a0c tab p18.2 ty3 t27).bind fun t28 =>
 (a0k tab .neq ty3 t26 t28).bind fun t29 =>
 dIf t29
  (some (.ret,[.int .i64 24,t4,p18.1,nth 3 ds,t14,t21,t29,nth 7 ds],p18.2))
  ((a0a tab a0D 0 t4).bind fun t31 =>
 (a0c tab p18.2 ty9 t31).bind fun t32 =>
 (a0k tab .eql ty9 t32 (.str [42])).bind fun t33 =>
 dIf t33
  (some (.ret,[.int .i64 6,t4,p18.1,nth 3 ds,t14,t21,t29,t33],p18.2))
  ((a0k tab .add ty3 (nth 3 ds) (.int .i64 1)).bind fun t34 =>
 some (.nrm,[nth 0 ds,t4,p18.1,t34,t14,t21,t29,t33],p18.2)))))
  (some ((.ext 0),[nth 0 ds,nth 1 ds,nth 2 ds,nth 3 ds,t14,nth 5 ds,nth 6 ds,nth 7 ds],h_1))
noncomputable def c3I (t0 : D) (h : Hp) : Option (D × Hp) :=
 (a2p t0).bind fun t1 =>
 (a0a tab a0q 2 t1).bind fun t6 =>
 (a0c tab h a0K t6).bind fun t7 =>
 (a0y tab a0K t7).bind fun t8 =>
 (a0k tab .gtr ty3 t8 (.int .i64 40)).bind fun t9 =>
 dIf t9
  (some (a0i [.int .i64 4],h))
  ((a0a tab a0q 2 t1).bind fun t10 =>
 (a0c tab h a0K t10).bind fun t11 =>
 (a0y tab a0K t11).bind fun t12 =>
 ((a0I (b2p t1 t11 t12) [.int .i64 0,.any,.any,.int .i64 0,.any,.any,.any,.any] h).bind fun r =>
 some ((a0L 0 r.1),[nth 0 r.2.1,nth 1 r.2.1,nth 2 r.2.1,nth 3 r.2.1,nth 4 r.2.1,nth 5 r.2.1,nth 6 r.2.1,nth 7 r.2.1],r.2.2)).bind fun r_1 =>
 a0Q r_1.1 (some (a0i [.int .i64 0],r_1.2.2)) fun x => a1a x (some (a0i [nth 0 r_1.2.1],r_1.2.2)))
theorem c8l (t0 : D) (h : Hp) : R b6a [t0] h = c3I t0 h :=
 er i28 (by kernel_rfl) (by kernel_rfl)
noncomputable def c4l (t0 t1 : D) (h : Hp) : Option (D × Hp) :=
 (a0Z tab ty3 a0J t1).bind fun t7 =>
 (a0k tab .shr a0J t7 (.int .u64 32)).bind fun t8 =>
 (a0Z tab a0J a3p t8).bind fun t9 =>
 (R a7s [t9] h).bind fun p10 =>
 (a0Z tab ty3 a3p t1).bind fun t12 =>
 (R a7s [t12] p10.2).bind fun p13 =>
 (a1h tab a2i 3 [0,1,2] [t0,p10.1,p13.1]).bind fun t14 =>
 (R a8i [t14] p13.2).bind fun p15 =>
 some (a0i [p15.1],p15.2)
theorem c8S (t0 t1 : D) (h : Hp) : R b0B [t0,t1] h = c4l t0 t1 h :=
 er i29 (by kernel_rfl) (by kernel_rfl)
noncomputable def c3i (t0 : D) (h : Hp) : Option (D × Hp) :=
 (a0k tab .shr a3p t0 (.int .u64 24)).bind fun t4 =>
 (a0Z tab a3p ty5 t4).bind fun t5 =>
 (a0k tab .shr a3p t0 (.int .u64 16)).bind fun t7 =>
 (a0Z tab a3p ty5 t7).bind fun t8 =>
 (a0k tab .shr a3p t0 (.int .u64 8)).bind fun t10 =>
 (a0Z tab a3p ty5 t10).bind fun t11 =>
 (a0Z tab a3p ty5 t0).bind fun t13 =>
 (a1h tab a0H 4 [0,1,2,3] [t5,t8,t11,t13]).bind fun t14 =>
 some (a0i [t14],h)
theorem c7I (t0 : D) (h : Hp) : R a7s [t0] h = c3i t0 h :=
 er i30 (by kernel_rfl) (by kernel_rfl)
noncomputable def c3S (t0 : D) (h : Hp) : Option (D × Hp) :=
 (b8h a0D 11 h t0).bind fun p1 =>
 (a0c tab p1.2 a0D p1.1).bind fun t6 =>
 (R a5P [t6] p1.2).bind fun p7 =>
 (a0k tab .neq a5n p7.1 (.int .i64 0)).bind fun t9 =>
 dIf t9
  (scope h p7.2 (a0i [.nils,p7.1]))
  ((a9b tab p7.2 a0H (.int .i64 4) (.int .i64 4)).bind fun p11 =>
 (a0X tab a2j [0] [p11.1]).bind fun t12 =>
 (b8h a2j 1 p11.2 t12).bind fun p13 =>
 (some (.iface a4K p13.1 : D)).bind fun t15 =>
 (R b0y [t15,p1.1] p13.2).bind fun p16 =>
 (a0s tab p13.1).bind fun t18 =>
 (a0a tab a2j 0 t18).bind fun t19 =>
 (a0c tab p16.2 a0H t19).bind fun t20 =>
 (a0s tab p13.1).bind fun t22 =>
 (a0a tab a2j 0 t22).bind fun t23 =>
 (a0c tab p16.2 a0H t23).bind fun t24 =>
 (a0y tab a0H t24).bind fun t25 =>
 (a0Z tab ty3 a0J t25).bind fun t26 =>
 (R a4h [.nils,t26,.int .i64 4] p16.2).bind fun p27 =>
 (b4e tab p27.2 a0H a0H t20 p27.1).bind fun p28 =>
 chk (a0c tab p27.2 a0H t19 = some t20)
 ((a0s tab p13.1).bind fun t30 =>
 (a0a tab a2j 0 t30).bind fun t31 =>
 (a0c tab p28.2 a0H t31).bind fun t32 =>
 (a0s tab p13.1).bind fun t34 =>
 (a0a tab a2j 0 t34).bind fun t35 =>
 (a0c tab p28.2 a0H t35).bind fun t36 =>
 (R b3k [t36] p28.2).bind fun p37 =>
 (R a4h [t32,p37.1,.int .i64 4] p37.2).bind fun p38 =>
 chk (a0c tab p37.2 a0H t31 = some t32)
 (scope h p38.2 (a0i [p38.1,.int .i64 0]))))
theorem c8x (t0 : D) (h : Hp) : R b3j [t0] h = c3S t0 h :=
 er i31 (by kernel_rfl) (by kernel_rfl)
noncomputable def b2t (t1 : D) (ds : List D) (h_1 : Hp) : Option Out :=
 (a0a tab a0q 2 t1).bind fun t11 =>
 (a0c tab h_1 a0K t11).bind fun t12 =>
 (a0y tab a0K t12).bind fun t13 =>
 (a0k tab .lss ty3 (nth 1 ds) t13).bind fun t14 =>
 dIf t14
  ((a0a tab a0q 2 t1).bind fun t17 =>
 (a0c tab h_1 a0K t17).bind fun t18 =>
 (a0b tab a0K t18 (nth 1 ds)).bind fun t20 =>
 (a0c tab h_1 a0D t20).bind fun t21 =>
 (a6t 11 t21).bind fun t4 =>
 (a0c tab h_1 a0D t4).bind fun t22 =>
 (R a7r [t22] h_1).bind fun p23 =>
 (a0k tab .neq a5n p23.1 (.int .i64 0)).bind fun t25 =>
 dIf t25
  (some (.ret,[p23.1,nth 1 ds,t4,p23.1,t14,t25,nth 6 ds,nth 7 ds],p23.2))
  ((a0a tab a0D 1 t4).bind fun t27 =>
 (a0a tab a0E 0 t27).bind fun t28 =>
 (a0c tab p23.2 ty3 t28).bind fun t29 =>
 (a0a tab a0q 0 t1).bind fun t30 =>
 (a0c tab p23.2 ty3 t30).bind fun t31 =>
 (a0k tab .neq ty3 t29 t31).bind fun t32 =>
 dIf t32
  (some (.ret,[.int .i64 24,nth 1 ds,t4,p23.1,t14,t25,t32,nth 7 ds],p23.2))
  ((a0a tab a0D 0 t4).bind fun t33 =>
 (a0c tab p23.2 ty9 t33).bind fun t34 =>
 (a0k tab .eql ty9 t34 (.str [42])).bind fun t35 =>
 dIf t35
  (some (.ret,[.int .i64 6,nth 1 ds,t4,p23.1,t14,t25,t32,t35],p23.2))
  ((a0k tab .add ty3 (nth 1 ds) (.int .i64 1)).bind fun t16 =>
 some (.nrm,[nth 0 ds,t16,t4,p23.1,t14,t25,t32,t35],p23.2)))))
  (some ((.ext 0),[nth 0 ds,nth 1 ds,nth 2 ds,nth 3 ds,t14,nth 5 ds,nth 6 ds,nth 7 ds],h_1))
noncomputable def c3L (t0 : D) (h : Hp) : Option (D × Hp) :=
 (a2p t0).bind fun t1 =>
 (a0a tab a0q 2 t1).bind fun t6 =>
 (a0c tab h a0K t6).bind fun t7 =>
 (a0y tab a0K t7).bind fun t8 =>
 (a0k tab .gtr ty3 t8 (.int .i64 40)).bind fun t9 =>
 dIf t9
  (some (a0i [.int .i64 4],h))
  (((a0I (b2t t1) [.int .i64 0,.int .i64 0,.any,.any,.any,.any,.any,.any] h).bind fun r =>
 some ((a0L 0 r.1),[nth 0 r.2.1,nth 1 r.2.1,nth 2 r.2.1,nth 3 r.2.1,nth 4 r.2.1,nth 5 r.2.1,nth 6 r.2.1,nth 7 r.2.1],r.2.2)).bind fun r_1 =>
 a0Q r_1.1 (some (a0i [.int .i64 0],r_1.2.2)) fun x => a1a x (some (a0i [nth 0 r_1.2.1],r_1.2.2)))
theorem c8q (t0 : D) (h : Hp) : R b6b [t0] h = c3L t0 h :=
 er i32 (by kernel_rfl) (by kernel_rfl)
noncomputable def a3N (t1 : D) (ds : List D) (h_1 : Hp) : Option Out :=
 (a0k tab .geq ty3 (nth 1 ds) (.int .i64 0)).bind fun t11 =>
 dIf t11
  ((a0k tab .mul ty3 (.int .i64 8) (nth 1 ds)).bind fun t17 =>
 (a0k tab .shr a0J t1 t17).bind fun t18 =>
 (a0Z tab a0J ty5 t18).bind fun t19 =>
 (a1h tab a0H 1 [0] [t19]).bind fun t20 =>
 (a0C tab h_1 a0H a0H (nth 0 ds) t20).bind fun p21 =>
 (a0k tab .sub ty3 (nth 1 ds) (.int .i64 1)).bind fun t13 =>
 some (.nrm,[p21.1,t13,t11],p21.2))
  (some ((.ext 0),[nth 0 ds,nth 1 ds,t11],h_1))
noncomputable def c0U (t0 t1 t2 : D) (h : Hp) : Option (D × Hp) :=
 (a0k tab .sub ty3 t2 (.int .i64 1)).bind fun t9 =>
 ((a0I (a3N t1) [t0,t9,.any] h).bind fun r =>
 some ((a0L 0 r.1),[nth 0 r.2.1,nth 1 r.2.1,nth 2 r.2.1],r.2.2)).bind fun r_1 =>
 a0Q r_1.1 (some (a0i [nth 0 r_1.2.1],r_1.2.2)) fun x => a1a x (some (a0i [.nils],r_1.2.2))
theorem c4J (t0 t1 t2 : D) (h : Hp) : R a4s [t0,t1,t2] h = c0U t0 t1 t2 h :=
 er i33 (by kernel_rfl) (by kernel_rfl)
noncomputable def c3M (t0 : D) (h : Hp) : Option (D × Hp) :=
 (a2p t0).bind fun t1 =>
 (a0c tab h a0D t1).bind fun t7 =>
 (R a7r [t7] h).bind fun p8 =>
 (a0k tab .neq a5n p8.1 (.int .i64 0)).bind fun t10 =>
 dIf t10
  (scope h p8.2 (a0i [.nils,p8.1]))
  ((a0c tab p8.2 a0D t1).bind fun t12 =>
 (R b3i [t12] p8.2).bind fun p13 =>
 (a0y tab a0H p13.1).bind fun t15 =>
 (a0k tab .add ty3 t15 (.int .i64 4)).bind fun t16 =>
 (a0Z tab ty3 a0J t16).bind fun t17 =>
 (R a3A [.nils,t17,.int .i64 4] p13.2).bind fun p18 =>
 (a0C tab p18.2 a0H a0H p18.1 p13.1).bind fun p20 =>
 (R b0v [p20.1] p20.2).bind fun p23 =>
 (R a3A [p20.1,p23.1,.int .i64 4] p23.2).bind fun p24 =>
 scope h p24.2 (a0i [p24.1,.int .i64 0]))
theorem c8r (t0 : D) (h : Hp) : R b3h [t0] h = c3M t0 h :=
 er i34 (by kernel_rfl) (by kernel_rfl)
noncomputable def c4m (t0 : D) (h : Hp) : Option (D × Hp) :=
 (R a7v [t0] h).bind fun p4 =>
 (a0Z tab a3p a0J p4.1).bind fun t5 =>
 (a0k tab .shl a0J t5 (.int .u64 32)).bind fun t6 =>
 (a0G tab a0H true false false [t0,.int .i64 4]).bind fun t8 =>
 (R a7v [t8] p4.2).bind fun p9 =>
 (a0Z tab a3p a0J p9.1).bind fun t10 =>
 (a0k tab .or a0J t6 t10).bind fun t11 =>
 (a0Z tab a0J ty3 t11).bind fun t12 =>
 some (a0i [t12],p9.2)
theorem c8T (t0 : D) (h : Hp) : R a8m [t0] h = c4m t0 h :=
 er i35 (by kernel_rfl) (by kernel_rfl)
noncomputable def b8u (t0 : D) (h : Hp) : Option (D × Hp) :=
 (a0b tab a0H t0 (.int .i64 0)).bind fun t4 =>
 (a0c tab h ty5 t4).bind fun t5 =>
 (a0Z tab ty5 a3p t5).bind fun t6 =>
 (a0k tab .shl a3p t6 (.int .u64 24)).bind fun t7 =>
 (a0b tab a0H t0 (.int .i64 1)).bind fun t9 =>
 (a0c tab h ty5 t9).bind fun t10 =>
 (a0Z tab ty5 a3p t10).bind fun t11 =>
 (a0k tab .shl a3p t11 (.int .u64 16)).bind fun t12 =>
 (a0k tab .or a3p t7 t12).bind fun t13 =>
 (a0b tab a0H t0 (.int .i64 2)).bind fun t15 =>
 (a0c tab h ty5 t15).bind fun t16 =>
 (a0Z tab ty5 a3p t16).bind fun t17 =>
 (a0k tab .shl a3p t17 (.int .u64 8)).bind fun t18 =>
 (a0k tab .or a3p t13 t18).bind fun t19 =>
 (a0b tab a0H t0 (.int .i64 3)).bind fun t21 =>
 (a0c tab h ty5 t21).bind fun t22 =>
 (a0Z tab ty5 a3p t22).bind fun t23 =>
 (a0k tab .or a3p t19 t23).bind fun t24 =>
 some (a0i [t24],h)
theorem c4N (t0 : D) (h : Hp) : R a7v [t0] h = b8u t0 h :=
 er i36 (by kernel_rfl) (by kernel_rfl)
noncomputable def c3T (t0 : D) (h : Hp) : Option (D × Hp) :=
 (some ((.ptr h.length 0 0 : D),a0F h a0D 11 [[.str [],.int .i64 0,.int .i64 0,.int .i64 0,.int .i64 0,.nils,.int .i64 0,.int .i64 0,.str [],.str [],.nils]])).bind fun p2 =>
 (a0y tab a0H t0).bind fun t9 =>
 (a0k tab .lss ty3 t9 (.int .i64 4)).bind fun t10 =>
 dIf t10
  ((a0X tab a0D [] []).bind fun t11 =>
 ((a0h tab p2.2 a0D p2.1 t11).bind fun h' => some ((.und : D),h')).bind fun p901 =>
 (a0c tab p901.2 a0D p2.1).bind fun d0 => scope h p901.2 (a0i [d0,.int .i64 0,.int .i64 14]))
  ((a0G tab a0H false true false [t0,.int .i64 4]).bind fun t13 =>
 (R a6z [t13] p2.2).bind fun p14 =>
 (a0Z tab a0J ty3 p14.1).bind fun t15 =>
 (a0k tab .lss ty3 t15 (.int .i64 4)).bind fun t17 =>
 (gd t17 false (some t15)).bind fun t19 =>
 (gd t17 false (some t0)).bind fun t20 =>
 (gd t17 false (a0y tab a0H t20)).bind fun t21 =>
 (gd t17 false (a0k tab .sub ty3 t21 (.int .i64 4))).bind fun t22 =>
 (gd t17 false (a0k tab .gtr ty3 t19 t22)).bind fun t23 =>
 (a0M t17 (.bool true) t23).bind fun t24 =>
 dIf t24
  ((a0X tab a0D [] []).bind fun t25 =>
 ((a0h tab p14.2 a0D p2.1 t25).bind fun h' => some ((.und : D),h')).bind fun p901_1 =>
 (a0c tab p901_1.2 a0D p2.1).bind fun d0 => scope h p901_1.2 (a0i [d0,.int .i64 0,.int .i64 14]))
  ((a0G tab a0H false true false [t0,t15]).bind fun t28 =>
 (R b3k [t28] p14.2).bind fun p29 =>
 (a0k tab .add ty3 t15 (.int .i64 4)).bind fun t33 =>
 (a0G tab a0H true true false [t0,t15,t33]).bind fun t34 =>
 (R a6z [t34] p29.2).bind fun p35 =>
 (a0k tab .neq a0J p29.1 p35.1).bind fun t36 =>
 dIf t36
  ((a0X tab a0D [] []).bind fun t37 =>
 ((a0h tab p35.2 a0D p2.1 t37).bind fun h' => some ((.und : D),h')).bind fun p901_2 =>
 (a0c tab p901_2.2 a0D p2.1).bind fun d0 => scope h p901_2.2 (a0i [d0,.int .i64 0,.int .i64 15]))
  ((some ((.ptr p35.2.length 0 0 : D),a0F p35.2 a0D 11 [[.str [],.int .i64 0,.int .i64 0,.int .i64 0,.int .i64 0,.nils,.int .i64 0,.int .i64 0,.str [],.str [],.nils]])).bind fun p6 =>
 (a0G tab a0H true true false [t0,.int .i64 4,t15]).bind fun t40 =>
 (a0X tab a1M [0] [t40]).bind fun t41 =>
 (b8h a1M 2 p6.2 t41).bind fun p42 =>
 (some (.iface a3J p42.1 : D)).bind fun t44 =>
 (R b0y [t44,p6.1] p42.2).bind fun p45 =>
 (a0s tab p42.1).bind fun t47 =>
 (a0a tab a1M 1 t47).bind fun t48 =>
 (a0c tab p45.2 ty4 t48).bind fun t49 =>
 (gd t49 false (some p42.1)).bind fun t51 =>
 (gd t49 false (a0s tab t51)).bind fun t52 =>
 (gd t49 false (a0a tab a1M 0 t52)).bind fun t53 =>
 (gd t49 false (a0c tab p45.2 a0H t53)).bind fun t54 =>
 (gd t49 false (a0y tab a0H t54)).bind fun t55 =>
 (gd t49 false (a0k tab .gtr ty3 t55 (.int .i64 0))).bind fun t56 =>
 (a0M t49 (.bool true) t56).bind fun t57 =>
 (gd t57 false (a0c tab p45.2 a0D p6.1)).bind fun t59 =>
 (gdW t57 false p45.2 (a5z R a5P [t59] p45.2)).bind fun p60 =>
 (gd t57 false (a0k tab .neq a5n p60.1 (.int .i64 0))).bind fun t61 =>
 (a0M t57 (.bool true) t61).bind fun t62 =>
 dIf t62
  ((a0X tab a0D [] []).bind fun t63 =>
 ((a0h tab p60.2 a0D p2.1 t63).bind fun h' => some ((.und : D),h')).bind fun p901_3 =>
 (a0c tab p901_3.2 a0D p2.1).bind fun d0 => scope h p901_3.2 (a0i [d0,.int .i64 0,.int .i64 1]))
  ((a0c tab p60.2 a0D p6.1).bind fun t64 =>
 (a0k tab .add ty3 (.int .i64 4) t15).bind fun t66 =>
 ((a0h tab p60.2 a0D p2.1 t64).bind fun h' => some ((.und : D),h')).bind fun p903 =>
 (a0c tab p903.2 a0D p2.1).bind fun d0 => scope h p903.2 (a0i [d0,t66,.int .i64 0])))))
theorem c8y (t0 : D) (h : Hp) : R b0w [t0] h = c3T t0 h :=
 er i37 (by kernel_rfl) (by kernel_rfl)
noncomputable def c4o (t0 t1 : D) (h : Hp) : Option (D × Hp) :=
 (a6v h t0).bind fun t6 =>
 (a6v h t1).bind fun t8 =>
 (a0k tab .eql ty9 t6 t8).bind fun t9 =>
 some (a0i [t9],h)
theorem c8U (t0 t1 : D) (h : Hp) : R b6g [t0,t1] h = c4o t0 t1 h :=
 er i38 (by kernel_rfl) (by kernel_rfl)
noncomputable def b2r (t0 : D) (ds : List D) (h_1 : Hp) : Option Out :=
 (a0y tab a0H t0).bind fun t7 =>
 (a0k tab .lss ty3 (nth 1 ds) t7).bind fun t8 =>
 dIf t8
  ((a0k tab .shl a0J (nth 0 ds) (.int .u64 8)).bind fun t12 =>
 (a0b tab a0H t0 (nth 1 ds)).bind fun t15 =>
 (a0c tab h_1 ty5 t15).bind fun t16 =>
 (a0Z tab ty5 a0J t16).bind fun t17 =>
 (a0k tab .or a0J t12 t17).bind fun t18 =>
 (a0k tab .add ty3 (nth 1 ds) (.int .i64 1)).bind fun t10 =>
 some (.nrm,[t18,t10,t8],h_1))
  (some ((.ext 0),[nth 0 ds,nth 1 ds,t8],h_1))
noncomputable def c3K (t0 : D) (h : Hp) : Option (D × Hp) :=
 ((a0I (b2r t0) [.int .u64 0,.int .i64 0,.any] h).bind fun r =>
 some ((a0L 0 r.1),[nth 0 r.2.1,nth 1 r.2.1,nth 2 r.2.1],r.2.2)).bind fun r_1 =>
 a0Q r_1.1 (some (a0i [nth 0 r_1.2.1],r_1.2.2)) fun x => a1a x (some (a0i [.int .u64 0],r_1.2.2))
theorem c8p (t0 : D) (h : Hp) : R a6y [t0] h = c3K t0 h :=
 er i39 (by kernel_rfl) (by kernel_rfl)
noncomputable def c3U (t0 : D) (h : Hp) : Option (D × Hp) :=
 (some ((.ptr h.length 0 0 : D),a0F h a0D 11 [[.str [],.int .i64 0,.int .i64 0,.int .i64 0,.int .i64 0,.nils,.int .i64 0,.int .i64 0,.str [],.str [],.nils]])).bind fun p2 =>
 (a0X tab a0m [0,2] [t0,.bool true]).bind fun t13 =>
 (R a3d [t13,.int .i64 4] p2.2).bind fun p14 =>
 (a0p 0 p14.1).bind fun t15 =>
 (a0p 1 p14.1).bind fun t16 =>
 (some ((.ptr p14.2.length 0 0 : D),a0F p14.2 a0m 3 [[.nils,.int .i64 0,.bool false]])).bind fun p5 =>
 ((a0h tab p5.2 a0m p5.1 t15).bind fun h' => some ((.und : D),h')).bind fun p907 =>
 (a0a tab a0m 2 p5.1).bind fun t17 =>
 (a0c tab p907.2 ty4 t17).bind fun t18 =>
 (dUn .not t18).bind fun t19 =>
 (gd t19 false (some t16)).bind fun t21 =>
 (gd t19 false (a0k tab .lss a0J t21 (.int .u64 4))).bind fun t22 =>
 (a0M t19 (.bool true) t22).bind fun t23 =>
 (gd t23 false (some t16)).bind fun t25 =>
 (gd t23 false (some t0)).bind fun t26 =>
 (gd t23 false (a0y tab a0H t26)).bind fun t27 =>
 (gd t23 false (a0k tab .sub ty3 t27 (.int .i64 4))).bind fun t28 =>
 (gd t23 false (a0Z tab ty3 a0J t28)).bind fun t29 =>
 (gd t23 false (a0k tab .gtr a0J t25 t29)).bind fun t30 =>
 (a0M t23 (.bool true) t30).bind fun t31 =>
 dIf t31
  ((a0X tab a0D [] []).bind fun t32 =>
 ((a0h tab p907.2 a0D p2.1 t32).bind fun h' => some ((.und : D),h')).bind fun p901 =>
 (a0c tab p901.2 a0D p2.1).bind fun d0 => scope h p901.2 (a0i [d0,.int .i64 0,.int .i64 14]))
  ((a0Z tab a0J ty3 t16).bind fun t34 =>
 (a0X tab a0m [0,1,2] [t0,t34,.bool true]).bind fun t38 =>
 (R a3d [t38,.int .i64 4] p907.2).bind fun p39 =>
 (a0p 0 p39.1).bind fun t40 =>
 (a0p 1 p39.1).bind fun t41 =>
 (a6t 3 t40).bind fun t8 =>
 (a0G tab a0H false true false [t0,t34]).bind fun t45 =>
 (R b0v [t45] p39.2).bind fun p46 =>
 (a0k tab .neq a0J t41 p46.1).bind fun t47 =>
 dIf t47
  ((a0X tab a0D [] []).bind fun t48 =>
 ((a0h tab p46.2 a0D p2.1 t48).bind fun h' => some ((.und : D),h')).bind fun p901_1 =>
 (a0c tab p901_1.2 a0D p2.1).bind fun d0 => scope h p901_1.2 (a0i [d0,.int .i64 0,.int .i64 15]))
  ((a0G tab a0H false true false [t0,t34]).bind fun t51 =>
 (a0a tab a0m 0 p5.1).bind fun t52 =>
 ((a0h tab p46.2 a0H t52 t51).bind fun h' => some ((.und : D),h')).bind fun p904 =>
 (some ((.ptr p904.2.length 0 0 : D),a0F p904.2 a0D 11 [[.str [],.int .i64 0,.int .i64 0,.int .i64 0,.int .i64 0,.nils,.int .i64 0,.int .i64 0,.str [],.str [],.nils]])).bind fun p10 =>
 (a0c tab p10.2 a0m p5.1).bind fun t54 =>
 (R a4u [t54] p10.2).bind fun p55 =>
 (a0p 0 p55.1).bind fun t56 =>
 (a0p 1 p55.1).bind fun t57 =>
 ((a0h tab p55.2 a0m p5.1 t56).bind fun h' => some ((.und : D),h')).bind fun p905 =>
 (a0a tab a0D 0 p10.1).bind fun t58 =>
 ((a0h tab p905.2 ty9 t58 t57).bind fun h' => some ((.und : D),h')).bind fun p907_1 =>
 (a0c tab p907_1.2 a0m p5.1).bind fun t60 =>
 (R a3B [t60] p907_1.2).bind fun p61 =>
 (a0p 0 p61.1).bind fun t62 =>
 (a0p 1 p61.1).bind fun t63 =>
 ((a0h tab p61.2 a0m p5.1 t62).bind fun h' => some ((.und : D),h')).bind fun p905_1 =>
 (a0a tab a0D 1 p10.1).bind fun t64 =>
 (a0a tab a0E 0 t64).bind fun t65 =>
 ((a0h tab p905_1.2 ty3 t65 t63).bind fun h' => some ((.und : D),h')).bind fun p908 =>
 (a0c tab p908.2 a0m p5.1).bind fun t67 =>
 (R a3B [t67] p908.2).bind fun p68 =>
 (a0p 0 p68.1).bind fun t69 =>
 (a0p 1 p68.1).bind fun t70 =>
 ((a0h tab p68.2 a0m p5.1 t69).bind fun h' => some ((.und : D),h')).bind fun p905_2 =>
 (a0a tab a0D 1 p10.1).bind fun t71 =>
 (a0a tab a0E 1 t71).bind fun t72 =>
 ((a0h tab p905_2.2 ty3 t72 t70).bind fun h' => some ((.und : D),h')).bind fun p908_1 =>
 (a0c tab p908_1.2 a0m p5.1).bind fun t74 =>
 (R a3B [t74] p908_1.2).bind fun p75 =>
 (a0p 0 p75.1).bind fun t76 =>
 (a0p 1 p75.1).bind fun t77 =>
 ((a0h tab p75.2 a0m p5.1 t76).bind fun h' => some ((.und : D),h')).bind fun p905_3 =>
 (a0a tab a0D 1 p10.1).bind fun t78 =>
 (a0a tab a0E 2 t78).bind fun t79 =>
 ((a0h tab p905_3.2 ty3 t79 t77).bind fun h' => some ((.und : D),h')).bind fun p908_2 =>
 (a0c tab p908_2.2 a0m p5.1).bind fun t81 =>
 (R a3B [t81] p908_2.2).bind fun p82 =>
 (a0p 0 p82.1).bind fun t83 =>
 (a0p 1 p82.1).bind fun t84 =>
 ((a0h tab p82.2 a0m p5.1 t83).bind fun h' => some ((.und : D),h')).bind fun p905_4 =>
 (a0a tab a0D 1 p10.1).bind fun t85 =>
 (a0a tab a0E 3 t85).bind fun t86 =>
 ((a0h tab p905_4.2 ty3 t86 t84).bind fun h' => some ((.und : D),h')).bind fun p908_3 =>
 (a0c tab p908_3.2 a0m p5.1).bind fun t88 =>
 (R b0z [t88] p908_3.2).bind fun p89 =>
 (a0p 0 p89.1).bind fun t90 =>
 (a0p 1 p89.1).bind fun t91 =>
 ((a0h tab p89.2 a0m p5.1 t90).bind fun h' => some ((.und : D),h')).bind fun p905_5 =>
 (a0a tab a0D 1 p10.1).bind fun t92 =>
 (a0a tab a0E 4 t92).bind fun t93 =>
 ((a0h tab p905_5.2 a1u t93 t91).bind fun h' => some ((.und : D),h')).bind fun p908_4 =>
 (a0c tab p908_4.2 a0m p5.1).bind fun t95 =>
 (R a3B [t95] p908_4.2).bind fun p96 =>
 (a0p 0 p96.1).bind fun t97 =>
 (a0p 1 p96.1).bind fun t98 =>
 ((a0h tab p96.2 a0m p5.1 t97).bind fun h' => some ((.und : D),h')).bind fun p905_6 =>
 (a0a tab a0D 1 p10.1).bind fun t99 =>
 (a0a tab a0E 5 t99).bind fun t100 =>
 ((a0h tab p905_6.2 ty3 t100 t98).bind fun h' => some ((.und : D),h')).bind fun p908_5 =>
 (a0c tab p908_5.2 a0m p5.1).bind fun t102 =>
 (R a3B [t102] p908_5.2).bind fun p103 =>
 (a0p 0 p103.1).bind fun t104 =>
 (a0p 1 p103.1).bind fun t105 =>
 ((a0h tab p103.2 a0m p5.1 t104).bind fun h' => some ((.und : D),h')).bind fun p905_7 =>
 (a0a tab a0D 1 p10.1).bind fun t106 =>
 (a0a tab a0E 6 t106).bind fun t107 =>
 ((a0h tab p905_7.2 ty3 t107 t105).bind fun h' => some ((.und : D),h')).bind fun p908_6 =>
 (a0c tab p908_6.2 a0m p5.1).bind fun t109 =>
 (R a4u [t109] p908_6.2).bind fun p110 =>
 (a0p 0 p110.1).bind fun t111 =>
 (a0p 1 p110.1).bind fun t112 =>
 ((a0h tab p110.2 a0m p5.1 t111).bind fun h' => some ((.und : D),h')).bind fun p905_8 =>
 (a0a tab a0D 1 p10.1).bind fun t113 =>
 (a0a tab a0E 7 t113).bind fun t114 =>
 ((a0h tab p905_8.2 ty9 t114 t112).bind fun h' => some ((.und : D),h')).bind fun p908_7 =>
 (a0c tab p908_7.2 a0m p5.1).bind fun t116 =>
 (R a4u [t116] p908_7.2).bind fun p117 =>
 (a0p 0 p117.1).bind fun t118 =>
 (a0p 1 p117.1).bind fun t119 =>
 ((a0h tab p117.2 a0m p5.1 t118).bind fun h' => some ((.und : D),h')).bind fun p905_9 =>
 (a0a tab a0D 1 p10.1).bind fun t120 =>
 (a0a tab a0E 8 t120).bind fun t121 =>
 ((a0h tab p905_9.2 ty9 t121 t119).bind fun h' => some ((.und : D),h')).bind fun p908_8 =>
 (a0c tab p908_8.2 a0m p5.1).bind fun t123 =>
 (R b0A [t123] p908_8.2).bind fun p124 =>
 (a0p 0 p124.1).bind fun t125 =>
 (a0p 1 p124.1).bind fun t126 =>
 ((a0h tab p124.2 a0m p5.1 t125).bind fun h' => some ((.und : D),h')).bind fun p905_10 =>
 (a0a tab a0D 1 p10.1).bind fun t127 =>
 (a0a tab a0E 9 t127).bind fun t128 =>
 ((a0h tab p905_10.2 a1c t128 t126).bind fun h' => some ((.und : D),h')).bind fun p908_9 =>
 (a0a tab a0m 2 p5.1).bind fun t129 =>
 (a0c tab p908_9.2 ty4 t129).bind fun t130 =>
 (dUn .not t130).bind fun t131 =>
 (gd t131 false (a0a tab a0m 1 p5.1)).bind fun t133 =>
 (gd t131 false (a0c tab p908_9.2 ty3 t133)).bind fun t134 =>
 (gd t131 false (some t34)).bind fun t135 =>
 (gd t131 false (a0k tab .neq ty3 t134 t135)).bind fun t136 =>
 (a0M t131 (.bool true) t136).bind fun t137 =>
 (gd t137 false (a0c tab p908_9.2 a0D p10.1)).bind fun t139 =>
 (gdW t137 false p908_9.2 (R a7r [t139] p908_9.2)).bind fun p140 =>
 (gd t137 false (a0k tab .neq a5n p140.1 (.int .i64 0))).bind fun t141 =>
 (a0M t137 (.bool true) t141).bind fun t142 =>
 dIf t142
  ((a0X tab a0D [] []).bind fun t143 =>
 ((a0h tab p140.2 a0D p2.1 t143).bind fun h' => some ((.und : D),h')).bind fun p901_2 =>
 (a0c tab p901_2.2 a0D p2.1).bind fun d0 => scope h p901_2.2 (a0i [d0,.int .i64 0,.int .i64 1]))
  ((a0c tab p140.2 a0D p10.1).bind fun t144 =>
 (a0k tab .add ty3 t34 (.int .i64 4)).bind fun t146 =>
 ((a0h tab p140.2 a0D p2.1 t144).bind fun h' => some ((.und : D),h')).bind fun p903 =>
 (a0c tab p903.2 a0D p2.1).bind fun d0 => scope h p903.2 (a0i [d0,t146,.int .i64 0]))))
theorem c8z (t0 : D) (h : Hp) : R b0x [t0] h = c3U t0 h :=
 er i40 (by kernel_rfl) (by kernel_rfl)
noncomputable def F82 (t0 t1 : D) (h : Hp) : Option (D × Hp) :=
 (a2p t0).bind fun t2 =>
 (a2p t1).bind fun t3 =>
 (a0a tab a0D 1 t2).bind fun t7 =>
 (a0c tab h a0E t7).bind fun t8 =>
 (a0a tab a0D 1 t3).bind fun t9 =>
 (a0c tab h a0E t9).bind fun t10 =>
 (some ((.ptr h.length 0 0 : D),a0F h a0E 10 [[.int .i64 0,.int .i64 0,.int .i64 0,.int .i64 0,.nils,.int .i64 0,.int .i64 0,.str [],.str [],.nils]])).bind fun p5 =>
 (some (.any : D)).bind fun t6 =>
 ((a0h tab p5.2 a0E p5.1 t8).bind fun h' => some ((.und : D),h')).bind fun p906 =>
 chk (a0c tab p5.2 a0E t7 = some t8)
 (chk (a0c tab p5.2 a0E t9 = some t10)
 (chk (a0c tab p906.2 a0E t9 = some t10)
 (((a0h tab (a0F p906.2 a0E 10 [[.int .i64 0,.int .i64 0,.int .i64 0,.int .i64 0,.nils,.int .i64 0,.int .i64 0,.str [],.str [],.nils]]) a0E (.ptr p906.2.length 0 0) t10).bind fun h' => some ((.und : D),h')).bind fun p907 =>
 (a0a tab a0D 0 t2).bind fun t11 =>
 (a0c tab p907.2 ty9 t11).bind fun t12 =>
 (a0a tab a0D 0 t3).bind fun t13 =>
 (a0c tab p907.2 ty9 t13).bind fun t14 =>
 (a0k tab .eql ty9 t12 t14).bind fun t15 =>
 (gd t15 true (a0a tab a0E 0 p5.1)).bind fun t17 =>
 (gd t15 true (a0c tab p907.2 ty3 t17)).bind fun t18 =>
 (gd t15 true (a0a tab a0E 0 (.ptr p906.2.length 0 0))).bind fun t19 =>
 (gd t15 true (a0c tab p907.2 ty3 t19)).bind fun t20 =>
 (gd t15 true (a0k tab .eql ty3 t18 t20)).bind fun t21 =>
 (a0M t15 t21 (.bool false)).bind fun t22 =>
 (gd t22 true (a0a tab a0E 1 p5.1)).bind fun t24 =>
 (gd t22 true (a0c tab p907.2 ty3 t24)).bind fun t25 =>
 (gd t22 true (a0a tab a0E 1 (.ptr p906.2.length 0 0))).bind fun t26 =>
 (gd t22 true (a0c tab p907.2 ty3 t26)).bind fun t27 =>
 (gd t22 true (a0k tab .eql ty3 t25 t27)).bind fun t28 =>
 (a0M t22 t28 (.bool false)).bind fun t29 =>
 (gd t29 true (a0a tab a0E 2 p5.1)).bind fun t31 =>
 (gd t29 true (a0c tab p907.2 ty3 t31)).bind fun t32 =>
 (gd t29 true (a0a tab a0E 2 (.ptr p906.2.length 0 0))).bind fun t33 =>
 (gd t29 true (a0c tab p907.2 ty3 t33)).bind fun t34 =>
 (gd t29 true (a0k tab .eql ty3 t32 t34)).bind fun t35 =>
 (a0M t29 t35 (.bool false)).bind fun t36 =>
 (gd t36 true (a0a tab a0E 3 p5.1)).bind fun t38 =>
 (gd t36 true (a0c tab p907.2 ty3 t38)).bind fun t39 =>
 (gd t36 true (a0a tab a0E 3 (.ptr p906.2.length 0 0))).bind fun t40 =>
 (gd t36 true (a0c tab p907.2 ty3 t40)).bind fun t41 =>
 (gd t36 true (a0k tab .eql ty3 t39 t41)).bind fun t42 =>
 (a0M t36 t42 (.bool false)).bind fun t43 =>
 (gd t43 true (a0a tab a0E 5 p5.1)).bind fun t45 =>
 (gd t43 true (a0c tab p907.2 ty3 t45)).bind fun t46 =>
 (gd t43 true (a0a tab a0E 5 (.ptr p906.2.length 0 0))).bind fun t47 =>
 (gd t43 true (a0c tab p907.2 ty3 t47)).bind fun t48 =>
 (gd t43 true (a0k tab .eql ty3 t46 t48)).bind fun t49 =>
 (a0M t43 t49 (.bool false)).bind fun t50 =>
 (gd t50 true (a0a tab a0E 6 p5.1)).bind fun t52 =>
 (gd t50 true (a0c tab p907.2 ty3 t52)).bind fun t53 =>
 (gd t50 true (a0a tab a0E 6 (.ptr p906.2.length 0 0))).bind fun t54 =>
 (gd t50 true (a0c tab p907.2 ty3 t54)).bind fun t55 =>
 (gd t50 true (a0k tab .eql ty3 t53 t55)).bind fun t56 =>
 (a0M t50 t56 (.bool false)).bind fun t57 =>
 (gd t57 true (a0a tab a0E 7 p5.1)).bind fun t59 =>
 (gd t57 true (a0c tab p907.2 ty9 t59)).bind fun t60 =>
 (gd t57 true (a0a tab a0E 7 (.ptr p906.2.length 0 0))).bind fun t61 =>
 (gd t57 true (a0c tab p907.2 ty9 t61)).bind fun t62 =>
 (gd t57 true (a0k tab .eql ty9 t60 t62)).bind fun t63 =>
 (a0M t57 t63 (.bool false)).bind fun t64 =>
 (gd t64 true (a0a tab a0E 8 p5.1)).bind fun t66 =>
 (gd t64 true (a0c tab p907.2 ty9 t66)).bind fun t67 =>
 (gd t64 true (a0a tab a0E 8 (.ptr p906.2.length 0 0))).bind fun t68 =>
 (gd t64 true (a0c tab p907.2 ty9 t68)).bind fun t69 =>
 (gd t64 true (a0k tab .eql ty9 t67 t69)).bind fun t70 =>
 (a0M t64 t70 (.bool false)).bind fun t71 =>
 (gd t71 true (a0a tab a0E 4 p5.1)).bind fun t73 =>
 (gd t71 true (a0c tab p907.2 a1u t73)).bind fun t74 =>
 (gd t71 true (a0a tab a0E 4 (.ptr p906.2.length 0 0))).bind fun t75 =>
 (gd t71 true (a0c tab p907.2 a1u t75)).bind fun t76 =>
 (gdW t71 true p907.2 (R c9Q [t74,t76] p907.2)).bind fun p77 =>
 (a0M t71 p77.1 (.bool false)).bind fun t78 =>
 (gd t78 true (a0a tab a0E 9 p5.1)).bind fun t80 =>
 (gd t78 true (a0c tab p77.2 a1c t80)).bind fun t81 =>
 (gd t78 true (a0a tab a0E 9 (.ptr p906.2.length 0 0))).bind fun t82 =>
 (gd t78 true (a0c tab p77.2 a1c t82)).bind fun t83 =>
 (gdW t78 true p77.2 (R c6P [t81,t83] p77.2)).bind fun p84 =>
 (a0M t78 p84.1 (.bool false)).bind fun t85 =>
 scope h p84.2 (a0i [t85]))))
theorem e82 (t0 t1 : D) (h : Hp) : R c9P [t0,t1] h = F82 t0 t1 h :=
 er i41 (by kernel_rfl) (by kernel_rfl)
noncomputable def a8E (ds_1 : List D) (h_2 : Hp) : Option Out :=
 (a0k tab .lss ty3 (nth 1 ds_1) (.int .i64 8)).bind fun t20 =>
 dIf t20
  ((a0k tab .and a3p (nth 0 ds_1) (.int .u32 1)).bind fun t24 =>
 (a0k tab .eql a3p t24 (.int .u32 1)).bind fun t25 =>
 (dIf t25
  ((a0k tab .shr a3p (nth 0 ds_1) (.int .u64 1)).bind fun t27 =>
 (a0k tab .xor a3p t27 (.int .u32 3988292384)).bind fun t28 =>
 some (.nrm,[t28],h_2))
  ((a0k tab .shr a3p (nth 0 ds_1) (.int .u64 1)).bind fun t30 =>
 some (.nrm,[t30],h_2))).bind fun r_2 =>
 a0Q (a0L 3 r_2.1) ((a0k tab .add ty3 (nth 1 ds_1) (.int .i64 1)).bind fun t22 =>
 some (.nrm,[nth 0 r_2.2.1,t22,t20,t25],r_2.2.2)) fun x => some (x,[nth 0 r_2.2.1,nth 1 ds_1,t20,t25],r_2.2.2))
  (some ((.ext 2),[nth 0 ds_1,nth 1 ds_1,t20,nth 3 ds_1],h_2))
noncomputable def b2g (t0 : D) (ds : List D) (h_1 : Hp) : Option Out :=
 (a0y tab a0H t0).bind fun t8 =>
 (a0k tab .lss ty3 (nth 1 ds) t8).bind fun t9 =>
 dIf t9
  ((a0b tab a0H t0 (nth 1 ds)).bind fun t15 =>
 (a0c tab h_1 ty5 t15).bind fun t16 =>
 (a0Z tab ty5 a3p t16).bind fun t17 =>
 (a0k tab .xor a3p (nth 0 ds) t17).bind fun t18 =>
 ((a0I (a8E) [t18,.int .i64 0,nth 4 ds,nth 5 ds] h_1).bind fun r_1 =>
 some ((a0L 2 r_1.1),[nth 0 r_1.2.1,nth 1 r_1.2.1,nth 2 r_1.2.1,nth 3 r_1.2.1],r_1.2.2)).bind fun r_3 =>
 a0Q (a0L 1 r_3.1) ((a0k tab .add ty3 (nth 1 ds) (.int .i64 1)).bind fun t11 =>
 some (.nrm,[nth 0 r_3.2.1,t11,nth 1 r_3.2.1,t9,nth 2 r_3.2.1,nth 3 r_3.2.1],r_3.2.2)) fun x_1 => some (x_1,[nth 0 r_3.2.1,nth 1 ds,nth 1 r_3.2.1,t9,nth 2 r_3.2.1,nth 3 r_3.2.1],r_3.2.2))
  (some ((.ext 0),[nth 0 ds,nth 1 ds,nth 2 ds,t9,nth 4 ds,nth 5 ds],h_1))
noncomputable def c3l (t0 : D) (h : Hp) : Option (D × Hp) :=
 ((a0I (b2g t0) [.int .u32 4294967295,.int .i64 0,.any,.any,.any,.any] h).bind fun r =>
 some ((a0L 0 r.1),[nth 0 r.2.1,nth 1 r.2.1,nth 2 r.2.1,nth 3 r.2.1,nth 4 r.2.1,nth 5 r.2.1],r.2.2)).bind fun r_4 =>
 a0Q r_4.1 ((dUn .xor (nth 0 r_4.2.1)).bind fun t32 =>
 some (a0i [t32],r_4.2.2)) fun x_2 => a1a x_2 (some (a0i [.int .u32 0],r_4.2.2))
theorem c7L (t0 : D) (h : Hp) : R b5M [t0] h = c3l t0 h :=
 er i42 (by kernel_rfl) (by kernel_rfl)
noncomputable def F24 (t0 t1 : D) (h : Hp) : Option (D × Hp) :=
 (R c6M [t0] h).bind fun p7 =>
 (dUn .not p7.1).bind fun t8 =>
 (gd t8 false (some t1)).bind fun t10 =>
 (gd t8 false (a0k tab .lss ty3 t10 (.int .i64 1))).bind fun t11 =>
 (a0M t8 (.bool true) t11).bind fun t12 =>
 dIf t12
  (some (a0i [.int .i64 0],p7.2))
  ((a0s tab t0).bind fun t14 =>
 (a0a tab a4V 0 t14).bind fun t15 =>
 (a0c tab p7.2 a0H t15).bind fun t16 =>
 (a0s tab t0).bind fun t18 =>
 (a0a tab a4V 1 t18).bind fun t19 =>
 (a0c tab p7.2 ty3 t19).bind fun t20 =>
 (a0b tab a0H t16 t20).bind fun t21 =>
 (a0c tab p7.2 ty5 t21).bind fun t22 =>
 (a0Z tab ty5 ty3 t22).bind fun t23 =>
 (a0s tab t0).bind fun t25 =>
 (a0a tab a4V 1 t25).bind fun t26 =>
 (a0c tab p7.2 ty3 t26).bind fun t27 =>
 (a0k tab .add ty3 t27 (.int .i64 1)).bind fun t28 =>
 (a0s tab t0).bind fun t29 =>
 (a0a tab a4V 1 t29).bind fun t30 =>
 ((a0h tab p7.2 ty3 t30 t28).bind fun h' => some ((.und : D),h')).bind fun p907 =>
 (a0k tab .mul ty3 t23 t1).bind fun t33 =>
 (a0k tab .quo ty3 t33 (.int .i64 256)).bind fun t34 =>
 some (a0i [t34],p907.2))
theorem e24 (t0 t1 : D) (h : Hp) : R a5q [t0,t1] h = F24 t0 t1 h :=
 er i43 (by kernel_rfl) (by kernel_rfl)
noncomputable def b2e (t9m t10 : D) (ds : List D) (h_1 : Hp) : Option Out :=
 (a0k tab .lss ty3 (nth 2 ds) t10).bind fun t12 =>
 dIf t12
  ((a0b tab a2i t9m (nth 2 ds)).bind fun t13 =>
 (a0c tab h_1 a0H t13).bind fun t14 =>
 (a0y tab a0H t14).bind fun t17 =>
 (a0k tab .add ty3 (nth 0 ds) t17).bind fun t18 =>
 (a0k tab .lss ty3 t18 (.int .i64 0)).bind fun t20 =>
 (dIf t20
  (((none : Option D)).bind fun t21 =>
 ((none : Option D)).bind fun t901 =>
 some (.nrm,([] : List D),h_1))
  (some (.nrm,([] : List D),h_1))).bind fun r_1 =>
 a0Q (a0L 1 r_1.1) ((a0k tab .add ty3 (nth 2 ds) (.int .i64 1)).bind fun t22 =>
 some (.nrm,[t18,t14,t22,t12,t20],r_1.2.2)) fun x => some (x,[t18,t14,nth 2 ds,t12,t20],r_1.2.2))
  (some ((.ext 0),[nth 0 ds,nth 1 ds,nth 2 ds,t12,nth 4 ds],h_1))
noncomputable def b2f (t25m t26 : D) (ds_1 : List D) (h_2 : Hp) : Option Out :=
 (a0k tab .lss ty3 (nth 2 ds_1) t26).bind fun t28 =>
 dIf t28
  ((a0b tab a2i t25m (nth 2 ds_1)).bind fun t29 =>
 (a0c tab h_2 a0H t29).bind fun t30 =>
 (a0C tab h_2 a0H a0H (nth 0 ds_1) t30).bind fun p33 =>
 (a0k tab .add ty3 (nth 2 ds_1) (.int .i64 1)).bind fun t34 =>
 some (.nrm,[p33.1,t30,t34,t28],p33.2))
  (some ((.ext 2),[nth 0 ds_1,nth 1 ds_1,nth 2 ds_1,t28],h_2))
noncomputable def c3j (t0 : D) (h : Hp) : Option (D × Hp) :=
 (a0y tab a2i t0).bind fun t10 =>
 ((a0I (b2e t0 t10) [.int .i64 0,.any,.int .i64 0,.any,.any] h).bind fun r =>
 some ((a0L 0 r.1),[nth 0 r.2.1,nth 1 r.2.1,nth 2 r.2.1,nth 3 r.2.1,nth 4 r.2.1],r.2.2)).bind fun r_2 =>
 a0Q r_2.1 ((R b5N [.nils,nth 0 r_2.2.1] r_2.2.2).bind fun p24 =>
 (a0y tab a2i t0).bind fun t26 =>
 ((a0I (b2f t0 t26) [p24.1,.any,.int .i64 0,.any] p24.2).bind fun r_3 =>
 some ((a0L 2 r_3.1),[nth 0 r_3.2.1,nth 1 r_3.2.1,nth 2 r_3.2.1,nth 3 r_3.2.1],r_3.2.2)).bind fun r_4 =>
 a0Q r_4.1 (some (a0i [nth 0 r_4.2.1],r_4.2.2)) fun x_2 => a1a x_2 (some (a0i [.nils],r_4.2.2))) fun x_1 => a1a x_1 (some (a0i [.nils],r_2.2.2))
theorem c7J (t0 : D) (h : Hp) : R a8i [t0] h = c3j t0 h :=
 er i59 (by kernel_rfl) (by kernel_rfl)
noncomputable def c3k (t0 t1 : D) (h : Hp) : Option (D × Hp) :=
 (a1h tab a2i 2 [0,1] [t0,t1]).bind fun t7 =>
 (R a8i [t7] h).bind fun p8 =>
 (R b5O [p8.1] p8.2).bind fun p9 =>
 scope h p9.2 (a0i [p9.1])
theorem c7K (t0 t1 : D) (h : Hp) : R b5L [t0,t1] h = c3k t0 t1 h :=
 er i60 (by kernel_rfl) (by kernel_rfl)
noncomputable def b4K (t0 t1 : D) (ds : List D) (ds_1 : List D) (h_2 : Hp) : Option Out :=
 (a0k tab .gtr ty3 (nth 2 ds_1) (.int .i64 0)).bind fun t24 =>
 dIf t24
  ((a0k tab .add ty3 (.int .i64 5) (nth 1 ds)).bind fun t30 =>
 (R c6O [t0,t1,t30,nth 1 ds_1] h_2).bind fun p32 =>
 (a6t 11 p32.1).bind fun t12 =>
 (a0c tab p32.2 a0D t12).bind fun t34 =>
 (a1h tab a0K 1 [0] [t34]).bind fun t35 =>
 (a0C tab p32.2 a0K a0K (nth 0 ds_1) t35).bind fun p36 =>
 (a0a tab a0D 1 t12).bind fun t37 =>
 (a0a tab a0E 3 t37).bind fun t38 =>
 (a0c tab p36.2 ty3 t38).bind fun t39 =>
 (a0k tab .sub ty3 (nth 2 ds_1) (.int .i64 1)).bind fun t26 =>
 some (.nrm,[p36.1,t39,t26,t12,t24],p36.2))
  (some ((.ext 2),[nth 0 ds_1,nth 1 ds_1,nth 2 ds_1,nth 3 ds_1,t24],h_2))
noncomputable def b9P (t0 t1 t2 : D) (ds : List D) (h_1 : Hp) : Option Out :=
 (R a5q [t0,.int .i64 3] h_1).bind fun p15 =>
 (a0k tab .leq ty3 (nth 1 ds) p15.1).bind fun t16 =>
 dIf t16
  ((a0k tab .add ty3 t2 (.int .i64 1)).bind fun t21 =>
 (R a5q [t0,t21] p15.2).bind fun p22 =>
 ((a0I (b4K t0 t1 ds) [.nils,.int .i64 0,p22.1,nth 5 ds,nth 7 ds] p22.2).bind fun r_1 =>
 some ((a0L 2 r_1.1),[nth 0 r_1.2.1,nth 1 r_1.2.1,nth 2 r_1.2.1,nth 3 r_1.2.1,nth 4 r_1.2.1],r_1.2.2)).bind fun r_2 =>
 a0Q r_2.1 ((a1h tab a4p 1 [0] [nth 0 r_2.2.1]).bind fun t42 =>
 (a0C tab r_2.2.2 a4p a4p (nth 0 ds) t42).bind fun p43 =>
 (a0k tab .add ty3 (nth 1 ds) (.int .i64 1)).bind fun t18 =>
 some (.nrm,[p43.1,t18,nth 0 r_2.2.1,nth 1 r_2.2.1,nth 2 r_2.2.1,nth 3 r_2.2.1,t16,nth 4 r_2.2.1],p43.2)) fun x => a0Q (a0L 1 x) ((a0k tab .add ty3 (nth 1 ds) (.int .i64 1)).bind fun t18_1 =>
 some (.nrm,[nth 0 ds,t18_1,nth 0 r_2.2.1,nth 1 r_2.2.1,nth 2 r_2.2.1,nth 3 r_2.2.1,t16,nth 4 r_2.2.1],r_2.2.2)) fun x_1 => some (x_1,[nth 0 ds,nth 1 ds,nth 0 r_2.2.1,nth 1 r_2.2.1,nth 2 r_2.2.1,nth 3 r_2.2.1,t16,nth 4 r_2.2.1],r_2.2.2))
  (some ((.ext 0),[nth 0 ds,nth 1 ds,nth 2 ds,nth 3 ds,nth 4 ds,nth 5 ds,t16,nth 7 ds],p15.2))
noncomputable def F71 (t0 t1 t2 : D) (h : Hp) : Option (D × Hp) :=
 ((a0I (b9P t0 t1 t2) [.nils,.int .i64 0,.any,.any,.any,.any,.any,.any] h).bind fun r =>
 some ((a0L 0 r.1),[nth 0 r.2.1,nth 1 r.2.1,nth 2 r.2.1,nth 3 r.2.1,nth 4 r.2.1,nth 5 r.2.1,nth 6 r.2.1,nth 7 r.2.1],r.2.2)).bind fun r_3 =>
 a0Q r_3.1 (scope h r_3.2.2 (a0i [nth 0 r_3.2.1])) fun x_2 => a1a x_2 (scope h r_3.2.2 (a0i [.nils]))
theorem e71 (t0 t1 t2 : D) (h : Hp) : R c6N [t0,t1,t2] h = F71 t0 t1 t2 h :=
 er i61 (by kernel_rfl) (by kernel_rfl)
noncomputable def b2o (t3 : D) (p5 : D × Hp) (t6m : D) (ds : List D) (h_1 : Hp) : Option Out :=
 (a0y tab a1u t6m).bind fun t26 =>
 (a0k tab .lss ty3 (nth 0 ds) t26).bind fun t27 =>
 dIf t27
  ((a0a tab a0D 0 t3).bind fun t30 =>
 (a0c tab h_1 ty9 t30).bind fun t31 =>
 (a0k tab .neq ty9 t31 (.str [])).bind fun t32 =>
 (dIf t32
  ((a0b tab a1u t6m (nth 0 ds)).bind fun t35 =>
 (a0a tab a1A 2 t35).bind fun t36 =>
 ((a0h tab h_1 ty9 t36 (.str [])).bind fun h' => some ((.und : D),h')).bind fun p904 =>
 some (.nrm,([] : List D),p904.2))
  (some (.nrm,([] : List D),h_1))).bind fun r_1 =>
 a0Q r_1.1 ((a0a tab a0D 1 p5.1).bind fun t37 =>
 (a0a tab a0E 4 t37).bind fun t38 =>
 (a0c tab r_1.2.2 a1u t38).bind fun t39 =>
 (a0b tab a1u t6m (nth 0 ds)).bind fun t42 =>
 (a0c tab r_1.2.2 a1A t42).bind fun t43 =>
 (a1h tab a1u 1 [0] [t43]).bind fun t44 =>
 (a0C tab r_1.2.2 a1u a1u t39 t44).bind fun p45 =>
 (a0a tab a0D 1 p5.1).bind fun t46 =>
 (a0a tab a0E 4 t46).bind fun t47 =>
 ((a0h tab p45.2 a1u t47 p45.1).bind fun h' => some ((.und : D),h')).bind fun p911 =>
 (a0k tab .add ty3 (nth 0 ds) (.int .i64 1)).bind fun t29 =>
 some (.nrm,[t29,t27,t32],p911.2)) fun x => a0Q (a0L 1 x) ((a0k tab .add ty3 (nth 0 ds) (.int .i64 1)).bind fun t29_1 =>
 some (.nrm,[t29_1,t27,t32],r_1.2.2)) fun x_1 => some (x_1,[nth 0 ds,t27,t32],r_1.2.2))
  (some ((.ext 0),[nth 0 ds,t27,nth 2 ds],h_1))
noncomputable def c3H (t0 t1 : D) (h : Hp) : Option (D × Hp) :=
 (a2p t0).bind fun t2 =>
 (a2p t1).bind fun t3 =>
 (some ((.ptr h.length 0 0 : D),a0F h a0D 11 [[.str [],.int .i64 0,.int .i64 0,.int .i64 0,.int .i64 0,.nils,.int .i64 0,.int .i64 0,.str [],.str [],.nils]])).bind fun p4 =>
 (a0c tab p4.2 a0D t3).bind fun t8 =>
 (some ((.ptr p4.2.length 0 0 : D),a0F p4.2 a0D 11 [[.str [],.int .i64 0,.int .i64 0,.int .i64 0,.int .i64 0,.nils,.int .i64 0,.int .i64 0,.str [],.str [],.nils]])).bind fun p5 =>
 ((a0h tab p5.2 a0D p5.1 t8).bind fun h' => some ((.und : D),h')).bind fun p902 =>
 (a0a tab a0D 1 t2).bind fun t9 =>
 (a0a tab a0E 2 t9).bind fun t10 =>
 (a0c tab p902.2 ty3 t10).bind fun t11 =>
 (a0a tab a0D 1 p5.1).bind fun t12 =>
 (a0a tab a0E 2 t12).bind fun t13 =>
 ((a0h tab p902.2 ty3 t13 t11).bind fun h' => some ((.und : D),h')).bind fun p905 =>
 (a0a tab a0D 1 p5.1).bind fun t14 =>
 (a0a tab a0E 4 t14).bind fun t15 =>
 ((a0h tab p905.2 a1u t15 (.nils)).bind fun h' => some ((.und : D),h')).bind fun p902_1 =>
 (a0a tab a0D 1 t2).bind fun t16 =>
 (a0a tab a0E 4 t16).bind fun t17 =>
 (a0c tab p902_1.2 a1u t17).bind fun t18 =>
 (a0C tab p902_1.2 a1u a1u (.nils) t18).bind fun p19 =>
 (a0a tab a0D 1 t3).bind fun t20 =>
 (a0a tab a0E 4 t20).bind fun t21 =>
 (a0c tab p19.2 a1u t21).bind fun t22 =>
 (a0C tab p19.2 a1u a1u p19.1 t22).bind fun p23 =>
 chk (a0c tab p902_1.2 a1u t21 = some t22)
 (((a0I (b2o t3 p5 p23.1) [.int .i64 0,.any,.any] p23.2).bind fun r =>
 some ((a0L 0 r.1),[nth 0 r.2.1,nth 1 r.2.1,nth 2 r.2.1],r.2.2)).bind fun r_2 =>
 a0Q r_2.1 ((a0c tab r_2.2.2 a0D p5.1).bind fun t48 =>
 ((a0h tab r_2.2.2 a0D p4.1 t48).bind fun h' => some ((.und : D),h')).bind fun p901 =>
 (a0c tab p901.2 a0D p4.1).bind fun d0 => scope h p901.2 (a0i [d0])) fun x_2 => a1a x_2 ((a0c tab r_2.2.2 a0D p4.1).bind fun d0 => scope h r_2.2.2 (a0i [d0])))
theorem c8k (t0 t1 : D) (h : Hp) : R b3e [t0,t1] h = c3H t0 t1 h :=
 er i62 (by kernel_rfl) (by kernel_rfl)
noncomputable def c3o (t0 : D) (h : Hp) : Option (D × Hp) :=
 (a2p t0).bind fun t1 =>
 (a0a tab a0D 1 t1).bind fun t5 =>
 (a0c tab h a0E t5).bind fun t6 =>
 (a6t 10 t6).bind fun t3 =>
 (a0a tab a0D 0 t1).bind fun t8 =>
 (a0c tab h ty9 t8).bind fun t9 =>
 (a0k tab .eql ty9 t9 (.str [])).bind fun t10 =>
 dIf t10
  ((a0c tab h a0E t3).bind fun t11 =>
 (R b0p [t11] h).bind fun p12 =>
 some (a0i [p12.1],p12.2))
  ((a0a tab a0D 0 t1).bind fun t14 =>
 (a0c tab h ty9 t14).bind fun t15 =>
 (a0y tab ty9 t15).bind fun t16 =>
 (a0k tab .gtr ty3 t16 (.int .i64 32)).bind fun t17 =>
 dIf t17
  (some (a0i [.int .i64 3],h))
  ((a0c tab h a0E t3).bind fun t19 =>
 (R b3a [t19] h).bind fun p20 =>
 (dUn .not p20.1).bind fun t21 =>
 dIf t21
  (some (a0i [.int .i64 2],p20.2))
  ((a0c tab p20.2 a0E t3).bind fun t22 =>
 (R b3b [t22,.int .i64 60000] p20.2).bind fun p23 =>
 (a0k tab .eql a5n p23.1 (.int .i64 9)).bind fun t25 =>
 (gd t25 false (some p23.1)).bind fun t27 =>
 (gd t25 false (a0k tab .eql a5n t27 (.int .i64 4))).bind fun t28 =>
 (a0M t25 (.bool true) t28).bind fun t29 =>
 (gd t29 false (some p23.1)).bind fun t31 =>
 (gd t29 false (a0k tab .eql a5n t31 (.int .i64 19))).bind fun t32 =>
 (a0M t29 (.bool true) t32).bind fun t33 =>
 dIf t33
  (some (a0i [p23.1],p23.2))
  ((a0a tab a0E 5 t3).bind fun t35 =>
 (a0c tab p23.2 ty3 t35).bind fun t36 =>
 (a0k tab .neq ty3 t36 (.int .i64 0)).bind fun t37 =>
 (gd t37 false (a0a tab a0E 6 t3)).bind fun t39 =>
 (gd t37 false (a0c tab p23.2 ty3 t39)).bind fun t40 =>
 (gd t37 false (a0k tab .neq ty3 t40 (.int .i64 0))).bind fun t41 =>
 (a0M t37 (.bool true) t41).bind fun t42 =>
 (gd t42 false (a0a tab a0E 7 t3)).bind fun t44 =>
 (gd t42 false (a0c tab p23.2 ty9 t44)).bind fun t45 =>
 (gd t42 false (a0k tab .neq ty9 t45 (.str []))).bind fun t46 =>
 (a0M t42 (.bool true) t46).bind fun t47 =>
 (gd t47 false (a0a tab a0E 8 t3)).bind fun t49 =>
 (gd t47 false (a0c tab p23.2 ty9 t49)).bind fun t50 =>
 (gd t47 false (a0k tab .neq ty9 t50 (.str []))).bind fun t51 =>
 (a0M t47 (.bool true) t51).bind fun t52 =>
 (gd t52 false (a0a tab a0E 9 t3)).bind fun t54 =>
 (gd t52 false (a0c tab p23.2 a1c t54)).bind fun t55 =>
 (gd t52 false (a0y tab a1c t55)).bind fun t56 =>
 (gd t52 false (a0k tab .neq ty3 t56 (.int .i64 0))).bind fun t57 =>
 (a0M t52 (.bool true) t57).bind fun t58 =>
 (gd t58 false (a0a tab a0E 4 t3)).bind fun t60 =>
 (gd t58 false (a0c tab p23.2 a1u t60)).bind fun t61 =>
 (gdW t58 false p23.2 (R b5P [t61,.fn (.func b0q) [] []] p23.2)).bind fun p62 =>
 (a0M t58 (.bool true) p62.1).bind fun t63 =>
 dIf t63
  (some (a0i [.int .i64 19],p62.2))
  (some (a0i [.int .i64 0],p62.2))))))
theorem c7O (t0 : D) (h : Hp) : R a5P [t0] h = c3o t0 h :=
 er i63 (by kernel_rfl) (by kernel_rfl)
noncomputable def a8S (t0 t33 t34 : D) (ds : List D) (h_1 : Hp) : Option Out :=
 (a0k tab .lss ty3 (nth 1 ds) t34).bind fun t36 =>
 dIf t36
  ((a0b tab a5Z t33 (nth 1 ds)).bind fun t37 =>
 (a0c tab h_1 c0O t37).bind fun t38 =>
 (a2L tab R "logtide/event.number" [t0,t38] h_1).bind fun p41 =>
 (a0k tab .add ty3 (nth 1 ds) (.int .i64 1)).bind fun t42 =>
 some (.nrm,[t38,t42,t36],p41.2))
  (some ((.ext 0),[nth 0 ds,nth 1 ds,t36],h_1))
noncomputable def a6K (t0 t4m : D) (p52 : D × Hp) (ds_1 : List D) (h_2 : Hp) : Option Out :=
 (a0k tab .lss ty3 (nth 2 ds_1) p52.1).bind fun t54 =>
 dIf t54
  ((a0s tab t4m).bind fun t58 =>
 (a0a tab a0E 4 t58).bind fun t59 =>
 (a0c tab h_2 a1u t59).bind fun t60 =>
 (a0y tab a1u t60).bind fun t61 =>
 (a0k tab .eql ty3 (nth 2 ds_1) t61).bind fun t62 =>
 (dIf t62
  ((a0s tab t4m).bind fun t65 =>
 (a0a tab a0E 4 t65).bind fun t66 =>
 (a0c tab h_2 a1u t66).bind fun t67 =>
 (a0X tab a1A [] []).bind fun t68 =>
 (a1h tab a1u 1 [0] [t68]).bind fun t69 =>
 (a0C tab h_2 a1u a1u t67 t69).bind fun p70 =>
 (a0s tab t4m).bind fun t71 =>
 (a0a tab a0E 4 t71).bind fun t72 =>
 ((a0h tab p70.2 a1u t72 p70.1).bind fun h' => some ((.und : D),h')).bind fun p910 =>
 some (.nrm,([] : List D),p910.2))
  (some (.nrm,([] : List D),h_2))).bind fun r_3 =>
 a0Q r_3.1 ((a0s tab t4m).bind fun t74 =>
 (a0a tab a0E 4 t74).bind fun t75 =>
 (a0c tab r_3.2.2 a1u t75).bind fun t76 =>
 (a0b tab a1u t76 (nth 2 ds_1)).bind fun t78 =>
 (a0s tab t78).bind fun t81 =>
 (a0a tab a1A 0 t81).bind fun t82 =>
 (some (.fn (.method "logtide/event.number") [t0] [] : D)).bind fun t83 =>
 (a0s tab t83).bind fun t84 =>
 (a2L tab R "logtide/event.number" [t0,t82] r_3.2.2).bind fun p86 =>
 (a0s tab t78).bind fun t89 =>
 (a0a tab a1A 1 t89).bind fun t90 =>
 (some (.fn (.method "logtide/event.number") [t0] [] : D)).bind fun t91 =>
 (a0s tab t91).bind fun t92 =>
 (a2L tab R "logtide/event.number" [t0,t90] p86.2).bind fun p94 =>
 (a0s tab t78).bind fun t97 =>
 (a0a tab a1A 2 t97).bind fun t98 =>
 (some (.fn (.method "logtide/event.text") [t0] [] : D)).bind fun t99 =>
 (a0s tab t99).bind fun t100 =>
 (a2L tab R "logtide/event.text" [t0,t98] p94.2).bind fun p102 =>
 (a0k tab .add ty3 (nth 2 ds_1) (.int .i64 1)).bind fun t103 =>
 some (.nrm,[nth 2 ds_1,t78,t103,t54,t62],p102.2)) fun x_1 => a0Q (a0L 3 x_1) ((a0k tab .add ty3 (nth 2 ds_1) (.int .i64 1)).bind fun t103_1 =>
 some (.nrm,[nth 2 ds_1,nth 1 ds_1,t103_1,t54,t62],r_3.2.2)) fun x_2 => some (x_2,[nth 2 ds_1,nth 1 ds_1,nth 2 ds_1,t54,t62],r_3.2.2))
  (some ((.ext 2),[nth 0 ds_1,nth 1 ds_1,nth 2 ds_1,t54,nth 4 ds_1],h_2))
noncomputable def a6L (t0 t4m : D) (p145 : D × Hp) (ds_2 : List D) (h_3 : Hp) : Option Out :=
 (a0k tab .lss ty3 (nth 1 ds_2) p145.1).bind fun t147 =>
 dIf t147
  ((a0s tab t4m).bind fun t151 =>
 (a0a tab a0E 9 t151).bind fun t152 =>
 (a0c tab h_3 a1c t152).bind fun t153 =>
 (a0y tab a1c t153).bind fun t154 =>
 (a0k tab .eql ty3 (nth 1 ds_2) t154).bind fun t155 =>
 (dIf t155
  ((a0s tab t4m).bind fun t158 =>
 (a0a tab a0E 9 t158).bind fun t159 =>
 (a0c tab h_3 a1c t159).bind fun t160 =>
 (a0X tab a0w [] []).bind fun t161 =>
 (a1h tab a1c 1 [0] [t161]).bind fun t162 =>
 (a0C tab h_3 a1c a1c t160 t162).bind fun p163 =>
 (a0s tab t4m).bind fun t164 =>
 (a0a tab a0E 9 t164).bind fun t165 =>
 ((a0h tab p163.2 a1c t165 p163.1).bind fun h' => some ((.und : D),h')).bind fun p910_1 =>
 some (.nrm,([] : List D),p910_1.2))
  (some (.nrm,([] : List D),h_3))).bind fun r_6 =>
 a0Q r_6.1 ((a0s tab t4m).bind fun t168 =>
 (a0a tab a0E 9 t168).bind fun t169 =>
 (a0c tab r_6.2.2 a1c t169).bind fun t170 =>
 (a0b tab a1c t170 (nth 1 ds_2)).bind fun t172 =>
 (a0a tab a0w 0 t172).bind fun t173 =>
 (some (.fn (.method "logtide/event.text") [t0] [] : D)).bind fun t174 =>
 (a0s tab t174).bind fun t175 =>
 (a2L tab R "logtide/event.text" [t0,t173] r_6.2.2).bind fun p177 =>
 (a0s tab t4m).bind fun t180 =>
 (a0a tab a0E 9 t180).bind fun t181 =>
 (a0c tab p177.2 a1c t181).bind fun t182 =>
 (a0b tab a1c t182 (nth 1 ds_2)).bind fun t184 =>
 (a0a tab a0w 1 t184).bind fun t185 =>
 (some (.fn (.method "logtide/event.text") [t0] [] : D)).bind fun t186 =>
 (a0s tab t186).bind fun t187 =>
 (a2L tab R "logtide/event.text" [t0,t185] p177.2).bind fun p189 =>
 (a0k tab .add ty3 (nth 1 ds_2) (.int .i64 1)).bind fun t190 =>
 some (.nrm,[nth 1 ds_2,t190,t147,t155],p189.2)) fun x_4 => a0Q (a0L 5 x_4) ((a0k tab .add ty3 (nth 1 ds_2) (.int .i64 1)).bind fun t190_1 =>
 some (.nrm,[nth 1 ds_2,t190_1,t147,t155],r_6.2.2)) fun x_5 => some (x_5,[nth 1 ds_2,nth 1 ds_2,t147,t155],r_6.2.2))
  (some ((.ext 4),[nth 0 ds_2,nth 1 ds_2,t147,nth 3 ds_2],h_3))
noncomputable def c1d (t0 t1 : D) (h : Hp) : Option (D × Hp) :=
 (a0s tab t1).bind fun t11 =>
 (a0a tab a0D 1 t11).bind fun t12 =>
 (a0s tab t1).bind fun t15 =>
 (a0a tab a0D 0 t15).bind fun t16 =>
 (some (.fn (.method "logtide/event.text") [t0] [] : D)).bind fun t17 =>
 (a0s tab t17).bind fun t18 =>
 (a2L tab R "logtide/event.text" [t0,t16] h).bind fun p20 =>
 (a0s tab t12).bind fun t22 =>
 (a0a tab a0E 0 t22).bind fun t23 =>
 (a0s tab t12).bind fun t25 =>
 (a0a tab a0E 1 t25).bind fun t26 =>
 (a0s tab t12).bind fun t28 =>
 (a0a tab a0E 2 t28).bind fun t29 =>
 (a0s tab t12).bind fun t31 =>
 (a0a tab a0E 3 t31).bind fun t32 =>
 (a1h tab a5Z 4 [0,1,2,3] [t23,t26,t29,t32]).bind fun t33 =>
 (a0y tab a5Z t33).bind fun t34 =>
 ((a0I (a8S t0 t33 t34) [.any,.int .i64 0,.any] p20.2).bind fun r =>
 some ((a0L 0 r.1),[nth 0 r.2.1,nth 1 r.2.1,nth 2 r.2.1],r.2.2)).bind fun r_1 =>
 a0Q r_1.1 ((a0s tab t12).bind fun t45 =>
 (a0a tab a0E 4 t45).bind fun t46 =>
 (a0c tab r_1.2.2 a1u t46).bind fun t47 =>
 (a0y tab a1u t47).bind fun t48 =>
 (some (.fn (.method "logtide/event.count") [t0] [] : D)).bind fun t49 =>
 (a0s tab t49).bind fun t50 =>
 (a2L tab R "logtide/event.count" [t0,t48] r_1.2.2).bind fun p52 =>
 ((a0I (a6K t0 t12 p52) [.any,.any,.int .i64 0,.any,.any] p52.2).bind fun r_2 =>
 some ((a0L 2 r_2.1),[nth 0 r_2.2.1,nth 1 r_2.2.1,nth 2 r_2.2.1,nth 3 r_2.2.1,nth 4 r_2.2.1],r_2.2.2)).bind fun r_4 =>
 a0Q r_4.1 ((a0s tab t12).bind fun t106 =>
 (a0a tab a0E 5 t106).bind fun t107 =>
 (some (.fn (.method "logtide/event.number") [t0] [] : D)).bind fun t108 =>
 (a0s tab t108).bind fun t109 =>
 (a2L tab R "logtide/event.number" [t0,t107] r_4.2.2).bind fun p111 =>
 (a0s tab t12).bind fun t114 =>
 (a0a tab a0E 6 t114).bind fun t115 =>
 (some (.fn (.method "logtide/event.number") [t0] [] : D)).bind fun t116 =>
 (a0s tab t116).bind fun t117 =>
 (a2L tab R "logtide/event.number" [t0,t115] p111.2).bind fun p119 =>
 (a0s tab t12).bind fun t122 =>
 (a0a tab a0E 7 t122).bind fun t123 =>
 (some (.fn (.method "logtide/event.text") [t0] [] : D)).bind fun t124 =>
 (a0s tab t124).bind fun t125 =>
 (a2L tab R "logtide/event.text" [t0,t123] p119.2).bind fun p127 =>
 (a0s tab t12).bind fun t130 =>
 (a0a tab a0E 8 t130).bind fun t131 =>
 (some (.fn (.method "logtide/event.text") [t0] [] : D)).bind fun t132 =>
 (a0s tab t132).bind fun t133 =>
 (a2L tab R "logtide/event.text" [t0,t131] p127.2).bind fun p135 =>
 (a0s tab t12).bind fun t138 =>
 (a0a tab a0E 9 t138).bind fun t139 =>
 (a0c tab p135.2 a1c t139).bind fun t140 =>
 (a0y tab a1c t140).bind fun t141 =>
 (some (.fn (.method "logtide/event.count") [t0] [] : D)).bind fun t142 =>
 (a0s tab t142).bind fun t143 =>
 (a2L tab R "logtide/event.count" [t0,t141] p135.2).bind fun p145 =>
 ((a0I (a6L t0 t12 p145) [.any,.int .i64 0,.any,.any] p145.2).bind fun r_5 =>
 some ((a0L 4 r_5.1),[nth 0 r_5.2.1,nth 1 r_5.2.1,nth 2 r_5.2.1,nth 3 r_5.2.1],r_5.2.2)).bind fun r_7 =>
 a1a r_7.1 (some (a0i [],r_7.2.2))) fun x_3 => a1a x_3 (some (a0i [],r_4.2.2))) fun x => a1a x (some (a0i [],r_1.2.2))
theorem c4P (t0 t1 : D) (h : Hp) : R b0y [t0,t1] h = c1d t0 t1 h :=
 er i64 (by kernel_rfl) (by kernel_rfl)
noncomputable def a6M (t1 : D) (ds : List D) (h_1 : Hp) : Option Out :=
 (a0k tab .geq ty3 (nth 1 ds) (.int .i64 0)).bind fun t12 =>
 dIf t12
  ((a0k tab .shr a0J t1 (nth 1 ds)).bind fun t18 =>
 (a0Z tab a0J ty5 t18).bind fun t19 =>
 (a1h tab a0H 1 [0] [t19]).bind fun t20 =>
 (a0C tab h_1 a0H a0H (nth 0 ds) t20).bind fun p21 =>
 (a0k tab .sub ty3 (nth 1 ds) (.int .i64 8)).bind fun t14 =>
 some (.nrm,[p21.1,t14,t12],p21.2))
  (some ((.ext 0),[nth 0 ds,nth 1 ds,t12],h_1))
noncomputable def c3V (t0 t1 t2 : D) (h : Hp) : Option (D × Hp) :=
 (a0k tab .sub ty3 t2 (.int .i64 1)).bind fun t9 =>
 (a0k tab .mul ty3 (.int .i64 8) t9).bind fun t10 =>
 ((a0I (a6M t1) [t0,t10,.any] h).bind fun r =>
 some ((a0L 0 r.1),[nth 0 r.2.1,nth 1 r.2.1,nth 2 r.2.1],r.2.2)).bind fun r_1 =>
 a0Q r_1.1 (some (a0i [nth 0 r_1.2.1],r_1.2.2)) fun x => a1a x (some (a0i [.nils],r_1.2.2))
theorem c8A (t0 t1 t2 : D) (h : Hp) : R a4h [t0,t1,t2] h = c3V t0 t1 t2 h :=
 er i65 (by kernel_rfl) (by kernel_rfl)
noncomputable def b2v (t6m t7 : D) (ds : List D) (h_1 : Hp) : Option Out :=
 (a0k tab .lss ty3 (nth 2 ds) t7).bind fun t9 =>
 dIf t9
  ((a0b tab a0H t6m (nth 2 ds)).bind fun t10 =>
 (a0c tab h_1 ty5 t10).bind fun t11 =>
 (a0k tab .mul a0J (nth 0 ds) (.int .u64 31)).bind fun t13 =>
 (a0Z tab ty5 a0J t11).bind fun t15 =>
 (a0k tab .add a0J t13 t15).bind fun t16 =>
 (a0k tab .rem a0J t16 (.int .u64 4294967291)).bind fun t17 =>
 (a0k tab .add ty3 (nth 2 ds) (.int .i64 1)).bind fun t18 =>
 some (.nrm,[t17,t11,t18,t9],h_1))
  (some ((.ext 0),[nth 0 ds,nth 1 ds,nth 2 ds,t9],h_1))
noncomputable def c3W (t0 : D) (h : Hp) : Option (D × Hp) :=
 (a0y tab a0H t0).bind fun t7 =>
 ((a0I (b2v t0 t7) [.int .u64 1,.any,.int .i64 0,.any] h).bind fun r =>
 some ((a0L 0 r.1),[nth 0 r.2.1,nth 1 r.2.1,nth 2 r.2.1,nth 3 r.2.1],r.2.2)).bind fun r_1 =>
 a0Q r_1.1 (some (a0i [nth 0 r_1.2.1],r_1.2.2)) fun x => a1a x (some (a0i [.int .u64 0],r_1.2.2))
theorem c8B (t0 : D) (h : Hp) : R b3k [t0] h = c3W t0 h :=
 er i66 (by kernel_rfl) (by kernel_rfl)
noncomputable def a8A (t3 : D) (ds : List D) (h_1 : Hp) : Option Out :=
 (a0a tab a0E 4 t3).bind fun t58 =>
 (a0c tab h_1 a1u t58).bind fun t59 =>
 (a0y tab a1u t59).bind fun t60 =>
 (a0k tab .lss ty3 (nth 1 ds) t60).bind fun t61 =>
 dIf t61
  ((a0a tab a0E 4 t3).bind fun t64 =>
 (a0c tab h_1 a1u t64).bind fun t65 =>
 (a0b tab a1u t65 (nth 1 ds)).bind fun t67 =>
 (a0a tab a1A 2 t67).bind fun t68 =>
 (a0c tab h_1 ty9 t68).bind fun t69 =>
 (a0k tab .neq ty9 t69 (.str [])).bind fun t70 =>
 dIf t70
  (some (.ret,[.int .i64 19,nth 1 ds,t61,t70],h_1))
  ((a0k tab .add ty3 (nth 1 ds) (.int .i64 1)).bind fun t63 =>
 some (.nrm,[nth 0 ds,t63,t61,t70],h_1)))
  (some ((.ext 0),[nth 0 ds,nth 1 ds,t61,nth 3 ds],h_1))
noncomputable def c2X (t0 : D) (h : Hp) : Option (D × Hp) :=
 (a2p t0).bind fun t1 =>
 (a0a tab a0D 0 t1).bind fun t7 =>
 (a0c tab h ty9 t7).bind fun t8 =>
 (a0k tab .eql ty9 t8 (.str [])).bind fun t9 =>
 dIf t9
  ((a0a tab a0D 1 t1).bind fun t10 =>
 (a0c tab h a0E t10).bind fun t11 =>
 (R b5E [t11] h).bind fun p12 =>
 some (a0i [p12.1],p12.2))
  ((a0a tab a0D 0 t1).bind fun t13 =>
 (a0c tab h ty9 t13).bind fun t14 =>
 (a0y tab ty9 t14).bind fun t15 =>
 (a0k tab .gtr ty3 t15 (.int .i64 32)).bind fun t16 =>
 dIf t16
  (some (a0i [.int .i64 3],h))
  ((a0a tab a0D 1 t1).bind fun t17 =>
 (a0c tab h a0E t17).bind fun t18 =>
 (a6t 10 t18).bind fun t3 =>
 (a0c tab h a0E t3).bind fun t19 =>
 (R b2V [t19] h).bind fun p20 =>
 (a0k tab .neq a5n p20.1 (.int .i64 0)).bind fun t22 =>
 dIf t22
  (some (a0i [p20.1],p20.2))
  ((a0c tab p20.2 a0E t3).bind fun t24 =>
 (R b2W [t24,.int .i64 20000] p20.2).bind fun p25 =>
 (a0k tab .neq a5n p25.1 (.int .i64 0)).bind fun t27 =>
 (gd t27 true (some p25.1)).bind fun t29 =>
 (gd t27 true (a0k tab .neq a5n t29 (.int .i64 3))).bind fun t30 =>
 (a0M t27 t30 (.bool false)).bind fun t31 =>
 dIf t31
  (some (a0i [p25.1],p25.2))
  ((a0a tab a0E 5 t3).bind fun t33 =>
 (a0c tab p25.2 ty3 t33).bind fun t34 =>
 (a0k tab .neq ty3 t34 (.int .i64 0)).bind fun t35 =>
 (gd t35 false (a0a tab a0E 6 t3)).bind fun t37 =>
 (gd t35 false (a0c tab p25.2 ty3 t37)).bind fun t38 =>
 (gd t35 false (a0k tab .neq ty3 t38 (.int .i64 0))).bind fun t39 =>
 (a0M t35 (.bool true) t39).bind fun t40 =>
 (gd t40 false (a0a tab a0E 7 t3)).bind fun t42 =>
 (gd t40 false (a0c tab p25.2 ty9 t42)).bind fun t43 =>
 (gd t40 false (a0k tab .neq ty9 t43 (.str []))).bind fun t44 =>
 (a0M t40 (.bool true) t44).bind fun t45 =>
 (gd t45 false (a0a tab a0E 8 t3)).bind fun t47 =>
 (gd t45 false (a0c tab p25.2 ty9 t47)).bind fun t48 =>
 (gd t45 false (a0k tab .neq ty9 t48 (.str []))).bind fun t49 =>
 (a0M t45 (.bool true) t49).bind fun t50 =>
 (gd t50 false (a0a tab a0E 9 t3)).bind fun t52 =>
 (gd t50 false (a0c tab p25.2 a1c t52)).bind fun t53 =>
 (gd t50 false (a0y tab a1c t53)).bind fun t54 =>
 (gd t50 false (a0k tab .neq ty3 t54 (.int .i64 0))).bind fun t55 =>
 (a0M t50 (.bool true) t55).bind fun t56 =>
 dIf t56
  (some (a0i [.int .i64 19],p25.2))
  (((a0I (a8A t3) [.int .i64 0,.int .i64 0,.any,.any] p25.2).bind fun r =>
 some ((a0L 0 r.1),[nth 0 r.2.1,nth 1 r.2.1,nth 2 r.2.1,nth 3 r.2.1],r.2.2)).bind fun r_1 =>
 a0Q r_1.1 (some (a0i [.int .i64 0],r_1.2.2)) fun x => a1a x (some (a0i [nth 0 r_1.2.1],r_1.2.2)))))))
theorem c7s (t0 : D) (h : Hp) : R a7r [t0] h = c2X t0 h :=
 er i67 (by kernel_rfl) (by kernel_rfl)
noncomputable def a8Q (t3 : D) (ds : List D) (h_1 : Hp) : Option Out :=
 (a0a tab a0E 4 t3).bind fun t32 =>
 (a0c tab h_1 a1u t32).bind fun t33 =>
 (a0y tab a1u t33).bind fun t34 =>
 (a0k tab .lss ty3 (nth 1 ds) t34).bind fun t35 =>
 dIf t35
  ((a0a tab a0E 4 t3).bind fun t39 =>
 (a0c tab h_1 a1u t39).bind fun t40 =>
 (a0b tab a1u t40 (nth 1 ds)).bind fun t42 =>
 (a0a tab a1A 0 t42).bind fun t43 =>
 (a0c tab h_1 ty3 t43).bind fun t44 =>
 (R a4t [nth 0 ds,t44] h_1).bind fun p45 =>
 (a0a tab a0E 4 t3).bind fun t46 =>
 (a0c tab p45.2 a1u t46).bind fun t47 =>
 (a0b tab a1u t47 (nth 1 ds)).bind fun t49 =>
 (a0a tab a1A 1 t49).bind fun t50 =>
 (a0c tab p45.2 ty3 t50).bind fun t51 =>
 (R a4t [p45.1,t51] p45.2).bind fun p52 =>
 (a0a tab a0E 4 t3).bind fun t53 =>
 (a0c tab p52.2 a1u t53).bind fun t54 =>
 (a0b tab a1u t54 (nth 1 ds)).bind fun t56 =>
 (a0a tab a1A 2 t56).bind fun t57 =>
 (a0c tab p52.2 ty9 t57).bind fun t58 =>
 (R a5Q [p52.1,t58] p52.2).bind fun p59 =>
 chk (a0c tab h_1 a1u t46 = some t47)
 (chk (a0c tab h_1 ty3 t50 = some t51)
 (chk (a0c tab h_1 a1u t53 = some t54)
 (chk (a0c tab p45.2 a1u t53 = some t54)
 (chk (a0c tab h_1 ty9 t57 = some t58)
 (chk (a0c tab p45.2 ty9 t57 = some t58)
 ((a0k tab .add ty3 (nth 1 ds) (.int .i64 1)).bind fun t37 =>
 some (.nrm,[p59.1,t37,t35],p59.2))))))))
  (some ((.ext 0),[nth 0 ds,nth 1 ds,t35],h_1))
noncomputable def a8R (t3 : D) (ds_1 : List D) (h_2 : Hp) : Option Out :=
 (a0a tab a0E 9 t3).bind fun t80 =>
 (a0c tab h_2 a1c t80).bind fun t81 =>
 (a0y tab a1c t81).bind fun t82 =>
 (a0k tab .lss ty3 (nth 1 ds_1) t82).bind fun t83 =>
 dIf t83
  ((a0a tab a0E 9 t3).bind fun t87 =>
 (a0c tab h_2 a1c t87).bind fun t88 =>
 (a0b tab a1c t88 (nth 1 ds_1)).bind fun t90 =>
 (a0a tab a0w 0 t90).bind fun t91 =>
 (a0c tab h_2 ty9 t91).bind fun t92 =>
 (R a5Q [nth 0 ds_1,t92] h_2).bind fun p93 =>
 (a0a tab a0E 9 t3).bind fun t94 =>
 (a0c tab p93.2 a1c t94).bind fun t95 =>
 (a0b tab a1c t95 (nth 1 ds_1)).bind fun t97 =>
 (a0a tab a0w 1 t97).bind fun t98 =>
 (a0c tab p93.2 ty9 t98).bind fun t99 =>
 (R a5Q [p93.1,t99] p93.2).bind fun p100 =>
 chk (a0c tab h_2 a1c t94 = some t95)
 (chk (a0c tab h_2 ty9 t98 = some t99)
 ((a0k tab .add ty3 (nth 1 ds_1) (.int .i64 1)).bind fun t85 =>
 some (.nrm,[p100.1,t85,t83],p100.2))))
  (some ((.ext 2),[nth 0 ds_1,nth 1 ds_1,t83],h_2))
noncomputable def c3N (t0 : D) (h : Hp) : Option (D × Hp) :=
 (a2p t0).bind fun t1 =>
 (a0a tab a0D 1 t1).bind fun t7 =>
 (a0c tab h a0E t7).bind fun t8 =>
 (a6t 10 t8).bind fun t3 =>
 (a0a tab a0D 0 t1).bind fun t9 =>
 (a0c tab h ty9 t9).bind fun t10 =>
 (R a5Q [.nils,t10] h).bind fun p11 =>
 (a0a tab a0E 0 t3).bind fun t13 =>
 (a0c tab p11.2 ty3 t13).bind fun t14 =>
 (R a4t [p11.1,t14] p11.2).bind fun p15 =>
 (a0a tab a0E 1 t3).bind fun t16 =>
 (a0c tab p15.2 ty3 t16).bind fun t17 =>
 (R a4t [p15.1,t17] p15.2).bind fun p18 =>
 (a0a tab a0E 2 t3).bind fun t19 =>
 (a0c tab p18.2 ty3 t19).bind fun t20 =>
 (R a4t [p18.1,t20] p18.2).bind fun p21 =>
 (a0a tab a0E 3 t3).bind fun t22 =>
 (a0c tab p21.2 ty3 t22).bind fun t23 =>
 (R a4t [p21.1,t23] p21.2).bind fun p24 =>
 chk (a0c tab p11.2 ty3 t16 = some t17)
 (chk (a0c tab p11.2 ty3 t19 = some t20)
 (chk (a0c tab p15.2 ty3 t19 = some t20)
 (chk (a0c tab p11.2 ty3 t22 = some t23)
 (chk (a0c tab p15.2 ty3 t22 = some t23)
 (chk (a0c tab p18.2 ty3 t22 = some t23)
 ((a0a tab a0E 4 t3).bind fun t26 =>
 (a0c tab p24.2 a1u t26).bind fun t27 =>
 (a0y tab a1u t27).bind fun t28 =>
 (a0Z tab ty3 a0J t28).bind fun t29 =>
 (R a3A [p24.1,t29,.int .i64 4] p24.2).bind fun p30 =>
 ((a0I (a8Q t3) [p30.1,.int .i64 0,.any] p30.2).bind fun r =>
 some ((a0L 0 r.1),[nth 0 r.2.1,nth 1 r.2.1,nth 2 r.2.1],r.2.2)).bind fun r_1 =>
 a0Q r_1.1 ((a0a tab a0E 5 t3).bind fun t61 =>
 (a0c tab r_1.2.2 ty3 t61).bind fun t62 =>
 (R a4t [nth 0 r_1.2.1,t62] r_1.2.2).bind fun p63 =>
 (a0a tab a0E 6 t3).bind fun t64 =>
 (a0c tab p63.2 ty3 t64).bind fun t65 =>
 (R a4t [p63.1,t65] p63.2).bind fun p66 =>
 (a0a tab a0E 7 t3).bind fun t67 =>
 (a0c tab p66.2 ty9 t67).bind fun t68 =>
 (R a5Q [p66.1,t68] p66.2).bind fun p69 =>
 (a0a tab a0E 8 t3).bind fun t70 =>
 (a0c tab p69.2 ty9 t70).bind fun t71 =>
 (R a5Q [p69.1,t71] p69.2).bind fun p72 =>
 chk (a0c tab r_1.2.2 ty3 t64 = some t65)
 (chk (a0c tab r_1.2.2 ty9 t67 = some t68)
 (chk (a0c tab p63.2 ty9 t67 = some t68)
 (chk (a0c tab r_1.2.2 ty9 t70 = some t71)
 (chk (a0c tab p63.2 ty9 t70 = some t71)
 (chk (a0c tab p66.2 ty9 t70 = some t71)
 ((a0a tab a0E 9 t3).bind fun t74 =>
 (a0c tab p72.2 a1c t74).bind fun t75 =>
 (a0y tab a1c t75).bind fun t76 =>
 (a0Z tab ty3 a0J t76).bind fun t77 =>
 (R a3A [p72.1,t77,.int .i64 4] p72.2).bind fun p78 =>
 ((a0I (a8R t3) [p78.1,.int .i64 0,.any] p78.2).bind fun r_2 =>
 some ((a0L 2 r_2.1),[nth 0 r_2.2.1,nth 1 r_2.2.1,nth 2 r_2.2.1],r_2.2.2)).bind fun r_3 =>
 a0Q r_3.1 (some (a0i [nth 0 r_3.2.1],r_3.2.2)) fun x_1 => a1a x_1 (some (a0i [.nils],r_3.2.2))))))))) fun x => a1a x (some (a0i [.nils],r_1.2.2))))))))
theorem c8s (t0 : D) (h : Hp) : R b3i [t0] h = c3N t0 h :=
 er i68 (by kernel_rfl) (by kernel_rfl)
noncomputable def a6J (t1 : D) (ds : List D) (h_1 : Hp) : Option Out :=
 (a0k tab .geq ty3 (nth 1 ds) (.int .i64 0)).bind fun t11 =>
 dIf t11
  ((a0k tab .mul ty3 (.int .i64 8) (nth 1 ds)).bind fun t17 =>
 (a0Z tab ty3 a5m t17).bind fun t18 =>
 (a0k tab .shr a0J t1 t18).bind fun t19 =>
 (a0Z tab a0J ty5 t19).bind fun t20 =>
 (a1h tab a0H 1 [0] [t20]).bind fun t21 =>
 (a0C tab h_1 a0H a0H (nth 0 ds) t21).bind fun p22 =>
 (a0k tab .sub ty3 (nth 1 ds) (.int .i64 1)).bind fun t13 =>
 some (.nrm,[p22.1,t13,t11],p22.2))
  (some ((.ext 0),[nth 0 ds,nth 1 ds,t11],h_1))
noncomputable def c3O (t0 t1 t2 : D) (h : Hp) : Option (D × Hp) :=
 (a0k tab .sub ty3 t2 (.int .i64 1)).bind fun t9 =>
 ((a0I (a6J t1) [t0,t9,.any] h).bind fun r =>
 some ((a0L 0 r.1),[nth 0 r.2.1,nth 1 r.2.1,nth 2 r.2.1],r.2.2)).bind fun r_1 =>
 a0Q r_1.1 (some (a0i [nth 0 r_1.2.1],r_1.2.2)) fun x => a1a x (some (a0i [.nils],r_1.2.2))
theorem c8t (t0 t1 t2 : D) (h : Hp) : R a3A [t0,t1,t2] h = c3O t0 t1 t2 h :=
 er i69 (by kernel_rfl) (by kernel_rfl)
noncomputable def b2u (t0 : D) (ds : List D) (h_1 : Hp) : Option Out :=
 (a0y tab a0H t0).bind fun t7 =>
 (a0k tab .lss ty3 (nth 1 ds) t7).bind fun t8 =>
 dIf t8
  ((a0k tab .mul a0J (nth 0 ds) (.int .u64 31)).bind fun t12 =>
 (a0b tab a0H t0 (nth 1 ds)).bind fun t15 =>
 (a0c tab h_1 ty5 t15).bind fun t16 =>
 (a0Z tab ty5 a0J t16).bind fun t17 =>
 (a0k tab .add a0J t12 t17).bind fun t18 =>
 (a0k tab .rem a0J t18 (.int .u64 4294967291)).bind fun t19 =>
 (a0k tab .add ty3 (nth 1 ds) (.int .i64 1)).bind fun t10 =>
 some (.nrm,[t19,t10,t8],h_1))
  (some ((.ext 0),[nth 0 ds,nth 1 ds,t8],h_1))
noncomputable def c3P (t0 : D) (h : Hp) : Option (D × Hp) :=
 ((a0I (b2u t0) [.int .u64 1,.int .i64 0,.any] h).bind fun r =>
 some ((a0L 0 r.1),[nth 0 r.2.1,nth 1 r.2.1,nth 2 r.2.1],r.2.2)).bind fun r_1 =>
 a0Q r_1.1 (some (a0i [nth 0 r_1.2.1],r_1.2.2)) fun x => a1a x (some (a0i [.int .u64 0],r_1.2.2))
theorem c8u (t0 : D) (h : Hp) : R b0v [t0] h = c3P t0 h :=
 er i70 (by kernel_rfl) (by kernel_rfl)
noncomputable def b2w (t6m t7 : D) (ds : List D) (h_1 : Hp) : Option Out :=
 (a0k tab .lss ty3 (nth 2 ds) t7).bind fun t9 =>
 dIf t9
  ((a0b tab a0H t6m (nth 2 ds)).bind fun t10 =>
 (a0c tab h_1 ty5 t10).bind fun t11 =>
 (a0k tab .shl a0J (nth 0 ds) (.int .u64 8)).bind fun t13 =>
 (a0Z tab ty5 a0J t11).bind fun t15 =>
 (a0k tab .or a0J t13 t15).bind fun t16 =>
 (a0k tab .add ty3 (nth 2 ds) (.int .i64 1)).bind fun t17 =>
 some (.nrm,[t16,t11,t17,t9],h_1))
  (some ((.ext 0),[nth 0 ds,nth 1 ds,nth 2 ds,t9],h_1))
noncomputable def c3X (t0 : D) (h : Hp) : Option (D × Hp) :=
 (a0y tab a0H t0).bind fun t7 =>
 ((a0I (b2w t0 t7) [.int .u64 0,.any,.int .i64 0,.any] h).bind fun r =>
 some ((a0L 0 r.1),[nth 0 r.2.1,nth 1 r.2.1,nth 2 r.2.1,nth 3 r.2.1],r.2.2)).bind fun r_1 =>
 a0Q r_1.1 (some (a0i [nth 0 r_1.2.1],r_1.2.2)) fun x => a1a x (some (a0i [.int .u64 0],r_1.2.2))
theorem c8C (t0 : D) (h : Hp) : R a6z [t0] h = c3X t0 h :=
 er i71 (by kernel_rfl) (by kernel_rfl)
noncomputable def b2x (t1 : D) (p2 : D × Hp) (ds : List D) (h_1 : Hp) : Option Out :=
 (a0k tab .lss ty3 (nth 1 ds) t1).bind fun t25 =>
 dIf t25
  ((a0k tab .shl a0J (nth 0 ds) (.int .u64 8)).bind fun t29 =>
 (a0a tab a0m 0 p2.1).bind fun t30 =>
 (a0c tab h_1 a0H t30).bind fun t31 =>
 (a0a tab a0m 1 p2.1).bind fun t32 =>
 (a0c tab h_1 ty3 t32).bind fun t33 =>
 (a0k tab .add ty3 t33 (nth 1 ds)).bind fun t35 =>
 (a0b tab a0H t31 t35).bind fun t36 =>
 (a0c tab h_1 ty5 t36).bind fun t37 =>
 (a0Z tab ty5 a0J t37).bind fun t38 =>
 (a0k tab .or a0J t29 t38).bind fun t39 =>
 (a0k tab .add ty3 (nth 1 ds) (.int .i64 1)).bind fun t27 =>
 some (.nrm,[t39,t27,t25],h_1))
  (some ((.ext 0),[nth 0 ds,nth 1 ds,t25],h_1))
noncomputable def c3Y (t0 t1 : D) (h : Hp) : Option (D × Hp) :=
 (b8h a0m 3 h t0).bind fun p2 =>
 (some ((.ptr p2.2.length 0 0 : D),a0F p2.2 a0m 3 [[.nils,.int .i64 0,.bool false]])).bind fun p4 =>
 (a0a tab a0m 2 p2.1).bind fun t8 =>
 (a0c tab p4.2 ty4 t8).bind fun t9 =>
 (dUn .not t9).bind fun t10 =>
 (gd t10 false (a0a tab a0m 0 p2.1)).bind fun t12 =>
 (gd t10 false (a0c tab p4.2 a0H t12)).bind fun t13 =>
 (gd t10 false (a0y tab a0H t13)).bind fun t14 =>
 (gd t10 false (a0a tab a0m 1 p2.1)).bind fun t15 =>
 (gd t10 false (a0c tab p4.2 ty3 t15)).bind fun t16 =>
 (gd t10 false (a0k tab .sub ty3 t14 t16)).bind fun t17 =>
 (gd t10 false (some t1)).bind fun t18 =>
 (gd t10 false (a0k tab .lss ty3 t17 t18)).bind fun t19 =>
 (a0M t10 (.bool true) t19).bind fun t20 =>
 dIf t20
  ((a0a tab a0m 2 p2.1).bind fun t21 =>
 ((a0h tab p4.2 ty4 t21 (.bool false)).bind fun h' => some ((.und : D),h')).bind fun p901 =>
 (a0c tab p901.2 a0m p2.1).bind fun t22 =>
 ((a0h tab p901.2 a0m p4.1 t22).bind fun h' => some ((.und : D),h')).bind fun p901_1 =>
 (a0c tab p901_1.2 a0m p4.1).bind fun d0 => scope h p901_1.2 (a0i [d0,.int .u64 0]))
  (((a0I (b2x t1 p2) [.int .u64 0,.int .i64 0,.any] p4.2).bind fun r =>
 some ((a0L 0 r.1),[nth 0 r.2.1,nth 1 r.2.1,nth 2 r.2.1],r.2.2)).bind fun r_1 =>
 a0Q r_1.1 ((a0a tab a0m 1 p2.1).bind fun t40 =>
 (a0c tab r_1.2.2 ty3 t40).bind fun t41 =>
 (a0k tab .add ty3 t41 t1).bind fun t43 =>
 (a0a tab a0m 1 p2.1).bind fun t44 =>
 ((a0h tab r_1.2.2 ty3 t44 t43).bind fun h' => some ((.und : D),h')).bind fun p905 =>
 (a0c tab p905.2 a0m p2.1).bind fun t45 =>
 ((a0h tab p905.2 a0m p4.1 t45).bind fun h' => some ((.und : D),h')).bind fun p902 =>
 (a0c tab p902.2 a0m p4.1).bind fun d0 => scope h p902.2 (a0i [d0,nth 0 r_1.2.1])) fun x => a1a x ((a0c tab r_1.2.2 a0m p4.1).bind fun d0 => scope h r_1.2.2 (a0i [d0,.int .u64 0])))
theorem c8D (t0 t1 : D) (h : Hp) : R a3d [t0,t1] h = c3Y t0 t1 h :=
 er i72 (by kernel_rfl) (by kernel_rfl)
noncomputable def c3Z (t0 : D) (h : Hp) : Option (D × Hp) :=
 (b8h a0m 3 h t0).bind fun p1 =>
 (some ((.ptr p1.2.length 0 0 : D),a0F p1.2 a0m 3 [[.nils,.int .i64 0,.bool false]])).bind fun p2 =>
 (a0c tab p2.2 a0m p1.1).bind fun t7 =>
 (R a3d [t7,.int .i64 4] p2.2).bind fun p8 =>
 (a0p 0 p8.1).bind fun t9 =>
 (a0p 1 p8.1).bind fun t10 =>
 ((a0h tab p8.2 a0m p1.1 t9).bind fun h' => some ((.und : D),h')).bind fun p905 =>
 (a0a tab a0m 2 p1.1).bind fun t11 =>
 (a0c tab p905.2 ty4 t11).bind fun t12 =>
 (dUn .not t12).bind fun t13 =>
 (gd t13 false (some t10)).bind fun t15 =>
 (gd t13 false (a0a tab a0m 0 p1.1)).bind fun t16 =>
 (gd t13 false (a0c tab p905.2 a0H t16)).bind fun t17 =>
 (gd t13 false (a0y tab a0H t17)).bind fun t18 =>
 (gd t13 false (a0a tab a0m 1 p1.1)).bind fun t19 =>
 (gd t13 false (a0c tab p905.2 ty3 t19)).bind fun t20 =>
 (gd t13 false (a0k tab .sub ty3 t18 t20)).bind fun t21 =>
 (gd t13 false (a0Z tab ty3 a0J t21)).bind fun t22 =>
 (gd t13 false (a0k tab .gtr a0J t15 t22)).bind fun t23 =>
 (a0M t13 (.bool true) t23).bind fun t24 =>
 dIf t24
  ((a0a tab a0m 2 p1.1).bind fun t25 =>
 ((a0h tab p905.2 ty4 t25 (.bool false)).bind fun h' => some ((.und : D),h')).bind fun p901 =>
 (a0c tab p901.2 a0m p1.1).bind fun t26 =>
 ((a0h tab p901.2 a0m p2.1 t26).bind fun h' => some ((.und : D),h')).bind fun p901_1 =>
 (a0c tab p901_1.2 a0m p2.1).bind fun d0 => scope h p901_1.2 (a0i [d0,.str []]))
  ((a0a tab a0m 0 p1.1).bind fun t27 =>
 (a0c tab p905.2 a0H t27).bind fun t28 =>
 (a0a tab a0m 1 p1.1).bind fun t29 =>
 (a0c tab p905.2 ty3 t29).bind fun t30 =>
 (a0a tab a0m 1 p1.1).bind fun t31 =>
 (a0c tab p905.2 ty3 t31).bind fun t32 =>
 (a0Z tab a0J ty3 t10).bind fun t34 =>
 (a0k tab .add ty3 t32 t34).bind fun t35 =>
 (a0G tab a0H true true false [t28,t30,t35]).bind fun t36 =>
 (a6v p905.2 t36).bind fun t37 =>
 (a0a tab a0m 1 p1.1).bind fun t38 =>
 (a0c tab p905.2 ty3 t38).bind fun t39 =>
 (a0Z tab a0J ty3 t10).bind fun t41 =>
 (a0k tab .add ty3 t39 t41).bind fun t42 =>
 (a0a tab a0m 1 p1.1).bind fun t43 =>
 ((a0h tab p905.2 ty3 t43 t42).bind fun h' => some ((.und : D),h')).bind fun p906 =>
 (a0c tab p906.2 a0m p1.1).bind fun t44 =>
 ((a0h tab p906.2 a0m p2.1 t44).bind fun h' => some ((.und : D),h')).bind fun p902 =>
 (a0c tab p902.2 a0m p2.1).bind fun d0 => scope h p902.2 (a0i [d0,t37]))
theorem c8E (t0 : D) (h : Hp) : R a4u [t0] h = c3Z t0 h :=
 er i73 (by kernel_rfl) (by kernel_rfl)
noncomputable def c4a (t0 : D) (h : Hp) : Option (D × Hp) :=
 (b8h a0m 3 h t0).bind fun p1 =>
 (some ((.ptr p1.2.length 0 0 : D),a0F p1.2 a0m 3 [[.nils,.int .i64 0,.bool false]])).bind fun p2 =>
 (a0c tab p2.2 a0m p1.1).bind fun t6 =>
 (R a3d [t6,.int .i64 8] p2.2).bind fun p7 =>
 (a0p 0 p7.1).bind fun t8 =>
 (a0p 1 p7.1).bind fun t9 =>
 ((a0h tab p7.2 a0m p1.1 t8).bind fun h' => some ((.und : D),h')).bind fun p905 =>
 (a0c tab p905.2 a0m p1.1).bind fun t10 =>
 (a0Z tab a0J ty3 t9).bind fun t12 =>
 ((a0h tab p905.2 a0m p2.1 t10).bind fun h' => some ((.und : D),h')).bind fun p903 =>
 (a0c tab p903.2 a0m p2.1).bind fun d0 => scope h p903.2 (a0i [d0,t12])
theorem c8F (t0 : D) (h : Hp) : R a3B [t0] h = c4a t0 h :=
 er i74 (by kernel_rfl) (by kernel_rfl)
noncomputable def b2y (p1 : D × Hp) (t4m : D) (ds : List D) (h_1 : Hp) : Option Out :=
 (a0a tab a0m 2 p1.1).bind fun t13 =>
 (a0c tab h_1 ty4 t13).bind fun t14 =>
 (gd t14 true (some (nth 1 ds))).bind fun t16 =>
 (gd t14 true (some (t4m : D))).bind fun t17 =>
 (gd t14 true (a0k tab .lss a0J t16 t17)).bind fun t18 =>
 (a0M t14 t18 (.bool false)).bind fun t19 =>
 dIf t19
  ((some ((.ptr h_1.length 0 0 : D),a0F h_1 a1A 3 [[.int .i64 0,.int .i64 0,.str []]])).bind fun p7 =>
 (a0c tab p7.2 a0m p1.1).bind fun t23 =>
 (R a3B [t23] p7.2).bind fun p24 =>
 (a0p 0 p24.1).bind fun t25 =>
 (a0p 1 p24.1).bind fun t26 =>
 ((a0h tab p24.2 a0m p1.1 t25).bind fun h' => some ((.und : D),h')).bind fun p905_1 =>
 (a0a tab a1A 0 p7.1).bind fun t27 =>
 ((a0h tab p905_1.2 ty3 t27 t26).bind fun h' => some ((.und : D),h')).bind fun p907 =>
 (a0c tab p907.2 a0m p1.1).bind fun t29 =>
 (R a3B [t29] p907.2).bind fun p30 =>
 (a0p 0 p30.1).bind fun t31 =>
 (a0p 1 p30.1).bind fun t32 =>
 ((a0h tab p30.2 a0m p1.1 t31).bind fun h' => some ((.und : D),h')).bind fun p905_2 =>
 (a0a tab a1A 1 p7.1).bind fun t33 =>
 ((a0h tab p905_2.2 ty3 t33 t32).bind fun h' => some ((.und : D),h')).bind fun p907_1 =>
 (a0c tab p907_1.2 a0m p1.1).bind fun t35 =>
 (R a4u [t35] p907_1.2).bind fun p36 =>
 (a0p 0 p36.1).bind fun t37 =>
 (a0p 1 p36.1).bind fun t38 =>
 ((a0h tab p36.2 a0m p1.1 t37).bind fun h' => some ((.und : D),h')).bind fun p905_3 =>
 (a0a tab a1A 2 p7.1).bind fun t39 =>
 ((a0h tab p905_3.2 ty9 t39 t38).bind fun h' => some ((.und : D),h')).bind fun p907_2 =>
 (a0c tab p907_2.2 a1A p7.1).bind fun t41 =>
 (a1h tab a1u 1 [0] [t41]).bind fun t42 =>
 (a0C tab p907_2.2 a1u a1u (nth 0 ds) t42).bind fun p43 =>
 (a0k tab .add a0J (nth 1 ds) (.int .u64 1)).bind fun t21 =>
 some (.nrm,[p43.1,t21,p7.1,t19],p43.2))
  (some ((.ext 0),[nth 0 ds,nth 1 ds,nth 2 ds,t19],h_1))
noncomputable def c4b (t0 : D) (h : Hp) : Option (D × Hp) :=
 (b8h a0m 3 h t0).bind fun p1 =>
 (some ((.ptr p1.2.length 0 0 : D),a0F p1.2 a0m 3 [[.nils,.int .i64 0,.bool false]])).bind fun p2 =>
 (a0c tab p2.2 a0m p1.1).bind fun t9 =>
 (R a3d [t9,.int .i64 4] p2.2).bind fun p10 =>
 (a0p 0 p10.1).bind fun t11 =>
 (a0p 1 p10.1).bind fun t12 =>
 ((a0h tab p10.2 a0m p1.1 t11).bind fun h' => some ((.und : D),h')).bind fun p905 =>
 ((a0I (b2y p1 t12) [.nils,.int .u64 0,.any,.any] p905.2).bind fun r =>
 some ((a0L 0 r.1),[nth 0 r.2.1,nth 1 r.2.1,nth 2 r.2.1,nth 3 r.2.1],r.2.2)).bind fun r_1 =>
 a0Q r_1.1 ((a0c tab r_1.2.2 a0m p1.1).bind fun t44 =>
 ((a0h tab r_1.2.2 a0m p2.1 t44).bind fun h' => some ((.und : D),h')).bind fun p902 =>
 (a0c tab p902.2 a0m p2.1).bind fun d0 => scope h p902.2 (a0i [d0,nth 0 r_1.2.1])) fun x => a1a x ((a0c tab r_1.2.2 a0m p2.1).bind fun d0 => scope h r_1.2.2 (a0i [d0,.nils]))
theorem c8G (t0 : D) (h : Hp) : R b0z [t0] h = c4b t0 h :=
 er i75 (by kernel_rfl) (by kernel_rfl)
noncomputable def b2z (p1 : D × Hp) (t4m : D) (ds : List D) (h_1 : Hp) : Option Out :=
 (a0a tab a0m 2 p1.1).bind fun t13 =>
 (a0c tab h_1 ty4 t13).bind fun t14 =>
 (gd t14 true (some (nth 1 ds))).bind fun t16 =>
 (gd t14 true (some (t4m : D))).bind fun t17 =>
 (gd t14 true (a0k tab .lss a0J t16 t17)).bind fun t18 =>
 (a0M t14 t18 (.bool false)).bind fun t19 =>
 dIf t19
  ((some ((.ptr h_1.length 0 0 : D),a0F h_1 a0w 2 [[.str [],.str []]])).bind fun p7 =>
 (a0c tab p7.2 a0m p1.1).bind fun t23 =>
 (R a4u [t23] p7.2).bind fun p24 =>
 (a0p 0 p24.1).bind fun t25 =>
 (a0p 1 p24.1).bind fun t26 =>
 ((a0h tab p24.2 a0m p1.1 t25).bind fun h' => some ((.und : D),h')).bind fun p905_1 =>
 (a0a tab a0w 0 p7.1).bind fun t27 =>
 ((a0h tab p905_1.2 ty9 t27 t26).bind fun h' => some ((.und : D),h')).bind fun p907 =>
 (a0c tab p907.2 a0m p1.1).bind fun t29 =>
 (R a4u [t29] p907.2).bind fun p30 =>
 (a0p 0 p30.1).bind fun t31 =>
 (a0p 1 p30.1).bind fun t32 =>
 ((a0h tab p30.2 a0m p1.1 t31).bind fun h' => some ((.und : D),h')).bind fun p905_2 =>
 (a0a tab a0w 1 p7.1).bind fun t33 =>
 ((a0h tab p905_2.2 ty9 t33 t32).bind fun h' => some ((.und : D),h')).bind fun p907_1 =>
 (a0c tab p907_1.2 a0w p7.1).bind fun t35 =>
 (a1h tab a1c 1 [0] [t35]).bind fun t36 =>
 (a0C tab p907_1.2 a1c a1c (nth 0 ds) t36).bind fun p37 =>
 (a0k tab .add a0J (nth 1 ds) (.int .u64 1)).bind fun t21 =>
 some (.nrm,[p37.1,t21,p7.1,t19],p37.2))
  (some ((.ext 0),[nth 0 ds,nth 1 ds,nth 2 ds,t19],h_1))
noncomputable def c4c (t0 : D) (h : Hp) : Option (D × Hp) :=
 (b8h a0m 3 h t0).bind fun p1 =>
 (some ((.ptr p1.2.length 0 0 : D),a0F p1.2 a0m 3 [[.nils,.int .i64 0,.bool false]])).bind fun p2 =>
 (a0c tab p2.2 a0m p1.1).bind fun t9 =>
 (R a3d [t9,.int .i64 4] p2.2).bind fun p10 =>
 (a0p 0 p10.1).bind fun t11 =>
 (a0p 1 p10.1).bind fun t12 =>
 ((a0h tab p10.2 a0m p1.1 t11).bind fun h' => some ((.und : D),h')).bind fun p905 =>
 ((a0I (b2z p1 t12) [.nils,.int .u64 0,.any,.any] p905.2).bind fun r =>
 some ((a0L 0 r.1),[nth 0 r.2.1,nth 1 r.2.1,nth 2 r.2.1,nth 3 r.2.1],r.2.2)).bind fun r_1 =>
 a0Q r_1.1 ((a0c tab r_1.2.2 a0m p1.1).bind fun t38 =>
 ((a0h tab r_1.2.2 a0m p2.1 t38).bind fun h' => some ((.und : D),h')).bind fun p902 =>
 (a0c tab p902.2 a0m p2.1).bind fun d0 => scope h p902.2 (a0i [d0,nth 0 r_1.2.1])) fun x => a1a x ((a0c tab r_1.2.2 a0m p2.1).bind fun d0 => scope h r_1.2.2 (a0i [d0,.nils]))
theorem c8H (t0 : D) (h : Hp) : R b0A [t0] h = c4c t0 h :=
 er i76 (by kernel_rfl) (by kernel_rfl)
noncomputable def b9S (t0 t1 : D) (ds : List D) (h_1 : Hp) : Option Out :=
 (a0y tab a1u t0).bind fun t13 =>
 (a0k tab .lss ty3 (nth 1 ds) t13).bind fun t14 =>
 dIf t14
  ((a0b tab a1u t0 (nth 1 ds)).bind fun t19 =>
 (a0c tab h_1 a1A t19).bind fun t20 =>
 (a0b tab a1u t1 (nth 1 ds)).bind fun t23 =>
 (a0c tab h_1 a1A t23).bind fun t24 =>
 (a0k tab .neq a1A t20 t24).bind fun t25 =>
 dIf t25
  (some (.ret,[.bool false,nth 1 ds,t14,t25],h_1))
  ((a0k tab .add ty3 (nth 1 ds) (.int .i64 1)).bind fun t16 =>
 some (.nrm,[nth 0 ds,t16,t14,t25],h_1)))
  (some ((.ext 0),[nth 0 ds,nth 1 ds,t14,nth 3 ds],h_1))
noncomputable def F94 (t0 t1 : D) (h : Hp) : Option (D × Hp) :=
 (a0y tab a1u t0).bind fun t7 =>
 (a0y tab a1u t1).bind fun t9 =>
 (a0k tab .neq ty3 t7 t9).bind fun t10 =>
 dIf t10
  (some (a0i [.bool false],h))
  (((a0I (b9S t0 t1) [.bool false,.int .i64 0,.any,.any] h).bind fun r =>
 some ((a0L 0 r.1),[nth 0 r.2.1,nth 1 r.2.1,nth 2 r.2.1,nth 3 r.2.1],r.2.2)).bind fun r_1 =>
 a0Q r_1.1 (some (a0i [.bool true],r_1.2.2)) fun x => a1a x (some (a0i [nth 0 r_1.2.1],r_1.2.2)))
theorem e94 (t0 t1 : D) (h : Hp) : R c9Q [t0,t1] h = F94 t0 t1 h :=
 er i77 (by kernel_rfl) (by kernel_rfl)
noncomputable def b9T (t0 t1 : D) (ds : List D) (h_1 : Hp) : Option Out :=
 (a0y tab a1c t0).bind fun t13 =>
 (a0k tab .lss ty3 (nth 1 ds) t13).bind fun t14 =>
 dIf t14
  ((a0b tab a1c t0 (nth 1 ds)).bind fun t19 =>
 (a0c tab h_1 a0w t19).bind fun t20 =>
 (a0b tab a1c t1 (nth 1 ds)).bind fun t23 =>
 (a0c tab h_1 a0w t23).bind fun t24 =>
 (a0k tab .neq a0w t20 t24).bind fun t25 =>
 dIf t25
  (some (.ret,[.bool false,nth 1 ds,t14,t25],h_1))
  ((a0k tab .add ty3 (nth 1 ds) (.int .i64 1)).bind fun t16 =>
 some (.nrm,[nth 0 ds,t16,t14,t25],h_1)))
  (some ((.ext 0),[nth 0 ds,nth 1 ds,t14,nth 3 ds],h_1))
noncomputable def F95 (t0 t1 : D) (h : Hp) : Option (D × Hp) :=
 (a0y tab a1c t0).bind fun t7 =>
 (a0y tab a1c t1).bind fun t9 =>
 (a0k tab .neq ty3 t7 t9).bind fun t10 =>
 dIf t10
  (some (a0i [.bool false],h))
  (((a0I (b9T t0 t1) [.bool false,.int .i64 0,.any,.any] h).bind fun r =>
 some ((a0L 0 r.1),[nth 0 r.2.1,nth 1 r.2.1,nth 2 r.2.1,nth 3 r.2.1],r.2.2)).bind fun r_1 =>
 a0Q r_1.1 (some (a0i [.bool true],r_1.2.2)) fun x => a1a x (some (a0i [nth 0 r_1.2.1],r_1.2.2)))
theorem e95 (t0 t1 : D) (h : Hp) : R c6P [t0,t1] h = F95 t0 t1 h :=
 er i78 (by kernel_rfl) (by kernel_rfl)
noncomputable def F57 (t0 : D) (h : Hp) : Option (D × Hp) :=
 (a0s tab t0).bind fun t4 =>
 (a0a tab a4V 1 t4).bind fun t5 =>
 (a0c tab h ty3 t5).bind fun t6 =>
 (a0s tab t0).bind fun t8 =>
 (a0a tab a4V 0 t8).bind fun t9 =>
 (a0c tab h a0H t9).bind fun t10 =>
 (a0y tab a0H t10).bind fun t11 =>
 (a0k tab .lss ty3 t6 t11).bind fun t12 =>
 some (a0i [t12],h)
theorem e57 (t0 : D) (h : Hp) : R c6M [t0] h = F57 t0 h :=
 er i79 (by kernel_rfl) (by kernel_rfl)
noncomputable def c0V (t0 t1 : D) (h : Hp) : Option (D × Hp) :=
 (a0k tab .lss ty3 t1 (.int .i64 0)).bind fun t6 =>
 (dIf t6
  (((none : Option D)).bind fun t7 =>
 ((none : Option D)).bind fun t901 =>
 some (.nrm,([] : List D),h))
  (some (.nrm,([] : List D),h))).bind fun r =>
 a0Q r.1 ((b5k tab a0H t0).bind fun t10 =>
 (a0y tab a0H t0).bind fun t12 =>
 (a0k tab .sub ty3 t10 t12).bind fun t13 =>
 (a0k tab .sub ty3 t1 t13).bind fun t14 =>
 (a0k tab .gtr ty3 t14 (.int .i64 0)).bind fun t16 =>
 (dIf t16
  ((b5k tab a0H t0).bind fun t19 =>
 (a0G tab a0H false true false [t0,t19]).bind fun t20 =>
 (a0C tab r.2.2 a0H ty3 t20 t14).bind fun p22 =>
 (a0y tab a0H t0).bind fun t24 =>
 (a0G tab a0H false true false [p22.1,t24]).bind fun t25 =>
 some (.nrm,[t25],p22.2))
  (some (.nrm,[t0],r.2.2))).bind fun r_1 =>
 a0Q r_1.1 (some (a0i [nth 0 r_1.2.1],r_1.2.2)) fun x_1 => a1a x_1 (some (a0i [.nils],r_1.2.2))) fun x => a1a x (some (a0i [.nils],r.2.2))
theorem c7M (t0 t1 : D) (h : Hp) : R b5N [t0,t1] h = c0V t0 t1 h :=
 er i87 (by kernel_rfl) (by kernel_rfl)
noncomputable def a8F (ds_1 : List D) (h_2 : Hp) : Option Out :=
 (a0k tab .lss ty3 (nth 1 ds_1) (.int .i64 8)).bind fun t17 =>
 dIf t17
  ((a0k tab .shr a3p (nth 0 ds_1) (.int .u64 1)).bind fun t19 =>
 (a0k tab .and a3p (nth 0 ds_1) (.int .u32 1)).bind fun t21 =>
 (dUn .neg t21).bind fun t22 =>
 (a0k tab .and a3p (.int .u32 3988292384) t22).bind fun t23 =>
 (a0k tab .xor a3p t19 t23).bind fun t24 =>
 (a0k tab .add ty3 (nth 1 ds_1) (.int .i64 1)).bind fun t25 =>
 some (.nrm,[t24,t25,t17],h_2))
  (some ((.ext 2),[nth 0 ds_1,nth 1 ds_1,t17],h_2))
noncomputable def b2h (t6m t7 : D) (ds : List D) (h_1 : Hp) : Option Out :=
 (a0k tab .lss ty3 (nth 2 ds) t7).bind fun t9 =>
 dIf t9
  ((a0b tab a0H t6m (nth 2 ds)).bind fun t10 =>
 (a0c tab h_1 ty5 t10).bind fun t11 =>
 (a0Z tab ty5 a3p t11).bind fun t14 =>
 (a0k tab .xor a3p (nth 0 ds) t14).bind fun t15 =>
 ((a0I (a8F) [t15,.int .i64 0,nth 5 ds] h_1).bind fun r_1 =>
 some ((a0L 2 r_1.1),[nth 0 r_1.2.1,nth 1 r_1.2.1,nth 2 r_1.2.1],r_1.2.2)).bind fun r_2 =>
 a0Q (a0L 1 r_2.1) ((a0k tab .add ty3 (nth 2 ds) (.int .i64 1)).bind fun t26 =>
 some (.nrm,[nth 0 r_2.2.1,t11,t26,t9,nth 1 r_2.2.1,nth 2 r_2.2.1],r_2.2.2)) fun x => some (x,[nth 0 r_2.2.1,t11,nth 2 ds,t9,nth 1 r_2.2.1,nth 2 r_2.2.1],r_2.2.2))
  (some ((.ext 0),[nth 0 ds,nth 1 ds,nth 2 ds,t9,nth 4 ds,nth 5 ds],h_1))
noncomputable def c3m (t0 : D) (h : Hp) : Option (D × Hp) :=
 (a0y tab a0H t0).bind fun t7 =>
 ((a0I (b2h t0 t7) [.int .u32 4294967295,.any,.int .i64 0,.any,.any,.any] h).bind fun r =>
 some ((a0L 0 r.1),[nth 0 r.2.1,nth 1 r.2.1,nth 2 r.2.1,nth 3 r.2.1,nth 4 r.2.1,nth 5 r.2.1],r.2.2)).bind fun r_3 =>
 a0Q r_3.1 ((dUn .xor (nth 0 r_3.2.1)).bind fun t28 =>
 some (a0i [t28],r_3.2.2)) fun x_1 => a1a x_1 (some (a0i [.int .u32 0],r_3.2.2))
theorem c7N (t0 : D) (h : Hp) : R b5O [t0] h = c3m t0 h :=
 er i88 (by kernel_rfl) (by kernel_rfl)
noncomputable def b9Q (t0 : D) (p9 : D × Hp) (ds : List D) (h_1 : Hp) : Option Out :=
 (a0k tab .gtr ty3 (nth 1 ds) (.int .i64 0)).bind fun t24 =>
 dIf t24
  ((R c6Q [t0] h_1).bind fun p28 =>
 (a0y tab ty9 p28.1).bind fun t30 =>
 (a0k tab .add ty3 t30 (.int .i64 1)).bind fun t31 =>
 (R a5q [t0,.int .i64 2] p28.2).bind fun p33 =>
 (a0k tab .add ty3 t31 p33.1).bind fun t34 =>
 (a0a tab a0E 4 p9.1).bind fun t35 =>
 (a0c tab p33.2 a1u t35).bind fun t36 =>
 (a0X tab a1A [0,1,2] [nth 0 ds,t34,p28.1]).bind fun t40 =>
 (a1h tab a1u 1 [0] [t40]).bind fun t41 =>
 (a0C tab p33.2 a1u a1u t36 t41).bind fun p42 =>
 (a0a tab a0E 4 p9.1).bind fun t43 =>
 ((a0h tab p42.2 a1u t43 p42.1).bind fun h' => some ((.und : D),h')).bind fun p909 =>
 (a0k tab .add ty3 (nth 0 ds) t34).bind fun t46 =>
 (a0k tab .sub ty3 (nth 1 ds) (.int .i64 1)).bind fun t26 =>
 some (.nrm,[t46,t26,p28.1,t34,t24],p909.2))
  (some ((.ext 0),[nth 0 ds,nth 1 ds,nth 2 ds,nth 3 ds,t24],h_1))
noncomputable def b9R (p9 : D × Hp) (ds_1 : List D) (h_2 : Hp) : Option Out :=
 (a0a tab a0E 4 p9.1).bind fun t53 =>
 (a0c tab h_2 a1u t53).bind fun t54 =>
 (a0y tab a1u t54).bind fun t55 =>
 (a0k tab .lss ty3 (nth 0 ds_1) t55).bind fun t56 =>
 dIf t56
  ((a0a tab a0E 4 p9.1).bind fun t59 =>
 (a0c tab h_2 a1u t59).bind fun t60 =>
 (a0b tab a1u t60 (nth 0 ds_1)).bind fun t62 =>
 (a0a tab a1A 2 t62).bind fun t63 =>
 ((a0h tab h_2 ty9 t63 (.str [])).bind fun h' => some ((.und : D),h')).bind fun p905_1 =>
 (a0k tab .add ty3 (nth 0 ds_1) (.int .i64 1)).bind fun t58 =>
 some (.nrm,[t58,t56],p905_1.2))
  (some ((.ext 2),[nth 0 ds_1,t56],h_2))
noncomputable def F84 (t0 t1 t2 t3 : D) (h : Hp) : Option (D × Hp) :=
 (some ((.ptr h.length 0 0 : D),a0F h a0D 11 [[.str [],.int .i64 0,.int .i64 0,.int .i64 0,.int .i64 0,.nils,.int .i64 0,.int .i64 0,.str [],.str [],.nils]])).bind fun p8 =>
 (a0X tab a0E [0,1,2] [t1,t2,t3]).bind fun t18 =>
 (some ((.ptr p8.2.length 0 0 : D),a0F p8.2 a0E 10 [[.int .i64 0,.int .i64 0,.int .i64 0,.int .i64 0,.nils,.int .i64 0,.int .i64 0,.str [],.str [],.nils]])).bind fun p9 =>
 ((a0h tab p9.2 a0E p9.1 t18).bind fun h' => some ((.und : D),h')).bind fun p905 =>
 (R a5q [t0,.int .i64 3] p905.2).bind fun p21 =>
 (a0k tab .add ty3 (.int .i64 1) p21.1).bind fun t22 =>
 ((a0I (b9Q t0 p9) [t3,t22,.any,.any,.any] p21.2).bind fun r =>
 some ((a0L 0 r.1),[nth 0 r.2.1,nth 1 r.2.1,nth 2 r.2.1,nth 3 r.2.1,nth 4 r.2.1],r.2.2)).bind fun r_1 =>
 a0Q r_1.1 ((a0a tab a0E 3 p9.1).bind fun t48 =>
 ((a0h tab r_1.2.2 ty3 t48 (nth 0 r_1.2.1)).bind fun h' => some ((.und : D),h')).bind fun p902 =>
 (R a5q [t0,.int .i64 5] p902.2).bind fun p50 =>
 (a0k tab .eql ty3 p50.1 (.int .i64 4)).bind fun t51 =>
 dIf t51
  (((a0I (b9R p9) [.int .i64 0,.any] p50.2).bind fun r_2 =>
 some ((a0L 2 r_2.1),[nth 0 r_2.2.1,nth 1 r_2.2.1],r_2.2.2)).bind fun r_3 =>
 a0Q r_3.1 ((a1h tab a5r 3 [0,1,2] [.str [115,97,109,112,108,101],.str [100,114,111,112],.str [116,111,111,45,108,111,110,103]]).bind fun t64 =>
 (R a5q [t0,.int .i64 3] r_3.2.2).bind fun p66 =>
 (a0b tab a5r t64 p66.1).bind fun t67 =>
 (a0c tab p66.2 ty9 t67).bind fun t68 =>
 (a0c tab p66.2 a0E p9.1).bind fun t69 =>
 (a0X tab a0D [0,1] [t68,t69]).bind fun t70 =>
 chk (a0c tab r_3.2.2 a0E p9.1 = some t69)
 (((a0h tab p66.2 a0D p8.1 t70).bind fun h' => some ((.und : D),h')).bind fun p907 =>
 (a0c tab p907.2 a0D p8.1).bind fun d0 => scope h p907.2 (a0i [d0]))) fun x_1 => a0Q x_1 ((R c6L [t0] r_3.2.2).bind fun p72 =>
 (R c6R [t0] p72.2).bind fun p74 =>
 (a0a tab a0E 5 p9.1).bind fun t75 =>
 ((a0h tab p74.2 ty3 t75 p72.1).bind fun h' => some ((.und : D),h')).bind fun p905_2 =>
 (a0a tab a0E 6 p9.1).bind fun t76 =>
 ((a0h tab p905_2.2 ty3 t76 p74.1).bind fun h' => some ((.und : D),h')).bind fun p907_1 =>
 (a1h tab a5r 4 [0,1,2,3] [.str [116,49],.str [116,50],.str [],.str [49,58,50,58,48]]).bind fun t77 =>
 (R a5q [t0,.int .i64 4] p907_1.2).bind fun p79 =>
 (a0b tab a5r t77 p79.1).bind fun t80 =>
 (a0c tab p79.2 ty9 t80).bind fun t81 =>
 (a1h tab a5r 2 [0,1] [.str [109,97,105,110],.str [100,101,98,117,103]]).bind fun t82 =>
 (R a5q [t0,.int .i64 2] p79.2).bind fun p84 =>
 (a0b tab a5r t82 p84.1).bind fun t85 =>
 (a0c tab p84.2 ty9 t85).bind fun t86 =>
 (a0a tab a0E 7 p9.1).bind fun t87 =>
 ((a0h tab p84.2 ty9 t87 t81).bind fun h' => some ((.und : D),h')).bind fun p911 =>
 chk (a0c tab p84.2 ty9 t80 = some t81)
 (chk (a0c tab p911.2 ty9 t85 = some t86)
 ((a0a tab a0E 8 p9.1).bind fun t88 =>
 ((a0h tab p911.2 ty9 t88 t86).bind fun h' => some ((.und : D),h')).bind fun p913 =>
 (R c4U [t0] p913.2).bind fun p90 =>
 (a0a tab a0E 9 p9.1).bind fun t91 =>
 ((a0h tab p90.2 a1c t91 p90.1).bind fun h' => some ((.und : D),h')).bind fun p903 =>
 (a0c tab p903.2 a0E p9.1).bind fun t92 =>
 (a0X tab a0D [1] [t92]).bind fun t93 =>
 ((a0h tab p903.2 a0D p8.1 t93).bind fun h' => some ((.und : D),h')).bind fun p902_1 =>
 (a0c tab p902_1.2 a0D p8.1).bind fun d0 => scope h p902_1.2 (a0i [d0])))) fun x_2 => a1a x_2 ((a0c tab r_3.2.2 a0D p8.1).bind fun d0 => scope h r_3.2.2 (a0i [d0])))
  ((R c6L [t0] p50.2).bind fun p72_1 =>
 (R c6R [t0] p72_1.2).bind fun p74_1 =>
 (a0a tab a0E 5 p9.1).bind fun t75_1 =>
 ((a0h tab p74_1.2 ty3 t75_1 p72_1.1).bind fun h' => some ((.und : D),h')).bind fun p905_3 =>
 (a0a tab a0E 6 p9.1).bind fun t76_1 =>
 ((a0h tab p905_3.2 ty3 t76_1 p74_1.1).bind fun h' => some ((.und : D),h')).bind fun p907_2 =>
 (a1h tab a5r 4 [0,1,2,3] [.str [116,49],.str [116,50],.str [],.str [49,58,50,58,48]]).bind fun t77_1 =>
 (R a5q [t0,.int .i64 4] p907_2.2).bind fun p79_1 =>
 (a0b tab a5r t77_1 p79_1.1).bind fun t80_1 =>
 (a0c tab p79_1.2 ty9 t80_1).bind fun t81_1 =>
 (a1h tab a5r 2 [0,1] [.str [109,97,105,110],.str [100,101,98,117,103]]).bind fun t82_1 =>
 (R a5q [t0,.int .i64 2] p79_1.2).bind fun p84_1 =>
 (a0b tab a5r t82_1 p84_1.1).bind fun t85_1 =>
 (a0c tab p84_1.2 ty9 t85_1).bind fun t86_1 =>
 (a0a tab a0E 7 p9.1).bind fun t87_1 =>
 ((a0h tab p84_1.2 ty9 t87_1 t81_1).bind fun h' => some ((.und : D),h')).bind fun p911_1 =>
 chk (a0c tab p84_1.2 ty9 t80_1 = some t81_1)
 (chk (a0c tab p911_1.2 ty9 t85_1 = some t86_1)
 ((a0a tab a0E 8 p9.1).bind fun t88_1 =>
 ((a0h tab p911_1.2 ty9 t88_1 t86_1).bind fun h' => some ((.und : D),h')).bind fun p913_1 =>
 (R c4U [t0] p913_1.2).bind fun p90_1 =>
 (a0a tab a0E 9 p9.1).bind fun t91_1 =>
 ((a0h tab p90_1.2 a1c t91_1 p90_1.1).bind fun h' => some ((.und : D),h')).bind fun p903_1 =>
 (a0c tab p903_1.2 a0E p9.1).bind fun t92_1 =>
 (a0X tab a0D [1] [t92_1]).bind fun t93_1 =>
 ((a0h tab p903_1.2 a0D p8.1 t93_1).bind fun h' => some ((.und : D),h')).bind fun p902_2 =>
 (a0c tab p902_2.2 a0D p8.1).bind fun d0 => scope h p902_2.2 (a0i [d0]))))) fun x => a1a x ((a0c tab r_1.2.2 a0D p8.1).bind fun d0 => scope h r_1.2.2 (a0i [d0]))
theorem e84 (t0 t1 t2 t3 : D) (h : Hp) : R c6O [t0,t1,t2,t3] h = F84 t0 t1 t2 t3 h :=
 er i89 (by kernel_rfl) (by kernel_rfl)
noncomputable def c3p (t0 : D) (h : Hp) : Option (D × Hp) :=
 (a2p t0).bind fun t1 =>
 (a0c tab h a0E t1).bind fun t7 =>
 (R b3a [t7] h).bind fun p8 =>
 (dUn .not p8.1).bind fun t9 =>
 (gd t9 false (a0a tab a0E 5 t1)).bind fun t11 =>
 (gd t9 false (a0c tab p8.2 ty3 t11)).bind fun t12 =>
 (gdW t9 false p8.2 (R a8j [t12,.int .i64 0,.int .i64 253402300799999] p8.2)).bind fun p13 =>
 (gd t9 false (dUn .not p13.1)).bind fun t14 =>
 (a0M t9 (.bool true) t14).bind fun t15 =>
 dIf t15
  (scope h p13.2 (a0i [.int .i64 2]))
  ((a0a tab a0E 6 t1).bind fun t17 =>
 (a0c tab p13.2 ty3 t17).bind fun t18 =>
 (a0k tab .lss ty3 t18 (.int .i64 1)).bind fun t19 =>
 (gd t19 false (a0a tab a0E 6 t1)).bind fun t21 =>
 (gd t19 false (a0c tab p13.2 ty3 t21)).bind fun t22 =>
 (gd t19 false (a0k tab .rem ty3 (.int .i64 5040) t22)).bind fun t23 =>
 (gd t19 false (a0k tab .neq ty3 t23 (.int .i64 0))).bind fun t24 =>
 (a0M t19 (.bool true) t24).bind fun t25 =>
 dIf t25
  (scope h p13.2 (a0i [.int .i64 21]))
  ((a0c tab p13.2 a0E t1).bind fun t26 =>
 (R b3b [t26,.int .i64 2000] p13.2).bind fun p27 =>
 (a0k tab .neq a5n p27.1 (.int .i64 0)).bind fun t29 =>
 dIf t29
  (scope h p27.2 (a0i [p27.1]))
  ((a0a tab a0E 7 t1).bind fun t31 =>
 (a0c tab p27.2 ty9 t31).bind fun t32 =>
 (a0y tab ty9 t32).bind fun t33 =>
 (a0k tab .gtr ty3 t33 (.int .i64 32)).bind fun t34 =>
 (gd t34 false (a0a tab a0E 8 t1)).bind fun t36 =>
 (gd t34 false (a0c tab p27.2 ty9 t36)).bind fun t37 =>
 (gd t34 false (a0y tab ty9 t37)).bind fun t38 =>
 (gd t34 false (a0k tab .gtr ty3 t38 (.int .i64 32))).bind fun t39 =>
 (a0M t34 (.bool true) t39).bind fun t40 =>
 dIf t40
  (scope h p27.2 (a0i [.int .i64 3]))
  ((a0a tab a0E 9 t1).bind fun t42 =>
 (a0c tab p27.2 a1c t42).bind fun t43 =>
 (R b0r [t43] p27.2).bind fun p44 =>
 (a0p 0 p44.1).bind fun t45 =>
 (a0p 1 p44.1).bind fun t46 =>
 (a0k tab .neq a5n t46 (.int .i64 0)).bind fun t48 =>
 dIf t48
  (scope h p44.2 (a0i [t46]))
  ((a0a tab a0E 9 t1).bind fun t51 =>
 (a0c tab p44.2 a1c t51).bind fun t52 =>
 (R b5Q [t45,t52] p44.2).bind fun p53 =>
 (dUn .not p53.1).bind fun t54 =>
 dIf t54
  (scope h p53.2 (a0i [.int .i64 19]))
  ((R b5R [t45,.fn (.func b0s) [] []] p53.2).bind fun p56 =>
 dIf p56.1
  (scope h p56.2 (a0i [.int .i64 3]))
  (scope h p56.2 (a0i [.int .i64 0]))))))))
theorem c7P (t0 : D) (h : Hp) : R b0p [t0] h = c3p t0 h :=
 er i90 (by kernel_rfl) (by kernel_rfl)
noncomputable def c3q (t0 : D) (h : Hp) : Option (D × Hp) :=
 (a2p t0).bind fun t1 =>
 (a0a tab a0E 0 t1).bind fun t3 =>
 (a0c tab h ty3 t3).bind fun t4 =>
 (R a8j [t4,.int .i64 0,.int .i64 999] h).bind fun p5 =>
 (gd p5.1 true (a0a tab a0E 1 t1)).bind fun t7 =>
 (gd p5.1 true (a0c tab p5.2 ty3 t7)).bind fun t8 =>
 (gdW p5.1 true p5.2 (R a8j [t8,.int .i64 0,.int .i64 2147483646] p5.2)).bind fun p9 =>
 (a0M p5.1 p9.1 (.bool false)).bind fun t10 =>
 (gd t10 true (a0a tab a0E 2 t1)).bind fun t12 =>
 (gd t10 true (a0c tab p9.2 ty3 t12)).bind fun t13 =>
 (gd t10 true (a0k tab .geq ty3 t13 (.int .i64 0))).bind fun t14 =>
 (a0M t10 t14 (.bool false)).bind fun t15 =>
 (gd t15 true (a0a tab a0E 3 t1)).bind fun t17 =>
 (gd t15 true (a0c tab p9.2 ty3 t17)).bind fun t18 =>
 (gd t15 true (a0a tab a0E 2 t1)).bind fun t19 =>
 (gd t15 true (a0c tab p9.2 ty3 t19)).bind fun t20 =>
 (gd t15 true (a0k tab .gtr ty3 t18 t20)).bind fun t21 =>
 (a0M t15 t21 (.bool false)).bind fun t22 =>
 (gd t22 true (a0a tab a0E 3 t1)).bind fun t24 =>
 (gd t22 true (a0c tab p9.2 ty3 t24)).bind fun t25 =>
 (gd t22 true (a0k tab .leq ty3 t25 (.int .i64 60000))).bind fun t26 =>
 (a0M t22 t26 (.bool false)).bind fun t27 =>
 some (a0i [t27],p9.2)
theorem c7Q (t0 : D) (h : Hp) : R b3a [t0] h = c3q t0 h :=
 er i91 (by kernel_rfl) (by kernel_rfl)
noncomputable def b2i (t1 t2 t22 t23 : D) (ds : List D) (h_1 : Hp) : Option Out :=
 (a0k tab .lss ty3 (nth 5 ds) t23).bind fun t25 =>
 dIf t25
  ((a0b tab a1u t22 (nth 5 ds)).bind fun t27 =>
 (a0c tab h_1 a1A t27).bind fun t28 =>
 (some ((.ptr h_1.length 0 0 : D),a0F h_1 a1A 3 [[.int .i64 0,.int .i64 0,.str []]])).bind fun p7 =>
 ((a0h tab p7.2 a1A p7.1 t28).bind fun h' => some ((.und : D),h')).bind fun p905 =>
 (a0a tab a0E 4 t2).bind fun t30 =>
 (a0c tab p905.2 a1u t30).bind fun t31 =>
 (a0y tab a1u t31).bind fun t32 =>
 (a0k tab .sub ty3 t32 (.int .i64 1)).bind fun t33 =>
 (a0k tab .eql ty3 (nth 5 ds) t33).bind fun t34 =>
 (a0a tab a1A 0 p7.1).bind fun t35 =>
 (a0c tab p905.2 ty3 t35).bind fun t36 =>
 (a0k tab .neq ty3 t36 (nth 1 ds)).bind fun t38 =>
 (gd t38 false (a0a tab a1A 1 p7.1)).bind fun t40 =>
 (gd t38 false (a0c tab p905.2 ty3 t40)).bind fun t41 =>
 (gd t38 false (a0k tab .lss ty3 t41 (.int .i64 1))).bind fun t42 =>
 (a0M t38 (.bool true) t42).bind fun t43 =>
 (gd t43 false (a0a tab a1A 1 p7.1)).bind fun t45 =>
 (gd t43 false (a0c tab p905.2 ty3 t45)).bind fun t46 =>
 (gd t43 false (a0a tab a0E 3 t2)).bind fun t47 =>
 (gd t43 false (a0c tab p905.2 ty3 t47)).bind fun t48 =>
 (gd t43 false (some (nth 1 ds))).bind fun t49 =>
 (gd t43 false (a0k tab .sub ty3 t48 t49)).bind fun t50 =>
 (gd t43 false (a0k tab .gtr ty3 t46 t50)).bind fun t51 =>
 (a0M t43 (.bool true) t51).bind fun t52 =>
 (gd t52 false (some t34)).bind fun t54 =>
 (gd t52 false (some t54)).bind fun t55 =>
 (gd t55 true (a0a tab a1A 1 p7.1)).bind fun t56 =>
 (gd t55 true (a0c tab p905.2 ty3 t56)).bind fun t57 =>
 (gd t55 true (a0a tab a0E 3 t2)).bind fun t58 =>
 (gd t55 true (a0c tab p905.2 ty3 t58)).bind fun t59 =>
 (gd t55 true (some (nth 1 ds))).bind fun t60 =>
 (gd t55 true (a0k tab .sub ty3 t59 t60)).bind fun t61 =>
 (gd t55 true (a0k tab .lss ty3 t57 t61)).bind fun t62 =>
 (gd t52 false (a0M t55 t62 (.bool false))).bind fun t63 =>
 (a0M t52 (.bool true) t63).bind fun t64 =>
 dIf t64
  (some (.ret,[.int .i64 19,nth 1 ds,nth 5 ds,p7.1,t34,nth 5 ds,t25,t64,nth 8 ds],p905.2))
  ((a0a tab a1A 2 p7.1).bind fun t65 =>
 (a0c tab p905.2 ty9 t65).bind fun t66 =>
 (a0y tab ty9 t66).bind fun t67 =>
 (a0k tab .gtr ty3 t67 t1).bind fun t69 =>
 dIf t69
  (some (.ret,[.int .i64 3,nth 1 ds,nth 5 ds,p7.1,t34,nth 5 ds,t25,t64,t69],p905.2))
  ((a0a tab a1A 1 p7.1).bind fun t71 =>
 (a0c tab p905.2 ty3 t71).bind fun t72 =>
 (a0k tab .add ty3 (nth 1 ds) t72).bind fun t73 =>
 (a0k tab .add ty3 (nth 5 ds) (.int .i64 1)).bind fun t74 =>
 some (.nrm,[nth 0 ds,t73,nth 5 ds,p7.1,t34,t74,t25,t64,t69],p905.2))))
  (some ((.ext 1),[nth 0 ds,nth 1 ds,nth 2 ds,nth 3 ds,nth 4 ds,nth 5 ds,t25,nth 7 ds,nth 8 ds],h_1))
noncomputable def c3r (t0 t1 : D) (h : Hp) : Option (D × Hp) :=
 (a2p t0).bind fun t2 =>
 (a0a tab a0E 4 t2).bind fun t10 =>
 (a0c tab h a1u t10).bind fun t11 =>
 (a0y tab a1u t11).bind fun t12 =>
 (a0k tab .eql ty3 t12 (.int .i64 0)).bind fun t13 =>
 dIf t13
  (scope h h (a0i [.int .i64 9]))
  ((a0a tab a0E 4 t2).bind fun t15 =>
 (a0c tab h a1u t15).bind fun t16 =>
 (a0y tab a1u t16).bind fun t17 =>
 (a0k tab .gtr ty3 t17 (.int .i64 40)).bind fun t18 =>
 dIf t18
  (scope h h (a0i [.int .i64 4]))
  ((a0a tab a0E 2 t2).bind fun t19 =>
 (a0c tab h ty3 t19).bind fun t20 =>
 (a0a tab a0E 4 t2).bind fun t21 =>
 (a0c tab h a1u t21).bind fun t22 =>
 (a0y tab a1u t22).bind fun t23 =>
 ((a0I (b2i t1 t2 t22 t23) [.int .i64 0,t20,.any,.any,.any,.int .i64 0,.any,.any,.any] h).bind fun r =>
 some ((a0L 1 r.1),[nth 0 r.2.1,nth 1 r.2.1,nth 2 r.2.1,nth 3 r.2.1,nth 4 r.2.1,nth 5 r.2.1,nth 6 r.2.1,nth 7 r.2.1,nth 8 r.2.1],r.2.2)).bind fun r_1 =>
 a0Q r_1.1 (scope h r_1.2.2 (a0i [.int .i64 0])) fun x => a1a x (scope h r_1.2.2 (a0i [nth 0 r_1.2.1]))))
theorem c7R (t0 t1 : D) (h : Hp) : R b3b [t0,t1] h = c3r t0 t1 h :=
 er i92 (by kernel_rfl) (by kernel_rfl)
noncomputable def c3s (t0 t1 : D) (h : Hp) : Option (D × Hp) :=
 (R b5C [t0,t1] h).bind fun p7 =>
 (a0k tab .geq ty3 p7.1 (.int .i64 0)).bind fun t8 =>
 some (a0i [t8],p7.2)
theorem c7S (t0 t1 : D) (h : Hp) : R b5P [t0,t1] h = c3s t0 t1 h :=
 er i93 (by kernel_rfl) (by kernel_rfl)
noncomputable def c3t (t0 : D) (h : Hp) : Option (D × Hp) :=
 (a2p t0).bind fun t1 =>
 (a0a tab a1A 2 t1).bind fun t3 =>
 (a0c tab h ty9 t3).bind fun t4 =>
 (a0k tab .neq ty9 t4 (.str [])).bind fun t5 =>
 some (a0i [t5],h)
theorem c7T (t0 : D) (h : Hp) : R b0q [t0] h = c3t t0 h :=
 er i94 (by kernel_rfl) (by kernel_rfl)
end Go.Proofs.YthaajlepgblimaaGreatDoor
