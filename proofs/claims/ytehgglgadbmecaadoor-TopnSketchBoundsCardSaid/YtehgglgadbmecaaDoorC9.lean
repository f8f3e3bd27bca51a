/- Functions as Lean functions on data. -/
import Derived.Test.YtehgglgadbmecaaDoorB2
set_option linter.unusedSimpArgs false
set_option linter.unusedVariables false
set_option linter.unnecessarySimpa false
set_option maxRecDepth 100000
namespace Go.Proofs.YtehgglgadbmecaaDoor
open Go.Eng Go.Pi
noncomputable def a8K (t4m:D) (ds:List D) (h_1:Hp):Option Out :=
 (a0x tab a3U t4m).bind fun t35=>(a0l tab .lss ty3 (nth 1 ds) t35).bind fun t36=>dIf t36
  ((a0b tab a3U t4m (nth 1 ds)).bind fun t42=>(a0a tab a0O 6 t42).bind fun t43=>(a0c tab h_1 ty3 t43).bind fun t44=>(a0l tab .add ty3 (nth 0 ds) t44).bind fun t45=>(a0l tab .add ty3 (nth 1 ds) (.int .i64 1)).bind fun t38=>some (.nrm,[t45,t38,t36],h_1))
  (some ((.ext 0),[nth 0 ds,nth 1 ds,t36],h_1))
noncomputable def a8L (t7m:D) (ds_1:List D) (h_2:Hp):Option Out :=
 (a0x tab a0r t7m).bind fun t48=>(a0l tab .lss ty3 (nth 1 ds_1) t48).bind fun t49=>dIf t49
  ((a0l tab .eql ty3 (nth 1 ds_1) (.int .i64 0)).bind fun t53=>(gd t53 false (some (t7m:D))).bind fun t55=>(gd t53 false (some (nth 1 ds_1))).bind fun t56=>(gd t53 false (a0b tab a0r t55 t56)).bind fun t57=>(gd t53 false (a0a tab a0j 1 t57)).bind fun t58=>(gd t53 false (a0c tab h_2 ty3 t58)).bind fun t59=>(gd t53 false (some (nth 0 ds_1))).bind fun t60=>(gd t53 false (a0l tab .lss ty3 t59 t60)).bind fun t61=>(a1s t53 (.bool true) t61).bind fun t62=>(dIf t62
  ((a0b tab a0r t7m (nth 1 ds_1)).bind fun t65=>(a0a tab a0j 1 t65).bind fun t66=>(a0c tab h_2 ty3 t66).bind fun t67=>some (.nrm,[t67],h_2))
  (some (.nrm,[nth 0 ds_1],h_2))).bind fun r_3=>a0D (a0z 3 r_3.1) ((a0l tab .add ty3 (nth 1 ds_1) (.int .i64 1)).bind fun t51=>some (.nrm,[nth 0 r_3.2.1,t51,t49,t62],r_3.2.2)) fun x_1=>some (x_1,[nth 0 r_3.2.1,nth 1 ds_1,t49,t62],r_3.2.2))
  (some ((.ext 2),[nth 0 ds_1,nth 1 ds_1,t49,nth 3 ds_1],h_2))
noncomputable def a8N (t7m t8m:D) (ds_2:List D) (t14m:D) (ds_3:List D) (h_4:Hp):Option Out :=
 (a0x tab a0r t7m).bind fun t93=>(a0l tab .lss ty3 (nth 2 ds_3) t93).bind fun t94=>dIf t94
  ((a0b tab a0r t7m (nth 2 ds_3)).bind fun t99=>(a0a tab a0j 0 t99).bind fun t100=>(a0c tab h_4 a0C t100).bind fun t101=>(a0b tab a0u t8m (nth 1 ds_2)).bind fun t104=>(a0a tab a0h 0 t104).bind fun t105=>(a0c tab h_4 a0C t105).bind fun t106=>(R1 a7d [t101,t106] h_4).bind fun p107=>(dIf p107.1
  ((a0b tab a0r t7m (nth 2 ds_3)).bind fun t111=>(a0a tab a0j 1 t111).bind fun t112=>(a0c tab p107.2 ty3 t112).bind fun t113=>(a0l tab .gtr ty3 t14m t113).bind fun t114=>(gd t114 false (some (t14m:D))).bind fun t116=>(gd t114 false (some (t7m:D))).bind fun t117=>(gd t114 false (some (nth 2 ds_3))).bind fun t118=>(gd t114 false (a0b tab a0r t117 t118)).bind fun t119=>(gd t114 false (a0a tab a0j 1 t119)).bind fun t120=>(gd t114 false (a0c tab p107.2 ty3 t120)).bind fun t121=>(gd t114 false (some (t7m:D))).bind fun t122=>(gd t114 false (some (nth 2 ds_3))).bind fun t123=>(gd t114 false (a0b tab a0r t122 t123)).bind fun t124=>(gd t114 false (a0a tab a0j 2 t124)).bind fun t125=>(gd t114 false (a0c tab p107.2 ty3 t125)).bind fun t126=>(gd t114 false (a0l tab .sub ty3 t121 t126)).bind fun t127=>(gd t114 false (a0l tab .lss ty3 t116 t127)).bind fun t128=>(a1s t114 (.bool true) t128).bind fun t129=>dIf t129
  (some (.ret,[.bool false,.bool true,t129],p107.2))
  (some (.nrm,[nth 0 ds_3,.bool true,t129],p107.2)))
  (some (.nrm,[nth 0 ds_3,nth 1 ds_3,nth 5 ds_3],p107.2))).bind fun r_7=>a0D (a0z 7 r_7.1) ((a0l tab .add ty3 (nth 2 ds_3) (.int .i64 1)).bind fun t96=>some (.nrm,[nth 0 r_7.2.1,nth 1 r_7.2.1,t96,t94,p107.1,nth 2 r_7.2.1],r_7.2.2)) fun x_3=>some (x_3,[nth 0 r_7.2.1,nth 1 r_7.2.1,nth 2 ds_3,t94,p107.1,nth 2 r_7.2.1],r_7.2.2))
  (some ((.ext 6),[nth 0 ds_3,nth 1 ds_3,nth 2 ds_3,t94,nth 4 ds_3,nth 5 ds_3],h_4))
noncomputable def a8M (t5m t7m t8m:D) (r_1 r_4:Out) (ds_2:List D) (h_3:Hp):Option Out :=
 (a0x tab a0u t8m).bind fun t80=>(a0l tab .lss ty3 (nth 1 ds_2) t80).bind fun t81=>dIf t81
  ((a0b tab a0u t8m (nth 1 ds_2)).bind fun t86=>(a0a tab a0h 1 t86).bind fun t87=>(a0c tab h_3 a1c t87).bind fun t88=>(a0b tab a1c t88 (.int .i64 0)).bind fun t89=>(a0c tab h_3 ty3 t89).bind fun t90=>((a0F (a8N t7m t8m ds_2 t90) [nth 0 ds_2,.bool false,.int .i64 0,nth 6 ds_2,nth 7 ds_2,nth 8 ds_2] h_3).bind fun r_6=>some ((a0z 6 r_6.1),[nth 0 r_6.2.1,nth 1 r_6.2.1,nth 2 r_6.2.1,nth 3 r_6.2.1,nth 4 r_6.2.1,nth 5 r_6.2.1],r_6.2.2)).bind fun r_8=>a0D r_8.1 ((dUn .not (nth 1 r_8.2.1)).bind fun t131=>(gd t131 true (some t90)).bind fun t133=>(gd t131 true (some (nth 0 r_4.2.1))).bind fun t134=>(gd t131 true (a0l tab .gtr ty3 t133 t134)).bind fun t135=>(gd t131 true (some t135)).bind fun t136=>(gd t136 false (some t90)).bind fun t137=>(gd t136 false (some (t5m:D))).bind fun t138=>(gd t136 false (a0l tab .mul ty3 t137 t138)).bind fun t139=>(gd t136 false (some (nth 0 r_1.2.1))).bind fun t140=>(gd t136 false (a0l tab .gtr ty3 t139 t140)).bind fun t141=>(gd t131 true (a1s t136 (.bool true) t141)).bind fun t142=>(a1s t131 t142 (.bool false)).bind fun t143=>dIf t143
  (some (.ret,[.bool false,nth 1 ds_2,t90,nth 1 r_8.2.1,nth 2 r_8.2.1,t81,nth 3 r_8.2.1,nth 4 r_8.2.1,nth 5 r_8.2.1,t143],r_8.2.2))
  ((a0l tab .add ty3 (nth 1 ds_2) (.int .i64 1)).bind fun t83=>some (.nrm,[nth 0 r_8.2.1,t83,t90,nth 1 r_8.2.1,nth 2 r_8.2.1,t81,nth 3 r_8.2.1,nth 4 r_8.2.1,nth 5 r_8.2.1,t143],r_8.2.2))) fun x_4=>a0D (a0z 5 x_4) ((a0l tab .add ty3 (nth 1 ds_2) (.int .i64 1)).bind fun t83_1=>some (.nrm,[nth 0 r_8.2.1,t83_1,t90,nth 1 r_8.2.1,nth 2 r_8.2.1,t81,nth 3 r_8.2.1,nth 4 r_8.2.1,nth 5 r_8.2.1,nth 9 ds_2],r_8.2.2)) fun x_5=>some (x_5,[nth 0 r_8.2.1,nth 1 ds_2,t90,nth 1 r_8.2.1,nth 2 r_8.2.1,t81,nth 3 r_8.2.1,nth 4 r_8.2.1,nth 5 r_8.2.1,nth 9 ds_2],r_8.2.2))
  (some ((.ext 4),[nth 0 ds_2,nth 1 ds_2,nth 2 ds_2,nth 3 ds_2,nth 4 ds_2,t81,nth 6 ds_2,nth 7 ds_2,nth 8 ds_2,nth 9 ds_2],h_3))
noncomputable def b8u (t0:D) (h:Hp):Option (D × Hp) :=
 (R1 a7a [] h).bind fun p17=>(dUn .not p17.1).bind fun t18=>dIf t18
  (some (a0i [.bool false],p17.2))
  ((R1 a7b [t0] p17.2).bind fun p21=>(a0B 0 p21.1).bind fun t22=>(a0B 1 p21.1).bind fun t23=>(a0B 2 p21.1).bind fun t24=>(a0B 3 p21.1).bind fun t25=>(R1 a9r [t24,t22,t23] p21.2).bind fun p29=>(R1 a7c [t22,t23] p29.2).bind fun p32=>((a0F (a8K t23) [.int .i64 0,.int .i64 0,.any] p32.2).bind fun r=>some ((a0z 0 r.1),[nth 0 r.2.1,nth 1 r.2.1,nth 2 r.2.1],r.2.2)).bind fun r_1=>a0D r_1.1 (((a0F (a8L p29.1) [.int .i64 0,.int .i64 0,.any,.any] r_1.2.2).bind fun r_2=>some ((a0z 2 r_2.1),[nth 0 r_2.2.1,nth 1 r_2.2.1,nth 2 r_2.2.1,nth 3 r_2.2.1],r_2.2.2)).bind fun r_4=>a0D r_4.1 ((R1 a7h [p29.1] r_4.2.2).bind fun p69=>(a0l tab .neq ty3 p69.1 (nth 0 r_1.2.1)).bind fun t71=>(gd t71 false (some p29.1)).bind fun t73=>(gd t71 false (a0x tab a0r t73)).bind fun t74=>(gd t71 false (some t24)).bind fun t75=>(gd t71 false (a0l tab .gtr ty3 t74 t75)).bind fun t76=>(a1s t71 (.bool true) t76).bind fun t77=>dIf t77
  (some (a0i [.bool false],p69.2))
  (((a0F (a8M t24 p29.1 p32.1 r_1 r_4) [.bool false,.int .i64 0,.any,.any,.any,.any,.any,.any,.any,.any] p69.2).bind fun r_5=>some ((a0z 4 r_5.1),[nth 0 r_5.2.1,nth 1 r_5.2.1,nth 2 r_5.2.1,nth 3 r_5.2.1,nth 4 r_5.2.1,nth 5 r_5.2.1,nth 6 r_5.2.1,nth 7 r_5.2.1,nth 8 r_5.2.1,nth 9 r_5.2.1],r_5.2.2)).bind fun r_9=>a0D r_9.1 (some (a0i [.bool true],r_9.2.2)) fun x_6=>a0N x_6 (some (a0i [nth 0 r_9.2.1],r_9.2.2)))) fun x_2=>a0N x_2 (some (a0i [.bool false],r_4.2.2))) fun x=>a0N x (some (a0i [.bool false],r_1.2.2)))
theorem c1A (t0:D) (h:Hp):R1 b1z [t0] h=b8u t0 h :=
 er1 i3 (by kernel_rfl) (by kernel_rfl)
noncomputable def a8D (t0 t1 t10m t11:D) (ds:List D) (h_1:Hp):Option Out :=
 (a0l tab .lss ty3 (nth 2 ds) t11).bind fun t13=>dIf t13
  ((a0b tab a3U t10m (nth 2 ds)).bind fun t14=>(a0c tab h_1 a0O t14).bind fun t15=>(a7L 10 t15).bind fun t9=>(a0c tab h_1 a0O t9).bind fun t19=>(R1 a9s [t1,t19] h_1).bind fun p20=>(a0a tab a0O 6 t9).bind fun t21=>(a0c tab p20.2 ty3 t21).bind fun t22=>(R1 a5q [nth 0 ds,t0,p20.1,t22] p20.2).bind fun p23=>chk (a0c tab h_1 ty3 t21=some t22)
 ((a0l tab .add ty3 (nth 2 ds) (.int .i64 1)).bind fun t24=>some (.nrm,[p23.1,t9,t24,t13],p23.2)))
  (some ((.ext 0),[nth 0 ds,nth 1 ds,nth 2 ds,t13],h_1))
noncomputable def b8i (t0 t1 t2:D) (h:Hp):Option (D × Hp) :=
 (a0x tab a3U t2).bind fun t11=>((a0F (a8D t0 t1 t2 t11) [.nils,.any,.int .i64 0,.any] h).bind fun r=>some ((a0z 0 r.1),[nth 0 r.2.1,nth 1 r.2.1,nth 2 r.2.1,nth 3 r.2.1],r.2.2)).bind fun r_1=>a0D r_1.1 (some (a0i [nth 0 r_1.2.1],r_1.2.2)) fun x=>a0N x (some (a0i [.nils],r_1.2.2))
theorem c1m (t0 t1 t2:D) (h:Hp):R1 a9r [t0,t1,t2] h=b8i t0 t1 t2 h :=
 er1 i6 (by kernel_rfl) (by kernel_rfl)
noncomputable def a8F (t3 t10m t11:D) (ds:List D) (h_1:Hp):Option Out :=
 (a0l tab .lss ty3 (nth 3 ds) t11).bind fun t13=>dIf t13
  ((a0b tab a0C t10m (nth 3 ds)).bind fun t14=>(a0c tab h_1 ty9 t14).bind fun t15=>(a0c tab h_1 a0O t3).bind fun t17=>(R1 a7k [t17,t15] h_1).bind fun p19=>(a0B 0 p19.1).bind fun t20=>(a0B 1 p19.1).bind fun t21=>(a0y tab a0C 1 [0] [t20]).bind fun t24=>(a0p tab p19.2 a0C a0C (nth 0 ds) t24).bind fun p25=>(a0l tab .add ty3 (nth 3 ds) (.int .i64 1)).bind fun t26=>some (.nrm,[p25.1,t15,t20,t26,t13],p25.2))
  (some ((.ext 0),[nth 0 ds,nth 1 ds,nth 2 ds,nth 3 ds,t13],h_1))
noncomputable def b8l (t0 t1:D) (h:Hp):Option (D × Hp) :=
 (a1J t1).bind fun t3=>(a0x tab a0C t0).bind fun t11=>((a0F (a8F t3 t0 t11) [.nils,.any,.any,.int .i64 0,.any] h).bind fun r=>some ((a0z 0 r.1),[nth 0 r.2.1,nth 1 r.2.1,nth 2 r.2.1,nth 3 r.2.1,nth 4 r.2.1],r.2.2)).bind fun r_1=>a0D r_1.1 (scope h r_1.2.2 (a0i [nth 0 r_1.2.1])) fun x=>a0N x (scope h r_1.2.2 (a0i [.nils]))
theorem c1r (t0 t1:D) (h:Hp):R1 a9s [t0,t1] h=b8l t0 t1 h :=
 er1 i16 (by kernel_rfl) (by kernel_rfl)
end Go.Proofs.YtehgglgadbmecaaDoor
