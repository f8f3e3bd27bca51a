/- Functions as Lean functions on data. -/
import Derived.Test.YtjmndhbabkjebaaDoorB2
set_option linter.unusedSimpArgs false
set_option linter.unusedVariables false
set_option linter.unnecessarySimpa false
set_option maxRecDepth 100000
namespace Go.Proofs.YtjmndhbabkjebaaDoor
open Go.Eng Go.Pi
noncomputable def a7P (t7m:D) (ds:List D) (h_1:Hp):Option Out :=
 (a0l tab .gtr ty3 (nth 4 ds) (.int .i64 0)).bind fun t33=>dIf t33
  ((R1 a6H [t7m] h_1).bind fun p37=>(a5x 3 p37.1).bind fun t12=>(a0d tab p37.2 a0m t12).bind fun t40=>(R1 a5g [nth 1 ds,t40] p37.2).bind fun p41=>(a0S 0 p41.1).bind fun t42=>(a0S 1 p41.1).bind fun t43=>(a0l tab .neq b0J t43 (.int .i64 0)).bind fun t45=>(gd t45 false (some t42)).bind fun t47=>(gd t45 false (a0y tab a0G t47)).bind fun t48=>(gd t45 false (some (nth 1 ds))).bind fun t49=>(gd t45 false (a0y tab a0G t49)).bind fun t50=>(gd t45 false (a0l tab .leq ty3 t48 t50)).bind fun t51=>(a0T t45 (.bool true) t51).bind fun t52=>dIf t52
  (some (.ret,[.bool false,nth 1 ds,nth 2 ds,nth 3 ds,nth 4 ds,t12,t42,t43,t33,t52],p41.2))
  ((a0d tab p41.2 a0m t12).bind fun t55=>(a0H tab a4c 1 [0] [t55]).bind fun t56=>(a0A tab p41.2 a4c a4c (nth 2 ds) t56).bind fun p57=>(a0y tab a0G t42).bind fun t60=>(a0H tab a4d 1 [0] [t60]).bind fun t61=>(a0A tab p57.2 a4d a4d (nth 3 ds) t61).bind fun p62=>(a0l tab .sub ty3 (nth 4 ds) (.int .i64 1)).bind fun t35=>some (.nrm,[nth 0 ds,t42,p57.1,p62.1,t35,t12,t42,t43,t33,t52],p62.2)))
  (some ((.ext 0),[nth 0 ds,nth 1 ds,nth 2 ds,nth 3 ds,nth 4 ds,nth 5 ds,nth 6 ds,nth 7 ds,t33,nth 9 ds],h_1))
noncomputable def b0T (r_1:Out) (t15m t70:D) (ds_1:List D) (h_2:Hp):Option Out :=
 (a0l tab .lss ty3 (nth 2 ds_1) t70).bind fun t72=>dIf t72
  ((a0b tab a4d (nth 3 r_1.2.1) (nth 2 ds_1)).bind fun t76=>(a0d tab h_2 ty3 t76).bind fun t77=>(a0l tab .leq ty3 t77 t15m).bind fun t79=>(dIf t79
  (some (.nrm,[nth 2 ds_1],h_2))
  (some (.nrm,[nth 0 ds_1],h_2))).bind fun r_3=>a0R (a0Q 3 r_3.1) ((a0l tab .add ty3 (nth 2 ds_1) (.int .i64 1)).bind fun t81=>some (.nrm,[nth 0 r_3.2.1,nth 2 ds_1,t81,t72,t79],r_3.2.2)) fun x_1=>some (x_1,[nth 0 r_3.2.1,nth 2 ds_1,nth 2 ds_1,t72,t79],r_3.2.2))
  (some ((.ext 2),[nth 0 ds_1,nth 1 ds_1,nth 2 ds_1,t72,nth 4 ds_1],h_2))
noncomputable def c1U (t0 t1 t2:D) (h:Hp):Option (D × Hp) :=
 (R1 b4I [] h).bind fun p22=>(dUn .not p22.1).bind fun t23=>dIf t23
  (scope h p22.2 (a0i [.bool false]))
  ((R1 c1g [t0,.int .i64 240] p22.2).bind fun p25=>(a0D tab a0m [] []).bind fun t26=>(a0H tab a4c 1 [0] [t26]).bind fun t27=>(a0H tab a4d 1 [0] [.int .i64 0]).bind fun t28=>(R1 a5B [p25.1,.int .i64 4] p25.2).bind fun p30=>(a0l tab .add ty3 (.int .i64 1) p30.1).bind fun t31=>((a0K (a7P p25.1) [.bool false,.nils,t27,t28,t31,.any,.any,.any,.any,.any] p30.2).bind fun r=>some ((a0Q 0 r.1),[nth 0 r.2.1,nth 1 r.2.1,nth 2 r.2.1,nth 3 r.2.1,nth 4 r.2.1,nth 5 r.2.1,nth 6 r.2.1,nth 7 r.2.1,nth 8 r.2.1,nth 9 r.2.1],r.2.2)).bind fun r_1=>a0R r_1.1 ((a1O tab b8X ty3 t1).bind fun t64=>(a0y tab a0G (nth 1 r_1.2.1)).bind fun t66=>(a0l tab .add ty3 t66 (.int .i64 1)).bind fun t67=>(a0l tab .rem ty3 t64 t67).bind fun t68=>(a0y tab a4d (nth 3 r_1.2.1)).bind fun t70=>((a0K (b0T r_1 t68 t70) [.int .i64 0,.any,.int .i64 0,.any,.any] r_1.2.2).bind fun r_2=>some ((a0Q 2 r_2.1),[nth 0 r_2.2.1,nth 1 r_2.2.1,nth 2 r_2.2.1,nth 3 r_2.2.1,nth 4 r_2.2.1],r_2.2.2)).bind fun r_4=>a0R r_4.1 ((a0w tab a0G false true false [nth 1 r_1.2.1,t68]).bind fun t85=>(R1 a5M [t85] r_4.2.2).bind fun p86=>(a0S 0 p86.1).bind fun t87=>(a0S 1 p86.1).bind fun t88=>(a5x 3 t87).bind fun t18=>(a0b tab a4d (nth 3 r_1.2.1) (nth 0 r_4.2.1)).bind fun t92=>(a0d tab p86.2 ty3 t92).bind fun t93=>(a0l tab .neq ty3 t88 t93).bind fun t94=>(gd t94 false (a0d tab p86.2 a0m t18)).bind fun t96=>(gd t94 false (some (nth 2 r_1.2.1))).bind fun t97=>(gd t94 false (some (nth 0 r_4.2.1))).bind fun t98=>(gd t94 false (a0b tab a4c t97 t98)).bind fun t99=>(gd t94 false (a0d tab p86.2 a0m t99)).bind fun t100=>(gdW t94 false p86.2 (R1 a7s [t96,t100] p86.2)).bind fun p101=>(gd t94 false (dUn .not p101.1)).bind fun t102=>(a0T t94 (.bool true) t102).bind fun t103=>dIf t103
  (scope h p101.2 (a0i [.bool false]))
  ((a0w tab a0G false true false [nth 1 r_1.2.1,t68]).bind fun t107=>(a1O tab ty5 ty3 t2).bind fun t109=>(a0l tab .rem ty3 t109 (.int .i64 4)).bind fun t110=>(a0l tab .add ty3 (.int .i64 1) t110).bind fun t111=>(R1 b1K [t107,t111] p101.2).bind fun p112=>(R1 a5M [p112.1] p112.2).bind fun p113=>(a0S 0 p113.1).bind fun t114=>(a0S 1 p113.1).bind fun t115=>(a5x 3 t114).bind fun t20=>(a0d tab p113.2 a0m t20).bind fun t116=>(a0d tab p113.2 a0m t18).bind fun t117=>(R1 a7s [t116,t117] p113.2).bind fun p118=>scope h p118.2 (a0i [p118.1]))) fun x_2=>a1b x_2 (scope h r_4.2.2 (a0i [nth 0 r_1.2.1]))) fun x=>a1b x (scope h r_1.2.2 (a0i [nth 0 r_1.2.1])))
theorem c5I (t0 t1 t2:D) (h:Hp):R1 b1J [t0,t1,t2] h=c1U t0 t1 t2 h :=
 er1 i3 (by kernel_rfl) (by kernel_rfl)
noncomputable def c1V (h:Hp):Option (D × Hp) :=
 (a0D tab a0m [0] [.int .i64 1]).bind fun t7=>(R1 a5g [.nils,t7] h).bind fun p8=>(a0S 0 p8.1).bind fun t9=>(a0S 1 p8.1).bind fun t10=>(a0D tab a1f [0,1] [.int .i64 3,.int .i64 4]).bind fun t13=>(a0H tab a0N 1 [0] [t13]).bind fun t14=>(a0D tab a0m [0,1] [.int .i64 2,t14]).bind fun t15=>(R1 a5g [t9,t15] p8.2).bind fun p16=>(a0S 0 p16.1).bind fun t17=>(a0S 1 p16.1).bind fun t18=>(R1 a5M [t17] p16.2).bind fun p21=>(a0S 0 p21.1).bind fun t22=>(a0S 1 p21.1).bind fun t23=>(a5x 3 t22).bind fun t4=>(a0l tab .eql b0J t10 (.int .i64 0)).bind fun t25=>(gd t25 true (some t18)).bind fun t27=>(gd t25 true (a0l tab .eql b0J t27 (.int .i64 0))).bind fun t28=>(a0T t25 t28 (.bool false)).bind fun t29=>(gd t29 true (some t23)).bind fun t31=>(gd t29 true (some t17)).bind fun t32=>(gd t29 true (a0y tab a0G t32)).bind fun t33=>(gd t29 true (a0l tab .eql ty3 t31 t33)).bind fun t34=>(a0T t29 t34 (.bool false)).bind fun t35=>(gd t35 true (a0a tab a0m 0 t4)).bind fun t37=>(gd t35 true (a0d tab p21.2 ty3 t37)).bind fun t38=>(gd t35 true (a0l tab .eql ty3 t38 (.int .i64 2))).bind fun t39=>(a0T t35 t39 (.bool false)).bind fun t40=>(gd t40 true (a0a tab a0m 1 t4)).bind fun t42=>(gd t40 true (a0d tab p21.2 a0N t42)).bind fun t43=>(gd t40 true (a0y tab a0N t43)).bind fun t44=>(gd t40 true (a0l tab .eql ty3 t44 (.int .i64 1))).bind fun t45=>(a0T t40 t45 (.bool false)).bind fun t46=>some (a0i [t46],p21.2)
theorem c5J (h:Hp):R1 b4I [] h=c1V h :=
 er1 i4 (by kernel_rfl) (by kernel_rfl)
noncomputable def c1Z (t0 t1:D) (h:Hp):Option (D × Hp) :=
 (R1 a7t [t0] h).bind fun p9=>(a0l tab .lss ty3 t1 (.int .i64 1)).bind fun t11=>(gd t11 false (some p9.1)).bind fun t13=>(gd t11 false (a0y tab a4d t13)).bind fun t14=>(gd t11 false (a0l tab .eql ty3 t14 (.int .i64 0))).bind fun t15=>(a0T t11 (.bool true) t15).bind fun t16=>dIf t16
  (scope h p9.2 (a0i [.nils]))
  ((a0y tab a4d p9.1).bind fun t18=>(a0l tab .lss ty3 t1 t18).bind fun t21=>(dIf t21
  ((a0l tab .sub ty3 t18 t1).bind fun t25=>(a0l tab .sub ty3 t25 (.int .i64 1)).bind fun t26=>(a0b tab a4d p9.1 t26).bind fun t27=>(a0d tab p9.2 ty3 t27).bind fun t28=>some (.nrm,[t28],p9.2))
  (some (.nrm,[.int .i64 0],p9.2))).bind fun r=>a0R r.1 ((a0y tab a4d p9.1).bind fun t33=>(a0l tab .sub ty3 t33 (.int .i64 1)).bind fun t34=>(a0b tab a4d p9.1 t34).bind fun t35=>(a0d tab r.2.2 ty3 t35).bind fun t36=>(a0w tab a0G true true false [t0,nth 0 r.2.1,t36]).bind fun t37=>(a0A tab r.2.2 a0G a0G (.nils) t37).bind fun p38=>scope h p38.2 (a0i [p38.1])) fun x=>a1b x (scope h r.2.2 (a0i [.nils])))
theorem c5N (t0 t1:D) (h:Hp):R1 b1K [t0,t1] h=c1Z t0 t1 h :=
 er1 i11 (by kernel_rfl) (by kernel_rfl)
end Go.Proofs.YtjmndhbabkjebaaDoor
