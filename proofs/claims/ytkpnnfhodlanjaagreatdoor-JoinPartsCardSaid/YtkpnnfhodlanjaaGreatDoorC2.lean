/- Functions as Lean functions on data. -/
import Derived.Test.YtkpnnfhodlanjaaGreatDoorC1
set_option linter.unusedSimpArgs false
set_option linter.unusedVariables false
set_option linter.unnecessarySimpa false
set_option maxRecDepth 100000
namespace Go.Proofs.YtkpnnfhodlanjaaGreatDoor
open Go.Eng Go.Pi
noncomputable def a8W (t0 t3 t8m t10m:D) (ds:List D) (h_1:Hp):Option Out :=
 (a0f tab .geq ty3 (nth 0 ds) (.int .i64 0)).bind fun t21=>dIf t21
  ((R a9J [t0,nth 0 ds,t10m,t8m,t3] h_1).bind fun p29=>(a0f tab .sub ty3 (nth 0 ds) (.int .i64 1)).bind fun t23=>some (.nrm,[t23,t21],p29.2))
  (some ((.ext 0),[nth 0 ds,t21],h_1))
noncomputable def a8X (t0 t3 t8m t9m:D) (ds_1:List D) (h_2:Hp):Option Out :=
 (a0f tab .geq ty3 (nth 0 ds_1) (.int .i64 0)).bind fun t33=>dIf t33
  ((a0f tab .add ty3 t8m (nth 0 ds_1)).bind fun t41=>(a0f tab .add ty3 t8m (nth 0 ds_1)).bind fun t45=>(a0a tab a0u t0 t45).bind fun t46=>(a0c tab h_2 a0h t46).bind fun t47=>(a0a tab a0u t0 t8m).bind fun t50=>(a0c tab h_2 a0h t50).bind fun t51=>(a0a tab a0u t0 t8m).bind fun t52=>((a0p tab h_2 a0h t52 t47).bind fun h'=>some ((.und:D),h')).bind fun p917=>(a0a tab a0u t0 t41).bind fun t53=>((a0p tab p917.2 a0h t53 t51).bind fun h'=>some ((.und:D),h')).bind fun p919=>(R a9J [t0,t9m,nth 0 ds_1,t8m,t3] p919.2).bind fun p59=>(a0f tab .sub ty3 (nth 0 ds_1) (.int .i64 1)).bind fun t35=>some (.nrm,[t35,t33],p59.2))
  (some ((.ext 2),[nth 0 ds_1,t33],h_2))
noncomputable def b8B (t0 t1 t2 t3:D) (h:Hp):Option (D × Hp) :=
 (a0f tab .sub ty3 t2 t1).bind fun t16=>(a0f tab .sub ty3 t16 (.int .i64 1)).bind fun t18=>(a0f tab .quo ty3 t18 (.int .i64 2)).bind fun t19=>((a0z (a8W t0 t3 t1 t16) [t19,.any] h).bind fun r=>some ((a0w 0 r.1),[nth 0 r.2.1,nth 1 r.2.1],r.2.2)).bind fun r_1=>a0y r_1.1 ((a0f tab .sub ty3 t16 (.int .i64 1)).bind fun t31=>((a0z (a8X t0 t3 t1 (.int .i64 0)) [t31,.any] r_1.2.2).bind fun r_2=>some ((a0w 2 r_2.1),[nth 0 r_2.2.1,nth 1 r_2.2.1],r_2.2.2)).bind fun r_3=>a0M r_3.1 (some (a0m [],r_3.2.2))) fun x=>a0M x (some (a0m [],r_1.2.2))
theorem c2K (t0 t1 t2 t3:D) (h:Hp):R b1J [t0,t1,t2,t3] h=b8B t0 t1 t2 t3 h :=
 er i80 (by kernel_rfl) (by kernel_rfl)
noncomputable def a8Y (t0 t1 t8m:D) (p9:D × Hp) (t10m:D) (ds:List D) (h_1:Hp):Option Out :=
 (a0f tab .quo ty3 t8m (.int .i64 4)).bind fun t31=>(a0f tab .mul ty3 t31 (.int .i64 2)).bind fun t32=>(a0f tab .add ty3 t1 t32).bind fun t33=>(a0f tab .add ty3 t33 (.int .i64 1)).bind fun t34=>(a0f tab .leq ty3 (nth 0 ds) t34).bind fun t35=>dIf t35
  ((R a9H [p9.1] h_1).bind fun p38=>(a0f tab .sub a4i t10m (.int .u64 1)).bind fun t40=>(a0f tab .and a4i p38.1 t40).bind fun t41=>(a2e tab a4i ty3 t41).bind fun t42=>(a0f tab .geq ty3 t42 t8m).bind fun t45=>(dIf t45
  ((a0f tab .sub ty3 t42 t8m).bind fun t48=>some (.nrm,[t48],p38.2))
  (some (.nrm,[t42],p38.2))).bind fun r_1=>a0y r_1.1 ((a0f tab .add ty3 t1 (nth 0 r_1.2.1)).bind fun t54=>(a0f tab .add ty3 t1 (nth 0 r_1.2.1)).bind fun t58=>(a0a tab a0u t0 t58).bind fun t59=>(a0c tab r_1.2.2 a0h t59).bind fun t60=>(a0a tab a0u t0 (nth 0 ds)).bind fun t63=>(a0c tab r_1.2.2 a0h t63).bind fun t64=>(a0a tab a0u t0 (nth 0 ds)).bind fun t65=>((a0p tab r_1.2.2 a0h t65 t60).bind fun h'=>some ((.und:D),h')).bind fun p917=>(a0a tab a0u t0 t54).bind fun t66=>((a0p tab p917.2 a0h t66 t64).bind fun h'=>some ((.und:D),h')).bind fun p919=>(a0f tab .add ty3 (nth 0 ds) (.int .i64 1)).bind fun t37=>some (.nrm,[t37,nth 0 r_1.2.1,t35,t45],p919.2)) fun x=>a0y (a0w 1 x) ((a0f tab .add ty3 (nth 0 ds) (.int .i64 1)).bind fun t37_1=>some (.nrm,[t37_1,nth 0 r_1.2.1,t35,t45],r_1.2.2)) fun x_1=>some (x_1,[nth 0 ds,nth 0 r_1.2.1,t35,t45],r_1.2.2))
  (some ((.ext 0),[nth 0 ds,nth 1 ds,t35,nth 3 ds],h_1))
noncomputable def b8C (t0 t1 t2 t3:D) (h:Hp):Option (D × Hp) :=
 (a0f tab .sub ty3 t2 t1).bind fun t15=>(a0f tab .geq ty3 t15 (.int .i64 8)).bind fun t17=>(dIf t17
  ((a2e tab ty3 a0T t15).bind fun t19=>(some ((.ptr h.length 0 0:D),a1h h a0T 1 [[.int .u64 0]])).bind fun p9=>((a0p tab p9.2 a0T p9.1 t19).bind fun h'=>some ((.und:D),h')).bind fun p903=>(R a9G [t15] p903.2).bind fun p21=>(a0f tab .quo ty3 t15 (.int .i64 4)).bind fun t24=>(a0f tab .mul ty3 t24 (.int .i64 2)).bind fun t25=>(a0f tab .add ty3 t1 t25).bind fun t26=>(a0f tab .sub ty3 t26 (.int .i64 1)).bind fun t27=>((a0z (a8Y t0 t1 t15 p9 p21.1) [t27,.any,.any,.any] p21.2).bind fun r=>some ((a0w 0 r.1),[nth 0 r.2.1,nth 1 r.2.1,nth 2 r.2.1,nth 3 r.2.1],r.2.2)).bind fun r_2=>some (r_2.1,[p9.1,p21.1,nth 0 r_2.2.1,nth 1 r_2.2.1,nth 2 r_2.2.1,nth 3 r_2.2.1],r_2.2.2))
  (some (.nrm,[.any,.any,.any,.any,.any,.any],h))).bind fun r_3=>a0M r_3.1 (scope h r_3.2.2 (a0m []))
theorem c2L (t0 t1 t2 t3:D) (h:Hp):R b1K [t0,t1,t2,t3] h=b8C t0 t1 t2 t3 h :=
 er i81 (by kernel_rfl) (by kernel_rfl)
noncomputable def b8D (t0 t1 t2 t3:D) (h:Hp):Option (D × Hp) :=
 (a0f tab .sub ty3 t2 t1).bind fun t17=>(some ((.ptr h.length 0 0:D),a1h h ty3 1 [[.int .i64 0]])).bind fun p11=>(a0f tab .quo ty3 t17 (.int .i64 4)).bind fun t20=>(a0f tab .mul ty3 t20 (.int .i64 1)).bind fun t21=>(a0f tab .add ty3 t1 t21).bind fun t22=>(a0f tab .quo ty3 t17 (.int .i64 4)).bind fun t25=>(a0f tab .mul ty3 t25 (.int .i64 2)).bind fun t26=>(a0f tab .add ty3 t1 t26).bind fun t27=>(a0f tab .quo ty3 t17 (.int .i64 4)).bind fun t30=>(a0f tab .mul ty3 t30 (.int .i64 3)).bind fun t31=>(a0f tab .add ty3 t1 t31).bind fun t32=>(a0f tab .geq ty3 t17 (.int .i64 8)).bind fun t34=>(dIf t34
  ((a0f tab .geq ty3 t17 (.int .i64 50)).bind fun t36=>(dIf t36
  ((R a7E [t0,t22,p11.1,t3] p11.2).bind fun p40=>(R a7E [t0,t27,p11.1,t3] p40.2).bind fun p44=>(R a7E [t0,t32,p11.1,t3] p44.2).bind fun p48=>some (.nrm,[p40.1,p44.1,p48.1],p48.2))
  (some (.nrm,[t22,t27,t32],p11.2))).bind fun r=>a0y r.1 ((R a9K [t0,nth 0 r.2.1,nth 1 r.2.1,nth 2 r.2.1,p11.1,t3] r.2.2).bind fun p54=>some (.nrm,[nth 0 r.2.1,p54.1,nth 2 r.2.1,t36],p54.2)) fun x=>some (x,[nth 0 r.2.1,nth 1 r.2.1,nth 2 r.2.1,t36],r.2.2))
  (some (.nrm,[t22,t27,t32,.any],p11.2))).bind fun r_1=>a0y r_1.1 ((a0c tab r_1.2.2 ty3 p11.1).bind fun t55=>(a0f tab .eql ty3 t55 (.int .i64 0)).bind fun t58=>dIf t58
  (scope h r_1.2.2 (a0m [nth 1 r_1.2.1,.int .i64 1]))
  ((a0f tab .eql ty3 t55 (.int .i64 12)).bind fun t61=>dIf t61
  (scope h r_1.2.2 (a0m [nth 1 r_1.2.1,.int .i64 2]))
  (scope h r_1.2.2 (a0m [nth 1 r_1.2.1,.int .i64 0])))) fun x_1=>a0M x_1 (scope h r_1.2.2 (a0m [.int .i64 0,.int .i64 0]))
theorem c2M (t0 t1 t2 t3:D) (h:Hp):R a9E [t0,t1,t2,t3] h=b8D t0 t1 t2 t3 h :=
 er i82 (by kernel_rfl) (by kernel_rfl)
noncomputable def a8Z (t0:D) (ds:List D) (h_1:Hp):Option Out :=
 (a0f tab .lss ty3 (nth 0 ds) (nth 1 ds)).bind fun t15=>dIf t15
  ((a0a tab a0u t0 (nth 1 ds)).bind fun t22=>(a0c tab h_1 a0h t22).bind fun t23=>(a0a tab a0u t0 (nth 0 ds)).bind fun t26=>(a0c tab h_1 a0h t26).bind fun t27=>(a0a tab a0u t0 (nth 0 ds)).bind fun t28=>((a0p tab h_1 a0h t28 t23).bind fun h'=>some ((.und:D),h')).bind fun p913=>(a0a tab a0u t0 (nth 1 ds)).bind fun t29=>((a0p tab p913.2 a0h t29 t27).bind fun h'=>some ((.und:D),h')).bind fun p915=>(a0f tab .add ty3 (nth 0 ds) (.int .i64 1)).bind fun t31=>(a0f tab .sub ty3 (nth 1 ds) (.int .i64 1)).bind fun t33=>some (.nrm,[t31,t33,t15],p915.2))
  (some ((.ext 0),[nth 0 ds,nth 1 ds,t15],h_1))
noncomputable def b8E (t0 t1 t2 t3:D) (h:Hp):Option (D × Hp) :=
 (a0f tab .sub ty3 t2 (.int .i64 1)).bind fun t12=>((a0z (a8Z t0) [t1,t12,.any] h).bind fun r=>some ((a0w 0 r.1),[nth 0 r.2.1,nth 1 r.2.1,nth 2 r.2.1],r.2.2)).bind fun r_1=>a0M r_1.1 (some (a0m [],r_1.2.2))
theorem c2N (t0 t1 t2 t3:D) (h:Hp):R b1L [t0,t1,t2,t3] h=b8E t0 t1 t2 t3 h :=
 er i83 (by kernel_rfl) (by kernel_rfl)
noncomputable def a6m (t0 t2 t3:D) (ds_1:List D) (h_2:Hp):Option Out :=
 (a0f tab .lss ty3 (nth 0 ds_1) t2).bind fun t21=>(gd t21 true (some t3)).bind fun t23=>(gd t21 true (some t0)).bind fun t24=>(gd t21 true (some (nth 0 ds_1))).bind fun t25=>(gd t21 true (a0a tab a0u t24 t25)).bind fun t26=>(gd t21 true (a0c tab h_2 a0h t26)).bind fun t27=>(gd t21 true (some t0)).bind fun t28=>(gd t21 true (some (nth 0 ds_1))).bind fun t29=>(gd t21 true (a0f tab .sub ty3 t29 (.int .i64 1))).bind fun t30=>(gd t21 true (a0a tab a0u t28 t30)).bind fun t31=>(gd t21 true (a0c tab h_2 a0h t31)).bind fun t32=>(gdW t21 true h_2 (a1B R t23 [t27,t32] h_2)).bind fun p33=>(gd t21 true (a0f tab .lss ty3 p33.1 (.int .i64 0))).bind fun t34=>(gd t21 true (dUn .not t34)).bind fun t35=>(a0K t21 t35 (.bool false)).bind fun t36=>dIf t36
  ((a0f tab .add ty3 (nth 0 ds_1) (.int .i64 1)).bind fun t38=>some (.nrm,[t38,t36],p33.2))
  (some ((.ext 2),[nth 0 ds_1,t36],p33.2))
noncomputable def a6n (t0 t3:D) (ds_2:List D) (h_3:Hp):Option Out :=
 (a0f tab .geq ty3 (nth 0 ds_2) (.int .i64 1)).bind fun t69=>dIf t69
  ((a0a tab a0u t0 (nth 0 ds_2)).bind fun t75=>(a0c tab h_3 a0h t75).bind fun t76=>(a0f tab .sub ty3 (nth 0 ds_2) (.int .i64 1)).bind fun t79=>(a0a tab a0u t0 t79).bind fun t80=>(a0c tab h_3 a0h t80).bind fun t81=>(a1B R t3 [t76,t81] h_3).bind fun p82=>(a0f tab .lss ty3 p82.1 (.int .i64 0)).bind fun t83=>(dUn .not t83).bind fun t84=>dIf t84
  (some ((.ext 4),[nth 0 ds_2,t69,t84],p82.2))
  ((a0f tab .sub ty3 (nth 0 ds_2) (.int .i64 1)).bind fun t89=>(a0f tab .sub ty3 (nth 0 ds_2) (.int .i64 1)).bind fun t92=>(a0a tab a0u t0 t92).bind fun t93=>(a0c tab p82.2 a0h t93).bind fun t94=>(a0a tab a0u t0 (nth 0 ds_2)).bind fun t97=>(a0c tab p82.2 a0h t97).bind fun t98=>(a0a tab a0u t0 (nth 0 ds_2)).bind fun t99=>((a0p tab p82.2 a0h t99 t94).bind fun h'=>some ((.und:D),h')).bind fun p915_1=>(a0a tab a0u t0 t89).bind fun t100=>((a0p tab p915_1.2 a0h t100 t98).bind fun h'=>some ((.und:D),h')).bind fun p917_1=>(a0f tab .sub ty3 (nth 0 ds_2) (.int .i64 1)).bind fun t71=>some (.nrm,[t71,t69,t84],p917_1.2)))
  (some ((.ext 4),[nth 0 ds_2,t69,nth 2 ds_2],h_3))
noncomputable def a6o (t0 t2 t3:D) (ds_3:List D) (h_4:Hp):Option Out :=
 (a0f tab .lss ty3 (nth 0 ds_3) t2).bind fun t109=>dIf t109
  ((a0a tab a0u t0 (nth 0 ds_3)).bind fun t115=>(a0c tab h_4 a0h t115).bind fun t116=>(a0f tab .sub ty3 (nth 0 ds_3) (.int .i64 1)).bind fun t119=>(a0a tab a0u t0 t119).bind fun t120=>(a0c tab h_4 a0h t120).bind fun t121=>(a1B R t3 [t116,t121] h_4).bind fun p122=>(a0f tab .lss ty3 p122.1 (.int .i64 0)).bind fun t123=>(dUn .not t123).bind fun t124=>dIf t124
  (some ((.ext 6),[nth 0 ds_3,t109,t124],p122.2))
  ((a0f tab .sub ty3 (nth 0 ds_3) (.int .i64 1)).bind fun t129=>(a0f tab .sub ty3 (nth 0 ds_3) (.int .i64 1)).bind fun t132=>(a0a tab a0u t0 t132).bind fun t133=>(a0c tab p122.2 a0h t133).bind fun t134=>(a0a tab a0u t0 (nth 0 ds_3)).bind fun t137=>(a0c tab p122.2 a0h t137).bind fun t138=>(a0a tab a0u t0 (nth 0 ds_3)).bind fun t139=>((a0p tab p122.2 a0h t139 t134).bind fun h'=>some ((.und:D),h')).bind fun p915_2=>(a0a tab a0u t0 t129).bind fun t140=>((a0p tab p915_2.2 a0h t140 t138).bind fun h'=>some ((.und:D),h')).bind fun p917_2=>(a0f tab .add ty3 (nth 0 ds_3) (.int .i64 1)).bind fun t111=>some (.nrm,[t111,t109,t124],p917_2.2)))
  (some ((.ext 6),[nth 0 ds_3,t109,nth 2 ds_3],h_4))
noncomputable def a9a (t0 t1 t2 t3:D) (ds:List D) (h_1:Hp):Option Out :=
 (a0f tab .lss ty3 (nth 2 ds) (.int .i64 5)).bind fun t16=>dIf t16
  (((a0z (a6m t0 t2 t3) [nth 1 ds,nth 6 ds] h_1).bind fun r_1=>some ((a0w 2 r_1.1),[nth 0 r_1.2.1,nth 1 r_1.2.1],r_1.2.2)).bind fun r_2=>a0y r_2.1 ((a0f tab .eql ty3 (nth 0 r_2.2.1) t2).bind fun t41=>dIf t41
  (some (.ret,[.bool true,nth 0 r_2.2.1,nth 2 ds,nth 3 ds,nth 4 ds,t16,nth 1 r_2.2.1,t41,nth 8 ds,nth 9 ds,nth 10 ds,nth 11 ds,nth 12 ds,nth 13 ds,nth 14 ds],r_2.2.2))
  ((a0f tab .sub ty3 t2 t1).bind fun t44=>(a0f tab .lss ty3 t44 (.int .i64 50)).bind fun t45=>dIf t45
  (some (.ret,[.bool false,nth 0 r_2.2.1,nth 2 ds,nth 3 ds,nth 4 ds,t16,nth 1 r_2.2.1,t41,t45,nth 9 ds,nth 10 ds,nth 11 ds,nth 12 ds,nth 13 ds,nth 14 ds],r_2.2.2))
  ((a0f tab .sub ty3 (nth 0 r_2.2.1) (.int .i64 1)).bind fun t50=>(a0f tab .sub ty3 (nth 0 r_2.2.1) (.int .i64 1)).bind fun t53=>(a0a tab a0u t0 t53).bind fun t54=>(a0c tab r_2.2.2 a0h t54).bind fun t55=>(a0a tab a0u t0 (nth 0 r_2.2.1)).bind fun t58=>(a0c tab r_2.2.2 a0h t58).bind fun t59=>(a0a tab a0u t0 (nth 0 r_2.2.1)).bind fun t60=>((a0p tab r_2.2.2 a0h t60 t55).bind fun h'=>some ((.und:D),h')).bind fun p915=>(a0a tab a0u t0 t50).bind fun t61=>((a0p tab p915.2 a0h t61 t59).bind fun h'=>some ((.und:D),h')).bind fun p917=>(a0f tab .sub ty3 (nth 0 r_2.2.1) t1).bind fun t64=>(a0f tab .geq ty3 t64 (.int .i64 2)).bind fun t65=>(dIf t65
  ((a0f tab .sub ty3 (nth 0 r_2.2.1) (.int .i64 1)).bind fun t67=>((a0z (a6n t0 t3) [t67,nth 10 ds,nth 11 ds] p917.2).bind fun r_3=>some ((a0w 4 r_3.1),[nth 0 r_3.2.1,nth 1 r_3.2.1,nth 2 r_3.2.1],r_3.2.2)).bind fun r_4=>some (r_4.1,[nth 0 r_4.2.1,nth 1 r_4.2.1,nth 2 r_4.2.1],r_4.2.2))
  (some (.nrm,[nth 3 ds,nth 10 ds,nth 11 ds],p917.2))).bind fun r_5=>a0y r_5.1 ((a0f tab .sub ty3 t2 (nth 0 r_2.2.1)).bind fun t103=>(a0f tab .geq ty3 t103 (.int .i64 2)).bind fun t104=>(dIf t104
  ((a0f tab .add ty3 (nth 0 r_2.2.1) (.int .i64 1)).bind fun t106=>((a0z (a6o t0 t2 t3) [t106,nth 13 ds,nth 14 ds] r_5.2.2).bind fun r_6=>some ((a0w 6 r_6.1),[nth 0 r_6.2.1,nth 1 r_6.2.1,nth 2 r_6.2.1],r_6.2.2)).bind fun r_7=>some (r_7.1,[nth 0 r_7.2.1,nth 1 r_7.2.1,nth 2 r_7.2.1],r_7.2.2))
  (some (.nrm,[nth 4 ds,nth 13 ds,nth 14 ds],r_5.2.2))).bind fun r_8=>a0y (a0w 1 r_8.1) ((a0f tab .add ty3 (nth 2 ds) (.int .i64 1)).bind fun t18=>some (.nrm,[nth 0 ds,nth 0 r_2.2.1,t18,nth 0 r_5.2.1,nth 0 r_8.2.1,t16,nth 1 r_2.2.1,t41,t45,t65,nth 1 r_5.2.1,nth 2 r_5.2.1,t104,nth 1 r_8.2.1,nth 2 r_8.2.1],r_8.2.2)) fun x_2=>some (x_2,[nth 0 ds,nth 0 r_2.2.1,nth 2 ds,nth 0 r_5.2.1,nth 0 r_8.2.1,t16,nth 1 r_2.2.1,t41,t45,t65,nth 1 r_5.2.1,nth 2 r_5.2.1,t104,nth 1 r_8.2.1,nth 2 r_8.2.1],r_8.2.2)) fun x_1=>a0y (a0w 1 x_1) ((a0f tab .add ty3 (nth 2 ds) (.int .i64 1)).bind fun t18_1=>some (.nrm,[nth 0 ds,nth 0 r_2.2.1,t18_1,nth 0 r_5.2.1,nth 4 ds,t16,nth 1 r_2.2.1,t41,t45,t65,nth 1 r_5.2.1,nth 2 r_5.2.1,nth 12 ds,nth 13 ds,nth 14 ds],r_5.2.2)) fun x_3=>some (x_3,[nth 0 ds,nth 0 r_2.2.1,nth 2 ds,nth 0 r_5.2.1,nth 4 ds,t16,nth 1 r_2.2.1,t41,t45,t65,nth 1 r_5.2.1,nth 2 r_5.2.1,nth 12 ds,nth 13 ds,nth 14 ds],r_5.2.2)))) fun x=>a0y (a0w 1 x) ((a0f tab .add ty3 (nth 2 ds) (.int .i64 1)).bind fun t18_2=>some (.nrm,[nth 0 ds,nth 0 r_2.2.1,t18_2,nth 3 ds,nth 4 ds,t16,nth 1 r_2.2.1,nth 7 ds,nth 8 ds,nth 9 ds,nth 10 ds,nth 11 ds,nth 12 ds,nth 13 ds,nth 14 ds],r_2.2.2)) fun x_4=>some (x_4,[nth 0 ds,nth 0 r_2.2.1,nth 2 ds,nth 3 ds,nth 4 ds,t16,nth 1 r_2.2.1,nth 7 ds,nth 8 ds,nth 9 ds,nth 10 ds,nth 11 ds,nth 12 ds,nth 13 ds,nth 14 ds],r_2.2.2))
  (some ((.ext 0),[nth 0 ds,nth 1 ds,nth 2 ds,nth 3 ds,nth 4 ds,t16,nth 6 ds,nth 7 ds,nth 8 ds,nth 9 ds,nth 10 ds,nth 11 ds,nth 12 ds,nth 13 ds,nth 14 ds],h_1))
noncomputable def b8F (t0 t1 t2 t3:D) (h:Hp):Option (D × Hp) :=
 (a0f tab .add ty3 t1 (.int .i64 1)).bind fun t14=>((a0z (a9a t0 t1 t2 t3) [.bool false,t14,.int .i64 0,.any,.any,.any,.any,.any,.any,.any,.any,.any,.any,.any,.any] h).bind fun r=>some ((a0w 0 r.1),[nth 0 r.2.1,nth 1 r.2.1,nth 2 r.2.1,nth 3 r.2.1,nth 4 r.2.1,nth 5 r.2.1,nth 6 r.2.1,nth 7 r.2.1,nth 8 r.2.1,nth 9 r.2.1,nth 10 r.2.1,nth 11 r.2.1,nth 12 r.2.1,nth 13 r.2.1,nth 14 r.2.1],r.2.2)).bind fun r_9=>a0y r_9.1 (some (a0m [.bool false],r_9.2.2)) fun x_5=>a0M x_5 (some (a0m [nth 0 r_9.2.1],r_9.2.2))
theorem c2O (t0 t1 t2 t3:D) (h:Hp):R b1M [t0,t1,t2,t3] h=b8F t0 t1 t2 t3 h :=
 er i84 (by kernel_rfl) (by kernel_rfl)
noncomputable def b3z (t0 t1 t4:D) (ds:List D) (ds_1:List D) (h_2:Hp):Option Out :=
 (a0f tab .leq ty3 (nth 0 ds_1) (nth 1 ds)).bind fun t33=>(gd t33 true (some t4)).bind fun t35=>(gd t33 true (some t0)).bind fun t36=>(gd t33 true (some t1)).bind fun t37=>(gd t33 true (a0a tab a0u t36 t37)).bind fun t38=>(gd t33 true (a0c tab h_2 a0h t38)).bind fun t39=>(gd t33 true (some t0)).bind fun t40=>(gd t33 true (some (nth 0 ds_1))).bind fun t41=>(gd t33 true (a0a tab a0u t40 t41)).bind fun t42=>(gd t33 true (a0c tab h_2 a0h t42)).bind fun t43=>(gdW t33 true h_2 (a1B R t35 [t39,t43] h_2)).bind fun p44=>(gd t33 true (a0f tab .lss ty3 p44.1 (.int .i64 0))).bind fun t45=>(gd t33 true (dUn .not t45)).bind fun t46=>(a0K t33 t46 (.bool false)).bind fun t47=>dIf t47
  ((a0f tab .add ty3 (nth 0 ds_1) (.int .i64 1)).bind fun t49=>some (.nrm,[t49,t47],p44.2))
  (some ((.ext 2),[nth 0 ds_1,t47],p44.2))
noncomputable def b3A (t0 t1 t4:D) (r_2:Out) (ds_2:List D) (h_3:Hp):Option Out :=
 (a0f tab .leq ty3 (nth 0 r_2.2.1) (nth 0 ds_2)).bind fun t52=>(gd t52 true (some t4)).bind fun t54=>(gd t52 true (some t0)).bind fun t55=>(gd t52 true (some t1)).bind fun t56=>(gd t52 true (a0a tab a0u t55 t56)).bind fun t57=>(gd t52 true (a0c tab h_3 a0h t57)).bind fun t58=>(gd t52 true (some t0)).bind fun t59=>(gd t52 true (some (nth 0 ds_2))).bind fun t60=>(gd t52 true (a0a tab a0u t59 t60)).bind fun t61=>(gd t52 true (a0c tab h_3 a0h t61)).bind fun t62=>(gdW t52 true h_3 (a1B R t54 [t58,t62] h_3)).bind fun p63=>(gd t52 true (a0f tab .lss ty3 p63.1 (.int .i64 0))).bind fun t64=>(a0K t52 t64 (.bool false)).bind fun t65=>dIf t65
  ((a0f tab .sub ty3 (nth 0 ds_2) (.int .i64 1)).bind fun t67=>some (.nrm,[t67,t65],p63.2))
  (some ((.ext 4),[nth 0 ds_2,t65],p63.2))
noncomputable def b3y (t0 t1 t4:D) (ds:List D) (h_1:Hp):Option Out :=
 ((a0z (b3z t0 t1 t4 ds) [nth 0 ds,nth 2 ds] h_1).bind fun r_1=>some ((a0w 2 r_1.1),[nth 0 r_1.2.1,nth 1 r_1.2.1],r_1.2.2)).bind fun r_2=>a0y r_2.1 (((a0z (b3A t0 t1 t4 r_2) [nth 1 ds,nth 3 ds] r_2.2.2).bind fun r_3=>some ((a0w 4 r_3.1),[nth 0 r_3.2.1,nth 1 r_3.2.1],r_3.2.2)).bind fun r_4=>a0y r_4.1 ((a0f tab .gtr ty3 (nth 0 r_2.2.1) (nth 0 r_4.2.1)).bind fun t70=>dIf t70
  (some ((.ext 0),[nth 0 r_2.2.1,nth 0 r_4.2.1,nth 1 r_2.2.1,nth 1 r_4.2.1,t70],r_4.2.2))
  ((a0a tab a0u t0 (nth 0 r_4.2.1)).bind fun t77=>(a0c tab r_4.2.2 a0h t77).bind fun t78=>(a0a tab a0u t0 (nth 0 r_2.2.1)).bind fun t81=>(a0c tab r_4.2.2 a0h t81).bind fun t82=>(a0a tab a0u t0 (nth 0 r_2.2.1)).bind fun t83=>((a0p tab r_4.2.2 a0h t83 t78).bind fun h'=>some ((.und:D),h')).bind fun p913_1=>(a0a tab a0u t0 (nth 0 r_4.2.1)).bind fun t84=>((a0p tab p913_1.2 a0h t84 t82).bind fun h'=>some ((.und:D),h')).bind fun p915_1=>(a0f tab .add ty3 (nth 0 r_2.2.1) (.int .i64 1)).bind fun t86=>(a0f tab .sub ty3 (nth 0 r_4.2.1) (.int .i64 1)).bind fun t88=>some (.nrm,[t86,t88,nth 1 r_2.2.1,nth 1 r_4.2.1,t70],p915_1.2))) fun x_1=>some ((a0w 1 x_1),[nth 0 r_2.2.1,nth 0 r_4.2.1,nth 1 r_2.2.1,nth 1 r_4.2.1,nth 4 ds],r_4.2.2)) fun x=>some ((a0w 1 x),[nth 0 r_2.2.1,nth 1 ds,nth 1 r_2.2.1,nth 3 ds,nth 4 ds],r_2.2.2)
noncomputable def c1V (t0 t1 t2 t3 t4:D) (h:Hp):Option (D × Hp) :=
 (a0a tab a0u t0 t3).bind fun t19=>(a0c tab h a0h t19).bind fun t20=>(a0a tab a0u t0 t1).bind fun t23=>(a0c tab h a0h t23).bind fun t24=>(a0a tab a0u t0 t1).bind fun t25=>((a0p tab h a0h t25 t20).bind fun h'=>some ((.und:D),h')).bind fun p913=>(a0a tab a0u t0 t3).bind fun t26=>((a0p tab p913.2 a0h t26 t24).bind fun h'=>some ((.und:D),h')).bind fun p915=>(a0f tab .add ty3 t1 (.int .i64 1)).bind fun t28=>(a0f tab .sub ty3 t2 (.int .i64 1)).bind fun t30=>((a0z (b3y t0 t1 t4) [t28,t30,.any,.any,.any] p915.2).bind fun r=>some ((a0w 0 r.1),[nth 0 r.2.1,nth 1 r.2.1,nth 2 r.2.1,nth 3 r.2.1,nth 4 r.2.1],r.2.2)).bind fun r_5=>a0y r_5.1 (some (a0m [nth 0 r_5.2.1],r_5.2.2)) fun x_2=>a0M x_2 (some (a0m [.int .i64 0],r_5.2.2))
theorem c5V (t0 t1 t2 t3 t4:D) (h:Hp):R b5t [t0,t1,t2,t3,t4] h=c1V t0 t1 t2 t3 t4 h :=
 er i85 (by kernel_rfl) (by kernel_rfl)
noncomputable def a6p (t0 t1 t4 t13m:D) (ds:List D) (h_1:Hp):Option Out :=
 (a0f tab .leq ty3 (nth 0 ds) t13m).bind fun t34=>(gd t34 true (some t4)).bind fun t36=>(gd t34 true (some t0)).bind fun t37=>(gd t34 true (some (nth 0 ds))).bind fun t38=>(gd t34 true (a0a tab a0u t37 t38)).bind fun t39=>(gd t34 true (a0c tab h_1 a0h t39)).bind fun t40=>(gd t34 true (some t0)).bind fun t41=>(gd t34 true (some t1)).bind fun t42=>(gd t34 true (a0a tab a0u t41 t42)).bind fun t43=>(gd t34 true (a0c tab h_1 a0h t43)).bind fun t44=>(gdW t34 true h_1 (a1B R t36 [t40,t44] h_1)).bind fun p45=>(gd t34 true (a0f tab .lss ty3 p45.1 (.int .i64 0))).bind fun t46=>(a0K t34 t46 (.bool false)).bind fun t47=>dIf t47
  ((a0f tab .add ty3 (nth 0 ds) (.int .i64 1)).bind fun t49=>some (.nrm,[t49,t47],p45.2))
  (some ((.ext 0),[nth 0 ds,t47],p45.2))
noncomputable def a6q (t0 t1 t4:D) (r_1:Out) (ds_1:List D) (h_2:Hp):Option Out :=
 (a0f tab .leq ty3 (nth 0 r_1.2.1) (nth 0 ds_1)).bind fun t52=>(gd t52 true (some t4)).bind fun t54=>(gd t52 true (some t0)).bind fun t55=>(gd t52 true (some (nth 0 ds_1))).bind fun t56=>(gd t52 true (a0a tab a0u t55 t56)).bind fun t57=>(gd t52 true (a0c tab h_2 a0h t57)).bind fun t58=>(gd t52 true (some t0)).bind fun t59=>(gd t52 true (some t1)).bind fun t60=>(gd t52 true (a0a tab a0u t59 t60)).bind fun t61=>(gd t52 true (a0c tab h_2 a0h t61)).bind fun t62=>(gdW t52 true h_2 (a1B R t54 [t58,t62] h_2)).bind fun p63=>(gd t52 true (a0f tab .lss ty3 p63.1 (.int .i64 0))).bind fun t64=>(gd t52 true (dUn .not t64)).bind fun t65=>(a0K t52 t65 (.bool false)).bind fun t66=>dIf t66
  ((a0f tab .sub ty3 (nth 0 ds_1) (.int .i64 1)).bind fun t68=>some (.nrm,[t68,t66],p63.2))
  (some ((.ext 2),[nth 0 ds_1,t66],p63.2))
noncomputable def a6r (t0 t1 t4:D) (ds_2:List D) (ds_3:List D) (h_4:Hp):Option Out :=
 (a0f tab .leq ty3 (nth 0 ds_3) (nth 1 ds_2)).bind fun t107=>(gd t107 true (some t4)).bind fun t109=>(gd t107 true (some t0)).bind fun t110=>(gd t107 true (some (nth 0 ds_3))).bind fun t111=>(gd t107 true (a0a tab a0u t110 t111)).bind fun t112=>(gd t107 true (a0c tab h_4 a0h t112)).bind fun t113=>(gd t107 true (some t0)).bind fun t114=>(gd t107 true (some t1)).bind fun t115=>(gd t107 true (a0a tab a0u t114 t115)).bind fun t116=>(gd t107 true (a0c tab h_4 a0h t116)).bind fun t117=>(gdW t107 true h_4 (a1B R t109 [t113,t117] h_4)).bind fun p118=>(gd t107 true (a0f tab .lss ty3 p118.1 (.int .i64 0))).bind fun t119=>(a0K t107 t119 (.bool false)).bind fun t120=>dIf t120
  ((a0f tab .add ty3 (nth 0 ds_3) (.int .i64 1)).bind fun t122=>some (.nrm,[t122,t120],p118.2))
  (some ((.ext 6),[nth 0 ds_3,t120],p118.2))
noncomputable def a6s (t0 t1 t4:D) (r_6:Out) (ds_4:List D) (h_5:Hp):Option Out :=
 (a0f tab .leq ty3 (nth 0 r_6.2.1) (nth 0 ds_4)).bind fun t125=>(gd t125 true (some t4)).bind fun t127=>(gd t125 true (some t0)).bind fun t128=>(gd t125 true (some (nth 0 ds_4))).bind fun t129=>(gd t125 true (a0a tab a0u t128 t129)).bind fun t130=>(gd t125 true (a0c tab h_5 a0h t130)).bind fun t131=>(gd t125 true (some t0)).bind fun t132=>(gd t125 true (some t1)).bind fun t133=>(gd t125 true (a0a tab a0u t132 t133)).bind fun t134=>(gd t125 true (a0c tab h_5 a0h t134)).bind fun t135=>(gdW t125 true h_5 (a1B R t127 [t131,t135] h_5)).bind fun p136=>(gd t125 true (a0f tab .lss ty3 p136.1 (.int .i64 0))).bind fun t137=>(gd t125 true (dUn .not t137)).bind fun t138=>(a0K t125 t138 (.bool false)).bind fun t139=>dIf t139
  ((a0f tab .sub ty3 (nth 0 ds_4) (.int .i64 1)).bind fun t141=>some (.nrm,[t141,t139],p136.2))
  (some ((.ext 8),[nth 0 ds_4,t139],p136.2))
noncomputable def a9b (t0 t1 t4:D) (ds_2:List D) (h_3:Hp):Option Out :=
 ((a0z (a6r t0 t1 t4 ds_2) [nth 0 ds_2,nth 2 ds_2] h_3).bind fun r_5=>some ((a0w 6 r_5.1),[nth 0 r_5.2.1,nth 1 r_5.2.1],r_5.2.2)).bind fun r_6=>a0y r_6.1 (((a0z (a6s t0 t1 t4 r_6) [nth 1 ds_2,nth 3 ds_2] r_6.2.2).bind fun r_7=>some ((a0w 8 r_7.1),[nth 0 r_7.2.1,nth 1 r_7.2.1],r_7.2.2)).bind fun r_8=>a0y r_8.1 ((a0f tab .gtr ty3 (nth 0 r_6.2.1) (nth 0 r_8.2.1)).bind fun t144=>dIf t144
  (some ((.ext 4),[nth 0 r_6.2.1,nth 0 r_8.2.1,nth 1 r_6.2.1,nth 1 r_8.2.1,t144],r_8.2.2))
  ((a0a tab a0u t0 (nth 0 r_8.2.1)).bind fun t151=>(a0c tab r_8.2.2 a0h t151).bind fun t152=>(a0a tab a0u t0 (nth 0 r_6.2.1)).bind fun t155=>(a0c tab r_8.2.2 a0h t155).bind fun t156=>(a0a tab a0u t0 (nth 0 r_6.2.1)).bind fun t157=>((a0p tab r_8.2.2 a0h t157 t152).bind fun h'=>some ((.und:D),h')).bind fun p913_3=>(a0a tab a0u t0 (nth 0 r_8.2.1)).bind fun t158=>((a0p tab p913_3.2 a0h t158 t156).bind fun h'=>some ((.und:D),h')).bind fun p915_3=>(a0f tab .add ty3 (nth 0 r_6.2.1) (.int .i64 1)).bind fun t160=>(a0f tab .sub ty3 (nth 0 r_8.2.1) (.int .i64 1)).bind fun t162=>some (.nrm,[t160,t162,nth 1 r_6.2.1,nth 1 r_8.2.1,t144],p915_3.2))) fun x_3=>some ((a0w 5 x_3),[nth 0 r_6.2.1,nth 0 r_8.2.1,nth 1 r_6.2.1,nth 1 r_8.2.1,nth 4 ds_2],r_8.2.2)) fun x_2=>some ((a0w 5 x_2),[nth 0 r_6.2.1,nth 1 ds_2,nth 1 r_6.2.1,nth 3 ds_2,nth 4 ds_2],r_6.2.2)
noncomputable def b8G (t0 t1 t2 t3 t4:D) (h:Hp):Option (D × Hp) :=
 (a0a tab a0u t0 t3).bind fun t20=>(a0c tab h a0h t20).bind fun t21=>(a0a tab a0u t0 t1).bind fun t24=>(a0c tab h a0h t24).bind fun t25=>(a0a tab a0u t0 t1).bind fun t26=>((a0p tab h a0h t26 t21).bind fun h'=>some ((.und:D),h')).bind fun p913=>(a0a tab a0u t0 t3).bind fun t27=>((a0p tab p913.2 a0h t27 t25).bind fun h'=>some ((.und:D),h')).bind fun p915=>(a0f tab .add ty3 t1 (.int .i64 1)).bind fun t29=>(a0f tab .sub ty3 t2 (.int .i64 1)).bind fun t31=>((a0z (a6p t0 t1 t4 t31) [t29,.any] p915.2).bind fun r=>some ((a0w 0 r.1),[nth 0 r.2.1,nth 1 r.2.1],r.2.2)).bind fun r_1=>a0y r_1.1 (((a0z (a6q t0 t1 t4 r_1) [t31,.any] r_1.2.2).bind fun r_2=>some ((a0w 2 r_2.1),[nth 0 r_2.2.1,nth 1 r_2.2.1],r_2.2.2)).bind fun r_3=>a0y r_3.1 ((a0f tab .gtr ty3 (nth 0 r_1.2.1) (nth 0 r_3.2.1)).bind fun t71=>dIf t71
  ((a0a tab a0u t0 t1).bind fun t78=>(a0c tab r_3.2.2 a0h t78).bind fun t79=>(a0a tab a0u t0 (nth 0 r_3.2.1)).bind fun t82=>(a0c tab r_3.2.2 a0h t82).bind fun t83=>(a0a tab a0u t0 (nth 0 r_3.2.1)).bind fun t84=>((a0p tab r_3.2.2 a0h t84 t79).bind fun h'=>some ((.und:D),h')).bind fun p913_1=>(a0a tab a0u t0 t1).bind fun t85=>((a0p tab p913_1.2 a0h t85 t83).bind fun h'=>some ((.und:D),h')).bind fun p915_1=>some (a0m [nth 0 r_3.2.1,.bool true],p915_1.2))
  ((a0a tab a0u t0 (nth 0 r_3.2.1)).bind fun t93=>(a0c tab r_3.2.2 a0h t93).bind fun t94=>(a0a tab a0u t0 (nth 0 r_1.2.1)).bind fun t97=>(a0c tab r_3.2.2 a0h t97).bind fun t98=>(a0a tab a0u t0 (nth 0 r_1.2.1)).bind fun t99=>((a0p tab r_3.2.2 a0h t99 t94).bind fun h'=>some ((.und:D),h')).bind fun p913_2=>(a0a tab a0u t0 (nth 0 r_3.2.1)).bind fun t100=>((a0p tab p913_2.2 a0h t100 t98).bind fun h'=>some ((.und:D),h')).bind fun p915_2=>(a0f tab .add ty3 (nth 0 r_1.2.1) (.int .i64 1)).bind fun t102=>(a0f tab .sub ty3 (nth 0 r_3.2.1) (.int .i64 1)).bind fun t104=>((a0z (a9b t0 t1 t4) [t102,t104,.any,.any,.any] p915_2.2).bind fun r_4=>some ((a0w 4 r_4.1),[nth 0 r_4.2.1,nth 1 r_4.2.1,nth 2 r_4.2.1,nth 3 r_4.2.1,nth 4 r_4.2.1],r_4.2.2)).bind fun r_9=>a0y r_9.1 ((a0a tab a0u t0 t1).bind fun t169=>(a0c tab r_9.2.2 a0h t169).bind fun t170=>(a0a tab a0u t0 (nth 1 r_9.2.1)).bind fun t173=>(a0c tab r_9.2.2 a0h t173).bind fun t174=>(a0a tab a0u t0 (nth 1 r_9.2.1)).bind fun t175=>((a0p tab r_9.2.2 a0h t175 t170).bind fun h'=>some ((.und:D),h')).bind fun p913_4=>(a0a tab a0u t0 t1).bind fun t176=>((a0p tab p913_4.2 a0h t176 t174).bind fun h'=>some ((.und:D),h')).bind fun p915_4=>some (a0m [nth 1 r_9.2.1,.bool false],p915_4.2)) fun x_4=>a0M x_4 (some (a0m [.int .i64 0,.bool false],r_9.2.2)))) fun x_1=>a0M x_1 (some (a0m [.int .i64 0,.bool false],r_3.2.2))) fun x=>a0M x (some (a0m [.int .i64 0,.bool false],r_1.2.2))
theorem c2P (t0 t1 t2 t3 t4:D) (h:Hp):R b1N [t0,t1,t2,t3,t4] h=b8G t0 t1 t2 t3 t4 h :=
 er i86 (by kernel_rfl) (by kernel_rfl)
noncomputable def c5l (t0:D) (h:Hp):Option (D × Hp) :=
 (a0f tab .neq ty9 t0 t0).bind fun t5=>some (a0m [t5],h)
theorem c5R (t0:D) (h:Hp):R b4k [t0] h=c5l t0 h :=
 er i87 (by kernel_rfl) (by kernel_rfl)
noncomputable def a9c (t0 t2 t3 t4:D) (ds:List D) (h_1:Hp):Option Out :=
 (a0f tab .mul ty3 (.int .i64 2) (nth 0 ds)).bind fun t14=>(a0f tab .add ty3 t14 (.int .i64 1)).bind fun t15=>(a0f tab .geq ty3 t15 t2).bind fun t18=>dIf t18
  (some ((.ext 0),[nth 0 ds,t15,t18,nth 3 ds,nth 4 ds],h_1))
  ((a0f tab .add ty3 t15 (.int .i64 1)).bind fun t20=>(a0f tab .lss ty3 t20 t2).bind fun t22=>(gd t22 true (some t4)).bind fun t24=>(gd t22 true (some t0)).bind fun t25=>(gd t22 true (some t3)).bind fun t26=>(gd t22 true (some t15)).bind fun t27=>(gd t22 true (a0f tab .add ty3 t26 t27)).bind fun t28=>(gd t22 true (a0a tab a0v t25 t28)).bind fun t29=>(gd t22 true (a0c tab h_1 a0i t29)).bind fun t30=>(gd t22 true (some t0)).bind fun t31=>(gd t22 true (some t3)).bind fun t32=>(gd t22 true (some t15)).bind fun t33=>(gd t22 true (a0f tab .add ty3 t32 t33)).bind fun t34=>(gd t22 true (a0f tab .add ty3 t34 (.int .i64 1))).bind fun t35=>(gd t22 true (a0a tab a0v t31 t35)).bind fun t36=>(gd t22 true (a0c tab h_1 a0i t36)).bind fun t37=>(gdW t22 true h_1 (a1B R t24 [t30,t37] h_1)).bind fun p38=>(gd t22 true (a0f tab .lss ty3 p38.1 (.int .i64 0))).bind fun t39=>(a0K t22 t39 (.bool false)).bind fun t40=>(dIf t40
  ((a0f tab .add ty3 t15 (.int .i64 1)).bind fun t42=>some (.nrm,[t42],p38.2))
  (some (.nrm,[t15],p38.2))).bind fun r_1=>a0y r_1.1 ((a0f tab .add ty3 t3 (nth 0 ds)).bind fun t47=>(a0a tab a0v t0 t47).bind fun t48=>(a0c tab r_1.2.2 a0i t48).bind fun t49=>(a0f tab .add ty3 t3 (nth 0 r_1.2.1)).bind fun t53=>(a0a tab a0v t0 t53).bind fun t54=>(a0c tab r_1.2.2 a0i t54).bind fun t55=>(a1B R t4 [t49,t55] r_1.2.2).bind fun p56=>(a0f tab .lss ty3 p56.1 (.int .i64 0)).bind fun t57=>(dUn .not t57).bind fun t58=>dIf t58
  (some (.ret,[nth 0 ds,nth 0 r_1.2.1,t18,t40,t58],p56.2))
  ((a0f tab .add ty3 t3 (nth 0 ds)).bind fun t62=>(a0f tab .add ty3 t3 (nth 0 r_1.2.1)).bind fun t66=>(a0f tab .add ty3 t3 (nth 0 r_1.2.1)).bind fun t70=>(a0a tab a0v t0 t70).bind fun t71=>(a0c tab p56.2 a0i t71).bind fun t72=>(a0f tab .add ty3 t3 (nth 0 ds)).bind fun t76=>(a0a tab a0v t0 t76).bind fun t77=>(a0c tab p56.2 a0i t77).bind fun t78=>(a0a tab a0v t0 t62).bind fun t79=>((a0p tab p56.2 a0i t79 t72).bind fun h'=>some ((.und:D),h')).bind fun p921=>(a0a tab a0v t0 t66).bind fun t80=>((a0p tab p921.2 a0i t80 t78).bind fun h'=>some ((.und:D),h')).bind fun p923=>some (.nrm,[nth 0 r_1.2.1,nth 0 r_1.2.1,t18,t40,t58],p923.2))) fun x=>some ((a0w 1 x),[nth 0 ds,nth 0 r_1.2.1,t18,t40,nth 4 ds],r_1.2.2))
noncomputable def b8H (t0 t1 t2 t3 t4:D) (h:Hp):Option (D × Hp) :=
 ((a0z (a9c t0 t2 t3 t4) [t1,.any,.any,.any,.any] h).bind fun r=>some ((a0w 0 r.1),[nth 0 r.2.1,nth 1 r.2.1,nth 2 r.2.1,nth 3 r.2.1,nth 4 r.2.1],r.2.2)).bind fun r_2=>a0M r_2.1 (some (a0m [],r_2.2.2))
theorem c2Q (t0 t1 t2 t3 t4:D) (h:Hp):R a9F [t0,t1,t2,t3,t4] h=b8H t0 t1 t2 t3 t4 h :=
 er i88 (by kernel_rfl) (by kernel_rfl)
noncomputable def b8I (t0:D) (h:Hp):Option (D × Hp) :=
 (a2e tab ty3 a4i t0).bind fun t4=>(R a4V [t4] h).bind fun p5=>(a0f tab .shl a4i (.int .u64 1) p5.1).bind fun t6=>some (a0m [t6],p5.2)
theorem c2R (t0:D) (h:Hp):R a9G [t0] h=b8I t0 h :=
 er i89 (by kernel_rfl) (by kernel_rfl)
noncomputable def b8J (t0:D) (h:Hp):Option (D × Hp) :=
 (a0R tab t0).bind fun t4=>(a0c tab h a0T t4).bind fun t5=>(a0R tab t0).bind fun t7=>(a0c tab h a0T t7).bind fun t8=>(a0f tab .shl a0T t8 (.int .u64 13)).bind fun t9=>(a0f tab .xor a0T t5 t9).bind fun t10=>(a0R tab t0).bind fun t11=>((a0p tab h a0T t11 t10).bind fun h'=>some ((.und:D),h')).bind fun p909=>(a0R tab t0).bind fun t13=>(a0c tab p909.2 a0T t13).bind fun t14=>(a0R tab t0).bind fun t16=>(a0c tab p909.2 a0T t16).bind fun t17=>(a0f tab .shr a0T t17 (.int .u64 7)).bind fun t18=>(a0f tab .xor a0T t14 t18).bind fun t19=>(a0R tab t0).bind fun t20=>((a0p tab p909.2 a0T t20 t19).bind fun h'=>some ((.und:D),h')).bind fun p909_1=>(a0R tab t0).bind fun t22=>(a0c tab p909_1.2 a0T t22).bind fun t23=>(a0R tab t0).bind fun t25=>(a0c tab p909_1.2 a0T t25).bind fun t26=>(a0f tab .shl a0T t26 (.int .u64 17)).bind fun t27=>(a0f tab .xor a0T t23 t27).bind fun t28=>(a0R tab t0).bind fun t29=>((a0p tab p909_1.2 a0T t29 t28).bind fun h'=>some ((.und:D),h')).bind fun p909_2=>(a0R tab t0).bind fun t31=>(a0c tab p909_2.2 a0T t31).bind fun t32=>some (a0m [t32],p909_2.2)
theorem c2S (t0:D) (h:Hp):R a9H [t0] h=b8J t0 h :=
 er i90 (by kernel_rfl) (by kernel_rfl)
noncomputable def b8K (t0 t1 t2 t3:D) (h:Hp):Option (D × Hp) :=
 (a0f tab .sub ty3 t1 (.int .i64 1)).bind fun t11=>(a0f tab .add ty3 t1 (.int .i64 1)).bind fun t14=>(R a9I [t0,t11,t1,t14,t2,t3] h).bind fun p17=>some (a0m [p17.1],p17.2)
theorem c2T (t0 t1 t2 t3:D) (h:Hp):R a7D [t0,t1,t2,t3] h=b8K t0 t1 t2 t3 h :=
 er i91 (by kernel_rfl) (by kernel_rfl)
noncomputable def b8L (t0 t1 t2 t3 t4 t5:D) (h:Hp):Option (D × Hp) :=
 (R a5J [t0,t1,t2,t4,t5] h).bind fun p19=>(a0r 0 p19.1).bind fun t20=>(a0r 1 p19.1).bind fun t21=>(R a5J [t0,t21,t3,t4,t5] p19.2).bind fun p28=>(a0r 0 p28.1).bind fun t29=>(a0r 1 p28.1).bind fun t30=>(R a5J [t0,t20,t29,t4,t5] p28.2).bind fun p37=>(a0r 0 p37.1).bind fun t38=>(a0r 1 p37.1).bind fun t39=>some (a0m [t39],p37.2)
theorem c2U (t0 t1 t2 t3 t4 t5:D) (h:Hp):R a9I [t0,t1,t2,t3,t4,t5] h=b8L t0 t1 t2 t3 t4 t5 h :=
 er i92 (by kernel_rfl) (by kernel_rfl)
noncomputable def c5m (t0:D) (h:Hp):Option (D × Hp) :=
 (a0J tab a1d 14 [0,1,2,3,4,5,6,7,8,9,10,11,12,13] [.str [103,101,116],.str [101,114,114,111,114],.str [119,97,114,110],.str [97,49],.str [117,115,101,114,95,55],.str [120],.str [84,105,109,101,111,117,116],.str [50,48,48],.str [71,69,84],.str [101,114,114,111],.str [122],.str [],.str [255],.str [97,46,98]]).bind fun t4=>(a0B tab a1d t4).bind fun t8=>(R a2f [t0,t8] h).bind fun p9=>(a0a tab a1d t4 p9.1).bind fun t10=>(a0c tab p9.2 ty9 t10).bind fun t11=>some (a0m [t11],p9.2)
theorem c5S (t0:D) (h:Hp):R b4l [t0] h=c5m t0 h :=
 er i93 (by kernel_rfl) (by kernel_rfl)
noncomputable def a8N (t0 t1:D) (ds:List D) (h_1:Hp):Option Out :=
 (a0B tab a1d t0).bind fun t14=>(a0f tab .lss ty3 (nth 3 ds) t14).bind fun t15=>(gd t15 false (some (nth 4 ds))).bind fun t17=>(gd t15 false (some t1)).bind fun t18=>(gd t15 false (a0B tab a1d t18)).bind fun t19=>(gd t15 false (a0f tab .lss ty3 t17 t19)).bind fun t20=>(a0K t15 (.bool true) t20).bind fun t21=>dIf t21
  ((a0B tab a1d t1).bind fun t46=>(a0f tab .eql ty3 (nth 4 ds) t46).bind fun t47=>(gd t47 false (some (nth 3 ds))).bind fun t49=>(gd t47 false (some t0)).bind fun t50=>(gd t47 false (a0B tab a1d t50)).bind fun t51=>(gd t47 false (a0f tab .lss ty3 t49 t51)).bind fun t52=>(gd t47 false (some t52)).bind fun t53=>(gd t53 true (some t0)).bind fun t54=>(gd t53 true (some (nth 3 ds))).bind fun t55=>(gd t53 true (a0a tab a1d t54 t55)).bind fun t56=>(gd t53 true (a0c tab h_1 ty9 t56)).bind fun t57=>(gd t53 true (some t1)).bind fun t58=>(gd t53 true (some (nth 4 ds))).bind fun t59=>(gd t53 true (a0a tab a1d t58 t59)).bind fun t60=>(gd t53 true (a0c tab h_1 ty9 t60)).bind fun t61=>(gd t53 true (a0f tab .lss ty9 t57 t61)).bind fun t62=>(gd t47 false (a0K t53 t62 (.bool false))).bind fun t63=>(a0K t47 (.bool true) t63).bind fun t64=>(dIf t64
  ((a0B tab a1d (nth 0 ds)).bind fun t67=>(a0J tab a3t 1 [0] [t67]).bind fun t68=>(a0D tab h_1 a3t a3t (nth 1 ds) t68).bind fun p69=>(a0a tab a1d t0 (nth 3 ds)).bind fun t73=>(a0c tab p69.2 ty9 t73).bind fun t74=>(a0J tab a1d 1 [0] [t74]).bind fun t75=>(a0D tab p69.2 a1d a1d (nth 0 ds) t75).bind fun p76=>(a0f tab .add ty3 (nth 3 ds) (.int .i64 1)).bind fun t78=>some (.nrm,[p76.1,p69.1,nth 2 ds,t78,nth 4 ds,nth 7 ds],p76.2))
  ((a0B tab a1d t0).bind fun t82=>(a0f tab .eql ty3 (nth 3 ds) t82).bind fun t83=>(gd t83 false (some t1)).bind fun t85=>(gd t83 false (some (nth 4 ds))).bind fun t86=>(gd t83 false (a0a tab a1d t85 t86)).bind fun t87=>(gd t83 false (a0c tab h_1 ty9 t87)).bind fun t88=>(gd t83 false (some t0)).bind fun t89=>(gd t83 false (some (nth 3 ds))).bind fun t90=>(gd t83 false (a0a tab a1d t89 t90)).bind fun t91=>(gd t83 false (a0c tab h_1 ty9 t91)).bind fun t92=>(gd t83 false (a0f tab .lss ty9 t88 t92)).bind fun t93=>(a0K t83 (.bool true) t93).bind fun t94=>(dIf t94
  ((a0B tab a1d (nth 0 ds)).bind fun t97=>(a0J tab a3t 1 [0] [t97]).bind fun t98=>(a0D tab h_1 a3t a3t (nth 2 ds) t98).bind fun p99=>(a0a tab a1d t1 (nth 4 ds)).bind fun t103=>(a0c tab p99.2 ty9 t103).bind fun t104=>(a0J tab a1d 1 [0] [t104]).bind fun t105=>(a0D tab p99.2 a1d a1d (nth 0 ds) t105).bind fun p106=>(a0f tab .add ty3 (nth 4 ds) (.int .i64 1)).bind fun t108=>some (.nrm,[p106.1,nth 1 ds,p99.1,nth 3 ds,t108],p106.2))
  ((a0B tab a1d (nth 0 ds)).bind fun t24=>(a0J tab a3t 1 [0] [t24]).bind fun t25=>(a0D tab h_1 a3t a3t (nth 1 ds) t25).bind fun p26=>(a0B tab a1d (nth 0 ds)).bind fun t29=>(a0J tab a3t 1 [0] [t29]).bind fun t30=>(a0D tab p26.2 a3t a3t (nth 2 ds) t30).bind fun p31=>(a0a tab a1d t0 (nth 3 ds)).bind fun t35=>(a0c tab p31.2 ty9 t35).bind fun t36=>(a0J tab a1d 1 [0] [t36]).bind fun t37=>(a0D tab p31.2 a1d a1d (nth 0 ds) t37).bind fun p38=>(a0f tab .add ty3 (nth 3 ds) (.int .i64 1)).bind fun t40=>(a0f tab .add ty3 (nth 4 ds) (.int .i64 1)).bind fun t42=>some (.nrm,[p38.1,p26.1,p31.1,t40,t42],p38.2))).bind fun r_1=>some (r_1.1,[nth 0 r_1.2.1,nth 1 r_1.2.1,nth 2 r_1.2.1,nth 3 r_1.2.1,nth 4 r_1.2.1,t94],r_1.2.2))).bind fun r_2=>some ((a0w 1 (a0w 2 r_2.1)),[nth 0 r_2.2.1,nth 1 r_2.2.1,nth 2 r_2.2.1,nth 3 r_2.2.1,nth 4 r_2.2.1,t21,t64,nth 5 r_2.2.1],r_2.2.2))
  (some ((.ext 0),[nth 0 ds,nth 1 ds,nth 2 ds,nth 3 ds,nth 4 ds,t21,nth 6 ds,nth 7 ds],h_1))
noncomputable def b8m (t0 t1:D) (h:Hp):Option (D × Hp) :=
 ((a0z (a8N t0 t1) [.nils,.nils,.nils,.int .i64 0,.int .i64 0,.any,.any,.any] h).bind fun r=>some ((a0w 0 r.1),[nth 0 r.2.1,nth 1 r.2.1,nth 2 r.2.1,nth 3 r.2.1,nth 4 r.2.1,nth 5 r.2.1,nth 6 r.2.1,nth 7 r.2.1],r.2.2)).bind fun r_3=>a0y r_3.1 (scope h r_3.2.2 (a0m [nth 0 r_3.2.1,nth 1 r_3.2.1,nth 2 r_3.2.1])) fun x=>a0M x (scope h r_3.2.2 (a0m [.nils,.nils,.nils]))
theorem c2u (t0 t1:D) (h:Hp):R a9B [t0,t1] h=b8m t0 t1 h :=
 er i94 (by kernel_rfl) (by kernel_rfl)
noncomputable def b9d (t0 t1:D) (h:Hp):Option (D × Hp) :=
 (a0B tab ty9 t0).bind fun t6=>(a0B tab ty9 t1).bind fun t8=>(a0f tab .geq ty3 t6 t8).bind fun t9=>(gd t9 true (some t0)).bind fun t11=>(gd t9 true (some t1)).bind fun t12=>(gd t9 true (a0B tab ty9 t12)).bind fun t13=>(gd t9 true (a0E tab ty9 false true false [t11,t13])).bind fun t14=>(gd t9 true (some t1)).bind fun t15=>(gd t9 true (a0f tab .eql ty9 t14 t15)).bind fun t16=>(a0K t9 t16 (.bool false)).bind fun t17=>some (a0m [t17],h)
theorem c3m (t0 t1:D) (h:Hp):R b1S [t0,t1] h=b9d t0 t1 h :=
 er i95 (by kernel_rfl) (by kernel_rfl)
noncomputable def a8O (r:Out) (ds:List D) (h_1:Hp):Option Out :=
 (a0B tab ty9 (nth 0 r.2.1)).bind fun t28=>(a0f tab .lss ty3 (nth 3 ds) t28).bind fun t29=>dIf t29
  ((a2N tab ty9 (nth 0 r.2.1) (nth 3 ds)).bind fun t34=>(R b1C [t34] h_1).bind fun p35=>(dUn .not p35.1).bind fun t36=>dIf t36
  (some (.ret,[.int .i64 0,.bool false,nth 2 ds,nth 3 ds,t29,t36],p35.2))
  ((a0f tab .mul ty3 (.int .i64 10) (nth 2 ds)).bind fun t38=>(a2N tab ty9 (nth 0 r.2.1) (nth 3 ds)).bind fun t41=>(a0f tab .sub ty5 t41 (.int .u8 48)).bind fun t42=>(a2e tab ty5 ty3 t42).bind fun t43=>(a0f tab .add ty3 t38 t43).bind fun t44=>(a0f tab .add ty3 (nth 3 ds) (.int .i64 1)).bind fun t31=>some (.nrm,[nth 0 ds,nth 1 ds,t44,t31,t29,t36],p35.2)))
  (some ((.ext 0),[nth 0 ds,nth 1 ds,nth 2 ds,nth 3 ds,t29,nth 5 ds],h_1))
noncomputable def b5X (t0:D) (h:Hp):Option (D × Hp) :=
 (a0B tab ty9 t0).bind fun t9=>(a0f tab .gtr ty3 t9 (.int .i64 0)).bind fun t10=>(gd t10 true (some t0)).bind fun t12=>(gd t10 true (a2N tab ty9 t12 (.int .i64 0))).bind fun t13=>(gd t10 true (a0f tab .eql ty5 t13 (.int .u8 45))).bind fun t14=>(a0K t10 t14 (.bool false)).bind fun t15=>(dIf t15
  ((a0E tab ty9 true false false [t0,.int .i64 1]).bind fun t17=>some (.nrm,[t17],h))
  (some (.nrm,[t0],h))).bind fun r=>a0y r.1 ((a0B tab ty9 (nth 0 r.2.1)).bind fun t19=>(a0f tab .lss ty3 t19 (.int .i64 1)).bind fun t20=>(gd t20 false (some (nth 0 r.2.1))).bind fun t22=>(gd t20 false (a0B tab ty9 t22)).bind fun t23=>(gd t20 false (a0f tab .gtr ty3 t23 (.int .i64 18))).bind fun t24=>(a0K t20 (.bool true) t24).bind fun t25=>dIf t25
  (some (a0m [.int .i64 0,.bool false],r.2.2))
  (((a0z (a8O r) [.int .i64 0,.bool false,.int .i64 0,.int .i64 0,.any,.any] r.2.2).bind fun r_1=>some ((a0w 0 r_1.1),[nth 0 r_1.2.1,nth 1 r_1.2.1,nth 2 r_1.2.1,nth 3 r_1.2.1,nth 4 r_1.2.1,nth 5 r_1.2.1],r_1.2.2)).bind fun r_2=>a0y r_2.1 ((a0B tab ty9 (nth 0 r.2.1)).bind fun t46=>(a0B tab ty9 t0).bind fun t48=>(a0f tab .lss ty3 t46 t48).bind fun t49=>(dIf t49
  ((dUn .neg (nth 2 r_2.2.1)).bind fun t51=>some (.nrm,[t51],r_2.2.2))
  (some (.nrm,[nth 2 r_2.2.1],r_2.2.2))).bind fun r_3=>a0y r_3.1 (some (a0m [nth 0 r_3.2.1,.bool true],r_3.2.2)) fun x_2=>a0M x_2 (some (a0m [nth 0 r_2.2.1,nth 1 r_2.2.1],r_3.2.2))) fun x_1=>a0M x_1 (some (a0m [nth 0 r_2.2.1,nth 1 r_2.2.1],r_2.2.2)))) fun x=>a0M x (some (a0m [.int .i64 0,.bool false],r.2.2))
theorem c2v (t0:D) (h:Hp):R a9C [t0] h=b5X t0 h :=
 er i96 (by kernel_rfl) (by kernel_rfl)
noncomputable def a9d (t0 t2 t3 t4:D) (ds:List D) (h_1:Hp):Option Out :=
 (a0f tab .mul ty3 (.int .i64 2) (nth 0 ds)).bind fun t14=>(a0f tab .add ty3 t14 (.int .i64 1)).bind fun t15=>(a0f tab .geq ty3 t15 t2).bind fun t18=>dIf t18
  (some ((.ext 0),[nth 0 ds,t15,t18,nth 3 ds,nth 4 ds],h_1))
  ((a0f tab .add ty3 t15 (.int .i64 1)).bind fun t20=>(a0f tab .lss ty3 t20 t2).bind fun t22=>(gd t22 true (some t4)).bind fun t24=>(gd t22 true (some t0)).bind fun t25=>(gd t22 true (some t3)).bind fun t26=>(gd t22 true (some t15)).bind fun t27=>(gd t22 true (a0f tab .add ty3 t26 t27)).bind fun t28=>(gd t22 true (a0a tab a0u t25 t28)).bind fun t29=>(gd t22 true (a0c tab h_1 a0h t29)).bind fun t30=>(gd t22 true (some t0)).bind fun t31=>(gd t22 true (some t3)).bind fun t32=>(gd t22 true (some t15)).bind fun t33=>(gd t22 true (a0f tab .add ty3 t32 t33)).bind fun t34=>(gd t22 true (a0f tab .add ty3 t34 (.int .i64 1))).bind fun t35=>(gd t22 true (a0a tab a0u t31 t35)).bind fun t36=>(gd t22 true (a0c tab h_1 a0h t36)).bind fun t37=>(gdW t22 true h_1 (a1B R t24 [t30,t37] h_1)).bind fun p38=>(gd t22 true (a0f tab .lss ty3 p38.1 (.int .i64 0))).bind fun t39=>(a0K t22 t39 (.bool false)).bind fun t40=>(dIf t40
  ((a0f tab .add ty3 t15 (.int .i64 1)).bind fun t42=>some (.nrm,[t42],p38.2))
  (some (.nrm,[t15],p38.2))).bind fun r_1=>a0y r_1.1 ((a0f tab .add ty3 t3 (nth 0 ds)).bind fun t47=>(a0a tab a0u t0 t47).bind fun t48=>(a0c tab r_1.2.2 a0h t48).bind fun t49=>(a0f tab .add ty3 t3 (nth 0 r_1.2.1)).bind fun t53=>(a0a tab a0u t0 t53).bind fun t54=>(a0c tab r_1.2.2 a0h t54).bind fun t55=>(a1B R t4 [t49,t55] r_1.2.2).bind fun p56=>(a0f tab .lss ty3 p56.1 (.int .i64 0)).bind fun t57=>(dUn .not t57).bind fun t58=>dIf t58
  (some (.ret,[nth 0 ds,nth 0 r_1.2.1,t18,t40,t58],p56.2))
  ((a0f tab .add ty3 t3 (nth 0 ds)).bind fun t62=>(a0f tab .add ty3 t3 (nth 0 r_1.2.1)).bind fun t66=>(a0f tab .add ty3 t3 (nth 0 r_1.2.1)).bind fun t70=>(a0a tab a0u t0 t70).bind fun t71=>(a0c tab p56.2 a0h t71).bind fun t72=>(a0f tab .add ty3 t3 (nth 0 ds)).bind fun t76=>(a0a tab a0u t0 t76).bind fun t77=>(a0c tab p56.2 a0h t77).bind fun t78=>(a0a tab a0u t0 t62).bind fun t79=>((a0p tab p56.2 a0h t79 t72).bind fun h'=>some ((.und:D),h')).bind fun p921=>(a0a tab a0u t0 t66).bind fun t80=>((a0p tab p921.2 a0h t80 t78).bind fun h'=>some ((.und:D),h')).bind fun p923=>some (.nrm,[nth 0 r_1.2.1,nth 0 r_1.2.1,t18,t40,t58],p923.2))) fun x=>some ((a0w 1 x),[nth 0 ds,nth 0 r_1.2.1,t18,t40,nth 4 ds],r_1.2.2))
noncomputable def b8M (t0 t1 t2 t3 t4:D) (h:Hp):Option (D × Hp) :=
 ((a0z (a9d t0 t2 t3 t4) [t1,.any,.any,.any,.any] h).bind fun r=>some ((a0w 0 r.1),[nth 0 r.2.1,nth 1 r.2.1,nth 2 r.2.1,nth 3 r.2.1,nth 4 r.2.1],r.2.2)).bind fun r_2=>a0M r_2.1 (some (a0m [],r_2.2.2))
theorem c2V (t0 t1 t2 t3 t4:D) (h:Hp):R a9J [t0,t1,t2,t3,t4] h=b8M t0 t1 t2 t3 t4 h :=
 er i98 (by kernel_rfl) (by kernel_rfl)
noncomputable def b8N (t0 t1 t2 t3:D) (h:Hp):Option (D × Hp) :=
 (a0f tab .sub ty3 t1 (.int .i64 1)).bind fun t11=>(a0f tab .add ty3 t1 (.int .i64 1)).bind fun t14=>(R a9K [t0,t11,t1,t14,t2,t3] h).bind fun p17=>some (a0m [p17.1],p17.2)
theorem c2W (t0 t1 t2 t3:D) (h:Hp):R a7E [t0,t1,t2,t3] h=b8N t0 t1 t2 t3 h :=
 er i99 (by kernel_rfl) (by kernel_rfl)
noncomputable def b8O (t0 t1 t2 t3 t4 t5:D) (h:Hp):Option (D × Hp) :=
 (R a5K [t0,t1,t2,t4,t5] h).bind fun p19=>(a0r 0 p19.1).bind fun t20=>(a0r 1 p19.1).bind fun t21=>(R a5K [t0,t21,t3,t4,t5] p19.2).bind fun p28=>(a0r 0 p28.1).bind fun t29=>(a0r 1 p28.1).bind fun t30=>(R a5K [t0,t20,t29,t4,t5] p28.2).bind fun p37=>(a0r 0 p37.1).bind fun t38=>(a0r 1 p37.1).bind fun t39=>some (a0m [t39],p37.2)
theorem c2X (t0 t1 t2 t3 t4 t5:D) (h:Hp):R a9K [t0,t1,t2,t3,t4,t5] h=b8O t0 t1 t2 t3 t4 t5 h :=
 er c3I (by kernel_rfl) (by kernel_rfl)
noncomputable def b8P (t0 t1 t2 t3 t4:D) (h:Hp):Option (D × Hp) :=
 (a0a tab a0v t0 t2).bind fun t15=>(a0c tab h a0i t15).bind fun t16=>(a0a tab a0v t0 t1).bind fun t19=>(a0c tab h a0i t19).bind fun t20=>(a1B R t4 [t16,t20] h).bind fun p21=>(a0f tab .lss ty3 p21.1 (.int .i64 0)).bind fun t22=>dIf t22
  ((a0R tab t3).bind fun t24=>(a0c tab p21.2 ty3 t24).bind fun t25=>(a0f tab .add ty3 t25 (.int .i64 1)).bind fun t26=>(a0R tab t3).bind fun t27=>((a0p tab p21.2 ty3 t27 t26).bind fun h'=>some ((.und:D),h')).bind fun p905=>some (a0m [t2,t1],p905.2))
  (some (a0m [t1,t2],p21.2))
theorem c2Y (t0 t1 t2 t3 t4:D) (h:Hp):R a5J [t0,t1,t2,t3,t4] h=b8P t0 t1 t2 t3 t4 h :=
 er c3J (by kernel_rfl) (by kernel_rfl)
noncomputable def b8n (t0:D) (h:Hp):Option (D × Hp) :=
 (a0f tab .geq ty5 t0 (.int .u8 48)).bind fun t4=>(gd t4 true (some t0)).bind fun t6=>(gd t4 true (a0f tab .leq ty5 t6 (.int .u8 57))).bind fun t7=>(a0K t4 t7 (.bool false)).bind fun t8=>some (a0m [t8],h)
theorem c2w (t0:D) (h:Hp):R b1C [t0] h=b8n t0 h :=
 er c3K (by kernel_rfl) (by kernel_rfl)
noncomputable def b8Q (t0 t1 t2 t3 t4:D) (h:Hp):Option (D × Hp) :=
 (a0a tab a0u t0 t2).bind fun t15=>(a0c tab h a0h t15).bind fun t16=>(a0a tab a0u t0 t1).bind fun t19=>(a0c tab h a0h t19).bind fun t20=>(a1B R t4 [t16,t20] h).bind fun p21=>(a0f tab .lss ty3 p21.1 (.int .i64 0)).bind fun t22=>dIf t22
  ((a0R tab t3).bind fun t24=>(a0c tab p21.2 ty3 t24).bind fun t25=>(a0f tab .add ty3 t25 (.int .i64 1)).bind fun t26=>(a0R tab t3).bind fun t27=>((a0p tab p21.2 ty3 t27 t26).bind fun h'=>some ((.und:D),h')).bind fun p905=>some (a0m [t2,t1],p905.2))
  (some (a0m [t1,t2],p21.2))
theorem c2Z (t0 t1 t2 t3 t4:D) (h:Hp):R a5K [t0,t1,t2,t3,t4] h=b8Q t0 t1 t2 t3 t4 h :=
 er c3L (by kernel_rfl) (by kernel_rfl)
end Go.Proofs.YtkpnnfhodlanjaaGreatDoor
