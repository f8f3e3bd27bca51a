/- Functions as Lean functions on data. -/
import Derived.Test.YtehgglgadbmecaaDoorB1
set_option linter.unusedSimpArgs false
set_option linter.unusedVariables false
set_option linter.unnecessarySimpa false
set_option maxRecDepth 100000
namespace Go.Proofs.YtehgglgadbmecaaDoor
open Go.Eng Go.Pi
noncomputable def b7L (h:Hp):Option (D × Hp) :=
 (a0y tab a1c 1 [0] [.int .i64 1]).bind fun t2=>(a0T tab a0h [1] [t2]).bind fun t3=>(a0y tab a0C 1 [0] [.str [98]]).bind fun t4=>(a0y tab a1c 1 [0] [.int .i64 2]).bind fun t5=>(a0T tab a0h [0,1] [t4,t5]).bind fun t6=>(a0y tab a0u 2 [0,1] [t3,t6]).bind fun t7=>(R b1o [t7,.int .i64 1] h).bind fun p8=>(a0x tab a0u p8.1).bind fun t10=>(a0l tab .eql ty3 t10 (.int .i64 1)).bind fun t11=>(gd t11 true (some p8.1)).bind fun t13=>(gd t11 true (a0b tab a0u t13 (.int .i64 0))).bind fun t14=>(gd t11 true (a0a tab a0h 1 t14)).bind fun t15=>(gd t11 true (a0c tab p8.2 a1c t15)).bind fun t16=>(gd t11 true (a0x tab a1c t16)).bind fun t17=>(gd t11 true (a0l tab .eql ty3 t17 (.int .i64 1))).bind fun t18=>(a1s t11 t18 (.bool false)).bind fun t19=>(gd t19 true (some p8.1)).bind fun t21=>(gd t19 true (a0b tab a0u t21 (.int .i64 0))).bind fun t22=>(gd t19 true (a0a tab a0h 1 t22)).bind fun t23=>(gd t19 true (a0c tab p8.2 a1c t23)).bind fun t24=>(gd t19 true (a0b tab a1c t24 (.int .i64 0))).bind fun t25=>(gd t19 true (a0c tab p8.2 ty3 t25)).bind fun t26=>(gd t19 true (a0l tab .eql ty3 t26 (.int .i64 2))).bind fun t27=>(a1s t19 t27 (.bool false)).bind fun t28=>some (a0i [t28],p8.2)
theorem c0N (h:Hp):R a7a [] h=b7L h :=
 er i4 (by kernel_rfl) (by kernel_rfl)
noncomputable def b7M (t0:D) (h:Hp):Option (D × Hp) :=
 (R c1G [t0,.int .i64 500] h).bind fun p8=>(R a9g [p8.1] p8.2).bind fun p10=>(R c0d [p8.1,.int .i64 7] p10.2).bind fun p12=>(R a3A [p8.1,.int .i64 5] p12.2).bind fun p14=>(a0l tab .add ty3 (.int .i64 1) p14.1).bind fun t15=>some (a0i [p10.1,p12.1,t15,p8.1],p14.2)
theorem c0O (t0:D) (h:Hp):R a7b [t0] h=b7M t0 h :=
 er i5 (by kernel_rfl) (by kernel_rfl)
noncomputable def b7N (t0 t1:D) (h:Hp):Option (D × Hp) :=
 (a0T tab a3f [] []).bind fun t6=>(a0y tab a4e 1 [0] [t6]).bind fun t7=>(R a9i [t0,t7,t1] h).bind fun p12=>(R a9h [t7,p12.1] p12.2).bind fun p13=>some (a0i [p13.1],p13.2)
theorem c0P (t0 t1:D) (h:Hp):R a7c [t0,t1] h=b7N t0 t1 h :=
 er i7 (by kernel_rfl) (by kernel_rfl)
noncomputable def a8E (t6m t7:D) (ds:List D) (h_1:Hp):Option Out :=
 (a0l tab .lss ty3 (nth 2 ds) t7).bind fun t9=>dIf t9
  ((a0b tab a0r t6m (nth 2 ds)).bind fun t10=>(a0c tab h_1 a0j t10).bind fun t11=>(a7L 3 t11).bind fun t5=>(a0a tab a0j 1 t5).bind fun t13=>(a0c tab h_1 ty3 t13).bind fun t14=>(a0l tab .add ty3 (nth 0 ds) t14).bind fun t15=>(a0l tab .add ty3 (nth 2 ds) (.int .i64 1)).bind fun t16=>some (.nrm,[t15,t5,t16,t9],h_1))
  (some ((.ext 0),[nth 0 ds,nth 1 ds,nth 2 ds,t9],h_1))
noncomputable def b8k (t0:D) (h:Hp):Option (D × Hp) :=
 (a0x tab a0r t0).bind fun t7=>((a0F (a8E t0 t7) [.int .i64 0,.any,.int .i64 0,.any] h).bind fun r=>some ((a0z 0 r.1),[nth 0 r.2.1,nth 1 r.2.1,nth 2 r.2.1,nth 3 r.2.1],r.2.2)).bind fun r_1=>a0D r_1.1 (some (a0i [nth 0 r_1.2.1],r_1.2.2)) fun x=>a0N x (some (a0i [.int .i64 0],r_1.2.2))
theorem c1o (t0:D) (h:Hp):R a7h [t0] h=b8k t0 h :=
 er i8 (by kernel_rfl) (by kernel_rfl)
noncomputable def a8u (t0 t1:D) (ds:List D) (h_1:Hp):Option Out :=
 (a0x tab a0C t0).bind fun t13=>(a0l tab .lss ty3 (nth 1 ds) t13).bind fun t14=>dIf t14
  ((a0b tab a0C t0 (nth 1 ds)).bind fun t19=>(a0c tab h_1 ty9 t19).bind fun t20=>(a0b tab a0C t1 (nth 1 ds)).bind fun t23=>(a0c tab h_1 ty9 t23).bind fun t24=>(a0l tab .neq ty9 t20 t24).bind fun t25=>dIf t25
  (some (.ret,[.bool false,nth 1 ds,t14,t25],h_1))
  ((a0l tab .add ty3 (nth 1 ds) (.int .i64 1)).bind fun t16=>some (.nrm,[nth 0 ds,t16,t14,t25],h_1)))
  (some ((.ext 0),[nth 0 ds,nth 1 ds,t14,nth 3 ds],h_1))
noncomputable def b7R (t0 t1:D) (h:Hp):Option (D × Hp) :=
 (a0x tab a0C t0).bind fun t7=>(a0x tab a0C t1).bind fun t9=>(a0l tab .neq ty3 t7 t9).bind fun t10=>dIf t10
  (some (a0i [.bool false],h))
  (((a0F (a8u t0 t1) [.bool false,.int .i64 0,.any,.any] h).bind fun r=>some ((a0z 0 r.1),[nth 0 r.2.1,nth 1 r.2.1,nth 2 r.2.1,nth 3 r.2.1],r.2.2)).bind fun r_1=>a0D r_1.1 (some (a0i [.bool true],r_1.2.2)) fun x=>a0N x (some (a0i [nth 0 r_1.2.1],r_1.2.2)))
theorem c0U (t0 t1:D) (h:Hp):R a7d [t0,t1] h=b7R t0 t1 h :=
 er i9 (by kernel_rfl) (by kernel_rfl)
noncomputable def b5w (t0 t1:D) (h:Hp):Option (D × Hp) :=
 (R b1p [t0] h).bind fun p7=>(R a9j [p7.1,.fn (.func a7e) [] []] p7.2).bind fun p9=>(R b4Q [p7.1,t1] p9.2).bind fun p12=>scope h p12.2 (a0i [p12.1])
theorem c0Q (t0 t1:D) (h:Hp):R b1o [t0,t1] h=b5w t0 t1 h :=
 er i10 (by kernel_rfl) (by kernel_rfl)
noncomputable def F44 (t0 t1:D) (h:Hp):Option (D × Hp) :=
 (a0x tab a5c t0).bind fun t7=>(b2U t7 t1).bind fun t9=>(a0E tab a5c false true false [t0,t9]).bind fun t10=>(a0T tab a3b [0] [t10]).bind fun t11=>(b7I a3b 2 h t11).bind fun p12=>some (a0i [p12.1],p12.2)
theorem e44 (t0 t1:D) (h:Hp):R c1G [t0,t1] h=F44 t0 t1 h :=
 er i11 (by kernel_rfl) (by kernel_rfl)
noncomputable def b7O (t0:D) (h:Hp):Option (D × Hp) :=
 (a0y tab a0C 5 [0,1,2,3,4] [.str [108,101,118,101,108],.str [64,104,111,115,116],.str [64,115,116,114,101,97,109],.str [99,111,100,101],.str [64,116,114,97,99,101]]).bind fun t4=>(R a3A [t0,.int .i64 5] h).bind fun p6=>(a0b tab a0C t4 p6.1).bind fun t7=>(a0c tab p6.2 ty9 t7).bind fun t8=>(a0y tab a0C 1 [0] [t8]).bind fun t9=>(R a3A [t0,.int .i64 2] p6.2).bind fun p11=>(a0l tab .eql ty3 p11.1 (.int .i64 1)).bind fun t12=>(dIf t12
  ((R b1r [t0] p11.2).bind fun p15=>(a0y tab a0C 1 [0] [p15.1]).bind fun t16=>(a0p tab p15.2 a0C a0C t9 t16).bind fun p17=>some (.nrm,[p17.1],p17.2))
  (some (.nrm,[t9],p11.2))).bind fun r=>a0D r.1 (scope h r.2.2 (a0i [nth 0 r.2.1])) fun x=>a0N x (scope h r.2.2 (a0i [.nils]))
theorem c0R (t0:D) (h:Hp):R a9g [t0] h=b7O t0 h :=
 er i12 (by kernel_rfl) (by kernel_rfl)
noncomputable def b0y (t7m:D) (ds_1:List D) (ds_2:List D) (h_3:Hp):Option Out :=
 (a0b tab a3m t7m (nth 1 ds_1)).bind fun t30=>(a0c tab h_3 a2h t30).bind fun t31=>(a0x tab a2h t31).bind fun t32=>(a0l tab .lss ty3 (nth 1 ds_2) t32).bind fun t33=>dIf t33
  ((a0b tab a3m t7m (nth 1 ds_1)).bind fun t38=>(a0c tab h_3 a2h t38).bind fun t39=>(a0b tab a2h t39 (nth 1 ds_2)).bind fun t41=>(a0a tab a1X 0 t41).bind fun t42=>(a0c tab h_3 ty9 t42).bind fun t43=>(a0l tab .eql ty9 t43 (.str [])).bind fun t44=>(dIf t44
  ((a0b tab a3m t7m (nth 1 ds_1)).bind fun t48=>(a0c tab h_3 a2h t48).bind fun t49=>(a0b tab a2h t49 (nth 1 ds_2)).bind fun t51=>(a0a tab a1X 1 t51).bind fun t52=>(a0c tab h_3 a0O t52).bind fun t53=>(R c0f [nth 0 ds_2,t53] h_3).bind fun p54=>some (.nrm,[p54.1],p54.2))
  (some (.nrm,[nth 0 ds_2],h_3))).bind fun r_3=>a0D (a0z 5 r_3.1) ((a0l tab .add ty3 (nth 1 ds_2) (.int .i64 1)).bind fun t35=>some (.nrm,[nth 0 r_3.2.1,t35,t33,t44],r_3.2.2)) fun x=>some (x,[nth 0 r_3.2.1,nth 1 ds_2,t33,t44],r_3.2.2))
  (some ((.ext 4),[nth 0 ds_2,nth 1 ds_2,t33,nth 3 ds_2],h_3))
noncomputable def b0x (t7m:D) (ds_1:List D) (h_2:Hp):Option Out :=
 (a0x tab a3m t7m).bind fun t23=>(a0l tab .lss ty3 (nth 1 ds_1) t23).bind fun t24=>dIf t24
  (((a0F (b0y t7m ds_1) [nth 0 ds_1,.int .i64 0,nth 4 ds_1,nth 5 ds_1] h_2).bind fun r_2=>some ((a0z 4 r_2.1),[nth 0 r_2.2.1,nth 1 r_2.2.1,nth 2 r_2.2.1,nth 3 r_2.2.1],r_2.2.2)).bind fun r_4=>a0D (a0z 3 r_4.1) ((a0l tab .add ty3 (nth 1 ds_1) (.int .i64 1)).bind fun t26=>some (.nrm,[nth 0 r_4.2.1,t26,nth 1 r_4.2.1,t24,nth 2 r_4.2.1,nth 3 r_4.2.1],r_4.2.2)) fun x_1=>some (x_1,[nth 0 r_4.2.1,nth 1 ds_1,nth 1 r_4.2.1,t24,nth 2 r_4.2.1,nth 3 r_4.2.1],r_4.2.2))
  (some ((.ext 2),[nth 0 ds_1,nth 1 ds_1,nth 2 ds_1,t24,nth 4 ds_1,nth 5 ds_1],h_2))
noncomputable def b4v (t0 t1:D) (ds:List D) (h_1:Hp):Option Out :=
 (R a3A [t0,.int .i64 2] h_1).bind fun p12=>(a0l tab .add ty3 (.int .i64 1) p12.1).bind fun t13=>(a0l tab .leq ty3 (nth 1 ds) t13).bind fun t14=>dIf t14
  ((R b8W [t0,nth 1 ds,t1] p12.2).bind fun p20=>((a0F (b0x p20.1) [nth 0 ds,.int .i64 0,nth 4 ds,nth 6 ds,nth 7 ds,nth 8 ds] p20.2).bind fun r_1=>some ((a0z 2 r_1.1),[nth 0 r_1.2.1,nth 1 r_1.2.1,nth 2 r_1.2.1,nth 3 r_1.2.1,nth 4 r_1.2.1,nth 5 r_1.2.1],r_1.2.2)).bind fun r_5=>a0D (a0z 1 r_5.1) ((a0l tab .add ty3 (nth 1 ds) (.int .i64 1)).bind fun t16=>some (.nrm,[nth 0 r_5.2.1,t16,p20.1,nth 1 r_5.2.1,nth 2 r_5.2.1,t14,nth 3 r_5.2.1,nth 4 r_5.2.1,nth 5 r_5.2.1],r_5.2.2)) fun x_2=>some (x_2,[nth 0 r_5.2.1,nth 1 ds,p20.1,nth 1 r_5.2.1,nth 2 r_5.2.1,t14,nth 3 r_5.2.1,nth 4 r_5.2.1,nth 5 r_5.2.1],r_5.2.2))
  (some ((.ext 0),[nth 0 ds,nth 1 ds,nth 2 ds,nth 3 ds,nth 4 ds,t14,nth 6 ds,nth 7 ds,nth 8 ds],p12.2))
noncomputable def F48 (t0 t1:D) (h:Hp):Option (D × Hp) :=
 ((a0F (b4v t0 t1) [.nils,.int .i64 1,.any,.any,.any,.any,.any,.any,.any] h).bind fun r=>some ((a0z 0 r.1),[nth 0 r.2.1,nth 1 r.2.1,nth 2 r.2.1,nth 3 r.2.1,nth 4 r.2.1,nth 5 r.2.1,nth 6 r.2.1,nth 7 r.2.1,nth 8 r.2.1],r.2.2)).bind fun r_6=>a0D r_6.1 (some (a0i [nth 0 r_6.2.1],r_6.2.2)) fun x_3=>a0N x_3 (some (a0i [.nils],r_6.2.2))
theorem e48 (t0 t1:D) (h:Hp):R c0d [t0,t1] h=F48 t0 t1 h :=
 er i13 (by kernel_rfl) (by kernel_rfl)
noncomputable def F24 (t0 t1:D) (h:Hp):Option (D × Hp) :=
 (R c0e [t0] h).bind fun p7=>(dUn .not p7.1).bind fun t8=>(gd t8 false (some t1)).bind fun t10=>(gd t8 false (a0l tab .lss ty3 t10 (.int .i64 1))).bind fun t11=>(a1s t8 (.bool true) t11).bind fun t12=>dIf t12
  (some (a0i [.int .i64 0],p7.2))
  ((a1y tab t0).bind fun t14=>(a0a tab a3b 0 t14).bind fun t15=>(a0c tab p7.2 a5c t15).bind fun t16=>(a1y tab t0).bind fun t18=>(a0a tab a3b 1 t18).bind fun t19=>(a0c tab p7.2 ty3 t19).bind fun t20=>(a0b tab a5c t16 t20).bind fun t21=>(a0c tab p7.2 ty5 t21).bind fun t22=>(a2g tab ty5 ty3 t22).bind fun t23=>(a1y tab t0).bind fun t25=>(a0a tab a3b 1 t25).bind fun t26=>(a0c tab p7.2 ty3 t26).bind fun t27=>(a0l tab .add ty3 t27 (.int .i64 1)).bind fun t28=>(a1y tab t0).bind fun t29=>(a0a tab a3b 1 t29).bind fun t30=>((a0s tab p7.2 ty3 t30 t28).bind fun h'=>some ((.und:D),h')).bind fun p907=>(a0l tab .mul ty3 t23 t1).bind fun t33=>(a0l tab .quo ty3 t33 (.int .i64 256)).bind fun t34=>some (a0i [t34],p907.2))
theorem e24 (t0 t1:D) (h:Hp):R a3A [t0,t1] h=F24 t0 t1 h :=
 er i14 (by kernel_rfl) (by kernel_rfl)
noncomputable def b8j (t0 t1 t2 t3:D) (h:Hp):Option (D × Hp) :=
 (b7I a0r 1 h t0).bind fun p4=>(a1J t2).bind fun t6=>(a0c tab p4.2 a0r p4.1).bind fun t14=>(R b1w [t14] p4.2).bind fun p15=>((a0s tab p15.2 a0r p4.1 p15.1).bind fun h'=>some ((.und:D),h')).bind fun p902=>(some (.fn (.func b1y) [] [p4.1,t6]:D)).bind fun t16=>(a2F R t16 [] p902.2).bind fun p19=>(a0B 0 p19.1).bind fun t20=>(a0B 1 p19.1).bind fun t21=>dIf t21
  ((a0c tab p19.2 a0r p4.1).bind fun t23=>(a0b tab a0r t23 t20).bind fun t25=>(a0a tab a0j 1 t25).bind fun t26=>(a0c tab p19.2 ty3 t26).bind fun t27=>(a0l tab .add ty3 t27 t3).bind fun t29=>(a0b tab a0r t23 t20).bind fun t30=>(a0a tab a0j 1 t30).bind fun t31=>((a0s tab p19.2 ty3 t31 t29).bind fun h'=>some ((.und:D),h')).bind fun p909=>(a0c tab p909.2 a0r p4.1).bind fun t32=>scope h p909.2 (a0i [t32]))
  ((a0c tab p19.2 a0C t6).bind fun t33=>(R b1x [t33] p19.2).bind fun p34=>(a0T tab a0j [0,1] [p34.1,t3]).bind fun t36=>(some ((.ptr p34.2.length 0 0:D),a0H p34.2 a0j 3 [[.nils,.int .i64 0,.int .i64 0]])).bind fun p12=>((a0s tab p12.2 a0j p12.1 t36).bind fun h'=>some ((.und:D),h')).bind fun p905=>(a0c tab p905.2 a0r p4.1).bind fun t37=>(a0x tab a0r t37).bind fun t38=>(a0l tab .geq ty3 t38 t1).bind fun t40=>(gd t40 true (a0c tab p905.2 a0r p4.1)).bind fun t42=>(gd t40 true (a0x tab a0r t42)).bind fun t43=>(gd t40 true (a0l tab .gtr ty3 t43 (.int .i64 0))).bind fun t44=>(a1s t40 t44 (.bool false)).bind fun t45=>(dIf t45
  ((a0c tab p905.2 a0r p4.1).bind fun t46=>(R a9u [t46,.fn (.func a7j) [] []] p905.2).bind fun p47=>(a7L 3 p47.1).bind fun t13=>(a0a tab a0j 1 t13).bind fun t48=>(a0c tab p47.2 ty3 t48).bind fun t49=>(a0l tab .add ty3 t49 t3).bind fun t51=>(a0a tab a0j 1 t13).bind fun t52=>(a0c tab p47.2 ty3 t52).bind fun t53=>(a0a tab a0j 1 p12.1).bind fun t54=>((a0s tab p47.2 ty3 t54 t51).bind fun h'=>some ((.und:D),h')).bind fun p907=>chk (a0c tab p907.2 ty3 t52=some t53)
 ((a0a tab a0j 2 p12.1).bind fun t55=>((a0s tab p907.2 ty3 t55 t53).bind fun h'=>some ((.und:D),h')).bind fun p909_1=>(a0c tab p909_1.2 a0r p4.1).bind fun t56=>(some (.fn (.func a4I) [] [t13]:D)).bind fun t57=>(R a9v [t56,t57] p909_1.2).bind fun p58=>((a0s tab p58.2 a0r p4.1 p58.1).bind fun h'=>some ((.und:D),h')).bind fun p903=>(a2F R t16 [] p903.2).bind fun p61=>(a0B 0 p61.1).bind fun t62=>(a0B 1 p61.1).bind fun t63=>some (.nrm,[t62,t13],p61.2)))
  (some (.nrm,[t20,.any],p905.2))).bind fun r=>a0D r.1 ((a0c tab r.2.2 a0r p4.1).bind fun t64=>(a0c tab r.2.2 a0j p12.1).bind fun t66=>(a0y tab a0r 1 [0] [t66]).bind fun t67=>(R a4J [t64,nth 0 r.2.1,t67] r.2.2).bind fun p68=>scope h p68.2 (a0i [p68.1])) fun x=>a0N x (scope h r.2.2 (a0i [.nils])))
theorem c1n (t0 t1 t2 t3:D) (h:Hp):R a5q [t0,t1,t2,t3] h=b8j t0 t1 t2 t3 h :=
 er i15 (by kernel_rfl) (by kernel_rfl)
noncomputable def a8s (t1:D) (ds:List D) (h_1:Hp):Option Out :=
 (a0x tab a0P t1).bind fun t9=>(a0l tab .lss ty3 (nth 1 ds) t9).bind fun t10=>dIf t10
  ((a0b tab a0P t1 (nth 1 ds)).bind fun t16=>(a0a tab a0k 0 t16).bind fun t17=>(a0c tab h_1 a0C t17).bind fun t18=>((a0p tab h_1 a0C a0C (.nils) t18).bind fun p=>some (b2T p)).bind fun p19=>(a0b tab a0P t1 (nth 1 ds)).bind fun t22=>(a0a tab a0k 1 t22).bind fun t23=>(a0c tab p19.2 a1c t23).bind fun t24=>((a0p tab p19.2 a1c a1c (.nils) t24).bind fun p=>some (b2T p)).bind fun p25=>(a0T tab a0h [0,1] [p19.1,p25.1]).bind fun t26=>(a0y tab a0u 1 [0] [t26]).bind fun t27=>(a0p tab p25.2 a0u a0u (nth 0 ds) t27).bind fun p28=>chk (a0c tab h_1 a1c t23=some t24)
 ((a0l tab .add ty3 (nth 1 ds) (.int .i64 1)).bind fun t12=>some (.nrm,[p28.1,t12,t10],p28.2)))
  (some ((.ext 0),[nth 0 ds,nth 1 ds,t10],h_1))
noncomputable def b7P (t0 t1:D) (h:Hp):Option (D × Hp) :=
 ((a0F (a8s t1) [.nils,.int .i64 0,.any] h).bind fun r=>some ((a0z 0 r.1),[nth 0 r.2.1,nth 1 r.2.1,nth 2 r.2.1],r.2.2)).bind fun r_1=>a0D r_1.1 (scope h r_1.2.2 (a0i [nth 0 r_1.2.1])) fun x=>a0N x (scope h r_1.2.2 (a0i [.nils]))
theorem c0S (t0 t1:D) (h:Hp):R a9h [t0,t1] h=b7P t0 t1 h :=
 er i17 (by kernel_rfl) (by kernel_rfl)
noncomputable def a8t (t0 t1 t2:D) (ds:List D) (h_1:Hp):Option Out :=
 (a0x tab a3U t2).bind fun t11=>(a0l tab .lss ty3 (nth 1 ds) t11).bind fun t12=>dIf t12
  ((a0b tab a3U t2 (nth 1 ds)).bind fun t20=>(a0c tab h_1 a0O t20).bind fun t21=>(R b1s [nth 0 ds,t0,t1,t21] h_1).bind fun p22=>(a0l tab .add ty3 (nth 1 ds) (.int .i64 1)).bind fun t14=>some (.nrm,[p22.1,t14,t12],p22.2))
  (some ((.ext 0),[nth 0 ds,nth 1 ds,t12],h_1))
noncomputable def b7Q (t0 t1 t2:D) (h:Hp):Option (D × Hp) :=
 ((a0F (a8t t0 t1 t2) [.nils,.int .i64 0,.any] h).bind fun r=>some ((a0z 0 r.1),[nth 0 r.2.1,nth 1 r.2.1,nth 2 r.2.1],r.2.2)).bind fun r_1=>a0D r_1.1 (some (a0i [nth 0 r_1.2.1],r_1.2.2)) fun x=>a0N x (some (a0i [.nils],r_1.2.2))
theorem c0T (t0 t1 t2:D) (h:Hp):R a9i [t0,t1,t2] h=b7Q t0 t1 t2 h :=
 er i18 (by kernel_rfl) (by kernel_rfl)
noncomputable def b5x (t0:D) (h:Hp):Option (D × Hp) :=
 (a0l tab .eql a0u t0 (.nils)).bind fun t4=>dIf t4
  (some (a0i [.nils],h))
  ((a0y tab a0u 0 [] []).bind fun t5=>(a0p tab h a0u a0u t5 t0).bind fun p7=>some (a0i [p7.1],p7.2))
theorem c0V (t0:D) (h:Hp):R b1p [t0] h=b5x t0 h :=
 er i19 (by kernel_rfl) (by kernel_rfl)
noncomputable def b5y (t0 t1:D) (h:Hp):Option (D × Hp) :=
 (a0x tab a0u t0).bind fun t6=>(R a9l [t0,t6,t1] h).bind fun p8=>some (a0i [],p8.2)
theorem b8R (t0 t1:D) (h:Hp):R a9j [t0,t1] h=b5y t0 t1 h :=
 er i20 (by kernel_rfl) (by kernel_rfl)
noncomputable def b7S (t0 t1:D) (h:Hp):Option (D × Hp) :=
 (a1J t0).bind fun t2=>(a1J t1).bind fun t3=>(a0c tab h a0h t3).bind fun t5=>(R a9k [t5] h).bind fun p6=>(a0c tab p6.2 a0h t2).bind fun t7=>(R a9k [t7] p6.2).bind fun p8=>(R c0j [p6.1,p8.1] p8.2).bind fun p9=>(a0a tab a0h 0 t2).bind fun t10=>(a0c tab p9.2 a0C t10).bind fun t11=>(a0a tab a0h 0 t3).bind fun t12=>(a0c tab p9.2 a0C t12).bind fun t13=>(R a5o [t11,t13] p9.2).bind fun p14=>(a0y tab a1c 2 [0,1] [p9.1,p14.1]).bind fun t15=>(R c0i [t15] p14.2).bind fun p16=>chk (a0c tab h a0h t2=some t7)
 (chk (a0c tab h a0C t10=some t11)
 (chk (a0c tab p6.2 a0C t10=some t11)
 (chk (a0c tab p8.2 a0C t10=some t11)
 (chk (a0c tab h a0C t12=some t13)
 (chk (a0c tab p6.2 a0C t12=some t13)
 (chk (a0c tab p8.2 a0C t12=some t13)
 (some (a0i [p16.1],p16.2))))))))
theorem c0W (t0 t1:D) (h:Hp):R a7e [t0,t1] h=b7S t0 t1 h :=
 er i21 (by kernel_rfl) (by kernel_rfl)
noncomputable def a6E (t3m t6m t7:D) (ds:List D) (h_1:Hp):Option Out :=
 (a0l tab .lss ty3 (nth 2 ds) t7).bind fun t9=>dIf t9
  ((a0b tab a1c t6m (nth 2 ds)).bind fun t10=>(a0c tab h_1 ty3 t10).bind fun t11=>(a0l tab .neq ty3 t11 t3m).bind fun t14=>dIf t14
  (some (.ret,[t11,t11,nth 2 ds,t9,t14],h_1))
  ((a0l tab .add ty3 (nth 2 ds) (.int .i64 1)).bind fun t16=>some (.nrm,[nth 0 ds,t11,t16,t9,t14],h_1)))
  (some ((.ext 0),[nth 0 ds,nth 1 ds,nth 2 ds,t9,nth 4 ds],h_1))
noncomputable def F89 (t0:D) (h:Hp):Option (D × Hp) :=
 (a0x tab a1c t0).bind fun t7=>((a0F (a6E (.int .i64 0) t0 t7) [.int .i64 0,.any,.int .i64 0,.any,.any] h).bind fun r=>some ((a0z 0 r.1),[nth 0 r.2.1,nth 1 r.2.1,nth 2 r.2.1,nth 3 r.2.1,nth 4 r.2.1],r.2.2)).bind fun r_1=>a0D r_1.1 (some (a0i [.int .i64 0],r_1.2.2)) fun x=>a0N x (some (a0i [nth 0 r_1.2.1],r_1.2.2))
theorem e89 (t0:D) (h:Hp):R c0i [t0] h=F89 t0 h :=
 er i22 (by kernel_rfl) (by kernel_rfl)
noncomputable def F90 (t0 t1:D) (h:Hp):Option (D × Hp) :=
 (R c0m [t0] h).bind fun p8=>(R c0m [t1] p8.2).bind fun p10=>dIf p8.1
  (dIf p10.1
  (some (a0i [.int .i64 0],p10.2))
  (some (a0i [.int .i64 (-1)],p10.2)))
  (dIf p10.1
  (some (a0i [.int .i64 1],p10.2))
  ((a0l tab .lss ty3 t0 t1).bind fun t16=>dIf t16
  (some (a0i [.int .i64 (-1)],p10.2))
  ((a0l tab .gtr ty3 t0 t1).bind fun t19=>dIf t19
  (some (a0i [.int .i64 1],p10.2))
  (some (a0i [.int .i64 0],p10.2)))))
theorem e90 (t0 t1:D) (h:Hp):R c0j [t0,t1] h=F90 t0 t1 h :=
 er i23 (by kernel_rfl) (by kernel_rfl)
noncomputable def b7T (t0:D) (h:Hp):Option (D × Hp) :=
 (a1J t0).bind fun t1=>(a0a tab a0h 1 t1).bind fun t3=>(a0c tab h a1c t3).bind fun t4=>(a0x tab a1c t4).bind fun t5=>(a0l tab .eql ty3 t5 (.int .i64 0)).bind fun t6=>dIf t6
  (some (a0i [.int .i64 0],h))
  ((a0a tab a0h 1 t1).bind fun t7=>(a0c tab h a1c t7).bind fun t8=>(a0b tab a1c t8 (.int .i64 0)).bind fun t9=>(a0c tab h ty3 t9).bind fun t10=>some (a0i [t10],h))
theorem c0X (t0:D) (h:Hp):R a9k [t0] h=b7T t0 h :=
 er i24 (by kernel_rfl) (by kernel_rfl)
noncomputable def b7U (t0 t1:D) (h:Hp):Option (D × Hp) :=
 (R b1t [t0,t1] h).bind fun p7=>some (a0i [p7.1],p7.2)
theorem c0Y (t0 t1:D) (h:Hp):R a5o [t0,t1] h=b7U t0 t1 h :=
 er i25 (by kernel_rfl) (by kernel_rfl)
noncomputable def b5z (t0 t1:D) (h:Hp):Option (D × Hp) :=
 (b8O t1 (.int .i64 0)).bind fun t7=>(a0x tab a0u t0).bind fun t9=>(b2U t7 t9).bind fun t10=>(a0E tab a0u false true false [t0,t10]).bind fun t11=>some (a0i [t11],h)
theorem b8S (t0 t1:D) (h:Hp):R b4Q [t0,t1] h=b5z t0 t1 h :=
 er i26 (by kernel_rfl) (by kernel_rfl)
noncomputable def b7W (t0:D) (h:Hp):Option (D × Hp) :=
 (a0y tab a0C 4 [0,1,2,3] [.str [108,101,118,101,108],.str [109,115],.str [117,115,101,114],.str [99,111,100,101]]).bind fun t3=>(R a3A [t0,.int .i64 4] h).bind fun p5=>(a0b tab a0C t3 p5.1).bind fun t6=>(a0c tab p5.2 ty9 t6).bind fun t7=>some (a0i [t7],p5.2)
theorem c1a (t0:D) (h:Hp):R b1r [t0] h=b7W t0 h :=
 er i27 (by kernel_rfl) (by kernel_rfl)
noncomputable def b0z (t0 t1:D) (ds:List D) (ds_1:List D) (h_2:Hp):Option Out :=
 (a0l tab .gtr ty3 (nth 2 ds_1) (.int .i64 0)).bind fun t24=>dIf t24
  ((a0l tab .add ty3 (.int .i64 5) (nth 1 ds)).bind fun t30=>(R c0h [t0,t1,t30,nth 1 ds_1] h_2).bind fun p32=>(a7L 11 p32.1).bind fun t12=>(a0c tab p32.2 a1X t12).bind fun t34=>(a0y tab a2h 1 [0] [t34]).bind fun t35=>(a0p tab p32.2 a2h a2h (nth 0 ds_1) t35).bind fun p36=>(a0a tab a1X 1 t12).bind fun t37=>(a0a tab a0O 3 t37).bind fun t38=>(a0c tab p36.2 ty3 t38).bind fun t39=>(a0l tab .sub ty3 (nth 2 ds_1) (.int .i64 1)).bind fun t26=>some (.nrm,[p36.1,t39,t26,t12,t24],p36.2))
  (some ((.ext 2),[nth 0 ds_1,nth 1 ds_1,nth 2 ds_1,nth 3 ds_1,t24],h_2))
noncomputable def b4w (t0 t1 t2:D) (ds:List D) (h_1:Hp):Option Out :=
 (R a3A [t0,.int .i64 3] h_1).bind fun p15=>(a0l tab .leq ty3 (nth 1 ds) p15.1).bind fun t16=>dIf t16
  ((a0l tab .add ty3 t2 (.int .i64 1)).bind fun t21=>(R a3A [t0,t21] p15.2).bind fun p22=>((a0F (b0z t0 t1 ds) [.nils,.int .i64 0,p22.1,nth 5 ds,nth 7 ds] p22.2).bind fun r_1=>some ((a0z 2 r_1.1),[nth 0 r_1.2.1,nth 1 r_1.2.1,nth 2 r_1.2.1,nth 3 r_1.2.1,nth 4 r_1.2.1],r_1.2.2)).bind fun r_2=>a0D r_2.1 ((a0y tab a3m 1 [0] [nth 0 r_2.2.1]).bind fun t42=>(a0p tab r_2.2.2 a3m a3m (nth 0 ds) t42).bind fun p43=>(a0l tab .add ty3 (nth 1 ds) (.int .i64 1)).bind fun t18=>some (.nrm,[p43.1,t18,nth 0 r_2.2.1,nth 1 r_2.2.1,nth 2 r_2.2.1,nth 3 r_2.2.1,t16,nth 4 r_2.2.1],p43.2)) fun x=>a0D (a0z 1 x) ((a0l tab .add ty3 (nth 1 ds) (.int .i64 1)).bind fun t18_1=>some (.nrm,[nth 0 ds,t18_1,nth 0 r_2.2.1,nth 1 r_2.2.1,nth 2 r_2.2.1,nth 3 r_2.2.1,t16,nth 4 r_2.2.1],r_2.2.2)) fun x_1=>some (x_1,[nth 0 ds,nth 1 ds,nth 0 r_2.2.1,nth 1 r_2.2.1,nth 2 r_2.2.1,nth 3 r_2.2.1,t16,nth 4 r_2.2.1],r_2.2.2))
  (some ((.ext 0),[nth 0 ds,nth 1 ds,nth 2 ds,nth 3 ds,nth 4 ds,nth 5 ds,t16,nth 7 ds],p15.2))
noncomputable def F71 (t0 t1 t2:D) (h:Hp):Option (D × Hp) :=
 ((a0F (b4w t0 t1 t2) [.nils,.int .i64 0,.any,.any,.any,.any,.any,.any] h).bind fun r=>some ((a0z 0 r.1),[nth 0 r.2.1,nth 1 r.2.1,nth 2 r.2.1,nth 3 r.2.1,nth 4 r.2.1,nth 5 r.2.1,nth 6 r.2.1,nth 7 r.2.1],r.2.2)).bind fun r_3=>a0D r_3.1 (scope h r_3.2.2 (a0i [nth 0 r_3.2.1])) fun x_2=>a0N x_2 (scope h r_3.2.2 (a0i [.nils]))
theorem e71 (t0 t1 t2:D) (h:Hp):R b8W [t0,t1,t2] h=F71 t0 t1 t2 h :=
 er i28 (by kernel_rfl) (by kernel_rfl)
noncomputable def a5d (t0 t3:D) (ds:List D) (h_1:Hp):Option Out :=
 (a0l tab .gtr ty3 (nth 0 ds) (.int .i64 0)).bind fun t10=>(gd t10 true (a0c tab h_1 a0O t3)).bind fun t12=>(gd t10 true (some t0)).bind fun t13=>(gd t10 true (some (nth 0 ds))).bind fun t14=>(gd t10 true (a0l tab .sub ty3 t14 (.int .i64 1))).bind fun t15=>(gd t10 true (a0b tab a3U t13 t15)).bind fun t16=>(gd t10 true (a0c tab h_1 a0O t16)).bind fun t17=>(gdW t10 true h_1 (R c1J [t12,t17] h_1)).bind fun p18=>(a1s t10 p18.1 (.bool false)).bind fun t19=>dIf t19
  ((a0l tab .sub ty3 (nth 0 ds) (.int .i64 1)).bind fun t21=>some (.nrm,[t21,t19],p18.2))
  (some ((.ext 0),[nth 0 ds,t19],p18.2))
noncomputable def F72 (t0 t1:D) (h:Hp):Option (D × Hp) :=
 (a1J t1).bind fun t3=>(a0x tab a3U t0).bind fun t8=>((a0F (a5d t0 t3) [t8,.any] h).bind fun r=>some ((a0z 0 r.1),[nth 0 r.2.1,nth 1 r.2.1],r.2.2)).bind fun r_1=>a0D r_1.1 ((a0E tab a3U false true false [t0,nth 0 r_1.2.1]).bind fun t24=>(a0p tab r_1.2.2 a3U a3U (.nils) t24).bind fun p25=>(a0c tab p25.2 a0O t3).bind fun t27=>(a0y tab a3U 1 [0] [t27]).bind fun t28=>(a0p tab p25.2 a3U a3U p25.1 t28).bind fun p29=>(a0E tab a3U true false false [t0,nth 0 r_1.2.1]).bind fun t32=>(a0p tab p29.2 a3U a3U p29.1 t32).bind fun p33=>scope h p33.2 (a0i [p33.1])) fun x=>a0N x (scope h r_1.2.2 (a0i [.nils]))
theorem e72 (t0 t1:D) (h:Hp):R c0f [t0,t1] h=F72 t0 t1 h :=
 er i29 (by kernel_rfl) (by kernel_rfl)
noncomputable def F57 (t0:D) (h:Hp):Option (D × Hp) :=
 (a1y tab t0).bind fun t4=>(a0a tab a3b 1 t4).bind fun t5=>(a0c tab h ty3 t5).bind fun t6=>(a1y tab t0).bind fun t8=>(a0a tab a3b 0 t8).bind fun t9=>(a0c tab h a5c t9).bind fun t10=>(a0x tab a5c t10).bind fun t11=>(a0l tab .lss ty3 t6 t11).bind fun t12=>some (a0i [t12],h)
theorem e57 (t0:D) (h:Hp):R c0e [t0] h=F57 t0 h :=
 er i30 (by kernel_rfl) (by kernel_rfl)
noncomputable def b5C (t0:D) (h:Hp):Option (D × Hp) :=
 (a0l tab .eql a0r t0 (.nils)).bind fun t4=>dIf t4
  (some (a0i [.nils],h))
  ((a0y tab a0r 0 [] []).bind fun t5=>(a0p tab h a0r a0r t5 t0).bind fun p7=>some (a0i [p7.1],p7.2))
theorem c1p (t0:D) (h:Hp):R b1w [t0] h=b5C t0 h :=
 er i31 (by kernel_rfl) (by kernel_rfl)
noncomputable def b8m (t0 t1:D) (h:Hp):Option (D × Hp) :=
 (a0c tab h a0r t0).bind fun t4=>(a0c tab h a0C t1).bind fun t5=>(R a9t [t4,t5,.fn (.func a7i) [] []] h).bind fun p6=>(a0B 0 p6.1).bind fun t7=>(a0B 1 p6.1).bind fun t8=>some (a0i [t7,t8],p6.2)
theorem c1s (t0 t1:D) (h:Hp):R b1y [t0,t1] h=b8m t0 t1 h :=
 er i32 (by kernel_rfl) (by kernel_rfl)
noncomputable def a8G (t0 t1 t2:D) (ds:List D) (h_1:Hp):Option Out :=
 (a0l tab .lss ty3 (nth 0 ds) (nth 1 ds)).bind fun t17=>dIf t17
  ((a0l tab .add ty3 (nth 0 ds) (nth 1 ds)).bind fun t20=>(a2g tab ty3 a2S t20).bind fun t21=>(a0l tab .shr a2S t21 (.int .u64 1)).bind fun t22=>(a2g tab a2S ty3 t22).bind fun t23=>(a0b tab a0r t0 t23).bind fun t27=>(a0c tab h_1 a0j t27).bind fun t28=>(a2F R t2 [t28,t1] h_1).bind fun p30=>(a0l tab .lss ty3 p30.1 (.int .i64 0)).bind fun t31=>(dIf t31
  ((a0l tab .add ty3 t23 (.int .i64 1)).bind fun t33=>some (.nrm,[t33,nth 1 ds],p30.2))
  (some (.nrm,[nth 0 ds,t23],p30.2))).bind fun r_1=>some ((a0z 1 r_1.1),[nth 0 r_1.2.1,nth 1 r_1.2.1,t23,t17,t31],r_1.2.2))
  (some ((.ext 0),[nth 0 ds,nth 1 ds,nth 2 ds,t17,nth 4 ds],h_1))
noncomputable def b8n (t0 t1 t2:D) (h:Hp):Option (D × Hp) :=
 (a0x tab a0r t0).bind fun t13=>((a0F (a8G t0 t1 t2) [.int .i64 0,t13,.any,.any,.any] h).bind fun r=>some ((a0z 0 r.1),[nth 0 r.2.1,nth 1 r.2.1,nth 2 r.2.1,nth 3 r.2.1,nth 4 r.2.1],r.2.2)).bind fun r_2=>a0D r_2.1 ((a0l tab .lss ty3 (nth 0 r_2.2.1) t13).bind fun t38=>(gd t38 true (some t2)).bind fun t40=>(gd t38 true (some t0)).bind fun t41=>(gd t38 true (some (nth 0 r_2.2.1))).bind fun t42=>(gd t38 true (a0b tab a0r t41 t42)).bind fun t43=>(gd t38 true (a0c tab r_2.2.2 a0j t43)).bind fun t44=>(gd t38 true (some t1)).bind fun t45=>(gdW t38 true r_2.2.2 (a2F R t40 [t44,t45] r_2.2.2)).bind fun p46=>(gd t38 true (a0l tab .eql ty3 p46.1 (.int .i64 0))).bind fun t47=>(a1s t38 t47 (.bool false)).bind fun t48=>some (a0i [nth 0 r_2.2.1,t48],p46.2)) fun x=>a0N x (some (a0i [.int .i64 0,.bool false],r_2.2.2))
theorem c1t (t0 t1 t2:D) (h:Hp):R a9t [t0,t1,t2] h=b8n t0 t1 t2 h :=
 er i33 (by kernel_rfl) (by kernel_rfl)
noncomputable def b8o (t0 t1:D) (h:Hp):Option (D × Hp) :=
 (a1J t0).bind fun t2=>(a0a tab a0j 0 t2).bind fun t5=>(a0c tab h a0C t5).bind fun t6=>(R a5o [t6,t1] h).bind fun p8=>some (a0i [p8.1],p8.2)
theorem c1u (t0 t1:D) (h:Hp):R a7i [t0,t1] h=b8o t0 t1 h :=
 er i34 (by kernel_rfl) (by kernel_rfl)
noncomputable def b5D (t0:D) (h:Hp):Option (D × Hp) :=
 (a0l tab .eql a0C t0 (.nils)).bind fun t4=>dIf t4
  (scope h h (a0i [.nils]))
  ((a0y tab a0C 0 [] []).bind fun t5=>(a0p tab h a0C a0C t5 t0).bind fun p7=>scope h p7.2 (a0i [p7.1]))
theorem c1q (t0:D) (h:Hp):R b1x [t0] h=b5D t0 h :=
 er i35 (by kernel_rfl) (by kernel_rfl)
noncomputable def a8H (t0 t1:D) (p5:D × Hp) (ds:List D) (h_1:Hp):Option Out :=
 (a0x tab a0r t0).bind fun t16=>(a0l tab .lss ty3 (nth 0 ds) t16).bind fun t17=>dIf t17
  ((a0b tab a0r t0 (nth 0 ds)).bind fun t23=>(a0c tab h_1 a0j t23).bind fun t24=>(a0c tab h_1 a0j p5.1).bind fun t25=>(a2F R t1 [t24,t25] h_1).bind fun p26=>(a0l tab .lss ty3 p26.1 (.int .i64 0)).bind fun t27=>(dIf t27
  ((a0b tab a0r t0 (nth 0 ds)).bind fun t30=>(a0c tab p26.2 a0j t30).bind fun t31=>((a0s tab p26.2 a0j p5.1 t31).bind fun h'=>some ((.und:D),h')).bind fun p904_1=>some (.nrm,([]:List D),p904_1.2))
  (some (.nrm,([]:List D),p26.2))).bind fun r_2=>a0D (a0z 1 r_2.1) ((a0l tab .add ty3 (nth 0 ds) (.int .i64 1)).bind fun t19=>some (.nrm,[t19,t17,t27],r_2.2.2)) fun x_1=>some (x_1,[nth 0 ds,t17,t27],r_2.2.2))
  (some ((.ext 0),[nth 0 ds,t17,nth 2 ds],h_1))
noncomputable def b8p (t0 t1:D) (h:Hp):Option (D × Hp) :=
 (some ((.ptr h.length 0 0:D),a0H h a0j 3 [[.nils,.int .i64 0,.int .i64 0]])).bind fun p4=>(a0x tab a0r t0).bind fun t8=>(a0l tab .lss ty3 t8 (.int .i64 1)).bind fun t9=>(dIf t9
  (((none:Option D)).bind fun t10=>((none:Option D)).bind fun t901=>some (.nrm,([]:List D),p4.2))
  (some (.nrm,([]:List D),p4.2))).bind fun r=>a0D r.1 ((a0b tab a0r t0 (.int .i64 0)).bind fun t12=>(a0c tab r.2.2 a0j t12).bind fun t13=>(some ((.ptr r.2.2.length 0 0:D),a0H r.2.2 a0j 3 [[.nils,.int .i64 0,.int .i64 0]])).bind fun p5=>((a0s tab p5.2 a0j p5.1 t13).bind fun h'=>some ((.und:D),h')).bind fun p904=>((a0F (a8H t0 t1 p5) [.int .i64 1,.any,.any] p904.2).bind fun r_1=>some ((a0z 0 r_1.1),[nth 0 r_1.2.1,nth 1 r_1.2.1,nth 2 r_1.2.1],r_1.2.2)).bind fun r_3=>a0D r_3.1 ((a0c tab r_3.2.2 a0j p5.1).bind fun t32=>((a0s tab r_3.2.2 a0j p4.1 t32).bind fun h'=>some ((.und:D),h')).bind fun p901=>(a0c tab p901.2 a0j p4.1).bind fun d0=>scope h p901.2 (a0i [d0])) fun x_2=>a0N x_2 ((a0c tab r_3.2.2 a0j p4.1).bind fun d0=>scope h r_3.2.2 (a0i [d0]))) fun x=>a0N x ((a0c tab r.2.2 a0j p4.1).bind fun d0=>scope h r.2.2 (a0i [d0]))
theorem c1v (t0 t1:D) (h:Hp):R a9u [t0,t1] h=b8p t0 t1 h :=
 er i36 (by kernel_rfl) (by kernel_rfl)
noncomputable def b8q (t0 t1:D) (h:Hp):Option (D × Hp) :=
 (a1J t0).bind fun t2=>(a1J t1).bind fun t3=>(a0a tab a0j 1 t2).bind fun t5=>(a0c tab h ty3 t5).bind fun t6=>(a0a tab a0j 1 t3).bind fun t7=>(a0c tab h ty3 t7).bind fun t8=>(R c0j [t6,t8] h).bind fun p9=>(a0a tab a0j 0 t2).bind fun t10=>(a0c tab p9.2 a0C t10).bind fun t11=>(a0a tab a0j 0 t3).bind fun t12=>(a0c tab p9.2 a0C t12).bind fun t13=>(R a5o [t11,t13] p9.2).bind fun p14=>(a0y tab a1c 2 [0,1] [p9.1,p14.1]).bind fun t15=>(R c0i [t15] p14.2).bind fun p16=>chk (a0c tab h a0C t10=some t11)
 (chk (a0c tab h a0C t12=some t13)
 (some (a0i [p16.1],p16.2)))
theorem c1w (t0 t1:D) (h:Hp):R a7j [t0,t1] h=b8q t0 t1 h :=
 er i37 (by kernel_rfl) (by kernel_rfl)
noncomputable def a8I (t0 t1:D) (ds:List D) (h_1:Hp):Option Out :=
 (a0x tab a0r t0).bind fun t18=>(a0l tab .lss ty3 (nth 1 ds) t18).bind fun t19=>dIf t19
  ((a0b tab a0r t0 (nth 1 ds)).bind fun t24=>(a0c tab h_1 a0j t24).bind fun t25=>(a7L 3 t25).bind fun t7=>(a0c tab h_1 a0j t7).bind fun t27=>(a2F R t1 [t27] h_1).bind fun p28=>(dUn .not p28.1).bind fun t29=>(dIf t29
  ((a0c tab p28.2 a0j t7).bind fun t32=>(a0b tab a0r t0 (nth 0 ds)).bind fun t33=>((a0s tab p28.2 a0j t33 t32).bind fun h'=>some ((.und:D),h')).bind fun p904=>(a0l tab .add ty3 (nth 0 ds) (.int .i64 1)).bind fun t35=>some (.nrm,[t35],p904.2))
  (some (.nrm,[nth 0 ds],p28.2))).bind fun r_1=>a0D (a0z 1 r_1.1) ((a0l tab .add ty3 (nth 1 ds) (.int .i64 1)).bind fun t21=>some (.nrm,[nth 0 r_1.2.1,t21,t7,t19,t29],r_1.2.2)) fun x=>some (x,[nth 0 r_1.2.1,nth 1 ds,t7,t19,t29],r_1.2.2))
  (some ((.ext 0),[nth 0 ds,nth 1 ds,nth 2 ds,t19,nth 4 ds],h_1))
noncomputable def b8r (t0 t1:D) (h:Hp):Option (D × Hp) :=
 (R a9w [t0,t1] h).bind fun p10=>(a0l tab .eql ty3 p10.1 (.int .i64 (-1))).bind fun t12=>dIf t12
  (some (a0i [t0],p10.2))
  ((a0l tab .add ty3 p10.1 (.int .i64 1)).bind fun t15=>((a0F (a8I t0 t1) [p10.1,t15,.any,.any,.any] p10.2).bind fun r=>some ((a0z 0 r.1),[nth 0 r.2.1,nth 1 r.2.1,nth 2 r.2.1,nth 3 r.2.1,nth 4 r.2.1],r.2.2)).bind fun r_2=>a0D r_2.1 ((a0E tab a0r true false false [t0,nth 0 r_2.2.1]).bind fun t38=>(a4D tab r_2.2.2 a0r t38).bind fun p903=>(a0E tab a0r false true false [t0,nth 0 r_2.2.1]).bind fun t41=>some (a0i [t41],p903.2)) fun x_1=>a0N x_1 (some (a0i [.nils],r_2.2.2)))
theorem c1x (t0 t1:D) (h:Hp):R a9v [t0,t1] h=b8r t0 t1 h :=
 er i38 (by kernel_rfl) (by kernel_rfl)
noncomputable def b8s (t0 t1:D) (h:Hp):Option (D × Hp) :=
 (a1J t0).bind fun t2=>(a0a tab a0j 0 t2).bind fun t4=>(a0c tab h a0C t4).bind fun t5=>(a0a tab a0j 0 t1).bind fun t6=>(a0c tab h a0C t6).bind fun t7=>(R a5o [t5,t7] h).bind fun p8=>(a0l tab .eql ty3 p8.1 (.int .i64 0)).bind fun t9=>some (a0i [t9],p8.2)
theorem c1y (t0 t1:D) (h:Hp):R a4I [t0,t1] h=b8s t0 t1 h :=
 er i39 (by kernel_rfl) (by kernel_rfl)
noncomputable def b7X (t0 t1 t2 t3:D) (h:Hp):Option (D × Hp) :=
 (a1J t3).bind fun t7=>(a0c tab h a0O t7).bind fun t13=>(R a9n [t1,t2,t13] h).bind fun p14=>(a0y tab a0P 1 [0] [p14.1]).bind fun t15=>(R a9m [t2,t0,t15] p14.2).bind fun p16=>some (a0i [p16.1],p16.2)
theorem c1b (t0 t1 t2 t3:D) (h:Hp):R b1s [t0,t1,t2,t3] h=b7X t0 t1 t2 t3 h :=
 er i42 (by kernel_rfl) (by kernel_rfl)
noncomputable def a5D (t0 t1 t2 t6m:D) (ds:List D) (h_1:Hp):Option Out :=
 (a0l tab .leq ty3 (nth 1 ds) t1).bind fun t13=>dIf t13
  ((R a4H [t0,nth 0 ds,nth 1 ds,t2] h_1).bind fun p18=>(a0l tab .add ty3 (nth 1 ds) t6m).bind fun t22=>some (.nrm,[nth 1 ds,t22,t13],p18.2))
  (some ((.ext 0),[nth 0 ds,nth 1 ds,t13],h_1))
noncomputable def a8w (t0 t1 t2:D) (ds_1:List D) (ds_2:List D) (h_3:Hp):Option Out :=
 (a0l tab .leq ty3 (nth 1 ds_2) t1).bind fun t35=>dIf t35
  ((a0l tab .add ty3 (nth 0 ds_2) (nth 0 ds_1)).bind fun t40=>(R a3X [t0,nth 0 ds_2,t40,nth 1 ds_2,t2] h_3).bind fun p43=>(a0l tab .mul ty3 (.int .i64 2) (nth 0 ds_1)).bind fun t47=>(a0l tab .add ty3 (nth 1 ds_2) t47).bind fun t48=>some (.nrm,[nth 1 ds_2,t48,t35],p43.2))
  (some ((.ext 4),[nth 0 ds_2,nth 1 ds_2,t35],h_3))
noncomputable def a5E (t0 t1 t2:D) (ds_1:List D) (h_2:Hp):Option Out :=
 (a0l tab .lss ty3 (nth 0 ds_1) t1).bind fun t30=>dIf t30
  ((a0l tab .mul ty3 (.int .i64 2) (nth 0 ds_1)).bind fun t32=>((a0F (a8w t0 t1 t2 ds_1) [.int .i64 0,t32,nth 5 ds_1] h_2).bind fun r_3=>some ((a0z 4 r_3.1),[nth 0 r_3.2.1,nth 1 r_3.2.1,nth 2 r_3.2.1],r_3.2.2)).bind fun r_4=>a0D r_4.1 ((a0l tab .add ty3 (nth 0 r_4.2.1) (nth 0 ds_1)).bind fun t51=>(a0l tab .lss ty3 t51 t1).bind fun t54=>(dIf t54
  ((R a3X [t0,nth 0 r_4.2.1,t51,t1,t2] r_4.2.2).bind fun p60=>some (.nrm,([]:List D),p60.2))
  (some (.nrm,([]:List D),r_4.2.2))).bind fun r_5=>a0D r_5.1 ((a0l tab .mul ty3 (nth 0 ds_1) (.int .i64 2)).bind fun t62=>some (.nrm,[t62,nth 0 r_4.2.1,nth 1 r_4.2.1,t51,t30,nth 2 r_4.2.1,t54],r_5.2.2)) fun x_2=>some ((a0z 3 x_2),[nth 0 ds_1,nth 0 r_4.2.1,nth 1 r_4.2.1,t51,t30,nth 2 r_4.2.1,t54],r_5.2.2)) fun x_1=>some ((a0z 3 x_1),[nth 0 ds_1,nth 0 r_4.2.1,nth 1 r_4.2.1,nth 3 ds_1,t30,nth 2 r_4.2.1,nth 6 ds_1],r_4.2.2))
  (some ((.ext 2),[nth 0 ds_1,nth 1 ds_1,nth 2 ds_1,nth 3 ds_1,t30,nth 5 ds_1,nth 6 ds_1],h_2))
noncomputable def b5A (t0 t1 t2:D) (h:Hp):Option (D × Hp) :=
 ((a0F (a5D t0 t1 t2 (.int .i64 20)) [.int .i64 0,.int .i64 20,.any] h).bind fun r=>some ((a0z 0 r.1),[nth 0 r.2.1,nth 1 r.2.1,nth 2 r.2.1],r.2.2)).bind fun r_1=>a0D r_1.1 ((R a4H [t0,nth 0 r_1.2.1,t1,t2] r_1.2.2).bind fun p27=>((a0F (a5E t0 t1 t2) [.int .i64 20,nth 0 r_1.2.1,nth 1 r_1.2.1,.any,.any,.any,.any] p27.2).bind fun r_2=>some ((a0z 2 r_2.1),[nth 0 r_2.2.1,nth 1 r_2.2.1,nth 2 r_2.2.1,nth 3 r_2.2.1,nth 4 r_2.2.1,nth 5 r_2.2.1,nth 6 r_2.2.1],r_2.2.2)).bind fun r_6=>a0N r_6.1 (some (a0i [],r_6.2.2))) fun x=>a0N x (some (a0i [],r_1.2.2))
theorem b8T (t0 t1 t2:D) (h:Hp):R a9l [t0,t1,t2] h=b5A t0 t1 t2 h :=
 er i43 (by kernel_rfl) (by kernel_rfl)
noncomputable def F99 (t0:D) (h:Hp):Option (D × Hp) :=
 (a0l tab .neq ty3 t0 t0).bind fun t5=>some (a0i [t5],h)
theorem e99 (t0:D) (h:Hp):R c0m [t0] h=F99 t0 h :=
 er i44 (by kernel_rfl) (by kernel_rfl)
noncomputable def a8x (t1 t9m t10:D) (ds:List D) (h_1:Hp):Option Out :=
 (a0l tab .lss ty3 (nth 5 ds) t10).bind fun t12=>dIf t12
  ((a0b tab a0C t9m (nth 5 ds)).bind fun t14=>(a0c tab h_1 ty9 t14).bind fun t15=>(a0x tab a0C t1).bind fun t18=>(a0l tab .geq ty3 (nth 5 ds) t18).bind fun t19=>dIf t19
  (some (.ret,[.int .i64 1,nth 5 ds,t15,nth 3 ds,nth 4 ds,nth 5 ds,t12,t19,nth 8 ds],h_1))
  ((a0b tab a0C t1 (nth 5 ds)).bind fun t22=>(a0c tab h_1 ty9 t22).bind fun t23=>(R c1K [t15,t23] h_1).bind fun p26=>(a0l tab .neq ty3 p26.1 (.int .i64 0)).bind fun t28=>dIf t28
  (some (.ret,[p26.1,nth 5 ds,t15,t23,p26.1,nth 5 ds,t12,t19,t28],p26.2))
  ((a0l tab .add ty3 (nth 5 ds) (.int .i64 1)).bind fun t30=>some (.nrm,[nth 0 ds,nth 5 ds,t15,t23,p26.1,t30,t12,t19,t28],p26.2))))
  (some ((.ext 0),[nth 0 ds,nth 1 ds,nth 2 ds,nth 3 ds,nth 4 ds,nth 5 ds,t12,nth 7 ds,nth 8 ds],h_1))
noncomputable def b7Y (t0 t1:D) (h:Hp):Option (D × Hp) :=
 (a0x tab a0C t0).bind fun t10=>((a0F (a8x t1 t0 t10) [.int .i64 0,.any,.any,.any,.any,.int .i64 0,.any,.any,.any] h).bind fun r=>some ((a0z 0 r.1),[nth 0 r.2.1,nth 1 r.2.1,nth 2 r.2.1,nth 3 r.2.1,nth 4 r.2.1,nth 5 r.2.1,nth 6 r.2.1,nth 7 r.2.1,nth 8 r.2.1],r.2.2)).bind fun r_1=>a0D r_1.1 ((a0x tab a0C t0).bind fun t32=>(a0x tab a0C t1).bind fun t34=>(a0l tab .lss ty3 t32 t34).bind fun t35=>dIf t35
  (some (a0i [.int .i64 (-1)],r_1.2.2))
  (some (a0i [.int .i64 0],r_1.2.2))) fun x=>a0N x (some (a0i [nth 0 r_1.2.1],r_1.2.2))
theorem c1c (t0 t1:D) (h:Hp):R b1t [t0,t1] h=b7Y t0 t1 h :=
 er i45 (by kernel_rfl) (by kernel_rfl)
noncomputable def b4x (t0:D) (p9:D × Hp) (ds:List D) (h_1:Hp):Option Out :=
 (a0l tab .gtr ty3 (nth 1 ds) (.int .i64 0)).bind fun t24=>dIf t24
  ((R c0k [t0] h_1).bind fun p28=>(a0x tab ty9 p28.1).bind fun t30=>(a0l tab .add ty3 t30 (.int .i64 1)).bind fun t31=>(R a3A [t0,.int .i64 2] p28.2).bind fun p33=>(a0l tab .add ty3 t31 p33.1).bind fun t34=>(a0a tab a0O 4 p9.1).bind fun t35=>(a0c tab p33.2 a7H t35).bind fun t36=>(a0T tab b2X [0,1,2] [nth 0 ds,t34,p28.1]).bind fun t40=>(a0y tab a7H 1 [0] [t40]).bind fun t41=>(a0p tab p33.2 a7H a7H t36 t41).bind fun p42=>(a0a tab a0O 4 p9.1).bind fun t43=>((a0s tab p42.2 a7H t43 p42.1).bind fun h'=>some ((.und:D),h')).bind fun p909=>(a0l tab .add ty3 (nth 0 ds) t34).bind fun t46=>(a0l tab .sub ty3 (nth 1 ds) (.int .i64 1)).bind fun t26=>some (.nrm,[t46,t26,p28.1,t34,t24],p909.2))
  (some ((.ext 0),[nth 0 ds,nth 1 ds,nth 2 ds,nth 3 ds,t24],h_1))
noncomputable def b4y (p9:D × Hp) (ds_1:List D) (h_2:Hp):Option Out :=
 (a0a tab a0O 4 p9.1).bind fun t53=>(a0c tab h_2 a7H t53).bind fun t54=>(a0x tab a7H t54).bind fun t55=>(a0l tab .lss ty3 (nth 0 ds_1) t55).bind fun t56=>dIf t56
  ((a0a tab a0O 4 p9.1).bind fun t59=>(a0c tab h_2 a7H t59).bind fun t60=>(a0b tab a7H t60 (nth 0 ds_1)).bind fun t62=>(a0a tab b2X 2 t62).bind fun t63=>((a0s tab h_2 ty9 t63 (.str [])).bind fun h'=>some ((.und:D),h')).bind fun p905_1=>(a0l tab .add ty3 (nth 0 ds_1) (.int .i64 1)).bind fun t58=>some (.nrm,[t58,t56],p905_1.2))
  (some ((.ext 2),[nth 0 ds_1,t56],h_2))
noncomputable def F84 (t0 t1 t2 t3:D) (h:Hp):Option (D × Hp) :=
 (some ((.ptr h.length 0 0:D),a0H h a1X 11 [[.str [],.int .i64 0,.int .i64 0,.int .i64 0,.int .i64 0,.nils,.int .i64 0,.int .i64 0,.str [],.str [],.nils]])).bind fun p8=>(a0T tab a0O [0,1,2] [t1,t2,t3]).bind fun t18=>(some ((.ptr p8.2.length 0 0:D),a0H p8.2 a0O 10 [[.int .i64 0,.int .i64 0,.int .i64 0,.int .i64 0,.nils,.int .i64 0,.int .i64 0,.str [],.str [],.nils]])).bind fun p9=>((a0s tab p9.2 a0O p9.1 t18).bind fun h'=>some ((.und:D),h')).bind fun p905=>(R a3A [t0,.int .i64 3] p905.2).bind fun p21=>(a0l tab .add ty3 (.int .i64 1) p21.1).bind fun t22=>((a0F (b4x t0 p9) [t3,t22,.any,.any,.any] p21.2).bind fun r=>some ((a0z 0 r.1),[nth 0 r.2.1,nth 1 r.2.1,nth 2 r.2.1,nth 3 r.2.1,nth 4 r.2.1],r.2.2)).bind fun r_1=>a0D r_1.1 ((a0a tab a0O 3 p9.1).bind fun t48=>((a0s tab r_1.2.2 ty3 t48 (nth 0 r_1.2.1)).bind fun h'=>some ((.und:D),h')).bind fun p902=>(R a3A [t0,.int .i64 5] p902.2).bind fun p50=>(a0l tab .eql ty3 p50.1 (.int .i64 4)).bind fun t51=>dIf t51
  (((a0F (b4y p9) [.int .i64 0,.any] p50.2).bind fun r_2=>some ((a0z 2 r_2.1),[nth 0 r_2.2.1,nth 1 r_2.2.1],r_2.2.2)).bind fun r_3=>a0D r_3.1 ((a0y tab a0C 3 [0,1,2] [.str [115,97,109,112,108,101],.str [100,114,111,112],.str [116,111,111,45,108,111,110,103]]).bind fun t64=>(R a3A [t0,.int .i64 3] r_3.2.2).bind fun p66=>(a0b tab a0C t64 p66.1).bind fun t67=>(a0c tab p66.2 ty9 t67).bind fun t68=>(a0c tab p66.2 a0O p9.1).bind fun t69=>(a0T tab a1X [0,1] [t68,t69]).bind fun t70=>chk (a0c tab r_3.2.2 a0O p9.1=some t69)
 (((a0s tab p66.2 a1X p8.1 t70).bind fun h'=>some ((.und:D),h')).bind fun p907=>(a0c tab p907.2 a1X p8.1).bind fun d0=>scope h p907.2 (a0i [d0]))) fun x_1=>a0D x_1 ((R c0c [t0] r_3.2.2).bind fun p72=>(R c0l [t0] p72.2).bind fun p74=>(a0a tab a0O 5 p9.1).bind fun t75=>((a0s tab p74.2 ty3 t75 p72.1).bind fun h'=>some ((.und:D),h')).bind fun p905_2=>(a0a tab a0O 6 p9.1).bind fun t76=>((a0s tab p905_2.2 ty3 t76 p74.1).bind fun h'=>some ((.und:D),h')).bind fun p907_1=>(a0y tab a0C 4 [0,1,2,3] [.str [116,49],.str [116,50],.str [],.str [49,58,50,58,48]]).bind fun t77=>(R a3A [t0,.int .i64 4] p907_1.2).bind fun p79=>(a0b tab a0C t77 p79.1).bind fun t80=>(a0c tab p79.2 ty9 t80).bind fun t81=>(a0y tab a0C 2 [0,1] [.str [109,97,105,110],.str [100,101,98,117,103]]).bind fun t82=>(R a3A [t0,.int .i64 2] p79.2).bind fun p84=>(a0b tab a0C t82 p84.1).bind fun t85=>(a0c tab p84.2 ty9 t85).bind fun t86=>(a0a tab a0O 7 p9.1).bind fun t87=>((a0s tab p84.2 ty9 t87 t81).bind fun h'=>some ((.und:D),h')).bind fun p911=>chk (a0c tab p84.2 ty9 t80=some t81)
 (chk (a0c tab p911.2 ty9 t85=some t86)
 ((a0a tab a0O 8 p9.1).bind fun t88=>((a0s tab p911.2 ty9 t88 t86).bind fun h'=>some ((.und:D),h')).bind fun p913=>(R b8X [t0] p913.2).bind fun p90=>(a0a tab a0O 9 p9.1).bind fun t91=>((a0s tab p90.2 a4V t91 p90.1).bind fun h'=>some ((.und:D),h')).bind fun p903=>(a0c tab p903.2 a0O p9.1).bind fun t92=>(a0T tab a1X [1] [t92]).bind fun t93=>((a0s tab p903.2 a1X p8.1 t93).bind fun h'=>some ((.und:D),h')).bind fun p902_1=>(a0c tab p902_1.2 a1X p8.1).bind fun d0=>scope h p902_1.2 (a0i [d0])))) fun x_2=>a0N x_2 ((a0c tab r_3.2.2 a1X p8.1).bind fun d0=>scope h r_3.2.2 (a0i [d0])))
  ((R c0c [t0] p50.2).bind fun p72_1=>(R c0l [t0] p72_1.2).bind fun p74_1=>(a0a tab a0O 5 p9.1).bind fun t75_1=>((a0s tab p74_1.2 ty3 t75_1 p72_1.1).bind fun h'=>some ((.und:D),h')).bind fun p905_3=>(a0a tab a0O 6 p9.1).bind fun t76_1=>((a0s tab p905_3.2 ty3 t76_1 p74_1.1).bind fun h'=>some ((.und:D),h')).bind fun p907_2=>(a0y tab a0C 4 [0,1,2,3] [.str [116,49],.str [116,50],.str [],.str [49,58,50,58,48]]).bind fun t77_1=>(R a3A [t0,.int .i64 4] p907_2.2).bind fun p79_1=>(a0b tab a0C t77_1 p79_1.1).bind fun t80_1=>(a0c tab p79_1.2 ty9 t80_1).bind fun t81_1=>(a0y tab a0C 2 [0,1] [.str [109,97,105,110],.str [100,101,98,117,103]]).bind fun t82_1=>(R a3A [t0,.int .i64 2] p79_1.2).bind fun p84_1=>(a0b tab a0C t82_1 p84_1.1).bind fun t85_1=>(a0c tab p84_1.2 ty9 t85_1).bind fun t86_1=>(a0a tab a0O 7 p9.1).bind fun t87_1=>((a0s tab p84_1.2 ty9 t87_1 t81_1).bind fun h'=>some ((.und:D),h')).bind fun p911_1=>chk (a0c tab p84_1.2 ty9 t80_1=some t81_1)
 (chk (a0c tab p911_1.2 ty9 t85_1=some t86_1)
 ((a0a tab a0O 8 p9.1).bind fun t88_1=>((a0s tab p911_1.2 ty9 t88_1 t86_1).bind fun h'=>some ((.und:D),h')).bind fun p913_1=>(R b8X [t0] p913_1.2).bind fun p90_1=>(a0a tab a0O 9 p9.1).bind fun t91_1=>((a0s tab p90_1.2 a4V t91_1 p90_1.1).bind fun h'=>some ((.und:D),h')).bind fun p903_1=>(a0c tab p903_1.2 a0O p9.1).bind fun t92_1=>(a0T tab a1X [1] [t92_1]).bind fun t93_1=>((a0s tab p903_1.2 a1X p8.1 t93_1).bind fun h'=>some ((.und:D),h')).bind fun p902_2=>(a0c tab p902_2.2 a1X p8.1).bind fun d0=>scope h p902_2.2 (a0i [d0]))))) fun x=>a0N x ((a0c tab r_1.2.2 a1X p8.1).bind fun d0=>scope h r_1.2.2 (a0i [d0]))
theorem e84 (t0 t1 t2 t3:D) (h:Hp):R c0h [t0,t1,t2,t3] h=F84 t0 t1 t2 t3 h :=
 er i46 (by kernel_rfl) (by kernel_rfl)
noncomputable def F85 (t0 t1:D) (h:Hp):Option (D × Hp) :=
 (a1J t0).bind fun t2=>(a1J t1).bind fun t3=>(a0a tab a0O 5 t2).bind fun t6=>(a0c tab h ty3 t6).bind fun t7=>(a0a tab a0O 5 t3).bind fun t8=>(a0c tab h ty3 t8).bind fun t9=>(a0l tab .neq ty3 t7 t9).bind fun t10=>dIf t10
  ((a0a tab a0O 5 t2).bind fun t11=>(a0c tab h ty3 t11).bind fun t12=>(a0a tab a0O 5 t3).bind fun t13=>(a0c tab h ty3 t13).bind fun t14=>(a0l tab .lss ty3 t12 t14).bind fun t15=>some (a0i [t15],h))
  ((a0a tab a0O 0 t2).bind fun t17=>(a0c tab h ty3 t17).bind fun t18=>(a0a tab a0O 0 t3).bind fun t19=>(a0c tab h ty3 t19).bind fun t20=>(a0l tab .neq ty3 t18 t20).bind fun t21=>dIf t21
  ((a0a tab a0O 0 t2).bind fun t22=>(a0c tab h ty3 t22).bind fun t23=>(a0a tab a0O 0 t3).bind fun t24=>(a0c tab h ty3 t24).bind fun t25=>(a0l tab .lss ty3 t23 t25).bind fun t26=>some (a0i [t26],h))
  ((a0a tab a0O 1 t2).bind fun t28=>(a0c tab h ty3 t28).bind fun t29=>(a0a tab a0O 1 t3).bind fun t30=>(a0c tab h ty3 t30).bind fun t31=>(a0l tab .neq ty3 t29 t31).bind fun t32=>dIf t32
  ((a0a tab a0O 1 t2).bind fun t33=>(a0c tab h ty3 t33).bind fun t34=>(a0a tab a0O 1 t3).bind fun t35=>(a0c tab h ty3 t35).bind fun t36=>(a0l tab .lss ty3 t34 t36).bind fun t37=>some (a0i [t37],h))
  ((a0a tab a0O 2 t2).bind fun t38=>(a0c tab h ty3 t38).bind fun t39=>(a0a tab a0O 2 t3).bind fun t40=>(a0c tab h ty3 t40).bind fun t41=>(a0l tab .lss ty3 t39 t41).bind fun t42=>some (a0i [t42],h))))
theorem e85 (t0 t1:D) (h:Hp):R c1J [t0,t1] h=F85 t0 t1 h :=
 er i47 (by kernel_rfl) (by kernel_rfl)
noncomputable def a8J (t0 t1 t7:D) (ds:List D) (h_1:Hp):Option Out :=
 (a0l tab .lss ty3 (nth 2 ds) t7).bind fun t9=>dIf t9
  ((a0b tab a0r t0 (nth 2 ds)).bind fun t14=>(a0c tab h_1 a0j t14).bind fun t15=>(a2F R t1 [t15] h_1).bind fun p16=>dIf p16.1
  (some (.ret,[nth 2 ds,nth 2 ds,nth 2 ds,t9,p16.1],p16.2))
  ((a0l tab .add ty3 (nth 2 ds) (.int .i64 1)).bind fun t18=>some (.nrm,[nth 0 ds,nth 2 ds,t18,t9,p16.1],p16.2)))
  (some ((.ext 0),[nth 0 ds,nth 1 ds,nth 2 ds,t9,nth 4 ds],h_1))
noncomputable def b8t (t0 t1:D) (h:Hp):Option (D × Hp) :=
 (a0x tab a0r t0).bind fun t7=>((a0F (a8J t0 t1 t7) [.int .i64 0,.any,.int .i64 0,.any,.any] h).bind fun r=>some ((a0z 0 r.1),[nth 0 r.2.1,nth 1 r.2.1,nth 2 r.2.1,nth 3 r.2.1,nth 4 r.2.1],r.2.2)).bind fun r_1=>a0D r_1.1 (some (a0i [.int .i64 (-1)],r_1.2.2)) fun x=>a0N x (some (a0i [nth 0 r_1.2.1],r_1.2.2))
theorem c1z (t0 t1:D) (h:Hp):R a9w [t0,t1] h=b8t t0 t1 h :=
 er i48 (by kernel_rfl) (by kernel_rfl)
noncomputable def F75 (t0 t1:D) (h:Hp):Option (D × Hp) :=
 (a1J t0).bind fun t2=>(a0a tab a0O 9 t2).bind fun t6=>(a0c tab h a4V t6).bind fun t7=>(R c1H [t7,t1] h).bind fun p9=>(a0B 0 p9.1).bind fun t10=>(a0B 1 p9.1).bind fun t11=>some (a0i [t10,t11],p9.2)
theorem e75 (t0 t1:D) (h:Hp):R c0g [t0,t1] h=F75 t0 t1 h :=
 er i52 (by kernel_rfl) (by kernel_rfl)
noncomputable def a8y (t0 t1 t2:D) (ds:List D) (h_1:Hp):Option Out :=
 (a0x tab a0P t1).bind fun t13=>(a0l tab .lss ty3 (nth 1 ds) t13).bind fun t14=>(gd t14 false (some (nth 2 ds))).bind fun t16=>(gd t14 false (some t2)).bind fun t17=>(gd t14 false (a0x tab a0P t17)).bind fun t18=>(gd t14 false (a0l tab .lss ty3 t16 t18)).bind fun t19=>(a1s t14 (.bool true) t19).bind fun t20=>dIf t20
  ((a0x tab a0P t2).bind fun t35=>(a0l tab .eql ty3 (nth 2 ds) t35).bind fun t36=>(dIf t36
  (some (.nrm,[.int .i64 (-1),nth 6 ds],h_1))
  ((a0x tab a0P t1).bind fun t40=>(a0l tab .eql ty3 (nth 1 ds) t40).bind fun t41=>(dIf t41
  (some (.nrm,[.int .i64 1],h_1))
  ((a0b tab a0P t1 (nth 1 ds)).bind fun t23=>(a0a tab a0k 0 t23).bind fun t24=>(a0c tab h_1 a0C t24).bind fun t25=>(a0b tab a0P t2 (nth 2 ds)).bind fun t28=>(a0a tab a0k 0 t28).bind fun t29=>(a0c tab h_1 a0C t29).bind fun t30=>(R b1q [t25,t30] h_1).bind fun p31=>some (.nrm,[p31.1],p31.2))).bind fun r_1=>some (r_1.1,[nth 0 r_1.2.1,t41],r_1.2.2))).bind fun r_2=>a0D (a0z 2 r_2.1) ((a0l tab .lss ty3 (nth 0 r_2.2.1) (.int .i64 0)).bind fun t61=>(dIf t61
  ((a0b tab a0P t1 (nth 1 ds)).bind fun t65=>(a0c tab r_2.2.2 a0k t65).bind fun t66=>(a0y tab a0P 1 [0] [t66]).bind fun t67=>(a0p tab r_2.2.2 a0P a0P (nth 0 ds) t67).bind fun p68=>(a0l tab .add ty3 (nth 1 ds) (.int .i64 1)).bind fun t70=>some (.nrm,[p68.1,t70,nth 2 ds,nth 8 ds],p68.2))
  ((a0l tab .gtr ty3 (nth 0 r_2.2.1) (.int .i64 0)).bind fun t73=>(dIf t73
  ((a0b tab a0P t2 (nth 2 ds)).bind fun t77=>(a0c tab r_2.2.2 a0k t77).bind fun t78=>(a0y tab a0P 1 [0] [t78]).bind fun t79=>(a0p tab r_2.2.2 a0P a0P (nth 0 ds) t79).bind fun p80=>(a0l tab .add ty3 (nth 2 ds) (.int .i64 1)).bind fun t82=>some (.nrm,[p80.1,nth 1 ds,t82],p80.2))
  ((a0b tab a0P t1 (nth 1 ds)).bind fun t46=>(a0c tab r_2.2.2 a0k t46).bind fun t47=>(a0b tab a0P t2 (nth 2 ds)).bind fun t50=>(a0c tab r_2.2.2 a0k t50).bind fun t51=>(R a9o [t0,t47,t51] r_2.2.2).bind fun p52=>(a0y tab a0P 1 [0] [p52.1]).bind fun t53=>(a0p tab p52.2 a0P a0P (nth 0 ds) t53).bind fun p54=>(a0l tab .add ty3 (nth 1 ds) (.int .i64 1)).bind fun t56=>(a0l tab .add ty3 (nth 2 ds) (.int .i64 1)).bind fun t58=>some (.nrm,[p54.1,t56,t58],p54.2))).bind fun r_3=>some (r_3.1,[nth 0 r_3.2.1,nth 1 r_3.2.1,nth 2 r_3.2.1,t73],r_3.2.2))).bind fun r_4=>some ((a0z 1 (a0z 3 r_4.1)),[nth 0 r_4.2.1,nth 1 r_4.2.1,nth 2 r_4.2.1,nth 0 r_2.2.1,t20,t36,nth 1 r_2.2.1,t61,nth 3 r_4.2.1],r_4.2.2)) fun x=>some ((a0z 1 x),[nth 0 ds,nth 1 ds,nth 2 ds,nth 0 r_2.2.1,t20,t36,nth 1 r_2.2.1,nth 7 ds,nth 8 ds],r_2.2.2))
  (some ((.ext 0),[nth 0 ds,nth 1 ds,nth 2 ds,nth 3 ds,t20,nth 5 ds,nth 6 ds,nth 7 ds,nth 8 ds],h_1))
noncomputable def b7Z (t0 t1 t2:D) (h:Hp):Option (D × Hp) :=
 ((a0F (a8y t0 t1 t2) [.nils,.int .i64 0,.int .i64 0,.any,.any,.any,.any,.any,.any] h).bind fun r=>some ((a0z 0 r.1),[nth 0 r.2.1,nth 1 r.2.1,nth 2 r.2.1,nth 3 r.2.1,nth 4 r.2.1,nth 5 r.2.1,nth 6 r.2.1,nth 7 r.2.1,nth 8 r.2.1],r.2.2)).bind fun r_5=>a0D r_5.1 (scope h r_5.2.2 (a0i [nth 0 r_5.2.1])) fun x_1=>a0N x_1 (scope h r_5.2.2 (a0i [.nils]))
theorem c1d (t0 t1 t2:D) (h:Hp):R a9m [t0,t1,t2] h=b7Z t0 t1 t2 h :=
 er i53 (by kernel_rfl) (by kernel_rfl)
noncomputable def a5F (t1 t5:D) (p7:D × Hp) (ds:List D) (h_1:Hp):Option Out :=
 (a0x tab a4e t1).bind fun t23=>(a0l tab .lss ty3 (nth 0 ds) t23).bind fun t24=>dIf t24
  ((a0b tab a4e t1 (nth 0 ds)).bind fun t29=>(a0c tab h_1 a3f t29).bind fun t30=>(a7L 2 t30).bind fun t9=>(a0c tab h_1 a0O t5).bind fun t32=>(a0a tab a3f 1 t9).bind fun t33=>(a0c tab h_1 ty9 t33).bind fun t34=>(R b1u [t32,t34] h_1).bind fun p35=>(a0B 0 p35.1).bind fun t36=>(a0B 1 p35.1).bind fun t37=>(a0a tab a3f 0 t9).bind fun t38=>(a0c tab p35.2 ty3 t38).bind fun t39=>(a0l tab .eql ty3 t39 (.int .i64 0)).bind fun t41=>(dIf t41
  ((a0a tab a0O 6 t5).bind fun t42=>(a0c tab p35.2 ty3 t42).bind fun t43=>some (.nrm,[t43,.bool true,.nils,nth 7 ds,nth 8 ds,nth 12 ds,nth 13 ds,nth 14 ds,nth 15 ds],p35.2))
  ((a0l tab .eql ty3 t39 (.int .i64 1)).bind fun t45=>(dIf t45
  ((a0a tab a0O 6 t5).bind fun t47=>(a0c tab p35.2 ty3 t47).bind fun t48=>(a0l tab .mul ty3 t48 t36).bind fun t50=>some (.nrm,[t50,t37,.nils,nth 7 ds,nth 8 ds,nth 13 ds,nth 14 ds,nth 15 ds],p35.2))
  ((a0l tab .eql ty3 t39 (.int .i64 2)).bind fun t52=>(dIf t52
  (some (.nrm,[t52],p35.2))
  ((a0l tab .eql ty3 t39 (.int .i64 3)).bind fun t53=>some (.nrm,[t53],p35.2))).bind fun r_1=>a0D r_1.1 ((dIf (nth 0 r_1.2.1)
  (some (.nrm,[t36,t37,.nils,nth 7 ds,nth 8 ds,nth 14 ds,nth 15 ds],r_1.2.2))
  ((a0l tab .eql ty3 t39 (.int .i64 4)).bind fun t57=>(dIf t57
  ((a0c tab r_1.2.2 a0O t5).bind fun t59=>(a0a tab a3f 1 t9).bind fun t60=>(a0c tab r_1.2.2 ty9 t60).bind fun t61=>(R a7f [t59,t61] r_1.2.2).bind fun p62=>(a0B 0 p62.1).bind fun t63=>(a0B 1 p62.1).bind fun t64=>(dIf t64
  ((a0y tab a0C 1 [0] [t63]).bind fun t67=>some (.nrm,[.int .i64 1,t67],p62.2))
  (some (.nrm,[.int .i64 0,.nils],p62.2))).bind fun r_2=>some (r_2.1,[nth 0 r_2.2.1,nth 1 r_2.2.1,t63,t64,t64],r_2.2.2))
  (some (.nrm,[.int .i64 0,.nils,nth 7 ds,nth 8 ds,nth 15 ds],r_1.2.2))).bind fun r_3=>some (r_3.1,[nth 0 r_3.2.1,.bool true,nth 1 r_3.2.1,nth 2 r_3.2.1,nth 3 r_3.2.1,t57,nth 4 r_3.2.1],r_3.2.2))).bind fun r_4=>some (r_4.1,[nth 0 r_4.2.1,nth 1 r_4.2.1,nth 2 r_4.2.1,nth 3 r_4.2.1,nth 4 r_4.2.1,nth 0 r_1.2.1,nth 5 r_4.2.1,nth 6 r_4.2.1],r_4.2.2)) fun x=>some (x,[.int .i64 0,.bool true,.nils,nth 7 ds,nth 8 ds,nth 0 r_1.2.1,nth 14 ds,nth 15 ds],r_1.2.2))).bind fun r_5=>some (r_5.1,[nth 0 r_5.2.1,nth 1 r_5.2.1,nth 2 r_5.2.1,nth 3 r_5.2.1,nth 4 r_5.2.1,t45,nth 5 r_5.2.1,nth 6 r_5.2.1,nth 7 r_5.2.1],r_5.2.2))).bind fun r_6=>a0D (a0z 2 r_6.1) ((a0a tab a0k 1 p7.1).bind fun t68=>(a0c tab r_6.2.2 a1c t68).bind fun t69=>(a0y tab a1c 1 [0] [nth 0 r_6.2.1]).bind fun t71=>(a0p tab r_6.2.2 a1c a1c t69 t71).bind fun p72=>(a0a tab a0k 2 p7.1).bind fun t73=>(a0c tab p72.2 a0G t73).bind fun t74=>(a0y tab a0G 1 [0] [nth 1 r_6.2.1]).bind fun t76=>(a0p tab p72.2 a0G a0G t74 t76).bind fun p77=>(a0a tab a0k 3 p7.1).bind fun t78=>(a0c tab p77.2 a0L t78).bind fun t79=>(a0y tab a0L 1 [0] [nth 2 r_6.2.1]).bind fun t81=>(a0p tab p77.2 a0L a0L t79 t81).bind fun p82=>(a0a tab a0k 1 p7.1).bind fun t83=>((a0s tab p82.2 a1c t83 p72.1).bind fun h'=>some ((.und:D),h')).bind fun p916=>(a0a tab a0k 2 p7.1).bind fun t84=>((a0s tab p916.2 a0G t84 p77.1).bind fun h'=>some ((.und:D),h')).bind fun p918=>chk (a0c tab r_6.2.2 a0G t73=some t74)
 (chk (a0c tab r_6.2.2 a0L t78=some t79)
 (chk (a0c tab p72.2 a0L t78=some t79)
 ((a0a tab a0k 3 p7.1).bind fun t85=>((a0s tab p918.2 a0L t85 p82.1).bind fun h'=>some ((.und:D),h')).bind fun p920=>(a0l tab .add ty3 (nth 0 ds) (.int .i64 1)).bind fun t26=>some (.nrm,[t26,t9,nth 0 r_6.2.1,nth 1 r_6.2.1,nth 2 r_6.2.1,t36,t37,nth 3 r_6.2.1,nth 4 r_6.2.1,t24,t39,t41,nth 5 r_6.2.1,nth 6 r_6.2.1,nth 7 r_6.2.1,nth 8 r_6.2.1],p920.2))))) fun x_1=>a0D (a0z 1 x_1) ((a0l tab .add ty3 (nth 0 ds) (.int .i64 1)).bind fun t26_1=>some (.nrm,[t26_1,t9,nth 0 r_6.2.1,nth 1 r_6.2.1,nth 2 r_6.2.1,t36,t37,nth 3 r_6.2.1,nth 4 r_6.2.1,t24,t39,t41,nth 5 r_6.2.1,nth 6 r_6.2.1,nth 7 r_6.2.1,nth 8 r_6.2.1],r_6.2.2)) fun x_2=>some (x_2,[nth 0 ds,t9,nth 0 r_6.2.1,nth 1 r_6.2.1,nth 2 r_6.2.1,t36,t37,nth 3 r_6.2.1,nth 4 r_6.2.1,t24,t39,t41,nth 5 r_6.2.1,nth 6 r_6.2.1,nth 7 r_6.2.1,nth 8 r_6.2.1],r_6.2.2))
  (some ((.ext 0),[nth 0 ds,nth 1 ds,nth 2 ds,nth 3 ds,nth 4 ds,nth 5 ds,nth 6 ds,nth 7 ds,nth 8 ds,t24,nth 10 ds,nth 11 ds,nth 12 ds,nth 13 ds,nth 14 ds,nth 15 ds],h_1))
noncomputable def b8a (t0 t1 t2:D) (h:Hp):Option (D × Hp) :=
 (a1J t2).bind fun t5=>(some ((.ptr h.length 0 0:D),a0H h a0k 4 [[.nils,.nils,.nils,.nils]])).bind fun p6=>(a0c tab p6.2 a0O t5).bind fun t18=>(R a9p [t0,t18] p6.2).bind fun p19=>(a0T tab a0k [0] [p19.1]).bind fun t20=>(some ((.ptr p19.2.length 0 0:D),a0H p19.2 a0k 4 [[.nils,.nils,.nils,.nils]])).bind fun p7=>((a0s tab p7.2 a0k p7.1 t20).bind fun h'=>some ((.und:D),h')).bind fun p905=>((a0F (a5F t1 t5 p7) [.int .i64 0,.any,.any,.any,.any,.any,.any,.any,.any,.any,.any,.any,.any,.any,.any,.any] p905.2).bind fun r=>some ((a0z 0 r.1),[nth 0 r.2.1,nth 1 r.2.1,nth 2 r.2.1,nth 3 r.2.1,nth 4 r.2.1,nth 5 r.2.1,nth 6 r.2.1,nth 7 r.2.1,nth 8 r.2.1,nth 9 r.2.1,nth 10 r.2.1,nth 11 r.2.1,nth 12 r.2.1,nth 13 r.2.1,nth 14 r.2.1,nth 15 r.2.1],r.2.2)).bind fun r_7=>a0D r_7.1 ((a0c tab r_7.2.2 a0k p7.1).bind fun t86=>((a0s tab r_7.2.2 a0k p6.1 t86).bind fun h'=>some ((.und:D),h')).bind fun p901=>(a0c tab p901.2 a0k p6.1).bind fun d0=>scope h p901.2 (a0i [d0])) fun x_3=>a0N x_3 ((a0c tab r_7.2.2 a0k p6.1).bind fun d0=>scope h r_7.2.2 (a0i [d0]))
theorem c1e (t0 t1 t2:D) (h:Hp):R a9n [t0,t1,t2] h=b8a t0 t1 t2 h :=
 er i54 (by kernel_rfl) (by kernel_rfl)
noncomputable def a5H (t0 t1 t3:D) (ds_1:List D) (h_2:Hp):Option Out :=
 (a0l tab .gtr ty3 (nth 0 ds_1) t1).bind fun t20=>(gd t20 true (some t3)).bind fun t22=>(gd t20 true (some t0)).bind fun t23=>(gd t20 true (some (nth 0 ds_1))).bind fun t24=>(gd t20 true (a0b tab a0u t23 t24)).bind fun t25=>(gd t20 true (a0c tab h_2 a0h t25)).bind fun t26=>(gd t20 true (some t0)).bind fun t27=>(gd t20 true (some (nth 0 ds_1))).bind fun t28=>(gd t20 true (a0l tab .sub ty3 t28 (.int .i64 1))).bind fun t29=>(gd t20 true (a0b tab a0u t27 t29)).bind fun t30=>(gd t20 true (a0c tab h_2 a0h t30)).bind fun t31=>(gdW t20 true h_2 (a2F R t22 [t26,t31] h_2)).bind fun p32=>(gd t20 true (a0l tab .lss ty3 p32.1 (.int .i64 0))).bind fun t33=>(a1s t20 t33 (.bool false)).bind fun t34=>dIf t34
  ((a0l tab .sub ty3 (nth 0 ds_1) (.int .i64 1)).bind fun t41=>(a0l tab .sub ty3 (nth 0 ds_1) (.int .i64 1)).bind fun t44=>(a0b tab a0u t0 t44).bind fun t45=>(a0c tab p32.2 a0h t45).bind fun t46=>(a0b tab a0u t0 (nth 0 ds_1)).bind fun t49=>(a0c tab p32.2 a0h t49).bind fun t50=>(a0b tab a0u t0 (nth 0 ds_1)).bind fun t51=>((a0s tab p32.2 a0h t51 t46).bind fun h'=>some ((.und:D),h')).bind fun p915=>(a0b tab a0u t0 t41).bind fun t52=>((a0s tab p915.2 a0h t52 t50).bind fun h'=>some ((.und:D),h')).bind fun p917=>(a0l tab .sub ty3 (nth 0 ds_1) (.int .i64 1)).bind fun t36=>some (.nrm,[t36,t34],p917.2))
  (some ((.ext 2),[nth 0 ds_1,t34],p32.2))
noncomputable def a5G (t0 t1 t2 t3:D) (ds:List D) (h_1:Hp):Option Out :=
 (a0l tab .lss ty3 (nth 0 ds) t2).bind fun t14=>dIf t14
  (((a0F (a5H t0 t1 t3) [nth 0 ds,nth 3 ds] h_1).bind fun r_1=>some ((a0z 2 r_1.1),[nth 0 r_1.2.1,nth 1 r_1.2.1],r_1.2.2)).bind fun r_2=>a0D (a0z 1 r_2.1) ((a0l tab .add ty3 (nth 0 ds) (.int .i64 1)).bind fun t16=>some (.nrm,[t16,nth 0 r_2.2.1,t14,nth 1 r_2.2.1],r_2.2.2)) fun x=>some (x,[nth 0 ds,nth 0 r_2.2.1,t14,nth 1 r_2.2.1],r_2.2.2))
  (some ((.ext 0),[nth 0 ds,nth 1 ds,t14,nth 3 ds],h_1))
noncomputable def b5B (t0 t1 t2 t3:D) (h:Hp):Option (D × Hp) :=
 (a0l tab .add ty3 t1 (.int .i64 1)).bind fun t11=>((a0F (a5G t0 t1 t2 t3) [t11,.any,.any,.any] h).bind fun r=>some ((a0z 0 r.1),[nth 0 r.2.1,nth 1 r.2.1,nth 2 r.2.1,nth 3 r.2.1],r.2.2)).bind fun r_3=>a0N r_3.1 (some (a0i [],r_3.2.2))
theorem b8U (t0 t1 t2 t3:D) (h:Hp):R a4H [t0,t1,t2,t3] h=b5B t0 t1 t2 t3 h :=
 er i55 (by kernel_rfl) (by kernel_rfl)
noncomputable def a4k (a0 a4 t22m:D) (ds:List D) (h_3:Hp):Option Out :=
 (a0l tab .lss ty3 (nth 0 ds) (nth 1 ds)).bind fun t151=>dIf t151
  ((a0l tab .add ty3 (nth 0 ds) (nth 1 ds)).bind fun t154=>(a2g tab ty3 a2S t154).bind fun t155=>(a0l tab .shr a2S t155 (.int .u64 1)).bind fun t156=>(a2g tab a2S ty3 t156).bind fun t157=>(a0l tab .sub ty3 t22m t157).bind fun t162=>(a0b tab a0u a0 t162).bind fun t163=>(a0c tab h_3 a0h t163).bind fun t164=>(a0b tab a0u a0 t157).bind fun t167=>(a0c tab h_3 a0h t167).bind fun t168=>(a2F R a4 [t164,t168] h_3).bind fun p169=>(a0l tab .lss ty3 p169.1 (.int .i64 0)).bind fun t170=>(dUn .not t170).bind fun t171=>(dIf t171
  ((a0l tab .add ty3 t157 (.int .i64 1)).bind fun t173=>some (.nrm,[t173,nth 1 ds],p169.2))
  (some (.nrm,[nth 0 ds,t157],p169.2))).bind fun r_2=>some ((a0z 9 r_2.1),[nth 0 r_2.2.1,nth 1 r_2.2.1,t157,t151,t171],r_2.2.2))
  (some ((.ext 8),[nth 0 ds,nth 1 ds,nth 2 ds,t151,nth 4 ds],h_3))
noncomputable def a3p (a0 a1 a2 a3 a4:D) (h_2:Hp):Option (D × Hp) :=
  (a0l tab .add ty3 a1 a3).bind fun t131=>(a2g tab ty3 a2S t131).bind fun t132=>(a0l tab .shr a2S t132 (.int .u64 1)).bind fun t133=>(a2g tab a2S ty3 t133).bind fun t134=>(a0l tab .add ty3 t134 a2).bind fun t137=>(a0l tab .gtr ty3 a2 t134).bind fun t140=>(dIf t140
   ((a0l tab .sub ty3 t137 a3).bind fun t143=>some (.nrm,[t143,t134],h_2))
   (some (.nrm,[a1,a2],h_2))).bind fun r=>a0D r.1 ((a0l tab .sub ty3 t137 (.int .i64 1)).bind fun t148=>((a0F (a4k a0 a4 t148) [nth 0 r.2.1,nth 1 r.2.1,.any,.any,.any] r.2.2).bind fun r_1=>some ((a0z 8 r_1.1),[nth 0 r_1.2.1,nth 1 r_1.2.1,nth 2 r_1.2.1,nth 3 r_1.2.1,nth 4 r_1.2.1],r_1.2.2)).bind fun r_3=>a0D r_3.1 ((a0l tab .sub ty3 t137 (nth 0 r_3.2.1)).bind fun t177=>(a0l tab .lss ty3 (nth 0 r_3.2.1) a2).bind fun t180=>(gd t180 true (some a2)).bind fun t182=>(gd t180 true (some t177)).bind fun t183=>(gd t180 true (a0l tab .lss ty3 t182 t183)).bind fun t184=>(a1s t180 t184 (.bool false)).bind fun t185=>(dIf t185
   ((R b1v [a0,nth 0 r_3.2.1,a2,t177,a4] r_3.2.2).bind fun p191=>some (.nrm,([]:List D),p191.2))
   (some (.nrm,([]:List D),r_3.2.2))).bind fun r_4=>a0D r_4.1 ((a0l tab .lss ty3 a1 (nth 0 r_3.2.1)).bind fun t194=>(gd t194 true (some (nth 0 r_3.2.1))).bind fun t196=>(gd t194 true (some t134)).bind fun t197=>(gd t194 true (a0l tab .lss ty3 t196 t197)).bind fun t198=>(a1s t194 t198 (.bool false)).bind fun t199=>(dIf t199
   ((R a3X [a0,a1,nth 0 r_3.2.1,t134,a4] r_4.2.2).bind fun p205=>some (.nrm,([]:List D),p205.2))
   (some (.nrm,([]:List D),r_4.2.2))).bind fun r_5=>a0D r_5.1 ((a0l tab .lss ty3 t134 t177).bind fun t208=>(gd t208 true (some t177)).bind fun t210=>(gd t208 true (some a3)).bind fun t211=>(gd t208 true (a0l tab .lss ty3 t210 t211)).bind fun t212=>(a1s t208 t212 (.bool false)).bind fun t213=>(dIf t213
   ((R a3X [a0,t134,t177,a3,a4] r_5.2.2).bind fun p219=>some (.nrm,([]:List D),p219.2))
   (some (.nrm,([]:List D),r_5.2.2))).bind fun r_6=>a0N r_6.1 (some (a0i [],r_6.2.2))) fun x_3=>a0N x_3 (some (a0i [],r_5.2.2))) fun x_2=>a0N x_2 (some (a0i [],r_4.2.2))) fun x_1=>a0N x_1 (some (a0i [],r_3.2.2))) fun x=>a0N x (some (a0i [],r.2.2))
noncomputable def a5I (a0 a2 a4:D) (ds_1:List D) (h_4:Hp):Option Out :=
 (a0l tab .lss ty3 (nth 0 ds_1) (nth 1 ds_1)).bind fun t85=>dIf t85
  ((a0l tab .add ty3 (nth 0 ds_1) (nth 1 ds_1)).bind fun t88=>(a2g tab ty3 a2S t88).bind fun t89=>(a0l tab .shr a2S t89 (.int .u64 1)).bind fun t90=>(a2g tab a2S ty3 t90).bind fun t91=>(a0b tab a0u a0 a2).bind fun t95=>(a0c tab h_4 a0h t95).bind fun t96=>(a0b tab a0u a0 t91).bind fun t99=>(a0c tab h_4 a0h t99).bind fun t100=>(a2F R a4 [t96,t100] h_4).bind fun p101=>(a0l tab .lss ty3 p101.1 (.int .i64 0)).bind fun t102=>(dUn .not t102).bind fun t103=>(dIf t103
  ((a0l tab .add ty3 t91 (.int .i64 1)).bind fun t105=>some (.nrm,[t105,nth 1 ds_1],p101.2))
  (some (.nrm,[nth 0 ds_1,t91],p101.2))).bind fun r_8=>some ((a0z 5 r_8.1),[nth 0 r_8.2.1,nth 1 r_8.2.1,t91,t85,t103],r_8.2.2))
  (some ((.ext 4),[nth 0 ds_1,nth 1 ds_1,nth 2 ds_1,t85,nth 4 ds_1],h_4))
noncomputable def a5J (a0:D) (r_9:Out) (ds_2:List D) (h_5:Hp):Option Out :=
 (a0l tab .gtr ty3 (nth 0 ds_2) (nth 0 r_9.2.1)).bind fun t110=>dIf t110
  ((a0l tab .sub ty3 (nth 0 ds_2) (.int .i64 1)).bind fun t117=>(a0l tab .sub ty3 (nth 0 ds_2) (.int .i64 1)).bind fun t120=>(a0b tab a0u a0 t120).bind fun t121=>(a0c tab h_5 a0h t121).bind fun t122=>(a0b tab a0u a0 (nth 0 ds_2)).bind fun t125=>(a0c tab h_5 a0h t125).bind fun t126=>(a0b tab a0u a0 (nth 0 ds_2)).bind fun t127=>((a0s tab h_5 a0h t127 t122).bind fun h'=>some ((.und:D),h')).bind fun p915=>(a0b tab a0u a0 t117).bind fun t128=>((a0s tab p915.2 a0h t128 t126).bind fun h'=>some ((.und:D),h')).bind fun p917=>(a0l tab .sub ty3 (nth 0 ds_2) (.int .i64 1)).bind fun t112=>some (.nrm,[t112,t110],p917.2))
  (some ((.ext 6),[nth 0 ds_2,t110],h_5))
noncomputable def a3o (a0 a1 a2 a3 a4:D) (h_1:Hp):Option (D × Hp) :=
  (a0l tab .sub ty3 a3 a2).bind fun t79=>(a0l tab .eql ty3 t79 (.int .i64 1)).bind fun t80=>dIf t80
   (((a0F (a5I a0 a2 a4) [a1,a2,.any,.any,.any] h_1).bind fun r_7=>some ((a0z 4 r_7.1),[nth 0 r_7.2.1,nth 1 r_7.2.1,nth 2 r_7.2.1,nth 3 r_7.2.1,nth 4 r_7.2.1],r_7.2.2)).bind fun r_9=>a0D r_9.1 (((a0F (a5J a0 r_9) [a2,.any] r_9.2.2).bind fun r_10=>some ((a0z 6 r_10.1),[nth 0 r_10.2.1,nth 1 r_10.2.1],r_10.2.2)).bind fun r_11=>a0D r_11.1 (some (a0i [],r_11.2.2)) fun x_5=>a0D x_5 (a3p a0 a1 a2 a3 a4 r_11.2.2) fun x_6=>a0N x_6 (some (a0i [],r_11.2.2))) fun x_4=>a0D x_4 (a3p a0 a1 a2 a3 a4 r_9.2.2) fun x_7=>a0N x_7 (some (a0i [],r_9.2.2)))
   (a3p a0 a1 a2 a3 a4 h_1)
noncomputable def a5K (t0 t1 t4:D) (ds_3:List D) (h_6:Hp):Option Out :=
 (a0l tab .lss ty3 (nth 0 ds_3) (nth 1 ds_3)).bind fun t33=>dIf t33
  ((a0l tab .add ty3 (nth 0 ds_3) (nth 1 ds_3)).bind fun t36=>(a2g tab ty3 a2S t36).bind fun t37=>(a0l tab .shr a2S t37 (.int .u64 1)).bind fun t38=>(a2g tab a2S ty3 t38).bind fun t39=>(a0b tab a0u t0 t39).bind fun t43=>(a0c tab h_6 a0h t43).bind fun t44=>(a0b tab a0u t0 t1).bind fun t47=>(a0c tab h_6 a0h t47).bind fun t48=>(a2F R t4 [t44,t48] h_6).bind fun p49=>(a0l tab .lss ty3 p49.1 (.int .i64 0)).bind fun t50=>(dIf t50
  ((a0l tab .add ty3 t39 (.int .i64 1)).bind fun t52=>some (.nrm,[t52,nth 1 ds_3],p49.2))
  (some (.nrm,[nth 0 ds_3,t39],p49.2))).bind fun r_13=>some ((a0z 1 r_13.1),[nth 0 r_13.2.1,nth 1 r_13.2.1,t39,t33,t50],r_13.2.2))
  (some ((.ext 0),[nth 0 ds_3,nth 1 ds_3,nth 2 ds_3,t33,nth 4 ds_3],h_6))
noncomputable def a5L (t0:D) (r_14:Out) (ds_4:List D) (h_7:Hp):Option Out :=
 (a0l tab .sub ty3 (nth 0 r_14.2.1) (.int .i64 1)).bind fun t57=>(a0l tab .lss ty3 (nth 0 ds_4) t57).bind fun t58=>dIf t58
  ((a0l tab .add ty3 (nth 0 ds_4) (.int .i64 1)).bind fun t65=>(a0l tab .add ty3 (nth 0 ds_4) (.int .i64 1)).bind fun t68=>(a0b tab a0u t0 t68).bind fun t69=>(a0c tab h_7 a0h t69).bind fun t70=>(a0b tab a0u t0 (nth 0 ds_4)).bind fun t73=>(a0c tab h_7 a0h t73).bind fun t74=>(a0b tab a0u t0 (nth 0 ds_4)).bind fun t75=>((a0s tab h_7 a0h t75 t70).bind fun h'=>some ((.und:D),h')).bind fun p915_1=>(a0b tab a0u t0 t65).bind fun t76=>((a0s tab p915_1.2 a0h t76 t74).bind fun h'=>some ((.und:D),h')).bind fun p917_1=>(a0l tab .add ty3 (nth 0 ds_4) (.int .i64 1)).bind fun t60=>some (.nrm,[t60,t58],p917_1.2))
  (some ((.ext 2),[nth 0 ds_4,t58],h_7))
noncomputable def b2Z (t0 t1 t2 t3 t4:D) (h:Hp):Option (D × Hp) :=
 (a0l tab .sub ty3 t2 t1).bind fun t27=>(a0l tab .eql ty3 t27 (.int .i64 1)).bind fun t28=>dIf t28
  (((a0F (a5K t0 t1 t4) [t2,t3,.any,.any,.any] h).bind fun r_12=>some ((a0z 0 r_12.1),[nth 0 r_12.2.1,nth 1 r_12.2.1,nth 2 r_12.2.1,nth 3 r_12.2.1,nth 4 r_12.2.1],r_12.2.2)).bind fun r_14=>a0D r_14.1 (((a0F (a5L t0 r_14) [t1,.any] r_14.2.2).bind fun r_15=>some ((a0z 2 r_15.1),[nth 0 r_15.2.1,nth 1 r_15.2.1],r_15.2.2)).bind fun r_16=>a0D r_16.1 (some (a0i [],r_16.2.2)) fun x_9=>a0D x_9 (a3o t0 t1 t2 t3 t4 r_16.2.2) fun x_10=>a0N x_10 (some (a0i [],r_16.2.2))) fun x_8=>a0D x_8 (a3o t0 t1 t2 t3 t4 r_14.2.2) fun x_11=>a0N x_11 (some (a0i [],r_14.2.2)))
  (a3o t0 t1 t2 t3 t4 h)
theorem b6a (t0 t1 t2 t3 t4:D) (h:Hp):R a3X [t0,t1,t2,t3,t4] h=b2Z t0 t1 t2 t3 t4 h :=
 er i56 (by kernel_rfl) (by kernel_rfl)
noncomputable def F91 (t0 t1:D) (h:Hp):Option (D × Hp) :=
 (R b3N [t0] h).bind fun p8=>(R b3N [t1] p8.2).bind fun p10=>dIf p8.1
  (dIf p10.1
  (some (a0i [.int .i64 0],p10.2))
  (some (a0i [.int .i64 (-1)],p10.2)))
  (dIf p10.1
  (some (a0i [.int .i64 1],p10.2))
  ((a0l tab .lss ty9 t0 t1).bind fun t16=>dIf t16
  (some (a0i [.int .i64 (-1)],p10.2))
  ((a0l tab .gtr ty9 t0 t1).bind fun t19=>dIf t19
  (some (a0i [.int .i64 1],p10.2))
  (some (a0i [.int .i64 0],p10.2)))))
theorem e91 (t0 t1:D) (h:Hp):R c1K [t0,t1] h=F91 t0 t1 h :=
 er i57 (by kernel_rfl) (by kernel_rfl)
noncomputable def b4z (t0:D) (ds:List D) (h_1:Hp):Option Out :=
 (a0l tab .gtr ty3 (nth 1 ds) (.int .i64 0)).bind fun t10=>dIf t10
  ((a0y tab a0C 5 [0,1,2,3,4] [.str [32],.str [32],.str [44,32],.str [61],.str []]).bind fun t14=>(R a3A [t0,.int .i64 5] h_1).bind fun p16=>(a0b tab a0C t14 p16.1).bind fun t17=>(a0c tab p16.2 ty9 t17).bind fun t18=>(R b3O [t0] p16.2).bind fun p20=>(a0l tab .add ty9 t18 p20.1).bind fun t21=>(a0l tab .add ty9 (nth 0 ds) t21).bind fun t22=>chk (a0c tab p20.2 ty9 t17=some t18)
 ((a0l tab .sub ty3 (nth 1 ds) (.int .i64 1)).bind fun t12=>some (.nrm,[t22,t12,t10],p20.2)))
  (some ((.ext 0),[nth 0 ds,nth 1 ds,t10],h_1))
noncomputable def F96 (t0:D) (h:Hp):Option (D × Hp) :=
 (R b3O [t0] h).bind fun p6=>(R a3A [t0,.int .i64 4] p6.2).bind fun p8=>((a0F (b4z t0) [p6.1,p8.1,.any] p8.2).bind fun r=>some ((a0z 0 r.1),[nth 0 r.2.1,nth 1 r.2.1,nth 2 r.2.1],r.2.2)).bind fun r_1=>a0D r_1.1 (some (a0i [nth 0 r_1.2.1],r_1.2.2)) fun x=>a0N x (some (a0i [.str []],r_1.2.2))
theorem e96 (t0:D) (h:Hp):R c0k [t0] h=F96 t0 h :=
 er i58 (by kernel_rfl) (by kernel_rfl)
noncomputable def F35 (t0:D) (h:Hp):Option (D × Hp) :=
 (R a3A [t0,.int .i64 4] h).bind fun p4=>(a0l tab .eql ty3 p4.1 (.int .i64 0)).bind fun t6=>dIf t6
  ((R a3A [t0,.int .i64 40] p4.2).bind fun p8=>(a0l tab .mul ty3 p8.1 (.int .i64 86400000)).bind fun t9=>some (a0i [t9],p8.2))
  ((a0l tab .eql ty3 p4.1 (.int .i64 1)).bind fun t11=>dIf t11
  ((R a3A [t0,.int .i64 3] p4.2).bind fun p13=>(a0l tab .mul ty3 p13.1 (.int .i64 86400000)).bind fun t14=>(a0l tab .sub ty3 (.int .i64 253402300799999) t14).bind fun t15=>some (a0i [t15],p13.2))
  ((R a3A [t0,.int .i64 60] p4.2).bind fun p17=>(a0l tab .add ty3 (.int .i64 1000) p17.1).bind fun t18=>some (a0i [t18],p17.2)))
theorem e35 (t0:D) (h:Hp):R c0c [t0] h=F35 t0 h :=
 er i59 (by kernel_rfl) (by kernel_rfl)
noncomputable def F97 (t0:D) (h:Hp):Option (D × Hp) :=
 (a0y tab a1c 6 [0,1,2,3,4,5] [.int .i64 1,.int .i64 1,.int .i64 2,.int .i64 5,.int .i64 10,.int .i64 5040]).bind fun t3=>(R a3A [t0,.int .i64 6] h).bind fun p5=>(a0b tab a1c t3 p5.1).bind fun t6=>(a0c tab p5.2 ty3 t6).bind fun t7=>some (a0i [t7],p5.2)
theorem e97 (t0:D) (h:Hp):R c0l [t0] h=F97 t0 h :=
 er i60 (by kernel_rfl) (by kernel_rfl)
noncomputable def b4A (t0 t4m:D) (ds:List D) (h_1:Hp):Option Out :=
 (a0x tab a0C t4m).bind fun t9=>(a0l tab .lss ty3 (nth 1 ds) t9).bind fun t10=>dIf t10
  ((R a3A [t0,.int .i64 3] h_1).bind fun p14=>(a0l tab .eql ty3 p14.1 (.int .i64 1)).bind fun t15=>(dIf t15
  ((a0b tab a0C t4m (nth 1 ds)).bind fun t19=>(a0c tab p14.2 ty9 t19).bind fun t20=>(R c1F [t0] p14.2).bind fun p22=>(a0T tab a3l [0,1] [t20,p22.1]).bind fun t23=>(a0y tab a4V 1 [0] [t23]).bind fun t24=>(a0p tab p22.2 a4V a4V (nth 0 ds) t24).bind fun p25=>chk (a0c tab p22.2 ty9 t19=some t20)
 (some (.nrm,[p25.1],p25.2)))
  (some (.nrm,[nth 0 ds],p14.2))).bind fun r_1=>a0D (a0z 1 r_1.1) ((a0l tab .add ty3 (nth 1 ds) (.int .i64 1)).bind fun t12=>some (.nrm,[nth 0 r_1.2.1,t12,t10,t15],r_1.2.2)) fun x=>some (x,[nth 0 r_1.2.1,nth 1 ds,t10,t15],r_1.2.2))
  (some ((.ext 0),[nth 0 ds,nth 1 ds,t10,nth 3 ds],h_1))
noncomputable def F98 (t0:D) (h:Hp):Option (D × Hp) :=
 (a0y tab a0C 4 [0,1,2,3] [.str [99,111,100,101],.str [108,101,118,101,108],.str [109,115],.str [117,115,101,114]]).bind fun t6=>((a0F (b4A t0 t6) [.nils,.int .i64 0,.any,.any] h).bind fun r=>some ((a0z 0 r.1),[nth 0 r.2.1,nth 1 r.2.1,nth 2 r.2.1,nth 3 r.2.1],r.2.2)).bind fun r_2=>a0D r_2.1 (scope h r_2.2.2 (a0i [nth 0 r_2.2.1])) fun x_1=>a0N x_1 (scope h r_2.2.2 (a0i [.nils]))
theorem e98 (t0:D) (h:Hp):R b8X [t0] h=F98 t0 h :=
 er i61 (by kernel_rfl) (by kernel_rfl)
noncomputable def a6C (t1 t8m t9:D) (ds:List D) (h_1:Hp):Option Out :=
 (a0l tab .lss ty3 (nth 3 ds) t9).bind fun t11=>dIf t11
  ((a0b tab a4V t8m (nth 3 ds)).bind fun t12=>(a0c tab h_1 a3l t12).bind fun t13=>(a7L 2 t13).bind fun t7=>(a0a tab a3l 0 t7).bind fun t14=>(a0c tab h_1 ty9 t14).bind fun t15=>(a0l tab .eql ty9 t15 t1).bind fun t17=>dIf t17
  ((a0a tab a3l 1 t7).bind fun t18=>(a0c tab h_1 ty9 t18).bind fun t19=>some (.ret,[t19,.bool true,t7,nth 3 ds,t11,t17],h_1))
  ((a0l tab .add ty3 (nth 3 ds) (.int .i64 1)).bind fun t20=>some (.nrm,[nth 0 ds,nth 1 ds,t7,t20,t11,t17],h_1)))
  (some ((.ext 0),[nth 0 ds,nth 1 ds,nth 2 ds,nth 3 ds,t11,nth 5 ds],h_1))
noncomputable def F70 (t0 t1:D) (h:Hp):Option (D × Hp) :=
 (a0x tab a4V t0).bind fun t9=>((a0F (a6C t1 t0 t9) [.str [],.bool false,.any,.int .i64 0,.any,.any] h).bind fun r=>some ((a0z 0 r.1),[nth 0 r.2.1,nth 1 r.2.1,nth 2 r.2.1,nth 3 r.2.1,nth 4 r.2.1,nth 5 r.2.1],r.2.2)).bind fun r_1=>a0D r_1.1 (some (a0i [.str [],.bool false],r_1.2.2)) fun x=>a0N x (some (a0i [nth 0 r_1.2.1,nth 1 r_1.2.1],r_1.2.2))
theorem e70 (t0 t1:D) (h:Hp):R c1H [t0,t1] h=F70 t0 t1 h :=
 er i70 (by kernel_rfl) (by kernel_rfl)
noncomputable def a8v (t0 t1:D) (ds:List D) (h_1:Hp):Option Out :=
 (a0x tab a0C t0).bind fun t8=>(a0l tab .lss ty3 (nth 1 ds) t8).bind fun t9=>(gd t9 true (some (nth 1 ds))).bind fun t11=>(gd t9 true (some t1)).bind fun t12=>(gd t9 true (a0x tab a0C t12)).bind fun t13=>(gd t9 true (a0l tab .lss ty3 t11 t13)).bind fun t14=>(a1s t9 t14 (.bool false)).bind fun t15=>dIf t15
  ((a0b tab a0C t0 (nth 1 ds)).bind fun t20=>(a0c tab h_1 ty9 t20).bind fun t21=>(a0b tab a0C t1 (nth 1 ds)).bind fun t24=>(a0c tab h_1 ty9 t24).bind fun t25=>(a0l tab .lss ty9 t21 t25).bind fun t26=>dIf t26
  (some (.ret,[.int .i64 (-1),nth 1 ds,t15,t26,nth 4 ds],h_1))
  ((a0b tab a0C t0 (nth 1 ds)).bind fun t29=>(a0c tab h_1 ty9 t29).bind fun t30=>(a0b tab a0C t1 (nth 1 ds)).bind fun t33=>(a0c tab h_1 ty9 t33).bind fun t34=>(a0l tab .gtr ty9 t30 t34).bind fun t35=>dIf t35
  (some (.ret,[.int .i64 1,nth 1 ds,t15,t26,t35],h_1))
  ((a0l tab .add ty3 (nth 1 ds) (.int .i64 1)).bind fun t17=>some (.nrm,[nth 0 ds,t17,t15,t26,t35],h_1))))
  (some ((.ext 0),[nth 0 ds,nth 1 ds,t15,nth 3 ds,nth 4 ds],h_1))
noncomputable def b7V (t0 t1:D) (h:Hp):Option (D × Hp) :=
 ((a0F (a8v t0 t1) [.int .i64 0,.int .i64 0,.any,.any,.any] h).bind fun r=>some ((a0z 0 r.1),[nth 0 r.2.1,nth 1 r.2.1,nth 2 r.2.1,nth 3 r.2.1,nth 4 r.2.1],r.2.2)).bind fun r_1=>a0D r_1.1 ((a0x tab a0C t0).bind fun t38=>(a0x tab a0C t1).bind fun t40=>(a0l tab .lss ty3 t38 t40).bind fun t41=>dIf t41
  (some (a0i [.int .i64 (-1)],r_1.2.2))
  ((a0x tab a0C t0).bind fun t44=>(a0x tab a0C t1).bind fun t46=>(a0l tab .gtr ty3 t44 t46).bind fun t47=>dIf t47
  (some (a0i [.int .i64 1],r_1.2.2))
  (some (a0i [.int .i64 0],r_1.2.2)))) fun x=>a0N x (some (a0i [nth 0 r_1.2.1],r_1.2.2))
theorem c0Z (t0 t1:D) (h:Hp):R b1q [t0,t1] h=b7V t0 t1 h :=
 er i71 (by kernel_rfl) (by kernel_rfl)
noncomputable def a5M (t0 t4 t5:D) (p7:D × Hp) (ds:List D) (h_1:Hp):Option Out :=
 (a0x tab a4e t0).bind fun t17=>(a0l tab .lss ty3 (nth 0 ds) t17).bind fun t18=>dIf t18
  ((a0a tab a0k 1 t4).bind fun t21=>(a0c tab h_1 a1c t21).bind fun t22=>(a0b tab a1c t22 (nth 0 ds)).bind fun t24=>(a0c tab h_1 ty3 t24).bind fun t25=>(a0a tab a0k 2 t4).bind fun t26=>(a0c tab h_1 a0G t26).bind fun t27=>(a0b tab a0G t27 (nth 0 ds)).bind fun t29=>(a0c tab h_1 ty4 t29).bind fun t30=>(gd t30 false (a0a tab a0k 2 t5)).bind fun t32=>(gd t30 false (a0c tab h_1 a0G t32)).bind fun t33=>(gd t30 false (some (nth 0 ds))).bind fun t34=>(gd t30 false (a0b tab a0G t33 t34)).bind fun t35=>(gd t30 false (a0c tab h_1 ty4 t35)).bind fun t36=>(a1s t30 (.bool true) t36).bind fun t37=>(a0b tab a4e t0 (nth 0 ds)).bind fun t40=>(a0a tab a3f 0 t40).bind fun t41=>(a0c tab h_1 ty3 t41).bind fun t42=>(a0l tab .eql ty3 t42 (.int .i64 0)).bind fun t44=>(dIf t44
  (some (.nrm,[t44],h_1))
  ((a0l tab .eql ty3 t42 (.int .i64 1)).bind fun t45=>some (.nrm,[t45],h_1))).bind fun r_1=>a0D r_1.1 ((dIf (nth 0 r_1.2.1)
  ((a0a tab a0k 1 t5).bind fun t47=>(a0c tab r_1.2.2 a1c t47).bind fun t48=>(a0b tab a1c t48 (nth 0 ds)).bind fun t50=>(a0c tab r_1.2.2 ty3 t50).bind fun t51=>(a0l tab .add ty3 t25 t51).bind fun t52=>some (.nrm,[t52,.nils,nth 7 ds,nth 8 ds,nth 9 ds,nth 10 ds,nth 11 ds],r_1.2.2))
  ((a0l tab .eql ty3 t42 (.int .i64 2)).bind fun t54=>(dIf t54
  ((a0a tab a0k 2 t4).bind fun t55=>(a0c tab r_1.2.2 a0G t55).bind fun t56=>(a0b tab a0G t56 (nth 0 ds)).bind fun t58=>(a0c tab r_1.2.2 ty4 t58).bind fun t59=>(dUn .not t59).bind fun t60=>(gd t60 false (a0a tab a0k 2 t5)).bind fun t62=>(gd t60 false (a0c tab r_1.2.2 a0G t62)).bind fun t63=>(gd t60 false (some (nth 0 ds))).bind fun t64=>(gd t60 false (a0b tab a0G t63 t64)).bind fun t65=>(gd t60 false (a0c tab r_1.2.2 ty4 t65)).bind fun t66=>(gd t60 false (some t66)).bind fun t67=>(gd t67 true (a0a tab a0k 1 t5)).bind fun t68=>(gd t67 true (a0c tab r_1.2.2 a1c t68)).bind fun t69=>(gd t67 true (some (nth 0 ds))).bind fun t70=>(gd t67 true (a0b tab a1c t69 t70)).bind fun t71=>(gd t67 true (a0c tab r_1.2.2 ty3 t71)).bind fun t72=>(gd t67 true (some t25)).bind fun t73=>(gd t67 true (a0l tab .lss ty3 t72 t73)).bind fun t74=>(gd t60 false (a1s t67 t74 (.bool false))).bind fun t75=>(a1s t60 (.bool true) t75).bind fun t76=>(dIf t76
  ((a0a tab a0k 1 t5).bind fun t77=>(a0c tab r_1.2.2 a1c t77).bind fun t78=>(a0b tab a1c t78 (nth 0 ds)).bind fun t80=>(a0c tab r_1.2.2 ty3 t80).bind fun t81=>some (.nrm,[t81],r_1.2.2))
  (some (.nrm,[t25],r_1.2.2))).bind fun r_2=>some (r_2.1,[nth 0 r_2.2.1,.nils,t76,nth 9 ds,nth 10 ds,nth 11 ds],r_2.2.2))
  ((a0l tab .eql ty3 t42 (.int .i64 3)).bind fun t83=>(dIf t83
  ((a0a tab a0k 2 t4).bind fun t84=>(a0c tab r_1.2.2 a0G t84).bind fun t85=>(a0b tab a0G t85 (nth 0 ds)).bind fun t87=>(a0c tab r_1.2.2 ty4 t87).bind fun t88=>(dUn .not t88).bind fun t89=>(gd t89 false (a0a tab a0k 2 t5)).bind fun t91=>(gd t89 false (a0c tab r_1.2.2 a0G t91)).bind fun t92=>(gd t89 false (some (nth 0 ds))).bind fun t93=>(gd t89 false (a0b tab a0G t92 t93)).bind fun t94=>(gd t89 false (a0c tab r_1.2.2 ty4 t94)).bind fun t95=>(gd t89 false (some t95)).bind fun t96=>(gd t96 true (a0a tab a0k 1 t5)).bind fun t97=>(gd t96 true (a0c tab r_1.2.2 a1c t97)).bind fun t98=>(gd t96 true (some (nth 0 ds))).bind fun t99=>(gd t96 true (a0b tab a1c t98 t99)).bind fun t100=>(gd t96 true (a0c tab r_1.2.2 ty3 t100)).bind fun t101=>(gd t96 true (some t25)).bind fun t102=>(gd t96 true (a0l tab .gtr ty3 t101 t102)).bind fun t103=>(gd t89 false (a1s t96 t103 (.bool false))).bind fun t104=>(a1s t89 (.bool true) t104).bind fun t105=>(dIf t105
  ((a0a tab a0k 1 t5).bind fun t106=>(a0c tab r_1.2.2 a1c t106).bind fun t107=>(a0b tab a1c t107 (nth 0 ds)).bind fun t109=>(a0c tab r_1.2.2 ty3 t109).bind fun t110=>some (.nrm,[t110],r_1.2.2))
  (some (.nrm,[t25],r_1.2.2))).bind fun r_3=>some (r_3.1,[nth 0 r_3.2.1,.nils,t105,nth 11 ds],r_3.2.2))
  ((a0l tab .eql ty3 t42 (.int .i64 4)).bind fun t112=>(dIf t112
  ((a0a tab a0k 3 t4).bind fun t113=>(a0c tab r_1.2.2 a0L t113).bind fun t114=>(a0b tab a0L t114 (nth 0 ds)).bind fun t116=>(a0c tab r_1.2.2 a0C t116).bind fun t117=>(a0p tab r_1.2.2 a0C a0C (.nils) t117).bind fun p118=>(a0a tab a0k 3 t5).bind fun t119=>(a0c tab p118.2 a0L t119).bind fun t120=>(a0b tab a0L t120 (nth 0 ds)).bind fun t122=>(a0c tab p118.2 a0C t122).bind fun t123=>(a0p tab p118.2 a0C a0C p118.1 t123).bind fun p124=>(R a9q [p124.1] p124.2).bind fun p125=>chk (a0c tab r_1.2.2 a0L t119=some t120)
 (chk (a0c tab r_1.2.2 a0C t122=some t123)
 ((a0x tab a0C p125.1).bind fun t127=>some (.nrm,[t127,p125.1],p125.2))))
  (some (.nrm,[t25,.nils],r_1.2.2))).bind fun r_4=>some (r_4.1,[nth 0 r_4.2.1,nth 1 r_4.2.1,nth 10 ds,t112],r_4.2.2))).bind fun r_5=>some (r_5.1,[nth 0 r_5.2.1,nth 1 r_5.2.1,nth 8 ds,t83,nth 2 r_5.2.1,nth 3 r_5.2.1],r_5.2.2))).bind fun r_6=>some (r_6.1,[nth 0 r_6.2.1,nth 1 r_6.2.1,t54,nth 2 r_6.2.1,nth 3 r_6.2.1,nth 4 r_6.2.1,nth 5 r_6.2.1],r_6.2.2))).bind fun r_7=>a0D (a0z 2 r_7.1) ((a0a tab a0k 1 p7.1).bind fun t128=>(a0c tab r_7.2.2 a1c t128).bind fun t129=>(a0y tab a1c 1 [0] [nth 0 r_7.2.1]).bind fun t131=>(a0p tab r_7.2.2 a1c a1c t129 t131).bind fun p132=>(a0a tab a0k 2 p7.1).bind fun t133=>(a0c tab p132.2 a0G t133).bind fun t134=>(a0y tab a0G 1 [0] [t37]).bind fun t136=>(a0p tab p132.2 a0G a0G t134 t136).bind fun p137=>(a0a tab a0k 3 p7.1).bind fun t138=>(a0c tab p137.2 a0L t138).bind fun t139=>(a0y tab a0L 1 [0] [nth 1 r_7.2.1]).bind fun t141=>(a0p tab p137.2 a0L a0L t139 t141).bind fun p142=>(a0a tab a0k 1 p7.1).bind fun t143=>((a0s tab p142.2 a1c t143 p132.1).bind fun h'=>some ((.und:D),h')).bind fun p916=>(a0a tab a0k 2 p7.1).bind fun t144=>((a0s tab p916.2 a0G t144 p137.1).bind fun h'=>some ((.und:D),h')).bind fun p918=>chk (a0c tab r_7.2.2 a0G t133=some t134)
 (chk (a0c tab r_7.2.2 a0L t138=some t139)
 (chk (a0c tab p132.2 a0L t138=some t139)
 ((a0a tab a0k 3 p7.1).bind fun t145=>((a0s tab p918.2 a0L t145 p142.1).bind fun h'=>some ((.und:D),h')).bind fun p920=>(a0l tab .add ty3 (nth 0 ds) (.int .i64 1)).bind fun t20=>some (.nrm,[t20,nth 0 r_7.2.1,t37,nth 1 r_7.2.1,t18,t42,nth 0 r_1.2.1,nth 2 r_7.2.1,nth 3 r_7.2.1,nth 4 r_7.2.1,nth 5 r_7.2.1,nth 6 r_7.2.1],p920.2))))) fun x_1=>a0D (a0z 1 x_1) ((a0l tab .add ty3 (nth 0 ds) (.int .i64 1)).bind fun t20_1=>some (.nrm,[t20_1,nth 0 r_7.2.1,t37,nth 1 r_7.2.1,t18,t42,nth 0 r_1.2.1,nth 2 r_7.2.1,nth 3 r_7.2.1,nth 4 r_7.2.1,nth 5 r_7.2.1,nth 6 r_7.2.1],r_7.2.2)) fun x_2=>some (x_2,[nth 0 ds,nth 0 r_7.2.1,t37,nth 1 r_7.2.1,t18,t42,nth 0 r_1.2.1,nth 2 r_7.2.1,nth 3 r_7.2.1,nth 4 r_7.2.1,nth 5 r_7.2.1,nth 6 r_7.2.1],r_7.2.2)) fun x=>a0D (a0z 2 x) ((a0a tab a0k 1 p7.1).bind fun t128_1=>(a0c tab r_1.2.2 a1c t128_1).bind fun t129_1=>(a0y tab a1c 1 [0] [t25]).bind fun t131_1=>(a0p tab r_1.2.2 a1c a1c t129_1 t131_1).bind fun p132_1=>(a0a tab a0k 2 p7.1).bind fun t133_1=>(a0c tab p132_1.2 a0G t133_1).bind fun t134_1=>(a0y tab a0G 1 [0] [t37]).bind fun t136_1=>(a0p tab p132_1.2 a0G a0G t134_1 t136_1).bind fun p137_1=>(a0a tab a0k 3 p7.1).bind fun t138_1=>(a0c tab p137_1.2 a0L t138_1).bind fun t139_1=>(a0y tab a0L 1 [0] [.nils]).bind fun t141_1=>(a0p tab p137_1.2 a0L a0L t139_1 t141_1).bind fun p142_1=>(a0a tab a0k 1 p7.1).bind fun t143_1=>((a0s tab p142_1.2 a1c t143_1 p132_1.1).bind fun h'=>some ((.und:D),h')).bind fun p916_1=>(a0a tab a0k 2 p7.1).bind fun t144_1=>((a0s tab p916_1.2 a0G t144_1 p137_1.1).bind fun h'=>some ((.und:D),h')).bind fun p918_1=>chk (a0c tab r_1.2.2 a0G t133_1=some t134_1)
 (chk (a0c tab r_1.2.2 a0L t138_1=some t139_1)
 (chk (a0c tab p132_1.2 a0L t138_1=some t139_1)
 ((a0a tab a0k 3 p7.1).bind fun t145_1=>((a0s tab p918_1.2 a0L t145_1 p142_1.1).bind fun h'=>some ((.und:D),h')).bind fun p920_1=>(a0l tab .add ty3 (nth 0 ds) (.int .i64 1)).bind fun t20_2=>some (.nrm,[t20_2,t25,t37,.nils,t18,t42,nth 0 r_1.2.1,nth 7 ds,nth 8 ds,nth 9 ds,nth 10 ds,nth 11 ds],p920_1.2))))) fun x_3=>a0D (a0z 1 x_3) ((a0l tab .add ty3 (nth 0 ds) (.int .i64 1)).bind fun t20_3=>some (.nrm,[t20_3,t25,t37,.nils,t18,t42,nth 0 r_1.2.1,nth 7 ds,nth 8 ds,nth 9 ds,nth 10 ds,nth 11 ds],r_1.2.2)) fun x_4=>some (x_4,[nth 0 ds,t25,t37,.nils,t18,t42,nth 0 r_1.2.1,nth 7 ds,nth 8 ds,nth 9 ds,nth 10 ds,nth 11 ds],r_1.2.2))
  (some ((.ext 0),[nth 0 ds,nth 1 ds,nth 2 ds,nth 3 ds,t18,nth 5 ds,nth 6 ds,nth 7 ds,nth 8 ds,nth 9 ds,nth 10 ds,nth 11 ds],h_1))
noncomputable def b8b (t0 t1 t2:D) (h:Hp):Option (D × Hp) :=
 (a1J t1).bind fun t4=>(a1J t2).bind fun t5=>(some ((.ptr h.length 0 0:D),a0H h a0k 4 [[.nils,.nils,.nils,.nils]])).bind fun p6=>(a0a tab a0k 0 t4).bind fun t12=>(a0c tab p6.2 a0C t12).bind fun t13=>(a0T tab a0k [0] [t13]).bind fun t14=>(some ((.ptr p6.2.length 0 0:D),a0H p6.2 a0k 4 [[.nils,.nils,.nils,.nils]])).bind fun p7=>((a0s tab p7.2 a0k p7.1 t14).bind fun h'=>some ((.und:D),h')).bind fun p904=>((a0F (a5M t0 t4 t5 p7) [.int .i64 0,.any,.any,.any,.any,.any,.any,.any,.any,.any,.any,.any] p904.2).bind fun r=>some ((a0z 0 r.1),[nth 0 r.2.1,nth 1 r.2.1,nth 2 r.2.1,nth 3 r.2.1,nth 4 r.2.1,nth 5 r.2.1,nth 6 r.2.1,nth 7 r.2.1,nth 8 r.2.1,nth 9 r.2.1,nth 10 r.2.1,nth 11 r.2.1],r.2.2)).bind fun r_8=>a0D r_8.1 ((a0c tab r_8.2.2 a0k p7.1).bind fun t146=>((a0s tab r_8.2.2 a0k p6.1 t146).bind fun h'=>some ((.und:D),h')).bind fun p901=>(a0c tab p901.2 a0k p6.1).bind fun d0=>scope h p901.2 (a0i [d0])) fun x_5=>a0N x_5 ((a0c tab r_8.2.2 a0k p6.1).bind fun d0=>scope h r_8.2.2 (a0i [d0]))
theorem c1f (t0 t1 t2:D) (h:Hp):R a9o [t0,t1,t2] h=b8b t0 t1 t2 h :=
 er i72 (by kernel_rfl) (by kernel_rfl)
noncomputable def a8z (t0 t3:D) (ds:List D) (h_1:Hp):Option Out :=
 (a0x tab a0C t0).bind fun t11=>(a0l tab .lss ty3 (nth 1 ds) t11).bind fun t12=>dIf t12
  ((a0c tab h_1 a0O t3).bind fun t16=>(a0b tab a0C t0 (nth 1 ds)).bind fun t19=>(a0c tab h_1 ty9 t19).bind fun t20=>(R a7f [t16,t20] h_1).bind fun p21=>(a0B 0 p21.1).bind fun t22=>(a0B 1 p21.1).bind fun t23=>(a0y tab a0C 1 [0] [t22]).bind fun t26=>(a0p tab p21.2 a0C a0C (nth 0 ds) t26).bind fun p27=>(a0l tab .add ty3 (nth 1 ds) (.int .i64 1)).bind fun t14=>some (.nrm,[p27.1,t14,t22,t12],p27.2))
  (some ((.ext 0),[nth 0 ds,nth 1 ds,nth 2 ds,t12],h_1))
noncomputable def b8c (t0 t1:D) (h:Hp):Option (D × Hp) :=
 (a1J t1).bind fun t3=>((a0F (a8z t0 t3) [.nils,.int .i64 0,.any,.any] h).bind fun r=>some ((a0z 0 r.1),[nth 0 r.2.1,nth 1 r.2.1,nth 2 r.2.1,nth 3 r.2.1],r.2.2)).bind fun r_1=>a0D r_1.1 (scope h r_1.2.2 (a0i [nth 0 r_1.2.1])) fun x=>a0N x (scope h r_1.2.2 (a0i [.nils]))
theorem c1g (t0 t1:D) (h:Hp):R a9p [t0,t1] h=b8c t0 t1 h :=
 er i73 (by kernel_rfl) (by kernel_rfl)
noncomputable def b8d (t0 t1:D) (h:Hp):Option (D × Hp) :=
 (a1J t0).bind fun t2=>(a0c tab h a0O t2).bind fun t9=>(R a7f [t9,t1] h).bind fun p11=>(a0B 0 p11.1).bind fun t12=>(a0B 1 p11.1).bind fun t13=>(dUn .not t13).bind fun t15=>dIf t15
  (some (a0i [.int .i64 0,.bool false],p11.2))
  ((R b4R [t12] p11.2).bind fun p17=>(a0B 0 p17.1).bind fun t18=>(a0B 1 p17.1).bind fun t19=>some (a0i [t18,t19],p17.2))
theorem c1h (t0 t1:D) (h:Hp):R b1u [t0,t1] h=b8d t0 t1 h :=
 er i74 (by kernel_rfl) (by kernel_rfl)
noncomputable def b8e (t0 t1:D) (h:Hp):Option (D × Hp) :=
 (a1J t0).bind fun t2=>(a0l tab .eql ty9 t1 (.str [64,104,111,115,116])).bind fun t8=>dIf t8
  ((a0a tab a0O 0 t2).bind fun t9=>(a0c tab h ty3 t9).bind fun t10=>(R a5p [t10] h).bind fun p11=>some (a0i [p11.1,.bool true],p11.2))
  ((a0l tab .eql ty9 t1 (.str [64,102,105,108,101])).bind fun t13=>dIf t13
  ((a0a tab a0O 1 t2).bind fun t14=>(a0c tab h ty3 t14).bind fun t15=>(R a5p [t15] h).bind fun p16=>some (a0i [p16.1,.bool true],p16.2))
  ((a0l tab .eql ty9 t1 (.str [64,116,105,109,101])).bind fun t18=>dIf t18
  ((a0a tab a0O 5 t2).bind fun t19=>(a0c tab h ty3 t19).bind fun t20=>(R a5p [t20] h).bind fun p21=>some (a0i [p21.1,.bool true],p21.2))
  ((a0l tab .eql ty9 t1 (.str [64,119,101,105,103,104,116])).bind fun t23=>dIf t23
  ((a0a tab a0O 6 t2).bind fun t24=>(a0c tab h ty3 t24).bind fun t25=>(R a5p [t25] h).bind fun p26=>some (a0i [p26.1,.bool true],p26.2))
  ((a0l tab .eql ty9 t1 (.str [64,116,114,97,99,101])).bind fun t28=>dIf t28
  ((a0a tab a0O 7 t2).bind fun t29=>(a0c tab h ty9 t29).bind fun t30=>some (a0i [t30,.bool true],h))
  ((a0l tab .eql ty9 t1 (.str [64,115,116,114,101,97,109])).bind fun t32=>dIf t32
  ((a0a tab a0O 8 t2).bind fun t33=>(a0c tab h ty9 t33).bind fun t34=>some (a0i [t34,.bool true],h))
  ((a0a tab a0O 9 t2).bind fun t35=>(a0c tab h a4V t35).bind fun t36=>(R c1I [t36,t1] h).bind fun p38=>(a0B 0 p38.1).bind fun t39=>(a0B 1 p38.1).bind fun t40=>some (a0i [t39,t40],p38.2)))))))
theorem c1i (t0 t1:D) (h:Hp):R a7f [t0,t1] h=b8e t0 t1 h :=
 er i75 (by kernel_rfl) (by kernel_rfl)
noncomputable def a8A (t0 t2 t4:D) (ds:List D) (h_1:Hp):Option Out :=
 (a0l tab .neq ty3 (nth 0 ds) (nth 1 ds)).bind fun t20=>dIf t20
  ((a0l tab .gtr ty3 (nth 0 ds) (nth 1 ds)).bind fun t23=>(dIf t23
  ((a0l tab .sub ty3 t2 (nth 0 ds)).bind fun t27=>(R a7g [t0,t27,t2,nth 1 ds,t4] h_1).bind fun p31=>(a0l tab .sub ty3 (nth 0 ds) (nth 1 ds)).bind fun t34=>some (.nrm,[t34,nth 1 ds],p31.2))
  ((a0l tab .sub ty3 t2 (nth 0 ds)).bind fun t38=>(a0l tab .add ty3 t2 (nth 1 ds)).bind fun t41=>(a0l tab .sub ty3 t41 (nth 0 ds)).bind fun t43=>(R a7g [t0,t38,t43,nth 0 ds,t4] h_1).bind fun p46=>(a0l tab .sub ty3 (nth 1 ds) (nth 0 ds)).bind fun t49=>some (.nrm,[nth 0 ds,t49],p46.2))).bind fun r_1=>some ((a0z 1 r_1.1),[nth 0 r_1.2.1,nth 1 r_1.2.1,t20,t23],r_1.2.2))
  (some ((.ext 0),[nth 0 ds,nth 1 ds,t20,nth 3 ds],h_1))
noncomputable def b8f (t0 t1 t2 t3 t4:D) (h:Hp):Option (D × Hp) :=
 (a0l tab .sub ty3 t2 t1).bind fun t14=>(a0l tab .sub ty3 t3 t2).bind fun t17=>((a0F (a8A t0 t2 t4) [t14,t17,.any,.any] h).bind fun r=>some ((a0z 0 r.1),[nth 0 r.2.1,nth 1 r.2.1,nth 2 r.2.1,nth 3 r.2.1],r.2.2)).bind fun r_2=>a0D r_2.1 ((a0l tab .sub ty3 t2 (nth 0 r_2.2.1)).bind fun t53=>(R a7g [t0,t53,t2,nth 0 r_2.2.1,t4] r_2.2.2).bind fun p57=>some (a0i [],p57.2)) fun x=>a0N x (some (a0i [],r_2.2.2))
theorem c1j (t0 t1 t2 t3 t4:D) (h:Hp):R b1v [t0,t1,t2,t3,t4] h=b8f t0 t1 t2 t3 t4 h :=
 er i76 (by kernel_rfl) (by kernel_rfl)
noncomputable def c3n (t0:D) (h:Hp):Option (D × Hp) :=
 (a0l tab .neq ty9 t0 t0).bind fun t5=>some (a0i [t5],h)
theorem c3X (t0:D) (h:Hp):R b3N [t0] h=c3n t0 h :=
 er i77 (by kernel_rfl) (by kernel_rfl)
noncomputable def c3o (t0:D) (h:Hp):Option (D × Hp) :=
 (a0y tab a0C 14 [0,1,2,3,4,5,6,7,8,9,10,11,12,13] [.str [103,101,116],.str [101,114,114,111,114],.str [119,97,114,110],.str [97,49],.str [117,115,101,114,95,55],.str [120],.str [84,105,109,101,111,117,116],.str [50,48,48],.str [71,69,84],.str [101,114,114,111],.str [122],.str [],.str [255],.str [97,46,98]]).bind fun t4=>(a0x tab a0C t4).bind fun t8=>(R a3A [t0,t8] h).bind fun p9=>(a0b tab a0C t4 p9.1).bind fun t10=>(a0c tab p9.2 ty9 t10).bind fun t11=>some (a0i [t11],p9.2)
theorem c3Y (t0:D) (h:Hp):R b3O [t0] h=c3o t0 h :=
 er i78 (by kernel_rfl) (by kernel_rfl)
noncomputable def F33 (t0:D) (h:Hp):Option (D × Hp) :=
 (a0y tab a0C 11 [0,1,2,3,4,5,6,7,8,9,10] [.str [119,97,114,110],.str [105,110,102,111],.str [55],.str [45,51],.str [51,49],.str [],.str [120,32,121],.str [57,57,57,57,57,57,57,57,57,57,57,57,57,57,57,57,57,57],.str [49,48,48,48,48,48,48,48,48,48,48,48,48,48,48,48,48,48,48],.str [48,55],.str [45]]).bind fun t4=>(a0x tab a0C t4).bind fun t8=>(R a3A [t0,t8] h).bind fun p9=>(a0b tab a0C t4 p9.1).bind fun t10=>(a0c tab p9.2 ty9 t10).bind fun t11=>some (a0i [t11],p9.2)
theorem e33 (t0:D) (h:Hp):R c1F [t0] h=F33 t0 h :=
 er i79 (by kernel_rfl) (by kernel_rfl)
noncomputable def c0p (t0:D) (h:Hp):Option (D × Hp) :=
 (a0x tab a0C t0).bind fun t8=>(a0l tab .lss ty3 t8 (.int .i64 2)).bind fun t9=>dIf t9
  ((a0p tab h a0C a0C (.nils) t0).bind fun p11=>scope h p11.2 (a0i [p11.1]))
  ((a0x tab a0C t0).bind fun t13=>(a0l tab .quo ty3 t13 (.int .i64 2)).bind fun t14=>(a0E tab a0C false true false [t0,t14]).bind fun t18=>(R a9q [t18] h).bind fun p19=>(a0E tab a0C true false false [t0,t14]).bind fun t22=>(R a9q [t22] p19.2).bind fun p23=>(R b4S [p19.1,p23.1] p23.2).bind fun p24=>(a0B 0 p24.1).bind fun t25=>(a0B 1 p24.1).bind fun t26=>(a0B 2 p24.1).bind fun t27=>scope h p24.2 (a0i [t25]))
theorem c3Z (t0:D) (h:Hp):R a9q [t0] h=c0p t0 h :=
 er i82 (by kernel_rfl) (by kernel_rfl)
noncomputable def c0q (t0:D) (h:Hp):Option (D × Hp) :=
 (R b4T [t0] h).bind fun p5=>(a0B 0 p5.1).bind fun t6=>(a0B 1 p5.1).bind fun t7=>some (a0i [t6,t7],p5.2)
theorem c4a (t0:D) (h:Hp):R b4R [t0] h=c0q t0 h :=
 er i83 (by kernel_rfl) (by kernel_rfl)
noncomputable def a8B (ds:List D) (h_1:Hp):Option Out :=
 (a0l tab .rem a4d (nth 0 ds) (.int .u64 10)).bind fun t12=>(a0l tab .add a4d (.int .u64 48) t12).bind fun t13=>(a2g tab a4d ty5 t13).bind fun t14=>(a0y tab a5c 1 [0] [t14]).bind fun t15=>(a0p tab h_1 a5c a5c t15 (nth 1 ds)).bind fun p17=>(a0l tab .quo a4d (nth 0 ds) (.int .u64 10)).bind fun t19=>(a0l tab .eql a4d t19 (.int .u64 0)).bind fun t21=>dIf t21
  (some ((.ext 0),[t19,p17.1,t21],p17.2))
  (some (.nrm,[t19,p17.1,t21],p17.2))
noncomputable def b8g (t0:D) (h:Hp):Option (D × Hp) :=
 (a2g tab ty3 a4d t0).bind fun t6=>(a0l tab .lss ty3 t0 (.int .i64 0)).bind fun t8=>(dIf t8
  ((dUn .neg t6).bind fun t10=>some (.nrm,[t10],h))
  (some (.nrm,[t6],h))).bind fun r=>a0D r.1 (((a0F (a8B) [nth 0 r.2.1,.nils,.any] r.2.2).bind fun r_1=>some ((a0z 0 r_1.1),[nth 0 r_1.2.1,nth 1 r_1.2.1,nth 2 r_1.2.1],r_1.2.2)).bind fun r_2=>a0D r_2.1 ((a0l tab .lss ty3 t0 (.int .i64 0)).bind fun t23=>(dIf t23
  ((a0y tab a5c 1 [0] [.int .u8 45]).bind fun t24=>(a0p tab r_2.2.2 a5c a5c t24 (nth 1 r_2.2.1)).bind fun p26=>some (.nrm,[p26.1],p26.2))
  (some (.nrm,[nth 1 r_2.2.1],r_2.2.2))).bind fun r_3=>a0D r_3.1 ((a6T r_3.2.2 (nth 0 r_3.2.1)).bind fun t28=>scope h r_3.2.2 (a0i [t28])) fun x_2=>a0N x_2 (scope h r_3.2.2 (a0i [.str []]))) fun x_1=>a0N x_1 (scope h r_2.2.2 (a0i [.str []]))) fun x=>a0N x (scope h r.2.2 (a0i [.str []]))
theorem c1k (t0:D) (h:Hp):R a5p [t0] h=b8g t0 h :=
 er i84 (by kernel_rfl) (by kernel_rfl)
noncomputable def a6D (t0 t1:D) (ds:List D) (h_1:Hp):Option Out :=
 (a0x tab a4V t0).bind fun t9=>(a0l tab .lss ty3 (nth 2 ds) t9).bind fun t10=>dIf t10
  ((a0b tab a4V t0 (nth 2 ds)).bind fun t15=>(a0a tab a3l 0 t15).bind fun t16=>(a0c tab h_1 ty9 t16).bind fun t17=>(a0l tab .eql ty9 t17 t1).bind fun t19=>dIf t19
  ((a0b tab a4V t0 (nth 2 ds)).bind fun t22=>(a0a tab a3l 1 t22).bind fun t23=>(a0c tab h_1 ty9 t23).bind fun t24=>some (.ret,[t24,.bool true,nth 2 ds,t10,t19],h_1))
  ((a0l tab .add ty3 (nth 2 ds) (.int .i64 1)).bind fun t12=>some (.nrm,[nth 0 ds,nth 1 ds,t12,t10,t19],h_1)))
  (some ((.ext 0),[nth 0 ds,nth 1 ds,nth 2 ds,t10,nth 4 ds],h_1))
noncomputable def F76 (t0 t1:D) (h:Hp):Option (D × Hp) :=
 ((a0F (a6D t0 t1) [.str [],.bool false,.int .i64 0,.any,.any] h).bind fun r=>some ((a0z 0 r.1),[nth 0 r.2.1,nth 1 r.2.1,nth 2 r.2.1,nth 3 r.2.1,nth 4 r.2.1],r.2.2)).bind fun r_1=>a0D r_1.1 (some (a0i [.str [],.bool false],r_1.2.2)) fun x=>a0N x (some (a0i [nth 0 r_1.2.1,nth 1 r_1.2.1],r_1.2.2))
theorem e76 (t0 t1:D) (h:Hp):R c1I [t0,t1] h=F76 t0 t1 h :=
 er i85 (by kernel_rfl) (by kernel_rfl)
noncomputable def a8C (t0 t1 t2 t3:D) (ds:List D) (h_1:Hp):Option Out :=
 (a0l tab .lss ty3 (nth 0 ds) t3).bind fun t13=>dIf t13
  ((a0l tab .add ty3 t1 (nth 0 ds)).bind fun t19=>(a0l tab .add ty3 t2 (nth 0 ds)).bind fun t23=>(a0l tab .add ty3 t2 (nth 0 ds)).bind fun t27=>(a0b tab a0u t0 t27).bind fun t28=>(a0c tab h_1 a0h t28).bind fun t29=>(a0l tab .add ty3 t1 (nth 0 ds)).bind fun t33=>(a0b tab a0u t0 t33).bind fun t34=>(a0c tab h_1 a0h t34).bind fun t35=>(a0b tab a0u t0 t19).bind fun t36=>((a0s tab h_1 a0h t36 t29).bind fun h'=>some ((.und:D),h')).bind fun p921=>(a0b tab a0u t0 t23).bind fun t37=>((a0s tab p921.2 a0h t37 t35).bind fun h'=>some ((.und:D),h')).bind fun p923=>(a0l tab .add ty3 (nth 0 ds) (.int .i64 1)).bind fun t15=>some (.nrm,[t15,t13],p923.2))
  (some ((.ext 0),[nth 0 ds,t13],h_1))
noncomputable def b8h (t0 t1 t2 t3 t4:D) (h:Hp):Option (D × Hp) :=
 ((a0F (a8C t0 t1 t2 t3) [.int .i64 0,.any] h).bind fun r=>some ((a0z 0 r.1),[nth 0 r.2.1,nth 1 r.2.1],r.2.2)).bind fun r_1=>a0N r_1.1 (some (a0i [],r_1.2.2))
theorem c1l (t0 t1 t2 t3 t4:D) (h:Hp):R a7g [t0,t1,t2,t3,t4] h=b8h t0 t1 t2 t3 t4 h :=
 er i86 (by kernel_rfl) (by kernel_rfl)
noncomputable def b3a (t0 t1:D) (ds:List D) (h_1:Hp):Option Out :=
 (a0x tab a0C t0).bind fun t14=>(a0l tab .lss ty3 (nth 3 ds) t14).bind fun t15=>(gd t15 false (some (nth 4 ds))).bind fun t17=>(gd t15 false (some t1)).bind fun t18=>(gd t15 false (a0x tab a0C t18)).bind fun t19=>(gd t15 false (a0l tab .lss ty3 t17 t19)).bind fun t20=>(a1s t15 (.bool true) t20).bind fun t21=>dIf t21
  ((a0x tab a0C t1).bind fun t46=>(a0l tab .eql ty3 (nth 4 ds) t46).bind fun t47=>(gd t47 false (some (nth 3 ds))).bind fun t49=>(gd t47 false (some t0)).bind fun t50=>(gd t47 false (a0x tab a0C t50)).bind fun t51=>(gd t47 false (a0l tab .lss ty3 t49 t51)).bind fun t52=>(gd t47 false (some t52)).bind fun t53=>(gd t53 true (some t0)).bind fun t54=>(gd t53 true (some (nth 3 ds))).bind fun t55=>(gd t53 true (a0b tab a0C t54 t55)).bind fun t56=>(gd t53 true (a0c tab h_1 ty9 t56)).bind fun t57=>(gd t53 true (some t1)).bind fun t58=>(gd t53 true (some (nth 4 ds))).bind fun t59=>(gd t53 true (a0b tab a0C t58 t59)).bind fun t60=>(gd t53 true (a0c tab h_1 ty9 t60)).bind fun t61=>(gd t53 true (a0l tab .lss ty9 t57 t61)).bind fun t62=>(gd t47 false (a1s t53 t62 (.bool false))).bind fun t63=>(a1s t47 (.bool true) t63).bind fun t64=>(dIf t64
  ((a0x tab a0C (nth 0 ds)).bind fun t67=>(a0y tab a1c 1 [0] [t67]).bind fun t68=>(a0p tab h_1 a1c a1c (nth 1 ds) t68).bind fun p69=>(a0b tab a0C t0 (nth 3 ds)).bind fun t73=>(a0c tab p69.2 ty9 t73).bind fun t74=>(a0y tab a0C 1 [0] [t74]).bind fun t75=>(a0p tab p69.2 a0C a0C (nth 0 ds) t75).bind fun p76=>(a0l tab .add ty3 (nth 3 ds) (.int .i64 1)).bind fun t78=>some (.nrm,[p76.1,p69.1,nth 2 ds,t78,nth 4 ds,nth 7 ds],p76.2))
  ((a0x tab a0C t0).bind fun t82=>(a0l tab .eql ty3 (nth 3 ds) t82).bind fun t83=>(gd t83 false (some t1)).bind fun t85=>(gd t83 false (some (nth 4 ds))).bind fun t86=>(gd t83 false (a0b tab a0C t85 t86)).bind fun t87=>(gd t83 false (a0c tab h_1 ty9 t87)).bind fun t88=>(gd t83 false (some t0)).bind fun t89=>(gd t83 false (some (nth 3 ds))).bind fun t90=>(gd t83 false (a0b tab a0C t89 t90)).bind fun t91=>(gd t83 false (a0c tab h_1 ty9 t91)).bind fun t92=>(gd t83 false (a0l tab .lss ty9 t88 t92)).bind fun t93=>(a1s t83 (.bool true) t93).bind fun t94=>(dIf t94
  ((a0x tab a0C (nth 0 ds)).bind fun t97=>(a0y tab a1c 1 [0] [t97]).bind fun t98=>(a0p tab h_1 a1c a1c (nth 2 ds) t98).bind fun p99=>(a0b tab a0C t1 (nth 4 ds)).bind fun t103=>(a0c tab p99.2 ty9 t103).bind fun t104=>(a0y tab a0C 1 [0] [t104]).bind fun t105=>(a0p tab p99.2 a0C a0C (nth 0 ds) t105).bind fun p106=>(a0l tab .add ty3 (nth 4 ds) (.int .i64 1)).bind fun t108=>some (.nrm,[p106.1,nth 1 ds,p99.1,nth 3 ds,t108],p106.2))
  ((a0x tab a0C (nth 0 ds)).bind fun t24=>(a0y tab a1c 1 [0] [t24]).bind fun t25=>(a0p tab h_1 a1c a1c (nth 1 ds) t25).bind fun p26=>(a0x tab a0C (nth 0 ds)).bind fun t29=>(a0y tab a1c 1 [0] [t29]).bind fun t30=>(a0p tab p26.2 a1c a1c (nth 2 ds) t30).bind fun p31=>(a0b tab a0C t0 (nth 3 ds)).bind fun t35=>(a0c tab p31.2 ty9 t35).bind fun t36=>(a0y tab a0C 1 [0] [t36]).bind fun t37=>(a0p tab p31.2 a0C a0C (nth 0 ds) t37).bind fun p38=>(a0l tab .add ty3 (nth 3 ds) (.int .i64 1)).bind fun t40=>(a0l tab .add ty3 (nth 4 ds) (.int .i64 1)).bind fun t42=>some (.nrm,[p38.1,p26.1,p31.1,t40,t42],p38.2))).bind fun r_1=>some (r_1.1,[nth 0 r_1.2.1,nth 1 r_1.2.1,nth 2 r_1.2.1,nth 3 r_1.2.1,nth 4 r_1.2.1,t94],r_1.2.2))).bind fun r_2=>some ((a0z 1 (a0z 2 r_2.1)),[nth 0 r_2.2.1,nth 1 r_2.2.1,nth 2 r_2.2.1,nth 3 r_2.2.1,nth 4 r_2.2.1,t21,t64,nth 5 r_2.2.1],r_2.2.2))
  (some ((.ext 0),[nth 0 ds,nth 1 ds,nth 2 ds,nth 3 ds,nth 4 ds,t21,nth 6 ds,nth 7 ds],h_1))
noncomputable def c0r (t0 t1:D) (h:Hp):Option (D × Hp) :=
 ((a0F (b3a t0 t1) [.nils,.nils,.nils,.int .i64 0,.int .i64 0,.any,.any,.any] h).bind fun r=>some ((a0z 0 r.1),[nth 0 r.2.1,nth 1 r.2.1,nth 2 r.2.1,nth 3 r.2.1,nth 4 r.2.1,nth 5 r.2.1,nth 6 r.2.1,nth 7 r.2.1],r.2.2)).bind fun r_3=>a0D r_3.1 (scope h r_3.2.2 (a0i [nth 0 r_3.2.1,nth 1 r_3.2.1,nth 2 r_3.2.1])) fun x=>a0N x (scope h r_3.2.2 (a0i [.nils,.nils,.nils]))
theorem c4b (t0 t1:D) (h:Hp):R b4S [t0,t1] h=c0r t0 t1 h :=
 er i88 (by kernel_rfl) (by kernel_rfl)
noncomputable def b3b (r:Out) (ds:List D) (h_1:Hp):Option Out :=
 (a0x tab ty9 (nth 0 r.2.1)).bind fun t28=>(a0l tab .lss ty3 (nth 3 ds) t28).bind fun t29=>dIf t29
  ((a5l tab ty9 (nth 0 r.2.1) (nth 3 ds)).bind fun t34=>(R b4U [t34] h_1).bind fun p35=>(dUn .not p35.1).bind fun t36=>dIf t36
  (some (.ret,[.int .i64 0,.bool false,nth 2 ds,nth 3 ds,t29,t36],p35.2))
  ((a0l tab .mul ty3 (.int .i64 10) (nth 2 ds)).bind fun t38=>(a5l tab ty9 (nth 0 r.2.1) (nth 3 ds)).bind fun t41=>(a0l tab .sub ty5 t41 (.int .u8 48)).bind fun t42=>(a2g tab ty5 ty3 t42).bind fun t43=>(a0l tab .add ty3 t38 t43).bind fun t44=>(a0l tab .add ty3 (nth 3 ds) (.int .i64 1)).bind fun t31=>some (.nrm,[nth 0 ds,nth 1 ds,t44,t31,t29,t36],p35.2)))
  (some ((.ext 0),[nth 0 ds,nth 1 ds,nth 2 ds,nth 3 ds,t29,nth 5 ds],h_1))
noncomputable def c0s (t0:D) (h:Hp):Option (D × Hp) :=
 (a0x tab ty9 t0).bind fun t9=>(a0l tab .gtr ty3 t9 (.int .i64 0)).bind fun t10=>(gd t10 true (some t0)).bind fun t12=>(gd t10 true (a5l tab ty9 t12 (.int .i64 0))).bind fun t13=>(gd t10 true (a0l tab .eql ty5 t13 (.int .u8 45))).bind fun t14=>(a1s t10 t14 (.bool false)).bind fun t15=>(dIf t15
  ((a0E tab ty9 true false false [t0,.int .i64 1]).bind fun t17=>some (.nrm,[t17],h))
  (some (.nrm,[t0],h))).bind fun r=>a0D r.1 ((a0x tab ty9 (nth 0 r.2.1)).bind fun t19=>(a0l tab .lss ty3 t19 (.int .i64 1)).bind fun t20=>(gd t20 false (some (nth 0 r.2.1))).bind fun t22=>(gd t20 false (a0x tab ty9 t22)).bind fun t23=>(gd t20 false (a0l tab .gtr ty3 t23 (.int .i64 18))).bind fun t24=>(a1s t20 (.bool true) t24).bind fun t25=>dIf t25
  (some (a0i [.int .i64 0,.bool false],r.2.2))
  (((a0F (b3b r) [.int .i64 0,.bool false,.int .i64 0,.int .i64 0,.any,.any] r.2.2).bind fun r_1=>some ((a0z 0 r_1.1),[nth 0 r_1.2.1,nth 1 r_1.2.1,nth 2 r_1.2.1,nth 3 r_1.2.1,nth 4 r_1.2.1,nth 5 r_1.2.1],r_1.2.2)).bind fun r_2=>a0D r_2.1 ((a0x tab ty9 (nth 0 r.2.1)).bind fun t46=>(a0x tab ty9 t0).bind fun t48=>(a0l tab .lss ty3 t46 t48).bind fun t49=>(dIf t49
  ((dUn .neg (nth 2 r_2.2.1)).bind fun t51=>some (.nrm,[t51],r_2.2.2))
  (some (.nrm,[nth 2 r_2.2.1],r_2.2.2))).bind fun r_3=>a0D r_3.1 (some (a0i [nth 0 r_3.2.1,.bool true],r_3.2.2)) fun x_2=>a0N x_2 (some (a0i [nth 0 r_2.2.1,nth 1 r_2.2.1],r_3.2.2))) fun x_1=>a0N x_1 (some (a0i [nth 0 r_2.2.1,nth 1 r_2.2.1],r_2.2.2)))) fun x=>a0N x (some (a0i [.int .i64 0,.bool false],r.2.2))
theorem c4c (t0:D) (h:Hp):R b4T [t0] h=c0s t0 h :=
 er i89 (by kernel_rfl) (by kernel_rfl)
noncomputable def c0t (t0:D) (h:Hp):Option (D × Hp) :=
 (a0l tab .geq ty5 t0 (.int .u8 48)).bind fun t4=>(gd t4 true (some t0)).bind fun t6=>(gd t4 true (a0l tab .leq ty5 t6 (.int .u8 57))).bind fun t7=>(a1s t4 t7 (.bool false)).bind fun t8=>some (a0i [t8],h)
theorem c4d (t0:D) (h:Hp):R b4U [t0] h=c0t t0 h :=
 er i94 (by kernel_rfl) (by kernel_rfl)
end Go.Proofs.YtehgglgadbmecaaDoor
