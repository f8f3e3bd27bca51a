/- Functions as Lean functions on data. -/
import Derived.Test.YtjmndhbabkjebaaDoorB1
set_option linter.unusedSimpArgs false
set_option linter.unusedVariables false
set_option linter.unnecessarySimpa false
set_option maxRecDepth 100000
namespace Go.Proofs.YtjmndhbabkjebaaDoor
open Go.Eng Go.Pi
noncomputable def F10 (t0 t1:D) (h:Hp):Option (D × Hp) :=
 (a0y tab a0G t0).bind fun t6=>(a0l tab .gtr ty3 t6 t1).bind fun t8=>(dIf t8
  ((a0w tab a0G false true false [t0,t1]).bind fun t11=>some (.nrm,[t11],h))
  (some (.nrm,[t0],h))).bind fun r=>a0R r.1 ((a0D tab a9P [0] [nth 0 r.2.1]).bind fun t13=>(b8Z a9P 2 r.2.2 t13).bind fun p14=>some (a0i [p14.1],p14.2)) fun x=>a1b x (some (a0i [.nilp],r.2.2))
theorem e10 (t0 t1:D) (h:Hp):R c1g [t0,t1] h=F10 t0 t1 h :=
 er i5 (by kernel_rfl) (by kernel_rfl)
noncomputable def F39 (t0 t1:D) (h:Hp):Option (D × Hp) :=
 (R c6h [t0] h).bind fun p6=>(dUn .not p6.1).bind fun t7=>(gd t7 false (some t1)).bind fun t9=>(gd t7 false (a0l tab .lss ty3 t9 (.int .i64 1))).bind fun t10=>(a0T t7 (.bool true) t10).bind fun t11=>dIf t11
  (some (a0i [.int .i64 0],p6.2))
  ((a0e tab t0).bind fun t13=>(a0a tab a9P 1 t13).bind fun t14=>(a0d tab p6.2 ty3 t14).bind fun t15=>(a0l tab .add ty3 t15 (.int .i64 1)).bind fun t16=>(a0e tab t0).bind fun t17=>(a0a tab a9P 1 t17).bind fun t18=>((a0q tab p6.2 ty3 t18 t16).bind fun h'=>some ((.und:D),h')).bind fun p907=>(a0e tab t0).bind fun t20=>(a0a tab a9P 0 t20).bind fun t21=>(a0d tab p907.2 a0G t21).bind fun t22=>(a0e tab t0).bind fun t24=>(a0a tab a9P 1 t24).bind fun t25=>(a0d tab p907.2 ty3 t25).bind fun t26=>(a0l tab .sub ty3 t26 (.int .i64 1)).bind fun t27=>(a0b tab a0G t22 t27).bind fun t28=>(a0d tab p907.2 ty5 t28).bind fun t29=>(a1O tab ty5 ty3 t29).bind fun t30=>(a0l tab .rem ty3 t30 t1).bind fun t32=>some (a0i [t32],p907.2))
theorem e39 (t0 t1:D) (h:Hp):R a5B [t0,t1] h=F39 t0 t1 h :=
 er i6 (by kernel_rfl) (by kernel_rfl)
noncomputable def c1W (t0:D) (h:Hp):Option (D × Hp) :=
 (some ((.ptr h.length 0 0:D),a0J h a0m 3 [[.int .i64 0,.nils,.nils]])).bind fun p2=>(R a5B [t0,.int .i64 200] p2.2).bind fun p5=>(R b1L [t0] p5.2).bind fun p7=>(a0D tab a0m [0,1] [p5.1,p7.1]).bind fun t8=>(some ((.ptr p7.2.length 0 0:D),a0J p7.2 a0m 3 [[.int .i64 0,.nils,.nils]])).bind fun p3=>((a0q tab p3.2 a0m p3.1 t8).bind fun h'=>some ((.und:D),h')).bind fun p906=>(R a9h [t0,.int .i64 3] p906.2).bind fun p11=>(a0S 0 p11.1).bind fun t12=>(a0S 1 p11.1).bind fun t13=>(a0a tab a0m 2 p3.1).bind fun t14=>((a0q tab p11.2 a1N t14 t12).bind fun h'=>some ((.und:D),h')).bind fun p906_1=>(a0d tab p906_1.2 a0m p3.1).bind fun t15=>((a0q tab p906_1.2 a0m p2.1 t15).bind fun h'=>some ((.und:D),h')).bind fun p901=>(a0d tab p901.2 a0m p2.1).bind fun d0=>scope h p901.2 (a0i [d0])
theorem c5K (t0:D) (h:Hp):R a6H [t0] h=c1W t0 h :=
 er i7 (by kernel_rfl) (by kernel_rfl)
noncomputable def c1X (t0 t1:D) (h:Hp):Option (D × Hp) :=
 (a3k t1).bind fun t3=>(a0d tab h a0m t3).bind fun t9=>(R b1M [t9] h).bind fun p10=>(a0S 0 p10.1).bind fun t11=>(a0S 1 p10.1).bind fun t12=>(a0l tab .neq b0J t12 (.int .i64 0)).bind fun t14=>dIf t14
  (scope h p10.2 (a0i [.nils,t12]))
  ((a0A tab p10.2 a0G a0G (.nils) t0).bind fun p17=>(a0A tab p17.2 a0G a0G p17.1 t11).bind fun p19=>scope h p19.2 (a0i [p19.1,.int .i64 0]))
theorem c5L (t0 t1:D) (h:Hp):R a5g [t0,t1] h=c1X t0 t1 h :=
 er i8 (by kernel_rfl) (by kernel_rfl)
noncomputable def c1Y (t0 t1:D) (h:Hp):Option (D × Hp) :=
 (a3k t0).bind fun t2=>(a3k t1).bind fun t3=>(a0a tab a0m 0 t2).bind fun t5=>(a0d tab h ty3 t5).bind fun t6=>(a0a tab a0m 0 t3).bind fun t7=>(a0d tab h ty3 t7).bind fun t8=>(a0l tab .eql ty3 t6 t8).bind fun t9=>(gd t9 true (a0a tab a0m 1 t2)).bind fun t11=>(gd t9 true (a0d tab h a0N t11)).bind fun t12=>(gd t9 true (a0a tab a0m 1 t3)).bind fun t13=>(gd t9 true (a0d tab h a0N t13)).bind fun t14=>(gdW t9 true h (R b4J [t12,t14] h)).bind fun p15=>(a0T t9 p15.1 (.bool false)).bind fun t16=>(gd t16 true (a0a tab a0m 2 t2)).bind fun t18=>(gd t16 true (a0d tab p15.2 a1N t18)).bind fun t19=>(gd t16 true (a0a tab a0m 2 t3)).bind fun t20=>(gd t16 true (a0d tab p15.2 a1N t20)).bind fun t21=>(gdW t16 true p15.2 (R b4K [t19,t21] p15.2)).bind fun p22=>(a0T t16 p22.1 (.bool false)).bind fun t23=>some (a0i [t23],p22.2)
theorem c5M (t0 t1:D) (h:Hp):R a7s [t0,t1] h=c1Y t0 t1 h :=
 er i10 (by kernel_rfl) (by kernel_rfl)
noncomputable def F66 (t0:D) (h:Hp):Option (D × Hp) :=
 (a0e tab t0).bind fun t4=>(a0a tab a9P 1 t4).bind fun t5=>(a0d tab h ty3 t5).bind fun t6=>(a0e tab t0).bind fun t8=>(a0a tab a9P 0 t8).bind fun t9=>(a0d tab h a0G t9).bind fun t10=>(a0y tab a0G t10).bind fun t11=>(a0l tab .lss ty3 t6 t11).bind fun t12=>some (a0i [t12],h)
theorem e66 (t0:D) (h:Hp):R c6h [t0] h=F66 t0 h :=
 er i12 (by kernel_rfl) (by kernel_rfl)
noncomputable def b0U (t0:D) (ds:List D) (h_1:Hp):Option Out :=
 (a0l tab .lss ty3 (nth 1 ds) (.int .i64 4)).bind fun t6=>dIf t6
  ((R a5B [t0,.int .i64 2] h_1).bind fun p10=>(a0l tab .eql ty3 p10.1 (.int .i64 1)).bind fun t11=>(dIf t11
  ((R a5B [t0,.int .i64 120] p10.2).bind fun p15=>(a0D tab a1f [0,1] [nth 1 ds,p15.1]).bind fun t16=>(a0H tab a0N 1 [0] [t16]).bind fun t17=>(a0A tab p15.2 a0N a0N (nth 0 ds) t17).bind fun p18=>some (.nrm,[p18.1],p18.2))
  (some (.nrm,[nth 0 ds],p10.2))).bind fun r_1=>a0R (a0Q 1 r_1.1) ((a0l tab .add ty3 (nth 1 ds) (.int .i64 1)).bind fun t8=>some (.nrm,[nth 0 r_1.2.1,t8,t6,t11],r_1.2.2)) fun x=>some (x,[nth 0 r_1.2.1,nth 1 ds,t6,t11],r_1.2.2))
  (some ((.ext 0),[nth 0 ds,nth 1 ds,t6,nth 3 ds],h_1))
noncomputable def c2a (t0:D) (h:Hp):Option (D × Hp) :=
 ((a0K (b0U t0) [.nils,.int .i64 0,.any,.any] h).bind fun r=>some ((a0Q 0 r.1),[nth 0 r.2.1,nth 1 r.2.1,nth 2 r.2.1,nth 3 r.2.1],r.2.2)).bind fun r_2=>a0R r_2.1 (scope h r_2.2.2 (a0i [nth 0 r_2.2.1])) fun x_1=>a1b x_1 (scope h r_2.2.2 (a0i [.nils]))
theorem c5O (t0:D) (h:Hp):R b1L [t0] h=c2a t0 h :=
 er i13 (by kernel_rfl) (by kernel_rfl)
noncomputable def a7Q (t12m t13m t52:D) (ds_1:List D) (h_2:Hp):Option Out :=
 (a0l tab .lss ty3 (nth 1 ds_1) t52).bind fun t54=>dIf t54
  ((a0b tab a1P t13m (nth 1 ds_1)).bind fun t58=>(a0a tab a1z 0 t58).bind fun t59=>(a0d tab h_2 ty3 t59).bind fun t60=>(a0l tab .add ty3 t60 t12m).bind fun t62=>(a0b tab a1P t13m (nth 1 ds_1)).bind fun t63=>(a0a tab a1z 0 t63).bind fun t64=>((a0q tab h_2 ty3 t64 t62).bind fun h'=>some ((.und:D),h')).bind fun p909=>(a0l tab .add ty3 (nth 1 ds_1) (.int .i64 1)).bind fun t65=>some (.nrm,[nth 1 ds_1,t65,t54],p909.2))
  (some ((.ext 2),[nth 0 ds_1,nth 1 ds_1,t54],h_2))
noncomputable def a6a (t0:D) (p8:D × Hp) (ds:List D) (h_1:Hp):Option Out :=
 (a0l tab .gtr ty3 (nth 2 ds) (.int .i64 0)).bind fun t30=>dIf t30
  ((R b1A [t0] h_1).bind fun p34=>(some ((.ptr p34.2.length 0 0:D),a0J p34.2 a0P 11 [[.str [],.int .i64 0,.int .i64 0,.int .i64 0,.int .i64 0,.nils,.int .i64 0,.int .i64 0,.str [],.str [],.nils]])).bind fun p10=>((a0q tab p10.2 a0P p10.1 p34.1).bind fun h'=>some ((.und:D),h')).bind fun p903=>(R a5B [t0,.int .i64 3] p903.2).bind fun p36=>(a0a tab a0P 1 p10.1).bind fun t38=>(a0a tab a0F 1 t38).bind fun t39=>((a0q tab p36.2 ty3 t39 p36.1).bind fun h'=>some ((.und:D),h')).bind fun p903_1=>(a0b tab a2n p8.1 p36.1).bind fun t41=>(a0d tab p903_1.2 ty3 t41).bind fun t42=>(a0a tab a0P 1 p10.1).bind fun t43=>(a0a tab a0F 2 t43).bind fun t44=>(a0d tab p903_1.2 ty3 t44).bind fun t45=>(a0l tab .sub ty3 t42 t45).bind fun t46=>(a0a tab a0P 1 p10.1).bind fun t47=>(a0a tab a0F 4 t47).bind fun t48=>(a0d tab p903_1.2 a1P t48).bind fun t49=>(a0A tab p903_1.2 a1P a1P (.nils) t49).bind fun p50=>(a0y tab a1P p50.1).bind fun t52=>((a0K (a7Q t46 p50.1 t52) [nth 7 ds,.int .i64 0,nth 11 ds] p50.2).bind fun r_1=>some ((a0Q 2 r_1.1),[nth 0 r_1.2.1,nth 1 r_1.2.1,nth 2 r_1.2.1],r_1.2.2)).bind fun r_2=>a0R r_2.1 ((a0a tab a0P 1 p10.1).bind fun t67=>(a0a tab a0F 2 t67).bind fun t68=>(a0d tab r_2.2.2 ty3 t68).bind fun t69=>(a0l tab .add ty3 t69 t46).bind fun t71=>(a0a tab a0P 1 p10.1).bind fun t72=>(a0a tab a0F 3 t72).bind fun t73=>(a0d tab r_2.2.2 ty3 t73).bind fun t74=>(a0l tab .add ty3 t74 t46).bind fun t76=>(a0a tab a0P 1 p10.1).bind fun t77=>(a0a tab a0F 4 t77).bind fun t78=>((a0q tab r_2.2.2 a1P t78 p50.1).bind fun h'=>some ((.und:D),h')).bind fun p913=>(a0a tab a0P 1 p10.1).bind fun t79=>(a0a tab a0F 2 t79).bind fun t80=>((a0q tab p913.2 ty3 t80 t71).bind fun h'=>some ((.und:D),h')).bind fun p916=>(a0a tab a0P 1 p10.1).bind fun t81=>(a0a tab a0F 3 t81).bind fun t82=>((a0q tab p916.2 ty3 t82 t76).bind fun h'=>some ((.und:D),h')).bind fun p919=>(a0a tab a0P 1 p10.1).bind fun t84=>(a0a tab a0F 3 t84).bind fun t85=>(a0d tab p919.2 ty3 t85).bind fun t86=>(a0b tab a2n p8.1 p36.1).bind fun t87=>((a0q tab p919.2 ty3 t87 t86).bind fun h'=>some ((.und:D),h')).bind fun p905=>(a0d tab p905.2 a0P p10.1).bind fun t89=>(a0H tab a1N 1 [0] [t89]).bind fun t90=>(a0A tab p905.2 a1N a1N (nth 0 ds) t90).bind fun p91=>(R a5B [t0,.int .i64 4] p91.2).bind fun p94=>(a0H tab a4d 1 [0] [p94.1]).bind fun t95=>(a0A tab p94.2 a4d a4d (nth 1 ds) t95).bind fun p96=>(a0l tab .sub ty3 (nth 2 ds) (.int .i64 1)).bind fun t32=>some (.nrm,[p91.1,p96.1,t32,p10.1,p36.1,t46,p50.1,nth 0 r_2.2.1,t30,t52,nth 1 r_2.2.1,nth 2 r_2.2.1],p96.2)) fun x=>a0R (a0Q 1 x) ((a0l tab .sub ty3 (nth 2 ds) (.int .i64 1)).bind fun t32_1=>some (.nrm,[nth 0 ds,nth 1 ds,t32_1,p10.1,p36.1,t46,p50.1,nth 0 r_2.2.1,t30,t52,nth 1 r_2.2.1,nth 2 r_2.2.1],r_2.2.2)) fun x_1=>some (x_1,[nth 0 ds,nth 1 ds,nth 2 ds,p10.1,p36.1,t46,p50.1,nth 0 r_2.2.1,t30,t52,nth 1 r_2.2.1,nth 2 r_2.2.1],r_2.2.2))
  (some ((.ext 0),[nth 0 ds,nth 1 ds,nth 2 ds,nth 3 ds,nth 4 ds,nth 5 ds,nth 6 ds,nth 7 ds,t30,nth 9 ds,nth 10 ds,nth 11 ds],h_1))
noncomputable def c2b (t0 t1:D) (h:Hp):Option (D × Hp) :=
 (R a5B [t0,.int .i64 4] h).bind fun p16=>(a0l tab .mul ty3 (.int .i64 10) p16.1).bind fun t17=>(R a5B [t0,.int .i64 4] p16.2).bind fun p19=>(a0l tab .mul ty3 (.int .i64 10) p19.1).bind fun t20=>(R a5B [t0,.int .i64 4] p19.2).bind fun p22=>(a0l tab .mul ty3 (.int .i64 10) p22.1).bind fun t23=>(a0D tab a2n [0,1,2] [t17,t20,t23]).bind fun t24=>(some ((.ptr p22.2.length 0 0:D),a0J p22.2 a2n 3 [[.int .i64 0,.int .i64 0,.int .i64 0]])).bind fun p8=>((a0q tab p8.2 a2n p8.1 t24).bind fun h'=>some ((.und:D),h')).bind fun p911=>(a0l tab .add ty3 t1 (.int .i64 1)).bind fun t27=>(R a5B [t0,t27] p911.2).bind fun p28=>((a0K (a6a t0 p8) [.nils,.nils,p28.1,.any,.any,.any,.any,.any,.any,.any,.any,.any] p28.2).bind fun r=>some ((a0Q 0 r.1),[nth 0 r.2.1,nth 1 r.2.1,nth 2 r.2.1,nth 3 r.2.1,nth 4 r.2.1,nth 5 r.2.1,nth 6 r.2.1,nth 7 r.2.1,nth 8 r.2.1,nth 9 r.2.1,nth 10 r.2.1,nth 11 r.2.1],r.2.2)).bind fun r_3=>a0R r_3.1 (scope h r_3.2.2 (a0i [nth 0 r_3.2.1,nth 1 r_3.2.1])) fun x_2=>a1b x_2 (scope h r_3.2.2 (a0i [.nils,.nils]))
theorem c5P (t0 t1:D) (h:Hp):R a9h [t0,t1] h=c2b t0 t1 h :=
 er i14 (by kernel_rfl) (by kernel_rfl)
noncomputable def b0V (t30 t31:D) (ds:List D) (h_1:Hp):Option Out :=
 (a0l tab .lss ty3 (nth 2 ds) t31).bind fun t33=>dIf t33
  ((a0b tab a0N t30 (nth 2 ds)).bind fun t34=>(a0d tab h_1 a1f t34).bind fun t35=>(a5x 2 t35).bind fun t7=>(a0a tab a1f 0 t7).bind fun t37=>(a0d tab h_1 ty3 t37).bind fun t38=>(R a3p [nth 0 ds,t38,.int .i64 8] h_1).bind fun p39=>(a0a tab a1f 1 t7).bind fun t40=>(a0d tab p39.2 ty3 t40).bind fun t41=>(R a3p [p39.1,t41,.int .i64 8] p39.2).bind fun p42=>chk (a0d tab h_1 ty3 t40=some t41)
 ((a0l tab .add ty3 (nth 2 ds) (.int .i64 1)).bind fun t43=>some (.nrm,[p42.1,t7,t43,t33],p42.2)))
  (some ((.ext 0),[nth 0 ds,nth 1 ds,nth 2 ds,t33],h_1))
noncomputable def b0W (t50 t51:D) (ds_1:List D) (h_2:Hp):Option Out :=
 (a0l tab .lss ty3 (nth 6 ds_1) t51).bind fun t53=>dIf t53
  ((a0b tab a1N t50 (nth 6 ds_1)).bind fun t54=>(a0d tab h_2 a0P t54).bind fun t55=>(a5x 11 t55).bind fun t9=>(a0d tab h_2 a0P t9).bind fun t57=>(R b1E [t57] h_2).bind fun p58=>(a0S 0 p58.1).bind fun t59=>(a0S 1 p58.1).bind fun t60=>(a0l tab .neq b0J t60 (.int .i64 0)).bind fun t62=>dIf t62
  (some (.ret,[.nils,t60,nth 2 ds_1,t9,t59,t60,nth 6 ds_1,t53,t62],p58.2))
  ((a0A tab p58.2 a0G a0G (nth 2 ds_1) t59).bind fun p66=>(a0l tab .add ty3 (nth 6 ds_1) (.int .i64 1)).bind fun t67=>some (.nrm,[nth 0 ds_1,nth 1 ds_1,p66.1,t9,t59,t60,t67,t53,t62],p66.2)))
  (some ((.ext 2),[nth 0 ds_1,nth 1 ds_1,nth 2 ds_1,nth 3 ds_1,nth 4 ds_1,nth 5 ds_1,nth 6 ds_1,t53,nth 8 ds_1],h_2))
noncomputable def c2c (t0:D) (h:Hp):Option (D × Hp) :=
 (a3k t0).bind fun t1=>(a0d tab h a0m t1).bind fun t12=>(R a9i [t12] h).bind fun p13=>(a0l tab .neq b0J p13.1 (.int .i64 0)).bind fun t15=>dIf t15
  (scope h p13.2 (a0i [.nils,p13.1]))
  ((c8g tab p13.2 a0G 4 [0,1,2,3] [.int .u8 76,.int .u8 84,.int .u8 49,.int .u8 10]).bind fun p17=>(b2w tab p17.2 a0G a0G p17.1).bind fun p18=>(a0H tab a0G 4 [0,1,2,3] [.int .u8 0,.int .u8 0,.int .u8 0,.int .u8 0]).bind fun t19=>(a0A tab p18.2 a0G a0G p18.1 t19).bind fun p20=>(a0a tab a0m 0 t1).bind fun t22=>(a0d tab p20.2 ty3 t22).bind fun t23=>(R a3p [p20.1,t23,.int .i64 8] p20.2).bind fun p24=>(a0a tab a0m 1 t1).bind fun t25=>(a0d tab p24.2 a0N t25).bind fun t26=>(a0y tab a0N t26).bind fun t27=>(R a3p [p24.1,t27,.int .i64 4] p24.2).bind fun p28=>chk (a0d tab p20.2 a0N t25=some t26)
 ((a0a tab a0m 1 t1).bind fun t29=>(a0d tab p28.2 a0N t29).bind fun t30=>(a0y tab a0N t30).bind fun t31=>((a0K (b0V t30 t31) [p28.1,.any,.int .i64 0,.any] p28.2).bind fun r=>some ((a0Q 0 r.1),[nth 0 r.2.1,nth 1 r.2.1,nth 2 r.2.1,nth 3 r.2.1],r.2.2)).bind fun r_1=>a0R r_1.1 ((a0a tab a0m 2 t1).bind fun t45=>(a0d tab r_1.2.2 a1N t45).bind fun t46=>(a0y tab a1N t46).bind fun t47=>(R a3p [nth 0 r_1.2.1,t47,.int .i64 4] r_1.2.2).bind fun p48=>(a0a tab a0m 2 t1).bind fun t49=>(a0d tab p48.2 a1N t49).bind fun t50=>(a0y tab a1N t50).bind fun t51=>((a0K (b0W t50 t51) [.nils,.int .i64 0,p48.1,.any,.any,.any,.int .i64 0,.any,.any] p48.2).bind fun r_2=>some ((a0Q 2 r_2.1),[nth 0 r_2.2.1,nth 1 r_2.2.1,nth 2 r_2.2.1,nth 3 r_2.2.1,nth 4 r_2.2.1,nth 5 r_2.2.1,nth 6 r_2.2.1,nth 7 r_2.2.1,nth 8 r_2.2.1],r_2.2.2)).bind fun r_3=>a0R r_3.1 ((a0w tab a0G true false false [nth 2 r_3.2.1,.int .i64 4]).bind fun t69=>(a0y tab a0G (nth 2 r_3.2.1)).bind fun t71=>(a0l tab .sub ty3 t71 (.int .i64 8)).bind fun t72=>(R a3p [.nils,t72,.int .i64 4] r_3.2.2).bind fun p73=>(a6y tab p73.2 a0G a0G t69 p73.1).bind fun p74=>(R b1N [nth 2 r_3.2.1] p74.2).bind fun p77=>(R a3p [nth 2 r_3.2.1,p77.1,.int .i64 4] p77.2).bind fun p78=>scope h p78.2 (a0i [p78.1,.int .i64 0])) fun x_1=>a1b x_1 (scope h r_3.2.2 (a0i [nth 0 r_3.2.1,nth 1 r_3.2.1]))) fun x=>a1b x (scope h r_1.2.2 (a0i [.nils,.int .i64 0]))))
theorem c5Q (t0:D) (h:Hp):R b1M [t0] h=c2c t0 h :=
 er i15 (by kernel_rfl) (by kernel_rfl)
noncomputable def b0X (t0 t1:D) (ds:List D) (h_1:Hp):Option Out :=
 (a0y tab a0N t0).bind fun t13=>(a0l tab .lss ty3 (nth 1 ds) t13).bind fun t14=>dIf t14
  ((a0b tab a0N t0 (nth 1 ds)).bind fun t19=>(a0d tab h_1 a1f t19).bind fun t20=>(a0b tab a0N t1 (nth 1 ds)).bind fun t23=>(a0d tab h_1 a1f t23).bind fun t24=>(a0l tab .neq a1f t20 t24).bind fun t25=>dIf t25
  (some (.ret,[.bool false,nth 1 ds,t14,t25],h_1))
  ((a0l tab .add ty3 (nth 1 ds) (.int .i64 1)).bind fun t16=>some (.nrm,[nth 0 ds,t16,t14,t25],h_1)))
  (some ((.ext 0),[nth 0 ds,nth 1 ds,t14,nth 3 ds],h_1))
noncomputable def c2d (t0 t1:D) (h:Hp):Option (D × Hp) :=
 (a0y tab a0N t0).bind fun t7=>(a0y tab a0N t1).bind fun t9=>(a0l tab .neq ty3 t7 t9).bind fun t10=>dIf t10
  (some (a0i [.bool false],h))
  (((a0K (b0X t0 t1) [.bool false,.int .i64 0,.any,.any] h).bind fun r=>some ((a0Q 0 r.1),[nth 0 r.2.1,nth 1 r.2.1,nth 2 r.2.1,nth 3 r.2.1],r.2.2)).bind fun r_1=>a0R r_1.1 (some (a0i [.bool true],r_1.2.2)) fun x=>a1b x (some (a0i [nth 0 r_1.2.1],r_1.2.2)))
theorem c5R (t0 t1:D) (h:Hp):R b4J [t0,t1] h=c2d t0 t1 h :=
 er i17 (by kernel_rfl) (by kernel_rfl)
noncomputable def b0Y (t0 t1:D) (ds:List D) (h_1:Hp):Option Out :=
 (a0y tab a1N t0).bind fun t13=>(a0l tab .lss ty3 (nth 1 ds) t13).bind fun t14=>dIf t14
  ((a0b tab a1N t0 (nth 1 ds)).bind fun t19=>(a0d tab h_1 a0P t19).bind fun t20=>(a0b tab a1N t1 (nth 1 ds)).bind fun t23=>(a0d tab h_1 a0P t23).bind fun t24=>(R c6i [t20,t24] h_1).bind fun p25=>(dUn .not p25.1).bind fun t26=>dIf t26
  (some (.ret,[.bool false,nth 1 ds,t14,t26],p25.2))
  ((a0l tab .add ty3 (nth 1 ds) (.int .i64 1)).bind fun t16=>some (.nrm,[nth 0 ds,t16,t14,t26],p25.2)))
  (some ((.ext 0),[nth 0 ds,nth 1 ds,t14,nth 3 ds],h_1))
noncomputable def c2e (t0 t1:D) (h:Hp):Option (D × Hp) :=
 (a0y tab a1N t0).bind fun t7=>(a0y tab a1N t1).bind fun t9=>(a0l tab .neq ty3 t7 t9).bind fun t10=>dIf t10
  (some (a0i [.bool false],h))
  (((a0K (b0Y t0 t1) [.bool false,.int .i64 0,.any,.any] h).bind fun r=>some ((a0Q 0 r.1),[nth 0 r.2.1,nth 1 r.2.1,nth 2 r.2.1,nth 3 r.2.1],r.2.2)).bind fun r_1=>a0R r_1.1 (some (a0i [.bool true],r_1.2.2)) fun x=>a1b x (some (a0i [nth 0 r_1.2.1],r_1.2.2)))
theorem c5S (t0 t1:D) (h:Hp):R b4K [t0,t1] h=c2e t0 t1 h :=
 er i18 (by kernel_rfl) (by kernel_rfl)
noncomputable def b0L (t3:D) (p4:D × Hp) (t24:D) (ds:List D) (h_1:Hp):Option Out :=
 (a0l tab .lss ty3 (nth 1 ds) t24).bind fun t26=>dIf t26
  ((a0a tab a0F 4 p4.1).bind fun t28=>(a0d tab h_1 a1P t28).bind fun t29=>(a0a tab a0F 4 t3).bind fun t30=>(a0d tab h_1 a1P t30).bind fun t31=>(a0b tab a1P t31 (nth 1 ds)).bind fun t33=>(a0a tab a1z 0 t33).bind fun t34=>(a0d tab h_1 ty3 t34).bind fun t35=>(a0a tab a0F 4 t3).bind fun t36=>(a0d tab h_1 a1P t36).bind fun t37=>(a0b tab a1P t37 (nth 1 ds)).bind fun t39=>(a0a tab a1z 1 t39).bind fun t40=>(a0d tab h_1 ty3 t40).bind fun t41=>(a0D tab a1z [0,1] [t35,t41]).bind fun t42=>(a0H tab a1P 1 [0] [t42]).bind fun t43=>(a0A tab h_1 a1P a1P t29 t43).bind fun p44=>(a0a tab a0F 4 p4.1).bind fun t45=>((a0q tab p44.2 a1P t45 p44.1).bind fun h'=>some ((.und:D),h')).bind fun p918=>(a0l tab .add ty3 (nth 1 ds) (.int .i64 1)).bind fun t46=>some (.nrm,[nth 1 ds,t46,t26],p918.2))
  (some ((.ext 0),[nth 0 ds,nth 1 ds,t26],h_1))
noncomputable def c1p (t0:D) (h:Hp):Option (D × Hp) :=
 (some ((.ptr h.length 0 0:D),a0J h a0P 11 [[.str [],.int .i64 0,.int .i64 0,.int .i64 0,.int .i64 0,.nils,.int .i64 0,.int .i64 0,.str [],.str [],.nils]])).bind fun p2=>(R c4p [t0] p2.2).bind fun p7=>(a5x 10 p7.1).bind fun t3=>(R a5B [t0,.int .i64 4] p7.2).bind fun p9=>(a0l tab .lss ty3 p9.1 (.int .i64 3)).bind fun t10=>dIf t10
  ((a0d tab p9.2 a0F t3).bind fun t11=>(a0D tab a0P [1] [t11]).bind fun t12=>((a0q tab p9.2 a0P p2.1 t12).bind fun h'=>some ((.und:D),h')).bind fun p902=>(a0d tab p902.2 a0P p2.1).bind fun d0=>scope h p902.2 (a0i [d0]))
  ((a0a tab a0F 0 t3).bind fun t13=>(a0d tab p9.2 ty3 t13).bind fun t14=>(a0a tab a0F 1 t3).bind fun t15=>(a0d tab p9.2 ty3 t15).bind fun t16=>(a0a tab a0F 2 t3).bind fun t17=>(a0d tab p9.2 ty3 t17).bind fun t18=>(a0a tab a0F 3 t3).bind fun t19=>(a0d tab p9.2 ty3 t19).bind fun t20=>(a0D tab a0F [0,1,2,3] [t14,t16,t18,t20]).bind fun t21=>(some ((.ptr p9.2.length 0 0:D),a0J p9.2 a0F 10 [[.int .i64 0,.int .i64 0,.int .i64 0,.int .i64 0,.nils,.int .i64 0,.int .i64 0,.str [],.str [],.nils]])).bind fun p4=>((a0q tab p4.2 a0F p4.1 t21).bind fun h'=>some ((.und:D),h')).bind fun p910=>(a0a tab a0F 4 t3).bind fun t22=>(a0d tab p910.2 a1P t22).bind fun t23=>(a0y tab a1P t23).bind fun t24=>((a0K (b0L t3 p4 t24) [.any,.int .i64 0,.any] p910.2).bind fun r=>some ((a0Q 0 r.1),[nth 0 r.2.1,nth 1 r.2.1,nth 2 r.2.1],r.2.2)).bind fun r_1=>a0R r_1.1 ((a0H tab a2M 3 [0,1,2] [.str [115,97,109,112,108,101],.str [116,111,111,45,108,111,110,103],.str [114,49]]).bind fun t48=>(R a5U [t0,t48] r_1.2.2).bind fun p49=>(a0d tab p49.2 a0F p4.1).bind fun t50=>(a0D tab a0P [0,1] [p49.1,t50]).bind fun t51=>chk (a0d tab r_1.2.2 a0F p4.1=some t50)
 (((a0q tab p49.2 a0P p2.1 t51).bind fun h'=>some ((.und:D),h')).bind fun p905=>(a0d tab p905.2 a0P p2.1).bind fun d0=>scope h p905.2 (a0i [d0]))) fun x=>a1b x ((a0d tab r_1.2.2 a0P p2.1).bind fun d0=>scope h r_1.2.2 (a0i [d0])))
theorem c5b (t0:D) (h:Hp):R b1A [t0] h=c1p t0 h :=
 er i20 (by kernel_rfl) (by kernel_rfl)
noncomputable def b0Z (t1:D) (ds:List D) (h_1:Hp):Option Out :=
 (a0a tab a0m 1 t1).bind fun t10=>(a0d tab h_1 a0N t10).bind fun t11=>(a0y tab a0N t11).bind fun t12=>(a0l tab .lss ty3 (nth 1 ds) t12).bind fun t13=>dIf t13
  ((a0a tab a0m 1 t1).bind fun t16=>(a0d tab h_1 a0N t16).bind fun t17=>(a0b tab a0N t17 (nth 1 ds)).bind fun t19=>(a0a tab a1f 0 t19).bind fun t20=>(a0d tab h_1 ty3 t20).bind fun t21=>(a0a tab a0m 1 t1).bind fun t22=>(a0d tab h_1 a0N t22).bind fun t23=>(a0l tab .sub ty3 (nth 1 ds) (.int .i64 1)).bind fun t25=>(a0b tab a0N t23 t25).bind fun t26=>(a0a tab a1f 0 t26).bind fun t27=>(a0d tab h_1 ty3 t27).bind fun t28=>(a0l tab .leq ty3 t21 t28).bind fun t29=>dIf t29
  (some (.ret,[.int .i64 19,nth 1 ds,t13,t29],h_1))
  ((a0l tab .add ty3 (nth 1 ds) (.int .i64 1)).bind fun t15=>some (.nrm,[nth 0 ds,t15,t13,t29],h_1)))
  (some ((.ext 0),[nth 0 ds,nth 1 ds,t13,nth 3 ds],h_1))
noncomputable def b1a (t31 t32:D) (ds_1:List D) (h_2:Hp):Option Out :=
 (a0l tab .lss ty3 (nth 2 ds_1) t32).bind fun t34=>dIf t34
  ((a0b tab a0N t31 (nth 2 ds_1)).bind fun t35=>(a0d tab h_2 a1f t35).bind fun t36=>(a5x 2 t36).bind fun t5=>(a0a tab a1f 0 t5).bind fun t37=>(a0d tab h_2 ty3 t37).bind fun t38=>(a0l tab .lss ty3 t38 (.int .i64 0)).bind fun t39=>(gd t39 false (a0a tab a1f 1 t5)).bind fun t41=>(gd t39 false (a0d tab h_2 ty3 t41)).bind fun t42=>(gd t39 false (a0l tab .lss ty3 t42 (.int .i64 0))).bind fun t43=>(a0T t39 (.bool true) t43).bind fun t44=>dIf t44
  (some (.ret,[.int .i64 2,t5,nth 2 ds_1,t34,t44],h_2))
  ((a0l tab .add ty3 (nth 2 ds_1) (.int .i64 1)).bind fun t45=>some (.nrm,[nth 0 ds_1,t5,t45,t34,t44],h_2)))
  (some ((.ext 2),[nth 0 ds_1,nth 1 ds_1,nth 2 ds_1,t34,nth 4 ds_1],h_2))
noncomputable def c2f (t0:D) (h:Hp):Option (D × Hp) :=
 (a3k t0).bind fun t1=>(a0a tab a0m 0 t1).bind fun t6=>(a0d tab h ty3 t6).bind fun t7=>(a0l tab .lss ty3 t7 (.int .i64 0)).bind fun t8=>dIf t8
  (some (a0i [.int .i64 2],h))
  (((a0K (b0Z t1) [.int .i64 0,.int .i64 1,.any,.any] h).bind fun r=>some ((a0Q 0 r.1),[nth 0 r.2.1,nth 1 r.2.1,nth 2 r.2.1,nth 3 r.2.1],r.2.2)).bind fun r_1=>a0R r_1.1 ((a0a tab a0m 1 t1).bind fun t30=>(a0d tab r_1.2.2 a0N t30).bind fun t31=>(a0y tab a0N t31).bind fun t32=>((a0K (b1a t31 t32) [nth 0 r_1.2.1,.any,.int .i64 0,.any,.any] r_1.2.2).bind fun r_2=>some ((a0Q 2 r_2.1),[nth 0 r_2.2.1,nth 1 r_2.2.1,nth 2 r_2.2.1,nth 3 r_2.2.1,nth 4 r_2.2.1],r_2.2.2)).bind fun r_3=>a0R r_3.1 ((a0a tab a0m 1 t1).bind fun t46=>(a0d tab r_3.2.2 a0N t46).bind fun t47=>(a0y tab a0N t47).bind fun t48=>(a0l tab .gtr ty3 t48 (.int .i64 1000)).bind fun t49=>(gd t49 false (a0a tab a0m 2 t1)).bind fun t51=>(gd t49 false (a0d tab r_3.2.2 a1N t51)).bind fun t52=>(gd t49 false (a0y tab a1N t52)).bind fun t53=>(gd t49 false (a0l tab .gtr ty3 t53 (.int .i64 1000))).bind fun t54=>(a0T t49 (.bool true) t54).bind fun t55=>dIf t55
  (some (a0i [.int .i64 4],r_3.2.2))
  (some (a0i [.int .i64 0],r_3.2.2))) fun x_1=>a1b x_1 (some (a0i [nth 0 r_3.2.1],r_3.2.2))) fun x=>a1b x (some (a0i [nth 0 r_1.2.1],r_1.2.2)))
theorem c5T (t0:D) (h:Hp):R a9i [t0] h=c2f t0 h :=
 er i21 (by kernel_rfl) (by kernel_rfl)
noncomputable def a6b (t1:D) (ds:List D) (h_1:Hp):Option Out :=
 (a0l tab .geq ty3 (nth 1 ds) (.int .i64 0)).bind fun t12=>dIf t12
  ((a0l tab .shr ty3 t1 (nth 1 ds)).bind fun t18=>(a1O tab ty3 ty5 t18).bind fun t19=>(a0H tab a0G 1 [0] [t19]).bind fun t20=>(a0A tab h_1 a0G a0G (nth 0 ds) t20).bind fun p21=>(a0l tab .sub ty3 (nth 1 ds) (.int .i64 8)).bind fun t14=>some (.nrm,[p21.1,t14,t12],p21.2))
  (some ((.ext 0),[nth 0 ds,nth 1 ds,t12],h_1))
noncomputable def c2g (t0 t1 t2:D) (h:Hp):Option (D × Hp) :=
 (a0l tab .sub ty3 t2 (.int .i64 1)).bind fun t9=>(a0l tab .mul ty3 (.int .i64 8) t9).bind fun t10=>((a0K (a6b t1) [t0,t10,.any] h).bind fun r=>some ((a0Q 0 r.1),[nth 0 r.2.1,nth 1 r.2.1,nth 2 r.2.1],r.2.2)).bind fun r_1=>a0R r_1.1 (some (a0i [nth 0 r_1.2.1],r_1.2.2)) fun x=>a1b x (some (a0i [.nils],r_1.2.2))
theorem c5U (t0 t1 t2:D) (h:Hp):R a3p [t0,t1,t2] h=c2g t0 t1 t2 h :=
 er i22 (by kernel_rfl) (by kernel_rfl)
noncomputable def c1I (t0:D) (h:Hp):Option (D × Hp) :=
 (b8Z a0P 11 h t0).bind fun p1=>(a0d tab p1.2 a0P p1.1).bind fun t6=>(R a4w [t6] p1.2).bind fun p7=>(a0l tab .neq b0J p7.1 (.int .i64 0)).bind fun t9=>dIf t9
  (scope h p7.2 (a0i [.nils,p7.1]))
  ((b2v tab p7.2 a0G (.int .i64 4) (.int .i64 4)).bind fun p11=>(a0D tab a1T [0] [p11.1]).bind fun t12=>(b8Z a1T 1 p11.2 t12).bind fun p13=>(some (.iface a4b p13.1:D)).bind fun t15=>(R a9g [t15,p1.1] p13.2).bind fun p16=>(a0e tab p13.1).bind fun t18=>(a0a tab a1T 0 t18).bind fun t19=>(a0d tab p16.2 a0G t19).bind fun t20=>(a0e tab p13.1).bind fun t22=>(a0a tab a1T 0 t22).bind fun t23=>(a0d tab p16.2 a0G t23).bind fun t24=>(a0y tab a0G t24).bind fun t25=>(a1O tab ty3 a1F t25).bind fun t26=>(R a3E [.nils,t26,.int .i64 4] p16.2).bind fun p27=>(a6y tab p27.2 a0G a0G t20 p27.1).bind fun p28=>chk (a0d tab p27.2 a0G t19=some t20)
 ((a0e tab p13.1).bind fun t30=>(a0a tab a1T 0 t30).bind fun t31=>(a0d tab p28.2 a0G t31).bind fun t32=>(a0e tab p13.1).bind fun t34=>(a0a tab a1T 0 t34).bind fun t35=>(a0d tab p28.2 a0G t35).bind fun t36=>(R b1F [t36] p28.2).bind fun p37=>(R a3E [t32,p37.1,.int .i64 4] p37.2).bind fun p38=>chk (a0d tab p37.2 a0G t31=some t32)
 (scope h p38.2 (a0i [p38.1,.int .i64 0]))))
theorem c5w (t0:D) (h:Hp):R b1E [t0] h=c1I t0 h :=
 er i23 (by kernel_rfl) (by kernel_rfl)
noncomputable def b1b (t6m t7:D) (ds:List D) (h_1:Hp):Option Out :=
 (a0l tab .lss ty3 (nth 2 ds) t7).bind fun t9=>dIf t9
  ((a0b tab a0G t6m (nth 2 ds)).bind fun t10=>(a0d tab h_1 ty5 t10).bind fun t11=>(a0l tab .mul a1F (nth 0 ds) (.int .u64 31)).bind fun t13=>(a1O tab ty5 a1F t11).bind fun t15=>(a0l tab .add a1F t13 t15).bind fun t16=>(a0l tab .rem a1F t16 (.int .u64 4294967291)).bind fun t17=>(a0l tab .add ty3 (nth 2 ds) (.int .i64 1)).bind fun t18=>some (.nrm,[t17,t11,t18,t9],h_1))
  (some ((.ext 0),[nth 0 ds,nth 1 ds,nth 2 ds,t9],h_1))
noncomputable def c2h (t0:D) (h:Hp):Option (D × Hp) :=
 (a0y tab a0G t0).bind fun t7=>((a0K (b1b t0 t7) [.int .u64 1,.any,.int .i64 0,.any] h).bind fun r=>some ((a0Q 0 r.1),[nth 0 r.2.1,nth 1 r.2.1,nth 2 r.2.1,nth 3 r.2.1],r.2.2)).bind fun r_1=>a0R r_1.1 ((a1O tab a1F ty3 (nth 0 r_1.2.1)).bind fun t20=>some (a0i [t20],r_1.2.2)) fun x=>a1b x (some (a0i [.int .i64 0],r_1.2.2))
theorem c5V (t0:D) (h:Hp):R b1N [t0] h=c2h t0 h :=
 er i24 (by kernel_rfl) (by kernel_rfl)
noncomputable def a7R (t6m:D) (p7:D × Hp) (ds:List D) (h_1:Hp):Option Out :=
 (a0l tab .gtr ty3 (nth 0 ds) (.int .i64 0)).bind fun t53=>(gd t53 true (some (t6m:D))).bind fun t55=>(gd t53 true (a0e tab t55)).bind fun t56=>(gd t53 true (a0a tab a1g 1 t56)).bind fun t57=>(gd t53 true (a0d tab h_1 ty4 t57)).bind fun t58=>(gd t53 true (dUn .not t58)).bind fun t59=>(a0T t53 t59 (.bool false)).bind fun t60=>dIf t60
  ((a0a tab a0m 1 p7.1).bind fun t63=>(a0d tab h_1 a0N t63).bind fun t64=>(R a3N [t6m,.int .i64 8] h_1).bind fun p66=>(R a3N [t6m,.int .i64 8] p66.2).bind fun p68=>(a0D tab a1f [0,1] [p66.1,p68.1]).bind fun t69=>(a0H tab a0N 1 [0] [t69]).bind fun t70=>(a0A tab p68.2 a0N a0N t64 t70).bind fun p71=>chk (a0d tab p66.2 a0N t63=some t64)
 (chk (a0d tab p68.2 a0N t63=some t64)
 ((a0a tab a0m 1 p7.1).bind fun t72=>((a0q tab p71.2 a0N t72 p71.1).bind fun h'=>some ((.und:D),h')).bind fun p910=>(a0l tab .sub ty3 (nth 0 ds) (.int .i64 1)).bind fun t62=>some (.nrm,[t62,t60],p910.2))))
  (some ((.ext 0),[nth 0 ds,t60],h_1))
noncomputable def a7S (t6m:D) (p7:D × Hp) (ds_1:List D) (h_2:Hp):Option Out :=
 (a0l tab .gtr ty3 (nth 0 ds_1) (.int .i64 0)).bind fun t76=>(gd t76 true (some (t6m:D))).bind fun t78=>(gd t76 true (a0e tab t78)).bind fun t79=>(gd t76 true (a0a tab a1g 1 t79)).bind fun t80=>(gd t76 true (a0d tab h_2 ty4 t80)).bind fun t81=>(gd t76 true (dUn .not t81)).bind fun t82=>(a0T t76 t82 (.bool false)).bind fun t83=>dIf t83
  ((a0a tab a0m 2 p7.1).bind fun t86=>(a0d tab h_2 a1N t86).bind fun t87=>(R b1O [t6m] h_2).bind fun p89=>(a0H tab a1N 1 [0] [p89.1]).bind fun t90=>(a0A tab p89.2 a1N a1N t87 t90).bind fun p91=>chk (a0d tab p89.2 a1N t86=some t87)
 ((a0a tab a0m 2 p7.1).bind fun t92=>((a0q tab p91.2 a1N t92 p91.1).bind fun h'=>some ((.und:D),h')).bind fun p907=>(a0l tab .sub ty3 (nth 0 ds_1) (.int .i64 1)).bind fun t85=>some (.nrm,[t85,t83],p907.2)))
  (some ((.ext 2),[nth 0 ds_1,t83],h_2))
noncomputable def c2i (t0:D) (h:Hp):Option (D × Hp) :=
 (some ((.ptr h.length 0 0:D),a0J h a0m 3 [[.int .i64 0,.nils,.nils]])).bind fun p2=>(a0y tab a0G t0).bind fun t11=>(a0l tab .lss ty3 t11 (.int .i64 8)).bind fun t12=>dIf t12
  ((a0D tab a0m [] []).bind fun t13=>((a0q tab p2.2 a0m p2.1 t13).bind fun h'=>some ((.und:D),h')).bind fun p901=>(a0d tab p901.2 a0m p2.1).bind fun d0=>scope h p901.2 (a0i [d0,.int .i64 0,.int .i64 14]))
  ((a0w tab a0G false true false [t0,.int .i64 8]).bind fun t15=>(a7n p2.2 t15).bind fun t16=>(R b4L [t16,.str [76,84,49,10]] p2.2).bind fun p17=>(dUn .not p17.1).bind fun t18=>dIf t18
  ((a0D tab a0m [] []).bind fun t19=>((a0q tab p17.2 a0m p2.1 t19).bind fun h'=>some ((.und:D),h')).bind fun p901_1=>(a0d tab p901_1.2 a0m p2.1).bind fun d0=>scope h p901_1.2 (a0i [d0,.int .i64 0,.int .i64 1]))
  ((a0w tab a0G true true false [t0,.int .i64 4,.int .i64 8]).bind fun t21=>(R a9j [t21] p17.2).bind fun p22=>(a0l tab .add ty3 (.int .i64 8) p22.1).bind fun t23=>(a0y tab a0G t0).bind fun t25=>(a0l tab .add ty3 t23 (.int .i64 4)).bind fun t27=>(a0l tab .lss ty3 t25 t27).bind fun t28=>dIf t28
  ((a0D tab a0m [] []).bind fun t29=>((a0q tab p22.2 a0m p2.1 t29).bind fun h'=>some ((.und:D),h')).bind fun p901_2=>(a0d tab p901_2.2 a0m p2.1).bind fun d0=>scope h p901_2.2 (a0i [d0,.int .i64 0,.int .i64 14]))
  ((a0w tab a0G false true false [t0,t23]).bind fun t32=>(R b1N [t32] p22.2).bind fun p33=>(a0l tab .add ty3 t23 (.int .i64 4)).bind fun t37=>(a0w tab a0G true true false [t0,t23,t37]).bind fun t38=>(R a9j [t38] p33.2).bind fun p39=>(a0l tab .neq ty3 p33.1 p39.1).bind fun t40=>dIf t40
  ((a0D tab a0m [] []).bind fun t41=>((a0q tab p39.2 a0m p2.1 t41).bind fun h'=>some ((.und:D),h')).bind fun p901_3=>(a0d tab p901_3.2 a0m p2.1).bind fun d0=>scope h p901_3.2 (a0i [d0,.int .i64 0,.int .i64 15]))
  ((a0w tab a0G true true false [t0,.int .i64 8,t23]).bind fun t44=>(a0D tab a1g [0] [t44]).bind fun t45=>(b8Z a1g 2 p39.2 t45).bind fun p46=>(R a3N [p46.1,.int .i64 8] p46.2).bind fun p48=>(a0D tab a0m [0] [p48.1]).bind fun t49=>(some ((.ptr p48.2.length 0 0:D),a0J p48.2 a0m 3 [[.int .i64 0,.nils,.nils]])).bind fun p7=>((a0q tab p7.2 a0m p7.1 t49).bind fun h'=>some ((.und:D),h')).bind fun p904=>(R a3N [p46.1,.int .i64 4] p904.2).bind fun p51=>((a0K (a7R p46.1 p7) [p51.1,.any] p51.2).bind fun r=>some ((a0Q 0 r.1),[nth 0 r.2.1,nth 1 r.2.1],r.2.2)).bind fun r_1=>a0R r_1.1 ((R a3N [p46.1,.int .i64 4] r_1.2.2).bind fun p74=>((a0K (a7S p46.1 p7) [p74.1,.any] p74.2).bind fun r_2=>some ((a0Q 2 r_2.1),[nth 0 r_2.2.1,nth 1 r_2.2.1],r_2.2.2)).bind fun r_3=>a0R r_3.1 ((a0e tab p46.1).bind fun t94=>(a0a tab a1g 1 t94).bind fun t95=>(a0d tab r_3.2.2 ty4 t95).bind fun t96=>(gd t96 false (some p46.1)).bind fun t98=>(gd t96 false (a0e tab t98)).bind fun t99=>(gd t96 false (a0a tab a1g 0 t99)).bind fun t100=>(gd t96 false (a0d tab r_3.2.2 a0G t100)).bind fun t101=>(gd t96 false (a0y tab a0G t101)).bind fun t102=>(gd t96 false (a0l tab .gtr ty3 t102 (.int .i64 0))).bind fun t103=>(a0T t96 (.bool true) t103).bind fun t104=>(gd t104 false (a0d tab r_3.2.2 a0m p7.1)).bind fun t106=>(gdW t104 false r_3.2.2 (a3K R a9i [t106] r_3.2.2)).bind fun p107=>(gd t104 false (a0l tab .neq b0J p107.1 (.int .i64 0))).bind fun t108=>(a0T t104 (.bool true) t108).bind fun t109=>dIf t109
  ((a0D tab a0m [] []).bind fun t110=>((a0q tab p107.2 a0m p2.1 t110).bind fun h'=>some ((.und:D),h')).bind fun p901_4=>(a0d tab p901_4.2 a0m p2.1).bind fun d0=>scope h p901_4.2 (a0i [d0,.int .i64 0,.int .i64 1]))
  ((a0d tab p107.2 a0m p7.1).bind fun t111=>(a0l tab .add ty3 t23 (.int .i64 4)).bind fun t113=>((a0q tab p107.2 a0m p2.1 t111).bind fun h'=>some ((.und:D),h')).bind fun p903=>(a0d tab p903.2 a0m p2.1).bind fun d0=>scope h p903.2 (a0i [d0,t113,.int .i64 0]))) fun x_1=>a1b x_1 ((a0d tab r_3.2.2 a0m p2.1).bind fun d0=>scope h r_3.2.2 (a0i [d0,.int .i64 0,.int .i64 0]))) fun x=>a1b x ((a0d tab r_1.2.2 a0m p2.1).bind fun d0=>scope h r_1.2.2 (a0i [d0,.int .i64 0,.int .i64 0]))))))
theorem c5W (t0:D) (h:Hp):R a5h [t0] h=c2i t0 h :=
 er i26 (by kernel_rfl) (by kernel_rfl)
noncomputable def F82 (t0 t1:D) (h:Hp):Option (D × Hp) :=
 (a3k t0).bind fun t2=>(a3k t1).bind fun t3=>(a0a tab a0P 1 t2).bind fun t7=>(a0d tab h a0F t7).bind fun t8=>(a0a tab a0P 1 t3).bind fun t9=>(a0d tab h a0F t9).bind fun t10=>(some ((.ptr h.length 0 0:D),a0J h a0F 10 [[.int .i64 0,.int .i64 0,.int .i64 0,.int .i64 0,.nils,.int .i64 0,.int .i64 0,.str [],.str [],.nils]])).bind fun p5=>(some (.any:D)).bind fun t6=>((a0q tab p5.2 a0F p5.1 t8).bind fun h'=>some ((.und:D),h')).bind fun p906=>chk (a0d tab p5.2 a0F t7=some t8)
 (chk (a0d tab p5.2 a0F t9=some t10)
 (chk (a0d tab p906.2 a0F t9=some t10)
 (((a0q tab (a0J p906.2 a0F 10 [[.int .i64 0,.int .i64 0,.int .i64 0,.int .i64 0,.nils,.int .i64 0,.int .i64 0,.str [],.str [],.nils]]) a0F (.ptr p906.2.length 0 0) t10).bind fun h'=>some ((.und:D),h')).bind fun p907=>(a0a tab a0P 0 t2).bind fun t11=>(a0d tab p907.2 ty9 t11).bind fun t12=>(a0a tab a0P 0 t3).bind fun t13=>(a0d tab p907.2 ty9 t13).bind fun t14=>(a0l tab .eql ty9 t12 t14).bind fun t15=>(gd t15 true (a0a tab a0F 0 p5.1)).bind fun t17=>(gd t15 true (a0d tab p907.2 ty3 t17)).bind fun t18=>(gd t15 true (a0a tab a0F 0 (.ptr p906.2.length 0 0))).bind fun t19=>(gd t15 true (a0d tab p907.2 ty3 t19)).bind fun t20=>(gd t15 true (a0l tab .eql ty3 t18 t20)).bind fun t21=>(a0T t15 t21 (.bool false)).bind fun t22=>(gd t22 true (a0a tab a0F 1 p5.1)).bind fun t24=>(gd t22 true (a0d tab p907.2 ty3 t24)).bind fun t25=>(gd t22 true (a0a tab a0F 1 (.ptr p906.2.length 0 0))).bind fun t26=>(gd t22 true (a0d tab p907.2 ty3 t26)).bind fun t27=>(gd t22 true (a0l tab .eql ty3 t25 t27)).bind fun t28=>(a0T t22 t28 (.bool false)).bind fun t29=>(gd t29 true (a0a tab a0F 2 p5.1)).bind fun t31=>(gd t29 true (a0d tab p907.2 ty3 t31)).bind fun t32=>(gd t29 true (a0a tab a0F 2 (.ptr p906.2.length 0 0))).bind fun t33=>(gd t29 true (a0d tab p907.2 ty3 t33)).bind fun t34=>(gd t29 true (a0l tab .eql ty3 t32 t34)).bind fun t35=>(a0T t29 t35 (.bool false)).bind fun t36=>(gd t36 true (a0a tab a0F 3 p5.1)).bind fun t38=>(gd t36 true (a0d tab p907.2 ty3 t38)).bind fun t39=>(gd t36 true (a0a tab a0F 3 (.ptr p906.2.length 0 0))).bind fun t40=>(gd t36 true (a0d tab p907.2 ty3 t40)).bind fun t41=>(gd t36 true (a0l tab .eql ty3 t39 t41)).bind fun t42=>(a0T t36 t42 (.bool false)).bind fun t43=>(gd t43 true (a0a tab a0F 5 p5.1)).bind fun t45=>(gd t43 true (a0d tab p907.2 ty3 t45)).bind fun t46=>(gd t43 true (a0a tab a0F 5 (.ptr p906.2.length 0 0))).bind fun t47=>(gd t43 true (a0d tab p907.2 ty3 t47)).bind fun t48=>(gd t43 true (a0l tab .eql ty3 t46 t48)).bind fun t49=>(a0T t43 t49 (.bool false)).bind fun t50=>(gd t50 true (a0a tab a0F 6 p5.1)).bind fun t52=>(gd t50 true (a0d tab p907.2 ty3 t52)).bind fun t53=>(gd t50 true (a0a tab a0F 6 (.ptr p906.2.length 0 0))).bind fun t54=>(gd t50 true (a0d tab p907.2 ty3 t54)).bind fun t55=>(gd t50 true (a0l tab .eql ty3 t53 t55)).bind fun t56=>(a0T t50 t56 (.bool false)).bind fun t57=>(gd t57 true (a0a tab a0F 7 p5.1)).bind fun t59=>(gd t57 true (a0d tab p907.2 ty9 t59)).bind fun t60=>(gd t57 true (a0a tab a0F 7 (.ptr p906.2.length 0 0))).bind fun t61=>(gd t57 true (a0d tab p907.2 ty9 t61)).bind fun t62=>(gd t57 true (a0l tab .eql ty9 t60 t62)).bind fun t63=>(a0T t57 t63 (.bool false)).bind fun t64=>(gd t64 true (a0a tab a0F 8 p5.1)).bind fun t66=>(gd t64 true (a0d tab p907.2 ty9 t66)).bind fun t67=>(gd t64 true (a0a tab a0F 8 (.ptr p906.2.length 0 0))).bind fun t68=>(gd t64 true (a0d tab p907.2 ty9 t68)).bind fun t69=>(gd t64 true (a0l tab .eql ty9 t67 t69)).bind fun t70=>(a0T t64 t70 (.bool false)).bind fun t71=>(gd t71 true (a0a tab a0F 4 p5.1)).bind fun t73=>(gd t71 true (a0d tab p907.2 a1P t73)).bind fun t74=>(gd t71 true (a0a tab a0F 4 (.ptr p906.2.length 0 0))).bind fun t75=>(gd t71 true (a0d tab p907.2 a1P t75)).bind fun t76=>(gdW t71 true p907.2 (R c6j [t74,t76] p907.2)).bind fun p77=>(a0T t71 p77.1 (.bool false)).bind fun t78=>(gd t78 true (a0a tab a0F 9 p5.1)).bind fun t80=>(gd t78 true (a0d tab p77.2 a1m t80)).bind fun t81=>(gd t78 true (a0a tab a0F 9 (.ptr p906.2.length 0 0))).bind fun t82=>(gd t78 true (a0d tab p77.2 a1m t82)).bind fun t83=>(gdW t78 true p77.2 (R c6k [t81,t83] p77.2)).bind fun p84=>(a0T t78 p84.1 (.bool false)).bind fun t85=>scope h p84.2 (a0i [t85]))))
theorem e82 (t0 t1:D) (h:Hp):R c6i [t0,t1] h=F82 t0 t1 h :=
 er i27 (by kernel_rfl) (by kernel_rfl)
noncomputable def F12 (t0:D) (h:Hp):Option (D × Hp) :=
 (some ((.ptr h.length 0 0:D),a0J h a0F 10 [[.int .i64 0,.int .i64 0,.int .i64 0,.int .i64 0,.nils,.int .i64 0,.int .i64 0,.str [],.str [],.nils]])).bind fun p2=>(R a5B [t0,.int .i64 3] p2.2).bind fun p6=>(R a5B [t0,.int .i64 3] p6.2).bind fun p8=>(R a5B [t0,.int .i64 6] p8.2).bind fun p10=>(a0l tab .mul ty3 (.int .i64 10) p10.1).bind fun t11=>(R a5B [t0,.int .i64 256] p10.2).bind fun p13=>(a0l tab .mul ty3 (.int .i64 1000) p13.1).bind fun t14=>(a0H tab a4d 4 [0,1,2,3] [.int .i64 1,.int .i64 1,.int .i64 2,.int .i64 5040]).bind fun t15=>(R a5B [t0,.int .i64 4] p13.2).bind fun p17=>(a0b tab a4d t15 p17.1).bind fun t18=>(a0d tab p17.2 ty3 t18).bind fun t19=>(a0H tab a2M 4 [0,1,2,3] [.str [],.str [116,49],.str [116,50],.str [105,100]]).bind fun t21=>(R a5U [t0,t21] p17.2).bind fun p22=>(a0H tab a2M 2 [0,1] [.str [109,97,105,110],.str [97,117,100,105,116]]).bind fun t24=>(R a5U [t0,t24] p22.2).bind fun p25=>(R c4q [t0] p25.2).bind fun p27=>(a0D tab a0F [0,1,2,5,6,7,8,9] [p6.1,p8.1,t11,t14,t19,p22.1,p25.1,p27.1]).bind fun t28=>(some (.any:D)).bind fun t3=>chk (a0d tab p22.2 ty3 t18=some t19)
 (chk (a0d tab p25.2 ty3 t18=some t19)
 (chk (a0d tab p27.2 ty3 t18=some t19)
 (((a0q tab (a0J p27.2 a0F 10 [[.int .i64 0,.int .i64 0,.int .i64 0,.int .i64 0,.nils,.int .i64 0,.int .i64 0,.str [],.str [],.nils]]) a0F (.ptr p27.2.length 0 0) t28).bind fun h'=>some ((.und:D),h')).bind fun p925=>(a0a tab a0F 2 (.ptr p27.2.length 0 0)).bind fun t30=>(a0d tab p925.2 ty3 t30).bind fun t31=>(R c4r [t0,t31,.int .i64 3,.bool true] p925.2).bind fun p32=>(a0a tab a0F 4 (.ptr p27.2.length 0 0)).bind fun t33=>((a0q tab p32.2 a1P t33 p32.1).bind fun h'=>some ((.und:D),h')).bind fun p905=>(a0a tab a0F 4 (.ptr p27.2.length 0 0)).bind fun t34=>(a0d tab p905.2 a1P t34).bind fun t35=>(a0a tab a0F 4 (.ptr p27.2.length 0 0)).bind fun t36=>(a0d tab p905.2 a1P t36).bind fun t37=>(a0y tab a1P t37).bind fun t38=>(a0l tab .sub ty3 t38 (.int .i64 1)).bind fun t39=>(a0b tab a1P t35 t39).bind fun t40=>(a0d tab p905.2 a1z t40).bind fun t41=>(a5x 3 t41).bind fun t4=>(a0a tab a1z 0 t4).bind fun t42=>(a0d tab p905.2 ty3 t42).bind fun t43=>(a0a tab a1z 1 t4).bind fun t44=>(a0d tab p905.2 ty3 t44).bind fun t45=>(a0l tab .add ty3 t43 t45).bind fun t46=>(a0a tab a0F 3 (.ptr p27.2.length 0 0)).bind fun t47=>((a0q tab p905.2 ty3 t47 t46).bind fun h'=>some ((.und:D),h')).bind fun p906=>(a0d tab p906.2 a0F (.ptr p27.2.length 0 0)).bind fun t48=>((a0q tab p906.2 a0F p2.1 t48).bind fun h'=>some ((.und:D),h')).bind fun p901=>(a0d tab p901.2 a0F p2.1).bind fun d0=>scope h p901.2 (a0i [d0]))))
theorem e12 (t0:D) (h:Hp):R c4p [t0] h=F12 t0 h :=
 er i28 (by kernel_rfl) (by kernel_rfl)
noncomputable def F40 (t0 t1:D) (h:Hp):Option (D × Hp) :=
 (a0y tab a2M t1).bind fun t8=>(R a5B [t0,t8] h).bind fun p9=>(a0b tab a2M t1 p9.1).bind fun t10=>(a0d tab p9.2 ty9 t10).bind fun t11=>some (a0i [t11],p9.2)
theorem e40 (t0 t1:D) (h:Hp):R a5U [t0,t1] h=F40 t0 t1 h :=
 er i29 (by kernel_rfl) (by kernel_rfl)
noncomputable def c1q (t0:D) (h:Hp):Option (D × Hp) :=
 (a3k t0).bind fun t1=>(a0a tab a0P 1 t1).bind fun t5=>(a0d tab h a0F t5).bind fun t6=>(a5x 10 t6).bind fun t3=>(a0a tab a0P 0 t1).bind fun t8=>(a0d tab h ty9 t8).bind fun t9=>(a0l tab .eql ty9 t9 (.str [])).bind fun t10=>dIf t10
  ((a0d tab h a0F t3).bind fun t11=>(R a8Z [t11] h).bind fun p12=>some (a0i [p12.1],p12.2))
  ((a0a tab a0P 0 t1).bind fun t14=>(a0d tab h ty9 t14).bind fun t15=>(a0y tab ty9 t15).bind fun t16=>(a0l tab .gtr ty3 t16 (.int .i64 32)).bind fun t17=>dIf t17
  (some (a0i [.int .i64 3],h))
  ((a0d tab h a0F t3).bind fun t19=>(R b1B [t19] h).bind fun p20=>(dUn .not p20.1).bind fun t21=>dIf t21
  (some (a0i [.int .i64 2],p20.2))
  ((a0d tab p20.2 a0F t3).bind fun t22=>(R b1C [t22,.int .i64 60000] p20.2).bind fun p23=>(a0l tab .eql b0J p23.1 (.int .i64 9)).bind fun t25=>(gd t25 false (some p23.1)).bind fun t27=>(gd t25 false (a0l tab .eql b0J t27 (.int .i64 4))).bind fun t28=>(a0T t25 (.bool true) t28).bind fun t29=>(gd t29 false (some p23.1)).bind fun t31=>(gd t29 false (a0l tab .eql b0J t31 (.int .i64 19))).bind fun t32=>(a0T t29 (.bool true) t32).bind fun t33=>dIf t33
  (some (a0i [p23.1],p23.2))
  ((a0a tab a0F 5 t3).bind fun t35=>(a0d tab p23.2 ty3 t35).bind fun t36=>(a0l tab .neq ty3 t36 (.int .i64 0)).bind fun t37=>(gd t37 false (a0a tab a0F 6 t3)).bind fun t39=>(gd t37 false (a0d tab p23.2 ty3 t39)).bind fun t40=>(gd t37 false (a0l tab .neq ty3 t40 (.int .i64 0))).bind fun t41=>(a0T t37 (.bool true) t41).bind fun t42=>(gd t42 false (a0a tab a0F 7 t3)).bind fun t44=>(gd t42 false (a0d tab p23.2 ty9 t44)).bind fun t45=>(gd t42 false (a0l tab .neq ty9 t45 (.str []))).bind fun t46=>(a0T t42 (.bool true) t46).bind fun t47=>(gd t47 false (a0a tab a0F 8 t3)).bind fun t49=>(gd t47 false (a0d tab p23.2 ty9 t49)).bind fun t50=>(gd t47 false (a0l tab .neq ty9 t50 (.str []))).bind fun t51=>(a0T t47 (.bool true) t51).bind fun t52=>(gd t52 false (a0a tab a0F 9 t3)).bind fun t54=>(gd t52 false (a0d tab p23.2 a1m t54)).bind fun t55=>(gd t52 false (a0y tab a1m t55)).bind fun t56=>(gd t52 false (a0l tab .neq ty3 t56 (.int .i64 0))).bind fun t57=>(a0T t52 (.bool true) t57).bind fun t58=>(gd t58 false (a0a tab a0F 4 t3)).bind fun t60=>(gd t58 false (a0d tab p23.2 a1P t60)).bind fun t61=>(gdW t58 false p23.2 (R b4v [t61,.fn (.func a9a) [] []] p23.2)).bind fun p62=>(a0T t58 (.bool true) p62.1).bind fun t63=>dIf t63
  (some (a0i [.int .i64 19],p62.2))
  (some (a0i [.int .i64 0],p62.2))))))
theorem c5c (t0:D) (h:Hp):R a4w [t0] h=c1q t0 h :=
 er i30 (by kernel_rfl) (by kernel_rfl)
noncomputable def a7O (t0 t33 t34:D) (ds:List D) (h_1:Hp):Option Out :=
 (a0l tab .lss ty3 (nth 1 ds) t34).bind fun t36=>dIf t36
  ((a0b tab a5r t33 (nth 1 ds)).bind fun t37=>(a0d tab h_1 b8W t37).bind fun t38=>(a2D tab R "logtide/event.number" [t0,t38] h_1).bind fun p41=>(a0l tab .add ty3 (nth 1 ds) (.int .i64 1)).bind fun t42=>some (.nrm,[t38,t42,t36],p41.2))
  (some ((.ext 0),[nth 0 ds,nth 1 ds,t36],h_1))
noncomputable def a5X (t0 t4m:D) (p52:D × Hp) (ds_1:List D) (h_2:Hp):Option Out :=
 (a0l tab .lss ty3 (nth 2 ds_1) p52.1).bind fun t54=>dIf t54
  ((a0e tab t4m).bind fun t58=>(a0a tab a0F 4 t58).bind fun t59=>(a0d tab h_2 a1P t59).bind fun t60=>(a0y tab a1P t60).bind fun t61=>(a0l tab .eql ty3 (nth 2 ds_1) t61).bind fun t62=>(dIf t62
  ((a0e tab t4m).bind fun t65=>(a0a tab a0F 4 t65).bind fun t66=>(a0d tab h_2 a1P t66).bind fun t67=>(a0D tab a1z [] []).bind fun t68=>(a0H tab a1P 1 [0] [t68]).bind fun t69=>(a0A tab h_2 a1P a1P t67 t69).bind fun p70=>(a0e tab t4m).bind fun t71=>(a0a tab a0F 4 t71).bind fun t72=>((a0q tab p70.2 a1P t72 p70.1).bind fun h'=>some ((.und:D),h')).bind fun p910=>some (.nrm,([]:List D),p910.2))
  (some (.nrm,([]:List D),h_2))).bind fun r_3=>a0R r_3.1 ((a0e tab t4m).bind fun t74=>(a0a tab a0F 4 t74).bind fun t75=>(a0d tab r_3.2.2 a1P t75).bind fun t76=>(a0b tab a1P t76 (nth 2 ds_1)).bind fun t78=>(a0e tab t78).bind fun t81=>(a0a tab a1z 0 t81).bind fun t82=>(some (.fn (.method "logtide/event.number") [t0] []:D)).bind fun t83=>(a0e tab t83).bind fun t84=>(a2D tab R "logtide/event.number" [t0,t82] r_3.2.2).bind fun p86=>(a0e tab t78).bind fun t89=>(a0a tab a1z 1 t89).bind fun t90=>(some (.fn (.method "logtide/event.number") [t0] []:D)).bind fun t91=>(a0e tab t91).bind fun t92=>(a2D tab R "logtide/event.number" [t0,t90] p86.2).bind fun p94=>(a0e tab t78).bind fun t97=>(a0a tab a1z 2 t97).bind fun t98=>(some (.fn (.method "logtide/event.text") [t0] []:D)).bind fun t99=>(a0e tab t99).bind fun t100=>(a2D tab R "logtide/event.text" [t0,t98] p94.2).bind fun p102=>(a0l tab .add ty3 (nth 2 ds_1) (.int .i64 1)).bind fun t103=>some (.nrm,[nth 2 ds_1,t78,t103,t54,t62],p102.2)) fun x_1=>a0R (a0Q 3 x_1) ((a0l tab .add ty3 (nth 2 ds_1) (.int .i64 1)).bind fun t103_1=>some (.nrm,[nth 2 ds_1,nth 1 ds_1,t103_1,t54,t62],r_3.2.2)) fun x_2=>some (x_2,[nth 2 ds_1,nth 1 ds_1,nth 2 ds_1,t54,t62],r_3.2.2))
  (some ((.ext 2),[nth 0 ds_1,nth 1 ds_1,nth 2 ds_1,t54,nth 4 ds_1],h_2))
noncomputable def a5Y (t0 t4m:D) (p145:D × Hp) (ds_2:List D) (h_3:Hp):Option Out :=
 (a0l tab .lss ty3 (nth 1 ds_2) p145.1).bind fun t147=>dIf t147
  ((a0e tab t4m).bind fun t151=>(a0a tab a0F 9 t151).bind fun t152=>(a0d tab h_3 a1m t152).bind fun t153=>(a0y tab a1m t153).bind fun t154=>(a0l tab .eql ty3 (nth 1 ds_2) t154).bind fun t155=>(dIf t155
  ((a0e tab t4m).bind fun t158=>(a0a tab a0F 9 t158).bind fun t159=>(a0d tab h_3 a1m t159).bind fun t160=>(a0D tab a0t [] []).bind fun t161=>(a0H tab a1m 1 [0] [t161]).bind fun t162=>(a0A tab h_3 a1m a1m t160 t162).bind fun p163=>(a0e tab t4m).bind fun t164=>(a0a tab a0F 9 t164).bind fun t165=>((a0q tab p163.2 a1m t165 p163.1).bind fun h'=>some ((.und:D),h')).bind fun p910_1=>some (.nrm,([]:List D),p910_1.2))
  (some (.nrm,([]:List D),h_3))).bind fun r_6=>a0R r_6.1 ((a0e tab t4m).bind fun t168=>(a0a tab a0F 9 t168).bind fun t169=>(a0d tab r_6.2.2 a1m t169).bind fun t170=>(a0b tab a1m t170 (nth 1 ds_2)).bind fun t172=>(a0a tab a0t 0 t172).bind fun t173=>(some (.fn (.method "logtide/event.text") [t0] []:D)).bind fun t174=>(a0e tab t174).bind fun t175=>(a2D tab R "logtide/event.text" [t0,t173] r_6.2.2).bind fun p177=>(a0e tab t4m).bind fun t180=>(a0a tab a0F 9 t180).bind fun t181=>(a0d tab p177.2 a1m t181).bind fun t182=>(a0b tab a1m t182 (nth 1 ds_2)).bind fun t184=>(a0a tab a0t 1 t184).bind fun t185=>(some (.fn (.method "logtide/event.text") [t0] []:D)).bind fun t186=>(a0e tab t186).bind fun t187=>(a2D tab R "logtide/event.text" [t0,t185] p177.2).bind fun p189=>(a0l tab .add ty3 (nth 1 ds_2) (.int .i64 1)).bind fun t190=>some (.nrm,[nth 1 ds_2,t190,t147,t155],p189.2)) fun x_4=>a0R (a0Q 5 x_4) ((a0l tab .add ty3 (nth 1 ds_2) (.int .i64 1)).bind fun t190_1=>some (.nrm,[nth 1 ds_2,t190_1,t147,t155],r_6.2.2)) fun x_5=>some (x_5,[nth 1 ds_2,nth 1 ds_2,t147,t155],r_6.2.2))
  (some ((.ext 4),[nth 0 ds_2,nth 1 ds_2,t147,nth 3 ds_2],h_3))
noncomputable def b9i (t0 t1:D) (h:Hp):Option (D × Hp) :=
 (a0e tab t1).bind fun t11=>(a0a tab a0P 1 t11).bind fun t12=>(a0e tab t1).bind fun t15=>(a0a tab a0P 0 t15).bind fun t16=>(some (.fn (.method "logtide/event.text") [t0] []:D)).bind fun t17=>(a0e tab t17).bind fun t18=>(a2D tab R "logtide/event.text" [t0,t16] h).bind fun p20=>(a0e tab t12).bind fun t22=>(a0a tab a0F 0 t22).bind fun t23=>(a0e tab t12).bind fun t25=>(a0a tab a0F 1 t25).bind fun t26=>(a0e tab t12).bind fun t28=>(a0a tab a0F 2 t28).bind fun t29=>(a0e tab t12).bind fun t31=>(a0a tab a0F 3 t31).bind fun t32=>(a0H tab a5r 4 [0,1,2,3] [t23,t26,t29,t32]).bind fun t33=>(a0y tab a5r t33).bind fun t34=>((a0K (a7O t0 t33 t34) [.any,.int .i64 0,.any] p20.2).bind fun r=>some ((a0Q 0 r.1),[nth 0 r.2.1,nth 1 r.2.1,nth 2 r.2.1],r.2.2)).bind fun r_1=>a0R r_1.1 ((a0e tab t12).bind fun t45=>(a0a tab a0F 4 t45).bind fun t46=>(a0d tab r_1.2.2 a1P t46).bind fun t47=>(a0y tab a1P t47).bind fun t48=>(some (.fn (.method "logtide/event.count") [t0] []:D)).bind fun t49=>(a0e tab t49).bind fun t50=>(a2D tab R "logtide/event.count" [t0,t48] r_1.2.2).bind fun p52=>((a0K (a5X t0 t12 p52) [.any,.any,.int .i64 0,.any,.any] p52.2).bind fun r_2=>some ((a0Q 2 r_2.1),[nth 0 r_2.2.1,nth 1 r_2.2.1,nth 2 r_2.2.1,nth 3 r_2.2.1,nth 4 r_2.2.1],r_2.2.2)).bind fun r_4=>a0R r_4.1 ((a0e tab t12).bind fun t106=>(a0a tab a0F 5 t106).bind fun t107=>(some (.fn (.method "logtide/event.number") [t0] []:D)).bind fun t108=>(a0e tab t108).bind fun t109=>(a2D tab R "logtide/event.number" [t0,t107] r_4.2.2).bind fun p111=>(a0e tab t12).bind fun t114=>(a0a tab a0F 6 t114).bind fun t115=>(some (.fn (.method "logtide/event.number") [t0] []:D)).bind fun t116=>(a0e tab t116).bind fun t117=>(a2D tab R "logtide/event.number" [t0,t115] p111.2).bind fun p119=>(a0e tab t12).bind fun t122=>(a0a tab a0F 7 t122).bind fun t123=>(some (.fn (.method "logtide/event.text") [t0] []:D)).bind fun t124=>(a0e tab t124).bind fun t125=>(a2D tab R "logtide/event.text" [t0,t123] p119.2).bind fun p127=>(a0e tab t12).bind fun t130=>(a0a tab a0F 8 t130).bind fun t131=>(some (.fn (.method "logtide/event.text") [t0] []:D)).bind fun t132=>(a0e tab t132).bind fun t133=>(a2D tab R "logtide/event.text" [t0,t131] p127.2).bind fun p135=>(a0e tab t12).bind fun t138=>(a0a tab a0F 9 t138).bind fun t139=>(a0d tab p135.2 a1m t139).bind fun t140=>(a0y tab a1m t140).bind fun t141=>(some (.fn (.method "logtide/event.count") [t0] []:D)).bind fun t142=>(a0e tab t142).bind fun t143=>(a2D tab R "logtide/event.count" [t0,t141] p135.2).bind fun p145=>((a0K (a5Y t0 t12 p145) [.any,.int .i64 0,.any,.any] p145.2).bind fun r_5=>some ((a0Q 4 r_5.1),[nth 0 r_5.2.1,nth 1 r_5.2.1,nth 2 r_5.2.1,nth 3 r_5.2.1],r_5.2.2)).bind fun r_7=>a1b r_7.1 (some (a0i [],r_7.2.2))) fun x_3=>a1b x_3 (some (a0i [],r_4.2.2))) fun x=>a1b x (some (a0i [],r_1.2.2))
theorem c2M (t0 t1:D) (h:Hp):R a9g [t0,t1] h=b9i t0 t1 h :=
 er i31 (by kernel_rfl) (by kernel_rfl)
noncomputable def a5Z (t1:D) (ds:List D) (h_1:Hp):Option Out :=
 (a0l tab .geq ty3 (nth 1 ds) (.int .i64 0)).bind fun t12=>dIf t12
  ((a0l tab .shr a1F t1 (nth 1 ds)).bind fun t18=>(a1O tab a1F ty5 t18).bind fun t19=>(a0H tab a0G 1 [0] [t19]).bind fun t20=>(a0A tab h_1 a0G a0G (nth 0 ds) t20).bind fun p21=>(a0l tab .sub ty3 (nth 1 ds) (.int .i64 8)).bind fun t14=>some (.nrm,[p21.1,t14,t12],p21.2))
  (some ((.ext 0),[nth 0 ds,nth 1 ds,t12],h_1))
noncomputable def c1K (t0 t1 t2:D) (h:Hp):Option (D × Hp) :=
 (a0l tab .sub ty3 t2 (.int .i64 1)).bind fun t9=>(a0l tab .mul ty3 (.int .i64 8) t9).bind fun t10=>((a0K (a5Z t1) [t0,t10,.any] h).bind fun r=>some ((a0Q 0 r.1),[nth 0 r.2.1,nth 1 r.2.1,nth 2 r.2.1],r.2.2)).bind fun r_1=>a0R r_1.1 (some (a0i [nth 0 r_1.2.1],r_1.2.2)) fun x=>a1b x (some (a0i [.nils],r_1.2.2))
theorem c5y (t0 t1 t2:D) (h:Hp):R a3E [t0,t1,t2] h=c1K t0 t1 t2 h :=
 er i32 (by kernel_rfl) (by kernel_rfl)
noncomputable def b0R (t6m t7:D) (ds:List D) (h_1:Hp):Option Out :=
 (a0l tab .lss ty3 (nth 2 ds) t7).bind fun t9=>dIf t9
  ((a0b tab a0G t6m (nth 2 ds)).bind fun t10=>(a0d tab h_1 ty5 t10).bind fun t11=>(a0l tab .mul a1F (nth 0 ds) (.int .u64 31)).bind fun t13=>(a1O tab ty5 a1F t11).bind fun t15=>(a0l tab .add a1F t13 t15).bind fun t16=>(a0l tab .rem a1F t16 (.int .u64 4294967291)).bind fun t17=>(a0l tab .add ty3 (nth 2 ds) (.int .i64 1)).bind fun t18=>some (.nrm,[t17,t11,t18,t9],h_1))
  (some ((.ext 0),[nth 0 ds,nth 1 ds,nth 2 ds,t9],h_1))
noncomputable def c1L (t0:D) (h:Hp):Option (D × Hp) :=
 (a0y tab a0G t0).bind fun t7=>((a0K (b0R t0 t7) [.int .u64 1,.any,.int .i64 0,.any] h).bind fun r=>some ((a0Q 0 r.1),[nth 0 r.2.1,nth 1 r.2.1,nth 2 r.2.1,nth 3 r.2.1],r.2.2)).bind fun r_1=>a0R r_1.1 (some (a0i [nth 0 r_1.2.1],r_1.2.2)) fun x=>a1b x (some (a0i [.int .u64 0],r_1.2.2))
theorem c5z (t0:D) (h:Hp):R b1F [t0] h=c1L t0 h :=
 er i33 (by kernel_rfl) (by kernel_rfl)
noncomputable def c2j (t0 t1:D) (h:Hp):Option (D × Hp) :=
 (R b4M [t0,t1] h).bind fun p7=>some (a0i [p7.1],p7.2)
theorem c5X (t0 t1:D) (h:Hp):R b4L [t0,t1] h=c2j t0 t1 h :=
 er i34 (by kernel_rfl) (by kernel_rfl)
noncomputable def b1c (t6m t7:D) (ds:List D) (h_1:Hp):Option Out :=
 (a0l tab .lss ty3 (nth 2 ds) t7).bind fun t9=>dIf t9
  ((a0b tab a0G t6m (nth 2 ds)).bind fun t10=>(a0d tab h_1 ty5 t10).bind fun t11=>(a0l tab .shl ty3 (nth 0 ds) (.int .u64 8)).bind fun t13=>(a1O tab ty5 ty3 t11).bind fun t15=>(a0l tab .or ty3 t13 t15).bind fun t16=>(a0l tab .add ty3 (nth 2 ds) (.int .i64 1)).bind fun t17=>some (.nrm,[t16,t11,t17,t9],h_1))
  (some ((.ext 0),[nth 0 ds,nth 1 ds,nth 2 ds,t9],h_1))
noncomputable def c2k (t0:D) (h:Hp):Option (D × Hp) :=
 (a0y tab a0G t0).bind fun t7=>((a0K (b1c t0 t7) [.int .i64 0,.any,.int .i64 0,.any] h).bind fun r=>some ((a0Q 0 r.1),[nth 0 r.2.1,nth 1 r.2.1,nth 2 r.2.1,nth 3 r.2.1],r.2.2)).bind fun r_1=>a0R r_1.1 (some (a0i [nth 0 r_1.2.1],r_1.2.2)) fun x=>a1b x (some (a0i [.int .i64 0],r_1.2.2))
theorem c5Y (t0:D) (h:Hp):R a9j [t0] h=c2k t0 h :=
 er i35 (by kernel_rfl) (by kernel_rfl)
noncomputable def c2l (t0 t1:D) (h:Hp):Option (D × Hp) :=
 (a0e tab t0).bind fun t7=>(a0a tab a1g 1 t7).bind fun t8=>(a0d tab h ty4 t8).bind fun t9=>(gd t9 false (some t1)).bind fun t11=>(gd t9 false (some t0)).bind fun t12=>(gd t9 false (a0e tab t12)).bind fun t13=>(gd t9 false (a0a tab a1g 0 t13)).bind fun t14=>(gd t9 false (a0d tab h a0G t14)).bind fun t15=>(gd t9 false (a0y tab a0G t15)).bind fun t16=>(gd t9 false (a0l tab .gtr ty3 t11 t16)).bind fun t17=>(a0T t9 (.bool true) t17).bind fun t18=>dIf t18
  ((a0e tab t0).bind fun t20=>(a0a tab a1g 1 t20).bind fun t21=>((a0q tab h ty4 t21 (.bool true)).bind fun h'=>some ((.und:D),h')).bind fun p903=>some (a0i [.int .i64 0],p903.2))
  ((a0e tab t0).bind fun t23=>(a0a tab a1g 0 t23).bind fun t24=>(a0d tab h a0G t24).bind fun t25=>(a0w tab a0G false true false [t25,t1]).bind fun t27=>(R a9j [t27] h).bind fun p28=>(a0e tab t0).bind fun t31=>(a0a tab a1g 0 t31).bind fun t32=>(a0d tab p28.2 a0G t32).bind fun t33=>(a0w tab a0G true false false [t33,t1]).bind fun t35=>(a0e tab t0).bind fun t36=>(a0a tab a1g 0 t36).bind fun t37=>((a0q tab p28.2 a0G t37 t35).bind fun h'=>some ((.und:D),h')).bind fun p909=>some (a0i [p28.1],p909.2))
theorem c5Z (t0 t1:D) (h:Hp):R a3N [t0,t1] h=c2l t0 t1 h :=
 er i36 (by kernel_rfl) (by kernel_rfl)
noncomputable def c2m (t0:D) (h:Hp):Option (D × Hp) :=
 (some ((.ptr h.length 0 0:D),a0J h a0P 11 [[.str [],.int .i64 0,.int .i64 0,.int .i64 0,.int .i64 0,.nils,.int .i64 0,.int .i64 0,.str [],.str [],.nils]])).bind fun p2=>(a0e tab t0).bind fun t8=>(a0a tab a1g 0 t8).bind fun t9=>(a0d tab p2.2 a0G t9).bind fun t10=>(R a9f [t10] p2.2).bind fun p11=>(a0S 0 p11.1).bind fun t12=>(a0S 1 p11.1).bind fun t13=>(a0S 2 p11.1).bind fun t14=>(a5x 11 t12).bind fun t3=>(a0e tab t0).bind fun t16=>(a0a tab a1g 1 t16).bind fun t17=>(a0d tab p11.2 ty4 t17).bind fun t18=>(gd t18 false (some t14)).bind fun t20=>(gd t18 false (a0l tab .neq b0J t20 (.int .i64 0))).bind fun t21=>(a0T t18 (.bool true) t21).bind fun t22=>dIf t22
  ((a0e tab t0).bind fun t24=>(a0a tab a1g 1 t24).bind fun t25=>((a0q tab p11.2 ty4 t25 (.bool true)).bind fun h'=>some ((.und:D),h')).bind fun p903=>(a0D tab a0P [] []).bind fun t26=>((a0q tab p903.2 a0P p2.1 t26).bind fun h'=>some ((.und:D),h')).bind fun p901=>(a0d tab p901.2 a0P p2.1).bind fun d0=>scope h p901.2 (a0i [d0]))
  ((a0e tab t0).bind fun t29=>(a0a tab a1g 0 t29).bind fun t30=>(a0d tab p11.2 a0G t30).bind fun t31=>(a0w tab a0G true false false [t31,t13]).bind fun t33=>(a0e tab t0).bind fun t34=>(a0a tab a1g 0 t34).bind fun t35=>((a0q tab p11.2 a0G t35 t33).bind fun h'=>some ((.und:D),h')).bind fun p909=>(a0d tab p909.2 a0P t3).bind fun t36=>((a0q tab p909.2 a0P p2.1 t36).bind fun h'=>some ((.und:D),h')).bind fun p901_1=>(a0d tab p901_1.2 a0P p2.1).bind fun d0=>scope h p901_1.2 (a0i [d0]))
theorem c6a (t0:D) (h:Hp):R b1O [t0] h=c2m t0 h :=
 er i37 (by kernel_rfl) (by kernel_rfl)
noncomputable def b8a (t0 t1:D) (ds:List D) (h_1:Hp):Option Out :=
 (a0y tab a1P t0).bind fun t13=>(a0l tab .lss ty3 (nth 1 ds) t13).bind fun t14=>dIf t14
  ((a0b tab a1P t0 (nth 1 ds)).bind fun t19=>(a0d tab h_1 a1z t19).bind fun t20=>(a0b tab a1P t1 (nth 1 ds)).bind fun t23=>(a0d tab h_1 a1z t23).bind fun t24=>(a0l tab .neq a1z t20 t24).bind fun t25=>dIf t25
  (some (.ret,[.bool false,nth 1 ds,t14,t25],h_1))
  ((a0l tab .add ty3 (nth 1 ds) (.int .i64 1)).bind fun t16=>some (.nrm,[nth 0 ds,t16,t14,t25],h_1)))
  (some ((.ext 0),[nth 0 ds,nth 1 ds,t14,nth 3 ds],h_1))
noncomputable def F94 (t0 t1:D) (h:Hp):Option (D × Hp) :=
 (a0y tab a1P t0).bind fun t7=>(a0y tab a1P t1).bind fun t9=>(a0l tab .neq ty3 t7 t9).bind fun t10=>dIf t10
  (some (a0i [.bool false],h))
  (((a0K (b8a t0 t1) [.bool false,.int .i64 0,.any,.any] h).bind fun r=>some ((a0Q 0 r.1),[nth 0 r.2.1,nth 1 r.2.1,nth 2 r.2.1,nth 3 r.2.1],r.2.2)).bind fun r_1=>a0R r_1.1 (some (a0i [.bool true],r_1.2.2)) fun x=>a1b x (some (a0i [nth 0 r_1.2.1],r_1.2.2)))
theorem e94 (t0 t1:D) (h:Hp):R c6j [t0,t1] h=F94 t0 t1 h :=
 er i38 (by kernel_rfl) (by kernel_rfl)
noncomputable def b8b (t0 t1:D) (ds:List D) (h_1:Hp):Option Out :=
 (a0y tab a1m t0).bind fun t13=>(a0l tab .lss ty3 (nth 1 ds) t13).bind fun t14=>dIf t14
  ((a0b tab a1m t0 (nth 1 ds)).bind fun t19=>(a0d tab h_1 a0t t19).bind fun t20=>(a0b tab a1m t1 (nth 1 ds)).bind fun t23=>(a0d tab h_1 a0t t23).bind fun t24=>(a0l tab .neq a0t t20 t24).bind fun t25=>dIf t25
  (some (.ret,[.bool false,nth 1 ds,t14,t25],h_1))
  ((a0l tab .add ty3 (nth 1 ds) (.int .i64 1)).bind fun t16=>some (.nrm,[nth 0 ds,t16,t14,t25],h_1)))
  (some ((.ext 0),[nth 0 ds,nth 1 ds,t14,nth 3 ds],h_1))
noncomputable def F95 (t0 t1:D) (h:Hp):Option (D × Hp) :=
 (a0y tab a1m t0).bind fun t7=>(a0y tab a1m t1).bind fun t9=>(a0l tab .neq ty3 t7 t9).bind fun t10=>dIf t10
  (some (a0i [.bool false],h))
  (((a0K (b8b t0 t1) [.bool false,.int .i64 0,.any,.any] h).bind fun r=>some ((a0Q 0 r.1),[nth 0 r.2.1,nth 1 r.2.1,nth 2 r.2.1,nth 3 r.2.1],r.2.2)).bind fun r_1=>a0R r_1.1 (some (a0i [.bool true],r_1.2.2)) fun x=>a1b x (some (a0i [nth 0 r_1.2.1],r_1.2.2)))
theorem e95 (t0 t1:D) (h:Hp):R c6k [t0,t1] h=F95 t0 t1 h :=
 er i39 (by kernel_rfl) (by kernel_rfl)
noncomputable def b7X (t0 t6 t7:D) (ds:List D) (h_1:Hp):Option Out :=
 (a0l tab .lss ty3 (nth 2 ds) t7).bind fun t9=>dIf t9
  ((a0b tab a2M t6 (nth 2 ds)).bind fun t10=>(a0d tab h_1 ty9 t10).bind fun t11=>(R a5B [t0,.int .i64 3] h_1).bind fun p13=>(a0l tab .gtr ty3 p13.1 (.int .i64 0)).bind fun t14=>(dIf t14
  ((a0H tab a2M 8 [0,1,2,3,4,5,6,7] [.str [],.str [49],.str [105,110,102,111],.str [119,97,114,110],.str [97,110,110],.str [50,46,53,48],.str [116,114,117,101],.str [116,49]]).bind fun t18=>(R a5U [t0,t18] p13.2).bind fun p19=>(a0D tab a0t [0,1] [t11,p19.1]).bind fun t20=>(a0H tab a1m 1 [0] [t20]).bind fun t21=>(a0A tab p19.2 a1m a1m (nth 0 ds) t21).bind fun p22=>some (.nrm,[p22.1],p22.2))
  (some (.nrm,[nth 0 ds],p13.2))).bind fun r_1=>a0R (a0Q 1 r_1.1) ((a0l tab .add ty3 (nth 2 ds) (.int .i64 1)).bind fun t23=>some (.nrm,[nth 0 r_1.2.1,t11,t23,t9,t14],r_1.2.2)) fun x=>some (x,[nth 0 r_1.2.1,t11,nth 2 ds,t9,t14],r_1.2.2))
  (some ((.ext 0),[nth 0 ds,nth 1 ds,nth 2 ds,t9,nth 4 ds],h_1))
noncomputable def F41 (t0:D) (h:Hp):Option (D × Hp) :=
 (a0H tab a2M 4 [0,1,2,3] [.str [97],.str [105,100],.str [108,101,118,101,108],.str [117,115,101,114]]).bind fun t6=>(a0y tab a2M t6).bind fun t7=>((a0K (b7X t0 t6 t7) [.nils,.any,.int .i64 0,.any,.any] h).bind fun r=>some ((a0Q 0 r.1),[nth 0 r.2.1,nth 1 r.2.1,nth 2 r.2.1,nth 3 r.2.1,nth 4 r.2.1],r.2.2)).bind fun r_2=>a0R r_2.1 (scope h r_2.2.2 (a0i [nth 0 r_2.2.1])) fun x_1=>a1b x_1 (scope h r_2.2.2 (a0i [.nils]))
theorem e41 (t0:D) (h:Hp):R c4q [t0] h=F41 t0 h :=
 er i40 (by kernel_rfl) (by kernel_rfl)
noncomputable def b7Y (t0 t3:D) (ds:List D) (h_1:Hp):Option Out :=
 (a0l tab .gtr ty3 (nth 2 ds) (.int .i64 0)).bind fun t17=>dIf t17
  ((R a5B [t0,.int .i64 20] h_1).bind fun p22=>(a0l tab .add ty3 (.int .i64 1) p22.1).bind fun t23=>(a0D tab a1z [0,1] [nth 0 ds,t23]).bind fun t24=>(some ((.ptr p22.2.length 0 0:D),a0J p22.2 a1z 3 [[.int .i64 0,.int .i64 0,.str []]])).bind fun p11=>((a0q tab p11.2 a1z p11.1 t24).bind fun h'=>some ((.und:D),h')).bind fun p906=>(dIf t3
  ((R c4s [t0] p906.2).bind fun p27=>(a0a tab a1z 2 p11.1).bind fun t28=>((a0q tab p27.2 ty9 t28 p27.1).bind fun h'=>some ((.und:D),h')).bind fun p903=>some (.nrm,([]:List D),p903.2))
  (some (.nrm,([]:List D),p906.2))).bind fun r_1=>a0R r_1.1 ((a0d tab r_1.2.2 a1z p11.1).bind fun t30=>(a0H tab a1P 1 [0] [t30]).bind fun t31=>(a0A tab r_1.2.2 a1P a1P (nth 1 ds) t31).bind fun p32=>(a0a tab a1z 1 p11.1).bind fun t34=>(a0d tab p32.2 ty3 t34).bind fun t35=>(a0l tab .add ty3 (nth 0 ds) t35).bind fun t36=>(a0l tab .sub ty3 (nth 2 ds) (.int .i64 1)).bind fun t19=>some (.nrm,[t36,p32.1,t19,p11.1,t17,t3],p32.2)) fun x=>a0R (a0Q 1 x) ((a0l tab .sub ty3 (nth 2 ds) (.int .i64 1)).bind fun t19_1=>some (.nrm,[nth 0 ds,nth 1 ds,t19_1,p11.1,t17,t3],r_1.2.2)) fun x_1=>some (x_1,[nth 0 ds,nth 1 ds,nth 2 ds,p11.1,t17,t3],r_1.2.2))
  (some ((.ext 0),[nth 0 ds,nth 1 ds,nth 2 ds,nth 3 ds,t17,nth 5 ds],h_1))
noncomputable def F42 (t0 t1 t2 t3:D) (h:Hp):Option (D × Hp) :=
 (R a5B [t0,t2] h).bind fun p14=>(a0l tab .add ty3 (.int .i64 1) p14.1).bind fun t15=>((a0K (b7Y t0 t3) [t1,.nils,t15,.any,.any,.any] p14.2).bind fun r=>some ((a0Q 0 r.1),[nth 0 r.2.1,nth 1 r.2.1,nth 2 r.2.1,nth 3 r.2.1,nth 4 r.2.1,nth 5 r.2.1],r.2.2)).bind fun r_2=>a0R r_2.1 (scope h r_2.2.2 (a0i [nth 1 r_2.2.1])) fun x_2=>a1b x_2 (scope h r_2.2.2 (a0i [.nils]))
theorem e42 (t0 t1 t2 t3:D) (h:Hp):R c4r [t0,t1,t2,t3] h=F42 t0 t1 t2 t3 h :=
 er i41 (by kernel_rfl) (by kernel_rfl)
noncomputable def c1r (t0:D) (h:Hp):Option (D × Hp) :=
 (a3k t0).bind fun t1=>(a0d tab h a0F t1).bind fun t7=>(R b1B [t7] h).bind fun p8=>(dUn .not p8.1).bind fun t9=>(gd t9 false (a0a tab a0F 5 t1)).bind fun t11=>(gd t9 false (a0d tab p8.2 ty3 t11)).bind fun t12=>(gdW t9 false p8.2 (R a7r [t12,.int .i64 0,.int .i64 253402300799999] p8.2)).bind fun p13=>(gd t9 false (dUn .not p13.1)).bind fun t14=>(a0T t9 (.bool true) t14).bind fun t15=>dIf t15
  (scope h p13.2 (a0i [.int .i64 2]))
  ((a0a tab a0F 6 t1).bind fun t17=>(a0d tab p13.2 ty3 t17).bind fun t18=>(a0l tab .lss ty3 t18 (.int .i64 1)).bind fun t19=>(gd t19 false (a0a tab a0F 6 t1)).bind fun t21=>(gd t19 false (a0d tab p13.2 ty3 t21)).bind fun t22=>(gd t19 false (a0l tab .rem ty3 (.int .i64 5040) t22)).bind fun t23=>(gd t19 false (a0l tab .neq ty3 t23 (.int .i64 0))).bind fun t24=>(a0T t19 (.bool true) t24).bind fun t25=>dIf t25
  (scope h p13.2 (a0i [.int .i64 21]))
  ((a0d tab p13.2 a0F t1).bind fun t26=>(R b1C [t26,.int .i64 2000] p13.2).bind fun p27=>(a0l tab .neq b0J p27.1 (.int .i64 0)).bind fun t29=>dIf t29
  (scope h p27.2 (a0i [p27.1]))
  ((a0a tab a0F 7 t1).bind fun t31=>(a0d tab p27.2 ty9 t31).bind fun t32=>(a0y tab ty9 t32).bind fun t33=>(a0l tab .gtr ty3 t33 (.int .i64 32)).bind fun t34=>(gd t34 false (a0a tab a0F 8 t1)).bind fun t36=>(gd t34 false (a0d tab p27.2 ty9 t36)).bind fun t37=>(gd t34 false (a0y tab ty9 t37)).bind fun t38=>(gd t34 false (a0l tab .gtr ty3 t38 (.int .i64 32))).bind fun t39=>(a0T t34 (.bool true) t39).bind fun t40=>dIf t40
  (scope h p27.2 (a0i [.int .i64 3]))
  ((a0a tab a0F 9 t1).bind fun t42=>(a0d tab p27.2 a1m t42).bind fun t43=>(R a9b [t43] p27.2).bind fun p44=>(a0S 0 p44.1).bind fun t45=>(a0S 1 p44.1).bind fun t46=>(a0l tab .neq b0J t46 (.int .i64 0)).bind fun t48=>dIf t48
  (scope h p44.2 (a0i [t46]))
  ((a0a tab a0F 9 t1).bind fun t51=>(a0d tab p44.2 a1m t51).bind fun t52=>(R b4w [t45,t52] p44.2).bind fun p53=>(dUn .not p53.1).bind fun t54=>dIf t54
  (scope h p53.2 (a0i [.int .i64 19]))
  ((R b4x [t45,.fn (.func a9c) [] []] p53.2).bind fun p56=>dIf p56.1
  (scope h p56.2 (a0i [.int .i64 3]))
  (scope h p56.2 (a0i [.int .i64 0]))))))))
theorem c5d (t0:D) (h:Hp):R a8Z [t0] h=c1r t0 h :=
 er i42 (by kernel_rfl) (by kernel_rfl)
noncomputable def c1s (t0:D) (h:Hp):Option (D × Hp) :=
 (a3k t0).bind fun t1=>(a0a tab a0F 0 t1).bind fun t3=>(a0d tab h ty3 t3).bind fun t4=>(R a7r [t4,.int .i64 0,.int .i64 999] h).bind fun p5=>(gd p5.1 true (a0a tab a0F 1 t1)).bind fun t7=>(gd p5.1 true (a0d tab p5.2 ty3 t7)).bind fun t8=>(gdW p5.1 true p5.2 (R a7r [t8,.int .i64 0,.int .i64 2147483646] p5.2)).bind fun p9=>(a0T p5.1 p9.1 (.bool false)).bind fun t10=>(gd t10 true (a0a tab a0F 2 t1)).bind fun t12=>(gd t10 true (a0d tab p9.2 ty3 t12)).bind fun t13=>(gd t10 true (a0l tab .geq ty3 t13 (.int .i64 0))).bind fun t14=>(a0T t10 t14 (.bool false)).bind fun t15=>(gd t15 true (a0a tab a0F 3 t1)).bind fun t17=>(gd t15 true (a0d tab p9.2 ty3 t17)).bind fun t18=>(gd t15 true (a0a tab a0F 2 t1)).bind fun t19=>(gd t15 true (a0d tab p9.2 ty3 t19)).bind fun t20=>(gd t15 true (a0l tab .gtr ty3 t18 t20)).bind fun t21=>(a0T t15 t21 (.bool false)).bind fun t22=>(gd t22 true (a0a tab a0F 3 t1)).bind fun t24=>(gd t22 true (a0d tab p9.2 ty3 t24)).bind fun t25=>(gd t22 true (a0l tab .leq ty3 t25 (.int .i64 60000))).bind fun t26=>(a0T t22 t26 (.bool false)).bind fun t27=>some (a0i [t27],p9.2)
theorem c5e (t0:D) (h:Hp):R b1B [t0] h=c1s t0 h :=
 er i43 (by kernel_rfl) (by kernel_rfl)
noncomputable def b0M (t1 t2 t22 t23:D) (ds:List D) (h_1:Hp):Option Out :=
 (a0l tab .lss ty3 (nth 5 ds) t23).bind fun t25=>dIf t25
  ((a0b tab a1P t22 (nth 5 ds)).bind fun t27=>(a0d tab h_1 a1z t27).bind fun t28=>(some ((.ptr h_1.length 0 0:D),a0J h_1 a1z 3 [[.int .i64 0,.int .i64 0,.str []]])).bind fun p7=>((a0q tab p7.2 a1z p7.1 t28).bind fun h'=>some ((.und:D),h')).bind fun p905=>(a0a tab a0F 4 t2).bind fun t30=>(a0d tab p905.2 a1P t30).bind fun t31=>(a0y tab a1P t31).bind fun t32=>(a0l tab .sub ty3 t32 (.int .i64 1)).bind fun t33=>(a0l tab .eql ty3 (nth 5 ds) t33).bind fun t34=>(a0a tab a1z 0 p7.1).bind fun t35=>(a0d tab p905.2 ty3 t35).bind fun t36=>(a0l tab .neq ty3 t36 (nth 1 ds)).bind fun t38=>(gd t38 false (a0a tab a1z 1 p7.1)).bind fun t40=>(gd t38 false (a0d tab p905.2 ty3 t40)).bind fun t41=>(gd t38 false (a0l tab .lss ty3 t41 (.int .i64 1))).bind fun t42=>(a0T t38 (.bool true) t42).bind fun t43=>(gd t43 false (a0a tab a1z 1 p7.1)).bind fun t45=>(gd t43 false (a0d tab p905.2 ty3 t45)).bind fun t46=>(gd t43 false (a0a tab a0F 3 t2)).bind fun t47=>(gd t43 false (a0d tab p905.2 ty3 t47)).bind fun t48=>(gd t43 false (some (nth 1 ds))).bind fun t49=>(gd t43 false (a0l tab .sub ty3 t48 t49)).bind fun t50=>(gd t43 false (a0l tab .gtr ty3 t46 t50)).bind fun t51=>(a0T t43 (.bool true) t51).bind fun t52=>(gd t52 false (some t34)).bind fun t54=>(gd t52 false (some t54)).bind fun t55=>(gd t55 true (a0a tab a1z 1 p7.1)).bind fun t56=>(gd t55 true (a0d tab p905.2 ty3 t56)).bind fun t57=>(gd t55 true (a0a tab a0F 3 t2)).bind fun t58=>(gd t55 true (a0d tab p905.2 ty3 t58)).bind fun t59=>(gd t55 true (some (nth 1 ds))).bind fun t60=>(gd t55 true (a0l tab .sub ty3 t59 t60)).bind fun t61=>(gd t55 true (a0l tab .lss ty3 t57 t61)).bind fun t62=>(gd t52 false (a0T t55 t62 (.bool false))).bind fun t63=>(a0T t52 (.bool true) t63).bind fun t64=>dIf t64
  (some (.ret,[.int .i64 19,nth 1 ds,nth 5 ds,p7.1,t34,nth 5 ds,t25,t64,nth 8 ds],p905.2))
  ((a0a tab a1z 2 p7.1).bind fun t65=>(a0d tab p905.2 ty9 t65).bind fun t66=>(a0y tab ty9 t66).bind fun t67=>(a0l tab .gtr ty3 t67 t1).bind fun t69=>dIf t69
  (some (.ret,[.int .i64 3,nth 1 ds,nth 5 ds,p7.1,t34,nth 5 ds,t25,t64,t69],p905.2))
  ((a0a tab a1z 1 p7.1).bind fun t71=>(a0d tab p905.2 ty3 t71).bind fun t72=>(a0l tab .add ty3 (nth 1 ds) t72).bind fun t73=>(a0l tab .add ty3 (nth 5 ds) (.int .i64 1)).bind fun t74=>some (.nrm,[nth 0 ds,t73,nth 5 ds,p7.1,t34,t74,t25,t64,t69],p905.2))))
  (some ((.ext 1),[nth 0 ds,nth 1 ds,nth 2 ds,nth 3 ds,nth 4 ds,nth 5 ds,t25,nth 7 ds,nth 8 ds],h_1))
noncomputable def c1t (t0 t1:D) (h:Hp):Option (D × Hp) :=
 (a3k t0).bind fun t2=>(a0a tab a0F 4 t2).bind fun t10=>(a0d tab h a1P t10).bind fun t11=>(a0y tab a1P t11).bind fun t12=>(a0l tab .eql ty3 t12 (.int .i64 0)).bind fun t13=>dIf t13
  (scope h h (a0i [.int .i64 9]))
  ((a0a tab a0F 4 t2).bind fun t15=>(a0d tab h a1P t15).bind fun t16=>(a0y tab a1P t16).bind fun t17=>(a0l tab .gtr ty3 t17 (.int .i64 40)).bind fun t18=>dIf t18
  (scope h h (a0i [.int .i64 4]))
  ((a0a tab a0F 2 t2).bind fun t19=>(a0d tab h ty3 t19).bind fun t20=>(a0a tab a0F 4 t2).bind fun t21=>(a0d tab h a1P t21).bind fun t22=>(a0y tab a1P t22).bind fun t23=>((a0K (b0M t1 t2 t22 t23) [.int .i64 0,t20,.any,.any,.any,.int .i64 0,.any,.any,.any] h).bind fun r=>some ((a0Q 1 r.1),[nth 0 r.2.1,nth 1 r.2.1,nth 2 r.2.1,nth 3 r.2.1,nth 4 r.2.1,nth 5 r.2.1,nth 6 r.2.1,nth 7 r.2.1,nth 8 r.2.1],r.2.2)).bind fun r_1=>a0R r_1.1 (scope h r_1.2.2 (a0i [.int .i64 0])) fun x=>a1b x (scope h r_1.2.2 (a0i [nth 0 r_1.2.1]))))
theorem c5f (t0 t1:D) (h:Hp):R b1C [t0,t1] h=c1t t0 t1 h :=
 er i44 (by kernel_rfl) (by kernel_rfl)
noncomputable def c1u (t0 t1:D) (h:Hp):Option (D × Hp) :=
 (R b4t [t0,t1] h).bind fun p7=>(a0l tab .geq ty3 p7.1 (.int .i64 0)).bind fun t8=>some (a0i [t8],p7.2)
theorem c5g (t0 t1:D) (h:Hp):R b4v [t0,t1] h=c1u t0 t1 h :=
 er i45 (by kernel_rfl) (by kernel_rfl)
noncomputable def c1v (t0:D) (h:Hp):Option (D × Hp) :=
 (a3k t0).bind fun t1=>(a0a tab a1z 2 t1).bind fun t3=>(a0d tab h ty9 t3).bind fun t4=>(a0l tab .neq ty9 t4 (.str [])).bind fun t5=>some (a0i [t5],h)
theorem c5h (t0:D) (h:Hp):R a9a [t0] h=c1v t0 h :=
 er i46 (by kernel_rfl) (by kernel_rfl)
noncomputable def c2n (t0 t1:D) (h:Hp):Option (D × Hp) :=
 (a0y tab ty9 t0).bind fun t6=>(a0y tab ty9 t1).bind fun t8=>(a0l tab .geq ty3 t6 t8).bind fun t9=>(gd t9 true (some t0)).bind fun t11=>(gd t9 true (some t1)).bind fun t12=>(gd t9 true (a0y tab ty9 t12)).bind fun t13=>(gd t9 true (a0w tab ty9 false true false [t11,t13])).bind fun t14=>(gd t9 true (some t1)).bind fun t15=>(gd t9 true (a0l tab .eql ty9 t14 t15)).bind fun t16=>(a0T t9 t16 (.bool false)).bind fun t17=>some (a0i [t17],h)
theorem c6b (t0 t1:D) (h:Hp):R b4M [t0,t1] h=c2n t0 t1 h :=
 er i47 (by kernel_rfl) (by kernel_rfl)
noncomputable def c1J (t0:D) (h:Hp):Option (D × Hp) :=
 (some ((.ptr h.length 0 0:D),a0J h a0P 11 [[.str [],.int .i64 0,.int .i64 0,.int .i64 0,.int .i64 0,.nils,.int .i64 0,.int .i64 0,.str [],.str [],.nils]])).bind fun p2=>(a0y tab a0G t0).bind fun t9=>(a0l tab .lss ty3 t9 (.int .i64 4)).bind fun t10=>dIf t10
  ((a0D tab a0P [] []).bind fun t11=>((a0q tab p2.2 a0P p2.1 t11).bind fun h'=>some ((.und:D),h')).bind fun p901=>(a0d tab p901.2 a0P p2.1).bind fun d0=>scope h p901.2 (a0i [d0,.int .i64 0,.int .i64 14]))
  ((a0w tab a0G false true false [t0,.int .i64 4]).bind fun t13=>(R a5L [t13] p2.2).bind fun p14=>(a1O tab a1F ty3 p14.1).bind fun t15=>(a0l tab .lss ty3 t15 (.int .i64 4)).bind fun t17=>(gd t17 false (some t15)).bind fun t19=>(gd t17 false (some t0)).bind fun t20=>(gd t17 false (a0y tab a0G t20)).bind fun t21=>(gd t17 false (a0l tab .sub ty3 t21 (.int .i64 4))).bind fun t22=>(gd t17 false (a0l tab .gtr ty3 t19 t22)).bind fun t23=>(a0T t17 (.bool true) t23).bind fun t24=>dIf t24
  ((a0D tab a0P [] []).bind fun t25=>((a0q tab p14.2 a0P p2.1 t25).bind fun h'=>some ((.und:D),h')).bind fun p901_1=>(a0d tab p901_1.2 a0P p2.1).bind fun d0=>scope h p901_1.2 (a0i [d0,.int .i64 0,.int .i64 14]))
  ((a0w tab a0G false true false [t0,t15]).bind fun t28=>(R b1F [t28] p14.2).bind fun p29=>(a0l tab .add ty3 t15 (.int .i64 4)).bind fun t33=>(a0w tab a0G true true false [t0,t15,t33]).bind fun t34=>(R a5L [t34] p29.2).bind fun p35=>(a0l tab .neq a1F p29.1 p35.1).bind fun t36=>dIf t36
  ((a0D tab a0P [] []).bind fun t37=>((a0q tab p35.2 a0P p2.1 t37).bind fun h'=>some ((.und:D),h')).bind fun p901_2=>(a0d tab p901_2.2 a0P p2.1).bind fun d0=>scope h p901_2.2 (a0i [d0,.int .i64 0,.int .i64 15]))
  ((some ((.ptr p35.2.length 0 0:D),a0J p35.2 a0P 11 [[.str [],.int .i64 0,.int .i64 0,.int .i64 0,.int .i64 0,.nils,.int .i64 0,.int .i64 0,.str [],.str [],.nils]])).bind fun p6=>(a0w tab a0G true true false [t0,.int .i64 4,t15]).bind fun t40=>(a0D tab a1q [0] [t40]).bind fun t41=>(b8Z a1q 2 p6.2 t41).bind fun p42=>(some (.iface a3u p42.1:D)).bind fun t44=>(R a9g [t44,p6.1] p42.2).bind fun p45=>(a0e tab p42.1).bind fun t47=>(a0a tab a1q 1 t47).bind fun t48=>(a0d tab p45.2 ty4 t48).bind fun t49=>(gd t49 false (some p42.1)).bind fun t51=>(gd t49 false (a0e tab t51)).bind fun t52=>(gd t49 false (a0a tab a1q 0 t52)).bind fun t53=>(gd t49 false (a0d tab p45.2 a0G t53)).bind fun t54=>(gd t49 false (a0y tab a0G t54)).bind fun t55=>(gd t49 false (a0l tab .gtr ty3 t55 (.int .i64 0))).bind fun t56=>(a0T t49 (.bool true) t56).bind fun t57=>(gd t57 false (a0d tab p45.2 a0P p6.1)).bind fun t59=>(gdW t57 false p45.2 (a3K R a4w [t59] p45.2)).bind fun p60=>(gd t57 false (a0l tab .neq b0J p60.1 (.int .i64 0))).bind fun t61=>(a0T t57 (.bool true) t61).bind fun t62=>dIf t62
  ((a0D tab a0P [] []).bind fun t63=>((a0q tab p60.2 a0P p2.1 t63).bind fun h'=>some ((.und:D),h')).bind fun p901_3=>(a0d tab p901_3.2 a0P p2.1).bind fun d0=>scope h p901_3.2 (a0i [d0,.int .i64 0,.int .i64 1]))
  ((a0d tab p60.2 a0P p6.1).bind fun t64=>(a0l tab .add ty3 (.int .i64 4) t15).bind fun t66=>((a0q tab p60.2 a0P p2.1 t64).bind fun h'=>some ((.und:D),h')).bind fun p903=>(a0d tab p903.2 a0P p2.1).bind fun d0=>scope h p903.2 (a0i [d0,t66,.int .i64 0])))))
theorem c5x (t0:D) (h:Hp):R a9f [t0] h=c1J t0 h :=
 er i48 (by kernel_rfl) (by kernel_rfl)
noncomputable def F67 (t0:D) (h:Hp):Option (D × Hp) :=
 (R a5B [t0,.int .i64 8] h).bind fun p4=>(a0l tab .eql ty3 p4.1 (.int .i64 0)).bind fun t6=>dIf t6
  ((a0H tab a2M 3 [0,1,2] [.str [49],.str [50],.str [57]]).bind fun t8=>(R a5U [t0,t8] p4.2).bind fun p9=>(a0l tab .add ty9 (.str [50,48,50,54,45,48]) p9.1).bind fun t10=>(a0l tab .add ty9 t10 (.str [45,49])).bind fun t11=>(a0H tab a2M 2 [0,1] [.str [48],.str [53]]).bind fun t13=>(R a5U [t0,t13] p9.2).bind fun p14=>(a0l tab .add ty9 t11 p14.1).bind fun t15=>(a0l tab .add ty9 t15 (.str [84,49,48,58,48,48,58,48])).bind fun t16=>(a0H tab a2M 2 [0,1] [.str [49],.str [50]]).bind fun t18=>(R a5U [t0,t18] p14.2).bind fun p19=>(a0l tab .add ty9 t16 p19.1).bind fun t20=>(a0l tab .add ty9 t20 (.str [90,32,108,101,118,101,108,61])).bind fun t21=>(a0H tab a2M 2 [0,1] [.str [105,110,102,111],.str [119,97,114,110]]).bind fun t23=>(R a5U [t0,t23] p19.2).bind fun p24=>(a0l tab .add ty9 t21 p24.1).bind fun t25=>(a0l tab .add ty9 t25 (.str [32,105,100,61])).bind fun t26=>(a0H tab a2M 3 [0,1,2] [.str [55],.str [116,49],.str [116,50]]).bind fun t28=>(R a5U [t0,t28] p24.2).bind fun p29=>(a0l tab .add ty9 t26 p29.1).bind fun t30=>some (a0i [t30],p29.2))
  ((a0l tab .eql ty3 p4.1 (.int .i64 1)).bind fun t32=>dIf t32
  ((a0H tab a2M 3 [0,1,2] [.str [105,110,102,111],.str [119,97,114,110],.str [100,101,98,117,103]]).bind fun t34=>(R a5U [t0,t34] p4.2).bind fun p35=>(a0l tab .add ty9 (.str [108,101,118,101,108,61]) p35.1).bind fun t36=>(a0l tab .add ty9 t36 (.str [32,117,115,101,114,61])).bind fun t37=>(a0H tab a2M 2 [0,1] [.str [97,110,110],.str [98,111,98]]).bind fun t39=>(R a5U [t0,t39] p35.2).bind fun p40=>(a0l tab .add ty9 t37 p40.1).bind fun t41=>(a0l tab .add ty9 t41 (.str [32,105,112,61])).bind fun t42=>(a0H tab a2M 3 [0,1,2] [.str [49,48,46,50],.str [49,48,46,51],.str [55,46,55]]).bind fun t44=>(R a5U [t0,t44] p40.2).bind fun p45=>(a0l tab .add ty9 t42 p45.1).bind fun t46=>some (a0i [t46],p45.2))
  ((a0l tab .eql ty3 p4.1 (.int .i64 2)).bind fun t48=>dIf t48
  ((a0H tab a2M 2 [0,1] [.str [102],.str [103]]).bind fun t50=>(R a5U [t0,t50] p4.2).bind fun p51=>(a0l tab .add ty9 (.str [32,32,97,116,32]) p51.1).bind fun t52=>(a0H tab a2M 2 [0,1] [.str [40,49,41],.str [40,50,50,41]]).bind fun t54=>(R a5U [t0,t54] p51.2).bind fun p55=>(a0l tab .add ty9 t52 p55.1).bind fun t56=>some (a0i [t56],p55.2))
  ((a0l tab .eql ty3 p4.1 (.int .i64 3)).bind fun t58=>dIf t58
  ((a0H tab a2M 3 [0,1,2] [.str [97,110,110],.str [98,111,98],.str [101,118,101]]).bind fun t60=>(R a5U [t0,t60] p4.2).bind fun p61=>(a0l tab .add ty9 (.str [117,115,101,114,32]) p61.1).bind fun t62=>(a0l tab .add ty9 t62 (.str [32,108,111,103,103,101,100,32])).bind fun t63=>(a0H tab a2M 2 [0,1] [.str [105,110],.str [111,117,116]]).bind fun t65=>(R a5U [t0,t65] p61.2).bind fun p66=>(a0l tab .add ty9 t63 p66.1).bind fun t67=>some (a0i [t67],p66.2))
  ((a0l tab .eql ty3 p4.1 (.int .i64 4)).bind fun t69=>dIf t69
  ((a0H tab a2M 2 [0,1] [.str [105,110,102,111],.str [119,97,114,110]]).bind fun t71=>(R a5U [t0,t71] p4.2).bind fun p72=>(a0l tab .add ty9 (.str [123,34,108,101,118,101,108,34,58,32,34]) p72.1).bind fun t73=>(a0l tab .add ty9 t73 (.str [34,44,32,34,110,34,58,32])).bind fun t74=>(a0H tab a2M 3 [0,1,2] [.str [49],.str [45,50,48],.str [116,114,117,101]]).bind fun t76=>(R a5U [t0,t76] p72.2).bind fun p77=>(a0l tab .add ty9 t74 p77.1).bind fun t78=>(a0l tab .add ty9 t78 (.str [125])).bind fun t79=>some (a0i [t79],p77.2))
  ((a0l tab .eql ty3 p4.1 (.int .i64 5)).bind fun t81=>dIf t81
  ((a0H tab a2M 2 [0,1] [.str [49],.str [50]]).bind fun t83=>(R a5U [t0,t83] p4.2).bind fun p84=>(a0l tab .add ty9 (.str [74,97,110,32,49]) p84.1).bind fun t85=>(a0l tab .add ty9 t85 (.str [32,49,48,58,48,48,58,48])).bind fun t86=>(a0H tab a2M 2 [0,1] [.str [49],.str [50]]).bind fun t88=>(R a5U [t0,t88] p84.2).bind fun p89=>(a0l tab .add ty9 t86 p89.1).bind fun t90=>(a0l tab .add ty9 t90 (.str [32])).bind fun t91=>(a0H tab a2M 2 [0,1] [.str [111,107],.str [102,97,105,108,101,100]]).bind fun t93=>(R a5U [t0,t93] p89.2).bind fun p94=>(a0l tab .add ty9 t91 p94.1).bind fun t95=>some (a0i [t95],p94.2))
  ((R c4t [t0,.int .i64 6] p4.2).bind fun p97=>some (a0i [p97.1],p97.2)))))))
theorem e67 (t0:D) (h:Hp):R c4s [t0] h=F67 t0 h :=
 er i49 (by kernel_rfl) (by kernel_rfl)
noncomputable def c1w (t0 t1 t2:D) (h:Hp):Option (D × Hp) :=
 (a0l tab .leq ty3 t1 t0).bind fun t9=>(gd t9 true (some t0)).bind fun t11=>(gd t9 true (some t2)).bind fun t12=>(gd t9 true (a0l tab .leq ty3 t11 t12)).bind fun t13=>(a0T t9 t13 (.bool false)).bind fun t14=>some (a0i [t14],h)
theorem c5i (t0 t1 t2:D) (h:Hp):R a7r [t0,t1,t2] h=c1w t0 t1 t2 h :=
 er i50 (by kernel_rfl) (by kernel_rfl)
noncomputable def a7E (t10m t11:D) (ds:List D) (h_1:Hp):Option Out :=
 (a0l tab .lss ty3 (nth 3 ds) t11).bind fun t13=>dIf t13
  ((a0b tab a1m t10m (nth 3 ds)).bind fun t14=>(a0d tab h_1 a0t t14).bind fun t15=>(a5x 2 t15).bind fun t5=>(a0a tab a0t 0 t5).bind fun t16=>(a0d tab h_1 ty9 t16).bind fun t17=>(R b4y [t17] h_1).bind fun p18=>(dUn .not p18.1).bind fun t19=>dIf t19
  (some (.ret,[.nils,.int .i64 6,t5,nth 3 ds,t13,t19],p18.2))
  ((a0l tab .add ty3 (nth 3 ds) (.int .i64 1)).bind fun t20=>some (.nrm,[nth 0 ds,nth 1 ds,t5,t20,t13,t19],p18.2)))
  (some ((.ext 0),[nth 0 ds,nth 1 ds,nth 2 ds,nth 3 ds,t13,nth 5 ds],h_1))
noncomputable def a7F (t0m:D) (ds_1:List D) (h_2:Hp):Option Out :=
 (a0y tab a1m t0m).bind fun t27=>(a0l tab .lss ty3 (nth 2 ds_1) t27).bind fun t28=>dIf t28
  ((a0b tab a1m t0m (nth 2 ds_1)).bind fun t33=>(a0a tab a0t 0 t33).bind fun t34=>(a0d tab h_2 ty9 t34).bind fun t35=>(a0l tab .sub ty3 (nth 2 ds_1) (.int .i64 1)).bind fun t38=>(a0b tab a1m t0m t38).bind fun t39=>(a0a tab a0t 0 t39).bind fun t40=>(a0d tab h_2 ty9 t40).bind fun t41=>(a0l tab .eql ty9 t35 t41).bind fun t42=>dIf t42
  (some (.ret,[.nils,.int .i64 7,nth 2 ds_1,t28,t42],h_2))
  ((a0l tab .add ty3 (nth 2 ds_1) (.int .i64 1)).bind fun t30=>some (.nrm,[nth 0 ds_1,nth 1 ds_1,t30,t28,t42],h_2)))
  (some ((.ext 2),[nth 0 ds_1,nth 1 ds_1,nth 2 ds_1,t28,nth 4 ds_1],h_2))
noncomputable def b9e (t0:D) (h:Hp):Option (D × Hp) :=
 (a0y tab a1m t0).bind fun t8=>(a0l tab .gtr ty3 t8 (.int .i64 32)).bind fun t9=>dIf t9
  (some (a0i [.nils,.int .i64 4],h))
  ((a0y tab a1m t0).bind fun t11=>((a0K (a7E t0 t11) [.nils,.int .i64 0,.any,.int .i64 0,.any,.any] h).bind fun r=>some ((a0Q 0 r.1),[nth 0 r.2.1,nth 1 r.2.1,nth 2 r.2.1,nth 3 r.2.1,nth 4 r.2.1,nth 5 r.2.1],r.2.2)).bind fun r_1=>a0R r_1.1 ((R b4u [t0] r_1.2.2).bind fun p22=>(R a9d [p22.1,.fn (.func a6F) [] []] p22.2).bind fun p24=>((a0K (a7F p22.1) [nth 0 r_1.2.1,nth 1 r_1.2.1,.int .i64 1,.any,.any] p24.2).bind fun r_2=>some ((a0Q 2 r_2.1),[nth 0 r_2.2.1,nth 1 r_2.2.1,nth 2 r_2.2.1,nth 3 r_2.2.1,nth 4 r_2.2.1],r_2.2.2)).bind fun r_3=>a0R r_3.1 (some (a0i [p22.1,.int .i64 0],r_3.2.2)) fun x_1=>a1b x_1 (some (a0i [nth 0 r_3.2.1,nth 1 r_3.2.1],r_3.2.2))) fun x=>a1b x (some (a0i [nth 0 r_1.2.1,nth 1 r_1.2.1],r_1.2.2)))
theorem c5j (t0:D) (h:Hp):R a9b [t0] h=b9e t0 h :=
 er i51 (by kernel_rfl) (by kernel_rfl)
noncomputable def b0N (t0 t1 t12:D) (ds:List D) (h_1:Hp):Option Out :=
 (a0l tab .lss ty3 (nth 2 ds) t12).bind fun t14=>dIf t14
  ((a0b tab a1m t0 (nth 2 ds)).bind fun t18=>(a0d tab h_1 a0t t18).bind fun t19=>(a0b tab a1m t1 (nth 2 ds)).bind fun t22=>(a0d tab h_1 a0t t22).bind fun t23=>(a0l tab .neq a0t t19 t23).bind fun t24=>dIf t24
  (some (.ret,[.bool false,nth 2 ds,nth 2 ds,t14,t24],h_1))
  ((a0l tab .add ty3 (nth 2 ds) (.int .i64 1)).bind fun t25=>some (.nrm,[nth 0 ds,nth 2 ds,t25,t14,t24],h_1)))
  (some ((.ext 0),[nth 0 ds,nth 1 ds,nth 2 ds,t14,nth 4 ds],h_1))
noncomputable def c1x (t0 t1:D) (h:Hp):Option (D × Hp) :=
 (a0y tab a1m t0).bind fun t7=>(a0y tab a1m t1).bind fun t9=>(a0l tab .neq ty3 t7 t9).bind fun t10=>dIf t10
  (some (a0i [.bool false],h))
  ((a0y tab a1m t0).bind fun t12=>((a0K (b0N t0 t1 t12) [.bool false,.any,.int .i64 0,.any,.any] h).bind fun r=>some ((a0Q 0 r.1),[nth 0 r.2.1,nth 1 r.2.1,nth 2 r.2.1,nth 3 r.2.1,nth 4 r.2.1],r.2.2)).bind fun r_1=>a0R r_1.1 (some (a0i [.bool true],r_1.2.2)) fun x=>a1b x (some (a0i [nth 0 r_1.2.1],r_1.2.2)))
theorem c5k (t0 t1:D) (h:Hp):R b4w [t0,t1] h=c1x t0 t1 h :=
 er i52 (by kernel_rfl) (by kernel_rfl)
noncomputable def c1y (t0 t1:D) (h:Hp):Option (D × Hp) :=
 (R b4A [t0,t1] h).bind fun p7=>(a0l tab .geq ty3 p7.1 (.int .i64 0)).bind fun t8=>some (a0i [t8],p7.2)
theorem c5l (t0 t1:D) (h:Hp):R b4x [t0,t1] h=c1y t0 t1 h :=
 er i53 (by kernel_rfl) (by kernel_rfl)
noncomputable def c1z (t0:D) (h:Hp):Option (D × Hp) :=
 (a3k t0).bind fun t1=>(a0a tab a0t 1 t1).bind fun t3=>(a0d tab h ty9 t3).bind fun t4=>(a0y tab ty9 t4).bind fun t5=>(a0l tab .gtr ty3 t5 (.int .i64 2000)).bind fun t6=>some (a0i [t6],h)
theorem c5m (t0:D) (h:Hp):R a9c [t0] h=c1z t0 h :=
 er i54 (by kernel_rfl) (by kernel_rfl)
noncomputable def a4N (t0 t1 t7:D) (ds:List D) (h_1:Hp):Option Out :=
 (a0l tab .lss ty3 (nth 2 ds) t7).bind fun t9=>dIf t9
  ((a0b tab a1P t0 (nth 2 ds)).bind fun t14=>(a0d tab h_1 a1z t14).bind fun t15=>(a3G R t1 [t15] h_1).bind fun p16=>dIf p16.1
  (some (.ret,[nth 2 ds,nth 2 ds,nth 2 ds,t9,p16.1],p16.2))
  ((a0l tab .add ty3 (nth 2 ds) (.int .i64 1)).bind fun t18=>some (.nrm,[nth 0 ds,nth 2 ds,t18,t9,p16.1],p16.2)))
  (some ((.ext 0),[nth 0 ds,nth 1 ds,nth 2 ds,t9,nth 4 ds],h_1))
noncomputable def c1o (t0 t1:D) (h:Hp):Option (D × Hp) :=
 (a0y tab a1P t0).bind fun t7=>((a0K (a4N t0 t1 t7) [.int .i64 0,.any,.int .i64 0,.any,.any] h).bind fun r=>some ((a0Q 0 r.1),[nth 0 r.2.1,nth 1 r.2.1,nth 2 r.2.1,nth 3 r.2.1,nth 4 r.2.1],r.2.2)).bind fun r_1=>a0R r_1.1 (some (a0i [.int .i64 (-1)],r_1.2.2)) fun x=>a1b x (some (a0i [nth 0 r_1.2.1],r_1.2.2))
theorem c4Z (t0 t1:D) (h:Hp):R b4t [t0,t1] h=c1o t0 t1 h :=
 er i55 (by kernel_rfl) (by kernel_rfl)
noncomputable def b0S (t6m t7:D) (ds:List D) (h_1:Hp):Option Out :=
 (a0l tab .lss ty3 (nth 2 ds) t7).bind fun t9=>dIf t9
  ((a0b tab a0G t6m (nth 2 ds)).bind fun t10=>(a0d tab h_1 ty5 t10).bind fun t11=>(a0l tab .shl a1F (nth 0 ds) (.int .u64 8)).bind fun t13=>(a1O tab ty5 a1F t11).bind fun t15=>(a0l tab .or a1F t13 t15).bind fun t16=>(a0l tab .add ty3 (nth 2 ds) (.int .i64 1)).bind fun t17=>some (.nrm,[t16,t11,t17,t9],h_1))
  (some ((.ext 0),[nth 0 ds,nth 1 ds,nth 2 ds,t9],h_1))
noncomputable def c1M (t0:D) (h:Hp):Option (D × Hp) :=
 (a0y tab a0G t0).bind fun t7=>((a0K (b0S t0 t7) [.int .u64 0,.any,.int .i64 0,.any] h).bind fun r=>some ((a0Q 0 r.1),[nth 0 r.2.1,nth 1 r.2.1,nth 2 r.2.1,nth 3 r.2.1],r.2.2)).bind fun r_1=>a0R r_1.1 (some (a0i [nth 0 r_1.2.1],r_1.2.2)) fun x=>a1b x (some (a0i [.int .u64 0],r_1.2.2))
theorem c5A (t0:D) (h:Hp):R a5L [t0] h=c1M t0 h :=
 er i56 (by kernel_rfl) (by kernel_rfl)
noncomputable def b7Z (t0:D) (ds:List D) (h_1:Hp):Option Out :=
 (a0l tab .gtr ty3 (nth 1 ds) (.int .i64 0)).bind fun t12=>dIf t12
  ((a0H tab a2M 18 [0,1,2,3,4,5,6,7,8,9,10,11,12,13,14,15,16,17] [.str [97],.str [98],.str [32],.str [49],.str [117,115,101,114],.str [61],.str [34],.str [55],.str [46],.str [44],.str [120,32,121],.str [49,48,46,50],.str [45],.str [195,169],.str [91],.str [105,100],.str [9],.str [58]]).bind fun t17=>(R a5U [t0,t17] h_1).bind fun p18=>(a0l tab .add ty9 (nth 0 ds) p18.1).bind fun t19=>(a0l tab .sub ty3 (nth 1 ds) (.int .i64 1)).bind fun t14=>some (.nrm,[t19,t14,t12],p18.2))
  (some ((.ext 0),[nth 0 ds,nth 1 ds,t12],h_1))
noncomputable def F83 (t0 t1:D) (h:Hp):Option (D × Hp) :=
 (a0l tab .add ty3 t1 (.int .i64 1)).bind fun t9=>(R a5B [t0,t9] h).bind fun p10=>((a0K (b7Z t0) [.str [],p10.1,.any] p10.2).bind fun r=>some ((a0Q 0 r.1),[nth 0 r.2.1,nth 1 r.2.1,nth 2 r.2.1],r.2.2)).bind fun r_1=>a0R r_1.1 (some (a0i [nth 0 r_1.2.1],r_1.2.2)) fun x=>a1b x (some (a0i [.str []],r_1.2.2))
theorem e83 (t0 t1:D) (h:Hp):R c4t [t0,t1] h=F83 t0 t1 h :=
 er i57 (by kernel_rfl) (by kernel_rfl)
noncomputable def a4f (p24:D × Hp) (t25:D) (ds:List D) (h_1:Hp):Option Out :=
 (a0l tab .lss ty3 (nth 2 ds) t25).bind fun t27=>dIf t27
  ((a0b tab a0G p24.1 (nth 2 ds)).bind fun t28=>(a0d tab h_1 ty5 t28).bind fun t29=>(R b4C [t29] h_1).bind fun p31=>(dUn .not p31.1).bind fun t32=>(gd t32 true (some t29)).bind fun t34=>(gd t32 true (a0l tab .neq ty5 t34 (.int .u8 46))).bind fun t35=>(a0T t32 t35 (.bool false)).bind fun t36=>dIf t36
  (some (.ret,[.bool false,t29,nth 2 ds,t27,t36],p31.2))
  ((a0l tab .add ty3 (nth 2 ds) (.int .i64 1)).bind fun t37=>some (.nrm,[nth 0 ds,t29,t37,t27,t36],p31.2)))
  (some ((.ext 0),[nth 0 ds,nth 1 ds,nth 2 ds,t27,nth 4 ds],h_1))
noncomputable def b2r (t0:D) (h:Hp):Option (D × Hp) :=
 (a0l tab .eql ty9 t0 (.str [])).bind fun t6=>(gd t6 false (some t0)).bind fun t8=>(gd t6 false (a0y tab ty9 t8)).bind fun t9=>(gd t6 false (a0l tab .gtr ty3 t9 (.int .i64 32))).bind fun t10=>(a0T t6 (.bool true) t10).bind fun t11=>(gd t11 false (some t0)).bind fun t13=>(gd t11 false (a6z tab ty9 t13 (.int .i64 0))).bind fun t14=>(gdW t11 false h (R b4B [t14] h)).bind fun p15=>(gd t11 false (dUn .not p15.1)).bind fun t16=>(gd t11 false (some t16)).bind fun t17=>(gd t17 true (some t0)).bind fun t18=>(gd t17 true (a6z tab ty9 t18 (.int .i64 0))).bind fun t19=>(gd t17 true (a0l tab .neq ty5 t19 (.int .u8 95))).bind fun t20=>(gd t11 false (a0T t17 t20 (.bool false))).bind fun t21=>(a0T t11 (.bool true) t21).bind fun t22=>dIf t22
  (scope h p15.2 (a0i [.bool false]))
  ((b9a ty5 p15.2 t0).bind fun p24=>(a0y tab a0G p24.1).bind fun t25=>((a0K (a4f p24 t25) [.bool false,.any,.int .i64 0,.any,.any] p24.2).bind fun r=>some ((a0Q 0 r.1),[nth 0 r.2.1,nth 1 r.2.1,nth 2 r.2.1,nth 3 r.2.1,nth 4 r.2.1],r.2.2)).bind fun r_1=>a0R r_1.1 (scope h r_1.2.2 (a0i [.bool true])) fun x=>a1b x (scope h r_1.2.2 (a0i [nth 0 r_1.2.1])))
theorem c5n (t0:D) (h:Hp):R b4y [t0] h=b2r t0 h :=
 er i58 (by kernel_rfl) (by kernel_rfl)
noncomputable def b9d (t0:D) (h:Hp):Option (D × Hp) :=
 (a0l tab .eql a1m t0 (.nils)).bind fun t4=>dIf t4
  (some (a0i [.nils],h))
  ((a0H tab a1m 0 [] []).bind fun t5=>(a0A tab h a1m a1m t5 t0).bind fun p7=>some (a0i [p7.1],p7.2))
theorem c5a (t0:D) (h:Hp):R b4u [t0] h=b9d t0 h :=
 er i59 (by kernel_rfl) (by kernel_rfl)
noncomputable def b9f (t0 t1:D) (h:Hp):Option (D × Hp) :=
 (a0y tab a1m t0).bind fun t6=>(R b1D [t0,t6,t1] h).bind fun p8=>some (a0i [],p8.2)
theorem c2J (t0 t1:D) (h:Hp):R a9d [t0,t1] h=b9f t0 t1 h :=
 er i60 (by kernel_rfl) (by kernel_rfl)
noncomputable def c1A (t0 t1:D) (h:Hp):Option (D × Hp) :=
 (a3k t0).bind fun t2=>(a3k t1).bind fun t3=>(a0a tab a0t 0 t2).bind fun t5=>(a0d tab h ty9 t5).bind fun t6=>(a0a tab a0t 0 t3).bind fun t7=>(a0d tab h ty9 t7).bind fun t8=>(R b4z [t6,t8] h).bind fun p9=>some (a0i [p9.1],p9.2)
theorem c5o (t0 t1:D) (h:Hp):R a6F [t0,t1] h=c1A t0 t1 h :=
 er i61 (by kernel_rfl) (by kernel_rfl)
noncomputable def c1B (t0 t1:D) (h:Hp):Option (D × Hp) :=
 (R b8q [t0,t1] h).bind fun p7=>some (a0i [p7.1],p7.2)
theorem c5p (t0 t1:D) (h:Hp):R b4z [t0,t1] h=c1B t0 t1 h :=
 er i62 (by kernel_rfl) (by kernel_rfl)
noncomputable def a4O (t0 t1 t7:D) (ds:List D) (h_1:Hp):Option Out :=
 (a0l tab .lss ty3 (nth 2 ds) t7).bind fun t9=>dIf t9
  ((a0b tab a1m t0 (nth 2 ds)).bind fun t14=>(a0d tab h_1 a0t t14).bind fun t15=>(a3G R t1 [t15] h_1).bind fun p16=>dIf p16.1
  (some (.ret,[nth 2 ds,nth 2 ds,nth 2 ds,t9,p16.1],p16.2))
  ((a0l tab .add ty3 (nth 2 ds) (.int .i64 1)).bind fun t18=>some (.nrm,[nth 0 ds,nth 2 ds,t18,t9,p16.1],p16.2)))
  (some ((.ext 0),[nth 0 ds,nth 1 ds,nth 2 ds,t9,nth 4 ds],h_1))
noncomputable def c1C (t0 t1:D) (h:Hp):Option (D × Hp) :=
 (a0y tab a1m t0).bind fun t7=>((a0K (a4O t0 t1 t7) [.int .i64 0,.any,.int .i64 0,.any,.any] h).bind fun r=>some ((a0Q 0 r.1),[nth 0 r.2.1,nth 1 r.2.1,nth 2 r.2.1,nth 3 r.2.1,nth 4 r.2.1],r.2.2)).bind fun r_1=>a0R r_1.1 (some (a0i [.int .i64 (-1)],r_1.2.2)) fun x=>a1b x (some (a0i [nth 0 r_1.2.1],r_1.2.2))
theorem c5q (t0 t1:D) (h:Hp):R b4A [t0,t1] h=c1C t0 t1 h :=
 er i63 (by kernel_rfl) (by kernel_rfl)
noncomputable def c1D (t0:D) (h:Hp):Option (D × Hp) :=
 (a0b tab b2q (.fptr kin) t0).bind fun t4=>(a0d tab h ty5 t4).bind fun t5=>(a0l tab .and ty5 t5 (.int .u8 2)).bind fun t6=>(a0l tab .neq ty5 t6 (.int .u8 0)).bind fun t7=>some (a0i [t7],h)
theorem c5r (t0:D) (h:Hp):R b4B [t0] h=c1D t0 h :=
 er i64 (by kernel_rfl) (by kernel_rfl)
noncomputable def c1E (t0:D) (h:Hp):Option (D × Hp) :=
 (a0b tab b2q (.fptr kin) t0).bind fun t4=>(a0d tab h ty5 t4).bind fun t5=>(a0l tab .and ty5 t5 (.int .u8 3)).bind fun t6=>(a0l tab .neq ty5 t6 (.int .u8 0)).bind fun t7=>(gd t7 false (some t0)).bind fun t9=>(gd t7 false (a0l tab .eql ty5 t9 (.int .u8 95))).bind fun t10=>(a0T t7 (.bool true) t10).bind fun t11=>some (a0i [t11],h)
theorem c5s (t0:D) (h:Hp):R b4C [t0] h=c1E t0 h :=
 er i65 (by kernel_rfl) (by kernel_rfl)
noncomputable def a7G (t0 t1 t2 t6m:D) (ds:List D) (h_1:Hp):Option Out :=
 (a0l tab .leq ty3 (nth 1 ds) t1).bind fun t13=>dIf t13
  ((R a6G [t0,nth 0 ds,nth 1 ds,t2] h_1).bind fun p18=>(a0l tab .add ty3 (nth 1 ds) t6m).bind fun t22=>some (.nrm,[nth 1 ds,t22,t13],p18.2))
  (some ((.ext 0),[nth 0 ds,nth 1 ds,t13],h_1))
noncomputable def b0O (t0 t1 t2:D) (ds_1:List D) (ds_2:List D) (h_3:Hp):Option Out :=
 (a0l tab .leq ty3 (nth 1 ds_2) t1).bind fun t35=>dIf t35
  ((a0l tab .add ty3 (nth 0 ds_2) (nth 0 ds_1)).bind fun t40=>(R a5K [t0,nth 0 ds_2,t40,nth 1 ds_2,t2] h_3).bind fun p43=>(a0l tab .mul ty3 (.int .i64 2) (nth 0 ds_1)).bind fun t47=>(a0l tab .add ty3 (nth 1 ds_2) t47).bind fun t48=>some (.nrm,[nth 1 ds_2,t48,t35],p43.2))
  (some ((.ext 4),[nth 0 ds_2,nth 1 ds_2,t35],h_3))
noncomputable def a7H (t0 t1 t2:D) (ds_1:List D) (h_2:Hp):Option Out :=
 (a0l tab .lss ty3 (nth 0 ds_1) t1).bind fun t30=>dIf t30
  ((a0l tab .mul ty3 (.int .i64 2) (nth 0 ds_1)).bind fun t32=>((a0K (b0O t0 t1 t2 ds_1) [.int .i64 0,t32,nth 5 ds_1] h_2).bind fun r_3=>some ((a0Q 4 r_3.1),[nth 0 r_3.2.1,nth 1 r_3.2.1,nth 2 r_3.2.1],r_3.2.2)).bind fun r_4=>a0R r_4.1 ((a0l tab .add ty3 (nth 0 r_4.2.1) (nth 0 ds_1)).bind fun t51=>(a0l tab .lss ty3 t51 t1).bind fun t54=>(dIf t54
  ((R a5K [t0,nth 0 r_4.2.1,t51,t1,t2] r_4.2.2).bind fun p60=>some (.nrm,([]:List D),p60.2))
  (some (.nrm,([]:List D),r_4.2.2))).bind fun r_5=>a0R r_5.1 ((a0l tab .mul ty3 (nth 0 ds_1) (.int .i64 2)).bind fun t62=>some (.nrm,[t62,nth 0 r_4.2.1,nth 1 r_4.2.1,t51,t30,nth 2 r_4.2.1,t54],r_5.2.2)) fun x_2=>some ((a0Q 3 x_2),[nth 0 ds_1,nth 0 r_4.2.1,nth 1 r_4.2.1,t51,t30,nth 2 r_4.2.1,t54],r_5.2.2)) fun x_1=>some ((a0Q 3 x_1),[nth 0 ds_1,nth 0 r_4.2.1,nth 1 r_4.2.1,nth 3 ds_1,t30,nth 2 r_4.2.1,nth 6 ds_1],r_4.2.2))
  (some ((.ext 2),[nth 0 ds_1,nth 1 ds_1,nth 2 ds_1,nth 3 ds_1,t30,nth 5 ds_1,nth 6 ds_1],h_2))
noncomputable def b9g (t0 t1 t2:D) (h:Hp):Option (D × Hp) :=
 ((a0K (a7G t0 t1 t2 (.int .i64 20)) [.int .i64 0,.int .i64 20,.any] h).bind fun r=>some ((a0Q 0 r.1),[nth 0 r.2.1,nth 1 r.2.1,nth 2 r.2.1],r.2.2)).bind fun r_1=>a0R r_1.1 ((R a6G [t0,nth 0 r_1.2.1,t1,t2] r_1.2.2).bind fun p27=>((a0K (a7H t0 t1 t2) [.int .i64 20,nth 0 r_1.2.1,nth 1 r_1.2.1,.any,.any,.any,.any] p27.2).bind fun r_2=>some ((a0Q 2 r_2.1),[nth 0 r_2.2.1,nth 1 r_2.2.1,nth 2 r_2.2.1,nth 3 r_2.2.1,nth 4 r_2.2.1,nth 5 r_2.2.1,nth 6 r_2.2.1],r_2.2.2)).bind fun r_6=>a1b r_6.1 (some (a0i [],r_6.2.2))) fun x=>a1b x (some (a0i [],r_1.2.2))
theorem c2K (t0 t1 t2:D) (h:Hp):R b1D [t0,t1,t2] h=b9g t0 t1 t2 h :=
 er i66 (by kernel_rfl) (by kernel_rfl)
noncomputable def c1F (t0 t1:D) (h:Hp):Option (D × Hp) :=
 (R b4D [t0,t1] h).bind fun p7=>some (a0i [p7.1],p7.2)
theorem c5t (t0 t1:D) (h:Hp):R b8q [t0,t1] h=c1F t0 t1 h :=
 er i67 (by kernel_rfl) (by kernel_rfl)
noncomputable def a7J (t0 t1 t3:D) (ds_1:List D) (h_2:Hp):Option Out :=
 (a0l tab .gtr ty3 (nth 0 ds_1) t1).bind fun t20=>(gd t20 true (some t3)).bind fun t22=>(gd t20 true (some t0)).bind fun t23=>(gd t20 true (some (nth 0 ds_1))).bind fun t24=>(gd t20 true (a0b tab a1m t23 t24)).bind fun t25=>(gd t20 true (a0d tab h_2 a0t t25)).bind fun t26=>(gd t20 true (some t0)).bind fun t27=>(gd t20 true (some (nth 0 ds_1))).bind fun t28=>(gd t20 true (a0l tab .sub ty3 t28 (.int .i64 1))).bind fun t29=>(gd t20 true (a0b tab a1m t27 t29)).bind fun t30=>(gd t20 true (a0d tab h_2 a0t t30)).bind fun t31=>(gdW t20 true h_2 (a3G R t22 [t26,t31] h_2)).bind fun p32=>(gd t20 true (a0l tab .lss ty3 p32.1 (.int .i64 0))).bind fun t33=>(a0T t20 t33 (.bool false)).bind fun t34=>dIf t34
  ((a0l tab .sub ty3 (nth 0 ds_1) (.int .i64 1)).bind fun t41=>(a0l tab .sub ty3 (nth 0 ds_1) (.int .i64 1)).bind fun t44=>(a0b tab a1m t0 t44).bind fun t45=>(a0d tab p32.2 a0t t45).bind fun t46=>(a0b tab a1m t0 (nth 0 ds_1)).bind fun t49=>(a0d tab p32.2 a0t t49).bind fun t50=>(a0b tab a1m t0 (nth 0 ds_1)).bind fun t51=>((a0q tab p32.2 a0t t51 t46).bind fun h'=>some ((.und:D),h')).bind fun p915=>(a0b tab a1m t0 t41).bind fun t52=>((a0q tab p915.2 a0t t52 t50).bind fun h'=>some ((.und:D),h')).bind fun p917=>(a0l tab .sub ty3 (nth 0 ds_1) (.int .i64 1)).bind fun t36=>some (.nrm,[t36,t34],p917.2))
  (some ((.ext 2),[nth 0 ds_1,t34],p32.2))
noncomputable def a7I (t0 t1 t2 t3:D) (ds:List D) (h_1:Hp):Option Out :=
 (a0l tab .lss ty3 (nth 0 ds) t2).bind fun t14=>dIf t14
  (((a0K (a7J t0 t1 t3) [nth 0 ds,nth 3 ds] h_1).bind fun r_1=>some ((a0Q 2 r_1.1),[nth 0 r_1.2.1,nth 1 r_1.2.1],r_1.2.2)).bind fun r_2=>a0R (a0Q 1 r_2.1) ((a0l tab .add ty3 (nth 0 ds) (.int .i64 1)).bind fun t16=>some (.nrm,[t16,nth 0 r_2.2.1,t14,nth 1 r_2.2.1],r_2.2.2)) fun x=>some (x,[nth 0 ds,nth 0 r_2.2.1,t14,nth 1 r_2.2.1],r_2.2.2))
  (some ((.ext 0),[nth 0 ds,nth 1 ds,t14,nth 3 ds],h_1))
noncomputable def b9h (t0 t1 t2 t3:D) (h:Hp):Option (D × Hp) :=
 (a0l tab .add ty3 t1 (.int .i64 1)).bind fun t11=>((a0K (a7I t0 t1 t2 t3) [t11,.any,.any,.any] h).bind fun r=>some ((a0Q 0 r.1),[nth 0 r.2.1,nth 1 r.2.1,nth 2 r.2.1,nth 3 r.2.1],r.2.2)).bind fun r_3=>a1b r_3.1 (some (a0i [],r_3.2.2))
theorem c2L (t0 t1 t2 t3:D) (h:Hp):R a6G [t0,t1,t2,t3] h=b9h t0 t1 t2 t3 h :=
 er i68 (by kernel_rfl) (by kernel_rfl)
noncomputable def a5W (a0 a4 t22m:D) (ds:List D) (h_3:Hp):Option Out :=
 (a0l tab .lss ty3 (nth 0 ds) (nth 1 ds)).bind fun t151=>dIf t151
  ((a0l tab .add ty3 (nth 0 ds) (nth 1 ds)).bind fun t154=>(a1O tab ty3 a5s t154).bind fun t155=>(a0l tab .shr a5s t155 (.int .u64 1)).bind fun t156=>(a1O tab a5s ty3 t156).bind fun t157=>(a0l tab .sub ty3 t22m t157).bind fun t162=>(a0b tab a1m a0 t162).bind fun t163=>(a0d tab h_3 a0t t163).bind fun t164=>(a0b tab a1m a0 t157).bind fun t167=>(a0d tab h_3 a0t t167).bind fun t168=>(a3G R a4 [t164,t168] h_3).bind fun p169=>(a0l tab .lss ty3 p169.1 (.int .i64 0)).bind fun t170=>(dUn .not t170).bind fun t171=>(dIf t171
  ((a0l tab .add ty3 t157 (.int .i64 1)).bind fun t173=>some (.nrm,[t173,nth 1 ds],p169.2))
  (some (.nrm,[nth 0 ds,t157],p169.2))).bind fun r_2=>some ((a0Q 9 r_2.1),[nth 0 r_2.2.1,nth 1 r_2.2.1,t157,t151,t171],r_2.2.2))
  (some ((.ext 8),[nth 0 ds,nth 1 ds,nth 2 ds,t151,nth 4 ds],h_3))
noncomputable def a4Q (a0 a1 a2 a3 a4:D) (h_2:Hp):Option (D × Hp) :=
  (a0l tab .add ty3 a1 a3).bind fun t131=>(a1O tab ty3 a5s t131).bind fun t132=>(a0l tab .shr a5s t132 (.int .u64 1)).bind fun t133=>(a1O tab a5s ty3 t133).bind fun t134=>(a0l tab .add ty3 t134 a2).bind fun t137=>(a0l tab .gtr ty3 a2 t134).bind fun t140=>(dIf t140
   ((a0l tab .sub ty3 t137 a3).bind fun t143=>some (.nrm,[t143,t134],h_2))
   (some (.nrm,[a1,a2],h_2))).bind fun r=>a0R r.1 ((a0l tab .sub ty3 t137 (.int .i64 1)).bind fun t148=>((a0K (a5W a0 a4 t148) [nth 0 r.2.1,nth 1 r.2.1,.any,.any,.any] r.2.2).bind fun r_1=>some ((a0Q 8 r_1.1),[nth 0 r_1.2.1,nth 1 r_1.2.1,nth 2 r_1.2.1,nth 3 r_1.2.1,nth 4 r_1.2.1],r_1.2.2)).bind fun r_3=>a0R r_3.1 ((a0l tab .sub ty3 t137 (nth 0 r_3.2.1)).bind fun t177=>(a0l tab .lss ty3 (nth 0 r_3.2.1) a2).bind fun t180=>(gd t180 true (some a2)).bind fun t182=>(gd t180 true (some t177)).bind fun t183=>(gd t180 true (a0l tab .lss ty3 t182 t183)).bind fun t184=>(a0T t180 t184 (.bool false)).bind fun t185=>(dIf t185
   ((R b4E [a0,nth 0 r_3.2.1,a2,t177,a4] r_3.2.2).bind fun p191=>some (.nrm,([]:List D),p191.2))
   (some (.nrm,([]:List D),r_3.2.2))).bind fun r_4=>a0R r_4.1 ((a0l tab .lss ty3 a1 (nth 0 r_3.2.1)).bind fun t194=>(gd t194 true (some (nth 0 r_3.2.1))).bind fun t196=>(gd t194 true (some t134)).bind fun t197=>(gd t194 true (a0l tab .lss ty3 t196 t197)).bind fun t198=>(a0T t194 t198 (.bool false)).bind fun t199=>(dIf t199
   ((R a5K [a0,a1,nth 0 r_3.2.1,t134,a4] r_4.2.2).bind fun p205=>some (.nrm,([]:List D),p205.2))
   (some (.nrm,([]:List D),r_4.2.2))).bind fun r_5=>a0R r_5.1 ((a0l tab .lss ty3 t134 t177).bind fun t208=>(gd t208 true (some t177)).bind fun t210=>(gd t208 true (some a3)).bind fun t211=>(gd t208 true (a0l tab .lss ty3 t210 t211)).bind fun t212=>(a0T t208 t212 (.bool false)).bind fun t213=>(dIf t213
   ((R a5K [a0,t134,t177,a3,a4] r_5.2.2).bind fun p219=>some (.nrm,([]:List D),p219.2))
   (some (.nrm,([]:List D),r_5.2.2))).bind fun r_6=>a1b r_6.1 (some (a0i [],r_6.2.2))) fun x_3=>a1b x_3 (some (a0i [],r_5.2.2))) fun x_2=>a1b x_2 (some (a0i [],r_4.2.2))) fun x_1=>a1b x_1 (some (a0i [],r_3.2.2))) fun x=>a1b x (some (a0i [],r.2.2))
noncomputable def a7K (a0 a2 a4:D) (ds_1:List D) (h_4:Hp):Option Out :=
 (a0l tab .lss ty3 (nth 0 ds_1) (nth 1 ds_1)).bind fun t85=>dIf t85
  ((a0l tab .add ty3 (nth 0 ds_1) (nth 1 ds_1)).bind fun t88=>(a1O tab ty3 a5s t88).bind fun t89=>(a0l tab .shr a5s t89 (.int .u64 1)).bind fun t90=>(a1O tab a5s ty3 t90).bind fun t91=>(a0b tab a1m a0 a2).bind fun t95=>(a0d tab h_4 a0t t95).bind fun t96=>(a0b tab a1m a0 t91).bind fun t99=>(a0d tab h_4 a0t t99).bind fun t100=>(a3G R a4 [t96,t100] h_4).bind fun p101=>(a0l tab .lss ty3 p101.1 (.int .i64 0)).bind fun t102=>(dUn .not t102).bind fun t103=>(dIf t103
  ((a0l tab .add ty3 t91 (.int .i64 1)).bind fun t105=>some (.nrm,[t105,nth 1 ds_1],p101.2))
  (some (.nrm,[nth 0 ds_1,t91],p101.2))).bind fun r_8=>some ((a0Q 5 r_8.1),[nth 0 r_8.2.1,nth 1 r_8.2.1,t91,t85,t103],r_8.2.2))
  (some ((.ext 4),[nth 0 ds_1,nth 1 ds_1,nth 2 ds_1,t85,nth 4 ds_1],h_4))
noncomputable def a7L (a0:D) (r_9:Out) (ds_2:List D) (h_5:Hp):Option Out :=
 (a0l tab .gtr ty3 (nth 0 ds_2) (nth 0 r_9.2.1)).bind fun t110=>dIf t110
  ((a0l tab .sub ty3 (nth 0 ds_2) (.int .i64 1)).bind fun t117=>(a0l tab .sub ty3 (nth 0 ds_2) (.int .i64 1)).bind fun t120=>(a0b tab a1m a0 t120).bind fun t121=>(a0d tab h_5 a0t t121).bind fun t122=>(a0b tab a1m a0 (nth 0 ds_2)).bind fun t125=>(a0d tab h_5 a0t t125).bind fun t126=>(a0b tab a1m a0 (nth 0 ds_2)).bind fun t127=>((a0q tab h_5 a0t t127 t122).bind fun h'=>some ((.und:D),h')).bind fun p915=>(a0b tab a1m a0 t117).bind fun t128=>((a0q tab p915.2 a0t t128 t126).bind fun h'=>some ((.und:D),h')).bind fun p917=>(a0l tab .sub ty3 (nth 0 ds_2) (.int .i64 1)).bind fun t112=>some (.nrm,[t112,t110],p917.2))
  (some ((.ext 6),[nth 0 ds_2,t110],h_5))
noncomputable def a4P (a0 a1 a2 a3 a4:D) (h_1:Hp):Option (D × Hp) :=
  (a0l tab .sub ty3 a3 a2).bind fun t79=>(a0l tab .eql ty3 t79 (.int .i64 1)).bind fun t80=>dIf t80
   (((a0K (a7K a0 a2 a4) [a1,a2,.any,.any,.any] h_1).bind fun r_7=>some ((a0Q 4 r_7.1),[nth 0 r_7.2.1,nth 1 r_7.2.1,nth 2 r_7.2.1,nth 3 r_7.2.1,nth 4 r_7.2.1],r_7.2.2)).bind fun r_9=>a0R r_9.1 (((a0K (a7L a0 r_9) [a2,.any] r_9.2.2).bind fun r_10=>some ((a0Q 6 r_10.1),[nth 0 r_10.2.1,nth 1 r_10.2.1],r_10.2.2)).bind fun r_11=>a0R r_11.1 (some (a0i [],r_11.2.2)) fun x_5=>a0R x_5 (a4Q a0 a1 a2 a3 a4 r_11.2.2) fun x_6=>a1b x_6 (some (a0i [],r_11.2.2))) fun x_4=>a0R x_4 (a4Q a0 a1 a2 a3 a4 r_9.2.2) fun x_7=>a1b x_7 (some (a0i [],r_9.2.2)))
   (a4Q a0 a1 a2 a3 a4 h_1)
noncomputable def a7M (t0 t1 t4:D) (ds_3:List D) (h_6:Hp):Option Out :=
 (a0l tab .lss ty3 (nth 0 ds_3) (nth 1 ds_3)).bind fun t33=>dIf t33
  ((a0l tab .add ty3 (nth 0 ds_3) (nth 1 ds_3)).bind fun t36=>(a1O tab ty3 a5s t36).bind fun t37=>(a0l tab .shr a5s t37 (.int .u64 1)).bind fun t38=>(a1O tab a5s ty3 t38).bind fun t39=>(a0b tab a1m t0 t39).bind fun t43=>(a0d tab h_6 a0t t43).bind fun t44=>(a0b tab a1m t0 t1).bind fun t47=>(a0d tab h_6 a0t t47).bind fun t48=>(a3G R t4 [t44,t48] h_6).bind fun p49=>(a0l tab .lss ty3 p49.1 (.int .i64 0)).bind fun t50=>(dIf t50
  ((a0l tab .add ty3 t39 (.int .i64 1)).bind fun t52=>some (.nrm,[t52,nth 1 ds_3],p49.2))
  (some (.nrm,[nth 0 ds_3,t39],p49.2))).bind fun r_13=>some ((a0Q 1 r_13.1),[nth 0 r_13.2.1,nth 1 r_13.2.1,t39,t33,t50],r_13.2.2))
  (some ((.ext 0),[nth 0 ds_3,nth 1 ds_3,nth 2 ds_3,t33,nth 4 ds_3],h_6))
noncomputable def a7N (t0:D) (r_14:Out) (ds_4:List D) (h_7:Hp):Option Out :=
 (a0l tab .sub ty3 (nth 0 r_14.2.1) (.int .i64 1)).bind fun t57=>(a0l tab .lss ty3 (nth 0 ds_4) t57).bind fun t58=>dIf t58
  ((a0l tab .add ty3 (nth 0 ds_4) (.int .i64 1)).bind fun t65=>(a0l tab .add ty3 (nth 0 ds_4) (.int .i64 1)).bind fun t68=>(a0b tab a1m t0 t68).bind fun t69=>(a0d tab h_7 a0t t69).bind fun t70=>(a0b tab a1m t0 (nth 0 ds_4)).bind fun t73=>(a0d tab h_7 a0t t73).bind fun t74=>(a0b tab a1m t0 (nth 0 ds_4)).bind fun t75=>((a0q tab h_7 a0t t75 t70).bind fun h'=>some ((.und:D),h')).bind fun p915_1=>(a0b tab a1m t0 t65).bind fun t76=>((a0q tab p915_1.2 a0t t76 t74).bind fun h'=>some ((.und:D),h')).bind fun p917_1=>(a0l tab .add ty3 (nth 0 ds_4) (.int .i64 1)).bind fun t60=>some (.nrm,[t60,t58],p917_1.2))
  (some ((.ext 2),[nth 0 ds_4,t58],h_7))
noncomputable def b6u (t0 t1 t2 t3 t4:D) (h:Hp):Option (D × Hp) :=
 (a0l tab .sub ty3 t2 t1).bind fun t27=>(a0l tab .eql ty3 t27 (.int .i64 1)).bind fun t28=>dIf t28
  (((a0K (a7M t0 t1 t4) [t2,t3,.any,.any,.any] h).bind fun r_12=>some ((a0Q 0 r_12.1),[nth 0 r_12.2.1,nth 1 r_12.2.1,nth 2 r_12.2.1,nth 3 r_12.2.1,nth 4 r_12.2.1],r_12.2.2)).bind fun r_14=>a0R r_14.1 (((a0K (a7N t0 r_14) [t1,.any] r_14.2.2).bind fun r_15=>some ((a0Q 2 r_15.1),[nth 0 r_15.2.1,nth 1 r_15.2.1],r_15.2.2)).bind fun r_16=>a0R r_16.1 (some (a0i [],r_16.2.2)) fun x_9=>a0R x_9 (a4P t0 t1 t2 t3 t4 r_16.2.2) fun x_10=>a1b x_10 (some (a0i [],r_16.2.2))) fun x_8=>a0R x_8 (a4P t0 t1 t2 t3 t4 r_14.2.2) fun x_11=>a1b x_11 (some (a0i [],r_14.2.2)))
  (a4P t0 t1 t2 t3 t4 h)
theorem b9F (t0 t1 t2 t3 t4:D) (h:Hp):R a5K [t0,t1,t2,t3,t4] h=b6u t0 t1 t2 t3 t4 h :=
 er i69 (by kernel_rfl) (by kernel_rfl)
noncomputable def b0P (t0 t2 t4:D) (ds:List D) (h_1:Hp):Option Out :=
 (a0l tab .neq ty3 (nth 0 ds) (nth 1 ds)).bind fun t20=>dIf t20
  ((a0l tab .gtr ty3 (nth 0 ds) (nth 1 ds)).bind fun t23=>(dIf t23
  ((a0l tab .sub ty3 t2 (nth 0 ds)).bind fun t27=>(R a9e [t0,t27,t2,nth 1 ds,t4] h_1).bind fun p31=>(a0l tab .sub ty3 (nth 0 ds) (nth 1 ds)).bind fun t34=>some (.nrm,[t34,nth 1 ds],p31.2))
  ((a0l tab .sub ty3 t2 (nth 0 ds)).bind fun t38=>(a0l tab .add ty3 t2 (nth 1 ds)).bind fun t41=>(a0l tab .sub ty3 t41 (nth 0 ds)).bind fun t43=>(R a9e [t0,t38,t43,nth 0 ds,t4] h_1).bind fun p46=>(a0l tab .sub ty3 (nth 1 ds) (nth 0 ds)).bind fun t49=>some (.nrm,[nth 0 ds,t49],p46.2))).bind fun r_1=>some ((a0Q 1 r_1.1),[nth 0 r_1.2.1,nth 1 r_1.2.1,t20,t23],r_1.2.2))
  (some ((.ext 0),[nth 0 ds,nth 1 ds,t20,nth 3 ds],h_1))
noncomputable def c1G (t0 t1 t2 t3 t4:D) (h:Hp):Option (D × Hp) :=
 (a0l tab .sub ty3 t2 t1).bind fun t14=>(a0l tab .sub ty3 t3 t2).bind fun t17=>((a0K (b0P t0 t2 t4) [t14,t17,.any,.any] h).bind fun r=>some ((a0Q 0 r.1),[nth 0 r.2.1,nth 1 r.2.1,nth 2 r.2.1,nth 3 r.2.1],r.2.2)).bind fun r_2=>a0R r_2.1 ((a0l tab .sub ty3 t2 (nth 0 r_2.2.1)).bind fun t53=>(R a9e [t0,t53,t2,nth 0 r_2.2.1,t4] r_2.2.2).bind fun p57=>some (a0i [],p57.2)) fun x=>a1b x (some (a0i [],r_2.2.2))
theorem c5u (t0 t1 t2 t3 t4:D) (h:Hp):R b4E [t0,t1,t2,t3,t4] h=c1G t0 t1 t2 t3 t4 h :=
 er i71 (by kernel_rfl) (by kernel_rfl)
noncomputable def b0Q (t0 t1 t2 t3:D) (ds:List D) (h_1:Hp):Option Out :=
 (a0l tab .lss ty3 (nth 0 ds) t3).bind fun t13=>dIf t13
  ((a0l tab .add ty3 t1 (nth 0 ds)).bind fun t19=>(a0l tab .add ty3 t2 (nth 0 ds)).bind fun t23=>(a0l tab .add ty3 t2 (nth 0 ds)).bind fun t27=>(a0b tab a1m t0 t27).bind fun t28=>(a0d tab h_1 a0t t28).bind fun t29=>(a0l tab .add ty3 t1 (nth 0 ds)).bind fun t33=>(a0b tab a1m t0 t33).bind fun t34=>(a0d tab h_1 a0t t34).bind fun t35=>(a0b tab a1m t0 t19).bind fun t36=>((a0q tab h_1 a0t t36 t29).bind fun h'=>some ((.und:D),h')).bind fun p921=>(a0b tab a1m t0 t23).bind fun t37=>((a0q tab p921.2 a0t t37 t35).bind fun h'=>some ((.und:D),h')).bind fun p923=>(a0l tab .add ty3 (nth 0 ds) (.int .i64 1)).bind fun t15=>some (.nrm,[t15,t13],p923.2))
  (some ((.ext 0),[nth 0 ds,t13],h_1))
noncomputable def c1H (t0 t1 t2 t3 t4:D) (h:Hp):Option (D × Hp) :=
 ((a0K (b0Q t0 t1 t2 t3) [.int .i64 0,.any] h).bind fun r=>some ((a0Q 0 r.1),[nth 0 r.2.1,nth 1 r.2.1],r.2.2)).bind fun r_1=>a1b r_1.1 (some (a0i [],r_1.2.2))
theorem c5v (t0 t1 t2 t3 t4:D) (h:Hp):R a9e [t0,t1,t2,t3,t4] h=c1H t0 t1 t2 t3 t4 h :=
 er i72 (by kernel_rfl) (by kernel_rfl)
noncomputable def c1N (t0 t1:D) (h:Hp):Option (D × Hp) :=
 (a0e tab t0).bind fun t7=>(a0a tab a1T 0 t7).bind fun t8=>(a0d tab h a0G t8).bind fun t9=>(a1O tab ty3 a1F t1).bind fun t11=>(R a3E [t9,t11,.int .i64 4] h).bind fun p12=>(a0e tab t0).bind fun t13=>(a0a tab a1T 0 t13).bind fun t14=>((a0q tab p12.2 a0G t14 p12.1).bind fun h'=>some ((.und:D),h')).bind fun p910=>some (a0i [t1],p910.2)
theorem c5B (t0 t1:D) (h:Hp):R b4F [t0,t1] h=c1N t0 t1 h :=
 er i89 (by kernel_rfl) (by kernel_rfl)
noncomputable def c1O (t0 t1:D) (h:Hp):Option (D × Hp) :=
 (a0e tab t0).bind fun t6=>(a0a tab a1T 0 t6).bind fun t7=>(a0d tab h a0G t7).bind fun t8=>(a0e tab t1).bind fun t10=>(a0d tab h ty3 t10).bind fun t11=>(a1O tab ty3 a1F t11).bind fun t12=>(R a3E [t8,t12,.int .i64 8] h).bind fun p13=>(a0e tab t0).bind fun t14=>(a0a tab a1T 0 t14).bind fun t15=>((a0q tab p13.2 a0G t15 p13.1).bind fun h'=>some ((.und:D),h')).bind fun p912=>some (a0i [],p912.2)
theorem c5C (t0 t1:D) (h:Hp):R b4G [t0,t1] h=c1O t0 t1 h :=
 er i90 (by kernel_rfl) (by kernel_rfl)
noncomputable def c1P (t0 t1:D) (h:Hp):Option (D × Hp) :=
 (a0e tab t0).bind fun t6=>(a0a tab a1T 0 t6).bind fun t7=>(a0d tab h a0G t7).bind fun t8=>(a0e tab t1).bind fun t10=>(a0d tab h ty9 t10).bind fun t11=>(a0y tab ty9 t11).bind fun t12=>(a1O tab ty3 a1F t12).bind fun t13=>(R a3E [t8,t13,.int .i64 4] h).bind fun p14=>(a0e tab t1).bind fun t16=>(a0d tab p14.2 ty9 t16).bind fun t17=>(a0A tab p14.2 a0G ty9 p14.1 t17).bind fun p18=>(a0e tab t0).bind fun t19=>(a0a tab a1T 0 t19).bind fun t20=>((a0q tab p18.2 a0G t20 p18.1).bind fun h'=>some ((.und:D),h')).bind fun p917=>chk (a0d tab h ty9 t16=some t17)
 (some (a0i [],p917.2))
theorem c5D (t0 t1:D) (h:Hp):R b4H [t0,t1] h=c1P t0 t1 h :=
 er i91 (by kernel_rfl) (by kernel_rfl)
noncomputable def c1Q (t0 t1:D) (h:Hp):Option (D × Hp) :=
 (R a5f [t0,.int .i64 4] h).bind fun p7=>(R a5L [p7.1] p7.2).bind fun p8=>(a1O tab a1F ty3 p8.1).bind fun t9=>(a0e tab t0).bind fun t11=>(a0a tab a1q 1 t11).bind fun t12=>(a0d tab p8.2 ty4 t12).bind fun t13=>(gd t13 false (some t9)).bind fun t15=>(gd t13 false (some t0)).bind fun t16=>(gd t13 false (a0e tab t16)).bind fun t17=>(gd t13 false (a0a tab a1q 0 t17)).bind fun t18=>(gd t13 false (a0d tab p8.2 a0G t18)).bind fun t19=>(gd t13 false (a0y tab a0G t19)).bind fun t20=>(gd t13 false (a0l tab .quo ty3 t20 (.int .i64 8))).bind fun t21=>(gd t13 false (a0l tab .gtr ty3 t15 t21)).bind fun t22=>(a0T t13 (.bool true) t22).bind fun t23=>dIf t23
  ((a0e tab t0).bind fun t25=>(a0a tab a1q 1 t25).bind fun t26=>((a0q tab p8.2 ty4 t26 (.bool true)).bind fun h'=>some ((.und:D),h')).bind fun p903=>some (a0i [.int .i64 0],p903.2))
  (some (a0i [t9],p8.2))
theorem c5E (t0 t1:D) (h:Hp):R b1G [t0,t1] h=c1Q t0 t1 h :=
 er i92 (by kernel_rfl) (by kernel_rfl)
noncomputable def c1R (t0 t1:D) (h:Hp):Option (D × Hp) :=
 (R a5f [t0,.int .i64 8] h).bind fun p6=>(R a5L [p6.1] p6.2).bind fun p7=>(a1O tab a1F ty3 p7.1).bind fun t8=>(a0e tab t1).bind fun t9=>((a0q tab p7.2 ty3 t9 t8).bind fun h'=>some ((.und:D),h')).bind fun p906=>some (a0i [],p906.2)
theorem c5F (t0 t1:D) (h:Hp):R b1H [t0,t1] h=c1R t0 t1 h :=
 er i93 (by kernel_rfl) (by kernel_rfl)
noncomputable def c1S (t0 t1:D) (h:Hp):Option (D × Hp) :=
 (R a5f [t0,.int .i64 4] h).bind fun p7=>(R a5L [p7.1] p7.2).bind fun p8=>(a1O tab a1F ty3 p8.1).bind fun t9=>(R a5f [t0,t9] p8.2).bind fun p12=>(a0e tab t0).bind fun t14=>(a0a tab a1q 1 t14).bind fun t15=>(a0d tab p12.2 ty4 t15).bind fun t16=>(dUn .not t16).bind fun t17=>(dIf t17
  ((a7n p12.2 p12.1).bind fun t20=>(a0e tab t1).bind fun t21=>((a0q tab p12.2 ty9 t21 t20).bind fun h'=>some ((.und:D),h')).bind fun p904=>some (.nrm,([]:List D),p904.2))
  (some (.nrm,([]:List D),p12.2))).bind fun r=>a1b r.1 (some (a0i [],r.2.2))
theorem c5G (t0 t1:D) (h:Hp):R b1I [t0,t1] h=c1S t0 t1 h :=
 er i94 (by kernel_rfl) (by kernel_rfl)
noncomputable def c1T (t0 t1:D) (h:Hp):Option (D × Hp) :=
 (a0e tab t0).bind fun t7=>(a0a tab a1q 1 t7).bind fun t8=>(a0d tab h ty4 t8).bind fun t9=>(gd t9 false (some t1)).bind fun t11=>(gd t9 false (a0l tab .lss ty3 t11 (.int .i64 0))).bind fun t12=>(a0T t9 (.bool true) t12).bind fun t13=>(gd t13 false (some t1)).bind fun t15=>(gd t13 false (some t0)).bind fun t16=>(gd t13 false (a0e tab t16)).bind fun t17=>(gd t13 false (a0a tab a1q 0 t17)).bind fun t18=>(gd t13 false (a0d tab h a0G t18)).bind fun t19=>(gd t13 false (a0y tab a0G t19)).bind fun t20=>(gd t13 false (a0l tab .gtr ty3 t15 t20)).bind fun t21=>(a0T t13 (.bool true) t21).bind fun t22=>dIf t22
  ((a0e tab t0).bind fun t24=>(a0a tab a1q 1 t24).bind fun t25=>((a0q tab h ty4 t25 (.bool true)).bind fun h'=>some ((.und:D),h')).bind fun p903=>some (a0i [.nils],p903.2))
  ((a0e tab t0).bind fun t27=>(a0a tab a1q 0 t27).bind fun t28=>(a0d tab h a0G t28).bind fun t29=>(a0w tab a0G false true false [t29,t1]).bind fun t31=>(a0e tab t0).bind fun t34=>(a0a tab a1q 0 t34).bind fun t35=>(a0d tab h a0G t35).bind fun t36=>(a0w tab a0G true false false [t36,t1]).bind fun t38=>(a0e tab t0).bind fun t39=>(a0a tab a1q 0 t39).bind fun t40=>((a0q tab h a0G t40 t38).bind fun h'=>some ((.und:D),h')).bind fun p909=>some (a0i [t31],p909.2))
theorem c5H (t0 t1:D) (h:Hp):R a5f [t0,t1] h=c1T t0 t1 h :=
 er i95 (by kernel_rfl) (by kernel_rfl)
end Go.Proofs.YtjmndhbabkjebaaDoor
