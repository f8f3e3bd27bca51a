/- Functions as Lean functions on data. -/
import Derived.Test.YthaajlepgblimaaGreatDoorB1
set_option linter.unusedSimpArgs false
set_option linter.unusedVariables false
set_option linter.unnecessarySimpa false
set_option maxRecDepth 100000
namespace Go.Proofs.YthaajlepgblimaaGreatDoor
open Go.Eng Go.Pi
noncomputable def b3w (t3m:D) (p6:D × Hp) (ds:List D) (h_1:Hp):Option Out :=
 (a0t tab a1V t3m).bind fun t27=>(a0i tab .lss ty3 (nth 3 ds) t27).bind fun t28=>dIf t28
  (((a0c tab h_1 a0n p6.1).bind fun t32=>(a0b tab a1V t3m (nth 3 ds)).bind fun t35=>(a0c tab h_1 a0u t35).bind fun t36=>(R b4H [t32,t36] h_1).bind fun p37=>(a0w 0 p37.1).bind fun t38=>(a0w 1 p37.1).bind fun t39=>(a0w 2 p37.1).bind fun t40=>(some (.any:D)).bind fun t9=>((a0p tab (a0C p37.2 a0n 2 [[.nils,.nils]]) a0n (.ptr p37.2.length 0 0) t38).bind fun h'=>some ((.und:D),h')).bind fun p911=>(a0i tab .neq a5J t40 (.int .i64 0)).bind fun t42=>dIf t42
  (some (.nrm,[nth 0 ds,nth 1 ds,nth 2 ds,.ptr p37.2.length 0 0,t39,t40,nth 7 ds,nth 8 ds,t42,nth 11 ds],p911.2))
  ((a0b tab a1V t3m (nth 3 ds)).bind fun t47=>(a0c tab p911.2 a0u t47).bind fun t48=>(R b4G [nth 1 ds,t48] p911.2).bind fun p49=>(a0w 0 p49.1).bind fun t50=>(a0w 1 p49.1).bind fun t51=>(a0i tab .neq a5J t51 (.int .i64 0)).bind fun t53=>dIf t53
  (some (.ret,[.bool false,nth 1 ds,nth 2 ds,.ptr p37.2.length 0 0,t39,t40,t50,t51,t42,t53],p49.2))
  ((a0c tab p49.2 a0n (.ptr p37.2.length 0 0)).bind fun t54=>((a0p tab p49.2 a0n p6.1 t54).bind fun h'=>some ((.und:D),h')).bind fun p902=>(a0t tab a3f t39).bind fun t58=>(a0i tab .add ty3 (nth 2 ds) t58).bind fun t59=>some (.nrm,[nth 0 ds,t50,t59,.ptr p37.2.length 0 0,t39,t40,t50,t51,t42,t53],p902.2)))).bind fun r_1=>a0K r_1.1 ((a0i tab .add ty3 (nth 3 ds) (.int .i64 1)).bind fun t30=>some (.nrm,[nth 0 r_1.2.1,nth 1 r_1.2.1,nth 2 r_1.2.1,t30,nth 3 r_1.2.1,nth 4 r_1.2.1,nth 5 r_1.2.1,nth 6 r_1.2.1,nth 7 r_1.2.1,t28,nth 8 r_1.2.1,nth 9 r_1.2.1],r_1.2.2)) fun x=>some (x,[nth 0 r_1.2.1,nth 1 r_1.2.1,nth 2 r_1.2.1,nth 3 ds,nth 3 r_1.2.1,nth 4 r_1.2.1,nth 5 r_1.2.1,nth 6 r_1.2.1,nth 7 r_1.2.1,t28,nth 8 r_1.2.1,nth 9 r_1.2.1],r_1.2.2))
  (some ((.ext 0),[nth 0 ds,nth 1 ds,nth 2 ds,nth 3 ds,nth 4 ds,nth 5 ds,nth 6 ds,nth 7 ds,nth 8 ds,t28,nth 10 ds,nth 11 ds],h_1))
noncomputable def b3x (t15m:D) (ds_1:List D) (h_2:Hp):Option Out :=
 (a0t tab a3f t15m).bind fun t69=>(a0i tab .lss ty3 (nth 1 ds_1) t69).bind fun t70=>dIf t70
  ((a0i tab .sub ty3 (nth 1 ds_1) (.int .i64 1)).bind fun t75=>(a0b tab a3f t15m t75).bind fun t76=>(a0c tab h_2 a0y t76).bind fun t77=>(a0b tab a3f t15m (nth 1 ds_1)).bind fun t80=>(a0c tab h_2 a0y t80).bind fun t81=>(R d4a [t77,t81] h_2).bind fun p82=>(dUn .not p82.1).bind fun t83=>dIf t83
  (some (.ret,[.bool false,nth 1 ds_1,t70,t83],p82.2))
  ((a0i tab .add ty3 (nth 1 ds_1) (.int .i64 1)).bind fun t72=>some (.nrm,[nth 0 ds_1,t72,t70,t83],p82.2)))
  (some ((.ext 2),[nth 0 ds_1,nth 1 ds_1,t70,nth 3 ds_1],h_2))
noncomputable def c7p (t0:D) (h:Hp):Option (D × Hp) :=
 (R b7u [] h).bind fun p18=>(dUn .not p18.1).bind fun t19=>dIf t19
  (scope h p18.2 (a0f [.bool false]))
  ((R b4t [t0] p18.2).bind fun p22=>(a0w 0 p22.1).bind fun t23=>(a0w 1 p22.1).bind fun t24=>(some ((.ptr p22.2.length 0 0:D),a0C p22.2 a0n 2 [[.nils,.nils]])).bind fun p6=>((a0J (b3w t23 p6) [.bool false,.nils,.int .i64 0,.int .i64 0,.any,.any,.any,.any,.any,.any,.any,.any] p6.2).bind fun r=>some ((a0G 0 r.1),[nth 0 r.2.1,nth 1 r.2.1,nth 2 r.2.1,nth 3 r.2.1,nth 4 r.2.1,nth 5 r.2.1,nth 6 r.2.1,nth 7 r.2.1,nth 8 r.2.1,nth 9 r.2.1,nth 10 r.2.1,nth 11 r.2.1],r.2.2)).bind fun r_2=>a0K r_2.1 ((a0U tab a0n [] []).bind fun t61=>(R b4I [t61,nth 1 r_2.2.1] r_2.2.2).bind fun p63=>(a0w 0 p63.1).bind fun t64=>(a0w 1 p63.1).bind fun t65=>(a0w 2 p63.1).bind fun t66=>(a5U 2 t64).bind fun t14=>((a0J (b3x t65) [nth 0 r_2.2.1,.int .i64 1,.any,.any] p63.2).bind fun r_3=>some ((a0G 2 r_3.1),[nth 0 r_3.2.1,nth 1 r_3.2.1,nth 2 r_3.2.1,nth 3 r_3.2.1],r_3.2.2)).bind fun r_4=>a0K r_4.1 ((a0t tab a0L (nth 1 r_2.2.1)).bind fun t86=>(a0i tab .eql ty3 t66 t86).bind fun t87=>(gd t87 true (a0c tab r_4.2.2 a0n p6.1)).bind fun t89=>(gd t87 true (a0c tab r_4.2.2 a0n t14)).bind fun t90=>(gdW t87 true r_4.2.2 (R b7I [t89,t90] r_4.2.2)).bind fun p91=>(a0R t87 p91.1 (.bool false)).bind fun t92=>(gd t92 true (some t65)).bind fun t94=>(gd t92 true (a0t tab a3f t94)).bind fun t95=>(gd t92 true (some (nth 2 r_2.2.1))).bind fun t96=>(gd t92 true (a0i tab .eql ty3 t95 t96)).bind fun t97=>(a0R t92 t97 (.bool false)).bind fun t98=>scope h p91.2 (a0f [t98])) fun x_2=>a1c x_2 (scope h r_4.2.2 (a0f [nth 0 r_4.2.1]))) fun x_1=>a1c x_1 (scope h r_2.2.2 (a0f [nth 0 r_2.2.1])))
theorem d2L (t0:D) (h:Hp):R b7Q [t0] h=c7p t0 h :=
 er i5 (by kernel_rfl) (by kernel_rfl)
noncomputable def c6b (h:Hp):Option (D × Hp) :=
 (a0W tab a0L 1 [0] [.int .u8 1]).bind fun t4=>(R b4k [.nils,t4] h).bind fun p5=>(a0w 0 p5.1).bind fun t6=>(a0w 1 p5.1).bind fun t7=>(a0i tab .eql a5J t7 (.int .i64 0)).bind fun t9=>(gd t9 true (some t6)).bind fun t11=>(gd t9 true (a0t tab a0L t11)).bind fun t12=>(gd t9 true (a0i tab .eql ty3 t12 (.int .i64 9))).bind fun t13=>(a0R t9 t13 (.bool false)).bind fun t14=>some (a0f [t14],p5.2)
theorem d1s (h:Hp):R b7u [] h=c6b h :=
 er i6 (by kernel_rfl) (by kernel_rfl)
noncomputable def b3m (t5m:D) (ds:List D) (h_1:Hp):Option Out :=
 (a0t tab a1V t5m).bind fun t14=>(a0i tab .lss ty3 (nth 1 ds) t14).bind fun t15=>dIf t15
  ((a0b tab a1V t5m (nth 1 ds)).bind fun t22=>(a0c tab h_1 a0u t22).bind fun t23=>(R b7L [nth 0 ds,t23] h_1).bind fun p24=>(a0w 0 p24.1).bind fun t25=>(a0w 1 p24.1).bind fun t26=>(a0i tab .add ty3 (nth 1 ds) (.int .i64 1)).bind fun t17=>some (.nrm,[t25,t17,t15],p24.2))
  (some ((.ext 0),[nth 0 ds,nth 1 ds,t15],h_1))
noncomputable def c6J (t0:D) (h:Hp):Option (D × Hp) :=
 (R d3Y [t0,.int .i64 400] h).bind fun p9=>(R b4q [p9.1,.int .i64 1,.int .i64 5] p9.2).bind fun p11=>((a0J (b3m p11.1) [.nils,.int .i64 0,.any] p11.2).bind fun r=>some ((a0G 0 r.1),[nth 0 r.2.1,nth 1 r.2.1,nth 2 r.2.1],r.2.2)).bind fun r_1=>a0K r_1.1 (some (a0f [p11.1,nth 0 r_1.2.1],r_1.2.2)) fun x=>a1c x (some (a0f [.nils,.nils],r_1.2.2))
theorem d2f (t0:D) (h:Hp):R b4t [t0] h=c6J t0 h :=
 er i7 (by kernel_rfl) (by kernel_rfl)
noncomputable def b3t (t28 t29:D) (ds:List D) (h_1:Hp):Option Out :=
 (a0i tab .lss ty3 (nth 6 ds) t29).bind fun t31=>dIf t31
  ((a0b tab a0S t28 (nth 6 ds)).bind fun t32=>(a0c tab h_1 a0z t32).bind fun t33=>(a5U 11 t33).bind fun t7=>(a0c tab h_1 a0z t7).bind fun t35=>(R b4z [t35] h_1).bind fun p36=>(a0w 0 p36.1).bind fun t37=>(a0w 1 p36.1).bind fun t38=>(a0i tab .neq a5J t38 (.int .i64 0)).bind fun t40=>dIf t40
  (some (.ret,[.nils,t38,nth 2 ds,t7,t37,t38,nth 6 ds,t31,t40],p36.2))
  ((a0q tab p36.2 a0L a0L (nth 2 ds) t37).bind fun p44=>(a0i tab .add ty3 (nth 6 ds) (.int .i64 1)).bind fun t45=>some (.nrm,[nth 0 ds,nth 1 ds,p44.1,t7,t37,t38,t45,t31,t40],p44.2)))
  (some ((.ext 0),[nth 0 ds,nth 1 ds,nth 2 ds,nth 3 ds,nth 4 ds,nth 5 ds,nth 6 ds,t31,nth 8 ds],h_1))
noncomputable def c7g (t0:D) (h:Hp):Option (D × Hp) :=
 (a1B t0).bind fun t1=>(a0c tab h a0u t1).bind fun t10=>(R b1i [t10] h).bind fun p11=>(a0i tab .neq a5J p11.1 (.int .i64 0)).bind fun t13=>dIf t13
  (scope h p11.2 (a0f [.nils,p11.1]))
  ((a0a tab a0u 0 t1).bind fun t15=>(a0c tab p11.2 ty3 t15).bind fun t16=>(R b1m [.nils,t16] p11.2).bind fun p17=>(a0a tab a0u 1 t1).bind fun t18=>(a0c tab p17.2 ty3 t18).bind fun t19=>(R b1m [p17.1,t19] p17.2).bind fun p20=>(a0a tab a0u 2 t1).bind fun t21=>(a0c tab p20.2 a0S t21).bind fun t22=>(a0t tab a0S t22).bind fun t23=>(a1m tab ty3 a3u t23).bind fun t24=>(R a7S [t24] p20.2).bind fun p25=>(a0q tab p25.2 a0L a0L p20.1 p25.1).bind fun p26=>chk (a0c tab p11.2 ty3 t18=some t19)
 (chk (a0c tab p11.2 a0S t21=some t22)
 (chk (a0c tab p17.2 a0S t21=some t22)
 ((a0a tab a0u 2 t1).bind fun t27=>(a0c tab p26.2 a0S t27).bind fun t28=>(a0t tab a0S t28).bind fun t29=>((a0J (b3t t28 t29) [.nils,.int .i64 0,p26.1,.any,.any,.any,.int .i64 0,.any,.any] p26.2).bind fun r=>some ((a0G 0 r.1),[nth 0 r.2.1,nth 1 r.2.1,nth 2 r.2.1,nth 3 r.2.1,nth 4 r.2.1,nth 5 r.2.1,nth 6 r.2.1,nth 7 r.2.1,nth 8 r.2.1],r.2.2)).bind fun r_1=>a0K r_1.1 (scope h r_1.2.2 (a0f [nth 2 r_1.2.1,.int .i64 0])) fun x=>a1c x (scope h r_1.2.2 (a0f [nth 0 r_1.2.1,nth 1 r_1.2.1]))))))
theorem d2D (t0:D) (h:Hp):R b1l [t0] h=c7g t0 h :=
 er i8 (by kernel_rfl) (by kernel_rfl)
noncomputable def b3o (t1:D) (ds:List D) (h_1:Hp):Option Out :=
 (a0a tab a0u 2 t1).bind fun t28=>(a0c tab h_1 a0S t28).bind fun t29=>(a0t tab a0S t29).bind fun t30=>(a0i tab .lss ty3 (nth 1 ds) t30).bind fun t31=>dIf t31
  ((a0a tab a0u 2 t1).bind fun t35=>(a0c tab h_1 a0S t35).bind fun t36=>(a0b tab a0S t36 (nth 1 ds)).bind fun t38=>(a0c tab h_1 a0z t38).bind fun t39=>(R b4w [t39] h_1).bind fun p40=>(a0w 0 p40.1).bind fun t41=>(a0w 1 p40.1).bind fun t42=>(a0q tab p40.2 a0L a0L (nth 0 ds) t41).bind fun p45=>(a0i tab .add ty3 (nth 1 ds) (.int .i64 1)).bind fun t33=>some (.nrm,[p45.1,t33,t41,t31],p45.2))
  (some ((.ext 0),[nth 0 ds,nth 1 ds,nth 2 ds,t31],h_1))
noncomputable def c6M (t0:D) (h:Hp):Option (D × Hp) :=
 (a1B t0).bind fun t1=>(a0c tab h a0u t1).bind fun t9=>(R b1j [t9] h).bind fun p10=>(a0i tab .neq a5J p10.1 (.int .i64 0)).bind fun t12=>dIf t12
  (scope h p10.2 (a0f [.nils,p10.1]))
  ((a0a tab a0u 0 t1).bind fun t14=>(a0c tab p10.2 ty3 t14).bind fun t15=>(a1m tab ty3 a1h t15).bind fun t16=>(R a4z [.nils,t16,.int .i64 8] p10.2).bind fun p17=>(a0a tab a0u 1 t1).bind fun t18=>(a0c tab p17.2 ty3 t18).bind fun t19=>(a1m tab ty3 a1h t19).bind fun t20=>(R a4z [p17.1,t20,.int .i64 8] p17.2).bind fun p21=>(a0a tab a0u 2 t1).bind fun t22=>(a0c tab p21.2 a0S t22).bind fun t23=>(a0t tab a0S t23).bind fun t24=>(a1m tab ty3 a1h t24).bind fun t25=>(R a4z [p21.1,t25,.int .i64 4] p21.2).bind fun p26=>chk (a0c tab p10.2 ty3 t18=some t19)
 (chk (a0c tab p10.2 a0S t22=some t23)
 (chk (a0c tab p17.2 a0S t22=some t23)
 (((a0J (b3o t1) [p26.1,.int .i64 0,.any,.any] p26.2).bind fun r=>some ((a0G 0 r.1),[nth 0 r.2.1,nth 1 r.2.1,nth 2 r.2.1,nth 3 r.2.1],r.2.2)).bind fun r_1=>a0K r_1.1 (scope h r_1.2.2 (a0f [nth 0 r_1.2.1,.int .i64 0])) fun x=>a1c x (scope h r_1.2.2 (a0f [.nils,.int .i64 0]))))))
theorem d2i (t0:D) (h:Hp):R b4v [t0] h=c6M t0 h :=
 er i9 (by kernel_rfl) (by kernel_rfl)
noncomputable def c7i (t0 t1:D) (h:Hp):Option (D × Hp) :=
 (a1B t1).bind fun t3=>(a0c tab h a0u t3).bind fun t9=>(R b1l [t9] h).bind fun p10=>(a0w 0 p10.1).bind fun t11=>(a0w 1 p10.1).bind fun t12=>(a0i tab .neq a5J t12 (.int .i64 0)).bind fun t14=>dIf t14
  (some (a0f [.nils,t12],p10.2))
  ((R b4k [t0,t11] p10.2).bind fun p18=>(a0w 0 p18.1).bind fun t19=>(a0w 1 p18.1).bind fun t20=>some (a0f [t19,t20],p18.2))
theorem d2F (t0 t1:D) (h:Hp):R b4G [t0,t1] h=c7i t0 t1 h :=
 er i10 (by kernel_rfl) (by kernel_rfl)
noncomputable def c6L (t0 t1:D) (h:Hp):Option (D × Hp) :=
 (a1B t1).bind fun t3=>(a0c tab h a0u t3).bind fun t9=>(R b4v [t9] h).bind fun p10=>(a0w 0 p10.1).bind fun t11=>(a0w 1 p10.1).bind fun t12=>(a0i tab .neq a5J t12 (.int .i64 0)).bind fun t14=>dIf t14
  (some (a0f [.nils,t12],p10.2))
  ((R b7v [t0,t11] p10.2).bind fun p18=>(a0w 0 p18.1).bind fun t19=>(a0w 1 p18.1).bind fun t20=>some (a0f [t19,t20],p18.2))
theorem d2h (t0 t1:D) (h:Hp):R b7L [t0,t1] h=c6L t0 t1 h :=
 er i11 (by kernel_rfl) (by kernel_rfl)
noncomputable def b3u (p2 p20:D × Hp) (ds:List D) (h_1:Hp):Option Out :=
 (a0i tab .gtr a3u (nth 2 ds) (.int .u32 0)).bind fun t28=>(gd t28 true (some (nth 1 ds))).bind fun t30=>(gd t28 true (a0t tab a0L t30)).bind fun t31=>(gd t28 true (a0i tab .gtr ty3 t31 (.int .i64 0))).bind fun t32=>(a0R t28 t32 (.bool false)).bind fun t33=>dIf t33
  ((R b4A [nth 1 ds] h_1).bind fun p38=>(a0w 0 p38.1).bind fun t39=>(a0w 1 p38.1).bind fun t40=>(a0w 2 p38.1).bind fun t41=>(a5U 11 t39).bind fun t7=>(a0i tab .neq a5J t41 (.int .i64 0)).bind fun t43=>dIf t43
  ((a0U tab a0u [] []).bind fun t44=>((a0p tab p38.2 a0u p2.1 t44).bind fun h'=>some ((.und:D),h')).bind fun p901_1=>some (.ret,[.int .i64 22,nth 1 ds,nth 2 ds,t7,t40,t41,t33,t43],p901_1.2))
  ((a0a tab a0u 2 (.ptr p20.2.length 0 0)).bind fun t45=>(a0c tab p38.2 a0S t45).bind fun t46=>(a0c tab p38.2 a0z t7).bind fun t47=>(a0W tab a0S 1 [0] [t47]).bind fun t48=>(a0q tab p38.2 a0S a0S t46 t48).bind fun p49=>(a0D tab a0L true false false [nth 1 ds,t40]).bind fun t52=>(a0a tab a0u 2 (.ptr p20.2.length 0 0)).bind fun t53=>((a0p tab p49.2 a0S t53 p49.1).bind fun h'=>some ((.und:D),h')).bind fun p909=>(a0i tab .sub a3u (nth 2 ds) (.int .u32 1)).bind fun t35=>some (.nrm,[nth 0 ds,t52,t35,t7,t40,t41,t33,t43],p909.2)))
  (some ((.ext 0),[nth 0 ds,nth 1 ds,nth 2 ds,nth 3 ds,nth 4 ds,nth 5 ds,t33,nth 7 ds],h_1))
noncomputable def c7h (t0:D) (h:Hp):Option (D × Hp) :=
 (some ((.ptr h.length 0 0:D),a0C h a0u 3 [[.int .i64 0,.int .i64 0,.nils]])).bind fun p2=>(a0t tab a0L t0).bind fun t13=>(a0i tab .lss ty3 t13 (.int .i64 20)).bind fun t14=>dIf t14
  ((a0U tab a0u [] []).bind fun t15=>((a0p tab p2.2 a0u p2.1 t15).bind fun h'=>some ((.und:D),h')).bind fun p901=>(a0c tab p901.2 a0u p2.1).bind fun d0=>scope h p901.2 (a0f [d0,.int .i64 22]))
  ((R a8K [t0] p2.2).bind fun p17=>(a0D tab a0L true false false [t0,.int .i64 8]).bind fun t19=>(R a8K [t19] p17.2).bind fun p20=>(a0U tab a0u [0,1] [p17.1,p20.1]).bind fun t21=>(some (.any:D)).bind fun t4=>((a0p tab (a0C p20.2 a0u 3 [[.int .i64 0,.int .i64 0,.nils]]) a0u (.ptr p20.2.length 0 0) t21).bind fun h'=>some ((.und:D),h')).bind fun p907=>(a0D tab a0L true false false [t0,.int .i64 20]).bind fun t23=>(a0D tab a0L true false false [t0,.int .i64 16]).bind fun t25=>(R a5i [t25] p907.2).bind fun p26=>((a0J (b3u p2 p20) [.int .i64 0,t23,p26.1,.any,.any,.any,.any,.any] p26.2).bind fun r=>some ((a0G 0 r.1),[nth 0 r.2.1,nth 1 r.2.1,nth 2 r.2.1,nth 3 r.2.1,nth 4 r.2.1,nth 5 r.2.1,nth 6 r.2.1,nth 7 r.2.1],r.2.2)).bind fun r_1=>a0K r_1.1 ((a0c tab r_1.2.2 a0u (.ptr p20.2.length 0 0)).bind fun t55=>(R b1l [t55] r_1.2.2).bind fun p56=>(a0w 0 p56.1).bind fun t57=>(a0w 1 p56.1).bind fun t58=>(a0i tab .neq a5J t58 (.int .i64 0)).bind fun t60=>(gd t60 false (some t57)).bind fun t62=>(gd t60 false (some t0)).bind fun t63=>(gdW t60 false p56.2 (R b7P [t62,t63] p56.2)).bind fun p64=>(gd t60 false (dUn .not p64.1)).bind fun t65=>(a0R t60 (.bool true) t65).bind fun t66=>dIf t66
  ((a0U tab a0u [] []).bind fun t67=>((a0p tab p64.2 a0u p2.1 t67).bind fun h'=>some ((.und:D),h')).bind fun p901_2=>(a0c tab p901_2.2 a0u p2.1).bind fun d0=>scope h p901_2.2 (a0f [d0,.int .i64 22]))
  ((a0c tab p64.2 a0u (.ptr p20.2.length 0 0)).bind fun t68=>((a0p tab p64.2 a0u p2.1 t68).bind fun h'=>some ((.und:D),h')).bind fun p901_3=>(a0c tab p901_3.2 a0u p2.1).bind fun d0=>scope h p901_3.2 (a0f [d0,.int .i64 0]))) fun x=>a1c x ((a0c tab r_1.2.2 a0u p2.1).bind fun d0=>scope h r_1.2.2 (a0f [d0,nth 0 r_1.2.1])))
theorem d2E (t0:D) (h:Hp):R b4F [t0] h=c7h t0 h :=
 er i14 (by kernel_rfl) (by kernel_rfl)
noncomputable def b5q (t0 t1:D) (h:Hp):Option (D × Hp) :=
 (a0t tab a0L t1).bind fun t10=>(a0i tab .eql ty3 t10 (.int .i64 0)).bind fun t11=>(gd t11 false (some t1)).bind fun t13=>(gd t11 false (a0t tab a0L t13)).bind fun t14=>(gd t11 false (a0i tab .gtr ty3 t14 (.int .i64 8388608))).bind fun t15=>(a0R t11 (.bool true) t15).bind fun t16=>dIf t16
  (scope h h (a0f [.nils,.int .i64 3]))
  ((a0t tab a0L t0).bind fun t18=>(a0i tab .add ty3 t18 (.int .i64 8)).bind fun t19=>(a0t tab a0L t1).bind fun t21=>(a0i tab .add ty3 t19 t21).bind fun t22=>(a0i tab .gtr ty3 t22 (.int .i64 67108864)).bind fun t23=>dIf t23
  (scope h h (a0f [.nils,.int .i64 16]))
  ((a0t tab a0L t1).bind fun t25=>(a1m tab ty3 a1h t25).bind fun t26=>(R a4z [.nils,t26,.int .i64 4] h).bind fun p27=>(a0q tab p27.2 a0L a0L (.nils) p27.1).bind fun p29=>(a0q tab p29.2 a0L a0L p29.1 t1).bind fun p31=>(R b7w [p31.1] p31.2).bind fun p32=>(a0q tab p32.2 a0L a0L (.nils) t0).bind fun p34=>(a1m tab a3u a1h p32.1).bind fun t37=>(R a4z [p27.1,t37,.int .i64 4] p34.2).bind fun p38=>(a0q tab p38.2 a0L a0L p34.1 p38.1).bind fun p39=>(a0q tab p39.2 a0L a0L p39.1 t1).bind fun p42=>scope h p42.2 (a0f [p42.1,.int .i64 0])))
theorem d1u (t0 t1:D) (h:Hp):R b7v [t0,t1] h=b5q t0 t1 h :=
 er i17 (by kernel_rfl) (by kernel_rfl)
noncomputable def F44 (t0 t1:D) (h:Hp):Option (D × Hp) :=
 (a0t tab a0L t0).bind fun t7=>(b9S t7 t1).bind fun t9=>(a0D tab a0L false true false [t0,t9]).bind fun t10=>(a0U tab a5e [0] [t10]).bind fun t11=>(b9J a5e 2 h t11).bind fun p12=>some (a0f [p12.1],p12.2)
theorem e44 (t0 t1:D) (h:Hp):R d3Y [t0,t1] h=F44 t0 t1 h :=
 er i18 (by kernel_rfl) (by kernel_rfl)
noncomputable def b3y (p2:D × Hp) (t21m t22:D) (ds:List D) (h_1:Hp):Option Out :=
 (a0i tab .lss ty3 (nth 6 ds) t22).bind fun t24=>dIf t24
  (((a0b tab a2a t21m (nth 6 ds)).bind fun t25=>(a0c tab h_1 a0L t25).bind fun t26=>(R b4F [t26] h_1).bind fun p29=>(a0w 0 p29.1).bind fun t30=>(a0w 1 p29.1).bind fun t31=>(a5U 3 t30).bind fun t12=>(a0i tab .neq a5J t31 (.int .i64 0)).bind fun t33=>dIf t33
  (some (.nrm,[nth 0 ds,t26,t12,t31,nth 4 ds,nth 5 ds,t33,nth 9 ds],p29.2))
  ((a0c tab p29.2 a0n p2.1).bind fun t35=>(a0c tab p29.2 a0u t12).bind fun t36=>(R b1h [t35,t36] p29.2).bind fun p37=>(a0w 0 p37.1).bind fun t38=>(a0w 1 p37.1).bind fun t39=>(a0w 2 p37.1).bind fun t40=>(a5U 2 t38).bind fun t14=>(a0i tab .eql a5J t40 (.int .i64 0)).bind fun t42=>(dIf t42
  ((a0c tab p37.2 a0n t14).bind fun t43=>(a0q tab p37.2 a3f a3f (nth 0 ds) t39).bind fun p46=>((a0p tab p46.2 a0n p2.1 t43).bind fun h'=>some ((.und:D),h')).bind fun p904=>chk (a0c tab p46.2 a0n t14=some t43)
 (some (.nrm,[p46.1],p904.2)))
  (some (.nrm,[nth 0 ds],p37.2))).bind fun r_1=>some ((a0G 1 r_1.1),[nth 0 r_1.2.1,t26,t12,t40,t14,t39,t33,t42],r_1.2.2))).bind fun r_2=>a0K r_2.1 ((a0i tab .add ty3 (nth 6 ds) (.int .i64 1)).bind fun t47=>some (.nrm,[nth 0 r_2.2.1,nth 1 r_2.2.1,nth 2 r_2.2.1,nth 3 r_2.2.1,nth 4 r_2.2.1,nth 5 r_2.2.1,t47,t24,nth 6 r_2.2.1,nth 7 r_2.2.1],r_2.2.2)) fun x=>some (x,[nth 0 r_2.2.1,nth 1 r_2.2.1,nth 2 r_2.2.1,nth 3 r_2.2.1,nth 4 r_2.2.1,nth 5 r_2.2.1,nth 6 ds,t24,nth 6 r_2.2.1,nth 7 r_2.2.1],r_2.2.2))
  (some ((.ext 0),[nth 0 ds,nth 1 ds,nth 2 ds,nth 3 ds,nth 4 ds,nth 5 ds,nth 6 ds,t24,nth 8 ds,nth 9 ds],h_1))
noncomputable def c7q (t0 t1:D) (h:Hp):Option (D × Hp) :=
 (b9J a0n 2 h t0).bind fun p2=>(some ((.ptr p2.2.length 0 0:D),a0C p2.2 a0n 2 [[.nils,.nils]])).bind fun p4=>(R b4u [t1] p4.2).bind fun p18=>(a0w 0 p18.1).bind fun t19=>(a0w 1 p18.1).bind fun t20=>(a0t tab a2a t19).bind fun t22=>((a0J (b3y p2 t19 t22) [.nils,.any,.any,.any,.any,.any,.int .i64 0,.any,.any,.any] p18.2).bind fun r=>some ((a0G 0 r.1),[nth 0 r.2.1,nth 1 r.2.1,nth 2 r.2.1,nth 3 r.2.1,nth 4 r.2.1,nth 5 r.2.1,nth 6 r.2.1,nth 7 r.2.1,nth 8 r.2.1,nth 9 r.2.1],r.2.2)).bind fun r_3=>a0K r_3.1 ((R b4J [nth 0 r_3.2.1,.fn (.func b4K) [] []] r_3.2.2).bind fun p49=>(a0c tab p49.2 a0n p2.1).bind fun t50=>((a0p tab p49.2 a0n p4.1 t50).bind fun h'=>some ((.und:D),h')).bind fun p903=>(a0c tab p903.2 a0n p4.1).bind fun d0=>scope h p903.2 (a0f [d0,nth 0 r_3.2.1,t20])) fun x_1=>a1c x_1 ((a0c tab r_3.2.2 a0n p4.1).bind fun d0=>scope h r_3.2.2 (a0f [d0,.nils,.int .i64 0]))
theorem d2M (t0 t1:D) (h:Hp):R b4I [t0,t1] h=c7q t0 t1 h :=
 er i20 (by kernel_rfl) (by kernel_rfl)
noncomputable def c6D (t0 t1:D) (h:Hp):Option (D × Hp) :=
 (a1B t0).bind fun t2=>(a1B t1).bind fun t3=>(a0a tab a0n 0 t2).bind fun t5=>(a0c tab h a0E t5).bind fun t6=>(a0a tab a0n 0 t3).bind fun t7=>(a0c tab h a0E t7).bind fun t8=>(R b7J [t6,t8] h).bind fun p9=>(gd p9.1 true (a0a tab a0n 1 t2)).bind fun t11=>(gd p9.1 true (a0c tab p9.2 a1C t11)).bind fun t12=>(gd p9.1 true (a0a tab a0n 1 t3)).bind fun t13=>(gd p9.1 true (a0c tab p9.2 a1C t13)).bind fun t14=>(gdW p9.1 true p9.2 (R d3W [t12,t14] p9.2)).bind fun p15=>(a0R p9.1 p15.1 (.bool false)).bind fun t16=>some (a0f [t16],p15.2)
theorem d1Y (t0 t1:D) (h:Hp):R b7I [t0,t1] h=c6D t0 t1 h :=
 er i22 (by kernel_rfl) (by kernel_rfl)
noncomputable def b3v (t2 t3:D) (p4 p8:D × Hp) (ds:List D) (h_1:Hp):Option Out :=
 (a0a tab a0u 2 t3).bind fun t24=>(a0c tab h_1 a0S t24).bind fun t25=>(a0t tab a0S t25).bind fun t26=>(a0i tab .lss ty3 (nth 3 ds) t26).bind fun t27=>dIf t27
  (((a0a tab a0u 2 t3).bind fun t30=>(a0c tab h_1 a0S t30).bind fun t31=>(a0b tab a0S t31 (nth 3 ds)).bind fun t33=>(a0c tab h_1 a0z t33).bind fun t34=>(some ((.ptr h_1.length 0 0:D),a0C h_1 a0z 11 [[.str [],.int .i64 0,.int .i64 0,.int .i64 0,.int .i64 0,.nils,.int .i64 0,.int .i64 0,.str [],.str [],.nils]])).bind fun p11=>((a0p tab p11.2 a0z p11.1 t34).bind fun h'=>some ((.und:D),h')).bind fun p906=>(a0c tab p906.2 a0n p8.1).bind fun t35=>(a0a tab a0z 1 p11.1).bind fun t36=>(a0a tab a0y 0 t36).bind fun t37=>(a0c tab p906.2 ty3 t37).bind fun t38=>(a0a tab a0z 1 p11.1).bind fun t39=>(a0a tab a0y 1 t39).bind fun t40=>(a0c tab p906.2 ty3 t40).bind fun t41=>(R b7H [t35,t38,t41] p906.2).bind fun p42=>(a0a tab a0z 1 p11.1).bind fun t43=>(a0a tab a0y 4 t43).bind fun t44=>(a0c tab p42.2 a1j t44).bind fun t45=>(a0t tab a1j t45).bind fun t46=>(a0a tab a0z 1 p11.1).bind fun t47=>(a0a tab a0y 3 t47).bind fun t48=>(a0c tab p42.2 ty3 t48).bind fun t49=>(a0i tab .leq ty3 t49 p42.1).bind fun t51=>dIf t51
  ((a0a tab a0n 1 p8.1).bind fun t52=>(a0c tab p42.2 a1C t52).bind fun t53=>(a0a tab a0u 0 t3).bind fun t54=>(a0c tab p42.2 ty3 t54).bind fun t55=>(R c5w [t53,t55,.str [42],t46] p42.2).bind fun p57=>(a0a tab a0n 1 p8.1).bind fun t58=>((a0p tab p57.2 a1C t58 p57.1).bind fun h'=>some ((.und:D),h')).bind fun p907=>some (.nrm,[nth 0 ds,nth 1 ds,nth 2 ds,p11.1,p42.1,t46,nth 7 ds,nth 8 ds,t51,nth 11 ds,nth 12 ds,nth 13 ds,nth 14 ds],p907.2))
  ((a0a tab a0z 1 p11.1).bind fun t59=>(a0a tab a0y 2 t59).bind fun t60=>(a0c tab p42.2 ty3 t60).bind fun t61=>(a0i tab .lss ty3 t61 p42.1).bind fun t63=>(dIf t63
  ((a0c tab p42.2 a0z p11.1).bind fun t65=>(R b4d [t65,p42.1] p42.2).bind fun p67=>(a0w 0 p67.1).bind fun t68=>(a0w 1 p67.1).bind fun t69=>(a5U 11 t68).bind fun t14=>(dUn .not t69).bind fun t71=>dIf t71
  ((a0c tab p67.2 a0n t2).bind fun t72=>((a0p tab p67.2 a0n p4.1 t72).bind fun h'=>some ((.und:D),h')).bind fun p901=>some (.ret,[.nils,.int .i64 23,t14,t69,t71],p901.2))
  ((a0c tab p67.2 a0z t14).bind fun t73=>((a0p tab p67.2 a0z p11.1 t73).bind fun h'=>some ((.und:D),h')).bind fun p901_1=>(a0a tab a0n 1 p8.1).bind fun t74=>(a0c tab p901_1.2 a1C t74).bind fun t75=>(a0a tab a0u 0 t3).bind fun t76=>(a0c tab p901_1.2 ty3 t76).bind fun t77=>(a0a tab a0z 1 p11.1).bind fun t79=>(a0a tab a0y 4 t79).bind fun t80=>(a0c tab p901_1.2 a1j t80).bind fun t81=>(a0t tab a1j t81).bind fun t82=>(a0i tab .sub ty3 t46 t82).bind fun t83=>(R c5w [t75,t77,.str [42],t83] p901_1.2).bind fun p84=>(a0a tab a0n 1 p8.1).bind fun t85=>((a0p tab p84.2 a1C t85 p84.1).bind fun h'=>some ((.und:D),h')).bind fun p912=>some (.nrm,[nth 0 ds,nth 1 ds,t14,t69,t71],p912.2)))
  (some (.nrm,[nth 0 ds,nth 1 ds,nth 7 ds,nth 8 ds,nth 12 ds],p42.2))).bind fun r_1=>a0K r_1.1 ((a0a tab a0z 1 p11.1).bind fun t86=>(a0a tab a0y 2 t86).bind fun t87=>(a0c tab r_1.2.2 ty3 t87).bind fun t88=>(a0i tab .gtr ty3 t88 p42.1).bind fun t90=>dIf t90
  ((a0c tab r_1.2.2 a0n t2).bind fun t91=>((a0p tab r_1.2.2 a0n p4.1 t91).bind fun h'=>some ((.und:D),h')).bind fun p901_2=>some (.ret,[.nils,.int .i64 23,nth 2 ds,p11.1,p42.1,t46,nth 2 r_1.2.1,nth 3 r_1.2.1,t51,t63,nth 4 r_1.2.1,t90,nth 14 ds],p901_2.2))
  ((a0a tab a0n 0 p8.1).bind fun t92=>(a0c tab r_1.2.2 a0E t92).bind fun t93=>(a0a tab a0z 1 p11.1).bind fun t94=>(a0a tab a0y 0 t94).bind fun t95=>(a0c tab r_1.2.2 ty3 t95).bind fun t96=>(a0a tab a0z 1 p11.1).bind fun t97=>(a0a tab a0y 1 t97).bind fun t98=>(a0c tab r_1.2.2 ty3 t98).bind fun t99=>(a0a tab a0z 1 p11.1).bind fun t100=>(a0a tab a0y 3 t100).bind fun t101=>(a0c tab r_1.2.2 ty3 t101).bind fun t102=>(a0U tab a0Q [0,1,2] [t96,t99,t102]).bind fun t103=>(R b1n [t93,t103] r_1.2.2).bind fun p104=>(a0a tab a0n 0 p8.1).bind fun t105=>((a0p tab p104.2 a0E t105 p104.1).bind fun h'=>some ((.und:D),h')).bind fun p914=>(a0a tab a0n 1 p8.1).bind fun t106=>(a0c tab p914.2 a1C t106).bind fun t107=>(a0a tab a0u 0 t3).bind fun t108=>(a0c tab p914.2 ty3 t108).bind fun t109=>(a0a tab a0z 0 p11.1).bind fun t110=>(a0c tab p914.2 ty9 t110).bind fun t111=>(a0a tab a0z 1 p11.1).bind fun t112=>(a0a tab a0y 4 t112).bind fun t113=>(a0c tab p914.2 a1j t113).bind fun t114=>(a0t tab a1j t114).bind fun t115=>(R c5w [t107,t109,t111,t115] p914.2).bind fun p116=>(a0a tab a0n 1 p8.1).bind fun t117=>((a0p tab p116.2 a1C t117 p116.1).bind fun h'=>some ((.und:D),h')).bind fun p912_1=>(a0a tab a0z 0 p11.1).bind fun t118=>(a0c tab p912_1.2 ty9 t118).bind fun t119=>(a0i tab .eql ty9 t119 (.str [])).bind fun t120=>(dIf t120
  ((a0a tab a0z 1 p11.1).bind fun t122=>(a0c tab p912_1.2 a0y t122).bind fun t123=>(a0W tab a3f 1 [0] [t123]).bind fun t124=>(a0q tab p912_1.2 a3f a3f (nth 2 ds) t124).bind fun p125=>some (.nrm,[p125.1],p125.2))
  (some (.nrm,[nth 2 ds],p912_1.2))).bind fun r_2=>some ((a0G 1 r_2.1),[nth 0 r_1.2.1,nth 1 r_1.2.1,nth 0 r_2.2.1,p11.1,p42.1,t46,nth 2 r_1.2.1,nth 3 r_1.2.1,t51,t63,nth 4 r_1.2.1,t90,t120],r_2.2.2))) fun x=>some ((a0G 1 x),[nth 0 r_1.2.1,nth 1 r_1.2.1,nth 2 ds,p11.1,p42.1,t46,nth 2 r_1.2.1,nth 3 r_1.2.1,t51,t63,nth 4 r_1.2.1,nth 13 ds,nth 14 ds],r_1.2.2))).bind fun r_3=>a0K r_3.1 ((a0i tab .add ty3 (nth 3 ds) (.int .i64 1)).bind fun t29=>some (.nrm,[nth 0 r_3.2.1,nth 1 r_3.2.1,nth 2 r_3.2.1,t29,nth 3 r_3.2.1,nth 4 r_3.2.1,nth 5 r_3.2.1,nth 6 r_3.2.1,nth 7 r_3.2.1,t27,nth 8 r_3.2.1,nth 9 r_3.2.1,nth 10 r_3.2.1,nth 11 r_3.2.1,nth 12 r_3.2.1],r_3.2.2)) fun x_1=>some (x_1,[nth 0 r_3.2.1,nth 1 r_3.2.1,nth 2 r_3.2.1,nth 3 ds,nth 3 r_3.2.1,nth 4 r_3.2.1,nth 5 r_3.2.1,nth 6 r_3.2.1,nth 7 r_3.2.1,t27,nth 8 r_3.2.1,nth 9 r_3.2.1,nth 10 r_3.2.1,nth 11 r_3.2.1,nth 12 r_3.2.1],r_3.2.2))
  (some ((.ext 0),[nth 0 ds,nth 1 ds,nth 2 ds,nth 3 ds,nth 4 ds,nth 5 ds,nth 6 ds,nth 7 ds,nth 8 ds,t27,nth 10 ds,nth 11 ds,nth 12 ds,nth 13 ds,nth 14 ds],h_1))
noncomputable def c7m (t0 t1:D) (h:Hp):Option (D × Hp) :=
 (a1B t0).bind fun t2=>(a1B t1).bind fun t3=>(some ((.ptr h.length 0 0:D),a0C h a0n 2 [[.nils,.nils]])).bind fun p4=>(a0c tab p4.2 a0u t3).bind fun t16=>(R b1j [t16] p4.2).bind fun p17=>(a0i tab .neq a5J p17.1 (.int .i64 0)).bind fun t19=>dIf t19
  ((a0c tab p17.2 a0n t2).bind fun t20=>((a0p tab p17.2 a0n p4.1 t20).bind fun h'=>some ((.und:D),h')).bind fun p902=>(a0c tab p902.2 a0n p4.1).bind fun d0=>scope h p902.2 (a0f [d0,.nils,p17.1]))
  ((a0c tab p17.2 a0n t2).bind fun t22=>(some ((.ptr p17.2.length 0 0:D),a0C p17.2 a0n 2 [[.nils,.nils]])).bind fun p8=>((a0p tab p8.2 a0n p8.1 t22).bind fun h'=>some ((.und:D),h')).bind fun p902_1=>((a0J (b3v t2 t3 p4 p8) [.nils,.int .i64 0,.nils,.int .i64 0,.any,.any,.any,.any,.any,.any,.any,.any,.any,.any,.any] p902_1.2).bind fun r=>some ((a0G 0 r.1),[nth 0 r.2.1,nth 1 r.2.1,nth 2 r.2.1,nth 3 r.2.1,nth 4 r.2.1,nth 5 r.2.1,nth 6 r.2.1,nth 7 r.2.1,nth 8 r.2.1,nth 9 r.2.1,nth 10 r.2.1,nth 11 r.2.1,nth 12 r.2.1,nth 13 r.2.1,nth 14 r.2.1],r.2.2)).bind fun r_4=>a0K r_4.1 ((a0c tab r_4.2.2 a0n p8.1).bind fun t126=>((a0p tab r_4.2.2 a0n p4.1 t126).bind fun h'=>some ((.und:D),h')).bind fun p902_2=>(a0c tab p902_2.2 a0n p4.1).bind fun d0=>scope h p902_2.2 (a0f [d0,nth 2 r_4.2.1,.int .i64 0])) fun x_2=>a1c x_2 ((a0c tab r_4.2.2 a0n p4.1).bind fun d0=>scope h r_4.2.2 (a0f [d0,nth 0 r_4.2.1,nth 1 r_4.2.1])))
theorem d2J (t0 t1:D) (h:Hp):R b4H [t0,t1] h=c7m t0 t1 h :=
 er i24 (by kernel_rfl) (by kernel_rfl)
noncomputable def F85 (t0 t1:D) (h:Hp):Option (D × Hp) :=
 (a1B t0).bind fun t2=>(a1B t1).bind fun t3=>(a0a tab a0y 5 t2).bind fun t6=>(a0c tab h ty3 t6).bind fun t7=>(a0a tab a0y 5 t3).bind fun t8=>(a0c tab h ty3 t8).bind fun t9=>(a0i tab .neq ty3 t7 t9).bind fun t10=>dIf t10
  ((a0a tab a0y 5 t2).bind fun t11=>(a0c tab h ty3 t11).bind fun t12=>(a0a tab a0y 5 t3).bind fun t13=>(a0c tab h ty3 t13).bind fun t14=>(a0i tab .lss ty3 t12 t14).bind fun t15=>some (a0f [t15],h))
  ((a0a tab a0y 0 t2).bind fun t17=>(a0c tab h ty3 t17).bind fun t18=>(a0a tab a0y 0 t3).bind fun t19=>(a0c tab h ty3 t19).bind fun t20=>(a0i tab .neq ty3 t18 t20).bind fun t21=>dIf t21
  ((a0a tab a0y 0 t2).bind fun t22=>(a0c tab h ty3 t22).bind fun t23=>(a0a tab a0y 0 t3).bind fun t24=>(a0c tab h ty3 t24).bind fun t25=>(a0i tab .lss ty3 t23 t25).bind fun t26=>some (a0f [t26],h))
  ((a0a tab a0y 1 t2).bind fun t28=>(a0c tab h ty3 t28).bind fun t29=>(a0a tab a0y 1 t3).bind fun t30=>(a0c tab h ty3 t30).bind fun t31=>(a0i tab .neq ty3 t29 t31).bind fun t32=>dIf t32
  ((a0a tab a0y 1 t2).bind fun t33=>(a0c tab h ty3 t33).bind fun t34=>(a0a tab a0y 1 t3).bind fun t35=>(a0c tab h ty3 t35).bind fun t36=>(a0i tab .lss ty3 t34 t36).bind fun t37=>some (a0f [t37],h))
  ((a0a tab a0y 2 t2).bind fun t38=>(a0c tab h ty3 t38).bind fun t39=>(a0a tab a0y 2 t3).bind fun t40=>(a0c tab h ty3 t40).bind fun t41=>(a0i tab .lss ty3 t39 t41).bind fun t42=>some (a0f [t42],h))))
theorem e85 (t0 t1:D) (h:Hp):R d4a [t0,t1] h=F85 t0 t1 h :=
 er i25 (by kernel_rfl) (by kernel_rfl)
noncomputable def b6a (t0 t1:D) (h:Hp):Option (D × Hp) :=
 (a0t tab a0L t1).bind fun t9=>(a0i tab .eql ty3 t9 (.int .i64 0)).bind fun t10=>(gd t10 false (some t1)).bind fun t12=>(gd t10 false (a0t tab a0L t12)).bind fun t13=>(gd t10 false (a0i tab .gtr ty3 t13 (.int .i64 8388608))).bind fun t14=>(a0R t10 (.bool true) t14).bind fun t15=>dIf t15
  (scope h h (a0f [.nils,.int .i64 3]))
  ((a0t tab a0L t0).bind fun t18=>(a0i tab .add ty3 t18 (.int .i64 8)).bind fun t19=>(a0t tab a0L t1).bind fun t21=>(a0i tab .add ty3 t19 t21).bind fun t22=>(a0i tab .gtr ty3 t22 (.int .i64 67108864)).bind fun t23=>dIf t23
  (scope h h (a0f [.nils,.int .i64 16]))
  ((a0t tab a0L t1).bind fun t25=>(a1m tab ty3 a3u t25).bind fun t26=>(R a7S [t26] h).bind fun p27=>(R b4l [p27.1,t1] p27.2).bind fun p32=>(R a7S [p32.1] p32.2).bind fun p33=>(a0W tab a2a 4 [0,1,2,3] [t0,p27.1,p33.1,t1]).bind fun t35=>(R a8H [t35] p33.2).bind fun p36=>scope h p36.2 (a0f [p36.1,.int .i64 0])))
theorem d1t (t0 t1:D) (h:Hp):R b4k [t0,t1] h=b6a t0 t1 h :=
 er i26 (by kernel_rfl) (by kernel_rfl)
noncomputable def a7e (t0 t7m t8m:D) (p11:D × Hp) (ds_1:List D) (h_2:Hp):Option Out :=
 (a0i tab .gtr ty3 (nth 0 ds_1) (.int .i64 0)).bind fun t33=>dIf t33
  (((a0t tab a4s t7m).bind fun t38=>(R a5H [t0,t38] h_2).bind fun p39=>(a0b tab a6X t8m p39.1).bind fun t42=>(a0c tab p39.2 ty3 t42).bind fun t43=>(a0b tab a4s t7m p39.1).bind fun t46=>(a0c tab p39.2 a0S t46).bind fun t47=>(a0t tab a0S t47).bind fun t48=>(a0i tab .geq ty3 t43 t48).bind fun t49=>dIf t49
  (some (.nrm,[p39.1,nth 2 ds_1,t49,nth 5 ds_1,nth 6 ds_1,nth 7 ds_1,nth 8 ds_1,nth 9 ds_1],p39.2))
  ((a0b tab a4s t7m p39.1).bind fun t52=>(a0c tab p39.2 a0S t52).bind fun t53=>(a0b tab a6X t8m p39.1).bind fun t56=>(a0c tab p39.2 ty3 t56).bind fun t57=>(a0b tab a0S t53 t57).bind fun t58=>(a0c tab p39.2 a0z t58).bind fun t59=>(some ((.ptr p39.2.length 0 0:D),a0C p39.2 a0z 11 [[.str [],.int .i64 0,.int .i64 0,.int .i64 0,.int .i64 0,.nils,.int .i64 0,.int .i64 0,.str [],.str [],.nils]])).bind fun p14=>chk (a0c tab p14.2 a0S t52=some t53)
 (chk (a0c tab p14.2 ty3 t56=some t57)
 (chk (a0c tab p14.2 a0z t58=some t59)
 (((a0p tab p14.2 a0z p14.1 t59).bind fun h'=>some ((.und:D),h')).bind fun p911=>(R a5H [t0,.int .i64 8] p911.2).bind fun p61=>(a0i tab .eql ty3 p61.1 (.int .i64 6)).bind fun t63=>(dIf t63
  ((a0b tab a6X t8m p39.1).bind fun t66=>(a0c tab p61.2 ty3 t66).bind fun t67=>(a0i tab .gtr ty3 t67 (.int .i64 0)).bind fun t68=>(dIf t68
  ((a0b tab a4s t7m p39.1).bind fun t71=>(a0c tab p61.2 a0S t71).bind fun t72=>(a0b tab a6X t8m p39.1).bind fun t75=>(a0c tab p61.2 ty3 t75).bind fun t76=>(a0i tab .sub ty3 t76 (.int .i64 1)).bind fun t77=>(a0b tab a0S t72 t77).bind fun t78=>(a0c tab p61.2 a0z t78).bind fun t79=>(a0c tab p61.2 a0z p14.1).bind fun t80=>(R b4r [t79,t80] p61.2).bind fun p81=>((a0p tab p81.2 a0z p14.1 p81.1).bind fun h'=>some ((.und:D),h')).bind fun p913=>some (.nrm,([]:List D),p913.2))
  (some (.nrm,([]:List D),p61.2))).bind fun r_2=>some (r_2.1,[t68,nth 8 ds_1],r_2.2.2))
  ((a0i tab .eql ty3 p61.1 (.int .i64 7)).bind fun t83=>dIf t83
  ((a0b tab a4s t7m p39.1).bind fun t86=>(a0c tab p61.2 a0S t86).bind fun t87=>(a0b tab a6X t8m p39.1).bind fun t90=>(a0c tab p61.2 ty3 t90).bind fun t91=>(a0i tab .add ty3 t91 (.int .i64 1)).bind fun t92=>(a0b tab a4s t7m p39.1).bind fun t95=>(a0c tab p61.2 a0S t95).bind fun t96=>(a0t tab a0S t96).bind fun t97=>(a0i tab .sub ty3 t97 (.int .i64 1)).bind fun t98=>(b9S t92 t98).bind fun t99=>(a0b tab a0S t87 t99).bind fun t100=>(a0c tab p61.2 a0z t100).bind fun t101=>((a0p tab p61.2 a0z p14.1 t101).bind fun h'=>some ((.und:D),h')).bind fun p918=>(a0a tab a0u 2 p11.1).bind fun t102=>(a0c tab p918.2 a0S t102).bind fun t103=>(a0c tab p918.2 a0z p14.1).bind fun t104=>(a0W tab a0S 1 [0] [t104]).bind fun t105=>(a0q tab p918.2 a0S a0S t103 t105).bind fun p106=>(a0a tab a0u 2 p11.1).bind fun t107=>((a0p tab p106.2 a0S t107 p106.1).bind fun h'=>some ((.und:D),h')).bind fun p906=>some ((.ext 3),[nth 7 ds_1,t83],p906.2))
  (some (.nrm,[nth 7 ds_1,t83],p61.2)))).bind fun r_3=>a0K (a0G 4 r_3.1) ((a0a tab a0u 2 p11.1).bind fun t108=>(a0c tab r_3.2.2 a0S t108).bind fun t109=>(a0c tab r_3.2.2 a0z p14.1).bind fun t110=>(a0W tab a0S 1 [0] [t110]).bind fun t111=>(a0q tab r_3.2.2 a0S a0S t109 t111).bind fun p112=>(a0a tab a0u 2 p11.1).bind fun t113=>((a0p tab p112.2 a0S t113 p112.1).bind fun h'=>some ((.und:D),h')).bind fun p906_1=>(R a5H [t0,.int .i64 4] p906_1.2).bind fun p115=>(a0i tab .gtr ty3 p115.1 (.int .i64 0)).bind fun t116=>(dIf t116
  ((a0b tab a6X t8m p39.1).bind fun t119=>(a0c tab p115.2 ty3 t119).bind fun t120=>(a0i tab .add ty3 t120 (.int .i64 1)).bind fun t121=>(a0b tab a6X t8m p39.1).bind fun t122=>((a0p tab p115.2 ty3 t122 t121).bind fun h'=>some ((.und:D),h')).bind fun p906_2=>some (.nrm,([]:List D),p906_2.2))
  (some (.nrm,([]:List D),p115.2))).bind fun r_4=>some ((a0G 3 r_4.1),[p39.1,p14.1,t49,p61.1,t63,nth 0 r_3.2.1,nth 1 r_3.2.1,t116],r_4.2.2)) fun x=>some ((a0G 3 x),[p39.1,p14.1,t49,p61.1,t63,nth 0 r_3.2.1,nth 1 r_3.2.1,nth 9 ds_1],r_3.2.2)))))).bind fun r_5=>a0K r_5.1 ((a0i tab .sub ty3 (nth 0 ds_1) (.int .i64 1)).bind fun t35=>some (.nrm,[t35,nth 0 r_5.2.1,nth 1 r_5.2.1,t33,nth 2 r_5.2.1,nth 3 r_5.2.1,nth 4 r_5.2.1,nth 5 r_5.2.1,nth 6 r_5.2.1,nth 7 r_5.2.1],r_5.2.2)) fun x_1=>some (x_1,[nth 0 ds_1,nth 0 r_5.2.1,nth 1 r_5.2.1,t33,nth 2 r_5.2.1,nth 3 r_5.2.1,nth 4 r_5.2.1,nth 5 r_5.2.1,nth 6 r_5.2.1,nth 7 r_5.2.1],r_5.2.2))
  (some ((.ext 2),[nth 0 ds_1,nth 1 ds_1,nth 2 ds_1,t33,nth 4 ds_1,nth 5 ds_1,nth 6 ds_1,nth 7 ds_1,nth 8 ds_1,nth 9 ds_1],h_2))
noncomputable def b3h (t0 t1 t7m t8m:D) (ds:List D) (h_1:Hp):Option Out :=
 (a0i tab .lss ty3 (nth 1 ds) (.int .i64 12)).bind fun t23=>dIf t23
  ((a0U tab a0u [0,1] [t1,nth 1 ds]).bind fun t28=>(some ((.ptr h_1.length 0 0:D),a0C h_1 a0u 3 [[.int .i64 0,.int .i64 0,.nils]])).bind fun p11=>((a0p tab p11.2 a0u p11.1 t28).bind fun h'=>some ((.und:D),h')).bind fun p904=>(R a5H [t0,.int .i64 3] p904.2).bind fun p30=>(a0i tab .add ty3 (.int .i64 1) p30.1).bind fun t31=>((a0J (a7e t0 t7m t8m p11) [t31,nth 4 ds,nth 5 ds,nth 7 ds,nth 8 ds,nth 9 ds,nth 10 ds,nth 11 ds,nth 12 ds,nth 13 ds] p30.2).bind fun r_1=>some ((a0G 2 r_1.1),[nth 0 r_1.2.1,nth 1 r_1.2.1,nth 2 r_1.2.1,nth 3 r_1.2.1,nth 4 r_1.2.1,nth 5 r_1.2.1,nth 6 r_1.2.1,nth 7 r_1.2.1,nth 8 r_1.2.1,nth 9 r_1.2.1],r_1.2.2)).bind fun r_6=>a0K r_6.1 ((a0c tab r_6.2.2 a0u p11.1).bind fun t124=>(a0W tab a1V 1 [0] [t124]).bind fun t125=>(a0q tab r_6.2.2 a1V a1V (nth 0 ds) t125).bind fun p126=>(R a5H [t0,.int .i64 4] p126.2).bind fun p128=>(a0i tab .eql ty3 p128.1 (.int .i64 3)).bind fun t129=>(gd t129 true (some p126.1)).bind fun t131=>(gd t129 true (a0t tab a1V t131)).bind fun t132=>(gd t129 true (a0i tab .gtr ty3 t132 (.int .i64 0))).bind fun t133=>(a0R t129 t133 (.bool false)).bind fun t134=>(dIf t134
  ((a0t tab a1V p126.1).bind fun t139=>(R a5H [t0,t139] p128.2).bind fun p140=>(a0b tab a1V p126.1 p140.1).bind fun t141=>(a0c tab p140.2 a0u t141).bind fun t142=>(a0W tab a1V 1 [0] [t142]).bind fun t143=>(a0q tab p140.2 a1V a1V p126.1 t143).bind fun p144=>some (.nrm,[p144.1],p144.2))
  (some (.nrm,[p126.1],p128.2))).bind fun r_7=>a0K (a0G 1 r_7.1) ((a0i tab .add ty3 (nth 1 ds) (.int .i64 1)).bind fun t25=>some (.nrm,[nth 0 r_7.2.1,t25,p11.1,nth 0 r_6.2.1,nth 1 r_6.2.1,nth 2 r_6.2.1,t23,nth 3 r_6.2.1,nth 4 r_6.2.1,nth 5 r_6.2.1,nth 6 r_6.2.1,nth 7 r_6.2.1,nth 8 r_6.2.1,nth 9 r_6.2.1,t134],r_7.2.2)) fun x_3=>some (x_3,[nth 0 r_7.2.1,nth 1 ds,p11.1,nth 0 r_6.2.1,nth 1 r_6.2.1,nth 2 r_6.2.1,t23,nth 3 r_6.2.1,nth 4 r_6.2.1,nth 5 r_6.2.1,nth 6 r_6.2.1,nth 7 r_6.2.1,nth 8 r_6.2.1,nth 9 r_6.2.1,t134],r_7.2.2)) fun x_2=>a0K (a0G 1 x_2) ((a0i tab .add ty3 (nth 1 ds) (.int .i64 1)).bind fun t25_1=>some (.nrm,[nth 0 ds,t25_1,p11.1,nth 0 r_6.2.1,nth 1 r_6.2.1,nth 2 r_6.2.1,t23,nth 3 r_6.2.1,nth 4 r_6.2.1,nth 5 r_6.2.1,nth 6 r_6.2.1,nth 7 r_6.2.1,nth 8 r_6.2.1,nth 9 r_6.2.1,nth 14 ds],r_6.2.2)) fun x_4=>some (x_4,[nth 0 ds,nth 1 ds,p11.1,nth 0 r_6.2.1,nth 1 r_6.2.1,nth 2 r_6.2.1,t23,nth 3 r_6.2.1,nth 4 r_6.2.1,nth 5 r_6.2.1,nth 6 r_6.2.1,nth 7 r_6.2.1,nth 8 r_6.2.1,nth 9 r_6.2.1,nth 14 ds],r_6.2.2))
  (some ((.ext 0),[nth 0 ds,nth 1 ds,nth 2 ds,nth 3 ds,nth 4 ds,nth 5 ds,t23,nth 7 ds,nth 8 ds,nth 9 ds,nth 10 ds,nth 11 ds,nth 12 ds,nth 13 ds,nth 14 ds],h_1))
noncomputable def c6B (t0 t1 t2:D) (h:Hp):Option (D × Hp) :=
 (R d0t [t0,t1,t2] h).bind fun p18=>(a0t tab a4s p18.1).bind fun t20=>(a9A tab p18.2 a6X t20 t20).bind fun p21=>((a0J (b3h t0 t1 p18.1 p21.1) [.nils,.int .i64 0,.any,.any,.any,.any,.any,.any,.any,.any,.any,.any,.any,.any,.any] p21.2).bind fun r=>some ((a0G 0 r.1),[nth 0 r.2.1,nth 1 r.2.1,nth 2 r.2.1,nth 3 r.2.1,nth 4 r.2.1,nth 5 r.2.1,nth 6 r.2.1,nth 7 r.2.1,nth 8 r.2.1,nth 9 r.2.1,nth 10 r.2.1,nth 11 r.2.1,nth 12 r.2.1,nth 13 r.2.1,nth 14 r.2.1],r.2.2)).bind fun r_8=>a0K r_8.1 (scope h r_8.2.2 (a0f [nth 0 r_8.2.1])) fun x_5=>a1c x_5 (scope h r_8.2.2 (a0f [.nils]))
theorem d1W (t0 t1 t2:D) (h:Hp):R b4q [t0,t1,t2] h=c6B t0 t1 t2 h :=
 er i27 (by kernel_rfl) (by kernel_rfl)
noncomputable def b3l (t1 t11 t12:D) (ds:List D) (h_1:Hp):Option Out :=
 (a0i tab .lss ty3 (nth 3 ds) t12).bind fun t14=>dIf t14
  ((a0b tab a0S t11 (nth 3 ds)).bind fun t15=>(a0c tab h_1 a0z t15).bind fun t16=>(a5U 11 t16).bind fun t4=>(a0c tab h_1 a0z t4).bind fun t17=>(R a6h [t17] h_1).bind fun p18=>(a0i tab .neq a5J p18.1 (.int .i64 0)).bind fun t21=>dIf t21
  (some (.ret,[p18.1,t4,p18.1,nth 3 ds,t14,t21,nth 6 ds,nth 7 ds],p18.2))
  ((a0a tab a0z 1 t4).bind fun t24=>(a0a tab a0y 0 t24).bind fun t25=>(a0c tab p18.2 ty3 t25).bind fun t26=>(a0a tab a0u 0 t1).bind fun t27=>(a0c tab p18.2 ty3 t27).bind fun t28=>(a0i tab .neq ty3 t26 t28).bind fun t29=>dIf t29
  (some (.ret,[.int .i64 24,t4,p18.1,nth 3 ds,t14,t21,t29,nth 7 ds],p18.2))
  ((a0a tab a0z 0 t4).bind fun t31=>(a0c tab p18.2 ty9 t31).bind fun t32=>(a0i tab .eql ty9 t32 (.str [42])).bind fun t33=>dIf t33
  (some (.ret,[.int .i64 6,t4,p18.1,nth 3 ds,t14,t21,t29,t33],p18.2))
  ((a0i tab .add ty3 (nth 3 ds) (.int .i64 1)).bind fun t34=>some (.nrm,[nth 0 ds,t4,p18.1,t34,t14,t21,t29,t33],p18.2)))))
  (some ((.ext 0),[nth 0 ds,nth 1 ds,nth 2 ds,nth 3 ds,t14,nth 5 ds,nth 6 ds,nth 7 ds],h_1))
noncomputable def c6G (t0:D) (h:Hp):Option (D × Hp) :=
 (a1B t0).bind fun t1=>(a0a tab a0u 2 t1).bind fun t6=>(a0c tab h a0S t6).bind fun t7=>(a0t tab a0S t7).bind fun t8=>(a0i tab .gtr ty3 t8 (.int .i64 40)).bind fun t9=>dIf t9
  (some (a0f [.int .i64 4],h))
  ((a0a tab a0u 2 t1).bind fun t10=>(a0c tab h a0S t10).bind fun t11=>(a0t tab a0S t11).bind fun t12=>((a0J (b3l t1 t11 t12) [.int .i64 0,.any,.any,.int .i64 0,.any,.any,.any,.any] h).bind fun r=>some ((a0G 0 r.1),[nth 0 r.2.1,nth 1 r.2.1,nth 2 r.2.1,nth 3 r.2.1,nth 4 r.2.1,nth 5 r.2.1,nth 6 r.2.1,nth 7 r.2.1],r.2.2)).bind fun r_1=>a0K r_1.1 (some (a0f [.int .i64 0],r_1.2.2)) fun x=>a1c x (some (a0f [nth 0 r_1.2.1],r_1.2.2)))
theorem d2b (t0:D) (h:Hp):R b1i [t0] h=c6G t0 h :=
 er i28 (by kernel_rfl) (by kernel_rfl)
noncomputable def c7j (t0 t1:D) (h:Hp):Option (D × Hp) :=
 (a1m tab ty3 a1h t1).bind fun t7=>(a0i tab .shr a1h t7 (.int .u64 32)).bind fun t8=>(a1m tab a1h a3u t8).bind fun t9=>(R a7S [t9] h).bind fun p10=>(a1m tab ty3 a3u t1).bind fun t12=>(R a7S [t12] p10.2).bind fun p13=>(a0W tab a2a 3 [0,1,2] [t0,p10.1,p13.1]).bind fun t14=>(R a8H [t14] p13.2).bind fun p15=>some (a0f [p15.1],p15.2)
theorem d2G (t0 t1:D) (h:Hp):R b1m [t0,t1] h=c7j t0 t1 h :=
 er i29 (by kernel_rfl) (by kernel_rfl)
noncomputable def c6c (t0:D) (h:Hp):Option (D × Hp) :=
 (a0i tab .shr a3u t0 (.int .u64 24)).bind fun t4=>(a1m tab a3u ty5 t4).bind fun t5=>(a0i tab .shr a3u t0 (.int .u64 16)).bind fun t7=>(a1m tab a3u ty5 t7).bind fun t8=>(a0i tab .shr a3u t0 (.int .u64 8)).bind fun t10=>(a1m tab a3u ty5 t10).bind fun t11=>(a1m tab a3u ty5 t0).bind fun t13=>(a0W tab a0L 4 [0,1,2,3] [t5,t8,t11,t13]).bind fun t14=>some (a0f [t14],h)
theorem d1v (t0:D) (h:Hp):R a7S [t0] h=c6c t0 h :=
 er i30 (by kernel_rfl) (by kernel_rfl)
noncomputable def c6U (t0:D) (h:Hp):Option (D × Hp) :=
 (b9J a0z 11 h t0).bind fun p1=>(a0c tab p1.2 a0z p1.1).bind fun t6=>(R a6h [t6] p1.2).bind fun p7=>(a0i tab .neq a5J p7.1 (.int .i64 0)).bind fun t9=>dIf t9
  (scope h p7.2 (a0f [.nils,p7.1]))
  ((a9A tab p7.2 a0L (.int .i64 4) (.int .i64 4)).bind fun p11=>(a0U tab a2j [0] [p11.1]).bind fun t12=>(b9J a2j 1 p11.2 t12).bind fun p13=>(some (.iface a4N p13.1:D)).bind fun t15=>(R b1k [t15,p1.1] p13.2).bind fun p16=>(a0h tab p13.1).bind fun t18=>(a0a tab a2j 0 t18).bind fun t19=>(a0c tab p16.2 a0L t19).bind fun t20=>(a0h tab p13.1).bind fun t22=>(a0a tab a2j 0 t22).bind fun t23=>(a0c tab p16.2 a0L t23).bind fun t24=>(a0t tab a0L t24).bind fun t25=>(a1m tab ty3 a1h t25).bind fun t26=>(R a4o [.nils,t26,.int .i64 4] p16.2).bind fun p27=>(a6Y tab p27.2 a0L a0L t20 p27.1).bind fun p28=>chk (a0c tab p27.2 a0L t19=some t20)
 ((a0h tab p13.1).bind fun t30=>(a0a tab a2j 0 t30).bind fun t31=>(a0c tab p28.2 a0L t31).bind fun t32=>(a0h tab p13.1).bind fun t34=>(a0a tab a2j 0 t34).bind fun t35=>(a0c tab p28.2 a0L t35).bind fun t36=>(R b4B [t36] p28.2).bind fun p37=>(R a4o [t32,p37.1,.int .i64 4] p37.2).bind fun p38=>chk (a0c tab p37.2 a0L t31=some t32)
 (scope h p38.2 (a0f [p38.1,.int .i64 0]))))
theorem d2r (t0:D) (h:Hp):R b4z [t0] h=c6U t0 h :=
 er i31 (by kernel_rfl) (by kernel_rfl)
noncomputable def b3p (t1:D) (ds:List D) (h_1:Hp):Option Out :=
 (a0a tab a0u 2 t1).bind fun t11=>(a0c tab h_1 a0S t11).bind fun t12=>(a0t tab a0S t12).bind fun t13=>(a0i tab .lss ty3 (nth 1 ds) t13).bind fun t14=>dIf t14
  ((a0a tab a0u 2 t1).bind fun t17=>(a0c tab h_1 a0S t17).bind fun t18=>(a0b tab a0S t18 (nth 1 ds)).bind fun t20=>(a0c tab h_1 a0z t20).bind fun t21=>(a5U 11 t21).bind fun t4=>(a0c tab h_1 a0z t4).bind fun t22=>(R b0Z [t22] h_1).bind fun p23=>(a0i tab .neq a5J p23.1 (.int .i64 0)).bind fun t25=>dIf t25
  (some (.ret,[p23.1,nth 1 ds,t4,p23.1,t14,t25,nth 6 ds,nth 7 ds],p23.2))
  ((a0a tab a0z 1 t4).bind fun t27=>(a0a tab a0y 0 t27).bind fun t28=>(a0c tab p23.2 ty3 t28).bind fun t29=>(a0a tab a0u 0 t1).bind fun t30=>(a0c tab p23.2 ty3 t30).bind fun t31=>(a0i tab .neq ty3 t29 t31).bind fun t32=>dIf t32
  (some (.ret,[.int .i64 24,nth 1 ds,t4,p23.1,t14,t25,t32,nth 7 ds],p23.2))
  ((a0a tab a0z 0 t4).bind fun t33=>(a0c tab p23.2 ty9 t33).bind fun t34=>(a0i tab .eql ty9 t34 (.str [42])).bind fun t35=>dIf t35
  (some (.ret,[.int .i64 6,nth 1 ds,t4,p23.1,t14,t25,t32,t35],p23.2))
  ((a0i tab .add ty3 (nth 1 ds) (.int .i64 1)).bind fun t16=>some (.nrm,[nth 0 ds,t16,t4,p23.1,t14,t25,t32,t35],p23.2)))))
  (some ((.ext 0),[nth 0 ds,nth 1 ds,nth 2 ds,nth 3 ds,t14,nth 5 ds,nth 6 ds,nth 7 ds],h_1))
noncomputable def c6N (t0:D) (h:Hp):Option (D × Hp) :=
 (a1B t0).bind fun t1=>(a0a tab a0u 2 t1).bind fun t6=>(a0c tab h a0S t6).bind fun t7=>(a0t tab a0S t7).bind fun t8=>(a0i tab .gtr ty3 t8 (.int .i64 40)).bind fun t9=>dIf t9
  (some (a0f [.int .i64 4],h))
  (((a0J (b3p t1) [.int .i64 0,.int .i64 0,.any,.any,.any,.any,.any,.any] h).bind fun r=>some ((a0G 0 r.1),[nth 0 r.2.1,nth 1 r.2.1,nth 2 r.2.1,nth 3 r.2.1,nth 4 r.2.1,nth 5 r.2.1,nth 6 r.2.1,nth 7 r.2.1],r.2.2)).bind fun r_1=>a0K r_1.1 (some (a0f [.int .i64 0],r_1.2.2)) fun x=>a1c x (some (a0f [nth 0 r_1.2.1],r_1.2.2)))
theorem d2j (t0:D) (h:Hp):R b1j [t0] h=c6N t0 h :=
 er i32 (by kernel_rfl) (by kernel_rfl)
noncomputable def a3Y (t1:D) (ds:List D) (h_1:Hp):Option Out :=
 (a0i tab .geq ty3 (nth 1 ds) (.int .i64 0)).bind fun t11=>dIf t11
  ((a0i tab .mul ty3 (.int .i64 8) (nth 1 ds)).bind fun t17=>(a0i tab .shr a1h t1 t17).bind fun t18=>(a1m tab a1h ty5 t18).bind fun t19=>(a0W tab a0L 1 [0] [t19]).bind fun t20=>(a0q tab h_1 a0L a0L (nth 0 ds) t20).bind fun p21=>(a0i tab .sub ty3 (nth 1 ds) (.int .i64 1)).bind fun t13=>some (.nrm,[p21.1,t13,t11],p21.2))
  (some ((.ext 0),[nth 0 ds,nth 1 ds,t11],h_1))
noncomputable def c3q (t0 t1 t2:D) (h:Hp):Option (D × Hp) :=
 (a0i tab .sub ty3 t2 (.int .i64 1)).bind fun t9=>((a0J (a3Y t1) [t0,t9,.any] h).bind fun r=>some ((a0G 0 r.1),[nth 0 r.2.1,nth 1 r.2.1,nth 2 r.2.1],r.2.2)).bind fun r_1=>a0K r_1.1 (some (a0f [nth 0 r_1.2.1],r_1.2.2)) fun x=>a1c x (some (a0f [.nils],r_1.2.2))
theorem c7P (t0 t1 t2:D) (h:Hp):R a4z [t0,t1,t2] h=c3q t0 t1 t2 h :=
 er i33 (by kernel_rfl) (by kernel_rfl)
noncomputable def c6O (t0:D) (h:Hp):Option (D × Hp) :=
 (a1B t0).bind fun t1=>(a0c tab h a0z t1).bind fun t7=>(R b0Z [t7] h).bind fun p8=>(a0i tab .neq a5J p8.1 (.int .i64 0)).bind fun t10=>dIf t10
  (scope h p8.2 (a0f [.nils,p8.1]))
  ((a0c tab p8.2 a0z t1).bind fun t12=>(R b4x [t12] p8.2).bind fun p13=>(a0t tab a0L p13.1).bind fun t15=>(a0i tab .add ty3 t15 (.int .i64 4)).bind fun t16=>(a1m tab ty3 a1h t16).bind fun t17=>(R a3N [.nils,t17,.int .i64 4] p13.2).bind fun p18=>(a0q tab p18.2 a0L a0L p18.1 p13.1).bind fun p20=>(R b4y [p20.1] p20.2).bind fun p23=>(R a3N [p20.1,p23.1,.int .i64 4] p23.2).bind fun p24=>scope h p24.2 (a0f [p24.1,.int .i64 0]))
theorem d2k (t0:D) (h:Hp):R b4w [t0] h=c6O t0 h :=
 er i34 (by kernel_rfl) (by kernel_rfl)
noncomputable def c7k (t0:D) (h:Hp):Option (D × Hp) :=
 (R a5i [t0] h).bind fun p4=>(a1m tab a3u a1h p4.1).bind fun t5=>(a0i tab .shl a1h t5 (.int .u64 32)).bind fun t6=>(a0D tab a0L true false false [t0,.int .i64 4]).bind fun t8=>(R a5i [t8] p4.2).bind fun p9=>(a1m tab a3u a1h p9.1).bind fun t10=>(a0i tab .or a1h t6 t10).bind fun t11=>(a1m tab a1h ty3 t11).bind fun t12=>some (a0f [t12],p9.2)
theorem d2H (t0:D) (h:Hp):R a8K [t0] h=c7k t0 h :=
 er i35 (by kernel_rfl) (by kernel_rfl)
noncomputable def b9W (t0:D) (h:Hp):Option (D × Hp) :=
 (a0b tab a0L t0 (.int .i64 0)).bind fun t4=>(a0c tab h ty5 t4).bind fun t5=>(a1m tab ty5 a3u t5).bind fun t6=>(a0i tab .shl a3u t6 (.int .u64 24)).bind fun t7=>(a0b tab a0L t0 (.int .i64 1)).bind fun t9=>(a0c tab h ty5 t9).bind fun t10=>(a1m tab ty5 a3u t10).bind fun t11=>(a0i tab .shl a3u t11 (.int .u64 16)).bind fun t12=>(a0i tab .or a3u t7 t12).bind fun t13=>(a0b tab a0L t0 (.int .i64 2)).bind fun t15=>(a0c tab h ty5 t15).bind fun t16=>(a1m tab ty5 a3u t16).bind fun t17=>(a0i tab .shl a3u t17 (.int .u64 8)).bind fun t18=>(a0i tab .or a3u t13 t18).bind fun t19=>(a0b tab a0L t0 (.int .i64 3)).bind fun t21=>(a0c tab h ty5 t21).bind fun t22=>(a1m tab ty5 a3u t22).bind fun t23=>(a0i tab .or a3u t19 t23).bind fun t24=>some (a0f [t24],h)
theorem c7T (t0:D) (h:Hp):R a5i [t0] h=b9W t0 h :=
 er i36 (by kernel_rfl) (by kernel_rfl)
noncomputable def c6V (t0:D) (h:Hp):Option (D × Hp) :=
 (some ((.ptr h.length 0 0:D),a0C h a0z 11 [[.str [],.int .i64 0,.int .i64 0,.int .i64 0,.int .i64 0,.nils,.int .i64 0,.int .i64 0,.str [],.str [],.nils]])).bind fun p2=>(a0t tab a0L t0).bind fun t9=>(a0i tab .lss ty3 t9 (.int .i64 4)).bind fun t10=>dIf t10
  ((a0U tab a0z [] []).bind fun t11=>((a0p tab p2.2 a0z p2.1 t11).bind fun h'=>some ((.und:D),h')).bind fun p901=>(a0c tab p901.2 a0z p2.1).bind fun d0=>scope h p901.2 (a0f [d0,.int .i64 0,.int .i64 14]))
  ((a0D tab a0L false true false [t0,.int .i64 4]).bind fun t13=>(R a6R [t13] p2.2).bind fun p14=>(a1m tab a1h ty3 p14.1).bind fun t15=>(a0i tab .lss ty3 t15 (.int .i64 4)).bind fun t17=>(gd t17 false (some t15)).bind fun t19=>(gd t17 false (some t0)).bind fun t20=>(gd t17 false (a0t tab a0L t20)).bind fun t21=>(gd t17 false (a0i tab .sub ty3 t21 (.int .i64 4))).bind fun t22=>(gd t17 false (a0i tab .gtr ty3 t19 t22)).bind fun t23=>(a0R t17 (.bool true) t23).bind fun t24=>dIf t24
  ((a0U tab a0z [] []).bind fun t25=>((a0p tab p14.2 a0z p2.1 t25).bind fun h'=>some ((.und:D),h')).bind fun p901_1=>(a0c tab p901_1.2 a0z p2.1).bind fun d0=>scope h p901_1.2 (a0f [d0,.int .i64 0,.int .i64 14]))
  ((a0D tab a0L false true false [t0,t15]).bind fun t28=>(R b4B [t28] p14.2).bind fun p29=>(a0i tab .add ty3 t15 (.int .i64 4)).bind fun t33=>(a0D tab a0L true true false [t0,t15,t33]).bind fun t34=>(R a6R [t34] p29.2).bind fun p35=>(a0i tab .neq a1h p29.1 p35.1).bind fun t36=>dIf t36
  ((a0U tab a0z [] []).bind fun t37=>((a0p tab p35.2 a0z p2.1 t37).bind fun h'=>some ((.und:D),h')).bind fun p901_2=>(a0c tab p901_2.2 a0z p2.1).bind fun d0=>scope h p901_2.2 (a0f [d0,.int .i64 0,.int .i64 15]))
  ((some ((.ptr p35.2.length 0 0:D),a0C p35.2 a0z 11 [[.str [],.int .i64 0,.int .i64 0,.int .i64 0,.int .i64 0,.nils,.int .i64 0,.int .i64 0,.str [],.str [],.nils]])).bind fun p6=>(a0D tab a0L true true false [t0,.int .i64 4,t15]).bind fun t40=>(a0U tab a1O [0] [t40]).bind fun t41=>(b9J a1O 2 p6.2 t41).bind fun p42=>(some (.iface a3W p42.1:D)).bind fun t44=>(R b1k [t44,p6.1] p42.2).bind fun p45=>(a0h tab p42.1).bind fun t47=>(a0a tab a1O 1 t47).bind fun t48=>(a0c tab p45.2 ty4 t48).bind fun t49=>(gd t49 false (some p42.1)).bind fun t51=>(gd t49 false (a0h tab t51)).bind fun t52=>(gd t49 false (a0a tab a1O 0 t52)).bind fun t53=>(gd t49 false (a0c tab p45.2 a0L t53)).bind fun t54=>(gd t49 false (a0t tab a0L t54)).bind fun t55=>(gd t49 false (a0i tab .gtr ty3 t55 (.int .i64 0))).bind fun t56=>(a0R t49 (.bool true) t56).bind fun t57=>(gd t57 false (a0c tab p45.2 a0z p6.1)).bind fun t59=>(gdW t57 false p45.2 (a5W R a6h [t59] p45.2)).bind fun p60=>(gd t57 false (a0i tab .neq a5J p60.1 (.int .i64 0))).bind fun t61=>(a0R t57 (.bool true) t61).bind fun t62=>dIf t62
  ((a0U tab a0z [] []).bind fun t63=>((a0p tab p60.2 a0z p2.1 t63).bind fun h'=>some ((.und:D),h')).bind fun p901_3=>(a0c tab p901_3.2 a0z p2.1).bind fun d0=>scope h p901_3.2 (a0f [d0,.int .i64 0,.int .i64 1]))
  ((a0c tab p60.2 a0z p6.1).bind fun t64=>(a0i tab .add ty3 (.int .i64 4) t15).bind fun t66=>((a0p tab p60.2 a0z p2.1 t64).bind fun h'=>some ((.und:D),h')).bind fun p903=>(a0c tab p903.2 a0z p2.1).bind fun d0=>scope h p903.2 (a0f [d0,t66,.int .i64 0])))))
theorem d2s (t0:D) (h:Hp):R b4A [t0] h=c6V t0 h :=
 er i37 (by kernel_rfl) (by kernel_rfl)
noncomputable def c7l (t0 t1:D) (h:Hp):Option (D × Hp) :=
 (a7G h t0).bind fun t6=>(a7G h t1).bind fun t8=>(a0i tab .eql ty9 t6 t8).bind fun t9=>some (a0f [t9],h)
theorem d2I (t0 t1:D) (h:Hp):R b7P [t0,t1] h=c7l t0 t1 h :=
 er i38 (by kernel_rfl) (by kernel_rfl)
noncomputable def a9c (ds_1:List D) (h_2:Hp):Option Out :=
 (a0i tab .lss ty3 (nth 1 ds_1) (.int .i64 8)).bind fun t20=>dIf t20
  ((a0i tab .and a3u (nth 0 ds_1) (.int .u32 1)).bind fun t24=>(a0i tab .eql a3u t24 (.int .u32 1)).bind fun t25=>(dIf t25
  ((a0i tab .shr a3u (nth 0 ds_1) (.int .u64 1)).bind fun t27=>(a0i tab .xor a3u t27 (.int .u32 3988292384)).bind fun t28=>some (.nrm,[t28],h_2))
  ((a0i tab .shr a3u (nth 0 ds_1) (.int .u64 1)).bind fun t30=>some (.nrm,[t30],h_2))).bind fun r_2=>a0K (a0G 3 r_2.1) ((a0i tab .add ty3 (nth 1 ds_1) (.int .i64 1)).bind fun t22=>some (.nrm,[nth 0 r_2.2.1,t22,t20,t25],r_2.2.2)) fun x=>some (x,[nth 0 r_2.2.1,nth 1 ds_1,t20,t25],r_2.2.2))
  (some ((.ext 2),[nth 0 ds_1,nth 1 ds_1,t20,nth 3 ds_1],h_2))
noncomputable def b3d (t0:D) (ds:List D) (h_1:Hp):Option Out :=
 (a0t tab a0L t0).bind fun t8=>(a0i tab .lss ty3 (nth 1 ds) t8).bind fun t9=>dIf t9
  ((a0b tab a0L t0 (nth 1 ds)).bind fun t15=>(a0c tab h_1 ty5 t15).bind fun t16=>(a1m tab ty5 a3u t16).bind fun t17=>(a0i tab .xor a3u (nth 0 ds) t17).bind fun t18=>((a0J (a9c) [t18,.int .i64 0,nth 4 ds,nth 5 ds] h_1).bind fun r_1=>some ((a0G 2 r_1.1),[nth 0 r_1.2.1,nth 1 r_1.2.1,nth 2 r_1.2.1,nth 3 r_1.2.1],r_1.2.2)).bind fun r_3=>a0K (a0G 1 r_3.1) ((a0i tab .add ty3 (nth 1 ds) (.int .i64 1)).bind fun t11=>some (.nrm,[nth 0 r_3.2.1,t11,nth 1 r_3.2.1,t9,nth 2 r_3.2.1,nth 3 r_3.2.1],r_3.2.2)) fun x_1=>some (x_1,[nth 0 r_3.2.1,nth 1 ds,nth 1 r_3.2.1,t9,nth 2 r_3.2.1,nth 3 r_3.2.1],r_3.2.2))
  (some ((.ext 0),[nth 0 ds,nth 1 ds,nth 2 ds,t9,nth 4 ds,nth 5 ds],h_1))
noncomputable def c6f (t0:D) (h:Hp):Option (D × Hp) :=
 ((a0J (b3d t0) [.int .u32 4294967295,.int .i64 0,.any,.any,.any,.any] h).bind fun r=>some ((a0G 0 r.1),[nth 0 r.2.1,nth 1 r.2.1,nth 2 r.2.1,nth 3 r.2.1,nth 4 r.2.1,nth 5 r.2.1],r.2.2)).bind fun r_4=>a0K r_4.1 ((dUn .xor (nth 0 r_4.2.1)).bind fun t32=>some (a0f [t32],r_4.2.2)) fun x_2=>a1c x_2 (some (a0f [.int .u32 0],r_4.2.2))
theorem d1y (t0:D) (h:Hp):R b7w [t0] h=c6f t0 h :=
 er i42 (by kernel_rfl) (by kernel_rfl)
noncomputable def F24 (t0 t1:D) (h:Hp):Option (D × Hp) :=
 (R d0r [t0] h).bind fun p7=>(dUn .not p7.1).bind fun t8=>(gd t8 false (some t1)).bind fun t10=>(gd t8 false (a0i tab .lss ty3 t10 (.int .i64 1))).bind fun t11=>(a0R t8 (.bool true) t11).bind fun t12=>dIf t12
  (some (a0f [.int .i64 0],p7.2))
  ((a0h tab t0).bind fun t14=>(a0a tab a5e 0 t14).bind fun t15=>(a0c tab p7.2 a0L t15).bind fun t16=>(a0h tab t0).bind fun t18=>(a0a tab a5e 1 t18).bind fun t19=>(a0c tab p7.2 ty3 t19).bind fun t20=>(a0b tab a0L t16 t20).bind fun t21=>(a0c tab p7.2 ty5 t21).bind fun t22=>(a1m tab ty5 ty3 t22).bind fun t23=>(a0h tab t0).bind fun t25=>(a0a tab a5e 1 t25).bind fun t26=>(a0c tab p7.2 ty3 t26).bind fun t27=>(a0i tab .add ty3 t27 (.int .i64 1)).bind fun t28=>(a0h tab t0).bind fun t29=>(a0a tab a5e 1 t29).bind fun t30=>((a0p tab p7.2 ty3 t30 t28).bind fun h'=>some ((.und:D),h')).bind fun p907=>(a0i tab .mul ty3 t23 t1).bind fun t33=>(a0i tab .quo ty3 t33 (.int .i64 256)).bind fun t34=>some (a0f [t34],p907.2))
theorem e24 (t0 t1:D) (h:Hp):R a5H [t0,t1] h=F24 t0 t1 h :=
 er i43 (by kernel_rfl) (by kernel_rfl)
noncomputable def b3n (t0:D) (ds:List D) (h_1:Hp):Option Out :=
 (a0t tab a0L t0).bind fun t11=>(a0i tab .sub ty3 t11 (nth 1 ds)).bind fun t13=>(a0i tab .geq ty3 t13 (.int .i64 8)).bind fun t14=>dIf t14
  ((a0i tab .add ty3 (nth 1 ds) (.int .i64 4)).bind fun t18=>(a0i tab .add ty3 (nth 1 ds) (.int .i64 4)).bind fun t20=>(b3J tab h_1 a0L true true [t0,nth 1 ds,t18,t20]).bind fun p21=>(R a5i [p21.1] p21.2).bind fun p23=>(a1m tab a3u ty3 p23.1).bind fun t24=>(a0i tab .add ty3 (nth 1 ds) (.int .i64 8)).bind fun t26=>(a0i tab .lss ty3 t24 (.int .i64 1)).bind fun t28=>(gd t28 false (some t24)).bind fun t30=>(gd t28 false (a0i tab .gtr ty3 t30 (.int .i64 8388608))).bind fun t31=>(a0R t28 (.bool true) t31).bind fun t32=>(gd t32 false (some t24)).bind fun t34=>(gd t32 false (some t0)).bind fun t35=>(gd t32 false (a0t tab a0L t35)).bind fun t36=>(gd t32 false (some t26)).bind fun t37=>(gd t32 false (a0i tab .sub ty3 t36 t37)).bind fun t38=>(gd t32 false (a0i tab .gtr ty3 t34 t38)).bind fun t39=>(a0R t32 (.bool true) t39).bind fun t40=>dIf t40
  (some ((.ext 0),[nth 0 ds,nth 1 ds,p21.1,t24,t26,nth 5 ds,t14,t40,nth 8 ds],p23.2))
  ((a0i tab .add ty3 t26 t24).bind fun t45=>(a0i tab .add ty3 t26 t24).bind fun t48=>(b3J tab p23.2 a0L true true [t0,t26,t45,t48]).bind fun p49=>(a0i tab .add ty3 (nth 1 ds) (.int .i64 4)).bind fun t52=>(b3J tab p49.2 a0L true true [t0,t52,t26,t26]).bind fun p55=>(R a5i [p55.1] p55.2).bind fun p56=>(R b4l [p21.1,p49.1] p56.2).bind fun p59=>(a0i tab .neq a3u p56.1 p59.1).bind fun t60=>dIf t60
  (some ((.ext 0),[nth 0 ds,nth 1 ds,p21.1,t24,t26,p49.1,t14,t40,t60],p59.2))
  ((a0W tab a2a 1 [0] [p49.1]).bind fun t63=>(a0q tab p59.2 a2a a2a (nth 0 ds) t63).bind fun p64=>(a0i tab .add ty3 t26 t24).bind fun t67=>some (.nrm,[p64.1,t67,p21.1,t24,t26,p49.1,t14,t40,t60],p64.2))))
  (some ((.ext 0),[nth 0 ds,nth 1 ds,nth 2 ds,nth 3 ds,nth 4 ds,nth 5 ds,t14,nth 7 ds,nth 8 ds],h_1))
noncomputable def c6K (t0:D) (h:Hp):Option (D × Hp) :=
 ((a0J (b3n t0) [.nils,.int .i64 0,.any,.any,.any,.any,.any,.any,.any] h).bind fun r=>some ((a0G 0 r.1),[nth 0 r.2.1,nth 1 r.2.1,nth 2 r.2.1,nth 3 r.2.1,nth 4 r.2.1,nth 5 r.2.1,nth 6 r.2.1,nth 7 r.2.1,nth 8 r.2.1],r.2.2)).bind fun r_1=>a0K r_1.1 (scope h r_1.2.2 (a0f [nth 0 r_1.2.1,nth 1 r_1.2.1])) fun x=>a1c x (scope h r_1.2.2 (a0f [.nils,.int .i64 0]))
theorem d2g (t0:D) (h:Hp):R b4u [t0] h=c6K t0 h :=
 er i45 (by kernel_rfl) (by kernel_rfl)
noncomputable def b3i (t2:D) (p4:D × Hp) (t8m t27 t28:D) (ds:List D) (h_1:Hp):Option Out :=
 (a0i tab .lss ty3 (nth 3 ds) t28).bind fun t30=>dIf t30
  ((a0b tab a0S t27 (nth 3 ds)).bind fun t31=>(a0c tab h_1 a0z t31).bind fun t32=>(a5U 11 t32).bind fun t10=>(a0c tab h_1 a0z t10).bind fun t34=>(R b4s [t8m,t34] h_1).bind fun p35=>(dUn .not p35.1).bind fun t36=>dIf t36
  ((a0c tab p35.2 a0n t2).bind fun t37=>((a0p tab p35.2 a0n p4.1 t37).bind fun h'=>some ((.und:D),h')).bind fun p901=>some (.ret,[.nils,.int .i64 23,t10,nth 3 ds,t30,t36],p901.2))
  ((a0i tab .add ty3 (nth 3 ds) (.int .i64 1)).bind fun t38=>some (.nrm,[nth 0 ds,nth 1 ds,t10,t38,t30,t36],p35.2)))
  (some ((.ext 0),[nth 0 ds,nth 1 ds,nth 2 ds,nth 3 ds,t30,nth 5 ds],h_1))
noncomputable def c6C (t0 t1:D) (h:Hp):Option (D × Hp) :=
 (a1B t0).bind fun t2=>(a1B t1).bind fun t3=>(some ((.ptr h.length 0 0:D),a0C h a0n 2 [[.nils,.nils]])).bind fun p4=>(a0c tab p4.2 a0u t3).bind fun t11=>(R b1i [t11] p4.2).bind fun p12=>(a0i tab .neq a5J p12.1 (.int .i64 0)).bind fun t14=>dIf t14
  ((a0c tab p12.2 a0n t2).bind fun t15=>((a0p tab p12.2 a0n p4.1 t15).bind fun h'=>some ((.und:D),h')).bind fun p902=>(a0c tab p902.2 a0n p4.1).bind fun d0=>scope h p902.2 (a0f [d0,.nils,p12.1]))
  ((a0a tab a0n 0 t2).bind fun t17=>(a0c tab p12.2 a0E t17).bind fun t18=>(R b7K [t18] p12.2).bind fun p19=>(a0a tab a0n 1 t2).bind fun t20=>(a0c tab p19.2 a1C t20).bind fun t21=>(R c8b [t21] p19.2).bind fun p22=>(a0U tab a0n [0,1] [p19.1,p22.1]).bind fun t23=>(a0U tab a1o [0] [t23]).bind fun t24=>(b9J a1o 3 p22.2 t24).bind fun p25=>chk (a0c tab p12.2 a1C t20=some t21)
 ((a0a tab a0u 2 t3).bind fun t26=>(a0c tab p25.2 a0S t26).bind fun t27=>(a0t tab a0S t27).bind fun t28=>((a0J (b3i t2 p4 p25.1 t27 t28) [.nils,.int .i64 0,.any,.int .i64 0,.any,.any] p25.2).bind fun r=>some ((a0G 0 r.1),[nth 0 r.2.1,nth 1 r.2.1,nth 2 r.2.1,nth 3 r.2.1,nth 4 r.2.1,nth 5 r.2.1],r.2.2)).bind fun r_1=>a0K r_1.1 ((a0h tab p25.1).bind fun t40=>(a0a tab a1o 0 t40).bind fun t41=>(a0c tab r_1.2.2 a0n t41).bind fun t42=>(a0h tab p25.1).bind fun t44=>(a0a tab a1o 1 t44).bind fun t45=>(a0c tab r_1.2.2 a3f t45).bind fun t46=>((a0p tab r_1.2.2 a0n p4.1 t42).bind fun h'=>some ((.und:D),h')).bind fun p908=>chk (a0c tab p908.2 a3f t45=some t46)
 ((a0c tab p908.2 a0n p4.1).bind fun d0=>scope h p908.2 (a0f [d0,t46,.int .i64 0]))) fun x=>a1c x ((a0c tab r_1.2.2 a0n p4.1).bind fun d0=>scope h r_1.2.2 (a0f [d0,nth 0 r_1.2.1,nth 1 r_1.2.1]))))
theorem d1X (t0 t1:D) (h:Hp):R b1h [t0,t1] h=c6C t0 t1 h :=
 er i46 (by kernel_rfl) (by kernel_rfl)
noncomputable def c3x (t0 t1:D) (h:Hp):Option (D × Hp) :=
 (a0t tab a3f t0).bind fun t6=>(R c2r [t0,t6,t1] h).bind fun p8=>some (a0f [],p8.2)
theorem c7V (t0 t1:D) (h:Hp):R b4J [t0,t1] h=c3x t0 t1 h :=
 er i47 (by kernel_rfl) (by kernel_rfl)
noncomputable def b9X (t0 t1:D) (h:Hp):Option (D × Hp) :=
 (a1B t0).bind fun t2=>(a1B t1).bind fun t3=>(a0c tab h a0y t2).bind fun t6=>(a0c tab h a0y t3).bind fun t7=>(R b4m [t6,t7] h).bind fun p8=>dIf p8.1
  (some (a0f [.int .i64 (-1)],p8.2))
  ((a0c tab p8.2 a0y t3).bind fun t10=>(a0c tab p8.2 a0y t2).bind fun t11=>(R b4m [t10,t11] p8.2).bind fun p12=>dIf p12.1
  (some (a0f [.int .i64 1],p12.2))
  (some (a0f [.int .i64 0],p12.2)))
theorem d2N (t0 t1:D) (h:Hp):R b4K [t0,t1] h=b9X t0 t1 h :=
 er i48 (by kernel_rfl) (by kernel_rfl)
noncomputable def c6h (t0 t1:D) (h:Hp):Option (D × Hp) :=
 (a1B t0).bind fun t2=>(a1B t1).bind fun t3=>(a0a tab a0y 5 t2).bind fun t5=>(a0c tab h ty3 t5).bind fun t6=>(a0a tab a0y 5 t3).bind fun t7=>(a0c tab h ty3 t7).bind fun t8=>(R c0W [t6,t8] h).bind fun p9=>(a0a tab a0y 0 t2).bind fun t10=>(a0c tab p9.2 ty3 t10).bind fun t11=>(a0a tab a0y 0 t3).bind fun t12=>(a0c tab p9.2 ty3 t12).bind fun t13=>(R c0W [t11,t13] p9.2).bind fun p14=>(a0a tab a0y 1 t2).bind fun t15=>(a0c tab p14.2 ty3 t15).bind fun t16=>(a0a tab a0y 1 t3).bind fun t17=>(a0c tab p14.2 ty3 t17).bind fun t18=>(R c0W [t16,t18] p14.2).bind fun p19=>(a0a tab a0y 2 t2).bind fun t20=>(a0c tab p19.2 ty3 t20).bind fun t21=>(a0a tab a0y 2 t3).bind fun t22=>(a0c tab p19.2 ty3 t22).bind fun t23=>(R c0W [t21,t23] p19.2).bind fun p24=>(a0W tab a6X 4 [0,1,2,3] [p9.1,p14.1,p19.1,p24.1]).bind fun t25=>(R c8d [t25] p24.2).bind fun p26=>(a0i tab .lss ty3 p26.1 (.int .i64 0)).bind fun t27=>chk (a0c tab h ty3 t10=some t11)
 (chk (a0c tab h ty3 t12=some t13)
 (chk (a0c tab h ty3 t15=some t16)
 (chk (a0c tab p9.2 ty3 t15=some t16)
 (chk (a0c tab h ty3 t17=some t18)
 (chk (a0c tab p9.2 ty3 t17=some t18)
 (chk (a0c tab h ty3 t20=some t21)
 (chk (a0c tab p9.2 ty3 t20=some t21)
 (chk (a0c tab p14.2 ty3 t20=some t21)
 (chk (a0c tab h ty3 t22=some t23)
 (chk (a0c tab p9.2 ty3 t22=some t23)
 (chk (a0c tab p14.2 ty3 t22=some t23)
 (some (a0f [t27],p26.2)))))))))))))
theorem d1B (t0 t1:D) (h:Hp):R b4m [t0,t1] h=c6h t0 t1 h :=
 er i49 (by kernel_rfl) (by kernel_rfl)
noncomputable def b3j (t0 t1:D) (ds:List D) (h_1:Hp):Option Out :=
 (a0t tab a0E t0).bind fun t13=>(a0i tab .lss ty3 (nth 1 ds) t13).bind fun t14=>dIf t14
  ((a0b tab a0E t0 (nth 1 ds)).bind fun t19=>(a0c tab h_1 a0Q t19).bind fun t20=>(a0b tab a0E t1 (nth 1 ds)).bind fun t23=>(a0c tab h_1 a0Q t23).bind fun t24=>(a0i tab .neq a0Q t20 t24).bind fun t25=>dIf t25
  (some (.ret,[.bool false,nth 1 ds,t14,t25],h_1))
  ((a0i tab .add ty3 (nth 1 ds) (.int .i64 1)).bind fun t16=>some (.nrm,[nth 0 ds,t16,t14,t25],h_1)))
  (some ((.ext 0),[nth 0 ds,nth 1 ds,t14,nth 3 ds],h_1))
noncomputable def c6E (t0 t1:D) (h:Hp):Option (D × Hp) :=
 (a0t tab a0E t0).bind fun t7=>(a0t tab a0E t1).bind fun t9=>(a0i tab .neq ty3 t7 t9).bind fun t10=>dIf t10
  (some (a0f [.bool false],h))
  (((a0J (b3j t0 t1) [.bool false,.int .i64 0,.any,.any] h).bind fun r=>some ((a0G 0 r.1),[nth 0 r.2.1,nth 1 r.2.1,nth 2 r.2.1,nth 3 r.2.1],r.2.2)).bind fun r_1=>a0K r_1.1 (some (a0f [.bool true],r_1.2.2)) fun x=>a1c x (some (a0f [nth 0 r_1.2.1],r_1.2.2)))
theorem d1Z (t0 t1:D) (h:Hp):R b7J [t0,t1] h=c6E t0 t1 h :=
 er i52 (by kernel_rfl) (by kernel_rfl)
noncomputable def c1N (t0 t1:D) (ds:List D) (h_1:Hp):Option Out :=
 (a0t tab a1C t0).bind fun t13=>(a0i tab .lss ty3 (nth 1 ds) t13).bind fun t14=>dIf t14
  ((a0b tab a1C t0 (nth 1 ds)).bind fun t19=>(a0c tab h_1 a1k t19).bind fun t20=>(a0b tab a1C t1 (nth 1 ds)).bind fun t23=>(a0c tab h_1 a1k t23).bind fun t24=>(a0i tab .neq a1k t20 t24).bind fun t25=>dIf t25
  (some (.ret,[.bool false,nth 1 ds,t14,t25],h_1))
  ((a0i tab .add ty3 (nth 1 ds) (.int .i64 1)).bind fun t16=>some (.nrm,[nth 0 ds,t16,t14,t25],h_1)))
  (some ((.ext 0),[nth 0 ds,nth 1 ds,t14,nth 3 ds],h_1))
noncomputable def F30 (t0 t1:D) (h:Hp):Option (D × Hp) :=
 (a0t tab a1C t0).bind fun t7=>(a0t tab a1C t1).bind fun t9=>(a0i tab .neq ty3 t7 t9).bind fun t10=>dIf t10
  (some (a0f [.bool false],h))
  (((a0J (c1N t0 t1) [.bool false,.int .i64 0,.any,.any] h).bind fun r=>some ((a0G 0 r.1),[nth 0 r.2.1,nth 1 r.2.1,nth 2 r.2.1,nth 3 r.2.1],r.2.2)).bind fun r_1=>a0K r_1.1 (some (a0f [.bool true],r_1.2.2)) fun x=>a1c x (some (a0f [nth 0 r_1.2.1],r_1.2.2)))
theorem e30 (t0 t1:D) (h:Hp):R d3W [t0,t1] h=F30 t0 t1 h :=
 er i53 (by kernel_rfl) (by kernel_rfl)
noncomputable def c6z (t0 t1 t2:D) (h:Hp):Option (D × Hp) :=
 (a1B t0).bind fun t3=>(a0a tab a0n 0 t3).bind fun t10=>(a0c tab h a0E t10).bind fun t11=>(R b4p [t11,t1,t2] h).bind fun p14=>(a0w 0 p14.1).bind fun t15=>(a0w 1 p14.1).bind fun t16=>dIf t16
  ((a0a tab a0n 0 t3).bind fun t18=>(a0c tab p14.2 a0E t18).bind fun t19=>(a0b tab a0E t19 t15).bind fun t21=>(a0a tab a0Q 2 t21).bind fun t22=>(a0c tab p14.2 ty3 t22).bind fun t23=>some (a0f [t23],p14.2))
  (some (a0f [.int .i64 0],p14.2))
theorem d1U (t0 t1 t2:D) (h:Hp):R b7H [t0,t1,t2] h=c6z t0 t1 t2 h :=
 er i55 (by kernel_rfl) (by kernel_rfl)
noncomputable def a5N (t0 t1 t2:D) (ds:List D) (h_1:Hp):Option Out :=
 (a0t tab a1C t0).bind fun t16=>(a0i tab .lss ty3 (nth 0 ds) t16).bind fun t17=>(gd t17 true (some t0)).bind fun t19=>(gd t17 true (some (nth 0 ds))).bind fun t20=>(gd t17 true (a0b tab a1C t19 t20)).bind fun t21=>(gd t17 true (a0a tab a1k 0 t21)).bind fun t22=>(gd t17 true (a0c tab h_1 ty3 t22)).bind fun t23=>(gd t17 true (some t1)).bind fun t24=>(gd t17 true (a0i tab .lss ty3 t23 t24)).bind fun t25=>(gd t17 true (some t25)).bind fun t26=>(gd t26 false (some t0)).bind fun t27=>(gd t26 false (some (nth 0 ds))).bind fun t28=>(gd t26 false (a0b tab a1C t27 t28)).bind fun t29=>(gd t26 false (a0a tab a1k 0 t29)).bind fun t30=>(gd t26 false (a0c tab h_1 ty3 t30)).bind fun t31=>(gd t26 false (some t1)).bind fun t32=>(gd t26 false (a0i tab .eql ty3 t31 t32)).bind fun t33=>(gd t26 false (some t33)).bind fun t34=>(gd t34 true (some t0)).bind fun t35=>(gd t34 true (some (nth 0 ds))).bind fun t36=>(gd t34 true (a0b tab a1C t35 t36)).bind fun t37=>(gd t34 true (a0a tab a1k 1 t37)).bind fun t38=>(gd t34 true (a0c tab h_1 ty9 t38)).bind fun t39=>(gd t34 true (some t2)).bind fun t40=>(gd t34 true (a0i tab .lss ty9 t39 t40)).bind fun t41=>(gd t26 false (a0R t34 t41 (.bool false))).bind fun t42=>(gd t17 true (a0R t26 (.bool true) t42)).bind fun t43=>(a0R t17 t43 (.bool false)).bind fun t44=>dIf t44
  ((a0i tab .add ty3 (nth 0 ds) (.int .i64 1)).bind fun t46=>some (.nrm,[t46,t44],h_1))
  (some ((.ext 0),[nth 0 ds,t44],h_1))
noncomputable def F60 (t0 t1 t2 t3:D) (h:Hp):Option (D × Hp) :=
 (a0i tab .leq ty3 t3 (.int .i64 0)).bind fun t12=>dIf t12
  (scope h h (a0f [t0]))
  (((a0J (a5N t0 t1 t2) [.int .i64 0,.any] h).bind fun r=>some ((a0G 0 r.1),[nth 0 r.2.1,nth 1 r.2.1],r.2.2)).bind fun r_1=>a0K r_1.1 ((a0q tab r_1.2.2 a1C a1C (.nils) t0).bind fun p48=>(a0t tab a1C t0).bind fun t51=>(a0i tab .lss ty3 (nth 0 r_1.2.1) t51).bind fun t52=>(gd t52 true (some t0)).bind fun t54=>(gd t52 true (some (nth 0 r_1.2.1))).bind fun t55=>(gd t52 true (a0b tab a1C t54 t55)).bind fun t56=>(gd t52 true (a0a tab a1k 0 t56)).bind fun t57=>(gd t52 true (a0c tab p48.2 ty3 t57)).bind fun t58=>(gd t52 true (some t1)).bind fun t59=>(gd t52 true (a0i tab .eql ty3 t58 t59)).bind fun t60=>(a0R t52 t60 (.bool false)).bind fun t61=>(gd t61 true (some t0)).bind fun t63=>(gd t61 true (some (nth 0 r_1.2.1))).bind fun t64=>(gd t61 true (a0b tab a1C t63 t64)).bind fun t65=>(gd t61 true (a0a tab a1k 1 t65)).bind fun t66=>(gd t61 true (a0c tab p48.2 ty9 t66)).bind fun t67=>(gd t61 true (some t2)).bind fun t68=>(gd t61 true (a0i tab .eql ty9 t67 t68)).bind fun t69=>(a0R t61 t69 (.bool false)).bind fun t70=>dIf t70
  ((a0b tab a1C p48.1 (nth 0 r_1.2.1)).bind fun t73=>(a0a tab a1k 2 t73).bind fun t74=>(a0c tab p48.2 ty3 t74).bind fun t75=>(a0i tab .add ty3 t75 t3).bind fun t77=>(a0b tab a1C p48.1 (nth 0 r_1.2.1)).bind fun t78=>(a0a tab a1k 2 t78).bind fun t79=>((a0p tab p48.2 ty3 t79 t77).bind fun h'=>some ((.und:D),h')).bind fun p909=>scope h p909.2 (a0f [p48.1]))
  ((b3J tab p48.2 a1C false true [p48.1,nth 0 r_1.2.1,nth 0 r_1.2.1]).bind fun p84=>(a0U tab a1k [0,1,2] [t1,t2,t3]).bind fun t88=>(a0W tab a1C 1 [0] [t88]).bind fun t89=>(a0q tab p84.2 a1C a1C p84.1 t89).bind fun p90=>(a0D tab a1C true false false [t0,nth 0 r_1.2.1]).bind fun t94=>(a0q tab p90.2 a1C a1C p90.1 t94).bind fun p95=>scope h p95.2 (a0f [p95.1]))) fun x=>a1c x (scope h r_1.2.2 (a0f [.nils])))
theorem e60 (t0 t1 t2 t3:D) (h:Hp):R c5w [t0,t1,t2,t3] h=F60 t0 t1 t2 t3 h :=
 er i56 (by kernel_rfl) (by kernel_rfl)
noncomputable def b2V (t1:D) (p2 p4:D × Hp) (t6m:D) (ds:List D) (h_1:Hp):Option Out :=
 (a0t tab a1j t6m).bind fun t13=>(a0i tab .lss ty3 (nth 1 ds) t13).bind fun t14=>dIf t14
  ((a0b tab a1j t6m (nth 1 ds)).bind fun t19=>(a0a tab a1Z 0 t19).bind fun t20=>(a0c tab h_1 ty3 t20).bind fun t21=>(a0i tab .eql ty3 t21 t1).bind fun t23=>dIf t23
  ((a0D tab a1j true false false [t6m,nth 1 ds]).bind fun t27=>(a0q tab h_1 a1j a1j (.nils) t27).bind fun p28=>(a0a tab a0z 1 p2.1).bind fun t29=>(a0a tab a0y 2 t29).bind fun t30=>((a0p tab p28.2 ty3 t30 t1).bind fun h'=>some ((.und:D),h')).bind fun p907=>(a0a tab a0z 1 p2.1).bind fun t31=>(a0a tab a0y 4 t31).bind fun t32=>((a0p tab p907.2 a1j t32 p28.1).bind fun h'=>some ((.und:D),h')).bind fun p910=>(a0c tab p910.2 a0z p2.1).bind fun t33=>((a0p tab p910.2 a0z p4.1 t33).bind fun h'=>some ((.und:D),h')).bind fun p901=>some (.ret,[.bool true,nth 1 ds,t14,t23],p901.2))
  ((a0i tab .add ty3 (nth 1 ds) (.int .i64 1)).bind fun t16=>some (.nrm,[nth 0 ds,t16,t14,t23],h_1)))
  (some ((.ext 0),[nth 0 ds,nth 1 ds,t14,nth 3 ds],h_1))
noncomputable def c5L (t0 t1:D) (h:Hp):Option (D × Hp) :=
 (b9J a0z 11 h t0).bind fun p2=>(some ((.ptr p2.2.length 0 0:D),a0C p2.2 a0z 11 [[.str [],.int .i64 0,.int .i64 0,.int .i64 0,.int .i64 0,.nils,.int .i64 0,.int .i64 0,.str [],.str [],.nils]])).bind fun p4=>(a0a tab a0z 1 p2.1).bind fun t8=>(a0a tab a0y 4 t8).bind fun t9=>(a0c tab p4.2 a1j t9).bind fun t10=>((a0J (b2V t1 p2 p4 t10) [.bool false,.int .i64 1,.any,.any] p4.2).bind fun r=>some ((a0G 0 r.1),[nth 0 r.2.1,nth 1 r.2.1,nth 2 r.2.1,nth 3 r.2.1],r.2.2)).bind fun r_1=>a0K r_1.1 ((a0U tab a0z [] []).bind fun t34=>((a0p tab r_1.2.2 a0z p4.1 t34).bind fun h'=>some ((.und:D),h')).bind fun p901_1=>(a0c tab p901_1.2 a0z p4.1).bind fun d0=>scope h p901_1.2 (a0f [d0,.bool false])) fun x=>a1c x ((a0c tab r_1.2.2 a0z p4.1).bind fun d0=>scope h r_1.2.2 (a0f [d0,nth 0 r_1.2.1]))
theorem d0Y (t0 t1:D) (h:Hp):R b4d [t0,t1] h=c5L t0 t1 h :=
 er i57 (by kernel_rfl) (by kernel_rfl)
noncomputable def c7o (t0 t1:D) (h:Hp):Option (D × Hp) :=
 (a1B t1).bind fun t3=>(a0a tab a0Q 0 t3).bind fun t10=>(a0c tab h ty3 t10).bind fun t11=>(a0a tab a0Q 1 t3).bind fun t12=>(a0c tab h ty3 t12).bind fun t13=>(R b4p [t0,t11,t13] h).bind fun p14=>(a0w 0 p14.1).bind fun t15=>(a0w 1 p14.1).bind fun t16=>(a0D tab a0E false true false [t0,t15]).bind fun t19=>(a0q tab p14.2 a0E a0E (.nils) t19).bind fun p20=>(a0c tab p20.2 a0Q t3).bind fun t22=>(a0W tab a0E 1 [0] [t22]).bind fun t23=>(a0q tab p20.2 a0E a0E p20.1 t23).bind fun p24=>(dIf t16
  ((a0i tab .add ty3 t15 (.int .i64 1)).bind fun t27=>some (.nrm,[t27],p24.2))
  (some (.nrm,[t15],p24.2))).bind fun r=>a0K r.1 ((a0D tab a0E true false false [t0,nth 0 r.2.1]).bind fun t31=>(a0q tab r.2.2 a0E a0E p24.1 t31).bind fun p32=>scope h p32.2 (a0f [p32.1])) fun x=>a1c x (scope h r.2.2 (a0f [.nils]))
theorem d2K (t0 t1:D) (h:Hp):R b1n [t0,t1] h=c7o t0 t1 h :=
 er i58 (by kernel_rfl) (by kernel_rfl)
noncomputable def b3b (t9m t10:D) (ds:List D) (h_1:Hp):Option Out :=
 (a0i tab .lss ty3 (nth 2 ds) t10).bind fun t12=>dIf t12
  ((a0b tab a2a t9m (nth 2 ds)).bind fun t13=>(a0c tab h_1 a0L t13).bind fun t14=>(a0t tab a0L t14).bind fun t17=>(a0i tab .add ty3 (nth 0 ds) t17).bind fun t18=>(a0i tab .lss ty3 t18 (.int .i64 0)).bind fun t20=>(dIf t20
  (((none:Option D)).bind fun t21=>((none:Option D)).bind fun t901=>some (.nrm,([]:List D),h_1))
  (some (.nrm,([]:List D),h_1))).bind fun r_1=>a0K (a0G 1 r_1.1) ((a0i tab .add ty3 (nth 2 ds) (.int .i64 1)).bind fun t22=>some (.nrm,[t18,t14,t22,t12,t20],r_1.2.2)) fun x=>some (x,[t18,t14,nth 2 ds,t12,t20],r_1.2.2))
  (some ((.ext 0),[nth 0 ds,nth 1 ds,nth 2 ds,t12,nth 4 ds],h_1))
noncomputable def b3c (t25m t26:D) (ds_1:List D) (h_2:Hp):Option Out :=
 (a0i tab .lss ty3 (nth 2 ds_1) t26).bind fun t28=>dIf t28
  ((a0b tab a2a t25m (nth 2 ds_1)).bind fun t29=>(a0c tab h_2 a0L t29).bind fun t30=>(a0q tab h_2 a0L a0L (nth 0 ds_1) t30).bind fun p33=>(a0i tab .add ty3 (nth 2 ds_1) (.int .i64 1)).bind fun t34=>some (.nrm,[p33.1,t30,t34,t28],p33.2))
  (some ((.ext 2),[nth 0 ds_1,nth 1 ds_1,nth 2 ds_1,t28],h_2))
noncomputable def c6d (t0:D) (h:Hp):Option (D × Hp) :=
 (a0t tab a2a t0).bind fun t10=>((a0J (b3b t0 t10) [.int .i64 0,.any,.int .i64 0,.any,.any] h).bind fun r=>some ((a0G 0 r.1),[nth 0 r.2.1,nth 1 r.2.1,nth 2 r.2.1,nth 3 r.2.1,nth 4 r.2.1],r.2.2)).bind fun r_2=>a0K r_2.1 ((R b7x [.nils,nth 0 r_2.2.1] r_2.2.2).bind fun p24=>(a0t tab a2a t0).bind fun t26=>((a0J (b3c t0 t26) [p24.1,.any,.int .i64 0,.any] p24.2).bind fun r_3=>some ((a0G 2 r_3.1),[nth 0 r_3.2.1,nth 1 r_3.2.1,nth 2 r_3.2.1,nth 3 r_3.2.1],r_3.2.2)).bind fun r_4=>a0K r_4.1 (some (a0f [nth 0 r_4.2.1],r_4.2.2)) fun x_2=>a1c x_2 (some (a0f [.nils],r_4.2.2))) fun x_1=>a1c x_1 (some (a0f [.nils],r_2.2.2))
theorem d1w (t0:D) (h:Hp):R a8H [t0] h=c6d t0 h :=
 er i59 (by kernel_rfl) (by kernel_rfl)
noncomputable def c6e (t0 t1:D) (h:Hp):Option (D × Hp) :=
 (a0W tab a2a 2 [0,1] [t0,t1]).bind fun t7=>(R a8H [t7] h).bind fun p8=>(R b7y [p8.1] p8.2).bind fun p9=>scope h p9.2 (a0f [p9.1])
theorem d1x (t0 t1:D) (h:Hp):R b4l [t0,t1] h=c6e t0 t1 h :=
 er i60 (by kernel_rfl) (by kernel_rfl)
noncomputable def b6b (t0 t1:D) (ds:List D) (ds_1:List D) (h_2:Hp):Option Out :=
 (a0i tab .gtr ty3 (nth 2 ds_1) (.int .i64 0)).bind fun t24=>dIf t24
  ((a0i tab .add ty3 (.int .i64 5) (nth 1 ds)).bind fun t30=>(R d0u [t0,t1,t30,nth 1 ds_1] h_2).bind fun p32=>(a5U 11 p32.1).bind fun t12=>(a0c tab p32.2 a0z t12).bind fun t34=>(a0W tab a0S 1 [0] [t34]).bind fun t35=>(a0q tab p32.2 a0S a0S (nth 0 ds_1) t35).bind fun p36=>(a0a tab a0z 1 t12).bind fun t37=>(a0a tab a0y 3 t37).bind fun t38=>(a0c tab p36.2 ty3 t38).bind fun t39=>(a0i tab .sub ty3 (nth 2 ds_1) (.int .i64 1)).bind fun t26=>some (.nrm,[p36.1,t39,t26,t12,t24],p36.2))
  (some ((.ext 2),[nth 0 ds_1,nth 1 ds_1,nth 2 ds_1,nth 3 ds_1,t24],h_2))
noncomputable def c1O (t0 t1 t2:D) (ds:List D) (h_1:Hp):Option Out :=
 (R a5H [t0,.int .i64 3] h_1).bind fun p15=>(a0i tab .leq ty3 (nth 1 ds) p15.1).bind fun t16=>dIf t16
  ((a0i tab .add ty3 t2 (.int .i64 1)).bind fun t21=>(R a5H [t0,t21] p15.2).bind fun p22=>((a0J (b6b t0 t1 ds) [.nils,.int .i64 0,p22.1,nth 5 ds,nth 7 ds] p22.2).bind fun r_1=>some ((a0G 2 r_1.1),[nth 0 r_1.2.1,nth 1 r_1.2.1,nth 2 r_1.2.1,nth 3 r_1.2.1,nth 4 r_1.2.1],r_1.2.2)).bind fun r_2=>a0K r_2.1 ((a0W tab a4s 1 [0] [nth 0 r_2.2.1]).bind fun t42=>(a0q tab r_2.2.2 a4s a4s (nth 0 ds) t42).bind fun p43=>(a0i tab .add ty3 (nth 1 ds) (.int .i64 1)).bind fun t18=>some (.nrm,[p43.1,t18,nth 0 r_2.2.1,nth 1 r_2.2.1,nth 2 r_2.2.1,nth 3 r_2.2.1,t16,nth 4 r_2.2.1],p43.2)) fun x=>a0K (a0G 1 x) ((a0i tab .add ty3 (nth 1 ds) (.int .i64 1)).bind fun t18_1=>some (.nrm,[nth 0 ds,t18_1,nth 0 r_2.2.1,nth 1 r_2.2.1,nth 2 r_2.2.1,nth 3 r_2.2.1,t16,nth 4 r_2.2.1],r_2.2.2)) fun x_1=>some (x_1,[nth 0 ds,nth 1 ds,nth 0 r_2.2.1,nth 1 r_2.2.1,nth 2 r_2.2.1,nth 3 r_2.2.1,t16,nth 4 r_2.2.1],r_2.2.2))
  (some ((.ext 0),[nth 0 ds,nth 1 ds,nth 2 ds,nth 3 ds,nth 4 ds,nth 5 ds,t16,nth 7 ds],p15.2))
noncomputable def F71 (t0 t1 t2:D) (h:Hp):Option (D × Hp) :=
 ((a0J (c1O t0 t1 t2) [.nils,.int .i64 0,.any,.any,.any,.any,.any,.any] h).bind fun r=>some ((a0G 0 r.1),[nth 0 r.2.1,nth 1 r.2.1,nth 2 r.2.1,nth 3 r.2.1,nth 4 r.2.1,nth 5 r.2.1,nth 6 r.2.1,nth 7 r.2.1],r.2.2)).bind fun r_3=>a0K r_3.1 (scope h r_3.2.2 (a0f [nth 0 r_3.2.1])) fun x_2=>a1c x_2 (scope h r_3.2.2 (a0f [.nils]))
theorem e71 (t0 t1 t2:D) (h:Hp):R d0t [t0,t1,t2] h=F71 t0 t1 t2 h :=
 er i61 (by kernel_rfl) (by kernel_rfl)
noncomputable def b3k (t3:D) (p5:D × Hp) (t6m:D) (ds:List D) (h_1:Hp):Option Out :=
 (a0t tab a1j t6m).bind fun t26=>(a0i tab .lss ty3 (nth 0 ds) t26).bind fun t27=>dIf t27
  ((a0a tab a0z 0 t3).bind fun t30=>(a0c tab h_1 ty9 t30).bind fun t31=>(a0i tab .neq ty9 t31 (.str [])).bind fun t32=>(dIf t32
  ((a0b tab a1j t6m (nth 0 ds)).bind fun t35=>(a0a tab a1Z 2 t35).bind fun t36=>((a0p tab h_1 ty9 t36 (.str [])).bind fun h'=>some ((.und:D),h')).bind fun p904=>some (.nrm,([]:List D),p904.2))
  (some (.nrm,([]:List D),h_1))).bind fun r_1=>a0K r_1.1 ((a0a tab a0z 1 p5.1).bind fun t37=>(a0a tab a0y 4 t37).bind fun t38=>(a0c tab r_1.2.2 a1j t38).bind fun t39=>(a0b tab a1j t6m (nth 0 ds)).bind fun t42=>(a0c tab r_1.2.2 a1Z t42).bind fun t43=>(a0W tab a1j 1 [0] [t43]).bind fun t44=>(a0q tab r_1.2.2 a1j a1j t39 t44).bind fun p45=>(a0a tab a0z 1 p5.1).bind fun t46=>(a0a tab a0y 4 t46).bind fun t47=>((a0p tab p45.2 a1j t47 p45.1).bind fun h'=>some ((.und:D),h')).bind fun p911=>(a0i tab .add ty3 (nth 0 ds) (.int .i64 1)).bind fun t29=>some (.nrm,[t29,t27,t32],p911.2)) fun x=>a0K (a0G 1 x) ((a0i tab .add ty3 (nth 0 ds) (.int .i64 1)).bind fun t29_1=>some (.nrm,[t29_1,t27,t32],r_1.2.2)) fun x_1=>some (x_1,[nth 0 ds,t27,t32],r_1.2.2))
  (some ((.ext 0),[nth 0 ds,t27,nth 2 ds],h_1))
noncomputable def c6F (t0 t1:D) (h:Hp):Option (D × Hp) :=
 (a1B t0).bind fun t2=>(a1B t1).bind fun t3=>(some ((.ptr h.length 0 0:D),a0C h a0z 11 [[.str [],.int .i64 0,.int .i64 0,.int .i64 0,.int .i64 0,.nils,.int .i64 0,.int .i64 0,.str [],.str [],.nils]])).bind fun p4=>(a0c tab p4.2 a0z t3).bind fun t8=>(some ((.ptr p4.2.length 0 0:D),a0C p4.2 a0z 11 [[.str [],.int .i64 0,.int .i64 0,.int .i64 0,.int .i64 0,.nils,.int .i64 0,.int .i64 0,.str [],.str [],.nils]])).bind fun p5=>((a0p tab p5.2 a0z p5.1 t8).bind fun h'=>some ((.und:D),h')).bind fun p902=>(a0a tab a0z 1 t2).bind fun t9=>(a0a tab a0y 2 t9).bind fun t10=>(a0c tab p902.2 ty3 t10).bind fun t11=>(a0a tab a0z 1 p5.1).bind fun t12=>(a0a tab a0y 2 t12).bind fun t13=>((a0p tab p902.2 ty3 t13 t11).bind fun h'=>some ((.und:D),h')).bind fun p905=>(a0a tab a0z 1 p5.1).bind fun t14=>(a0a tab a0y 4 t14).bind fun t15=>((a0p tab p905.2 a1j t15 (.nils)).bind fun h'=>some ((.und:D),h')).bind fun p902_1=>(a0a tab a0z 1 t2).bind fun t16=>(a0a tab a0y 4 t16).bind fun t17=>(a0c tab p902_1.2 a1j t17).bind fun t18=>(a0q tab p902_1.2 a1j a1j (.nils) t18).bind fun p19=>(a0a tab a0z 1 t3).bind fun t20=>(a0a tab a0y 4 t20).bind fun t21=>(a0c tab p19.2 a1j t21).bind fun t22=>(a0q tab p19.2 a1j a1j p19.1 t22).bind fun p23=>chk (a0c tab p902_1.2 a1j t21=some t22)
 (((a0J (b3k t3 p5 p23.1) [.int .i64 0,.any,.any] p23.2).bind fun r=>some ((a0G 0 r.1),[nth 0 r.2.1,nth 1 r.2.1,nth 2 r.2.1],r.2.2)).bind fun r_2=>a0K r_2.1 ((a0c tab r_2.2.2 a0z p5.1).bind fun t48=>((a0p tab r_2.2.2 a0z p4.1 t48).bind fun h'=>some ((.und:D),h')).bind fun p901=>(a0c tab p901.2 a0z p4.1).bind fun d0=>scope h p901.2 (a0f [d0])) fun x_2=>a1c x_2 ((a0c tab r_2.2.2 a0z p4.1).bind fun d0=>scope h r_2.2.2 (a0f [d0])))
theorem d2a (t0 t1:D) (h:Hp):R b4r [t0,t1] h=c6F t0 t1 h :=
 er i62 (by kernel_rfl) (by kernel_rfl)
noncomputable def c6i (t0:D) (h:Hp):Option (D × Hp) :=
 (a1B t0).bind fun t1=>(a0a tab a0z 1 t1).bind fun t5=>(a0c tab h a0y t5).bind fun t6=>(a5U 10 t6).bind fun t3=>(a0a tab a0z 0 t1).bind fun t8=>(a0c tab h ty9 t8).bind fun t9=>(a0i tab .eql ty9 t9 (.str [])).bind fun t10=>dIf t10
  ((a0c tab h a0y t3).bind fun t11=>(R b1a [t11] h).bind fun p12=>some (a0f [p12.1],p12.2))
  ((a0a tab a0z 0 t1).bind fun t14=>(a0c tab h ty9 t14).bind fun t15=>(a0t tab ty9 t15).bind fun t16=>(a0i tab .gtr ty3 t16 (.int .i64 32)).bind fun t17=>dIf t17
  (some (a0f [.int .i64 3],h))
  ((a0c tab h a0y t3).bind fun t19=>(R b4n [t19] h).bind fun p20=>(dUn .not p20.1).bind fun t21=>dIf t21
  (some (a0f [.int .i64 2],p20.2))
  ((a0c tab p20.2 a0y t3).bind fun t22=>(R b4o [t22,.int .i64 60000] p20.2).bind fun p23=>(a0i tab .eql a5J p23.1 (.int .i64 9)).bind fun t25=>(gd t25 false (some p23.1)).bind fun t27=>(gd t25 false (a0i tab .eql a5J t27 (.int .i64 4))).bind fun t28=>(a0R t25 (.bool true) t28).bind fun t29=>(gd t29 false (some p23.1)).bind fun t31=>(gd t29 false (a0i tab .eql a5J t31 (.int .i64 19))).bind fun t32=>(a0R t29 (.bool true) t32).bind fun t33=>dIf t33
  (some (a0f [p23.1],p23.2))
  ((a0a tab a0y 5 t3).bind fun t35=>(a0c tab p23.2 ty3 t35).bind fun t36=>(a0i tab .neq ty3 t36 (.int .i64 0)).bind fun t37=>(gd t37 false (a0a tab a0y 6 t3)).bind fun t39=>(gd t37 false (a0c tab p23.2 ty3 t39)).bind fun t40=>(gd t37 false (a0i tab .neq ty3 t40 (.int .i64 0))).bind fun t41=>(a0R t37 (.bool true) t41).bind fun t42=>(gd t42 false (a0a tab a0y 7 t3)).bind fun t44=>(gd t42 false (a0c tab p23.2 ty9 t44)).bind fun t45=>(gd t42 false (a0i tab .neq ty9 t45 (.str []))).bind fun t46=>(a0R t42 (.bool true) t46).bind fun t47=>(gd t47 false (a0a tab a0y 8 t3)).bind fun t49=>(gd t47 false (a0c tab p23.2 ty9 t49)).bind fun t50=>(gd t47 false (a0i tab .neq ty9 t50 (.str []))).bind fun t51=>(a0R t47 (.bool true) t51).bind fun t52=>(gd t52 false (a0a tab a0y 9 t3)).bind fun t54=>(gd t52 false (a0c tab p23.2 a1p t54)).bind fun t55=>(gd t52 false (a0t tab a1p t55)).bind fun t56=>(gd t52 false (a0i tab .neq ty3 t56 (.int .i64 0))).bind fun t57=>(a0R t52 (.bool true) t57).bind fun t58=>(gd t58 false (a0a tab a0y 4 t3)).bind fun t60=>(gd t58 false (a0c tab p23.2 a1j t60)).bind fun t61=>(gdW t58 false p23.2 (R b7z [t61,.fn (.func b1b) [] []] p23.2)).bind fun p62=>(a0R t58 (.bool true) p62.1).bind fun t63=>dIf t63
  (some (a0f [.int .i64 19],p62.2))
  (some (a0f [.int .i64 0],p62.2))))))
theorem d1C (t0:D) (h:Hp):R a6h [t0] h=c6i t0 h :=
 er i63 (by kernel_rfl) (by kernel_rfl)
noncomputable def a9l (t0 t33 t34:D) (ds:List D) (h_1:Hp):Option Out :=
 (a0i tab .lss ty3 (nth 1 ds) t34).bind fun t36=>dIf t36
  ((a0b tab a6r t33 (nth 1 ds)).bind fun t37=>(a0c tab h_1 c3g t37).bind fun t38=>(a2U tab R "logtide/event.number" [t0,t38] h_1).bind fun p41=>(a0i tab .add ty3 (nth 1 ds) (.int .i64 1)).bind fun t42=>some (.nrm,[t38,t42,t36],p41.2))
  (some ((.ext 0),[nth 0 ds,nth 1 ds,t36],h_1))
noncomputable def a7g (t0 t4m:D) (p52:D × Hp) (ds_1:List D) (h_2:Hp):Option Out :=
 (a0i tab .lss ty3 (nth 2 ds_1) p52.1).bind fun t54=>dIf t54
  ((a0h tab t4m).bind fun t58=>(a0a tab a0y 4 t58).bind fun t59=>(a0c tab h_2 a1j t59).bind fun t60=>(a0t tab a1j t60).bind fun t61=>(a0i tab .eql ty3 (nth 2 ds_1) t61).bind fun t62=>(dIf t62
  ((a0h tab t4m).bind fun t65=>(a0a tab a0y 4 t65).bind fun t66=>(a0c tab h_2 a1j t66).bind fun t67=>(a0U tab a1Z [] []).bind fun t68=>(a0W tab a1j 1 [0] [t68]).bind fun t69=>(a0q tab h_2 a1j a1j t67 t69).bind fun p70=>(a0h tab t4m).bind fun t71=>(a0a tab a0y 4 t71).bind fun t72=>((a0p tab p70.2 a1j t72 p70.1).bind fun h'=>some ((.und:D),h')).bind fun p910=>some (.nrm,([]:List D),p910.2))
  (some (.nrm,([]:List D),h_2))).bind fun r_3=>a0K r_3.1 ((a0h tab t4m).bind fun t74=>(a0a tab a0y 4 t74).bind fun t75=>(a0c tab r_3.2.2 a1j t75).bind fun t76=>(a0b tab a1j t76 (nth 2 ds_1)).bind fun t78=>(a0h tab t78).bind fun t81=>(a0a tab a1Z 0 t81).bind fun t82=>(some (.fn (.method "logtide/event.number") [t0] []:D)).bind fun t83=>(a0h tab t83).bind fun t84=>(a2U tab R "logtide/event.number" [t0,t82] r_3.2.2).bind fun p86=>(a0h tab t78).bind fun t89=>(a0a tab a1Z 1 t89).bind fun t90=>(some (.fn (.method "logtide/event.number") [t0] []:D)).bind fun t91=>(a0h tab t91).bind fun t92=>(a2U tab R "logtide/event.number" [t0,t90] p86.2).bind fun p94=>(a0h tab t78).bind fun t97=>(a0a tab a1Z 2 t97).bind fun t98=>(some (.fn (.method "logtide/event.text") [t0] []:D)).bind fun t99=>(a0h tab t99).bind fun t100=>(a2U tab R "logtide/event.text" [t0,t98] p94.2).bind fun p102=>(a0i tab .add ty3 (nth 2 ds_1) (.int .i64 1)).bind fun t103=>some (.nrm,[nth 2 ds_1,t78,t103,t54,t62],p102.2)) fun x_1=>a0K (a0G 3 x_1) ((a0i tab .add ty3 (nth 2 ds_1) (.int .i64 1)).bind fun t103_1=>some (.nrm,[nth 2 ds_1,nth 1 ds_1,t103_1,t54,t62],r_3.2.2)) fun x_2=>some (x_2,[nth 2 ds_1,nth 1 ds_1,nth 2 ds_1,t54,t62],r_3.2.2))
  (some ((.ext 2),[nth 0 ds_1,nth 1 ds_1,nth 2 ds_1,t54,nth 4 ds_1],h_2))
noncomputable def a7h (t0 t4m:D) (p145:D × Hp) (ds_2:List D) (h_3:Hp):Option Out :=
 (a0i tab .lss ty3 (nth 1 ds_2) p145.1).bind fun t147=>dIf t147
  ((a0h tab t4m).bind fun t151=>(a0a tab a0y 9 t151).bind fun t152=>(a0c tab h_3 a1p t152).bind fun t153=>(a0t tab a1p t153).bind fun t154=>(a0i tab .eql ty3 (nth 1 ds_2) t154).bind fun t155=>(dIf t155
  ((a0h tab t4m).bind fun t158=>(a0a tab a0y 9 t158).bind fun t159=>(a0c tab h_3 a1p t159).bind fun t160=>(a0U tab a0T [] []).bind fun t161=>(a0W tab a1p 1 [0] [t161]).bind fun t162=>(a0q tab h_3 a1p a1p t160 t162).bind fun p163=>(a0h tab t4m).bind fun t164=>(a0a tab a0y 9 t164).bind fun t165=>((a0p tab p163.2 a1p t165 p163.1).bind fun h'=>some ((.und:D),h')).bind fun p910_1=>some (.nrm,([]:List D),p910_1.2))
  (some (.nrm,([]:List D),h_3))).bind fun r_6=>a0K r_6.1 ((a0h tab t4m).bind fun t168=>(a0a tab a0y 9 t168).bind fun t169=>(a0c tab r_6.2.2 a1p t169).bind fun t170=>(a0b tab a1p t170 (nth 1 ds_2)).bind fun t172=>(a0a tab a0T 0 t172).bind fun t173=>(some (.fn (.method "logtide/event.text") [t0] []:D)).bind fun t174=>(a0h tab t174).bind fun t175=>(a2U tab R "logtide/event.text" [t0,t173] r_6.2.2).bind fun p177=>(a0h tab t4m).bind fun t180=>(a0a tab a0y 9 t180).bind fun t181=>(a0c tab p177.2 a1p t181).bind fun t182=>(a0b tab a1p t182 (nth 1 ds_2)).bind fun t184=>(a0a tab a0T 1 t184).bind fun t185=>(some (.fn (.method "logtide/event.text") [t0] []:D)).bind fun t186=>(a0h tab t186).bind fun t187=>(a2U tab R "logtide/event.text" [t0,t185] p177.2).bind fun p189=>(a0i tab .add ty3 (nth 1 ds_2) (.int .i64 1)).bind fun t190=>some (.nrm,[nth 1 ds_2,t190,t147,t155],p189.2)) fun x_4=>a0K (a0G 5 x_4) ((a0i tab .add ty3 (nth 1 ds_2) (.int .i64 1)).bind fun t190_1=>some (.nrm,[nth 1 ds_2,t190_1,t147,t155],r_6.2.2)) fun x_5=>some (x_5,[nth 1 ds_2,nth 1 ds_2,t147,t155],r_6.2.2))
  (some ((.ext 4),[nth 0 ds_2,nth 1 ds_2,t147,nth 3 ds_2],h_3))
noncomputable def c3w (t0 t1:D) (h:Hp):Option (D × Hp) :=
 (a0h tab t1).bind fun t11=>(a0a tab a0z 1 t11).bind fun t12=>(a0h tab t1).bind fun t15=>(a0a tab a0z 0 t15).bind fun t16=>(some (.fn (.method "logtide/event.text") [t0] []:D)).bind fun t17=>(a0h tab t17).bind fun t18=>(a2U tab R "logtide/event.text" [t0,t16] h).bind fun p20=>(a0h tab t12).bind fun t22=>(a0a tab a0y 0 t22).bind fun t23=>(a0h tab t12).bind fun t25=>(a0a tab a0y 1 t25).bind fun t26=>(a0h tab t12).bind fun t28=>(a0a tab a0y 2 t28).bind fun t29=>(a0h tab t12).bind fun t31=>(a0a tab a0y 3 t31).bind fun t32=>(a0W tab a6r 4 [0,1,2,3] [t23,t26,t29,t32]).bind fun t33=>(a0t tab a6r t33).bind fun t34=>((a0J (a9l t0 t33 t34) [.any,.int .i64 0,.any] p20.2).bind fun r=>some ((a0G 0 r.1),[nth 0 r.2.1,nth 1 r.2.1,nth 2 r.2.1],r.2.2)).bind fun r_1=>a0K r_1.1 ((a0h tab t12).bind fun t45=>(a0a tab a0y 4 t45).bind fun t46=>(a0c tab r_1.2.2 a1j t46).bind fun t47=>(a0t tab a1j t47).bind fun t48=>(some (.fn (.method "logtide/event.count") [t0] []:D)).bind fun t49=>(a0h tab t49).bind fun t50=>(a2U tab R "logtide/event.count" [t0,t48] r_1.2.2).bind fun p52=>((a0J (a7g t0 t12 p52) [.any,.any,.int .i64 0,.any,.any] p52.2).bind fun r_2=>some ((a0G 2 r_2.1),[nth 0 r_2.2.1,nth 1 r_2.2.1,nth 2 r_2.2.1,nth 3 r_2.2.1,nth 4 r_2.2.1],r_2.2.2)).bind fun r_4=>a0K r_4.1 ((a0h tab t12).bind fun t106=>(a0a tab a0y 5 t106).bind fun t107=>(some (.fn (.method "logtide/event.number") [t0] []:D)).bind fun t108=>(a0h tab t108).bind fun t109=>(a2U tab R "logtide/event.number" [t0,t107] r_4.2.2).bind fun p111=>(a0h tab t12).bind fun t114=>(a0a tab a0y 6 t114).bind fun t115=>(some (.fn (.method "logtide/event.number") [t0] []:D)).bind fun t116=>(a0h tab t116).bind fun t117=>(a2U tab R "logtide/event.number" [t0,t115] p111.2).bind fun p119=>(a0h tab t12).bind fun t122=>(a0a tab a0y 7 t122).bind fun t123=>(some (.fn (.method "logtide/event.text") [t0] []:D)).bind fun t124=>(a0h tab t124).bind fun t125=>(a2U tab R "logtide/event.text" [t0,t123] p119.2).bind fun p127=>(a0h tab t12).bind fun t130=>(a0a tab a0y 8 t130).bind fun t131=>(some (.fn (.method "logtide/event.text") [t0] []:D)).bind fun t132=>(a0h tab t132).bind fun t133=>(a2U tab R "logtide/event.text" [t0,t131] p127.2).bind fun p135=>(a0h tab t12).bind fun t138=>(a0a tab a0y 9 t138).bind fun t139=>(a0c tab p135.2 a1p t139).bind fun t140=>(a0t tab a1p t140).bind fun t141=>(some (.fn (.method "logtide/event.count") [t0] []:D)).bind fun t142=>(a0h tab t142).bind fun t143=>(a2U tab R "logtide/event.count" [t0,t141] p135.2).bind fun p145=>((a0J (a7h t0 t12 p145) [.any,.int .i64 0,.any,.any] p145.2).bind fun r_5=>some ((a0G 4 r_5.1),[nth 0 r_5.2.1,nth 1 r_5.2.1,nth 2 r_5.2.1,nth 3 r_5.2.1],r_5.2.2)).bind fun r_7=>a1c r_7.1 (some (a0f [],r_7.2.2))) fun x_3=>a1c x_3 (some (a0f [],r_4.2.2))) fun x=>a1c x (some (a0f [],r_1.2.2))
theorem c7U (t0 t1:D) (h:Hp):R b1k [t0,t1] h=c3w t0 t1 h :=
 er i64 (by kernel_rfl) (by kernel_rfl)
noncomputable def a7i (t1:D) (ds:List D) (h_1:Hp):Option Out :=
 (a0i tab .geq ty3 (nth 1 ds) (.int .i64 0)).bind fun t12=>dIf t12
  ((a0i tab .shr a1h t1 (nth 1 ds)).bind fun t18=>(a1m tab a1h ty5 t18).bind fun t19=>(a0W tab a0L 1 [0] [t19]).bind fun t20=>(a0q tab h_1 a0L a0L (nth 0 ds) t20).bind fun p21=>(a0i tab .sub ty3 (nth 1 ds) (.int .i64 8)).bind fun t14=>some (.nrm,[p21.1,t14,t12],p21.2))
  (some ((.ext 0),[nth 0 ds,nth 1 ds,t12],h_1))
noncomputable def c6W (t0 t1 t2:D) (h:Hp):Option (D × Hp) :=
 (a0i tab .sub ty3 t2 (.int .i64 1)).bind fun t9=>(a0i tab .mul ty3 (.int .i64 8) t9).bind fun t10=>((a0J (a7i t1) [t0,t10,.any] h).bind fun r=>some ((a0G 0 r.1),[nth 0 r.2.1,nth 1 r.2.1,nth 2 r.2.1],r.2.2)).bind fun r_1=>a0K r_1.1 (some (a0f [nth 0 r_1.2.1],r_1.2.2)) fun x=>a1c x (some (a0f [.nils],r_1.2.2))
theorem d2t (t0 t1 t2:D) (h:Hp):R a4o [t0,t1,t2] h=c6W t0 t1 t2 h :=
 er i65 (by kernel_rfl) (by kernel_rfl)
noncomputable def b3r (t6m t7:D) (ds:List D) (h_1:Hp):Option Out :=
 (a0i tab .lss ty3 (nth 2 ds) t7).bind fun t9=>dIf t9
  ((a0b tab a0L t6m (nth 2 ds)).bind fun t10=>(a0c tab h_1 ty5 t10).bind fun t11=>(a0i tab .mul a1h (nth 0 ds) (.int .u64 31)).bind fun t13=>(a1m tab ty5 a1h t11).bind fun t15=>(a0i tab .add a1h t13 t15).bind fun t16=>(a0i tab .rem a1h t16 (.int .u64 4294967291)).bind fun t17=>(a0i tab .add ty3 (nth 2 ds) (.int .i64 1)).bind fun t18=>some (.nrm,[t17,t11,t18,t9],h_1))
  (some ((.ext 0),[nth 0 ds,nth 1 ds,nth 2 ds,t9],h_1))
noncomputable def c6X (t0:D) (h:Hp):Option (D × Hp) :=
 (a0t tab a0L t0).bind fun t7=>((a0J (b3r t0 t7) [.int .u64 1,.any,.int .i64 0,.any] h).bind fun r=>some ((a0G 0 r.1),[nth 0 r.2.1,nth 1 r.2.1,nth 2 r.2.1,nth 3 r.2.1],r.2.2)).bind fun r_1=>a0K r_1.1 (some (a0f [nth 0 r_1.2.1],r_1.2.2)) fun x=>a1c x (some (a0f [.int .u64 0],r_1.2.2))
theorem d2u (t0:D) (h:Hp):R b4B [t0] h=c6X t0 h :=
 er i66 (by kernel_rfl) (by kernel_rfl)
noncomputable def b2W (t3:D) (ds:List D) (h_1:Hp):Option Out :=
 (a0a tab a0y 4 t3).bind fun t58=>(a0c tab h_1 a1j t58).bind fun t59=>(a0t tab a1j t59).bind fun t60=>(a0i tab .lss ty3 (nth 1 ds) t60).bind fun t61=>dIf t61
  ((a0a tab a0y 4 t3).bind fun t64=>(a0c tab h_1 a1j t64).bind fun t65=>(a0b tab a1j t65 (nth 1 ds)).bind fun t67=>(a0a tab a1Z 2 t67).bind fun t68=>(a0c tab h_1 ty9 t68).bind fun t69=>(a0i tab .neq ty9 t69 (.str [])).bind fun t70=>dIf t70
  (some (.ret,[.int .i64 19,nth 1 ds,t61,t70],h_1))
  ((a0i tab .add ty3 (nth 1 ds) (.int .i64 1)).bind fun t63=>some (.nrm,[nth 0 ds,t63,t61,t70],h_1)))
  (some ((.ext 0),[nth 0 ds,nth 1 ds,t61,nth 3 ds],h_1))
noncomputable def c5M (t0:D) (h:Hp):Option (D × Hp) :=
 (a1B t0).bind fun t1=>(a0a tab a0z 0 t1).bind fun t7=>(a0c tab h ty9 t7).bind fun t8=>(a0i tab .eql ty9 t8 (.str [])).bind fun t9=>dIf t9
  ((a0a tab a0z 1 t1).bind fun t10=>(a0c tab h a0y t10).bind fun t11=>(R b7o [t11] h).bind fun p12=>some (a0f [p12.1],p12.2))
  ((a0a tab a0z 0 t1).bind fun t13=>(a0c tab h ty9 t13).bind fun t14=>(a0t tab ty9 t14).bind fun t15=>(a0i tab .gtr ty3 t15 (.int .i64 32)).bind fun t16=>dIf t16
  (some (a0f [.int .i64 3],h))
  ((a0a tab a0z 1 t1).bind fun t17=>(a0c tab h a0y t17).bind fun t18=>(a5U 10 t18).bind fun t3=>(a0c tab h a0y t3).bind fun t19=>(R b4f [t19] h).bind fun p20=>(a0i tab .neq a5J p20.1 (.int .i64 0)).bind fun t22=>dIf t22
  (some (a0f [p20.1],p20.2))
  ((a0c tab p20.2 a0y t3).bind fun t24=>(R b4g [t24,.int .i64 20000] p20.2).bind fun p25=>(a0i tab .neq a5J p25.1 (.int .i64 0)).bind fun t27=>(gd t27 true (some p25.1)).bind fun t29=>(gd t27 true (a0i tab .neq a5J t29 (.int .i64 3))).bind fun t30=>(a0R t27 t30 (.bool false)).bind fun t31=>dIf t31
  (some (a0f [p25.1],p25.2))
  ((a0a tab a0y 5 t3).bind fun t33=>(a0c tab p25.2 ty3 t33).bind fun t34=>(a0i tab .neq ty3 t34 (.int .i64 0)).bind fun t35=>(gd t35 false (a0a tab a0y 6 t3)).bind fun t37=>(gd t35 false (a0c tab p25.2 ty3 t37)).bind fun t38=>(gd t35 false (a0i tab .neq ty3 t38 (.int .i64 0))).bind fun t39=>(a0R t35 (.bool true) t39).bind fun t40=>(gd t40 false (a0a tab a0y 7 t3)).bind fun t42=>(gd t40 false (a0c tab p25.2 ty9 t42)).bind fun t43=>(gd t40 false (a0i tab .neq ty9 t43 (.str []))).bind fun t44=>(a0R t40 (.bool true) t44).bind fun t45=>(gd t45 false (a0a tab a0y 8 t3)).bind fun t47=>(gd t45 false (a0c tab p25.2 ty9 t47)).bind fun t48=>(gd t45 false (a0i tab .neq ty9 t48 (.str []))).bind fun t49=>(a0R t45 (.bool true) t49).bind fun t50=>(gd t50 false (a0a tab a0y 9 t3)).bind fun t52=>(gd t50 false (a0c tab p25.2 a1p t52)).bind fun t53=>(gd t50 false (a0t tab a1p t53)).bind fun t54=>(gd t50 false (a0i tab .neq ty3 t54 (.int .i64 0))).bind fun t55=>(a0R t50 (.bool true) t55).bind fun t56=>dIf t56
  (some (a0f [.int .i64 19],p25.2))
  (((a0J (b2W t3) [.int .i64 0,.int .i64 0,.any,.any] p25.2).bind fun r=>some ((a0G 0 r.1),[nth 0 r.2.1,nth 1 r.2.1,nth 2 r.2.1,nth 3 r.2.1],r.2.2)).bind fun r_1=>a0K r_1.1 (some (a0f [.int .i64 0],r_1.2.2)) fun x=>a1c x (some (a0f [nth 0 r_1.2.1],r_1.2.2)))))))
theorem d0Z (t0:D) (h:Hp):R b0Z [t0] h=c5M t0 h :=
 er i67 (by kernel_rfl) (by kernel_rfl)
noncomputable def a9j (t3:D) (ds:List D) (h_1:Hp):Option Out :=
 (a0a tab a0y 4 t3).bind fun t32=>(a0c tab h_1 a1j t32).bind fun t33=>(a0t tab a1j t33).bind fun t34=>(a0i tab .lss ty3 (nth 1 ds) t34).bind fun t35=>dIf t35
  ((a0a tab a0y 4 t3).bind fun t39=>(a0c tab h_1 a1j t39).bind fun t40=>(a0b tab a1j t40 (nth 1 ds)).bind fun t42=>(a0a tab a1Z 0 t42).bind fun t43=>(a0c tab h_1 ty3 t43).bind fun t44=>(R a4A [nth 0 ds,t44] h_1).bind fun p45=>(a0a tab a0y 4 t3).bind fun t46=>(a0c tab p45.2 a1j t46).bind fun t47=>(a0b tab a1j t47 (nth 1 ds)).bind fun t49=>(a0a tab a1Z 1 t49).bind fun t50=>(a0c tab p45.2 ty3 t50).bind fun t51=>(R a4A [p45.1,t51] p45.2).bind fun p52=>(a0a tab a0y 4 t3).bind fun t53=>(a0c tab p52.2 a1j t53).bind fun t54=>(a0b tab a1j t54 (nth 1 ds)).bind fun t56=>(a0a tab a1Z 2 t56).bind fun t57=>(a0c tab p52.2 ty9 t57).bind fun t58=>(R a6j [p52.1,t58] p52.2).bind fun p59=>chk (a0c tab h_1 a1j t46=some t47)
 (chk (a0c tab h_1 ty3 t50=some t51)
 (chk (a0c tab h_1 a1j t53=some t54)
 (chk (a0c tab p45.2 a1j t53=some t54)
 (chk (a0c tab h_1 ty9 t57=some t58)
 (chk (a0c tab p45.2 ty9 t57=some t58)
 ((a0i tab .add ty3 (nth 1 ds) (.int .i64 1)).bind fun t37=>some (.nrm,[p59.1,t37,t35],p59.2))))))))
  (some ((.ext 0),[nth 0 ds,nth 1 ds,t35],h_1))
noncomputable def a9k (t3:D) (ds_1:List D) (h_2:Hp):Option Out :=
 (a0a tab a0y 9 t3).bind fun t80=>(a0c tab h_2 a1p t80).bind fun t81=>(a0t tab a1p t81).bind fun t82=>(a0i tab .lss ty3 (nth 1 ds_1) t82).bind fun t83=>dIf t83
  ((a0a tab a0y 9 t3).bind fun t87=>(a0c tab h_2 a1p t87).bind fun t88=>(a0b tab a1p t88 (nth 1 ds_1)).bind fun t90=>(a0a tab a0T 0 t90).bind fun t91=>(a0c tab h_2 ty9 t91).bind fun t92=>(R a6j [nth 0 ds_1,t92] h_2).bind fun p93=>(a0a tab a0y 9 t3).bind fun t94=>(a0c tab p93.2 a1p t94).bind fun t95=>(a0b tab a1p t95 (nth 1 ds_1)).bind fun t97=>(a0a tab a0T 1 t97).bind fun t98=>(a0c tab p93.2 ty9 t98).bind fun t99=>(R a6j [p93.1,t99] p93.2).bind fun p100=>chk (a0c tab h_2 a1p t94=some t95)
 (chk (a0c tab h_2 ty9 t98=some t99)
 ((a0i tab .add ty3 (nth 1 ds_1) (.int .i64 1)).bind fun t85=>some (.nrm,[p100.1,t85,t83],p100.2))))
  (some ((.ext 2),[nth 0 ds_1,nth 1 ds_1,t83],h_2))
noncomputable def c6P (t0:D) (h:Hp):Option (D × Hp) :=
 (a1B t0).bind fun t1=>(a0a tab a0z 1 t1).bind fun t7=>(a0c tab h a0y t7).bind fun t8=>(a5U 10 t8).bind fun t3=>(a0a tab a0z 0 t1).bind fun t9=>(a0c tab h ty9 t9).bind fun t10=>(R a6j [.nils,t10] h).bind fun p11=>(a0a tab a0y 0 t3).bind fun t13=>(a0c tab p11.2 ty3 t13).bind fun t14=>(R a4A [p11.1,t14] p11.2).bind fun p15=>(a0a tab a0y 1 t3).bind fun t16=>(a0c tab p15.2 ty3 t16).bind fun t17=>(R a4A [p15.1,t17] p15.2).bind fun p18=>(a0a tab a0y 2 t3).bind fun t19=>(a0c tab p18.2 ty3 t19).bind fun t20=>(R a4A [p18.1,t20] p18.2).bind fun p21=>(a0a tab a0y 3 t3).bind fun t22=>(a0c tab p21.2 ty3 t22).bind fun t23=>(R a4A [p21.1,t23] p21.2).bind fun p24=>chk (a0c tab p11.2 ty3 t16=some t17)
 (chk (a0c tab p11.2 ty3 t19=some t20)
 (chk (a0c tab p15.2 ty3 t19=some t20)
 (chk (a0c tab p11.2 ty3 t22=some t23)
 (chk (a0c tab p15.2 ty3 t22=some t23)
 (chk (a0c tab p18.2 ty3 t22=some t23)
 ((a0a tab a0y 4 t3).bind fun t26=>(a0c tab p24.2 a1j t26).bind fun t27=>(a0t tab a1j t27).bind fun t28=>(a1m tab ty3 a1h t28).bind fun t29=>(R a3N [p24.1,t29,.int .i64 4] p24.2).bind fun p30=>((a0J (a9j t3) [p30.1,.int .i64 0,.any] p30.2).bind fun r=>some ((a0G 0 r.1),[nth 0 r.2.1,nth 1 r.2.1,nth 2 r.2.1],r.2.2)).bind fun r_1=>a0K r_1.1 ((a0a tab a0y 5 t3).bind fun t61=>(a0c tab r_1.2.2 ty3 t61).bind fun t62=>(R a4A [nth 0 r_1.2.1,t62] r_1.2.2).bind fun p63=>(a0a tab a0y 6 t3).bind fun t64=>(a0c tab p63.2 ty3 t64).bind fun t65=>(R a4A [p63.1,t65] p63.2).bind fun p66=>(a0a tab a0y 7 t3).bind fun t67=>(a0c tab p66.2 ty9 t67).bind fun t68=>(R a6j [p66.1,t68] p66.2).bind fun p69=>(a0a tab a0y 8 t3).bind fun t70=>(a0c tab p69.2 ty9 t70).bind fun t71=>(R a6j [p69.1,t71] p69.2).bind fun p72=>chk (a0c tab r_1.2.2 ty3 t64=some t65)
 (chk (a0c tab r_1.2.2 ty9 t67=some t68)
 (chk (a0c tab p63.2 ty9 t67=some t68)
 (chk (a0c tab r_1.2.2 ty9 t70=some t71)
 (chk (a0c tab p63.2 ty9 t70=some t71)
 (chk (a0c tab p66.2 ty9 t70=some t71)
 ((a0a tab a0y 9 t3).bind fun t74=>(a0c tab p72.2 a1p t74).bind fun t75=>(a0t tab a1p t75).bind fun t76=>(a1m tab ty3 a1h t76).bind fun t77=>(R a3N [p72.1,t77,.int .i64 4] p72.2).bind fun p78=>((a0J (a9k t3) [p78.1,.int .i64 0,.any] p78.2).bind fun r_2=>some ((a0G 2 r_2.1),[nth 0 r_2.2.1,nth 1 r_2.2.1,nth 2 r_2.2.1],r_2.2.2)).bind fun r_3=>a0K r_3.1 (some (a0f [nth 0 r_3.2.1],r_3.2.2)) fun x_1=>a1c x_1 (some (a0f [.nils],r_3.2.2))))))))) fun x=>a1c x (some (a0f [.nils],r_1.2.2))))))))
theorem d2l (t0:D) (h:Hp):R b4x [t0] h=c6P t0 h :=
 er i68 (by kernel_rfl) (by kernel_rfl)
noncomputable def a7f (t1:D) (ds:List D) (h_1:Hp):Option Out :=
 (a0i tab .geq ty3 (nth 1 ds) (.int .i64 0)).bind fun t11=>dIf t11
  ((a0i tab .mul ty3 (.int .i64 8) (nth 1 ds)).bind fun t17=>(a1m tab ty3 b0t t17).bind fun t18=>(a0i tab .shr a1h t1 t18).bind fun t19=>(a1m tab a1h ty5 t19).bind fun t20=>(a0W tab a0L 1 [0] [t20]).bind fun t21=>(a0q tab h_1 a0L a0L (nth 0 ds) t21).bind fun p22=>(a0i tab .sub ty3 (nth 1 ds) (.int .i64 1)).bind fun t13=>some (.nrm,[p22.1,t13,t11],p22.2))
  (some ((.ext 0),[nth 0 ds,nth 1 ds,t11],h_1))
noncomputable def c6Q (t0 t1 t2:D) (h:Hp):Option (D × Hp) :=
 (a0i tab .sub ty3 t2 (.int .i64 1)).bind fun t9=>((a0J (a7f t1) [t0,t9,.any] h).bind fun r=>some ((a0G 0 r.1),[nth 0 r.2.1,nth 1 r.2.1,nth 2 r.2.1],r.2.2)).bind fun r_1=>a0K r_1.1 (some (a0f [nth 0 r_1.2.1],r_1.2.2)) fun x=>a1c x (some (a0f [.nils],r_1.2.2))
theorem d2m (t0 t1 t2:D) (h:Hp):R a3N [t0,t1,t2] h=c6Q t0 t1 t2 h :=
 er i69 (by kernel_rfl) (by kernel_rfl)
noncomputable def b3q (t0:D) (ds:List D) (h_1:Hp):Option Out :=
 (a0t tab a0L t0).bind fun t7=>(a0i tab .lss ty3 (nth 1 ds) t7).bind fun t8=>dIf t8
  ((a0i tab .mul a1h (nth 0 ds) (.int .u64 31)).bind fun t12=>(a0b tab a0L t0 (nth 1 ds)).bind fun t15=>(a0c tab h_1 ty5 t15).bind fun t16=>(a1m tab ty5 a1h t16).bind fun t17=>(a0i tab .add a1h t12 t17).bind fun t18=>(a0i tab .rem a1h t18 (.int .u64 4294967291)).bind fun t19=>(a0i tab .add ty3 (nth 1 ds) (.int .i64 1)).bind fun t10=>some (.nrm,[t19,t10,t8],h_1))
  (some ((.ext 0),[nth 0 ds,nth 1 ds,t8],h_1))
noncomputable def c6R (t0:D) (h:Hp):Option (D × Hp) :=
 ((a0J (b3q t0) [.int .u64 1,.int .i64 0,.any] h).bind fun r=>some ((a0G 0 r.1),[nth 0 r.2.1,nth 1 r.2.1,nth 2 r.2.1],r.2.2)).bind fun r_1=>a0K r_1.1 (some (a0f [nth 0 r_1.2.1],r_1.2.2)) fun x=>a1c x (some (a0f [.int .u64 0],r_1.2.2))
theorem d2o (t0:D) (h:Hp):R b4y [t0] h=c6R t0 h :=
 er i70 (by kernel_rfl) (by kernel_rfl)
noncomputable def b3s (t6m t7:D) (ds:List D) (h_1:Hp):Option Out :=
 (a0i tab .lss ty3 (nth 2 ds) t7).bind fun t9=>dIf t9
  ((a0b tab a0L t6m (nth 2 ds)).bind fun t10=>(a0c tab h_1 ty5 t10).bind fun t11=>(a0i tab .shl a1h (nth 0 ds) (.int .u64 8)).bind fun t13=>(a1m tab ty5 a1h t11).bind fun t15=>(a0i tab .or a1h t13 t15).bind fun t16=>(a0i tab .add ty3 (nth 2 ds) (.int .i64 1)).bind fun t17=>some (.nrm,[t16,t11,t17,t9],h_1))
  (some ((.ext 0),[nth 0 ds,nth 1 ds,nth 2 ds,t9],h_1))
noncomputable def c6Y (t0:D) (h:Hp):Option (D × Hp) :=
 (a0t tab a0L t0).bind fun t7=>((a0J (b3s t0 t7) [.int .u64 0,.any,.int .i64 0,.any] h).bind fun r=>some ((a0G 0 r.1),[nth 0 r.2.1,nth 1 r.2.1,nth 2 r.2.1,nth 3 r.2.1],r.2.2)).bind fun r_1=>a0K r_1.1 (some (a0f [nth 0 r_1.2.1],r_1.2.2)) fun x=>a1c x (some (a0f [.int .u64 0],r_1.2.2))
theorem d2v (t0:D) (h:Hp):R a6R [t0] h=c6Y t0 h :=
 er i71 (by kernel_rfl) (by kernel_rfl)
noncomputable def c1S (t0 t1:D) (ds:List D) (h_1:Hp):Option Out :=
 (a0t tab a1p t0).bind fun t13=>(a0i tab .lss ty3 (nth 1 ds) t13).bind fun t14=>dIf t14
  ((a0b tab a1p t0 (nth 1 ds)).bind fun t19=>(a0c tab h_1 a0T t19).bind fun t20=>(a0b tab a1p t1 (nth 1 ds)).bind fun t23=>(a0c tab h_1 a0T t23).bind fun t24=>(a0i tab .neq a0T t20 t24).bind fun t25=>dIf t25
  (some (.ret,[.bool false,nth 1 ds,t14,t25],h_1))
  ((a0i tab .add ty3 (nth 1 ds) (.int .i64 1)).bind fun t16=>some (.nrm,[nth 0 ds,t16,t14,t25],h_1)))
  (some ((.ext 0),[nth 0 ds,nth 1 ds,t14,nth 3 ds],h_1))
noncomputable def F95 (t0 t1:D) (h:Hp):Option (D × Hp) :=
 (a0t tab a1p t0).bind fun t7=>(a0t tab a1p t1).bind fun t9=>(a0i tab .neq ty3 t7 t9).bind fun t10=>dIf t10
  (some (a0f [.bool false],h))
  (((a0J (c1S t0 t1) [.bool false,.int .i64 0,.any,.any] h).bind fun r=>some ((a0G 0 r.1),[nth 0 r.2.1,nth 1 r.2.1,nth 2 r.2.1,nth 3 r.2.1],r.2.2)).bind fun r_1=>a0K r_1.1 (some (a0f [.bool true],r_1.2.2)) fun x=>a1c x (some (a0f [nth 0 r_1.2.1],r_1.2.2)))
theorem e95 (t0 t1:D) (h:Hp):R d4e [t0,t1] h=F95 t0 t1 h :=
 er i78 (by kernel_rfl) (by kernel_rfl)
noncomputable def F57 (t0:D) (h:Hp):Option (D × Hp) :=
 (a0h tab t0).bind fun t4=>(a0a tab a5e 1 t4).bind fun t5=>(a0c tab h ty3 t5).bind fun t6=>(a0h tab t0).bind fun t8=>(a0a tab a5e 0 t8).bind fun t9=>(a0c tab h a0L t9).bind fun t10=>(a0t tab a0L t10).bind fun t11=>(a0i tab .lss ty3 t6 t11).bind fun t12=>some (a0f [t12],h)
theorem e57 (t0:D) (h:Hp):R d0r [t0] h=F57 t0 h :=
 er i79 (by kernel_rfl) (by kernel_rfl)
noncomputable def c3v (t0:D) (h:Hp):Option (D × Hp) :=
 (a0i tab .eql a0E t0 (.nils)).bind fun t4=>dIf t4
  (some (a0f [.nils],h))
  ((a0W tab a0E 0 [] []).bind fun t5=>(a0q tab h a0E a0E t5 t0).bind fun p7=>some (a0f [p7.1],p7.2))
theorem d2c (t0:D) (h:Hp):R b7K [t0] h=c3v t0 h :=
 er i80 (by kernel_rfl) (by kernel_rfl)
noncomputable def F79 (t0:D) (h:Hp):Option (D × Hp) :=
 (a0i tab .eql a1C t0 (.nils)).bind fun t4=>dIf t4
  (some (a0f [.nils],h))
  ((a0W tab a1C 0 [] []).bind fun t5=>(a0q tab h a1C a1C t5 t0).bind fun p7=>some (a0f [p7.1],p7.2))
theorem e79 (t0:D) (h:Hp):R c8b [t0] h=F79 t0 h :=
 er i81 (by kernel_rfl) (by kernel_rfl)
noncomputable def c6H (t0 t1:D) (h:Hp):Option (D × Hp) :=
 (b9J a0z 11 h t1).bind fun p3=>(a0a tab a0z 1 p3.1).bind fun t15=>(a0a tab a0y 0 t15).bind fun t16=>(a0c tab p3.2 ty3 t16).bind fun t17=>(a0a tab a0z 1 p3.1).bind fun t18=>(a0a tab a0y 1 t18).bind fun t19=>(a0c tab p3.2 ty3 t19).bind fun t20=>(a0a tab a0z 1 p3.1).bind fun t21=>(a0a tab a0y 3 t21).bind fun t22=>(a0c tab p3.2 ty3 t22).bind fun t23=>(a0h tab t0).bind fun t25=>(a0a tab a1o 0 t25).bind fun t26=>(a0c tab p3.2 a0n t26).bind fun t27=>(R b7m [t27,t17,t20] p3.2).bind fun p30=>(a0a tab a0z 1 p3.1).bind fun t31=>(a0a tab a0y 4 t31).bind fun t32=>(a0c tab p30.2 a1j t32).bind fun t33=>(a0t tab a1j t33).bind fun t34=>chk (a0c tab p3.2 a1j t32=some t33)
 ((a0i tab .leq ty3 t23 p30.1).bind fun t38=>dIf t38
  ((R a6i [t0,t17,.str [42],t34] p30.2).bind fun p42=>some (a0f [.bool true],p42.2))
  ((a0a tab a0z 1 p3.1).bind fun t44=>(a0a tab a0y 2 t44).bind fun t45=>(a0c tab p30.2 ty3 t45).bind fun t46=>(a0i tab .gtr ty3 t46 p30.1).bind fun t48=>dIf t48
  (some (a0f [.bool false],p30.2))
  ((a0a tab a0z 1 p3.1).bind fun t50=>(a0a tab a0y 2 t50).bind fun t51=>(a0c tab p30.2 ty3 t51).bind fun t52=>(a0i tab .lss ty3 t52 p30.1).bind fun t54=>(dIf t54
  ((a0c tab p30.2 a0z p3.1).bind fun t56=>(R b4c [t56,p30.1] p30.2).bind fun p58=>(a0w 0 p58.1).bind fun t59=>(a0w 1 p58.1).bind fun t60=>(a5U 11 t59).bind fun t10=>(dUn .not t60).bind fun t62=>dIf t62
  (some (.ret,[.bool false,t10,t60,t62],p58.2))
  ((a0c tab p58.2 a0z t10).bind fun t63=>((a0p tab p58.2 a0z p3.1 t63).bind fun h'=>some ((.und:D),h')).bind fun p901=>(a0a tab a0z 1 p3.1).bind fun t67=>(a0a tab a0y 4 t67).bind fun t68=>(a0c tab p901.2 a1j t68).bind fun t69=>(a0t tab a1j t69).bind fun t70=>(a0i tab .sub ty3 t34 t70).bind fun t71=>(R a6i [t0,t17,.str [42],t71] p901.2).bind fun p72=>some (.nrm,[.bool false,t10,t60,t62],p72.2)))
  (some (.nrm,[.bool false,.any,.any,.any],p30.2))).bind fun r=>a0K (a0G 0 r.1) ((a0h tab t0).bind fun t75=>(a0a tab a1o 0 t75).bind fun t76=>(a0a tab a0n 0 t76).bind fun t77=>(a0c tab r.2.2 a0E t77).bind fun t78=>(R a8G [t78,t17,t20] r.2.2).bind fun p81=>(a0w 0 p81.1).bind fun t82=>(a0w 1 p81.1).bind fun t83=>(dUn .not t83).bind fun t85=>(dIf t85
  ((a0h tab t0).bind fun t88=>(a0a tab a1o 0 t88).bind fun t89=>(a0a tab a0n 0 t89).bind fun t90=>(a0c tab p81.2 a0E t90).bind fun t91=>(a0U tab a0Q [0,1] [t17,t20]).bind fun t95=>(a0W tab a0E 1 [0] [t95]).bind fun t96=>(R a8J [t91,t82,t96] p81.2).bind fun p97=>(a0h tab t0).bind fun t98=>(a0a tab a1o 0 t98).bind fun t99=>(a0a tab a0n 0 t99).bind fun t100=>((a0p tab p97.2 a0E t100 p97.1).bind fun h'=>some ((.und:D),h')).bind fun p915=>some (.nrm,([]:List D),p915.2))
  (some (.nrm,([]:List D),p81.2))).bind fun r_1=>a0K r_1.1 ((a0h tab t0).bind fun t102=>(a0a tab a1o 0 t102).bind fun t103=>(a0a tab a0n 0 t103).bind fun t104=>(a0c tab r_1.2.2 a0E t104).bind fun t105=>(a0b tab a0E t105 t82).bind fun t108=>(a0a tab a0Q 2 t108).bind fun t109=>((a0p tab r_1.2.2 ty3 t109 t23).bind fun h'=>some ((.und:D),h')).bind fun p909=>(a0a tab a0z 0 p3.1).bind fun t112=>(a0c tab p909.2 ty9 t112).bind fun t113=>(a0a tab a0z 1 p3.1).bind fun t114=>(a0a tab a0y 4 t114).bind fun t115=>(a0c tab p909.2 a1j t115).bind fun t116=>(a0t tab a1j t116).bind fun t117=>(R a6i [t0,t17,t113,t117] p909.2).bind fun p118=>(a0a tab a0z 0 p3.1).bind fun t119=>(a0c tab p118.2 ty9 t119).bind fun t120=>(a0i tab .eql ty9 t120 (.str [])).bind fun t121=>(dIf t121
  ((a0a tab a0z 1 p3.1).bind fun t122=>(a0c tab p118.2 a0y t122).bind fun t123=>(some ((.ptr p118.2.length 0 0:D),a0C p118.2 a0y 10 [[.int .i64 0,.int .i64 0,.int .i64 0,.int .i64 0,.nils,.int .i64 0,.int .i64 0,.str [],.str [],.nils]])).bind fun p14=>((a0p tab p14.2 a0y p14.1 t123).bind fun h'=>some ((.und:D),h')).bind fun p903=>(a0a tab a0y 4 p14.1).bind fun t124=>(a0c tab p903.2 a1j t124).bind fun t125=>(R a8F [t125] p903.2).bind fun p126=>(a0a tab a0y 9 p14.1).bind fun t127=>(a0c tab p126.2 a1p t127).bind fun t128=>(R a7R [t128] p126.2).bind fun p129=>(a0a tab a0y 4 p14.1).bind fun t130=>chk (a0c tab p903.2 a1p t127=some t128)
 (((a0p tab p129.2 a1j t130 p126.1).bind fun h'=>some ((.und:D),h')).bind fun p907=>(a0a tab a0y 9 p14.1).bind fun t131=>((a0p tab p907.2 a1p t131 p129.1).bind fun h'=>some ((.und:D),h')).bind fun p909_1=>(a0h tab t0).bind fun t134=>(a0a tab a1o 1 t134).bind fun t135=>(a0c tab p909_1.2 a3f t135).bind fun t136=>(a0c tab p909_1.2 a0y p14.1).bind fun t137=>(a0W tab a3f 1 [0] [t137]).bind fun t138=>(a0q tab p909_1.2 a3f a3f t136 t138).bind fun p139=>(a0h tab t0).bind fun t140=>(a0a tab a1o 1 t140).bind fun t141=>((a0p tab p139.2 a3f t141 p139.1).bind fun h'=>some ((.und:D),h')).bind fun p910=>some (.nrm,[p14.1],p910.2)))
  (some (.nrm,[.any],p118.2))).bind fun r_2=>a0K r_2.1 (some (a0f [.bool true],r_2.2.2)) fun x_2=>a1c x_2 (some (a0f [nth 0 r.2.1],r_2.2.2))) fun x_1=>a1c x_1 (some (a0f [nth 0 r.2.1],r_1.2.2))) fun x=>a1c x (some (a0f [nth 0 r.2.1],r.2.2)))))
theorem d2d (t0 t1:D) (h:Hp):R b4s [t0,t1] h=c6H t0 t1 h :=
 er i82 (by kernel_rfl) (by kernel_rfl)
noncomputable def a9m (t0 t1 t2 t6m:D) (ds:List D) (h_1:Hp):Option Out :=
 (a0i tab .leq ty3 (nth 1 ds) t1).bind fun t13=>dIf t13
  ((R a8L [t0,nth 0 ds,nth 1 ds,t2] h_1).bind fun p18=>(a0i tab .add ty3 (nth 1 ds) t6m).bind fun t22=>some (.nrm,[nth 1 ds,t22,t13],p18.2))
  (some ((.ext 0),[nth 0 ds,nth 1 ds,t13],h_1))
noncomputable def b9Y (t0 t1 t2:D) (ds_1:List D) (ds_2:List D) (h_3:Hp):Option Out :=
 (a0i tab .leq ty3 (nth 1 ds_2) t1).bind fun t35=>dIf t35
  ((a0i tab .add ty3 (nth 0 ds_2) (nth 0 ds_1)).bind fun t40=>(R c2s [t0,nth 0 ds_2,t40,nth 1 ds_2,t2] h_3).bind fun p43=>(a0i tab .mul ty3 (.int .i64 2) (nth 0 ds_1)).bind fun t47=>(a0i tab .add ty3 (nth 1 ds_2) t47).bind fun t48=>some (.nrm,[nth 1 ds_2,t48,t35],p43.2))
  (some ((.ext 4),[nth 0 ds_2,nth 1 ds_2,t35],h_3))
noncomputable def a9n (t0 t1 t2:D) (ds_1:List D) (h_2:Hp):Option Out :=
 (a0i tab .lss ty3 (nth 0 ds_1) t1).bind fun t30=>dIf t30
  ((a0i tab .mul ty3 (.int .i64 2) (nth 0 ds_1)).bind fun t32=>((a0J (b9Y t0 t1 t2 ds_1) [.int .i64 0,t32,nth 5 ds_1] h_2).bind fun r_3=>some ((a0G 4 r_3.1),[nth 0 r_3.2.1,nth 1 r_3.2.1,nth 2 r_3.2.1],r_3.2.2)).bind fun r_4=>a0K r_4.1 ((a0i tab .add ty3 (nth 0 r_4.2.1) (nth 0 ds_1)).bind fun t51=>(a0i tab .lss ty3 t51 t1).bind fun t54=>(dIf t54
  ((R c2s [t0,nth 0 r_4.2.1,t51,t1,t2] r_4.2.2).bind fun p60=>some (.nrm,([]:List D),p60.2))
  (some (.nrm,([]:List D),r_4.2.2))).bind fun r_5=>a0K r_5.1 ((a0i tab .mul ty3 (nth 0 ds_1) (.int .i64 2)).bind fun t62=>some (.nrm,[t62,nth 0 r_4.2.1,nth 1 r_4.2.1,t51,t30,nth 2 r_4.2.1,t54],r_5.2.2)) fun x_2=>some ((a0G 3 x_2),[nth 0 ds_1,nth 0 r_4.2.1,nth 1 r_4.2.1,t51,t30,nth 2 r_4.2.1,t54],r_5.2.2)) fun x_1=>some ((a0G 3 x_1),[nth 0 ds_1,nth 0 r_4.2.1,nth 1 r_4.2.1,nth 3 ds_1,t30,nth 2 r_4.2.1,nth 6 ds_1],r_4.2.2))
  (some ((.ext 2),[nth 0 ds_1,nth 1 ds_1,nth 2 ds_1,nth 3 ds_1,t30,nth 5 ds_1,nth 6 ds_1],h_2))
noncomputable def c3y (t0 t1 t2:D) (h:Hp):Option (D × Hp) :=
 ((a0J (a9m t0 t1 t2 (.int .i64 20)) [.int .i64 0,.int .i64 20,.any] h).bind fun r=>some ((a0G 0 r.1),[nth 0 r.2.1,nth 1 r.2.1,nth 2 r.2.1],r.2.2)).bind fun r_1=>a0K r_1.1 ((R a8L [t0,nth 0 r_1.2.1,t1,t2] r_1.2.2).bind fun p27=>((a0J (a9n t0 t1 t2) [.int .i64 20,nth 0 r_1.2.1,nth 1 r_1.2.1,.any,.any,.any,.any] p27.2).bind fun r_2=>some ((a0G 2 r_2.1),[nth 0 r_2.2.1,nth 1 r_2.2.1,nth 2 r_2.2.1,nth 3 r_2.2.1,nth 4 r_2.2.1,nth 5 r_2.2.1,nth 6 r_2.2.1],r_2.2.2)).bind fun r_6=>a1c r_6.1 (some (a0f [],r_6.2.2))) fun x=>a1c x (some (a0f [],r_1.2.2))
theorem c7W (t0 t1 t2:D) (h:Hp):R c2r [t0,t1,t2] h=c3y t0 t1 t2 h :=
 er i83 (by kernel_rfl) (by kernel_rfl)
noncomputable def b0z (t3m t6m t7:D) (ds:List D) (h_1:Hp):Option Out :=
 (a0i tab .lss ty3 (nth 2 ds) t7).bind fun t9=>dIf t9
  ((a0b tab a6X t6m (nth 2 ds)).bind fun t10=>(a0c tab h_1 ty3 t10).bind fun t11=>(a0i tab .neq ty3 t11 t3m).bind fun t14=>dIf t14
  (some (.ret,[t11,t11,nth 2 ds,t9,t14],h_1))
  ((a0i tab .add ty3 (nth 2 ds) (.int .i64 1)).bind fun t16=>some (.nrm,[nth 0 ds,t11,t16,t9,t14],h_1)))
  (some ((.ext 0),[nth 0 ds,nth 1 ds,nth 2 ds,t9,nth 4 ds],h_1))
noncomputable def F89 (t0:D) (h:Hp):Option (D × Hp) :=
 (a0t tab a6X t0).bind fun t7=>((a0J (b0z (.int .i64 0) t0 t7) [.int .i64 0,.any,.int .i64 0,.any,.any] h).bind fun r=>some ((a0G 0 r.1),[nth 0 r.2.1,nth 1 r.2.1,nth 2 r.2.1,nth 3 r.2.1,nth 4 r.2.1],r.2.2)).bind fun r_1=>a0K r_1.1 (some (a0f [.int .i64 0],r_1.2.2)) fun x=>a1c x (some (a0f [nth 0 r_1.2.1],r_1.2.2))
theorem e89 (t0:D) (h:Hp):R c8d [t0] h=F89 t0 h :=
 er i84 (by kernel_rfl) (by kernel_rfl)
noncomputable def F90 (t0 t1:D) (h:Hp):Option (D × Hp) :=
 (R d0y [t0] h).bind fun p8=>(R d0y [t1] p8.2).bind fun p10=>dIf p8.1
  (dIf p10.1
  (some (a0f [.int .i64 0],p10.2))
  (some (a0f [.int .i64 (-1)],p10.2)))
  (dIf p10.1
  (some (a0f [.int .i64 1],p10.2))
  ((a0i tab .lss ty3 t0 t1).bind fun t16=>dIf t16
  (some (a0f [.int .i64 (-1)],p10.2))
  ((a0i tab .gtr ty3 t0 t1).bind fun t19=>dIf t19
  (some (a0f [.int .i64 1],p10.2))
  (some (a0f [.int .i64 0],p10.2)))))
theorem e90 (t0 t1:D) (h:Hp):R c0W [t0,t1] h=F90 t0 t1 h :=
 er i85 (by kernel_rfl) (by kernel_rfl)
noncomputable def a3w (t0 t1 t2:D) (ds:List D) (h_1:Hp):Option Out :=
 (a0t tab a0E t0).bind fun t11=>(a0i tab .lss ty3 (nth 0 ds) t11).bind fun t12=>(gd t12 true (some t0)).bind fun t14=>(gd t12 true (some (nth 0 ds))).bind fun t15=>(gd t12 true (a0b tab a0E t14 t15)).bind fun t16=>(gd t12 true (a0a tab a0Q 0 t16)).bind fun t17=>(gd t12 true (a0c tab h_1 ty3 t17)).bind fun t18=>(gd t12 true (some t1)).bind fun t19=>(gd t12 true (a0i tab .lss ty3 t18 t19)).bind fun t20=>(gd t12 true (some t20)).bind fun t21=>(gd t21 false (some t0)).bind fun t22=>(gd t21 false (some (nth 0 ds))).bind fun t23=>(gd t21 false (a0b tab a0E t22 t23)).bind fun t24=>(gd t21 false (a0a tab a0Q 0 t24)).bind fun t25=>(gd t21 false (a0c tab h_1 ty3 t25)).bind fun t26=>(gd t21 false (some t1)).bind fun t27=>(gd t21 false (a0i tab .eql ty3 t26 t27)).bind fun t28=>(gd t21 false (some t28)).bind fun t29=>(gd t29 true (some t0)).bind fun t30=>(gd t29 true (some (nth 0 ds))).bind fun t31=>(gd t29 true (a0b tab a0E t30 t31)).bind fun t32=>(gd t29 true (a0a tab a0Q 1 t32)).bind fun t33=>(gd t29 true (a0c tab h_1 ty3 t33)).bind fun t34=>(gd t29 true (some t2)).bind fun t35=>(gd t29 true (a0i tab .lss ty3 t34 t35)).bind fun t36=>(gd t21 false (a0R t29 t36 (.bool false))).bind fun t37=>(gd t12 true (a0R t21 (.bool true) t37)).bind fun t38=>(a0R t12 t38 (.bool false)).bind fun t39=>dIf t39
  ((a0i tab .add ty3 (nth 0 ds) (.int .i64 1)).bind fun t41=>some (.nrm,[t41,t39],h_1))
  (some ((.ext 0),[nth 0 ds,t39],h_1))
noncomputable def c6A (t0 t1 t2:D) (h:Hp):Option (D × Hp) :=
 ((a0J (a3w t0 t1 t2) [.int .i64 0,.any] h).bind fun r=>some ((a0G 0 r.1),[nth 0 r.2.1,nth 1 r.2.1],r.2.2)).bind fun r_1=>a0K r_1.1 ((a0t tab a0E t0).bind fun t45=>(a0i tab .lss ty3 (nth 0 r_1.2.1) t45).bind fun t46=>(gd t46 true (some t0)).bind fun t48=>(gd t46 true (some (nth 0 r_1.2.1))).bind fun t49=>(gd t46 true (a0b tab a0E t48 t49)).bind fun t50=>(gd t46 true (a0a tab a0Q 0 t50)).bind fun t51=>(gd t46 true (a0c tab r_1.2.2 ty3 t51)).bind fun t52=>(gd t46 true (some t1)).bind fun t53=>(gd t46 true (a0i tab .eql ty3 t52 t53)).bind fun t54=>(a0R t46 t54 (.bool false)).bind fun t55=>(gd t55 true (some t0)).bind fun t57=>(gd t55 true (some (nth 0 r_1.2.1))).bind fun t58=>(gd t55 true (a0b tab a0E t57 t58)).bind fun t59=>(gd t55 true (a0a tab a0Q 1 t59)).bind fun t60=>(gd t55 true (a0c tab r_1.2.2 ty3 t60)).bind fun t61=>(gd t55 true (some t2)).bind fun t62=>(gd t55 true (a0i tab .eql ty3 t61 t62)).bind fun t63=>(a0R t55 t63 (.bool false)).bind fun t64=>some (a0f [nth 0 r_1.2.1,t64],r_1.2.2)) fun x=>a1c x (some (a0f [.int .i64 0,.bool false],r_1.2.2))
theorem d1V (t0 t1 t2:D) (h:Hp):R b4p [t0,t1,t2] h=c6A t0 t1 t2 h :=
 er i86 (by kernel_rfl) (by kernel_rfl)
noncomputable def c3r (t0 t1:D) (h:Hp):Option (D × Hp) :=
 (a0i tab .lss ty3 t1 (.int .i64 0)).bind fun t6=>(dIf t6
  (((none:Option D)).bind fun t7=>((none:Option D)).bind fun t901=>some (.nrm,([]:List D),h))
  (some (.nrm,([]:List D),h))).bind fun r=>a0K r.1 ((b6L tab a0L t0).bind fun t10=>(a0t tab a0L t0).bind fun t12=>(a0i tab .sub ty3 t10 t12).bind fun t13=>(a0i tab .sub ty3 t1 t13).bind fun t14=>(a0i tab .gtr ty3 t14 (.int .i64 0)).bind fun t16=>(dIf t16
  ((b6L tab a0L t0).bind fun t19=>(a0D tab a0L false true false [t0,t19]).bind fun t20=>(a0q tab r.2.2 a0L ty3 t20 t14).bind fun p22=>(a0t tab a0L t0).bind fun t24=>(a0D tab a0L false true false [p22.1,t24]).bind fun t25=>some (.nrm,[t25],p22.2))
  (some (.nrm,[t0],r.2.2))).bind fun r_1=>a0K r_1.1 (some (a0f [nth 0 r_1.2.1],r_1.2.2)) fun x_1=>a1c x_1 (some (a0f [.nils],r_1.2.2))) fun x=>a1c x (some (a0f [.nils],r.2.2))
theorem d1z (t0 t1:D) (h:Hp):R b7x [t0,t1] h=c3r t0 t1 h :=
 er i87 (by kernel_rfl) (by kernel_rfl)
noncomputable def a9d (ds_1:List D) (h_2:Hp):Option Out :=
 (a0i tab .lss ty3 (nth 1 ds_1) (.int .i64 8)).bind fun t17=>dIf t17
  ((a0i tab .shr a3u (nth 0 ds_1) (.int .u64 1)).bind fun t19=>(a0i tab .and a3u (nth 0 ds_1) (.int .u32 1)).bind fun t21=>(dUn .neg t21).bind fun t22=>(a0i tab .and a3u (.int .u32 3988292384) t22).bind fun t23=>(a0i tab .xor a3u t19 t23).bind fun t24=>(a0i tab .add ty3 (nth 1 ds_1) (.int .i64 1)).bind fun t25=>some (.nrm,[t24,t25,t17],h_2))
  (some ((.ext 2),[nth 0 ds_1,nth 1 ds_1,t17],h_2))
noncomputable def b3e (t6m t7:D) (ds:List D) (h_1:Hp):Option Out :=
 (a0i tab .lss ty3 (nth 2 ds) t7).bind fun t9=>dIf t9
  ((a0b tab a0L t6m (nth 2 ds)).bind fun t10=>(a0c tab h_1 ty5 t10).bind fun t11=>(a1m tab ty5 a3u t11).bind fun t14=>(a0i tab .xor a3u (nth 0 ds) t14).bind fun t15=>((a0J (a9d) [t15,.int .i64 0,nth 5 ds] h_1).bind fun r_1=>some ((a0G 2 r_1.1),[nth 0 r_1.2.1,nth 1 r_1.2.1,nth 2 r_1.2.1],r_1.2.2)).bind fun r_2=>a0K (a0G 1 r_2.1) ((a0i tab .add ty3 (nth 2 ds) (.int .i64 1)).bind fun t26=>some (.nrm,[nth 0 r_2.2.1,t11,t26,t9,nth 1 r_2.2.1,nth 2 r_2.2.1],r_2.2.2)) fun x=>some (x,[nth 0 r_2.2.1,t11,nth 2 ds,t9,nth 1 r_2.2.1,nth 2 r_2.2.1],r_2.2.2))
  (some ((.ext 0),[nth 0 ds,nth 1 ds,nth 2 ds,t9,nth 4 ds,nth 5 ds],h_1))
noncomputable def c6g (t0:D) (h:Hp):Option (D × Hp) :=
 (a0t tab a0L t0).bind fun t7=>((a0J (b3e t0 t7) [.int .u32 4294967295,.any,.int .i64 0,.any,.any,.any] h).bind fun r=>some ((a0G 0 r.1),[nth 0 r.2.1,nth 1 r.2.1,nth 2 r.2.1,nth 3 r.2.1,nth 4 r.2.1,nth 5 r.2.1],r.2.2)).bind fun r_3=>a0K r_3.1 ((dUn .xor (nth 0 r_3.2.1)).bind fun t28=>some (a0f [t28],r_3.2.2)) fun x_1=>a1c x_1 (some (a0f [.int .u32 0],r_3.2.2))
theorem d1A (t0:D) (h:Hp):R b7y [t0] h=c6g t0 h :=
 er i88 (by kernel_rfl) (by kernel_rfl)
noncomputable def c1P (t0:D) (p9:D × Hp) (ds:List D) (h_1:Hp):Option Out :=
 (a0i tab .gtr ty3 (nth 1 ds) (.int .i64 0)).bind fun t24=>dIf t24
  ((R d0w [t0] h_1).bind fun p28=>(a0t tab ty9 p28.1).bind fun t30=>(a0i tab .add ty3 t30 (.int .i64 1)).bind fun t31=>(R a5H [t0,.int .i64 2] p28.2).bind fun p33=>(a0i tab .add ty3 t31 p33.1).bind fun t34=>(a0a tab a0y 4 p9.1).bind fun t35=>(a0c tab p33.2 a1j t35).bind fun t36=>(a0U tab a1Z [0,1,2] [nth 0 ds,t34,p28.1]).bind fun t40=>(a0W tab a1j 1 [0] [t40]).bind fun t41=>(a0q tab p33.2 a1j a1j t36 t41).bind fun p42=>(a0a tab a0y 4 p9.1).bind fun t43=>((a0p tab p42.2 a1j t43 p42.1).bind fun h'=>some ((.und:D),h')).bind fun p909=>(a0i tab .add ty3 (nth 0 ds) t34).bind fun t46=>(a0i tab .sub ty3 (nth 1 ds) (.int .i64 1)).bind fun t26=>some (.nrm,[t46,t26,p28.1,t34,t24],p909.2))
  (some ((.ext 0),[nth 0 ds,nth 1 ds,nth 2 ds,nth 3 ds,t24],h_1))
noncomputable def c1Q (p9:D × Hp) (ds_1:List D) (h_2:Hp):Option Out :=
 (a0a tab a0y 4 p9.1).bind fun t53=>(a0c tab h_2 a1j t53).bind fun t54=>(a0t tab a1j t54).bind fun t55=>(a0i tab .lss ty3 (nth 0 ds_1) t55).bind fun t56=>dIf t56
  ((a0a tab a0y 4 p9.1).bind fun t59=>(a0c tab h_2 a1j t59).bind fun t60=>(a0b tab a1j t60 (nth 0 ds_1)).bind fun t62=>(a0a tab a1Z 2 t62).bind fun t63=>((a0p tab h_2 ty9 t63 (.str [])).bind fun h'=>some ((.und:D),h')).bind fun p905_1=>(a0i tab .add ty3 (nth 0 ds_1) (.int .i64 1)).bind fun t58=>some (.nrm,[t58,t56],p905_1.2))
  (some ((.ext 2),[nth 0 ds_1,t56],h_2))
noncomputable def F84 (t0 t1 t2 t3:D) (h:Hp):Option (D × Hp) :=
 (some ((.ptr h.length 0 0:D),a0C h a0z 11 [[.str [],.int .i64 0,.int .i64 0,.int .i64 0,.int .i64 0,.nils,.int .i64 0,.int .i64 0,.str [],.str [],.nils]])).bind fun p8=>(a0U tab a0y [0,1,2] [t1,t2,t3]).bind fun t18=>(some ((.ptr p8.2.length 0 0:D),a0C p8.2 a0y 10 [[.int .i64 0,.int .i64 0,.int .i64 0,.int .i64 0,.nils,.int .i64 0,.int .i64 0,.str [],.str [],.nils]])).bind fun p9=>((a0p tab p9.2 a0y p9.1 t18).bind fun h'=>some ((.und:D),h')).bind fun p905=>(R a5H [t0,.int .i64 3] p905.2).bind fun p21=>(a0i tab .add ty3 (.int .i64 1) p21.1).bind fun t22=>((a0J (c1P t0 p9) [t3,t22,.any,.any,.any] p21.2).bind fun r=>some ((a0G 0 r.1),[nth 0 r.2.1,nth 1 r.2.1,nth 2 r.2.1,nth 3 r.2.1,nth 4 r.2.1],r.2.2)).bind fun r_1=>a0K r_1.1 ((a0a tab a0y 3 p9.1).bind fun t48=>((a0p tab r_1.2.2 ty3 t48 (nth 0 r_1.2.1)).bind fun h'=>some ((.und:D),h')).bind fun p902=>(R a5H [t0,.int .i64 5] p902.2).bind fun p50=>(a0i tab .eql ty3 p50.1 (.int .i64 4)).bind fun t51=>dIf t51
  (((a0J (c1Q p9) [.int .i64 0,.any] p50.2).bind fun r_2=>some ((a0G 2 r_2.1),[nth 0 r_2.2.1,nth 1 r_2.2.1],r_2.2.2)).bind fun r_3=>a0K r_3.1 ((a0W tab a5K 3 [0,1,2] [.str [115,97,109,112,108,101],.str [100,114,111,112],.str [116,111,111,45,108,111,110,103]]).bind fun t64=>(R a5H [t0,.int .i64 3] r_3.2.2).bind fun p66=>(a0b tab a5K t64 p66.1).bind fun t67=>(a0c tab p66.2 ty9 t67).bind fun t68=>(a0c tab p66.2 a0y p9.1).bind fun t69=>(a0U tab a0z [0,1] [t68,t69]).bind fun t70=>chk (a0c tab r_3.2.2 a0y p9.1=some t69)
 (((a0p tab p66.2 a0z p8.1 t70).bind fun h'=>some ((.und:D),h')).bind fun p907=>(a0c tab p907.2 a0z p8.1).bind fun d0=>scope h p907.2 (a0f [d0]))) fun x_1=>a0K x_1 ((R d0q [t0] r_3.2.2).bind fun p72=>(R d0x [t0] p72.2).bind fun p74=>(a0a tab a0y 5 p9.1).bind fun t75=>((a0p tab p74.2 ty3 t75 p72.1).bind fun h'=>some ((.und:D),h')).bind fun p905_2=>(a0a tab a0y 6 p9.1).bind fun t76=>((a0p tab p905_2.2 ty3 t76 p74.1).bind fun h'=>some ((.und:D),h')).bind fun p907_1=>(a0W tab a5K 4 [0,1,2,3] [.str [116,49],.str [116,50],.str [],.str [49,58,50,58,48]]).bind fun t77=>(R a5H [t0,.int .i64 4] p907_1.2).bind fun p79=>(a0b tab a5K t77 p79.1).bind fun t80=>(a0c tab p79.2 ty9 t80).bind fun t81=>(a0W tab a5K 2 [0,1] [.str [109,97,105,110],.str [100,101,98,117,103]]).bind fun t82=>(R a5H [t0,.int .i64 2] p79.2).bind fun p84=>(a0b tab a5K t82 p84.1).bind fun t85=>(a0c tab p84.2 ty9 t85).bind fun t86=>(a0a tab a0y 7 p9.1).bind fun t87=>((a0p tab p84.2 ty9 t87 t81).bind fun h'=>some ((.und:D),h')).bind fun p911=>chk (a0c tab p84.2 ty9 t80=some t81)
 (chk (a0c tab p911.2 ty9 t85=some t86)
 ((a0a tab a0y 8 p9.1).bind fun t88=>((a0p tab p911.2 ty9 t88 t86).bind fun h'=>some ((.und:D),h')).bind fun p913=>(R c8e [t0] p913.2).bind fun p90=>(a0a tab a0y 9 p9.1).bind fun t91=>((a0p tab p90.2 a1p t91 p90.1).bind fun h'=>some ((.und:D),h')).bind fun p903=>(a0c tab p903.2 a0y p9.1).bind fun t92=>(a0U tab a0z [1] [t92]).bind fun t93=>((a0p tab p903.2 a0z p8.1 t93).bind fun h'=>some ((.und:D),h')).bind fun p902_1=>(a0c tab p902_1.2 a0z p8.1).bind fun d0=>scope h p902_1.2 (a0f [d0])))) fun x_2=>a1c x_2 ((a0c tab r_3.2.2 a0z p8.1).bind fun d0=>scope h r_3.2.2 (a0f [d0])))
  ((R d0q [t0] p50.2).bind fun p72_1=>(R d0x [t0] p72_1.2).bind fun p74_1=>(a0a tab a0y 5 p9.1).bind fun t75_1=>((a0p tab p74_1.2 ty3 t75_1 p72_1.1).bind fun h'=>some ((.und:D),h')).bind fun p905_3=>(a0a tab a0y 6 p9.1).bind fun t76_1=>((a0p tab p905_3.2 ty3 t76_1 p74_1.1).bind fun h'=>some ((.und:D),h')).bind fun p907_2=>(a0W tab a5K 4 [0,1,2,3] [.str [116,49],.str [116,50],.str [],.str [49,58,50,58,48]]).bind fun t77_1=>(R a5H [t0,.int .i64 4] p907_2.2).bind fun p79_1=>(a0b tab a5K t77_1 p79_1.1).bind fun t80_1=>(a0c tab p79_1.2 ty9 t80_1).bind fun t81_1=>(a0W tab a5K 2 [0,1] [.str [109,97,105,110],.str [100,101,98,117,103]]).bind fun t82_1=>(R a5H [t0,.int .i64 2] p79_1.2).bind fun p84_1=>(a0b tab a5K t82_1 p84_1.1).bind fun t85_1=>(a0c tab p84_1.2 ty9 t85_1).bind fun t86_1=>(a0a tab a0y 7 p9.1).bind fun t87_1=>((a0p tab p84_1.2 ty9 t87_1 t81_1).bind fun h'=>some ((.und:D),h')).bind fun p911_1=>chk (a0c tab p84_1.2 ty9 t80_1=some t81_1)
 (chk (a0c tab p911_1.2 ty9 t85_1=some t86_1)
 ((a0a tab a0y 8 p9.1).bind fun t88_1=>((a0p tab p911_1.2 ty9 t88_1 t86_1).bind fun h'=>some ((.und:D),h')).bind fun p913_1=>(R c8e [t0] p913_1.2).bind fun p90_1=>(a0a tab a0y 9 p9.1).bind fun t91_1=>((a0p tab p90_1.2 a1p t91_1 p90_1.1).bind fun h'=>some ((.und:D),h')).bind fun p903_1=>(a0c tab p903_1.2 a0y p9.1).bind fun t92_1=>(a0U tab a0z [1] [t92_1]).bind fun t93_1=>((a0p tab p903_1.2 a0z p8.1 t93_1).bind fun h'=>some ((.und:D),h')).bind fun p902_2=>(a0c tab p902_2.2 a0z p8.1).bind fun d0=>scope h p902_2.2 (a0f [d0]))))) fun x=>a1c x ((a0c tab r_1.2.2 a0z p8.1).bind fun d0=>scope h r_1.2.2 (a0f [d0]))
theorem e84 (t0 t1 t2 t3:D) (h:Hp):R d0u [t0,t1,t2,t3] h=F84 t0 t1 t2 t3 h :=
 er i89 (by kernel_rfl) (by kernel_rfl)
noncomputable def c6j (t0:D) (h:Hp):Option (D × Hp) :=
 (a1B t0).bind fun t1=>(a0c tab h a0y t1).bind fun t7=>(R b4n [t7] h).bind fun p8=>(dUn .not p8.1).bind fun t9=>(gd t9 false (a0a tab a0y 5 t1)).bind fun t11=>(gd t9 false (a0c tab p8.2 ty3 t11)).bind fun t12=>(gdW t9 false p8.2 (R a8I [t12,.int .i64 0,.int .i64 253402300799999] p8.2)).bind fun p13=>(gd t9 false (dUn .not p13.1)).bind fun t14=>(a0R t9 (.bool true) t14).bind fun t15=>dIf t15
  (scope h p13.2 (a0f [.int .i64 2]))
  ((a0a tab a0y 6 t1).bind fun t17=>(a0c tab p13.2 ty3 t17).bind fun t18=>(a0i tab .lss ty3 t18 (.int .i64 1)).bind fun t19=>(gd t19 false (a0a tab a0y 6 t1)).bind fun t21=>(gd t19 false (a0c tab p13.2 ty3 t21)).bind fun t22=>(gd t19 false (a0i tab .rem ty3 (.int .i64 5040) t22)).bind fun t23=>(gd t19 false (a0i tab .neq ty3 t23 (.int .i64 0))).bind fun t24=>(a0R t19 (.bool true) t24).bind fun t25=>dIf t25
  (scope h p13.2 (a0f [.int .i64 21]))
  ((a0c tab p13.2 a0y t1).bind fun t26=>(R b4o [t26,.int .i64 2000] p13.2).bind fun p27=>(a0i tab .neq a5J p27.1 (.int .i64 0)).bind fun t29=>dIf t29
  (scope h p27.2 (a0f [p27.1]))
  ((a0a tab a0y 7 t1).bind fun t31=>(a0c tab p27.2 ty9 t31).bind fun t32=>(a0t tab ty9 t32).bind fun t33=>(a0i tab .gtr ty3 t33 (.int .i64 32)).bind fun t34=>(gd t34 false (a0a tab a0y 8 t1)).bind fun t36=>(gd t34 false (a0c tab p27.2 ty9 t36)).bind fun t37=>(gd t34 false (a0t tab ty9 t37)).bind fun t38=>(gd t34 false (a0i tab .gtr ty3 t38 (.int .i64 32))).bind fun t39=>(a0R t34 (.bool true) t39).bind fun t40=>dIf t40
  (scope h p27.2 (a0f [.int .i64 3]))
  ((a0a tab a0y 9 t1).bind fun t42=>(a0c tab p27.2 a1p t42).bind fun t43=>(R b1c [t43] p27.2).bind fun p44=>(a0w 0 p44.1).bind fun t45=>(a0w 1 p44.1).bind fun t46=>(a0i tab .neq a5J t46 (.int .i64 0)).bind fun t48=>dIf t48
  (scope h p44.2 (a0f [t46]))
  ((a0a tab a0y 9 t1).bind fun t51=>(a0c tab p44.2 a1p t51).bind fun t52=>(R b7A [t45,t52] p44.2).bind fun p53=>(dUn .not p53.1).bind fun t54=>dIf t54
  (scope h p53.2 (a0f [.int .i64 19]))
  ((R b7B [t45,.fn (.func b1d) [] []] p53.2).bind fun p56=>dIf p56.1
  (scope h p56.2 (a0f [.int .i64 3]))
  (scope h p56.2 (a0f [.int .i64 0]))))))))
theorem d1D (t0:D) (h:Hp):R b1a [t0] h=c6j t0 h :=
 er i90 (by kernel_rfl) (by kernel_rfl)
noncomputable def c6k (t0:D) (h:Hp):Option (D × Hp) :=
 (a1B t0).bind fun t1=>(a0a tab a0y 0 t1).bind fun t3=>(a0c tab h ty3 t3).bind fun t4=>(R a8I [t4,.int .i64 0,.int .i64 999] h).bind fun p5=>(gd p5.1 true (a0a tab a0y 1 t1)).bind fun t7=>(gd p5.1 true (a0c tab p5.2 ty3 t7)).bind fun t8=>(gdW p5.1 true p5.2 (R a8I [t8,.int .i64 0,.int .i64 2147483646] p5.2)).bind fun p9=>(a0R p5.1 p9.1 (.bool false)).bind fun t10=>(gd t10 true (a0a tab a0y 2 t1)).bind fun t12=>(gd t10 true (a0c tab p9.2 ty3 t12)).bind fun t13=>(gd t10 true (a0i tab .geq ty3 t13 (.int .i64 0))).bind fun t14=>(a0R t10 t14 (.bool false)).bind fun t15=>(gd t15 true (a0a tab a0y 3 t1)).bind fun t17=>(gd t15 true (a0c tab p9.2 ty3 t17)).bind fun t18=>(gd t15 true (a0a tab a0y 2 t1)).bind fun t19=>(gd t15 true (a0c tab p9.2 ty3 t19)).bind fun t20=>(gd t15 true (a0i tab .gtr ty3 t18 t20)).bind fun t21=>(a0R t15 t21 (.bool false)).bind fun t22=>(gd t22 true (a0a tab a0y 3 t1)).bind fun t24=>(gd t22 true (a0c tab p9.2 ty3 t24)).bind fun t25=>(gd t22 true (a0i tab .leq ty3 t25 (.int .i64 60000))).bind fun t26=>(a0R t22 t26 (.bool false)).bind fun t27=>some (a0f [t27],p9.2)
theorem d1E (t0:D) (h:Hp):R b4n [t0] h=c6k t0 h :=
 er i91 (by kernel_rfl) (by kernel_rfl)
end Go.Proofs.YthaajlepgblimaaGreatDoor
