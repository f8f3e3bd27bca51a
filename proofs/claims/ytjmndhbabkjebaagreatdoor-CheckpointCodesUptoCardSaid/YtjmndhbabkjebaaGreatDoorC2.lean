/- Functions as Lean functions on data. -/
import Derived.Test.YtjmndhbabkjebaaGreatDoorC1
set_option linter.unusedSimpArgs false
set_option linter.unusedVariables false
set_option linter.unnecessarySimpa false
set_option maxRecDepth 100000
namespace Go.Proofs.YtjmndhbabkjebaaGreatDoor
open Go.Eng Go.Pi
noncomputable def a9E (t3:D) (ds:List D) (h_1:Hp):Option Out :=
 (a0a tab a0E 4 t3).bind fun t32=>(a0b tab h_1 a1i t32).bind fun t33=>(a0y tab a1i t33).bind fun t34=>(a0m tab .lss ty3 (nth 1 ds) t34).bind fun t35=>dIf t35
  ((a0a tab a0E 4 t3).bind fun t39=>(a0b tab h_1 a1i t39).bind fun t40=>(a0c tab a1i t40 (nth 1 ds)).bind fun t42=>(a0a tab a1o 0 t42).bind fun t43=>(a0b tab h_1 ty3 t43).bind fun t44=>(R a4R [nth 0 ds,t44] h_1).bind fun p45=>(a0a tab a0E 4 t3).bind fun t46=>(a0b tab p45.2 a1i t46).bind fun t47=>(a0c tab a1i t47 (nth 1 ds)).bind fun t49=>(a0a tab a1o 1 t49).bind fun t50=>(a0b tab p45.2 ty3 t50).bind fun t51=>(R a4R [p45.1,t51] p45.2).bind fun p52=>(a0a tab a0E 4 t3).bind fun t53=>(a0b tab p52.2 a1i t53).bind fun t54=>(a0c tab a1i t54 (nth 1 ds)).bind fun t56=>(a0a tab a1o 2 t56).bind fun t57=>(a0b tab p52.2 ty9 t57).bind fun t58=>(R a6x [p52.1,t58] p52.2).bind fun p59=>chk (a0b tab h_1 a1i t46=some t47)
 (chk (a0b tab h_1 ty3 t50=some t51)
 (chk (a0b tab h_1 a1i t53=some t54)
 (chk (a0b tab p45.2 a1i t53=some t54)
 (chk (a0b tab h_1 ty9 t57=some t58)
 (chk (a0b tab p45.2 ty9 t57=some t58)
 ((a0m tab .add ty3 (nth 1 ds) (.int .i64 1)).bind fun t37=>some (.nrm,[p59.1,t37,t35],p59.2))))))))
  (some ((.ext 0),[nth 0 ds,nth 1 ds,t35],h_1))
noncomputable def a9F (t3:D) (ds_1:List D) (h_2:Hp):Option Out :=
 (a0a tab a0E 9 t3).bind fun t80=>(a0b tab h_2 a1e t80).bind fun t81=>(a0y tab a1e t81).bind fun t82=>(a0m tab .lss ty3 (nth 1 ds_1) t82).bind fun t83=>dIf t83
  ((a0a tab a0E 9 t3).bind fun t87=>(a0b tab h_2 a1e t87).bind fun t88=>(a0c tab a1e t88 (nth 1 ds_1)).bind fun t90=>(a0a tab a0x 0 t90).bind fun t91=>(a0b tab h_2 ty9 t91).bind fun t92=>(R a6x [nth 0 ds_1,t92] h_2).bind fun p93=>(a0a tab a0E 9 t3).bind fun t94=>(a0b tab p93.2 a1e t94).bind fun t95=>(a0c tab a1e t95 (nth 1 ds_1)).bind fun t97=>(a0a tab a0x 1 t97).bind fun t98=>(a0b tab p93.2 ty9 t98).bind fun t99=>(R a6x [p93.1,t99] p93.2).bind fun p100=>chk (a0b tab h_2 a1e t94=some t95)
 (chk (a0b tab h_2 ty9 t98=some t99)
 ((a0m tab .add ty3 (nth 1 ds_1) (.int .i64 1)).bind fun t85=>some (.nrm,[p100.1,t85,t83],p100.2))))
  (some ((.ext 2),[nth 0 ds_1,nth 1 ds_1,t83],h_2))
noncomputable def c5u (t0:D) (h:Hp):Option (D × Hp) :=
 (a2R t0).bind fun t1=>(a0a tab a0L 1 t1).bind fun t7=>(a0b tab h a0E t7).bind fun t8=>(a3s 10 t8).bind fun t3=>(a0a tab a0L 0 t1).bind fun t9=>(a0b tab h ty9 t9).bind fun t10=>(R a6x [.nils,t10] h).bind fun p11=>(a0a tab a0E 0 t3).bind fun t13=>(a0b tab p11.2 ty3 t13).bind fun t14=>(R a4R [p11.1,t14] p11.2).bind fun p15=>(a0a tab a0E 1 t3).bind fun t16=>(a0b tab p15.2 ty3 t16).bind fun t17=>(R a4R [p15.1,t17] p15.2).bind fun p18=>(a0a tab a0E 2 t3).bind fun t19=>(a0b tab p18.2 ty3 t19).bind fun t20=>(R a4R [p18.1,t20] p18.2).bind fun p21=>(a0a tab a0E 3 t3).bind fun t22=>(a0b tab p21.2 ty3 t22).bind fun t23=>(R a4R [p21.1,t23] p21.2).bind fun p24=>chk (a0b tab p11.2 ty3 t16=some t17)
 (chk (a0b tab p11.2 ty3 t19=some t20)
 (chk (a0b tab p15.2 ty3 t19=some t20)
 (chk (a0b tab p11.2 ty3 t22=some t23)
 (chk (a0b tab p15.2 ty3 t22=some t23)
 (chk (a0b tab p18.2 ty3 t22=some t23)
 ((a0a tab a0E 4 t3).bind fun t26=>(a0b tab p24.2 a1i t26).bind fun t27=>(a0y tab a1i t27).bind fun t28=>(a1B tab ty3 a0V t28).bind fun t29=>(R a2l [p24.1,t29,.int .i64 4] p24.2).bind fun p30=>((a0P (a9E t3) [p30.1,.int .i64 0,.any] p30.2).bind fun r=>some ((a0T 0 r.1),[nth 0 r.2.1,nth 1 r.2.1,nth 2 r.2.1],r.2.2)).bind fun r_1=>a0Y r_1.1 ((a0a tab a0E 5 t3).bind fun t61=>(a0b tab r_1.2.2 ty3 t61).bind fun t62=>(R a4R [nth 0 r_1.2.1,t62] r_1.2.2).bind fun p63=>(a0a tab a0E 6 t3).bind fun t64=>(a0b tab p63.2 ty3 t64).bind fun t65=>(R a4R [p63.1,t65] p63.2).bind fun p66=>(a0a tab a0E 7 t3).bind fun t67=>(a0b tab p66.2 ty9 t67).bind fun t68=>(R a6x [p66.1,t68] p66.2).bind fun p69=>(a0a tab a0E 8 t3).bind fun t70=>(a0b tab p69.2 ty9 t70).bind fun t71=>(R a6x [p69.1,t71] p69.2).bind fun p72=>chk (a0b tab r_1.2.2 ty3 t64=some t65)
 (chk (a0b tab r_1.2.2 ty9 t67=some t68)
 (chk (a0b tab p63.2 ty9 t67=some t68)
 (chk (a0b tab r_1.2.2 ty9 t70=some t71)
 (chk (a0b tab p63.2 ty9 t70=some t71)
 (chk (a0b tab p66.2 ty9 t70=some t71)
 ((a0a tab a0E 9 t3).bind fun t74=>(a0b tab p72.2 a1e t74).bind fun t75=>(a0y tab a1e t75).bind fun t76=>(a1B tab ty3 a0V t76).bind fun t77=>(R a2l [p72.1,t77,.int .i64 4] p72.2).bind fun p78=>((a0P (a9F t3) [p78.1,.int .i64 0,.any] p78.2).bind fun r_2=>some ((a0T 2 r_2.1),[nth 0 r_2.2.1,nth 1 r_2.2.1,nth 2 r_2.2.1],r_2.2.2)).bind fun r_3=>a0Y r_3.1 (some (a0k [nth 0 r_3.2.1],r_3.2.2)) fun x_1=>a0Z x_1 (some (a0k [.nils],r_3.2.2))))))))) fun x=>a0Z x (some (a0k [.nils],r_1.2.2))))))))
theorem d0i (t0:D) (h:Hp):R b4h [t0] h=c5u t0 h :=
 er i69 (by kernel_rfl) (by kernel_rfl)
noncomputable def b3k (t6m t7:D) (ds:List D) (h_1:Hp):Option Out :=
 (a0m tab .lss ty3 (nth 2 ds) t7).bind fun t9=>dIf t9
  ((a0c tab a0N t6m (nth 2 ds)).bind fun t10=>(a0b tab h_1 ty5 t10).bind fun t11=>(a0m tab .shl a0V (nth 0 ds) (.int .u64 8)).bind fun t13=>(a1B tab ty5 a0V t11).bind fun t15=>(a0m tab .or a0V t13 t15).bind fun t16=>(a0m tab .add ty3 (nth 2 ds) (.int .i64 1)).bind fun t17=>some (.nrm,[t16,t11,t17,t9],h_1))
  (some ((.ext 0),[nth 0 ds,nth 1 ds,nth 2 ds,t9],h_1))
noncomputable def c5F (t0:D) (h:Hp):Option (D × Hp) :=
 (a0y tab a0N t0).bind fun t7=>((a0P (b3k t0 t7) [.int .u64 0,.any,.int .i64 0,.any] h).bind fun r=>some ((a0T 0 r.1),[nth 0 r.2.1,nth 1 r.2.1,nth 2 r.2.1,nth 3 r.2.1],r.2.2)).bind fun r_1=>a0Y r_1.1 (some (a0k [nth 0 r_1.2.1],r_1.2.2)) fun x=>a0Z x (some (a0k [.int .u64 0],r_1.2.2))
theorem d0t (t0:D) (h:Hp):R a7h [t0] h=c5F t0 h :=
 er i70 (by kernel_rfl) (by kernel_rfl)
noncomputable def c5H (t0:D) (h:Hp):Option (D × Hp) :=
 (b5j a0l 3 h t0).bind fun p1=>(some ((.ptr p1.2.length 0 0:D),a0H p1.2 a0l 3 [[.nils,.int .i64 0,.bool false]])).bind fun p2=>(a0b tab p2.2 a0l p1.1).bind fun t7=>(R a2B [t7,.int .i64 4] p2.2).bind fun p8=>(a0i 0 p8.1).bind fun t9=>(a0i 1 p8.1).bind fun t10=>((a0h tab p8.2 a0l p1.1 t9).bind fun h'=>some ((.und:D),h')).bind fun p905=>(a0a tab a0l 2 p1.1).bind fun t11=>(a0b tab p905.2 ty4 t11).bind fun t12=>(dUn .not t12).bind fun t13=>(gd t13 false (some t10)).bind fun t15=>(gd t13 false (a0a tab a0l 0 p1.1)).bind fun t16=>(gd t13 false (a0b tab p905.2 a0N t16)).bind fun t17=>(gd t13 false (a0y tab a0N t17)).bind fun t18=>(gd t13 false (a0a tab a0l 1 p1.1)).bind fun t19=>(gd t13 false (a0b tab p905.2 ty3 t19)).bind fun t20=>(gd t13 false (a0m tab .sub ty3 t18 t20)).bind fun t21=>(gd t13 false (a1B tab ty3 a0V t21)).bind fun t22=>(gd t13 false (a0m tab .gtr a0V t15 t22)).bind fun t23=>(a0O t13 (.bool true) t23).bind fun t24=>dIf t24
  ((a0a tab a0l 2 p1.1).bind fun t25=>((a0h tab p905.2 ty4 t25 (.bool false)).bind fun h'=>some ((.und:D),h')).bind fun p901=>(a0b tab p901.2 a0l p1.1).bind fun t26=>((a0h tab p901.2 a0l p2.1 t26).bind fun h'=>some ((.und:D),h')).bind fun p901_1=>(a0b tab p901_1.2 a0l p2.1).bind fun d0=>scope h p901_1.2 (a0k [d0,.str []]))
  ((a0a tab a0l 0 p1.1).bind fun t27=>(a0b tab p905.2 a0N t27).bind fun t28=>(a0a tab a0l 1 p1.1).bind fun t29=>(a0b tab p905.2 ty3 t29).bind fun t30=>(a0a tab a0l 1 p1.1).bind fun t31=>(a0b tab p905.2 ty3 t31).bind fun t32=>(a1B tab a0V ty3 t10).bind fun t34=>(a0m tab .add ty3 t32 t34).bind fun t35=>(a0A tab a0N true true false [t28,t30,t35]).bind fun t36=>(a3E p905.2 t36).bind fun t37=>(a0a tab a0l 1 p1.1).bind fun t38=>(a0b tab p905.2 ty3 t38).bind fun t39=>(a1B tab a0V ty3 t10).bind fun t41=>(a0m tab .add ty3 t39 t41).bind fun t42=>(a0a tab a0l 1 p1.1).bind fun t43=>((a0h tab p905.2 ty3 t43 t42).bind fun h'=>some ((.und:D),h')).bind fun p906=>(a0b tab p906.2 a0l p1.1).bind fun t44=>((a0h tab p906.2 a0l p2.1 t44).bind fun h'=>some ((.und:D),h')).bind fun p902=>(a0b tab p902.2 a0l p2.1).bind fun d0=>scope h p902.2 (a0k [d0,t37]))
theorem d0v (t0:D) (h:Hp):R a4S [t0] h=c5H t0 h :=
 er i71 (by kernel_rfl) (by kernel_rfl)
noncomputable def b3m (p1:D × Hp) (t4m:D) (ds:List D) (h_1:Hp):Option Out :=
 (a0a tab a0l 2 p1.1).bind fun t13=>(a0b tab h_1 ty4 t13).bind fun t14=>(gd t14 true (some (nth 1 ds))).bind fun t16=>(gd t14 true (some (t4m:D))).bind fun t17=>(gd t14 true (a0m tab .lss a0V t16 t17)).bind fun t18=>(a0O t14 t18 (.bool false)).bind fun t19=>dIf t19
  ((some ((.ptr h_1.length 0 0:D),a0H h_1 a1o 3 [[.int .i64 0,.int .i64 0,.str []]])).bind fun p7=>(a0b tab p7.2 a0l p1.1).bind fun t23=>(R a3t [t23] p7.2).bind fun p24=>(a0i 0 p24.1).bind fun t25=>(a0i 1 p24.1).bind fun t26=>((a0h tab p24.2 a0l p1.1 t25).bind fun h'=>some ((.und:D),h')).bind fun p905_1=>(a0a tab a1o 0 p7.1).bind fun t27=>((a0h tab p905_1.2 ty3 t27 t26).bind fun h'=>some ((.und:D),h')).bind fun p907=>(a0b tab p907.2 a0l p1.1).bind fun t29=>(R a3t [t29] p907.2).bind fun p30=>(a0i 0 p30.1).bind fun t31=>(a0i 1 p30.1).bind fun t32=>((a0h tab p30.2 a0l p1.1 t31).bind fun h'=>some ((.und:D),h')).bind fun p905_2=>(a0a tab a1o 1 p7.1).bind fun t33=>((a0h tab p905_2.2 ty3 t33 t32).bind fun h'=>some ((.und:D),h')).bind fun p907_1=>(a0b tab p907_1.2 a0l p1.1).bind fun t35=>(R a4S [t35] p907_1.2).bind fun p36=>(a0i 0 p36.1).bind fun t37=>(a0i 1 p36.1).bind fun t38=>((a0h tab p36.2 a0l p1.1 t37).bind fun h'=>some ((.und:D),h')).bind fun p905_3=>(a0a tab a1o 2 p7.1).bind fun t39=>((a0h tab p905_3.2 ty9 t39 t38).bind fun h'=>some ((.und:D),h')).bind fun p907_2=>(a0b tab p907_2.2 a1o p7.1).bind fun t41=>(a0X tab a1i 1 [0] [t41]).bind fun t42=>(a0F tab p907_2.2 a1i a1i (nth 0 ds) t42).bind fun p43=>(a0m tab .add a0V (nth 1 ds) (.int .u64 1)).bind fun t21=>some (.nrm,[p43.1,t21,p7.1,t19],p43.2))
  (some ((.ext 0),[nth 0 ds,nth 1 ds,nth 2 ds,t19],h_1))
noncomputable def c5J (t0:D) (h:Hp):Option (D × Hp) :=
 (b5j a0l 3 h t0).bind fun p1=>(some ((.ptr p1.2.length 0 0:D),a0H p1.2 a0l 3 [[.nils,.int .i64 0,.bool false]])).bind fun p2=>(a0b tab p2.2 a0l p1.1).bind fun t9=>(R a2B [t9,.int .i64 4] p2.2).bind fun p10=>(a0i 0 p10.1).bind fun t11=>(a0i 1 p10.1).bind fun t12=>((a0h tab p10.2 a0l p1.1 t11).bind fun h'=>some ((.und:D),h')).bind fun p905=>((a0P (b3m p1 t12) [.nils,.int .u64 0,.any,.any] p905.2).bind fun r=>some ((a0T 0 r.1),[nth 0 r.2.1,nth 1 r.2.1,nth 2 r.2.1,nth 3 r.2.1],r.2.2)).bind fun r_1=>a0Y r_1.1 ((a0b tab r_1.2.2 a0l p1.1).bind fun t44=>((a0h tab r_1.2.2 a0l p2.1 t44).bind fun h'=>some ((.und:D),h')).bind fun p902=>(a0b tab p902.2 a0l p2.1).bind fun d0=>scope h p902.2 (a0k [d0,nth 0 r_1.2.1])) fun x=>a0Z x ((a0b tab r_1.2.2 a0l p2.1).bind fun d0=>scope h r_1.2.2 (a0k [d0,.nils]))
theorem d0x (t0:D) (h:Hp):R b1p [t0] h=c5J t0 h :=
 er i72 (by kernel_rfl) (by kernel_rfl)
noncomputable def b3n (p1:D × Hp) (t4m:D) (ds:List D) (h_1:Hp):Option Out :=
 (a0a tab a0l 2 p1.1).bind fun t13=>(a0b tab h_1 ty4 t13).bind fun t14=>(gd t14 true (some (nth 1 ds))).bind fun t16=>(gd t14 true (some (t4m:D))).bind fun t17=>(gd t14 true (a0m tab .lss a0V t16 t17)).bind fun t18=>(a0O t14 t18 (.bool false)).bind fun t19=>dIf t19
  ((some ((.ptr h_1.length 0 0:D),a0H h_1 a0x 2 [[.str [],.str []]])).bind fun p7=>(a0b tab p7.2 a0l p1.1).bind fun t23=>(R a4S [t23] p7.2).bind fun p24=>(a0i 0 p24.1).bind fun t25=>(a0i 1 p24.1).bind fun t26=>((a0h tab p24.2 a0l p1.1 t25).bind fun h'=>some ((.und:D),h')).bind fun p905_1=>(a0a tab a0x 0 p7.1).bind fun t27=>((a0h tab p905_1.2 ty9 t27 t26).bind fun h'=>some ((.und:D),h')).bind fun p907=>(a0b tab p907.2 a0l p1.1).bind fun t29=>(R a4S [t29] p907.2).bind fun p30=>(a0i 0 p30.1).bind fun t31=>(a0i 1 p30.1).bind fun t32=>((a0h tab p30.2 a0l p1.1 t31).bind fun h'=>some ((.und:D),h')).bind fun p905_2=>(a0a tab a0x 1 p7.1).bind fun t33=>((a0h tab p905_2.2 ty9 t33 t32).bind fun h'=>some ((.und:D),h')).bind fun p907_1=>(a0b tab p907_1.2 a0x p7.1).bind fun t35=>(a0X tab a1e 1 [0] [t35]).bind fun t36=>(a0F tab p907_1.2 a1e a1e (nth 0 ds) t36).bind fun p37=>(a0m tab .add a0V (nth 1 ds) (.int .u64 1)).bind fun t21=>some (.nrm,[p37.1,t21,p7.1,t19],p37.2))
  (some ((.ext 0),[nth 0 ds,nth 1 ds,nth 2 ds,t19],h_1))
noncomputable def c5K (t0:D) (h:Hp):Option (D × Hp) :=
 (b5j a0l 3 h t0).bind fun p1=>(some ((.ptr p1.2.length 0 0:D),a0H p1.2 a0l 3 [[.nils,.int .i64 0,.bool false]])).bind fun p2=>(a0b tab p2.2 a0l p1.1).bind fun t9=>(R a2B [t9,.int .i64 4] p2.2).bind fun p10=>(a0i 0 p10.1).bind fun t11=>(a0i 1 p10.1).bind fun t12=>((a0h tab p10.2 a0l p1.1 t11).bind fun h'=>some ((.und:D),h')).bind fun p905=>((a0P (b3n p1 t12) [.nils,.int .u64 0,.any,.any] p905.2).bind fun r=>some ((a0T 0 r.1),[nth 0 r.2.1,nth 1 r.2.1,nth 2 r.2.1,nth 3 r.2.1],r.2.2)).bind fun r_1=>a0Y r_1.1 ((a0b tab r_1.2.2 a0l p1.1).bind fun t38=>((a0h tab r_1.2.2 a0l p2.1 t38).bind fun h'=>some ((.und:D),h')).bind fun p902=>(a0b tab p902.2 a0l p2.1).bind fun d0=>scope h p902.2 (a0k [d0,nth 0 r_1.2.1])) fun x=>a0Z x ((a0b tab r_1.2.2 a0l p2.1).bind fun d0=>scope h r_1.2.2 (a0k [d0,.nils]))
theorem d0y (t0:D) (h:Hp):R b1q [t0] h=c5K t0 h :=
 er i73 (by kernel_rfl) (by kernel_rfl)
noncomputable def c1r (t0 t1:D) (ds:List D) (h_1:Hp):Option Out :=
 (a0y tab a1i t0).bind fun t13=>(a0m tab .lss ty3 (nth 1 ds) t13).bind fun t14=>dIf t14
  ((a0c tab a1i t0 (nth 1 ds)).bind fun t19=>(a0b tab h_1 a1o t19).bind fun t20=>(a0c tab a1i t1 (nth 1 ds)).bind fun t23=>(a0b tab h_1 a1o t23).bind fun t24=>(a0m tab .neq a1o t20 t24).bind fun t25=>dIf t25
  (some (.ret,[.bool false,nth 1 ds,t14,t25],h_1))
  ((a0m tab .add ty3 (nth 1 ds) (.int .i64 1)).bind fun t16=>some (.nrm,[nth 0 ds,t16,t14,t25],h_1)))
  (some ((.ext 0),[nth 0 ds,nth 1 ds,t14,nth 3 ds],h_1))
noncomputable def F94 (t0 t1:D) (h:Hp):Option (D × Hp) :=
 (a0y tab a1i t0).bind fun t7=>(a0y tab a1i t1).bind fun t9=>(a0m tab .neq ty3 t7 t9).bind fun t10=>dIf t10
  (some (a0k [.bool false],h))
  (((a0P (c1r t0 t1) [.bool false,.int .i64 0,.any,.any] h).bind fun r=>some ((a0T 0 r.1),[nth 0 r.2.1,nth 1 r.2.1,nth 2 r.2.1,nth 3 r.2.1],r.2.2)).bind fun r_1=>a0Y r_1.1 (some (a0k [.bool true],r_1.2.2)) fun x=>a0Z x (some (a0k [nth 0 r_1.2.1],r_1.2.2)))
theorem e94 (t0 t1:D) (h:Hp):R d1z [t0,t1] h=F94 t0 t1 h :=
 er i74 (by kernel_rfl) (by kernel_rfl)
noncomputable def c1s (t0 t1:D) (ds:List D) (h_1:Hp):Option Out :=
 (a0y tab a1e t0).bind fun t13=>(a0m tab .lss ty3 (nth 1 ds) t13).bind fun t14=>dIf t14
  ((a0c tab a1e t0 (nth 1 ds)).bind fun t19=>(a0b tab h_1 a0x t19).bind fun t20=>(a0c tab a1e t1 (nth 1 ds)).bind fun t23=>(a0b tab h_1 a0x t23).bind fun t24=>(a0m tab .neq a0x t20 t24).bind fun t25=>dIf t25
  (some (.ret,[.bool false,nth 1 ds,t14,t25],h_1))
  ((a0m tab .add ty3 (nth 1 ds) (.int .i64 1)).bind fun t16=>some (.nrm,[nth 0 ds,t16,t14,t25],h_1)))
  (some ((.ext 0),[nth 0 ds,nth 1 ds,t14,nth 3 ds],h_1))
noncomputable def F95 (t0 t1:D) (h:Hp):Option (D × Hp) :=
 (a0y tab a1e t0).bind fun t7=>(a0y tab a1e t1).bind fun t9=>(a0m tab .neq ty3 t7 t9).bind fun t10=>dIf t10
  (some (a0k [.bool false],h))
  (((a0P (c1s t0 t1) [.bool false,.int .i64 0,.any,.any] h).bind fun r=>some ((a0T 0 r.1),[nth 0 r.2.1,nth 1 r.2.1,nth 2 r.2.1,nth 3 r.2.1],r.2.2)).bind fun r_1=>a0Y r_1.1 (some (a0k [.bool true],r_1.2.2)) fun x=>a0Z x (some (a0k [nth 0 r_1.2.1],r_1.2.2)))
theorem e95 (t0 t1:D) (h:Hp):R c8H [t0,t1] h=F95 t0 t1 h :=
 er i75 (by kernel_rfl) (by kernel_rfl)
noncomputable def c5h (t0 t1 t2:D) (h:Hp):Option (D × Hp) :=
 (a0m tab .leq ty3 t1 t0).bind fun t9=>(gd t9 true (some t0)).bind fun t11=>(gd t9 true (some t2)).bind fun t12=>(gd t9 true (a0m tab .leq ty3 t11 t12)).bind fun t13=>(a0O t9 t13 (.bool false)).bind fun t14=>some (a0k [t14],h)
theorem c9T (t0 t1 t2:D) (h:Hp):R a8Z [t0,t1,t2] h=c5h t0 t1 t2 h :=
 er i76 (by kernel_rfl) (by kernel_rfl)
noncomputable def a9u (t10m t11:D) (ds:List D) (h_1:Hp):Option Out :=
 (a0m tab .lss ty3 (nth 3 ds) t11).bind fun t13=>dIf t13
  ((a0c tab a1e t10m (nth 3 ds)).bind fun t14=>(a0b tab h_1 a0x t14).bind fun t15=>(a3s 2 t15).bind fun t5=>(a0a tab a0x 0 t5).bind fun t16=>(a0b tab h_1 ty9 t16).bind fun t17=>(R b7q [t17] h_1).bind fun p18=>(dUn .not p18.1).bind fun t19=>dIf t19
  (some (.ret,[.nils,.int .i64 6,t5,nth 3 ds,t13,t19],p18.2))
  ((a0m tab .add ty3 (nth 3 ds) (.int .i64 1)).bind fun t20=>some (.nrm,[nth 0 ds,nth 1 ds,t5,t20,t13,t19],p18.2)))
  (some ((.ext 0),[nth 0 ds,nth 1 ds,nth 2 ds,nth 3 ds,t13,nth 5 ds],h_1))
noncomputable def a9v (t0m:D) (ds_1:List D) (h_2:Hp):Option Out :=
 (a0y tab a1e t0m).bind fun t27=>(a0m tab .lss ty3 (nth 2 ds_1) t27).bind fun t28=>dIf t28
  ((a0c tab a1e t0m (nth 2 ds_1)).bind fun t33=>(a0a tab a0x 0 t33).bind fun t34=>(a0b tab h_2 ty9 t34).bind fun t35=>(a0m tab .sub ty3 (nth 2 ds_1) (.int .i64 1)).bind fun t38=>(a0c tab a1e t0m t38).bind fun t39=>(a0a tab a0x 0 t39).bind fun t40=>(a0b tab h_2 ty9 t40).bind fun t41=>(a0m tab .eql ty9 t35 t41).bind fun t42=>dIf t42
  (some (.ret,[.nils,.int .i64 7,nth 2 ds_1,t28,t42],h_2))
  ((a0m tab .add ty3 (nth 2 ds_1) (.int .i64 1)).bind fun t30=>some (.nrm,[nth 0 ds_1,nth 1 ds_1,t30,t28,t42],h_2)))
  (some ((.ext 2),[nth 0 ds_1,nth 1 ds_1,nth 2 ds_1,t28,nth 4 ds_1],h_2))
noncomputable def c2u (t0:D) (h:Hp):Option (D × Hp) :=
 (a0y tab a1e t0).bind fun t8=>(a0m tab .gtr ty3 t8 (.int .i64 32)).bind fun t9=>dIf t9
  (some (a0k [.nils,.int .i64 4],h))
  ((a0y tab a1e t0).bind fun t11=>((a0P (a9u t0 t11) [.nils,.int .i64 0,.any,.int .i64 0,.any,.any] h).bind fun r=>some ((a0T 0 r.1),[nth 0 r.2.1,nth 1 r.2.1,nth 2 r.2.1,nth 3 r.2.1,nth 4 r.2.1,nth 5 r.2.1],r.2.2)).bind fun r_1=>a0Y r_1.1 ((R b7h [t0] r_1.2.2).bind fun p22=>(R b1l [p22.1,.fn (.func a7W) [] []] p22.2).bind fun p24=>((a0P (a9v p22.1) [nth 0 r_1.2.1,nth 1 r_1.2.1,.int .i64 1,.any,.any] p24.2).bind fun r_2=>some ((a0T 2 r_2.1),[nth 0 r_2.2.1,nth 1 r_2.2.1,nth 2 r_2.2.1,nth 3 r_2.2.1,nth 4 r_2.2.1],r_2.2.2)).bind fun r_3=>a0Y r_3.1 (some (a0k [p22.1,.int .i64 0],r_3.2.2)) fun x_1=>a0Z x_1 (some (a0k [nth 0 r_3.2.1,nth 1 r_3.2.1],r_3.2.2))) fun x=>a0Z x (some (a0k [nth 0 r_1.2.1,nth 1 r_1.2.1],r_1.2.2)))
theorem c9U (t0:D) (h:Hp):R b1j [t0] h=c2u t0 h :=
 er i77 (by kernel_rfl) (by kernel_rfl)
noncomputable def b3d (t0 t1 t12:D) (ds:List D) (h_1:Hp):Option Out :=
 (a0m tab .lss ty3 (nth 2 ds) t12).bind fun t14=>dIf t14
  ((a0c tab a1e t0 (nth 2 ds)).bind fun t18=>(a0b tab h_1 a0x t18).bind fun t19=>(a0c tab a1e t1 (nth 2 ds)).bind fun t22=>(a0b tab h_1 a0x t22).bind fun t23=>(a0m tab .neq a0x t19 t23).bind fun t24=>dIf t24
  (some (.ret,[.bool false,nth 2 ds,nth 2 ds,t14,t24],h_1))
  ((a0m tab .add ty3 (nth 2 ds) (.int .i64 1)).bind fun t25=>some (.nrm,[nth 0 ds,nth 2 ds,t25,t14,t24],h_1)))
  (some ((.ext 0),[nth 0 ds,nth 1 ds,nth 2 ds,t14,nth 4 ds],h_1))
noncomputable def c5i (t0 t1:D) (h:Hp):Option (D × Hp) :=
 (a0y tab a1e t0).bind fun t7=>(a0y tab a1e t1).bind fun t9=>(a0m tab .neq ty3 t7 t9).bind fun t10=>dIf t10
  (some (a0k [.bool false],h))
  ((a0y tab a1e t0).bind fun t12=>((a0P (b3d t0 t1 t12) [.bool false,.any,.int .i64 0,.any,.any] h).bind fun r=>some ((a0T 0 r.1),[nth 0 r.2.1,nth 1 r.2.1,nth 2 r.2.1,nth 3 r.2.1,nth 4 r.2.1],r.2.2)).bind fun r_1=>a0Y r_1.1 (some (a0k [.bool true],r_1.2.2)) fun x=>a0Z x (some (a0k [nth 0 r_1.2.1],r_1.2.2)))
theorem c9V (t0 t1:D) (h:Hp):R b7o [t0,t1] h=c5i t0 t1 h :=
 er i78 (by kernel_rfl) (by kernel_rfl)
noncomputable def c5j (t0 t1:D) (h:Hp):Option (D × Hp) :=
 (R b7s [t0,t1] h).bind fun p7=>(a0m tab .geq ty3 p7.1 (.int .i64 0)).bind fun t8=>some (a0k [t8],p7.2)
theorem c9W (t0 t1:D) (h:Hp):R b7p [t0,t1] h=c5j t0 t1 h :=
 er i79 (by kernel_rfl) (by kernel_rfl)
noncomputable def c5k (t0:D) (h:Hp):Option (D × Hp) :=
 (a2R t0).bind fun t1=>(a0a tab a0x 1 t1).bind fun t3=>(a0b tab h ty9 t3).bind fun t4=>(a0y tab ty9 t4).bind fun t5=>(a0m tab .gtr ty3 t5 (.int .i64 2000)).bind fun t6=>some (a0k [t6],h)
theorem c9X (t0:D) (h:Hp):R b1k [t0] h=c5k t0 h :=
 er i80 (by kernel_rfl) (by kernel_rfl)
noncomputable def a5Z (t0 t1 t7:D) (ds:List D) (h_1:Hp):Option Out :=
 (a0m tab .lss ty3 (nth 2 ds) t7).bind fun t9=>dIf t9
  ((a0c tab a1i t0 (nth 2 ds)).bind fun t14=>(a0b tab h_1 a1o t14).bind fun t15=>(a4H R t1 [t15] h_1).bind fun p16=>dIf p16.1
  (some (.ret,[nth 2 ds,nth 2 ds,nth 2 ds,t9,p16.1],p16.2))
  ((a0m tab .add ty3 (nth 2 ds) (.int .i64 1)).bind fun t18=>some (.nrm,[nth 0 ds,nth 2 ds,t18,t9,p16.1],p16.2)))
  (some ((.ext 0),[nth 0 ds,nth 1 ds,nth 2 ds,t9,nth 4 ds],h_1))
noncomputable def c4S (t0 t1:D) (h:Hp):Option (D × Hp) :=
 (a0y tab a1i t0).bind fun t7=>((a0P (a5Z t0 t1 t7) [.int .i64 0,.any,.int .i64 0,.any,.any] h).bind fun r=>some ((a0T 0 r.1),[nth 0 r.2.1,nth 1 r.2.1,nth 2 r.2.1,nth 3 r.2.1,nth 4 r.2.1],r.2.2)).bind fun r_1=>a0Y r_1.1 (some (a0k [.int .i64 (-1)],r_1.2.2)) fun x=>a0Z x (some (a0k [nth 0 r_1.2.1],r_1.2.2))
theorem c9B (t0 t1:D) (h:Hp):R b7g [t0,t1] h=c4S t0 t1 h :=
 er i81 (by kernel_rfl) (by kernel_rfl)
noncomputable def a9r (t5m:D) (ds:List D) (h_1:Hp):Option Out :=
 (a0y tab a1e t5m).bind fun t57=>(a0m tab .lss ty3 (nth 1 ds) t57).bind fun t58=>dIf t58
  ((a0c tab a1e t5m (nth 1 ds)).bind fun t63=>(a0a tab a0x 1 t63).bind fun t64=>(a0b tab h_1 ty9 t64).bind fun t65=>(a0y tab ty9 t65).bind fun t66=>(a0m tab .gtr ty3 t66 (.int .i64 2000)).bind fun t67=>dIf t67
  (some (.ret,[.int .i64 3,nth 1 ds,t58,t67],h_1))
  ((a0m tab .add ty3 (nth 1 ds) (.int .i64 1)).bind fun t60=>some (.nrm,[nth 0 ds,t60,t58,t67],h_1)))
  (some ((.ext 0),[nth 0 ds,nth 1 ds,t58,nth 3 ds],h_1))
noncomputable def c4T (t0:D) (h:Hp):Option (D × Hp) :=
 (a2R t0).bind fun t1=>(a0b tab h a0E t1).bind fun t8=>(R b3Y [t8] h).bind fun p9=>(a0m tab .neq a5I p9.1 (.int .i64 0)).bind fun t11=>(gd t11 false (a0a tab a0E 5 t1)).bind fun t13=>(gd t11 false (a0b tab p9.2 ty3 t13)).bind fun t14=>(gd t11 false (a0m tab .lss ty3 t14 (.int .i64 0))).bind fun t15=>(a0O t11 (.bool true) t15).bind fun t16=>(gd t16 false (a0a tab a0E 5 t1)).bind fun t18=>(gd t16 false (a0b tab p9.2 ty3 t18)).bind fun t19=>(gd t16 false (a0m tab .gtr ty3 t19 (.int .i64 253402300799999))).bind fun t20=>(a0O t16 (.bool true) t20).bind fun t21=>dIf t21
  (some (a0k [.int .i64 2],p9.2))
  ((a0a tab a0E 6 t1).bind fun t22=>(a0b tab p9.2 ty3 t22).bind fun t23=>(R b7j [t23] p9.2).bind fun p24=>(dUn .not p24.1).bind fun t25=>dIf t25
  (some (a0k [.int .i64 21],p24.2))
  ((a0b tab p24.2 a0E t1).bind fun t26=>(R b3Z [t26,.int .i64 2000] p24.2).bind fun p27=>(a0m tab .neq a5I p27.1 (.int .i64 0)).bind fun t29=>dIf t29
  (some (a0k [p27.1],p27.2))
  ((a0a tab a0E 7 t1).bind fun t31=>(a0b tab p27.2 ty9 t31).bind fun t32=>(a0y tab ty9 t32).bind fun t33=>(a0m tab .gtr ty3 t33 (.int .i64 32)).bind fun t34=>(gd t34 false (a0a tab a0E 8 t1)).bind fun t36=>(gd t34 false (a0b tab p27.2 ty9 t36)).bind fun t37=>(gd t34 false (a0y tab ty9 t37)).bind fun t38=>(gd t34 false (a0m tab .gtr ty3 t38 (.int .i64 32))).bind fun t39=>(a0O t34 (.bool true) t39).bind fun t40=>dIf t40
  (some (a0k [.int .i64 3],p27.2))
  ((a0a tab a0E 9 t1).bind fun t42=>(a0b tab p27.2 a1e t42).bind fun t43=>(R b4a [t43] p27.2).bind fun p44=>(a0i 0 p44.1).bind fun t45=>(a0i 1 p44.1).bind fun t46=>(a0m tab .neq a5I t46 (.int .i64 0)).bind fun t48=>dIf t48
  (some (a0k [t46],p44.2))
  ((a0a tab a0E 9 t1).bind fun t51=>(a0b tab p44.2 a1e t51).bind fun t52=>(R c8H [t45,t52] p44.2).bind fun p53=>(dUn .not p53.1).bind fun t54=>dIf t54
  (some (a0k [.int .i64 19],p53.2))
  (((a0P (a9r t45) [.int .i64 0,.int .i64 0,.any,.any] p53.2).bind fun r=>some ((a0T 0 r.1),[nth 0 r.2.1,nth 1 r.2.1,nth 2 r.2.1,nth 3 r.2.1],r.2.2)).bind fun r_1=>a0Y r_1.1 (some (a0k [.int .i64 0],r_1.2.2)) fun x=>a0Z x (some (a0k [nth 0 r_1.2.1],r_1.2.2))))))))
theorem c9D (t0:D) (h:Hp):R b7i [t0] h=c4T t0 h :=
 er i82 (by kernel_rfl) (by kernel_rfl)
noncomputable def c4U (t0:D) (h:Hp):Option (D × Hp) :=
 (a2R t0).bind fun t1=>(a0a tab a0E 0 t1).bind fun t3=>(a0b tab h ty3 t3).bind fun t4=>(a0m tab .lss ty3 t4 (.int .i64 0)).bind fun t5=>(gd t5 false (a0a tab a0E 0 t1)).bind fun t7=>(gd t5 false (a0b tab h ty3 t7)).bind fun t8=>(gd t5 false (a0m tab .gtr ty3 t8 (.int .i64 999))).bind fun t9=>(a0O t5 (.bool true) t9).bind fun t10=>(gd t10 false (a0a tab a0E 1 t1)).bind fun t12=>(gd t10 false (a0b tab h ty3 t12)).bind fun t13=>(gd t10 false (a0m tab .lss ty3 t13 (.int .i64 0))).bind fun t14=>(a0O t10 (.bool true) t14).bind fun t15=>(gd t15 false (a0a tab a0E 1 t1)).bind fun t17=>(gd t15 false (a0b tab h ty3 t17)).bind fun t18=>(gd t15 false (a0m tab .gtr ty3 t18 (.int .i64 2147483646))).bind fun t19=>(a0O t15 (.bool true) t19).bind fun t20=>(gd t20 false (a0a tab a0E 2 t1)).bind fun t22=>(gd t20 false (a0b tab h ty3 t22)).bind fun t23=>(gd t20 false (a0m tab .lss ty3 t23 (.int .i64 0))).bind fun t24=>(a0O t20 (.bool true) t24).bind fun t25=>(gd t25 false (a0a tab a0E 3 t1)).bind fun t27=>(gd t25 false (a0b tab h ty3 t27)).bind fun t28=>(gd t25 false (a0a tab a0E 2 t1)).bind fun t29=>(gd t25 false (a0b tab h ty3 t29)).bind fun t30=>(gd t25 false (a0m tab .leq ty3 t28 t30)).bind fun t31=>(a0O t25 (.bool true) t31).bind fun t32=>(gd t32 false (a0a tab a0E 3 t1)).bind fun t34=>(gd t32 false (a0b tab h ty3 t34)).bind fun t35=>(gd t32 false (a0m tab .gtr ty3 t35 (.int .i64 60000))).bind fun t36=>(a0O t32 (.bool true) t36).bind fun t37=>dIf t37
  (some (a0k [.int .i64 2],h))
  (some (a0k [.int .i64 0],h))
theorem c9E (t0:D) (h:Hp):R b3Y [t0] h=c4U t0 h :=
 er i83 (by kernel_rfl) (by kernel_rfl)
noncomputable def b2Z (t1 t2:D) (ds:List D) (h_1:Hp):Option Out :=
 (a0a tab a0E 4 t2).bind fun t19=>(a0b tab h_1 a1i t19).bind fun t20=>(a0y tab a1i t20).bind fun t21=>(a0m tab .lss ty3 (nth 2 ds) t21).bind fun t22=>dIf t22
  ((a0a tab a0E 4 t2).bind fun t25=>(a0b tab h_1 a1i t25).bind fun t26=>(a0c tab a1i t26 (nth 2 ds)).bind fun t28=>(a0b tab h_1 a1o t28).bind fun t29=>(a3s 3 t29).bind fun t7=>(a0a tab a1o 0 t7).bind fun t30=>(a0b tab h_1 ty3 t30).bind fun t31=>(a0m tab .neq ty3 t31 (nth 1 ds)).bind fun t33=>(gd t33 false (a0a tab a1o 1 t7)).bind fun t35=>(gd t33 false (a0b tab h_1 ty3 t35)).bind fun t36=>(gd t33 false (a0m tab .lss ty3 t36 (.int .i64 1))).bind fun t37=>(a0O t33 (.bool true) t37).bind fun t38=>(gd t38 false (a0a tab a1o 1 t7)).bind fun t40=>(gd t38 false (a0b tab h_1 ty3 t40)).bind fun t41=>(gd t38 false (a0a tab a0E 3 t2)).bind fun t42=>(gd t38 false (a0b tab h_1 ty3 t42)).bind fun t43=>(gd t38 false (some (nth 1 ds))).bind fun t44=>(gd t38 false (a0m tab .sub ty3 t43 t44)).bind fun t45=>(gd t38 false (a0m tab .gtr ty3 t41 t45)).bind fun t46=>(a0O t38 (.bool true) t46).bind fun t47=>(gd t47 false (some (nth 2 ds))).bind fun t49=>(gd t47 false (a0a tab a0E 4 t2)).bind fun t50=>(gd t47 false (a0b tab h_1 a1i t50)).bind fun t51=>(gd t47 false (a0y tab a1i t51)).bind fun t52=>(gd t47 false (a0m tab .sub ty3 t52 (.int .i64 1))).bind fun t53=>(gd t47 false (a0m tab .eql ty3 t49 t53)).bind fun t54=>(gd t47 false (some t54)).bind fun t55=>(gd t55 true (a0a tab a1o 1 t7)).bind fun t56=>(gd t55 true (a0b tab h_1 ty3 t56)).bind fun t57=>(gd t55 true (a0a tab a0E 3 t2)).bind fun t58=>(gd t55 true (a0b tab h_1 ty3 t58)).bind fun t59=>(gd t55 true (some (nth 1 ds))).bind fun t60=>(gd t55 true (a0m tab .sub ty3 t59 t60)).bind fun t61=>(gd t55 true (a0m tab .neq ty3 t57 t61)).bind fun t62=>(gd t47 false (a0O t55 t62 (.bool false))).bind fun t63=>(a0O t47 (.bool true) t63).bind fun t64=>dIf t64
  (some (.ret,[.int .i64 19,nth 1 ds,nth 2 ds,t7,t22,t64,nth 6 ds],h_1))
  ((a0a tab a1o 2 t7).bind fun t65=>(a0b tab h_1 ty9 t65).bind fun t66=>(a0y tab ty9 t66).bind fun t67=>(a0m tab .gtr ty3 t67 t1).bind fun t69=>dIf t69
  (some (.ret,[.int .i64 3,nth 1 ds,nth 2 ds,t7,t22,t64,t69],h_1))
  ((a0a tab a1o 1 t7).bind fun t71=>(a0b tab h_1 ty3 t71).bind fun t72=>(a0m tab .add ty3 (nth 1 ds) t72).bind fun t73=>(a0m tab .add ty3 (nth 2 ds) (.int .i64 1)).bind fun t24=>some (.nrm,[nth 0 ds,t73,t24,t7,t22,t64,t69],h_1))))
  (some ((.ext 0),[nth 0 ds,nth 1 ds,nth 2 ds,nth 3 ds,t22,nth 5 ds,nth 6 ds],h_1))
noncomputable def c4V (t0 t1:D) (h:Hp):Option (D × Hp) :=
 (a2R t0).bind fun t2=>(a0a tab a0E 4 t2).bind fun t8=>(a0b tab h a1i t8).bind fun t9=>(a0y tab a1i t9).bind fun t10=>(a0m tab .eql ty3 t10 (.int .i64 0)).bind fun t11=>dIf t11
  (some (a0k [.int .i64 9],h))
  ((a0a tab a0E 4 t2).bind fun t12=>(a0b tab h a1i t12).bind fun t13=>(a0y tab a1i t13).bind fun t14=>(a0m tab .gtr ty3 t14 (.int .i64 40)).bind fun t15=>dIf t15
  (some (a0k [.int .i64 4],h))
  ((a0a tab a0E 2 t2).bind fun t16=>(a0b tab h ty3 t16).bind fun t17=>((a0P (b2Z t1 t2) [.int .i64 0,t17,.int .i64 0,.any,.any,.any,.any] h).bind fun r=>some ((a0T 0 r.1),[nth 0 r.2.1,nth 1 r.2.1,nth 2 r.2.1,nth 3 r.2.1,nth 4 r.2.1,nth 5 r.2.1,nth 6 r.2.1],r.2.2)).bind fun r_1=>a0Y r_1.1 (some (a0k [.int .i64 0],r_1.2.2)) fun x=>a0Z x (some (a0k [nth 0 r_1.2.1],r_1.2.2))))
theorem c9F (t0 t1:D) (h:Hp):R b3Z [t0,t1] h=c4V t0 t1 h :=
 er i84 (by kernel_rfl) (by kernel_rfl)
noncomputable def c5x (t0 t1:D) (h:Hp):Option (D × Hp) :=
 (a0y tab ty9 t1).bind fun t7=>(a1B tab ty3 a0V t7).bind fun t8=>(R a2l [t0,t8,.int .i64 4] h).bind fun p9=>(a0F tab p9.2 a0N ty9 p9.1 t1).bind fun p11=>some (a0k [p11.1],p11.2)
theorem d0l (t0 t1:D) (h:Hp):R a6x [t0,t1] h=c5x t0 t1 h :=
 er i85 (by kernel_rfl) (by kernel_rfl)
noncomputable def c5y (t0 t1:D) (h:Hp):Option (D × Hp) :=
 (a1B tab ty3 a0V t1).bind fun t7=>(R a2l [t0,t7,.int .i64 8] h).bind fun p8=>some (a0k [p8.1],p8.2)
theorem d0m (t0 t1:D) (h:Hp):R a4R [t0,t1] h=c5y t0 t1 h :=
 er i86 (by kernel_rfl) (by kernel_rfl)
noncomputable def a5l (p24:D × Hp) (t25:D) (ds:List D) (h_1:Hp):Option Out :=
 (a0m tab .lss ty3 (nth 2 ds) t25).bind fun t27=>dIf t27
  ((a0c tab a0N p24.1 (nth 2 ds)).bind fun t28=>(a0b tab h_1 ty5 t28).bind fun t29=>(R b7u [t29] h_1).bind fun p31=>(dUn .not p31.1).bind fun t32=>(gd t32 true (some t29)).bind fun t34=>(gd t32 true (a0m tab .neq ty5 t34 (.int .u8 46))).bind fun t35=>(a0O t32 t35 (.bool false)).bind fun t36=>dIf t36
  (some (.ret,[.bool false,t29,nth 2 ds,t27,t36],p31.2))
  ((a0m tab .add ty3 (nth 2 ds) (.int .i64 1)).bind fun t37=>some (.nrm,[nth 0 ds,t29,t37,t27,t36],p31.2)))
  (some ((.ext 0),[nth 0 ds,nth 1 ds,nth 2 ds,t27,nth 4 ds],h_1))
noncomputable def b5m (t0:D) (h:Hp):Option (D × Hp) :=
 (a0m tab .eql ty9 t0 (.str [])).bind fun t6=>(gd t6 false (some t0)).bind fun t8=>(gd t6 false (a0y tab ty9 t8)).bind fun t9=>(gd t6 false (a0m tab .gtr ty3 t9 (.int .i64 32))).bind fun t10=>(a0O t6 (.bool true) t10).bind fun t11=>(gd t11 false (some t0)).bind fun t13=>(gd t11 false (a4A tab ty9 t13 (.int .i64 0))).bind fun t14=>(gdW t11 false h (R b7t [t14] h)).bind fun p15=>(gd t11 false (dUn .not p15.1)).bind fun t16=>(gd t11 false (some t16)).bind fun t17=>(gd t17 true (some t0)).bind fun t18=>(gd t17 true (a4A tab ty9 t18 (.int .i64 0))).bind fun t19=>(gd t17 true (a0m tab .neq ty5 t19 (.int .u8 95))).bind fun t20=>(gd t11 false (a0O t17 t20 (.bool false))).bind fun t21=>(a0O t11 (.bool true) t21).bind fun t22=>dIf t22
  (scope h p15.2 (a0k [.bool false]))
  ((c2q ty5 p15.2 t0).bind fun p24=>(a0y tab a0N p24.1).bind fun t25=>((a0P (a5l p24 t25) [.bool false,.any,.int .i64 0,.any,.any] p24.2).bind fun r=>some ((a0T 0 r.1),[nth 0 r.2.1,nth 1 r.2.1,nth 2 r.2.1,nth 3 r.2.1,nth 4 r.2.1],r.2.2)).bind fun r_1=>a0Y r_1.1 (scope h r_1.2.2 (a0k [.bool true])) fun x=>a0Z x (scope h r_1.2.2 (a0k [nth 0 r_1.2.1])))
theorem c9Y (t0:D) (h:Hp):R b7q [t0] h=b5m t0 h :=
 er i87 (by kernel_rfl) (by kernel_rfl)
noncomputable def c2s (t0:D) (h:Hp):Option (D × Hp) :=
 (a0m tab .eql a1e t0 (.nils)).bind fun t4=>dIf t4
  (some (a0k [.nils],h))
  ((a0X tab a1e 0 [] []).bind fun t5=>(a0F tab h a1e a1e t5 t0).bind fun p7=>some (a0k [p7.1],p7.2))
theorem c9C (t0:D) (h:Hp):R b7h [t0] h=c2s t0 h :=
 er i88 (by kernel_rfl) (by kernel_rfl)
noncomputable def c2v (t0 t1:D) (h:Hp):Option (D × Hp) :=
 (a0y tab a1e t0).bind fun t6=>(R b4f [t0,t6,t1] h).bind fun p8=>some (a0k [],p8.2)
theorem c6I (t0 t1:D) (h:Hp):R b1l [t0,t1] h=c2v t0 t1 h :=
 er i89 (by kernel_rfl) (by kernel_rfl)
noncomputable def c5l (t0 t1:D) (h:Hp):Option (D × Hp) :=
 (a2R t0).bind fun t2=>(a2R t1).bind fun t3=>(a0a tab a0x 0 t2).bind fun t5=>(a0b tab h ty9 t5).bind fun t6=>(a0a tab a0x 0 t3).bind fun t7=>(a0b tab h ty9 t7).bind fun t8=>(R b7r [t6,t8] h).bind fun p9=>some (a0k [p9.1],p9.2)
theorem c9Z (t0 t1:D) (h:Hp):R a7W [t0,t1] h=c5l t0 t1 h :=
 er i90 (by kernel_rfl) (by kernel_rfl)
noncomputable def c5m (t0 t1:D) (h:Hp):Option (D × Hp) :=
 (R c1B [t0,t1] h).bind fun p7=>some (a0k [p7.1],p7.2)
theorem d0a (t0 t1:D) (h:Hp):R b7r [t0,t1] h=c5m t0 t1 h :=
 er i91 (by kernel_rfl) (by kernel_rfl)
noncomputable def a6a (t0 t1 t7:D) (ds:List D) (h_1:Hp):Option Out :=
 (a0m tab .lss ty3 (nth 2 ds) t7).bind fun t9=>dIf t9
  ((a0c tab a1e t0 (nth 2 ds)).bind fun t14=>(a0b tab h_1 a0x t14).bind fun t15=>(a4H R t1 [t15] h_1).bind fun p16=>dIf p16.1
  (some (.ret,[nth 2 ds,nth 2 ds,nth 2 ds,t9,p16.1],p16.2))
  ((a0m tab .add ty3 (nth 2 ds) (.int .i64 1)).bind fun t18=>some (.nrm,[nth 0 ds,nth 2 ds,t18,t9,p16.1],p16.2)))
  (some ((.ext 0),[nth 0 ds,nth 1 ds,nth 2 ds,t9,nth 4 ds],h_1))
noncomputable def c5n (t0 t1:D) (h:Hp):Option (D × Hp) :=
 (a0y tab a1e t0).bind fun t7=>((a0P (a6a t0 t1 t7) [.int .i64 0,.any,.int .i64 0,.any,.any] h).bind fun r=>some ((a0T 0 r.1),[nth 0 r.2.1,nth 1 r.2.1,nth 2 r.2.1,nth 3 r.2.1,nth 4 r.2.1],r.2.2)).bind fun r_1=>a0Y r_1.1 (some (a0k [.int .i64 (-1)],r_1.2.2)) fun x=>a0Z x (some (a0k [nth 0 r_1.2.1],r_1.2.2))
theorem d0b (t0 t1:D) (h:Hp):R b7s [t0,t1] h=c5n t0 t1 h :=
 er i92 (by kernel_rfl) (by kernel_rfl)
noncomputable def c4W (t0:D) (h:Hp):Option (D × Hp) :=
 (a0m tab .geq ty3 t0 (.int .i64 1)).bind fun t4=>(gd t4 true (some t0)).bind fun t6=>(gd t4 true (a0m tab .leq ty3 t6 (.int .i64 5040))).bind fun t7=>(a0O t4 t7 (.bool false)).bind fun t8=>(gd t8 true (some t0)).bind fun t10=>(gd t8 true (a0m tab .rem ty3 (.int .i64 5040) t10)).bind fun t11=>(gd t8 true (a0m tab .eql ty3 t11 (.int .i64 0))).bind fun t12=>(a0O t8 t12 (.bool false)).bind fun t13=>some (a0k [t13],h)
theorem c9G (t0:D) (h:Hp):R b7j [t0] h=c4W t0 h :=
 er i93 (by kernel_rfl) (by kernel_rfl)
noncomputable def a9s (t0:D) (ds:List D) (h_1:Hp):Option Out :=
 (a0y tab a1e t0).bind fun t13=>(a0m tab .lss ty3 (nth 2 ds) t13).bind fun t14=>dIf t14
  ((a0c tab a1e t0 (nth 2 ds)).bind fun t19=>(a0a tab a0x 0 t19).bind fun t20=>(a0b tab h_1 ty9 t20).bind fun t21=>(R b7k [t21] h_1).bind fun p22=>(dUn .not p22.1).bind fun t23=>dIf t23
  (some (.ret,[.nils,.int .i64 6,nth 2 ds,t14,t23],p22.2))
  ((a0m tab .add ty3 (nth 2 ds) (.int .i64 1)).bind fun t16=>some (.nrm,[nth 0 ds,nth 1 ds,t16,t14,t23],p22.2)))
  (some ((.ext 0),[nth 0 ds,nth 1 ds,nth 2 ds,t14,nth 4 ds],h_1))
noncomputable def a9t (t0:D) (ds_1:List D) (t5m:D) (ds_2:List D) (h_3:Hp):Option Out :=
 (a0m tab .gtr ty3 (nth 0 ds_2) (.int .i64 0)).bind fun t40=>(gd t40 true (some (t5m:D))).bind fun t42=>(gd t40 true (some (nth 0 ds_2))).bind fun t43=>(gd t40 true (a0m tab .sub ty3 t43 (.int .i64 1))).bind fun t44=>(gd t40 true (a0c tab a1e t42 t44)).bind fun t45=>(gd t40 true (a0a tab a0x 0 t45)).bind fun t46=>(gd t40 true (a0b tab h_3 ty9 t46)).bind fun t47=>(gd t40 true (some t0)).bind fun t48=>(gd t40 true (some (nth 3 ds_1))).bind fun t49=>(gd t40 true (a0c tab a1e t48 t49)).bind fun t50=>(gd t40 true (a0a tab a0x 0 t50)).bind fun t51=>(gd t40 true (a0b tab h_3 ty9 t51)).bind fun t52=>(gd t40 true (a0m tab .gtr ty9 t47 t52)).bind fun t53=>(a0O t40 t53 (.bool false)).bind fun t54=>dIf t54
  ((a0m tab .sub ty3 (nth 0 ds_2) (.int .i64 1)).bind fun t59=>(a0c tab a1e t5m t59).bind fun t60=>(a0b tab h_3 a0x t60).bind fun t61=>(a0c tab a1e t5m (nth 0 ds_2)).bind fun t62=>((a0h tab h_3 a0x t62 t61).bind fun h'=>some ((.und:D),h')).bind fun p908=>(a0m tab .sub ty3 (nth 0 ds_2) (.int .i64 1)).bind fun t64=>some (.nrm,[t64,t54],p908.2))
  (some ((.ext 4),[nth 0 ds_2,t54],h_3))
noncomputable def b3a (t0:D) (ds_1:List D) (h_2:Hp):Option Out :=
 (a0y tab a1e t0).bind fun t26=>(a0m tab .lss ty3 (nth 3 ds_1) t26).bind fun t27=>dIf t27
  ((a0y tab a1e (nth 2 ds_1)).bind fun t31=>(a0c tab a1e t0 (nth 3 ds_1)).bind fun t35=>(a0b tab h_2 a0x t35).bind fun t36=>(a0X tab a1e 1 [0] [t36]).bind fun t37=>(a0F tab h_2 a1e a1e (nth 2 ds_1) t37).bind fun p38=>((a0P (a9t t0 ds_1 p38.1) [t31,nth 6 ds_1] p38.2).bind fun r_3=>some ((a0T 4 r_3.1),[nth 0 r_3.2.1,nth 1 r_3.2.1],r_3.2.2)).bind fun r_4=>a0Y r_4.1 ((a0c tab a1e t0 (nth 3 ds_1)).bind fun t69=>(a0b tab r_4.2.2 a0x t69).bind fun t70=>(a0c tab a1e p38.1 (nth 0 r_4.2.1)).bind fun t71=>((a0h tab r_4.2.2 a0x t71 t70).bind fun h'=>some ((.und:D),h')).bind fun p907=>(a0m tab .gtr ty3 (nth 0 r_4.2.1) (.int .i64 0)).bind fun t73=>(gd t73 true (some p38.1)).bind fun t75=>(gd t73 true (some (nth 0 r_4.2.1))).bind fun t76=>(gd t73 true (a0m tab .sub ty3 t76 (.int .i64 1))).bind fun t77=>(gd t73 true (a0c tab a1e t75 t77)).bind fun t78=>(gd t73 true (a0a tab a0x 0 t78)).bind fun t79=>(gd t73 true (a0b tab p907.2 ty9 t79)).bind fun t80=>(gd t73 true (some t0)).bind fun t81=>(gd t73 true (some (nth 3 ds_1))).bind fun t82=>(gd t73 true (a0c tab a1e t81 t82)).bind fun t83=>(gd t73 true (a0a tab a0x 0 t83)).bind fun t84=>(gd t73 true (a0b tab p907.2 ty9 t84)).bind fun t85=>(gd t73 true (a0m tab .eql ty9 t80 t85)).bind fun t86=>(a0O t73 t86 (.bool false)).bind fun t87=>dIf t87
  (some (.ret,[.nils,.int .i64 7,p38.1,nth 3 ds_1,nth 0 r_4.2.1,t27,nth 1 r_4.2.1,t87],p907.2))
  ((a0m tab .add ty3 (nth 3 ds_1) (.int .i64 1)).bind fun t29=>some (.nrm,[nth 0 ds_1,nth 1 ds_1,p38.1,t29,nth 0 r_4.2.1,t27,nth 1 r_4.2.1,t87],p907.2))) fun x_1=>a0Y (a0T 3 x_1) ((a0m tab .add ty3 (nth 3 ds_1) (.int .i64 1)).bind fun t29_1=>some (.nrm,[nth 0 ds_1,nth 1 ds_1,p38.1,t29_1,nth 0 r_4.2.1,t27,nth 1 r_4.2.1,nth 7 ds_1],r_4.2.2)) fun x_2=>some (x_2,[nth 0 ds_1,nth 1 ds_1,p38.1,nth 3 ds_1,nth 0 r_4.2.1,t27,nth 1 r_4.2.1,nth 7 ds_1],r_4.2.2))
  (some ((.ext 2),[nth 0 ds_1,nth 1 ds_1,nth 2 ds_1,nth 3 ds_1,nth 4 ds_1,t27,nth 6 ds_1,nth 7 ds_1],h_2))
noncomputable def c2t (t0:D) (h:Hp):Option (D × Hp) :=
 (a0y tab a1e t0).bind fun t9=>(a0m tab .gtr ty3 t9 (.int .i64 32)).bind fun t10=>dIf t10
  (scope h h (a0k [.nils,.int .i64 4]))
  (((a0P (a9s t0) [.nils,.int .i64 0,.int .i64 0,.any,.any] h).bind fun r=>some ((a0T 0 r.1),[nth 0 r.2.1,nth 1 r.2.1,nth 2 r.2.1,nth 3 r.2.1,nth 4 r.2.1],r.2.2)).bind fun r_1=>a0Y r_1.1 (((a0P (b3a t0) [nth 0 r_1.2.1,nth 1 r_1.2.1,.nils,.int .i64 0,.any,.any,.any,.any] r_1.2.2).bind fun r_2=>some ((a0T 2 r_2.1),[nth 0 r_2.2.1,nth 1 r_2.2.1,nth 2 r_2.2.1,nth 3 r_2.2.1,nth 4 r_2.2.1,nth 5 r_2.2.1,nth 6 r_2.2.1,nth 7 r_2.2.1],r_2.2.2)).bind fun r_5=>a0Y r_5.1 (scope h r_5.2.2 (a0k [nth 2 r_5.2.1,.int .i64 0])) fun x_3=>a0Z x_3 (scope h r_5.2.2 (a0k [nth 0 r_5.2.1,nth 1 r_5.2.1]))) fun x=>a0Z x (scope h r_1.2.2 (a0k [nth 0 r_1.2.1,nth 1 r_1.2.1])))
theorem c9H (t0:D) (h:Hp):R b4a [t0] h=c2t t0 h :=
 er i94 (by kernel_rfl) (by kernel_rfl)
noncomputable def c5o (t0:D) (h:Hp):Option (D × Hp) :=
 (a0c tab b5i (.fptr kin) t0).bind fun t4=>(a0b tab h ty5 t4).bind fun t5=>(a0m tab .and ty5 t5 (.int .u8 2)).bind fun t6=>(a0m tab .neq ty5 t6 (.int .u8 0)).bind fun t7=>some (a0k [t7],h)
theorem d0c (t0:D) (h:Hp):R b7t [t0] h=c5o t0 h :=
 er i95 (by kernel_rfl) (by kernel_rfl)
noncomputable def c5p (t0:D) (h:Hp):Option (D × Hp) :=
 (a0c tab b5i (.fptr kin) t0).bind fun t4=>(a0b tab h ty5 t4).bind fun t5=>(a0m tab .and ty5 t5 (.int .u8 3)).bind fun t6=>(a0m tab .neq ty5 t6 (.int .u8 0)).bind fun t7=>(gd t7 false (some t0)).bind fun t9=>(gd t7 false (a0m tab .eql ty5 t9 (.int .u8 95))).bind fun t10=>(a0O t7 (.bool true) t10).bind fun t11=>some (a0k [t11],h)
theorem d0d (t0:D) (h:Hp):R b7u [t0] h=c5p t0 h :=
 er i96 (by kernel_rfl) (by kernel_rfl)
noncomputable def a9w (t0 t1 t2 t6m:D) (ds:List D) (h_1:Hp):Option Out :=
 (a0m tab .leq ty3 (nth 1 ds) t1).bind fun t13=>dIf t13
  ((R a7X [t0,nth 0 ds,nth 1 ds,t2] h_1).bind fun p18=>(a0m tab .add ty3 (nth 1 ds) t6m).bind fun t22=>some (.nrm,[nth 1 ds,t22,t13],p18.2))
  (some ((.ext 0),[nth 0 ds,nth 1 ds,t13],h_1))
noncomputable def b3e (t0 t1 t2:D) (ds_1:List D) (ds_2:List D) (h_3:Hp):Option Out :=
 (a0m tab .leq ty3 (nth 1 ds_2) t1).bind fun t35=>dIf t35
  ((a0m tab .add ty3 (nth 0 ds_2) (nth 0 ds_1)).bind fun t40=>(R a7g [t0,nth 0 ds_2,t40,nth 1 ds_2,t2] h_3).bind fun p43=>(a0m tab .mul ty3 (.int .i64 2) (nth 0 ds_1)).bind fun t47=>(a0m tab .add ty3 (nth 1 ds_2) t47).bind fun t48=>some (.nrm,[nth 1 ds_2,t48,t35],p43.2))
  (some ((.ext 4),[nth 0 ds_2,nth 1 ds_2,t35],h_3))
noncomputable def a9x (t0 t1 t2:D) (ds_1:List D) (h_2:Hp):Option Out :=
 (a0m tab .lss ty3 (nth 0 ds_1) t1).bind fun t30=>dIf t30
  ((a0m tab .mul ty3 (.int .i64 2) (nth 0 ds_1)).bind fun t32=>((a0P (b3e t0 t1 t2 ds_1) [.int .i64 0,t32,nth 5 ds_1] h_2).bind fun r_3=>some ((a0T 4 r_3.1),[nth 0 r_3.2.1,nth 1 r_3.2.1,nth 2 r_3.2.1],r_3.2.2)).bind fun r_4=>a0Y r_4.1 ((a0m tab .add ty3 (nth 0 r_4.2.1) (nth 0 ds_1)).bind fun t51=>(a0m tab .lss ty3 t51 t1).bind fun t54=>(dIf t54
  ((R a7g [t0,nth 0 r_4.2.1,t51,t1,t2] r_4.2.2).bind fun p60=>some (.nrm,([]:List D),p60.2))
  (some (.nrm,([]:List D),r_4.2.2))).bind fun r_5=>a0Y r_5.1 ((a0m tab .mul ty3 (nth 0 ds_1) (.int .i64 2)).bind fun t62=>some (.nrm,[t62,nth 0 r_4.2.1,nth 1 r_4.2.1,t51,t30,nth 2 r_4.2.1,t54],r_5.2.2)) fun x_2=>some ((a0T 3 x_2),[nth 0 ds_1,nth 0 r_4.2.1,nth 1 r_4.2.1,t51,t30,nth 2 r_4.2.1,t54],r_5.2.2)) fun x_1=>some ((a0T 3 x_1),[nth 0 ds_1,nth 0 r_4.2.1,nth 1 r_4.2.1,nth 3 ds_1,t30,nth 2 r_4.2.1,nth 6 ds_1],r_4.2.2))
  (some ((.ext 2),[nth 0 ds_1,nth 1 ds_1,nth 2 ds_1,nth 3 ds_1,t30,nth 5 ds_1,nth 6 ds_1],h_2))
noncomputable def c2w (t0 t1 t2:D) (h:Hp):Option (D × Hp) :=
 ((a0P (a9w t0 t1 t2 (.int .i64 20)) [.int .i64 0,.int .i64 20,.any] h).bind fun r=>some ((a0T 0 r.1),[nth 0 r.2.1,nth 1 r.2.1,nth 2 r.2.1],r.2.2)).bind fun r_1=>a0Y r_1.1 ((R a7X [t0,nth 0 r_1.2.1,t1,t2] r_1.2.2).bind fun p27=>((a0P (a9x t0 t1 t2) [.int .i64 20,nth 0 r_1.2.1,nth 1 r_1.2.1,.any,.any,.any,.any] p27.2).bind fun r_2=>some ((a0T 2 r_2.1),[nth 0 r_2.2.1,nth 1 r_2.2.1,nth 2 r_2.2.1,nth 3 r_2.2.1,nth 4 r_2.2.1,nth 5 r_2.2.1,nth 6 r_2.2.1],r_2.2.2)).bind fun r_6=>a0Z r_6.1 (some (a0k [],r_6.2.2))) fun x=>a0Z x (some (a0k [],r_1.2.2))
theorem c6J (t0 t1 t2:D) (h:Hp):R b4f [t0,t1,t2] h=c2w t0 t1 t2 h :=
 er i97 (by kernel_rfl) (by kernel_rfl)
noncomputable def c5q (t0 t1:D) (h:Hp):Option (D × Hp) :=
 (R b7v [t0,t1] h).bind fun p7=>some (a0k [p7.1],p7.2)
theorem d0e (t0 t1:D) (h:Hp):R c1B [t0,t1] h=c5q t0 t1 h :=
 er i98 (by kernel_rfl) (by kernel_rfl)
noncomputable def a5k (t0:D) (ds:List D) (h_1:Hp):Option Out :=
 (a0y tab ty9 t0).bind fun t25=>(a0m tab .lss ty3 (nth 1 ds) t25).bind fun t26=>dIf t26
  ((a4A tab ty9 t0 (nth 1 ds)).bind fun t31=>(R b7l [t31] h_1).bind fun p32=>(dUn .not p32.1).bind fun t33=>(gd t33 true (some t0)).bind fun t35=>(gd t33 true (some (nth 1 ds))).bind fun t36=>(gd t33 true (a4A tab ty9 t35 t36)).bind fun t37=>(gd t33 true (a0m tab .neq ty5 t37 (.int .u8 46))).bind fun t38=>(a0O t33 t38 (.bool false)).bind fun t39=>dIf t39
  (some (.ret,[.bool false,nth 1 ds,t26,t39],p32.2))
  ((a0m tab .add ty3 (nth 1 ds) (.int .i64 1)).bind fun t28=>some (.nrm,[nth 0 ds,t28,t26,t39],p32.2)))
  (some ((.ext 0),[nth 0 ds,nth 1 ds,t26,nth 3 ds],h_1))
noncomputable def b5l (t0:D) (h:Hp):Option (D × Hp) :=
 (a0y tab ty9 t0).bind fun t5=>(a0m tab .lss ty3 t5 (.int .i64 1)).bind fun t6=>(gd t6 false (some t0)).bind fun t8=>(gd t6 false (a0y tab ty9 t8)).bind fun t9=>(gd t6 false (a0m tab .gtr ty3 t9 (.int .i64 32))).bind fun t10=>(a0O t6 (.bool true) t10).bind fun t11=>(gd t11 false (some t0)).bind fun t13=>(gd t11 false (a4A tab ty9 t13 (.int .i64 0))).bind fun t14=>(gdW t11 false h (R b4b [t14] h)).bind fun p15=>(gd t11 false (dUn .not p15.1)).bind fun t16=>(gd t11 false (some t16)).bind fun t17=>(gd t17 true (some t0)).bind fun t18=>(gd t17 true (a4A tab ty9 t18 (.int .i64 0))).bind fun t19=>(gd t17 true (a0m tab .neq ty5 t19 (.int .u8 95))).bind fun t20=>(gd t11 false (a0O t17 t20 (.bool false))).bind fun t21=>(a0O t11 (.bool true) t21).bind fun t22=>dIf t22
  (some (a0k [.bool false],p15.2))
  (((a0P (a5k t0) [.bool false,.int .i64 0,.any,.any] p15.2).bind fun r=>some ((a0T 0 r.1),[nth 0 r.2.1,nth 1 r.2.1,nth 2 r.2.1,nth 3 r.2.1],r.2.2)).bind fun r_1=>a0Y r_1.1 (some (a0k [.bool true],r_1.2.2)) fun x=>a0Z x (some (a0k [nth 0 r_1.2.1],r_1.2.2)))
theorem c9I (t0:D) (h:Hp):R b7k [t0] h=b5l t0 h :=
 er i99 (by kernel_rfl) (by kernel_rfl)
noncomputable def a9z (t0 t1 t3:D) (ds_1:List D) (h_2:Hp):Option Out :=
 (a0m tab .gtr ty3 (nth 0 ds_1) t1).bind fun t20=>(gd t20 true (some t3)).bind fun t22=>(gd t20 true (some t0)).bind fun t23=>(gd t20 true (some (nth 0 ds_1))).bind fun t24=>(gd t20 true (a0c tab a1e t23 t24)).bind fun t25=>(gd t20 true (a0b tab h_2 a0x t25)).bind fun t26=>(gd t20 true (some t0)).bind fun t27=>(gd t20 true (some (nth 0 ds_1))).bind fun t28=>(gd t20 true (a0m tab .sub ty3 t28 (.int .i64 1))).bind fun t29=>(gd t20 true (a0c tab a1e t27 t29)).bind fun t30=>(gd t20 true (a0b tab h_2 a0x t30)).bind fun t31=>(gdW t20 true h_2 (a4H R t22 [t26,t31] h_2)).bind fun p32=>(gd t20 true (a0m tab .lss ty3 p32.1 (.int .i64 0))).bind fun t33=>(a0O t20 t33 (.bool false)).bind fun t34=>dIf t34
  ((a0m tab .sub ty3 (nth 0 ds_1) (.int .i64 1)).bind fun t41=>(a0m tab .sub ty3 (nth 0 ds_1) (.int .i64 1)).bind fun t44=>(a0c tab a1e t0 t44).bind fun t45=>(a0b tab p32.2 a0x t45).bind fun t46=>(a0c tab a1e t0 (nth 0 ds_1)).bind fun t49=>(a0b tab p32.2 a0x t49).bind fun t50=>(a0c tab a1e t0 (nth 0 ds_1)).bind fun t51=>((a0h tab p32.2 a0x t51 t46).bind fun h'=>some ((.und:D),h')).bind fun p915=>(a0c tab a1e t0 t41).bind fun t52=>((a0h tab p915.2 a0x t52 t50).bind fun h'=>some ((.und:D),h')).bind fun p917=>(a0m tab .sub ty3 (nth 0 ds_1) (.int .i64 1)).bind fun t36=>some (.nrm,[t36,t34],p917.2))
  (some ((.ext 2),[nth 0 ds_1,t34],p32.2))
noncomputable def a9y (t0 t1 t2 t3:D) (ds:List D) (h_1:Hp):Option Out :=
 (a0m tab .lss ty3 (nth 0 ds) t2).bind fun t14=>dIf t14
  (((a0P (a9z t0 t1 t3) [nth 0 ds,nth 3 ds] h_1).bind fun r_1=>some ((a0T 2 r_1.1),[nth 0 r_1.2.1,nth 1 r_1.2.1],r_1.2.2)).bind fun r_2=>a0Y (a0T 1 r_2.1) ((a0m tab .add ty3 (nth 0 ds) (.int .i64 1)).bind fun t16=>some (.nrm,[t16,nth 0 r_2.2.1,t14,nth 1 r_2.2.1],r_2.2.2)) fun x=>some (x,[nth 0 ds,nth 0 r_2.2.1,t14,nth 1 r_2.2.1],r_2.2.2))
  (some ((.ext 0),[nth 0 ds,nth 1 ds,t14,nth 3 ds],h_1))
noncomputable def c2x (t0 t1 t2 t3:D) (h:Hp):Option (D × Hp) :=
 (a0m tab .add ty3 t1 (.int .i64 1)).bind fun t11=>((a0P (a9y t0 t1 t2 t3) [t11,.any,.any,.any] h).bind fun r=>some ((a0T 0 r.1),[nth 0 r.2.1,nth 1 r.2.1,nth 2 r.2.1,nth 3 r.2.1],r.2.2)).bind fun r_3=>a0Z r_3.1 (some (a0k [],r_3.2.2))
theorem c6K (t0 t1 t2 t3:D) (h:Hp):R a7X [t0,t1,t2,t3] h=c2x t0 t1 t2 t3 h :=
 er d1E (by kernel_rfl) (by kernel_rfl)
noncomputable def a7s (a0 a4 t22m:D) (ds:List D) (h_3:Hp):Option Out :=
 (a0m tab .lss ty3 (nth 0 ds) (nth 1 ds)).bind fun t151=>dIf t151
  ((a0m tab .add ty3 (nth 0 ds) (nth 1 ds)).bind fun t154=>(a1B tab ty3 a5W t154).bind fun t155=>(a0m tab .shr a5W t155 (.int .u64 1)).bind fun t156=>(a1B tab a5W ty3 t156).bind fun t157=>(a0m tab .sub ty3 t22m t157).bind fun t162=>(a0c tab a1e a0 t162).bind fun t163=>(a0b tab h_3 a0x t163).bind fun t164=>(a0c tab a1e a0 t157).bind fun t167=>(a0b tab h_3 a0x t167).bind fun t168=>(a4H R a4 [t164,t168] h_3).bind fun p169=>(a0m tab .lss ty3 p169.1 (.int .i64 0)).bind fun t170=>(dUn .not t170).bind fun t171=>(dIf t171
  ((a0m tab .add ty3 t157 (.int .i64 1)).bind fun t173=>some (.nrm,[t173,nth 1 ds],p169.2))
  (some (.nrm,[nth 0 ds,t157],p169.2))).bind fun r_2=>some ((a0T 9 r_2.1),[nth 0 r_2.2.1,nth 1 r_2.2.1,t157,t151,t171],r_2.2.2))
  (some ((.ext 8),[nth 0 ds,nth 1 ds,nth 2 ds,t151,nth 4 ds],h_3))
noncomputable def a6c (a0 a1 a2 a3 a4:D) (h_2:Hp):Option (D × Hp) :=
  (a0m tab .add ty3 a1 a3).bind fun t131=>(a1B tab ty3 a5W t131).bind fun t132=>(a0m tab .shr a5W t132 (.int .u64 1)).bind fun t133=>(a1B tab a5W ty3 t133).bind fun t134=>(a0m tab .add ty3 t134 a2).bind fun t137=>(a0m tab .gtr ty3 a2 t134).bind fun t140=>(dIf t140
   ((a0m tab .sub ty3 t137 a3).bind fun t143=>some (.nrm,[t143,t134],h_2))
   (some (.nrm,[a1,a2],h_2))).bind fun r=>a0Y r.1 ((a0m tab .sub ty3 t137 (.int .i64 1)).bind fun t148=>((a0P (a7s a0 a4 t148) [nth 0 r.2.1,nth 1 r.2.1,.any,.any,.any] r.2.2).bind fun r_1=>some ((a0T 8 r_1.1),[nth 0 r_1.2.1,nth 1 r_1.2.1,nth 2 r_1.2.1,nth 3 r_1.2.1,nth 4 r_1.2.1],r_1.2.2)).bind fun r_3=>a0Y r_3.1 ((a0m tab .sub ty3 t137 (nth 0 r_3.2.1)).bind fun t177=>(a0m tab .lss ty3 (nth 0 r_3.2.1) a2).bind fun t180=>(gd t180 true (some a2)).bind fun t182=>(gd t180 true (some t177)).bind fun t183=>(gd t180 true (a0m tab .lss ty3 t182 t183)).bind fun t184=>(a0O t180 t184 (.bool false)).bind fun t185=>(dIf t185
   ((R b7w [a0,nth 0 r_3.2.1,a2,t177,a4] r_3.2.2).bind fun p191=>some (.nrm,([]:List D),p191.2))
   (some (.nrm,([]:List D),r_3.2.2))).bind fun r_4=>a0Y r_4.1 ((a0m tab .lss ty3 a1 (nth 0 r_3.2.1)).bind fun t194=>(gd t194 true (some (nth 0 r_3.2.1))).bind fun t196=>(gd t194 true (some t134)).bind fun t197=>(gd t194 true (a0m tab .lss ty3 t196 t197)).bind fun t198=>(a0O t194 t198 (.bool false)).bind fun t199=>(dIf t199
   ((R a7g [a0,a1,nth 0 r_3.2.1,t134,a4] r_4.2.2).bind fun p205=>some (.nrm,([]:List D),p205.2))
   (some (.nrm,([]:List D),r_4.2.2))).bind fun r_5=>a0Y r_5.1 ((a0m tab .lss ty3 t134 t177).bind fun t208=>(gd t208 true (some t177)).bind fun t210=>(gd t208 true (some a3)).bind fun t211=>(gd t208 true (a0m tab .lss ty3 t210 t211)).bind fun t212=>(a0O t208 t212 (.bool false)).bind fun t213=>(dIf t213
   ((R a7g [a0,t134,t177,a3,a4] r_5.2.2).bind fun p219=>some (.nrm,([]:List D),p219.2))
   (some (.nrm,([]:List D),r_5.2.2))).bind fun r_6=>a0Z r_6.1 (some (a0k [],r_6.2.2))) fun x_3=>a0Z x_3 (some (a0k [],r_5.2.2))) fun x_2=>a0Z x_2 (some (a0k [],r_4.2.2))) fun x_1=>a0Z x_1 (some (a0k [],r_3.2.2))) fun x=>a0Z x (some (a0k [],r.2.2))
noncomputable def a9A (a0 a2 a4:D) (ds_1:List D) (h_4:Hp):Option Out :=
 (a0m tab .lss ty3 (nth 0 ds_1) (nth 1 ds_1)).bind fun t85=>dIf t85
  ((a0m tab .add ty3 (nth 0 ds_1) (nth 1 ds_1)).bind fun t88=>(a1B tab ty3 a5W t88).bind fun t89=>(a0m tab .shr a5W t89 (.int .u64 1)).bind fun t90=>(a1B tab a5W ty3 t90).bind fun t91=>(a0c tab a1e a0 a2).bind fun t95=>(a0b tab h_4 a0x t95).bind fun t96=>(a0c tab a1e a0 t91).bind fun t99=>(a0b tab h_4 a0x t99).bind fun t100=>(a4H R a4 [t96,t100] h_4).bind fun p101=>(a0m tab .lss ty3 p101.1 (.int .i64 0)).bind fun t102=>(dUn .not t102).bind fun t103=>(dIf t103
  ((a0m tab .add ty3 t91 (.int .i64 1)).bind fun t105=>some (.nrm,[t105,nth 1 ds_1],p101.2))
  (some (.nrm,[nth 0 ds_1,t91],p101.2))).bind fun r_8=>some ((a0T 5 r_8.1),[nth 0 r_8.2.1,nth 1 r_8.2.1,t91,t85,t103],r_8.2.2))
  (some ((.ext 4),[nth 0 ds_1,nth 1 ds_1,nth 2 ds_1,t85,nth 4 ds_1],h_4))
noncomputable def a9B (a0:D) (r_9:Out) (ds_2:List D) (h_5:Hp):Option Out :=
 (a0m tab .gtr ty3 (nth 0 ds_2) (nth 0 r_9.2.1)).bind fun t110=>dIf t110
  ((a0m tab .sub ty3 (nth 0 ds_2) (.int .i64 1)).bind fun t117=>(a0m tab .sub ty3 (nth 0 ds_2) (.int .i64 1)).bind fun t120=>(a0c tab a1e a0 t120).bind fun t121=>(a0b tab h_5 a0x t121).bind fun t122=>(a0c tab a1e a0 (nth 0 ds_2)).bind fun t125=>(a0b tab h_5 a0x t125).bind fun t126=>(a0c tab a1e a0 (nth 0 ds_2)).bind fun t127=>((a0h tab h_5 a0x t127 t122).bind fun h'=>some ((.und:D),h')).bind fun p915=>(a0c tab a1e a0 t117).bind fun t128=>((a0h tab p915.2 a0x t128 t126).bind fun h'=>some ((.und:D),h')).bind fun p917=>(a0m tab .sub ty3 (nth 0 ds_2) (.int .i64 1)).bind fun t112=>some (.nrm,[t112,t110],p917.2))
  (some ((.ext 6),[nth 0 ds_2,t110],h_5))
noncomputable def a6b (a0 a1 a2 a3 a4:D) (h_1:Hp):Option (D × Hp) :=
  (a0m tab .sub ty3 a3 a2).bind fun t79=>(a0m tab .eql ty3 t79 (.int .i64 1)).bind fun t80=>dIf t80
   (((a0P (a9A a0 a2 a4) [a1,a2,.any,.any,.any] h_1).bind fun r_7=>some ((a0T 4 r_7.1),[nth 0 r_7.2.1,nth 1 r_7.2.1,nth 2 r_7.2.1,nth 3 r_7.2.1,nth 4 r_7.2.1],r_7.2.2)).bind fun r_9=>a0Y r_9.1 (((a0P (a9B a0 r_9) [a2,.any] r_9.2.2).bind fun r_10=>some ((a0T 6 r_10.1),[nth 0 r_10.2.1,nth 1 r_10.2.1],r_10.2.2)).bind fun r_11=>a0Y r_11.1 (some (a0k [],r_11.2.2)) fun x_5=>a0Y x_5 (a6c a0 a1 a2 a3 a4 r_11.2.2) fun x_6=>a0Z x_6 (some (a0k [],r_11.2.2))) fun x_4=>a0Y x_4 (a6c a0 a1 a2 a3 a4 r_9.2.2) fun x_7=>a0Z x_7 (some (a0k [],r_9.2.2)))
   (a6c a0 a1 a2 a3 a4 h_1)
noncomputable def a9C (t0 t1 t4:D) (ds_3:List D) (h_6:Hp):Option Out :=
 (a0m tab .lss ty3 (nth 0 ds_3) (nth 1 ds_3)).bind fun t33=>dIf t33
  ((a0m tab .add ty3 (nth 0 ds_3) (nth 1 ds_3)).bind fun t36=>(a1B tab ty3 a5W t36).bind fun t37=>(a0m tab .shr a5W t37 (.int .u64 1)).bind fun t38=>(a1B tab a5W ty3 t38).bind fun t39=>(a0c tab a1e t0 t39).bind fun t43=>(a0b tab h_6 a0x t43).bind fun t44=>(a0c tab a1e t0 t1).bind fun t47=>(a0b tab h_6 a0x t47).bind fun t48=>(a4H R t4 [t44,t48] h_6).bind fun p49=>(a0m tab .lss ty3 p49.1 (.int .i64 0)).bind fun t50=>(dIf t50
  ((a0m tab .add ty3 t39 (.int .i64 1)).bind fun t52=>some (.nrm,[t52,nth 1 ds_3],p49.2))
  (some (.nrm,[nth 0 ds_3,t39],p49.2))).bind fun r_13=>some ((a0T 1 r_13.1),[nth 0 r_13.2.1,nth 1 r_13.2.1,t39,t33,t50],r_13.2.2))
  (some ((.ext 0),[nth 0 ds_3,nth 1 ds_3,nth 2 ds_3,t33,nth 4 ds_3],h_6))
noncomputable def a9D (t0:D) (r_14:Out) (ds_4:List D) (h_7:Hp):Option Out :=
 (a0m tab .sub ty3 (nth 0 r_14.2.1) (.int .i64 1)).bind fun t57=>(a0m tab .lss ty3 (nth 0 ds_4) t57).bind fun t58=>dIf t58
  ((a0m tab .add ty3 (nth 0 ds_4) (.int .i64 1)).bind fun t65=>(a0m tab .add ty3 (nth 0 ds_4) (.int .i64 1)).bind fun t68=>(a0c tab a1e t0 t68).bind fun t69=>(a0b tab h_7 a0x t69).bind fun t70=>(a0c tab a1e t0 (nth 0 ds_4)).bind fun t73=>(a0b tab h_7 a0x t73).bind fun t74=>(a0c tab a1e t0 (nth 0 ds_4)).bind fun t75=>((a0h tab h_7 a0x t75 t70).bind fun h'=>some ((.und:D),h')).bind fun p915_1=>(a0c tab a1e t0 t65).bind fun t76=>((a0h tab p915_1.2 a0x t76 t74).bind fun h'=>some ((.und:D),h')).bind fun p917_1=>(a0m tab .add ty3 (nth 0 ds_4) (.int .i64 1)).bind fun t60=>some (.nrm,[t60,t58],p917_1.2))
  (some ((.ext 2),[nth 0 ds_4,t58],h_7))
noncomputable def b9r (t0 t1 t2 t3 t4:D) (h:Hp):Option (D × Hp) :=
 (a0m tab .sub ty3 t2 t1).bind fun t27=>(a0m tab .eql ty3 t27 (.int .i64 1)).bind fun t28=>dIf t28
  (((a0P (a9C t0 t1 t4) [t2,t3,.any,.any,.any] h).bind fun r_12=>some ((a0T 0 r_12.1),[nth 0 r_12.2.1,nth 1 r_12.2.1,nth 2 r_12.2.1,nth 3 r_12.2.1,nth 4 r_12.2.1],r_12.2.2)).bind fun r_14=>a0Y r_14.1 (((a0P (a9D t0 r_14) [t1,.any] r_14.2.2).bind fun r_15=>some ((a0T 2 r_15.1),[nth 0 r_15.2.1,nth 1 r_15.2.1],r_15.2.2)).bind fun r_16=>a0Y r_16.1 (some (a0k [],r_16.2.2)) fun x_9=>a0Y x_9 (a6b t0 t1 t2 t3 t4 r_16.2.2) fun x_10=>a0Z x_10 (some (a0k [],r_16.2.2))) fun x_8=>a0Y x_8 (a6b t0 t1 t2 t3 t4 r_14.2.2) fun x_11=>a0Z x_11 (some (a0k [],r_14.2.2)))
  (a6b t0 t1 t2 t3 t4 h)
theorem c2U (t0 t1 t2 t3 t4:D) (h:Hp):R a7g [t0,t1,t2,t3,t4] h=b9r t0 t1 t2 t3 t4 h :=
 er d1F (by kernel_rfl) (by kernel_rfl)
noncomputable def c4X (t0:D) (h:Hp):Option (D × Hp) :=
 (a0m tab .geq ty5 t0 (.int .u8 97)).bind fun t4=>(gd t4 true (some t0)).bind fun t6=>(gd t4 true (a0m tab .leq ty5 t6 (.int .u8 122))).bind fun t7=>(a0O t4 t7 (.bool false)).bind fun t8=>(gd t8 false (some t0)).bind fun t10=>(gd t8 false (a0m tab .geq ty5 t10 (.int .u8 65))).bind fun t11=>(gd t8 false (some t11)).bind fun t12=>(gd t12 true (some t0)).bind fun t13=>(gd t12 true (a0m tab .leq ty5 t13 (.int .u8 90))).bind fun t14=>(gd t8 false (a0O t12 t14 (.bool false))).bind fun t15=>(a0O t8 (.bool true) t15).bind fun t16=>some (a0k [t16],h)
theorem c9J (t0:D) (h:Hp):R b4b [t0] h=c4X t0 h :=
 er d1G (by kernel_rfl) (by kernel_rfl)
noncomputable def c4Y (t0:D) (h:Hp):Option (D × Hp) :=
 (R b7m [t0] h).bind fun p4=>(gd p4.1 false (some t0)).bind fun t6=>(gdW p4.1 false p4.2 (R b4b [t6] p4.2)).bind fun p7=>(a0O p4.1 (.bool true) p7.1).bind fun t8=>(gd t8 false (some t0)).bind fun t10=>(gd t8 false (a0m tab .eql ty5 t10 (.int .u8 95))).bind fun t11=>(a0O t8 (.bool true) t11).bind fun t12=>some (a0k [t12],p7.2)
theorem c9K (t0:D) (h:Hp):R b7l [t0] h=c4Y t0 h :=
 er d1H (by kernel_rfl) (by kernel_rfl)
noncomputable def b3f (t0 t2 t4:D) (ds:List D) (h_1:Hp):Option Out :=
 (a0m tab .neq ty3 (nth 0 ds) (nth 1 ds)).bind fun t20=>dIf t20
  ((a0m tab .gtr ty3 (nth 0 ds) (nth 1 ds)).bind fun t23=>(dIf t23
  ((a0m tab .sub ty3 t2 (nth 0 ds)).bind fun t27=>(R b1m [t0,t27,t2,nth 1 ds,t4] h_1).bind fun p31=>(a0m tab .sub ty3 (nth 0 ds) (nth 1 ds)).bind fun t34=>some (.nrm,[t34,nth 1 ds],p31.2))
  ((a0m tab .sub ty3 t2 (nth 0 ds)).bind fun t38=>(a0m tab .add ty3 t2 (nth 1 ds)).bind fun t41=>(a0m tab .sub ty3 t41 (nth 0 ds)).bind fun t43=>(R b1m [t0,t38,t43,nth 0 ds,t4] h_1).bind fun p46=>(a0m tab .sub ty3 (nth 1 ds) (nth 0 ds)).bind fun t49=>some (.nrm,[nth 0 ds,t49],p46.2))).bind fun r_1=>some ((a0T 1 r_1.1),[nth 0 r_1.2.1,nth 1 r_1.2.1,t20,t23],r_1.2.2))
  (some ((.ext 0),[nth 0 ds,nth 1 ds,t20,nth 3 ds],h_1))
noncomputable def c5r (t0 t1 t2 t3 t4:D) (h:Hp):Option (D × Hp) :=
 (a0m tab .sub ty3 t2 t1).bind fun t14=>(a0m tab .sub ty3 t3 t2).bind fun t17=>((a0P (b3f t0 t2 t4) [t14,t17,.any,.any] h).bind fun r=>some ((a0T 0 r.1),[nth 0 r.2.1,nth 1 r.2.1,nth 2 r.2.1,nth 3 r.2.1],r.2.2)).bind fun r_2=>a0Y r_2.1 ((a0m tab .sub ty3 t2 (nth 0 r_2.2.1)).bind fun t53=>(R b1m [t0,t53,t2,nth 0 r_2.2.1,t4] r_2.2.2).bind fun p57=>some (a0k [],p57.2)) fun x=>a0Z x (some (a0k [],r_2.2.2))
theorem d0f (t0 t1 t2 t3 t4:D) (h:Hp):R b7w [t0,t1,t2,t3,t4] h=c5r t0 t1 t2 t3 t4 h :=
 er d1I (by kernel_rfl) (by kernel_rfl)
noncomputable def c4Z (t0:D) (h:Hp):Option (D × Hp) :=
 (a0m tab .geq ty5 t0 (.int .u8 48)).bind fun t4=>(gd t4 true (some t0)).bind fun t6=>(gd t4 true (a0m tab .leq ty5 t6 (.int .u8 57))).bind fun t7=>(a0O t4 t7 (.bool false)).bind fun t8=>some (a0k [t8],h)
theorem c9L (t0:D) (h:Hp):R b7m [t0] h=c4Z t0 h :=
 er d1J (by kernel_rfl) (by kernel_rfl)
noncomputable def b3g (t0 t1 t2 t3:D) (ds:List D) (h_1:Hp):Option Out :=
 (a0m tab .lss ty3 (nth 0 ds) t3).bind fun t13=>dIf t13
  ((a0m tab .add ty3 t1 (nth 0 ds)).bind fun t19=>(a0m tab .add ty3 t2 (nth 0 ds)).bind fun t23=>(a0m tab .add ty3 t2 (nth 0 ds)).bind fun t27=>(a0c tab a1e t0 t27).bind fun t28=>(a0b tab h_1 a0x t28).bind fun t29=>(a0m tab .add ty3 t1 (nth 0 ds)).bind fun t33=>(a0c tab a1e t0 t33).bind fun t34=>(a0b tab h_1 a0x t34).bind fun t35=>(a0c tab a1e t0 t19).bind fun t36=>((a0h tab h_1 a0x t36 t29).bind fun h'=>some ((.und:D),h')).bind fun p921=>(a0c tab a1e t0 t23).bind fun t37=>((a0h tab p921.2 a0x t37 t35).bind fun h'=>some ((.und:D),h')).bind fun p923=>(a0m tab .add ty3 (nth 0 ds) (.int .i64 1)).bind fun t15=>some (.nrm,[t15,t13],p923.2))
  (some ((.ext 0),[nth 0 ds,t13],h_1))
noncomputable def c5s (t0 t1 t2 t3 t4:D) (h:Hp):Option (D × Hp) :=
 ((a0P (b3g t0 t1 t2 t3) [.int .i64 0,.any] h).bind fun r=>some ((a0T 0 r.1),[nth 0 r.2.1,nth 1 r.2.1],r.2.2)).bind fun r_1=>a0Z r_1.1 (some (a0k [],r_1.2.2))
theorem d0g (t0 t1 t2 t3 t4:D) (h:Hp):R b1m [t0,t1,t2,t3,t4] h=c5s t0 t1 t2 t3 t4 h :=
 er d1K (by kernel_rfl) (by kernel_rfl)
noncomputable def c5L (t0 t1:D) (h:Hp):Option (D × Hp) :=
 (a0p tab t0).bind fun t7=>(a0a tab a2y 0 t7).bind fun t8=>(a0b tab h a0N t8).bind fun t9=>(a1B tab ty3 a0V t1).bind fun t11=>(R a4D [t9,t11,.int .i64 4] h).bind fun p12=>(a0p tab t0).bind fun t13=>(a0a tab a2y 0 t13).bind fun t14=>((a0h tab p12.2 a0N t14 p12.1).bind fun h'=>some ((.und:D),h')).bind fun p910=>some (a0k [t1],p910.2)
theorem d0z (t0 t1:D) (h:Hp):R b7x [t0,t1] h=c5L t0 t1 h :=
 er d1L (by kernel_rfl) (by kernel_rfl)
noncomputable def c5M (t0 t1:D) (h:Hp):Option (D × Hp) :=
 (a0p tab t0).bind fun t6=>(a0a tab a2y 0 t6).bind fun t7=>(a0b tab h a0N t7).bind fun t8=>(a0p tab t1).bind fun t10=>(a0b tab h ty3 t10).bind fun t11=>(a1B tab ty3 a0V t11).bind fun t12=>(R a4D [t8,t12,.int .i64 8] h).bind fun p13=>(a0p tab t0).bind fun t14=>(a0a tab a2y 0 t14).bind fun t15=>((a0h tab p13.2 a0N t15 p13.1).bind fun h'=>some ((.und:D),h')).bind fun p912=>some (a0k [],p912.2)
theorem d0A (t0 t1:D) (h:Hp):R b7y [t0,t1] h=c5M t0 t1 h :=
 er d1M (by kernel_rfl) (by kernel_rfl)
noncomputable def c5N (t0 t1:D) (h:Hp):Option (D × Hp) :=
 (a0p tab t0).bind fun t6=>(a0a tab a2y 0 t6).bind fun t7=>(a0b tab h a0N t7).bind fun t8=>(a0p tab t1).bind fun t10=>(a0b tab h ty9 t10).bind fun t11=>(a0y tab ty9 t11).bind fun t12=>(a1B tab ty3 a0V t12).bind fun t13=>(R a4D [t8,t13,.int .i64 4] h).bind fun p14=>(a0p tab t1).bind fun t16=>(a0b tab p14.2 ty9 t16).bind fun t17=>(a0F tab p14.2 a0N ty9 p14.1 t17).bind fun p18=>(a0p tab t0).bind fun t19=>(a0a tab a2y 0 t19).bind fun t20=>((a0h tab p18.2 a0N t20 p18.1).bind fun h'=>some ((.und:D),h')).bind fun p917=>chk (a0b tab h ty9 t16=some t17)
 (some (a0k [],p917.2))
theorem d0B (t0 t1:D) (h:Hp):R b7z [t0,t1] h=c5N t0 t1 h :=
 er d1N (by kernel_rfl) (by kernel_rfl)
noncomputable def c5O (t0 t1:D) (h:Hp):Option (D × Hp) :=
 (R a6y [t0,.int .i64 4] h).bind fun p7=>(R a7h [p7.1] p7.2).bind fun p8=>(a1B tab a0V ty3 p8.1).bind fun t9=>(a0p tab t0).bind fun t11=>(a0a tab a2a 1 t11).bind fun t12=>(a0b tab p8.2 ty4 t12).bind fun t13=>(gd t13 false (some t9)).bind fun t15=>(gd t13 false (some t0)).bind fun t16=>(gd t13 false (a0p tab t16)).bind fun t17=>(gd t13 false (a0a tab a2a 0 t17)).bind fun t18=>(gd t13 false (a0b tab p8.2 a0N t18)).bind fun t19=>(gd t13 false (a0y tab a0N t19)).bind fun t20=>(gd t13 false (a0m tab .quo ty3 t20 (.int .i64 8))).bind fun t21=>(gd t13 false (a0m tab .gtr ty3 t15 t21)).bind fun t22=>(a0O t13 (.bool true) t22).bind fun t23=>dIf t23
  ((a0p tab t0).bind fun t25=>(a0a tab a2a 1 t25).bind fun t26=>((a0h tab p8.2 ty4 t26 (.bool true)).bind fun h'=>some ((.und:D),h')).bind fun p903=>some (a0k [.int .i64 0],p903.2))
  (some (a0k [t9],p8.2))
theorem d0C (t0 t1:D) (h:Hp):R b4k [t0,t1] h=c5O t0 t1 h :=
 er d1O (by kernel_rfl) (by kernel_rfl)
noncomputable def c5P (t0 t1:D) (h:Hp):Option (D × Hp) :=
 (R a6y [t0,.int .i64 8] h).bind fun p6=>(R a7h [p6.1] p6.2).bind fun p7=>(a1B tab a0V ty3 p7.1).bind fun t8=>(a0p tab t1).bind fun t9=>((a0h tab p7.2 ty3 t9 t8).bind fun h'=>some ((.und:D),h')).bind fun p906=>some (a0k [],p906.2)
theorem d0D (t0 t1:D) (h:Hp):R b4l [t0,t1] h=c5P t0 t1 h :=
 er d1P (by kernel_rfl) (by kernel_rfl)
noncomputable def c5Q (t0 t1:D) (h:Hp):Option (D × Hp) :=
 (R a6y [t0,.int .i64 4] h).bind fun p7=>(R a7h [p7.1] p7.2).bind fun p8=>(a1B tab a0V ty3 p8.1).bind fun t9=>(R a6y [t0,t9] p8.2).bind fun p12=>(a0p tab t0).bind fun t14=>(a0a tab a2a 1 t14).bind fun t15=>(a0b tab p12.2 ty4 t15).bind fun t16=>(dUn .not t16).bind fun t17=>(dIf t17
  ((a3E p12.2 p12.1).bind fun t20=>(a0p tab t1).bind fun t21=>((a0h tab p12.2 ty9 t21 t20).bind fun h'=>some ((.und:D),h')).bind fun p904=>some (.nrm,([]:List D),p904.2))
  (some (.nrm,([]:List D),p12.2))).bind fun r=>a0Z r.1 (some (a0k [],r.2.2))
theorem d0E (t0 t1:D) (h:Hp):R b4m [t0,t1] h=c5Q t0 t1 h :=
 er d1Q (by kernel_rfl) (by kernel_rfl)
noncomputable def c5R (t0 t1:D) (h:Hp):Option (D × Hp) :=
 (a0p tab t0).bind fun t7=>(a0a tab a2a 1 t7).bind fun t8=>(a0b tab h ty4 t8).bind fun t9=>(gd t9 false (some t1)).bind fun t11=>(gd t9 false (a0m tab .lss ty3 t11 (.int .i64 0))).bind fun t12=>(a0O t9 (.bool true) t12).bind fun t13=>(gd t13 false (some t1)).bind fun t15=>(gd t13 false (some t0)).bind fun t16=>(gd t13 false (a0p tab t16)).bind fun t17=>(gd t13 false (a0a tab a2a 0 t17)).bind fun t18=>(gd t13 false (a0b tab h a0N t18)).bind fun t19=>(gd t13 false (a0y tab a0N t19)).bind fun t20=>(gd t13 false (a0m tab .gtr ty3 t15 t20)).bind fun t21=>(a0O t13 (.bool true) t21).bind fun t22=>dIf t22
  ((a0p tab t0).bind fun t24=>(a0a tab a2a 1 t24).bind fun t25=>((a0h tab h ty4 t25 (.bool true)).bind fun h'=>some ((.und:D),h')).bind fun p903=>some (a0k [.nils],p903.2))
  ((a0p tab t0).bind fun t27=>(a0a tab a2a 0 t27).bind fun t28=>(a0b tab h a0N t28).bind fun t29=>(a0A tab a0N false true false [t29,t1]).bind fun t31=>(a0p tab t0).bind fun t34=>(a0a tab a2a 0 t34).bind fun t35=>(a0b tab h a0N t35).bind fun t36=>(a0A tab a0N true false false [t36,t1]).bind fun t38=>(a0p tab t0).bind fun t39=>(a0a tab a2a 0 t39).bind fun t40=>((a0h tab h a0N t40 t38).bind fun h'=>some ((.und:D),h')).bind fun p909=>some (a0k [t31],p909.2))
theorem d0F (t0 t1:D) (h:Hp):R a6y [t0,t1] h=c5R t0 t1 h :=
 er d1R (by kernel_rfl) (by kernel_rfl)
end Go.Proofs.YtjmndhbabkjebaaGreatDoor
