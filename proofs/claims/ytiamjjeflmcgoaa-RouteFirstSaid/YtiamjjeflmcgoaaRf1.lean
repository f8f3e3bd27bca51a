/- Walks of the law RouteFirst and of its wake-up. -/
import Derived.Test.YtiamjjeflmcgoaaRt2
set_option linter.unusedSimpArgs false
set_option linter.unusedVariables false
namespace Go.Proofs.Ytiamjjeflmcgoaa
open Go.Eng
theorem decide_app_t {rs ss : List RouteD} {e : EventD} (h : (decideF rs e).2 = true) : decideF (rs ++ ss) e = decideF rs e := by
  unfold decideF at h ⊢
  rw [List.find?_append]
  cases hf : rs.find? (fitsR · e) with
  | none => rw [hf] at h; cases h
  | some r => rfl
theorem decide_app_f {rs ss : List RouteD} {e : EventD} (h : (decideF rs e).2 = false) : decideF (rs ++ ss) e = decideF ss e := by
  unfold decideF at h ⊢
  rw [List.find?_append]
  cases hf : rs.find? (fitsR · e) with
  | none => rfl
  | some r => rw [hf] at h; cases h

set_option maxHeartbeats 1000000 in
theorem awake_c {g : Gw} : CallsV Try.prog 9 [].toArray g.w (Ret Mno g fun v _ => v = .bool true) := by
  refine enter Try.func9 rfl Try.ntmps9 rfl ?_
  have hE := Ev.refl Mno g
  refine c_seq ?_
  refine c_region ?_
  refine l_y (y_assign rfl) rfl rfl rfl ?_
  refine l_nil ?_
  refine p_then ?_
  refine c_seq ?_
  refine c_region ?_
  refine l_y (y_struct [_, _, _] Try.underlying78 Try.zeroValue78 (pl := [(0, 1), (1, 1), (2, 1)]) (fun w => by simp) rfl rfl) rfl rfl rfl ?_
  have hE0 := hE
  refine l_do (o_lit rfl Try.underlying28 Try.sizeOf78 Try.zeroValue78 rfl rfl rfl rfl rfl) rfl rfl rfl ?_
  rintro _ _ ⟨g1, b5, rfl, rfl, hv, h5, h5_own, h5_new⟩
  replace hE := hE.no hv
  replace h5_new := Nat.le_trans hE0.size (Nat.le_of_eq h5_new.symm)
  clear hE0 hv h5_own
  replace h5 := FSf.of h5 linC [⟨0, 3, ⟨#[]⟩⟩] (fun _ => rfl) rfl rfl
  refine l_y (y_struct [_, _, _, _, _, _, _, _, _, _] Try.underlying31 Try.zeroValue31 (pl := [(0, 1), (1, 1), (2, 1), (3, 1), (4, 1), (5, 1), (6, 1), (7, 1), (8, 1), (9, 1)]) (fun w => by simp) rfl rfl) rfl rfl rfl ?_
  refine l_call (e_call Try.call38 rfl (apply_c (rs := []) (e := ⟨0, 0, 0, 3, [⟨0, 3, ⟨#[]⟩⟩], 0, 1, ⟨#[]⟩, ⟨#[]⟩, []⟩) (FSf.nil _ none 0 6 rouC (fun _ => rfl) (Nat.zero_le _)) ⟨_, _, _, _, _, _, rfl, h5, FSf.nil _ none 0 2 fldC (fun _ => rfl) (Nat.zero_le _)⟩ (by decide))) rfl rfl rfl ?_
  rintro _ _ ⟨g2, rfl, hv, ⟨is, k, rfl, hk, es, rfl, la, ln, lc, fa, fn, fc, rfl, hll, hff⟩⟩
  replace h5 := h5.ev hv
  replace hE := hE.no hv
  clear hv
  replace hk : k = 0 := hk
  subst hk
  refine l_y (y_move rfl) rfl rfl rfl ?_
  refine l_y (y_extract (i := 0) rfl rfl) rfl rfl rfl ?_
  refine l_y (y_extract (i := 1) rfl rfl) rfl rfl rfl ?_
  have hE0 := hE
  refine l_do (o_alloc Try.zeroValue74 rfl) rfl rfl rfl ?_
  rintro _ _ ⟨g3, b1, rfl, rfl, hv, h1, h1_new⟩
  replace h5 := h5.ev hv
  replace hE := hE.no hv
  replace h1_new := Nat.le_trans hE0.size (Nat.le_of_eq h1_new.symm)
  clear hE0 hv
  refine l_du (o_store rfl rfl rfl Try.sizeOf74 rfl h1 (by simp) (by simp [Value.oneCell'])) rfl rfl ?_
  rintro _ ⟨g4, rfl, hv, h1'⟩
  replace h5 := h5.ev hv
  replace hE := hE.step hv (fun x hx => .inr (by rw [hx]; exact h1_new))
  simp only [splice, List.set_cons_zero, List.set_cons_succ, Nat.reduceAdd, Nat.zero_add] at h1'
  replace h1 := h1'; clear h1' hv
  refine l_y (y_assign rfl) rfl rfl rfl ?_
  refine l_nil ?_
  refine p_then ?_
  refine c_seq ?_
  refine c_region ?_
  refine l_y (y_fieldAddr (i := 1) (fo := 1) Try.underlying74 rfl rfl Try.sizeOf31 rfl rfl) rfl rfl rfl ?_
  refine l_y (y_fieldAddr (i := 8) (fo := 8) Try.underlying31 rfl rfl Try.sizeOf9 rfl rfl) rfl rfl rfl ?_
  first | refine l_y (y_load_blk rfl Try.isAgg9 (by assumption) rfl) rfl rfl rfl ?_ | refine l_y (y_load_el rfl Try.isAgg9 (by assumption) (by assumption) rfl) rfl rfl rfl ?_ | refine l_y (y_load_el0 rfl Try.isAgg9 (by assumption) (by assumption) rfl) rfl rfl rfl ?_
  refine l_y ((y_seql rfl rfl).to (.bool true) (congrArg Value.bool (beq_self_eq_true _))) rfl rfl rfl ?_
  refine l_y (y_move rfl) rfl rfl rfl ?_
  refine l_guard rfl rfl rfl ?_
  refine l_y (y_move rfl) rfl rfl rfl ?_
  refine l_guard rfl rfl rfl ?_
  refine l_y ((y_eql rfl rfl).to (.bool true) rfl) rfl rfl rfl ?_
  refine l_y (y_pick_t rfl rfl) rfl rfl rfl ?_
  refine l_y (y_move rfl) rfl rfl rfl ?_
  refine l_guard rfl rfl rfl ?_
  refine l_y (y_fieldAddr (i := 0) (fo := 0) Try.underlying74 rfl rfl Try.sizeOf9 rfl rfl) rfl rfl rfl ?_
  refine l_guard rfl rfl rfl ?_
  first | refine l_y (y_load_blk rfl Try.isAgg9 (by assumption) rfl) rfl rfl rfl ?_ | refine l_y (y_load_el rfl Try.isAgg9 (by assumption) (by assumption) rfl) rfl rfl rfl ?_ | refine l_y (y_load_el0 rfl Try.isAgg9 (by assumption) (by assumption) rfl) rfl rfl rfl ?_
  refine l_guard rfl rfl rfl ?_
  refine l_y ((y_seql rfl rfl).to (.bool true) (congrArg Value.bool (beq_self_eq_true _))) rfl rfl rfl ?_
  refine l_y (y_pick_t rfl rfl) rfl rfl rfl ?_
  refine l_y (y_assign rfl) rfl rfl rfl ?_
  refine l_nil ?_
  refine p_then ?_
  refine c_ret ?_
  refine p_ret1 rfl (rv_tmp rfl) ?_
  exact ⟨_, rfl, hE, rfl⟩

set_option maxHeartbeats 1000000 in
theorem routeFirst_c {g : Gw} {a : Option Addr} {n cp : Nat} {bs : List Int} {cut : Int} (hl : FSf g a n cp 1 u8C bs) (hz : ∀ z ∈ bs, 0 ≤ z ∧ z < 256) :
    CallsV Try.prog 3 [.slice a n cp, .int .u8 cut].toArray g.w (Ret Mno g fun v _ => v = .bool true) := by
  refine enter Try.func3 rfl Try.ntmps3 rfl ?_
  have hE := Ev.refl Mno g
  refine c_seq ?_
  refine c_region ?_
  refine l_y (y_assign rfl) rfl rfl rfl ?_
  refine l_nil ?_
  refine p_then ?_
  refine c_seq ?_
  refine c_seq ?_
  refine c_region ?_
  refine l_call (e_call Try.call9 rfl (awake_c)) rfl rfl rfl ?_
  rintro _ _ ⟨g1, rfl, hv, rfl⟩
  replace hl := hl.ev hv
  replace hE := hE.no hv
  clear hv
  refine l_y (y_not rfl) rfl rfl rfl ?_
  refine l_nil ?_
  refine p_then ?_
  refine c_cond_f rfl ?_
  refine c_skip ?_
  refine p_then ?_
  refine c_seq ?_
  refine c_region ?_
  refine l_y (y_move rfl) rfl rfl rfl ?_
  have hE0 := hE
  refine l_call (e_call Try.call10 rfl (new_m 160 hl hz)) rfl rfl rfl ?_
  rintro _ _ ⟨g2, rfl, hv, ⟨pc, rfl, hpc_new, hC⟩⟩
  replace hl := hl.ev hv
  replace hE := hE.no hv
  clear hv
  replace hpc_new := Nat.le_trans hE0.size hpc_new; clear hE0
  have hpc := hC.lt
  refine l_y (y_assign rfl) rfl rfl rfl ?_
  refine l_nil ?_
  refine p_then ?_
  refine c_seq ?_
  refine c_region ?_
  refine l_y (y_move rfl) rfl rfl rfl ?_
  refine l_call (e_call Try.call11 rfl (routes_m hC)) rfl rfl rfl ?_
  rintro _ _ ⟨g3, rfl, hv, ⟨hC, a22, n22, c22, rs22, rfl, hr22, _, hn22, hok22⟩⟩
  replace hl := hl.ev hv
  replace hE := hE.step hv (fun x hx => .inr (by rw [hx]; exact hpc_new))
  clear hv
  refine l_y (y_move rfl) rfl rfl rfl ?_
  refine l_call (e_call Try.call11 rfl (routes_m hC)) rfl rfl rfl ?_
  rintro _ _ ⟨g4, rfl, hv, ⟨hC, a24, n24, c24, rs24, rfl, hr24, _, hn24, hok24⟩⟩
  replace hl := hl.ev hv
  replace hr22 := hr22.ev hv
  replace hE := hE.step hv (fun x hx => .inr (by rw [hx]; exact hpc_new))
  clear hv
  refine l_y (y_move rfl) rfl rfl rfl ?_
  refine l_call (e_call Try.call12 rfl (event_m hC)) rfl rfl rfl ?_
  rintro _ _ ⟨g5, rfl, hv, ⟨hC, cs, e, rfl, ⟨la, ln, lc, fa, fn, fc, rfl, hll, hff⟩, hgood⟩⟩
  replace hl := hl.ev hv
  replace hr22 := hr22.ev hv
  replace hr24 := hr24.ev hv
  replace hE := hE.step hv (fun x hx => .inr (by rw [hx]; exact hpc_new))
  clear hv
  have hE0 := hE
  refine l_do (o_alloc Try.zeroValue31 rfl) rfl rfl rfl ?_
  rintro _ _ ⟨g6, b8, rfl, rfl, hv, h8, h8_new⟩
  replace hl := hl.ev hv
  replace hC := hC.ev hv nno
  replace hr22 := hr22.ev hv
  replace hr24 := hr24.ev hv
  replace hll := hll.ev hv
  replace hff := hff.ev hv
  replace hE := hE.no hv
  replace h8_new := Nat.le_trans hE0.size (Nat.le_of_eq h8_new.symm)
  clear hE0 hv
  refine l_y (y_assign rfl) rfl rfl rfl ?_
  refine l_y (y_assign rfl) rfl rfl rfl ?_
  refine l_du (o_store rfl rfl rfl Try.sizeOf31 rfl h8 (by simp) (by simp [Value.oneCell'])) rfl rfl ?_
  rintro _ ⟨g7, rfl, hv, h8'⟩
  replace hl := hl.ev hv
  replace hC := hC.ev hv (fun hh => hC.ne_blk h8 rfl hh.symm)
  replace hr22 := hr22.ev hv
  replace hr24 := hr24.ev hv
  replace hll := hll.ev hv
  replace hff := hff.ev hv
  replace hE := hE.step hv (fun x hx => .inr (by rw [hx]; exact h8_new))
  simp only [splice, List.set_cons_zero, List.set_cons_succ, Nat.reduceAdd, Nat.zero_add] at h8'
  replace h8 := h8'; clear h8' hv
  refine l_nil ?_
  refine p_then ?_
  refine c_seq ?_
  refine c_region ?_
  refine l_y (y_move rfl) rfl rfl rfl ?_
  first | refine l_y (y_loada_blk (vs := [_, _, _, _, _, _, _, _, _, _]) rfl Try.isAgg31 Try.sizeOf31 (by assumption) rfl rfl) rfl rfl rfl ?_ | refine l_y (y_loada_el rfl Try.isAgg31 Try.sizeOf31 (by assumption) (by assumption)) rfl rfl rfl ?_
  refine l_call (e_call Try.call13 rfl (decide_c (e := e) hr22 ⟨_, _, _, _, _, _, rfl, hll, hff⟩)) rfl rfl rfl ?_
  rintro _ _ ⟨g8, rfl, hv, rfl⟩
  replace hl := hl.ev hv
  replace hC := hC.ev hv nno
  replace hr22 := hr22.ev hv
  replace hr24 := hr24.ev hv
  replace hll := hll.ev hv
  replace hff := hff.ev hv
  replace h8 := h8.ev hv nno
  replace hE := hE.no hv
  clear hv
  refine l_y (y_move rfl) rfl rfl rfl ?_
  refine l_y (y_extract (i := 0) rfl rfl) rfl rfl rfl ?_
  refine l_y (y_extract (i := 1) rfl rfl) rfl rfl rfl ?_
  have hE0 := hE
  refine l_do (o_alloc Try.zeroValue34 rfl) rfl rfl rfl ?_
  rintro _ _ ⟨g9, b9, rfl, rfl, hv, h9, h9_new⟩
  replace hl := hl.ev hv
  replace hC := hC.ev hv nno
  replace hr22 := hr22.ev hv
  replace hr24 := hr24.ev hv
  replace hll := hll.ev hv
  replace hff := hff.ev hv
  replace h8 := h8.ev hv nno
  replace hE := hE.no hv
  replace h9_new := Nat.le_trans hE0.size (Nat.le_of_eq h9_new.symm)
  clear hE0 hv
  refine l_du (o_store rfl rfl rfl Try.sizeOf34 rfl h9 (by simp) (by simp [Value.oneCell'])) rfl rfl ?_
  rintro _ ⟨g10, rfl, hv, h9'⟩
  replace hl := hl.ev hv
  replace hC := hC.ev hv (fun hh => hC.ne_blk h9 rfl hh.symm)
  replace hr22 := hr22.ev hv
  replace hr24 := hr24.ev hv
  replace hll := hll.ev hv
  replace hff := hff.ev hv
  replace h8 := h8.ev hv (fun hh => Blk.ne_ h8 h9 rfl hh)
  replace hE := hE.step hv (fun x hx => .inr (by rw [hx]; exact h9_new))
  simp only [splice, List.set_cons_zero, List.set_cons_succ, Nat.reduceAdd, Nat.zero_add] at h9'
  replace h9 := h9'; clear h9' hv
  refine l_y (y_assign rfl) rfl rfl rfl ?_
  refine l_nil ?_
  refine p_then ?_
  refine c_seq ?_
  have hE0 := hE; have h9_lt := h9.lt; have h8_lt := h8.lt
  refine c_ogk (Ev Mno) (EvB g10.w.heap.size) (Ev.pre _) (fun _ _ h => h.of_no) (Ev.draw0 _ _) [(3, (EvZ g10.w.heap.size)), (10, (EvV g10.w.heap.size 34))] ⟨EvZ.to, EvV.to, trivial⟩ [(1, [3]), (9, [10])] (fun _ => True) [fEq (.slice a22 n22 c22), fAp g10.w.heap.size (n22) 34 6 rouC (rs22), fEq (.slice a24 n24 c24), fRow (n22 + n24) 6 rouC (rs22 ++ rs24), fEq (.agg [.int .i64 e.host, .int .i64 e.file, .int .i64 e.from_, .int .i64 e.to, .slice la ln lc, .int .i64 e.time, .int .i64 e.weight, .string e.trace, .string e.stream, .slice fa fn fc].toArray), fEq (.tuple #[.agg (rouC (decideF (rs22 ++ rs24) e).1).toArray, .bool (decideF (rs22 ++ rs24) e).2]), fEq (.tuple #[.agg (rouC (decideF (rs22 ++ rs24) e).1).toArray, .bool (decideF (rs22 ++ rs24) e).2]), fEq (.agg (rouC (decideF (rs22 ++ rs24) e).1).toArray), fEq (.bool (decideF (rs22 ++ rs24) e).2), fNew g10.w.heap.size 34 [.string ⟨#[]⟩, .string ⟨#[]⟩, .string ⟨#[]⟩, .string ⟨#[]⟩, .int .i64 0, .bool false], fNew g10.w.heap.size 34 (rouC (decideF (rs22 ++ rs24) e).1)] 11 Try.mixo (by kernel_rfl) (by kernel_rfl) (by kernel_rfl) (by kernel_rfl) rfl trivial ⟨⟨fEq.stab, fEq.stab, fEq.stab, trivial⟩, ⟨fAp.stab0, fAp.stabV rfl, trivial⟩, ⟨fEq.stab, fEq.stab, fEq.stab, trivial⟩, ⟨fRow.stab0, fRow.stabV, trivial⟩, ⟨fEq.stab, fEq.stab, fEq.stab, trivial⟩, ⟨fEq.stab, fEq.stab, trivial⟩, ⟨fEq.stab, fEq.stab, fEq.stab, trivial⟩, ⟨fEq.stab, fEq.stab, fEq.stab, trivial⟩, ⟨fEq.stab, fEq.stab, fEq.stab, trivial⟩, ⟨fNew.stab0, fNew.stabZ, trivial⟩, ⟨fNew.stab0, trivial⟩, trivial⟩ ?_ ?_
  · refine ⟨⟨rfl, fun g hv hJ => ?_⟩, ⟨rfl, fun g hv hJ => ?_⟩, ⟨rfl, fun g hv hJ => ?_⟩, ⟨rfl, fun g hv hJ => ?_⟩, ⟨rfl, fun g hv hJ => ?_⟩, ⟨rfl, fun g hv hJ => ?_⟩, ⟨rfl, fun g hv hJ => ?_⟩, ⟨rfl, fun g hv hJ => ?_⟩, ⟨rfl, fun g hv hJ => ?_⟩, ⟨rfl, fun g hv hJ => ?_⟩, ⟨rfl, fun g hv hJ => ?_⟩, trivial⟩
    · skip
      refine OgDo.d3 (d := 34) ?_ rfl
      show OgDo _ (Ev Mno) _ _ _ _ _
      exact og_y (y_move rfl) rfl hJ fEq.mk
    · intro v0 hk0
      obtain rfl : v0 = _ := hk0
      refine OgDo.d3 (d := 35) ?_ rfl
      show OgDo _ (Ev Mno) _ _ _ _ _
      exact og_app0 (bt := 80) (sz := 6) rfl rfl Try.underlying26 Try.info34 rfl rfl rfl rfl rfl (hr22.ev hv) (fun _ => by simp [Value.oneCell']) (by omega) (by omega) hv.size (fun _ _ => trivial)
    · skip
      refine OgDo.d3 (d := 36) ?_ rfl
      show OgDo _ (Ev Mno) _ _ _ _ _
      exact og_y (y_move rfl) rfl hJ fEq.mk
    · intro v1 hk1; intro v2 hk2; intro v1 hk1
      obtain ⟨oa1, oc1, rfl, hrow1, hown1, hz1⟩ := hk1
      obtain rfl : v2 = _ := hk2
      refine OgDo.d3 (d := 37) ?_ rfl
      show OgDo _ (EvZ _) _ _ _ _ _
      exact (og_app (bt := 80) (sz := 6) rfl rfl Try.underlying26 Try.info34 rfl rfl rfl rfl rfl hown1 hrow1 (hr24.ev hv) hz1 (fun _ => by simp [Value.oneCell']) (by omega) (by omega) hv.size (fun _ _ => trivial)).imp (fun _ _ ⟨a, c, h1, h2, _⟩ => ⟨a, c, h1, h2⟩)
    · skip
      refine OgDo.d3 (d := 38) ?_ rfl
      show OgDo _ (Ev Mno) _ _ _ _ _
      exact og_y (y_loada_blk (vs := [_, _, _, _, _, _, _, _, _, _]) rfl Try.isAgg31 Try.sizeOf31 (h8.evB hv h8.lt) rfl rfl) rfl hJ fEq.mk
    · intro v3 hk3; intro v4 hk4; intro v3 hk3
      obtain ⟨oa3, oc3, rfl, hrow3⟩ := hk3
      obtain rfl : v4 = _ := hk4
      refine OgDo.d3 (d := 39) ?_ rfl
      show OgDo _ (Ev Mno) _ _ _ _ _
      exact og_call (e_call Try.call13 rfl ((decide_c (e := e) hrow3 ⟨_, _, _, _, _, _, rfl, hll.ev hv, hff.ev hv⟩).mono_ret (fun v g' h => ⟨trivial, h⟩))) rfl
    · intro v5 hk5
      obtain rfl : v5 = _ := hk5
      refine OgDo.d3 (d := 33) ?_ rfl
      show OgDo _ (Ev Mno) _ _ _ _ _
      exact og_y (y_move rfl) rfl hJ fEq.mk
    · intro v6 hk6
      obtain rfl : v6 = _ := hk6
      refine OgDo.d3 (d := 40) ?_ rfl
      show OgDo _ (Ev Mno) _ _ _ _ _
      exact og_y (y_extract (i := 0) rfl rfl) rfl hJ fEq.mk
    · intro v6 hk6
      obtain rfl : v6 = _ := hk6
      refine OgDo.d3 (d := 41) ?_ rfl
      show OgDo _ (Ev Mno) _ _ _ _ _
      exact og_y (y_extract (i := 1) rfl rfl) rfl hJ fEq.mk
    · skip
      refine OgDo.d3 (d := 11) ?_ rfl
      show OgDo _ (Ev Mno) _ _ _ _ _
      refine og_do (o_alloc Try.zeroValue34 rfl) rfl ?_
      rintro _ _ ⟨g', b, rfl, rfl, hv', hb, hbn⟩
      exact ⟨g', rfl, hv', trivial, b, rfl, by have := hv.size; omega, hb⟩
    · intro v9 hk9; intro v7 hk7; intro v5 hk5; intro v0 hk0; intro v1 hk1; intro v2 hk2; intro v3 hk3; intro v4 hk4; intro v5 hk5; intro v6 hk6; intro v7 hk7; intro v9 hk9
      obtain rfl : v7 = _ := hk7
      obtain ⟨b11, rfl, h11_new, h11⟩ := hk9
      show OgDo3 _ (EvV _ _) _ _ _ _ _
      exact og_storeV rfl rfl rfl rfl rfl Try.sizeOf34 rfl h11 h11_new rfl rfl (by simp [Value.oneCell']) (fun _ _ => trivial)
  · intro g11 vs0 hv _ hf0
    obtain ⟨v0, vs1, rfl, hk0, hf1⟩ := hf0.cons
    clear hf0
    obtain rfl : v0 = _ := hk0
    obtain ⟨v1, vs2, rfl, hk1, hf2⟩ := hf1.cons
    clear hf1
    clear hk1
    obtain ⟨v2, vs3, rfl, hk2, hf3⟩ := hf2.cons
    clear hf2
    obtain rfl : v2 = _ := hk2
    obtain ⟨v3, vs4, rfl, hk3, hf4⟩ := hf3.cons
    clear hf3
    obtain ⟨oa3, oc3, rfl, hrow3⟩ := hk3
    obtain ⟨v4, vs5, rfl, hk4, hf5⟩ := hf4.cons
    clear hf4
    obtain rfl : v4 = _ := hk4
    obtain ⟨v5, vs6, rfl, hk5, hf6⟩ := hf5.cons
    clear hf5
    obtain rfl : v5 = _ := hk5
    obtain ⟨v6, vs7, rfl, hk6, hf7⟩ := hf6.cons
    clear hf6
    obtain rfl : v6 = _ := hk6
    obtain ⟨v7, vs8, rfl, hk7, hf8⟩ := hf7.cons
    clear hf7
    obtain rfl : v7 = _ := hk7
    obtain ⟨v8, vs9, rfl, hk8, hf9⟩ := hf8.cons
    clear hf8
    obtain rfl : v8 = _ := hk8
    obtain ⟨v9, vs10, rfl, hk9, hf10⟩ := hf9.cons
    clear hf9
    clear hk9
    obtain ⟨v10, vs11, rfl, hk10, hf11⟩ := hf10.cons
    clear hf10
    clear hk10
    obtain rfl := hf11.nil; clear hf11
    intro hst10; have hk10 := hst10 _ rfl; clear hst10
    obtain ⟨b11, rfl, h11_new, h11⟩ := hk10
    replace hl := hl.ev hv
    replace hC := hC.evB hv
    replace hr22 := hr22.ev hv
    replace hr24 := hr24.ev hv
    replace hll := hll.ev hv
    replace hff := hff.ev hv
    replace h8 := h8.evB hv h8.lt
    replace h9 := h9.evB hv h9.lt
    replace hE := hE.step hv (fun x hx => .inr (Nat.le_trans hE.size hx))
    clear hv
    have ne_h9_h11 : b9 ≠ b11 := by omega
    have ne_h11_h9 := Ne.symm ne_h9_h11
    replace h11_new := Nat.le_trans hE0.size h11_new
    refine l_y (y_assign rfl) rfl rfl rfl ?_
    refine l_nil ?_
    refine p_then ?_
    refine c_seq ?_
    refine c_seq ?_
    refine c_region ?_
    refine l_y (y_move rfl) rfl rfl rfl ?_
    refine l_y (y_move rfl) rfl rfl rfl ?_
    refine l_split (t := 43) rfl (fun hs43 => ?_) (fun hs43 => ?_)
    · skip
      have hA : decideF (rs22 ++ rs24) e = decideF rs22 e := decide_app_t hs43
      rw [hA] at h11 ⊢
      rw [hs43]
      refine l_guard rfl rfl rfl ?_
      refine l_y (y_move rfl) rfl rfl rfl ?_
      refine l_guard rfl rfl rfl ?_
      refine l_y (y_not rfl) rfl rfl rfl ?_
      refine l_guard rfl rfl rfl ?_
      refine l_y (y_move rfl) rfl rfl rfl ?_
      refine l_guard rfl rfl rfl ?_
      first | refine l_y (y_loada_blk (vs := [_, _, _, _, _, _]) rfl Try.isAgg34 Try.sizeOf34 (by assumption) rfl rfl) rfl rfl rfl ?_ | refine l_y (y_loada_el rfl Try.isAgg34 Try.sizeOf34 (by assumption) (by assumption)) rfl rfl rfl ?_
      refine l_guard rfl rfl rfl ?_
      first | refine l_y (y_loada_blk (vs := [_, _, _, _, _, _]) rfl Try.isAgg34 Try.sizeOf34 (by assumption) rfl rfl) rfl rfl rfl ?_ | refine l_y (y_loada_el rfl Try.isAgg34 Try.sizeOf34 (by assumption) (by assumption)) rfl rfl rfl ?_
      refine l_guard rfl rfl rfl ?_
      refine l_y ((y_nes (rs := [_, _, _, _, _, _]) rfl rfl Try.underlying34 Try.stoodInHeld34 Try.eqGuardType34 ⟨rfl, Try.isAgg9, ⟨_, _, rfl, rfl, EqT.str Try.underlying9⟩, rfl, Try.isAgg9, ⟨_, _, rfl, rfl, EqT.str Try.underlying9⟩, rfl, Try.isAgg9, ⟨_, _, rfl, rfl, EqT.str Try.underlying9⟩, rfl, Try.isAgg9, ⟨_, _, rfl, rfl, EqT.str Try.underlying9⟩, rfl, Try.isAgg3, ⟨_, _, rfl, rfl, EqT.int Try.underlying3⟩, rfl, Try.isAgg4, ⟨_, _, rfl, rfl, EqT.bool Try.underlying4⟩, trivial⟩).to (.bool false) (by simp)) rfl rfl rfl ?_
      refine l_guard rfl rfl rfl ?_
      refine l_y (y_pick_f rfl rfl) rfl rfl rfl ?_
      refine l_y (y_pick_t rfl rfl) rfl rfl rfl ?_
      refine l_nil ?_
      refine p_then ?_
      refine c_cond_f rfl ?_
      refine c_skip ?_
      refine p_then ?_
      refine c_seq ?_
      have hE0 := hE; have h9_lt := h9.lt; have h11_lt := h11.lt; have h8_lt := h8.lt
      refine c_ogk (Ev Mno) (EvB g11.w.heap.size) (Ev.pre _) (fun _ _ h => h.of_no) (Ev.draw0 _ _) [(3, (EvZ g11.w.heap.size)), (10, (EvV g11.w.heap.size 34))] ⟨EvZ.to, EvV.to, trivial⟩ [(1, [3]), (9, [10])] (fun _ => True) [fEq (.slice a24 n24 c24), fAp g11.w.heap.size (n24) 34 6 rouC (rs24), fEq (.slice a22 n22 c22), fRow (n24 + n22) 6 rouC (rs24 ++ rs22), fEq (.agg [.int .i64 e.host, .int .i64 e.file, .int .i64 e.from_, .int .i64 e.to, .slice la ln lc, .int .i64 e.time, .int .i64 e.weight, .string e.trace, .string e.stream, .slice fa fn fc].toArray), fEq (.tuple #[.agg (rouC (decideF (rs24 ++ rs22) e).1).toArray, .bool (decideF (rs24 ++ rs22) e).2]), fEq (.tuple #[.agg (rouC (decideF (rs24 ++ rs22) e).1).toArray, .bool (decideF (rs24 ++ rs22) e).2]), fEq (.agg (rouC (decideF (rs24 ++ rs22) e).1).toArray), fEq (.bool (decideF (rs24 ++ rs22) e).2), fNew g11.w.heap.size 34 [.string ⟨#[]⟩, .string ⟨#[]⟩, .string ⟨#[]⟩, .string ⟨#[]⟩, .int .i64 0, .bool false], fNew g11.w.heap.size 34 (rouC (decideF (rs24 ++ rs22) e).1)] 11 Try.mixo (by kernel_rfl) (by kernel_rfl) (by kernel_rfl) (by kernel_rfl) rfl trivial ⟨⟨fEq.stab, fEq.stab, fEq.stab, trivial⟩, ⟨fAp.stab0, fAp.stabV rfl, trivial⟩, ⟨fEq.stab, fEq.stab, fEq.stab, trivial⟩, ⟨fRow.stab0, fRow.stabV, trivial⟩, ⟨fEq.stab, fEq.stab, fEq.stab, trivial⟩, ⟨fEq.stab, fEq.stab, trivial⟩, ⟨fEq.stab, fEq.stab, fEq.stab, trivial⟩, ⟨fEq.stab, fEq.stab, fEq.stab, trivial⟩, ⟨fEq.stab, fEq.stab, fEq.stab, trivial⟩, ⟨fNew.stab0, fNew.stabZ, trivial⟩, ⟨fNew.stab0, trivial⟩, trivial⟩ ?_ ?_
      · refine ⟨⟨rfl, fun g hv hJ => ?_⟩, ⟨rfl, fun g hv hJ => ?_⟩, ⟨rfl, fun g hv hJ => ?_⟩, ⟨rfl, fun g hv hJ => ?_⟩, ⟨rfl, fun g hv hJ => ?_⟩, ⟨rfl, fun g hv hJ => ?_⟩, ⟨rfl, fun g hv hJ => ?_⟩, ⟨rfl, fun g hv hJ => ?_⟩, ⟨rfl, fun g hv hJ => ?_⟩, ⟨rfl, fun g hv hJ => ?_⟩, ⟨rfl, fun g hv hJ => ?_⟩, trivial⟩
        · skip
          refine OgDo.d3 (d := 53) ?_ rfl
          show OgDo _ (Ev Mno) _ _ _ _ _
          exact og_y (y_move rfl) rfl hJ fEq.mk
        · intro v0 hk0
          obtain rfl : v0 = _ := hk0
          refine OgDo.d3 (d := 54) ?_ rfl
          show OgDo _ (Ev Mno) _ _ _ _ _
          exact og_app0 (bt := 80) (sz := 6) rfl rfl Try.underlying26 Try.info34 rfl rfl rfl rfl rfl (hr24.ev hv) (fun _ => by simp [Value.oneCell']) (by omega) (by omega) hv.size (fun _ _ => trivial)
        · skip
          refine OgDo.d3 (d := 55) ?_ rfl
          show OgDo _ (Ev Mno) _ _ _ _ _
          exact og_y (y_move rfl) rfl hJ fEq.mk
        · intro v1 hk1; intro v2 hk2; intro v1 hk1
          obtain ⟨oa1, oc1, rfl, hrow1, hown1, hz1⟩ := hk1
          obtain rfl : v2 = _ := hk2
          refine OgDo.d3 (d := 56) ?_ rfl
          show OgDo _ (EvZ _) _ _ _ _ _
          exact (og_app (bt := 80) (sz := 6) rfl rfl Try.underlying26 Try.info34 rfl rfl rfl rfl rfl hown1 hrow1 (hr22.ev hv) hz1 (fun _ => by simp [Value.oneCell']) (by omega) (by omega) hv.size (fun _ _ => trivial)).imp (fun _ _ ⟨a, c, h1, h2, _⟩ => ⟨a, c, h1, h2⟩)
        · skip
          refine OgDo.d3 (d := 57) ?_ rfl
          show OgDo _ (Ev Mno) _ _ _ _ _
          exact og_y (y_loada_blk (vs := [_, _, _, _, _, _, _, _, _, _]) rfl Try.isAgg31 Try.sizeOf31 (h8.evB hv h8.lt) rfl rfl) rfl hJ fEq.mk
        · intro v3 hk3; intro v4 hk4; intro v3 hk3
          obtain ⟨oa3, oc3, rfl, hrow3⟩ := hk3
          obtain rfl : v4 = _ := hk4
          refine OgDo.d3 (d := 58) ?_ rfl
          show OgDo _ (Ev Mno) _ _ _ _ _
          exact og_call (e_call Try.call13 rfl ((decide_c (e := e) hrow3 ⟨_, _, _, _, _, _, rfl, hll.ev hv, hff.ev hv⟩).mono_ret (fun v g' h => ⟨trivial, h⟩))) rfl
        · intro v5 hk5
          obtain rfl : v5 = _ := hk5
          refine OgDo.d3 (d := 52) ?_ rfl
          show OgDo _ (Ev Mno) _ _ _ _ _
          exact og_y (y_move rfl) rfl hJ fEq.mk
        · intro v6 hk6
          obtain rfl : v6 = _ := hk6
          refine OgDo.d3 (d := 59) ?_ rfl
          show OgDo _ (Ev Mno) _ _ _ _ _
          exact og_y (y_extract (i := 0) rfl rfl) rfl hJ fEq.mk
        · intro v6 hk6
          obtain rfl : v6 = _ := hk6
          refine OgDo.d3 (d := 60) ?_ rfl
          show OgDo _ (Ev Mno) _ _ _ _ _
          exact og_y (y_extract (i := 1) rfl rfl) rfl hJ fEq.mk
        · skip
          refine OgDo.d3 (d := 13) ?_ rfl
          show OgDo _ (Ev Mno) _ _ _ _ _
          refine og_do (o_alloc Try.zeroValue34 rfl) rfl ?_
          rintro _ _ ⟨g', b, rfl, rfl, hv', hb, hbn⟩
          exact ⟨g', rfl, hv', trivial, b, rfl, by have := hv.size; omega, hb⟩
        · intro v9 hk9; intro v7 hk7; intro v5 hk5; intro v0 hk0; intro v1 hk1; intro v2 hk2; intro v3 hk3; intro v4 hk4; intro v5 hk5; intro v6 hk6; intro v7 hk7; intro v9 hk9
          obtain rfl : v7 = _ := hk7
          obtain ⟨b13, rfl, h13_new, h13⟩ := hk9
          show OgDo3 _ (EvV _ _) _ _ _ _ _
          exact og_storeV rfl rfl rfl rfl rfl Try.sizeOf34 rfl h13 h13_new rfl rfl (by simp [Value.oneCell']) (fun _ _ => trivial)
      · intro g12 vs0 hv _ hf0
        obtain ⟨v0, vs1, rfl, hk0, hf1⟩ := hf0.cons
        clear hf0
        obtain rfl : v0 = _ := hk0
        obtain ⟨v1, vs2, rfl, hk1, hf2⟩ := hf1.cons
        clear hf1
        clear hk1
        obtain ⟨v2, vs3, rfl, hk2, hf3⟩ := hf2.cons
        clear hf2
        obtain rfl : v2 = _ := hk2
        obtain ⟨v3, vs4, rfl, hk3, hf4⟩ := hf3.cons
        clear hf3
        obtain ⟨oa3, oc3, rfl, hrow3⟩ := hk3
        obtain ⟨v4, vs5, rfl, hk4, hf5⟩ := hf4.cons
        clear hf4
        obtain rfl : v4 = _ := hk4
        obtain ⟨v5, vs6, rfl, hk5, hf6⟩ := hf5.cons
        clear hf5
        obtain rfl : v5 = _ := hk5
        obtain ⟨v6, vs7, rfl, hk6, hf7⟩ := hf6.cons
        clear hf6
        obtain rfl : v6 = _ := hk6
        obtain ⟨v7, vs8, rfl, hk7, hf8⟩ := hf7.cons
        clear hf7
        obtain rfl : v7 = _ := hk7
        obtain ⟨v8, vs9, rfl, hk8, hf9⟩ := hf8.cons
        clear hf8
        obtain rfl : v8 = _ := hk8
        obtain ⟨v9, vs10, rfl, hk9, hf10⟩ := hf9.cons
        clear hf9
        clear hk9
        obtain ⟨v10, vs11, rfl, hk10, hf11⟩ := hf10.cons
        clear hf10
        clear hk10
        obtain rfl := hf11.nil; clear hf11
        intro hst10; have hk10 := hst10 _ rfl; clear hst10
        obtain ⟨b13, rfl, h13_new, h13⟩ := hk10
        replace hl := hl.ev hv
        replace hC := hC.evB hv
        replace hr22 := hr22.ev hv
        replace hr24 := hr24.ev hv
        replace hll := hll.ev hv
        replace hff := hff.ev hv
        replace h8 := h8.evB hv h8.lt
        replace h9 := h9.evB hv h9.lt
        replace h11 := h11.evB hv h11.lt
        replace hE := hE.step hv (fun x hx => .inr (Nat.le_trans hE.size hx))
        clear hv
        have ne_h9_h13 : b9 ≠ b13 := by omega
        have ne_h13_h9 := Ne.symm ne_h9_h13
        have ne_h11_h13 : b11 ≠ b13 := by omega
        have ne_h13_h11 := Ne.symm ne_h11_h13
        replace h13_new := Nat.le_trans hE0.size h13_new
        refine l_y (y_assign rfl) rfl rfl rfl ?_
        refine l_nil ?_
        refine p_then ?_
        refine c_seq ?_
        refine c_region ?_
        refine l_y (y_move rfl) rfl rfl rfl ?_
        first | refine l_y (y_loada_blk (vs := [_, _, _, _, _, _, _, _, _, _]) rfl Try.isAgg31 Try.sizeOf31 (by assumption) rfl rfl) rfl rfl rfl ?_ | refine l_y (y_loada_el rfl Try.isAgg31 Try.sizeOf31 (by assumption) (by assumption)) rfl rfl rfl ?_
        refine l_call (e_call Try.call13 rfl (decide_c (e := e) hr24 ⟨_, _, _, _, _, _, rfl, hll, hff⟩)) rfl rfl rfl ?_
        rintro _ _ ⟨g13, rfl, hv, rfl⟩
        replace hl := hl.ev hv
        replace hC := hC.ev hv nno
        replace hr22 := hr22.ev hv
        replace hr24 := hr24.ev hv
        replace hll := hll.ev hv
        replace hff := hff.ev hv
        replace h8 := h8.ev hv nno
        replace h9 := h9.ev hv nno
        replace h11 := h11.ev hv nno
        replace h13 := h13.ev hv nno
        replace hE := hE.no hv
        clear hv
        refine l_y (y_move rfl) rfl rfl rfl ?_
        refine l_y (y_extract (i := 0) rfl rfl) rfl rfl rfl ?_
        refine l_y (y_extract (i := 1) rfl rfl) rfl rfl rfl ?_
        have hE0 := hE
        refine l_do (o_alloc Try.zeroValue34 rfl) rfl rfl rfl ?_
        rintro _ _ ⟨g14, b15, rfl, rfl, hv, h15, h15_new⟩
        have ne_h9_h15 : b9 ≠ b15 := by have := h9.lt; omega
        have ne_h15_h9 := Ne.symm ne_h9_h15
        have ne_h11_h15 : b11 ≠ b15 := by have := h11.lt; omega
        have ne_h15_h11 := Ne.symm ne_h11_h15
        have ne_h13_h15 : b13 ≠ b15 := by have := h13.lt; omega
        have ne_h15_h13 := Ne.symm ne_h13_h15
        replace hl := hl.ev hv
        replace hC := hC.ev hv nno
        replace hr22 := hr22.ev hv
        replace hr24 := hr24.ev hv
        replace hll := hll.ev hv
        replace hff := hff.ev hv
        replace h8 := h8.ev hv nno
        replace h9 := h9.ev hv nno
        replace h11 := h11.ev hv nno
        replace h13 := h13.ev hv nno
        replace hE := hE.no hv
        replace h15_new := Nat.le_trans hE0.size (Nat.le_of_eq h15_new.symm)
        clear hE0 hv
        refine l_du (o_store rfl rfl rfl Try.sizeOf34 rfl h15 (by simp) (by simp [Value.oneCell'])) rfl rfl ?_
        rintro _ ⟨g15, rfl, hv, h15'⟩
        replace hl := hl.ev hv
        replace hC := hC.ev hv (fun hh => hC.ne_blk h15 rfl hh.symm)
        replace hr22 := hr22.ev hv
        replace hr24 := hr24.ev hv
        replace hll := hll.ev hv
        replace hff := hff.ev hv
        replace h8 := h8.ev hv (fun hh => Blk.ne_ h8 h15 rfl hh)
        replace h9 := h9.ev hv (ne_h9_h15)
        replace h11 := h11.ev hv (ne_h11_h15)
        replace h13 := h13.ev hv (ne_h13_h15)
        replace hE := hE.step hv (fun x hx => .inr (by rw [hx]; exact h15_new))
        simp only [splice, List.set_cons_zero, List.set_cons_succ, Nat.reduceAdd, Nat.zero_add] at h15'
        replace h15 := h15'; clear h15' hv
        refine l_y (y_assign rfl) rfl rfl rfl ?_
        refine l_nil ?_
        refine p_then ?_
        refine c_seq ?_
        refine c_seq ?_
        refine c_region ?_
        refine l_y (y_move rfl) rfl rfl rfl ?_
        refine l_nil ?_
        refine p_then ?_
        refine c_cond rfl (fun hc2 => ?_) (fun hc2 => ?_)
        · skip
          have hB : decideF (rs24 ++ rs22) e = decideF rs24 e := decide_app_t hc2
          rw [hB] at h13 ⊢
          rw [hc2]
          refine c_seq ?_
          refine c_region ?_
          refine l_y (y_move rfl) rfl rfl rfl ?_
          refine l_y (y_move rfl) rfl rfl rfl ?_
          refine l_guard rfl rfl rfl ?_
          first | refine l_y (y_loada_blk (vs := [_, _, _, _, _, _]) rfl Try.isAgg34 Try.sizeOf34 (by assumption) rfl rfl) rfl rfl rfl ?_ | refine l_y (y_loada_el rfl Try.isAgg34 Try.sizeOf34 (by assumption) (by assumption)) rfl rfl rfl ?_
          refine l_guard rfl rfl rfl ?_
          first | refine l_y (y_loada_blk (vs := [_, _, _, _, _, _]) rfl Try.isAgg34 Try.sizeOf34 (by assumption) rfl rfl) rfl rfl rfl ?_ | refine l_y (y_loada_el rfl Try.isAgg34 Try.sizeOf34 (by assumption) (by assumption)) rfl rfl rfl ?_
          refine l_guard rfl rfl rfl ?_
          refine l_y ((y_eqs (rs := [_, _, _, _, _, _]) rfl rfl Try.underlying34 Try.stoodInHeld34 Try.eqGuardType34 ⟨rfl, Try.isAgg9, ⟨_, _, rfl, rfl, EqT.str Try.underlying9⟩, rfl, Try.isAgg9, ⟨_, _, rfl, rfl, EqT.str Try.underlying9⟩, rfl, Try.isAgg9, ⟨_, _, rfl, rfl, EqT.str Try.underlying9⟩, rfl, Try.isAgg9, ⟨_, _, rfl, rfl, EqT.str Try.underlying9⟩, rfl, Try.isAgg3, ⟨_, _, rfl, rfl, EqT.int Try.underlying3⟩, rfl, Try.isAgg4, ⟨_, _, rfl, rfl, EqT.bool Try.underlying4⟩, trivial⟩).to (.bool true) (by simp)) rfl rfl rfl ?_
          refine l_y (y_pick_t rfl rfl) rfl rfl rfl ?_
          refine l_y (y_assign rfl) rfl rfl rfl ?_
          refine l_nil ?_
          refine p_then ?_
          refine c_ret ?_
          refine p_then_ret ?_
          refine p_ret1 rfl (rv_tmp rfl) ?_
          exact ⟨_, rfl, hE, rfl⟩
        · skip
          have hB : decideF (rs24 ++ rs22) e = decideF rs22 e := decide_app_f hc2
          rw [hB] at h13 ⊢
          refine c_skip ?_
          refine p_then ?_
          refine c_seq ?_
          refine c_region ?_
          refine l_y (y_move rfl) rfl rfl rfl ?_
          refine l_y (y_move rfl) rfl rfl rfl ?_
          refine l_y ((y_beql Try.underlying4 rfl rfl).to (.bool true) (by simp [hs43])) rfl rfl rfl ?_
          refine l_y (y_move rfl) rfl rfl rfl ?_
          refine l_guard rfl rfl rfl ?_
          first | refine l_y (y_loada_blk (vs := [_, _, _, _, _, _]) rfl Try.isAgg34 Try.sizeOf34 (by assumption) rfl rfl) rfl rfl rfl ?_ | refine l_y (y_loada_el rfl Try.isAgg34 Try.sizeOf34 (by assumption) (by assumption)) rfl rfl rfl ?_
          refine l_guard rfl rfl rfl ?_
          first | refine l_y (y_loada_blk (vs := [_, _, _, _, _, _]) rfl Try.isAgg34 Try.sizeOf34 (by assumption) rfl rfl) rfl rfl rfl ?_ | refine l_y (y_loada_el rfl Try.isAgg34 Try.sizeOf34 (by assumption) (by assumption)) rfl rfl rfl ?_
          refine l_guard rfl rfl rfl ?_
          refine l_y ((y_eqs (rs := [_, _, _, _, _, _]) rfl rfl Try.underlying34 Try.stoodInHeld34 Try.eqGuardType34 ⟨rfl, Try.isAgg9, ⟨_, _, rfl, rfl, EqT.str Try.underlying9⟩, rfl, Try.isAgg9, ⟨_, _, rfl, rfl, EqT.str Try.underlying9⟩, rfl, Try.isAgg9, ⟨_, _, rfl, rfl, EqT.str Try.underlying9⟩, rfl, Try.isAgg9, ⟨_, _, rfl, rfl, EqT.str Try.underlying9⟩, rfl, Try.isAgg3, ⟨_, _, rfl, rfl, EqT.int Try.underlying3⟩, rfl, Try.isAgg4, ⟨_, _, rfl, rfl, EqT.bool Try.underlying4⟩, trivial⟩).to (.bool true) (by simp)) rfl rfl rfl ?_
          refine l_y (y_pick_t rfl rfl) rfl rfl rfl ?_
          refine l_y (y_assign rfl) rfl rfl rfl ?_
          refine l_nil ?_
          refine p_then ?_
          refine c_ret ?_
          refine p_ret1 rfl (rv_tmp rfl) ?_
          exact ⟨_, rfl, hE, rfl⟩
    · skip
      refine l_skip rfl rfl rfl rfl rfl rfl ?_
      refine l_skip rfl rfl rfl rfl rfl rfl ?_
      refine l_skip rfl rfl rfl rfl rfl rfl ?_
      refine l_skipu rfl rfl rfl rfl rfl ?_
      refine l_skipu rfl rfl rfl rfl rfl ?_
      refine l_skipu rfl rfl rfl rfl rfl ?_
      refine l_skip rfl rfl rfl rfl rfl rfl ?_
      refine l_y (y_pick_f rfl rfl) rfl rfl rfl ?_
      refine l_nil ?_
      refine p_then ?_
      refine c_cond_f rfl ?_
      refine c_skip ?_
      refine p_then ?_
      refine c_seq ?_
      have hE0 := hE; have h9_lt := h9.lt; have h11_lt := h11.lt; have h8_lt := h8.lt
      refine c_ogk (Ev Mno) (EvB g11.w.heap.size) (Ev.pre _) (fun _ _ h => h.of_no) (Ev.draw0 _ _) [(3, (EvZ g11.w.heap.size)), (10, (EvV g11.w.heap.size 34))] ⟨EvZ.to, EvV.to, trivial⟩ [(1, [3]), (9, [10])] (fun _ => True) [fEq (.slice a24 n24 c24), fAp g11.w.heap.size (n24) 34 6 rouC (rs24), fEq (.slice a22 n22 c22), fRow (n24 + n22) 6 rouC (rs24 ++ rs22), fEq (.agg [.int .i64 e.host, .int .i64 e.file, .int .i64 e.from_, .int .i64 e.to, .slice la ln lc, .int .i64 e.time, .int .i64 e.weight, .string e.trace, .string e.stream, .slice fa fn fc].toArray), fEq (.tuple #[.agg (rouC (decideF (rs24 ++ rs22) e).1).toArray, .bool (decideF (rs24 ++ rs22) e).2]), fEq (.tuple #[.agg (rouC (decideF (rs24 ++ rs22) e).1).toArray, .bool (decideF (rs24 ++ rs22) e).2]), fEq (.agg (rouC (decideF (rs24 ++ rs22) e).1).toArray), fEq (.bool (decideF (rs24 ++ rs22) e).2), fNew g11.w.heap.size 34 [.string ⟨#[]⟩, .string ⟨#[]⟩, .string ⟨#[]⟩, .string ⟨#[]⟩, .int .i64 0, .bool false], fNew g11.w.heap.size 34 (rouC (decideF (rs24 ++ rs22) e).1)] 11 Try.mixo (by kernel_rfl) (by kernel_rfl) (by kernel_rfl) (by kernel_rfl) rfl trivial ⟨⟨fEq.stab, fEq.stab, fEq.stab, trivial⟩, ⟨fAp.stab0, fAp.stabV rfl, trivial⟩, ⟨fEq.stab, fEq.stab, fEq.stab, trivial⟩, ⟨fRow.stab0, fRow.stabV, trivial⟩, ⟨fEq.stab, fEq.stab, fEq.stab, trivial⟩, ⟨fEq.stab, fEq.stab, trivial⟩, ⟨fEq.stab, fEq.stab, fEq.stab, trivial⟩, ⟨fEq.stab, fEq.stab, fEq.stab, trivial⟩, ⟨fEq.stab, fEq.stab, fEq.stab, trivial⟩, ⟨fNew.stab0, fNew.stabZ, trivial⟩, ⟨fNew.stab0, trivial⟩, trivial⟩ ?_ ?_
      · refine ⟨⟨rfl, fun g hv hJ => ?_⟩, ⟨rfl, fun g hv hJ => ?_⟩, ⟨rfl, fun g hv hJ => ?_⟩, ⟨rfl, fun g hv hJ => ?_⟩, ⟨rfl, fun g hv hJ => ?_⟩, ⟨rfl, fun g hv hJ => ?_⟩, ⟨rfl, fun g hv hJ => ?_⟩, ⟨rfl, fun g hv hJ => ?_⟩, ⟨rfl, fun g hv hJ => ?_⟩, ⟨rfl, fun g hv hJ => ?_⟩, ⟨rfl, fun g hv hJ => ?_⟩, trivial⟩
        · skip
          refine OgDo.d3 (d := 53) ?_ rfl
          show OgDo _ (Ev Mno) _ _ _ _ _
          exact og_y (y_move rfl) rfl hJ fEq.mk
        · intro v0 hk0
          obtain rfl : v0 = _ := hk0
          refine OgDo.d3 (d := 54) ?_ rfl
          show OgDo _ (Ev Mno) _ _ _ _ _
          exact og_app0 (bt := 80) (sz := 6) rfl rfl Try.underlying26 Try.info34 rfl rfl rfl rfl rfl (hr24.ev hv) (fun _ => by simp [Value.oneCell']) (by omega) (by omega) hv.size (fun _ _ => trivial)
        · skip
          refine OgDo.d3 (d := 55) ?_ rfl
          show OgDo _ (Ev Mno) _ _ _ _ _
          exact og_y (y_move rfl) rfl hJ fEq.mk
        · intro v1 hk1; intro v2 hk2; intro v1 hk1
          obtain ⟨oa1, oc1, rfl, hrow1, hown1, hz1⟩ := hk1
          obtain rfl : v2 = _ := hk2
          refine OgDo.d3 (d := 56) ?_ rfl
          show OgDo _ (EvZ _) _ _ _ _ _
          exact (og_app (bt := 80) (sz := 6) rfl rfl Try.underlying26 Try.info34 rfl rfl rfl rfl rfl hown1 hrow1 (hr22.ev hv) hz1 (fun _ => by simp [Value.oneCell']) (by omega) (by omega) hv.size (fun _ _ => trivial)).imp (fun _ _ ⟨a, c, h1, h2, _⟩ => ⟨a, c, h1, h2⟩)
        · skip
          refine OgDo.d3 (d := 57) ?_ rfl
          show OgDo _ (Ev Mno) _ _ _ _ _
          exact og_y (y_loada_blk (vs := [_, _, _, _, _, _, _, _, _, _]) rfl Try.isAgg31 Try.sizeOf31 (h8.evB hv h8.lt) rfl rfl) rfl hJ fEq.mk
        · intro v3 hk3; intro v4 hk4; intro v3 hk3
          obtain ⟨oa3, oc3, rfl, hrow3⟩ := hk3
          obtain rfl : v4 = _ := hk4
          refine OgDo.d3 (d := 58) ?_ rfl
          show OgDo _ (Ev Mno) _ _ _ _ _
          exact og_call (e_call Try.call13 rfl ((decide_c (e := e) hrow3 ⟨_, _, _, _, _, _, rfl, hll.ev hv, hff.ev hv⟩).mono_ret (fun v g' h => ⟨trivial, h⟩))) rfl
        · intro v5 hk5
          obtain rfl : v5 = _ := hk5
          refine OgDo.d3 (d := 52) ?_ rfl
          show OgDo _ (Ev Mno) _ _ _ _ _
          exact og_y (y_move rfl) rfl hJ fEq.mk
        · intro v6 hk6
          obtain rfl : v6 = _ := hk6
          refine OgDo.d3 (d := 59) ?_ rfl
          show OgDo _ (Ev Mno) _ _ _ _ _
          exact og_y (y_extract (i := 0) rfl rfl) rfl hJ fEq.mk
        · intro v6 hk6
          obtain rfl : v6 = _ := hk6
          refine OgDo.d3 (d := 60) ?_ rfl
          show OgDo _ (Ev Mno) _ _ _ _ _
          exact og_y (y_extract (i := 1) rfl rfl) rfl hJ fEq.mk
        · skip
          refine OgDo.d3 (d := 13) ?_ rfl
          show OgDo _ (Ev Mno) _ _ _ _ _
          refine og_do (o_alloc Try.zeroValue34 rfl) rfl ?_
          rintro _ _ ⟨g', b, rfl, rfl, hv', hb, hbn⟩
          exact ⟨g', rfl, hv', trivial, b, rfl, by have := hv.size; omega, hb⟩
        · intro v9 hk9; intro v7 hk7; intro v5 hk5; intro v0 hk0; intro v1 hk1; intro v2 hk2; intro v3 hk3; intro v4 hk4; intro v5 hk5; intro v6 hk6; intro v7 hk7; intro v9 hk9
          obtain rfl : v7 = _ := hk7
          obtain ⟨b13, rfl, h13_new, h13⟩ := hk9
          show OgDo3 _ (EvV _ _) _ _ _ _ _
          exact og_storeV rfl rfl rfl rfl rfl Try.sizeOf34 rfl h13 h13_new rfl rfl (by simp [Value.oneCell']) (fun _ _ => trivial)
      · intro g12 vs0 hv _ hf0
        obtain ⟨v0, vs1, rfl, hk0, hf1⟩ := hf0.cons
        clear hf0
        obtain rfl : v0 = _ := hk0
        obtain ⟨v1, vs2, rfl, hk1, hf2⟩ := hf1.cons
        clear hf1
        clear hk1
        obtain ⟨v2, vs3, rfl, hk2, hf3⟩ := hf2.cons
        clear hf2
        obtain rfl : v2 = _ := hk2
        obtain ⟨v3, vs4, rfl, hk3, hf4⟩ := hf3.cons
        clear hf3
        obtain ⟨oa3, oc3, rfl, hrow3⟩ := hk3
        obtain ⟨v4, vs5, rfl, hk4, hf5⟩ := hf4.cons
        clear hf4
        obtain rfl : v4 = _ := hk4
        obtain ⟨v5, vs6, rfl, hk5, hf6⟩ := hf5.cons
        clear hf5
        obtain rfl : v5 = _ := hk5
        obtain ⟨v6, vs7, rfl, hk6, hf7⟩ := hf6.cons
        clear hf6
        obtain rfl : v6 = _ := hk6
        obtain ⟨v7, vs8, rfl, hk7, hf8⟩ := hf7.cons
        clear hf7
        obtain rfl : v7 = _ := hk7
        obtain ⟨v8, vs9, rfl, hk8, hf9⟩ := hf8.cons
        clear hf8
        obtain rfl : v8 = _ := hk8
        obtain ⟨v9, vs10, rfl, hk9, hf10⟩ := hf9.cons
        clear hf9
        clear hk9
        obtain ⟨v10, vs11, rfl, hk10, hf11⟩ := hf10.cons
        clear hf10
        clear hk10
        obtain rfl := hf11.nil; clear hf11
        intro hst10; have hk10 := hst10 _ rfl; clear hst10
        obtain ⟨b13, rfl, h13_new, h13⟩ := hk10
        replace hl := hl.ev hv
        replace hC := hC.evB hv
        replace hr22 := hr22.ev hv
        replace hr24 := hr24.ev hv
        replace hll := hll.ev hv
        replace hff := hff.ev hv
        replace h8 := h8.evB hv h8.lt
        replace h9 := h9.evB hv h9.lt
        replace h11 := h11.evB hv h11.lt
        replace hE := hE.step hv (fun x hx => .inr (Nat.le_trans hE.size hx))
        clear hv
        have ne_h9_h13 : b9 ≠ b13 := by omega
        have ne_h13_h9 := Ne.symm ne_h9_h13
        have ne_h11_h13 : b11 ≠ b13 := by omega
        have ne_h13_h11 := Ne.symm ne_h11_h13
        replace h13_new := Nat.le_trans hE0.size h13_new
        refine l_y (y_assign rfl) rfl rfl rfl ?_
        refine l_nil ?_
        refine p_then ?_
        refine c_seq ?_
        refine c_region ?_
        refine l_y (y_move rfl) rfl rfl rfl ?_
        first | refine l_y (y_loada_blk (vs := [_, _, _, _, _, _, _, _, _, _]) rfl Try.isAgg31 Try.sizeOf31 (by assumption) rfl rfl) rfl rfl rfl ?_ | refine l_y (y_loada_el rfl Try.isAgg31 Try.sizeOf31 (by assumption) (by assumption)) rfl rfl rfl ?_
        refine l_call (e_call Try.call13 rfl (decide_c (e := e) hr24 ⟨_, _, _, _, _, _, rfl, hll, hff⟩)) rfl rfl rfl ?_
        rintro _ _ ⟨g13, rfl, hv, rfl⟩
        replace hl := hl.ev hv
        replace hC := hC.ev hv nno
        replace hr22 := hr22.ev hv
        replace hr24 := hr24.ev hv
        replace hll := hll.ev hv
        replace hff := hff.ev hv
        replace h8 := h8.ev hv nno
        replace h9 := h9.ev hv nno
        replace h11 := h11.ev hv nno
        replace h13 := h13.ev hv nno
        replace hE := hE.no hv
        clear hv
        refine l_y (y_move rfl) rfl rfl rfl ?_
        refine l_y (y_extract (i := 0) rfl rfl) rfl rfl rfl ?_
        refine l_y (y_extract (i := 1) rfl rfl) rfl rfl rfl ?_
        have hE0 := hE
        refine l_do (o_alloc Try.zeroValue34 rfl) rfl rfl rfl ?_
        rintro _ _ ⟨g14, b15, rfl, rfl, hv, h15, h15_new⟩
        have ne_h9_h15 : b9 ≠ b15 := by have := h9.lt; omega
        have ne_h15_h9 := Ne.symm ne_h9_h15
        have ne_h11_h15 : b11 ≠ b15 := by have := h11.lt; omega
        have ne_h15_h11 := Ne.symm ne_h11_h15
        have ne_h13_h15 : b13 ≠ b15 := by have := h13.lt; omega
        have ne_h15_h13 := Ne.symm ne_h13_h15
        replace hl := hl.ev hv
        replace hC := hC.ev hv nno
        replace hr22 := hr22.ev hv
        replace hr24 := hr24.ev hv
        replace hll := hll.ev hv
        replace hff := hff.ev hv
        replace h8 := h8.ev hv nno
        replace h9 := h9.ev hv nno
        replace h11 := h11.ev hv nno
        replace h13 := h13.ev hv nno
        replace hE := hE.no hv
        replace h15_new := Nat.le_trans hE0.size (Nat.le_of_eq h15_new.symm)
        clear hE0 hv
        refine l_du (o_store rfl rfl rfl Try.sizeOf34 rfl h15 (by simp) (by simp [Value.oneCell'])) rfl rfl ?_
        rintro _ ⟨g15, rfl, hv, h15'⟩
        replace hl := hl.ev hv
        replace hC := hC.ev hv (fun hh => hC.ne_blk h15 rfl hh.symm)
        replace hr22 := hr22.ev hv
        replace hr24 := hr24.ev hv
        replace hll := hll.ev hv
        replace hff := hff.ev hv
        replace h8 := h8.ev hv (fun hh => Blk.ne_ h8 h15 rfl hh)
        replace h9 := h9.ev hv (ne_h9_h15)
        replace h11 := h11.ev hv (ne_h11_h15)
        replace h13 := h13.ev hv (ne_h13_h15)
        replace hE := hE.step hv (fun x hx => .inr (by rw [hx]; exact h15_new))
        simp only [splice, List.set_cons_zero, List.set_cons_succ, Nat.reduceAdd, Nat.zero_add] at h15'
        replace h15 := h15'; clear h15' hv
        refine l_y (y_assign rfl) rfl rfl rfl ?_
        refine l_nil ?_
        refine p_then ?_
        refine c_seq ?_
        refine c_seq ?_
        refine c_region ?_
        refine l_y (y_move rfl) rfl rfl rfl ?_
        refine l_nil ?_
        refine p_then ?_
        refine c_cond rfl (fun hc2 => ?_) (fun hc2 => ?_)
        · skip
          have hB : decideF (rs24 ++ rs22) e = decideF rs24 e := decide_app_t hc2
          rw [hB] at h13 ⊢
          rw [hc2]
          refine c_seq ?_
          refine c_region ?_
          refine l_y (y_move rfl) rfl rfl rfl ?_
          refine l_y (y_move rfl) rfl rfl rfl ?_
          refine l_guard rfl rfl rfl ?_
          first | refine l_y (y_loada_blk (vs := [_, _, _, _, _, _]) rfl Try.isAgg34 Try.sizeOf34 (by assumption) rfl rfl) rfl rfl rfl ?_ | refine l_y (y_loada_el rfl Try.isAgg34 Try.sizeOf34 (by assumption) (by assumption)) rfl rfl rfl ?_
          refine l_guard rfl rfl rfl ?_
          first | refine l_y (y_loada_blk (vs := [_, _, _, _, _, _]) rfl Try.isAgg34 Try.sizeOf34 (by assumption) rfl rfl) rfl rfl rfl ?_ | refine l_y (y_loada_el rfl Try.isAgg34 Try.sizeOf34 (by assumption) (by assumption)) rfl rfl rfl ?_
          refine l_guard rfl rfl rfl ?_
          refine l_y ((y_eqs (rs := [_, _, _, _, _, _]) rfl rfl Try.underlying34 Try.stoodInHeld34 Try.eqGuardType34 ⟨rfl, Try.isAgg9, ⟨_, _, rfl, rfl, EqT.str Try.underlying9⟩, rfl, Try.isAgg9, ⟨_, _, rfl, rfl, EqT.str Try.underlying9⟩, rfl, Try.isAgg9, ⟨_, _, rfl, rfl, EqT.str Try.underlying9⟩, rfl, Try.isAgg9, ⟨_, _, rfl, rfl, EqT.str Try.underlying9⟩, rfl, Try.isAgg3, ⟨_, _, rfl, rfl, EqT.int Try.underlying3⟩, rfl, Try.isAgg4, ⟨_, _, rfl, rfl, EqT.bool Try.underlying4⟩, trivial⟩).to (.bool true) (by simp)) rfl rfl rfl ?_
          refine l_y (y_pick_t rfl rfl) rfl rfl rfl ?_
          refine l_y (y_assign rfl) rfl rfl rfl ?_
          refine l_nil ?_
          refine p_then ?_
          refine c_ret ?_
          refine p_then_ret ?_
          refine p_ret1 rfl (rv_tmp rfl) ?_
          exact ⟨_, rfl, hE, rfl⟩
        · skip
          have hB : decideF (rs24 ++ rs22) e = decideF rs22 e := decide_app_f hc2
          rw [hB] at h13 ⊢
          refine c_skip ?_
          refine p_then ?_
          refine c_seq ?_
          refine c_region ?_
          refine l_y (y_move rfl) rfl rfl rfl ?_
          refine l_y (y_move rfl) rfl rfl rfl ?_
          refine l_y ((y_beql Try.underlying4 rfl rfl).to (.bool true) (by simp [hs43])) rfl rfl rfl ?_
          refine l_y (y_move rfl) rfl rfl rfl ?_
          refine l_guard rfl rfl rfl ?_
          first | refine l_y (y_loada_blk (vs := [_, _, _, _, _, _]) rfl Try.isAgg34 Try.sizeOf34 (by assumption) rfl rfl) rfl rfl rfl ?_ | refine l_y (y_loada_el rfl Try.isAgg34 Try.sizeOf34 (by assumption) (by assumption)) rfl rfl rfl ?_
          refine l_guard rfl rfl rfl ?_
          first | refine l_y (y_loada_blk (vs := [_, _, _, _, _, _]) rfl Try.isAgg34 Try.sizeOf34 (by assumption) rfl rfl) rfl rfl rfl ?_ | refine l_y (y_loada_el rfl Try.isAgg34 Try.sizeOf34 (by assumption) (by assumption)) rfl rfl rfl ?_
          refine l_guard rfl rfl rfl ?_
          refine l_y ((y_eqs (rs := [_, _, _, _, _, _]) rfl rfl Try.underlying34 Try.stoodInHeld34 Try.eqGuardType34 ⟨rfl, Try.isAgg9, ⟨_, _, rfl, rfl, EqT.str Try.underlying9⟩, rfl, Try.isAgg9, ⟨_, _, rfl, rfl, EqT.str Try.underlying9⟩, rfl, Try.isAgg9, ⟨_, _, rfl, rfl, EqT.str Try.underlying9⟩, rfl, Try.isAgg9, ⟨_, _, rfl, rfl, EqT.str Try.underlying9⟩, rfl, Try.isAgg3, ⟨_, _, rfl, rfl, EqT.int Try.underlying3⟩, rfl, Try.isAgg4, ⟨_, _, rfl, rfl, EqT.bool Try.underlying4⟩, trivial⟩).to (.bool true) (by simp)) rfl rfl rfl ?_
          refine l_y (y_pick_t rfl rfl) rfl rfl rfl ?_
          refine l_y (y_assign rfl) rfl rfl rfl ?_
          refine l_nil ?_
          refine p_then ?_
          refine c_ret ?_
          refine p_ret1 rfl (rv_tmp rfl) ?_
          exact ⟨_, rfl, hE, rfl⟩
end Go.Proofs.Ytiamjjeflmcgoaa
