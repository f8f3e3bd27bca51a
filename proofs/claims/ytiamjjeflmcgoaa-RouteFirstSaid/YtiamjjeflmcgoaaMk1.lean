/- Walks of the functions that draw choices. -/
import Derived.Test.YtiamjjeflmcgoaaBas
set_option linter.unusedSimpArgs false
set_option linter.unusedVariables false
namespace Go.Proofs.Ytiamjjeflmcgoaa
open Go.Eng
set_option maxHeartbeats 1000000 in
theorem left_m {g : Gw} {pc : Nat} {la : Option Addr} {ln lc : Nat} {bs : List Int} {i : Nat} (hb : Blk g pc 80 [.slice la ln lc, .int .i64 (i : Int)]) (hs : FSf g la ln lc 1 (fun z : Int => [Value.int .u8 z]) bs) :
    CallsV Try.prog 66 [.pointer (some ⟨pc, 0, none⟩)].toArray g.w (Ret Mno g fun v _ => v = .bool (decide (i < ln))) := by
  refine enter Try.func66 rfl Try.ntmps66 rfl ?_
  have hE := Ev.refl Mno g
  refine c_seq ?_
  refine c_region ?_
  refine l_y (y_assign rfl) rfl rfl rfl ?_
  refine l_nil ?_
  refine p_then ?_
  refine c_seq ?_
  refine c_quiet Mno (fun _ => True) Try.mixo (by kernel_rfl) (by kernel_rfl) trivial ?_
  refine q_y (fun g hv _ => y_move rfl) rfl rfl ?_
  refine q_y (fun g hv _ => y_nilCheck rfl) rfl rfl ?_
  refine q_y (fun g hv _ => y_fieldAddr (i := 1) (fo := 1) Try.underlying80 rfl rfl Try.sizeOf3 rfl rfl) rfl rfl ?_
  first | refine q_y (fun g hv _ => y_load_blk rfl Try.isAgg3 (by exact Blk.ev (by assumption) hv nno) rfl) rfl rfl ?_ | refine q_y (fun g hv _ => y_load_el rfl Try.isAgg3 (by exact FSf.ev (by assumption) hv) (by assumption) rfl) rfl rfl ?_ | refine q_y (fun g hv _ => y_load_el0 rfl Try.isAgg3 (by exact FSf.ev (by assumption) hv) (by assumption) rfl) rfl rfl ?_
  refine q_y (fun g hv _ => y_move rfl) rfl rfl ?_
  refine q_y (fun g hv _ => y_nilCheck rfl) rfl rfl ?_
  refine q_y (fun g hv _ => y_fieldAddr (i := 0) (fo := 0) Try.underlying80 rfl rfl Try.sizeOf22 rfl rfl) rfl rfl ?_
  first | refine q_y (fun g hv _ => y_load_blk rfl Try.isAgg22 (by exact Blk.ev (by assumption) hv nno) rfl) rfl rfl ?_ | refine q_y (fun g hv _ => y_load_el rfl Try.isAgg22 (by exact FSf.ev (by assumption) hv) (by assumption) rfl) rfl rfl ?_ | refine q_y (fun g hv _ => y_load_el0 rfl Try.isAgg22 (by exact FSf.ev (by assumption) hv) (by assumption) rfl) rfl rfl ?_
  refine q_y (fun g hv _ => y_len_slice Try.underlying22 rfl) rfl rfl ?_
  refine q_y (fun g hv _ => y_lss rfl rfl) rfl rfl ?_
  refine q_y (fun g hv _ => y_assign rfl) rfl rfl ?_
  refine q_nil ?_
  intro g1 hv _
  replace hb := hb.ev hv nno
  replace hs := hs.ev hv
  replace hE := hE.no hv
  clear hv
  refine p_then ?_
  refine c_ret ?_
  refine p_ret1 rfl (rv_tmp rfl) ?_
  exact ⟨_, rfl, hE, by simp⟩

set_option maxHeartbeats 1000000 in
theorem next_m {g : Gw} {pc : Nat} (n : Int) (hC : Cods 80 g pc) :
    CallsV Try.prog 39 [.pointer (some ⟨pc, 0, none⟩), .int .i64 n].toArray g.w (Ret (· = pc) g fun v g' => Cods 80 g' pc ∧ ∃ r : Int, v = .int .i64 r ∧ 0 ≤ r ∧ (1 ≤ n → r < n) ∧ (n < 1 → r = 0)) := by
  refine enter Try.func39 rfl Try.ntmps39 rfl ?_
  obtain ⟨la, ln, lc, bs, i, hb, hs, hi, hbs⟩ := hC
  have hlc := hs.sl.nc; have hlm := hs.sl.cm
  have hE := Ev.refl (· = pc) g
  refine c_seq ?_
  refine c_region ?_
  refine l_y (y_assign rfl) rfl rfl rfl ?_
  refine l_nil ?_
  refine p_then ?_
  refine c_seq ?_
  refine c_seq ?_
  refine c_region ?_
  refine l_y (y_move rfl) rfl rfl rfl ?_
  refine l_call (e_call Try.call66 rfl (left_m hb hs)) rfl rfl rfl ?_
  rintro _ _ ⟨g1, rfl, hv, rfl⟩
  replace hb := hb.ev hv nno
  replace hs := hs.ev hv
  replace hE := hE.no hv
  clear hv
  refine l_y (y_not rfl) rfl rfl rfl ?_
  refine l_y (y_move rfl) rfl rfl rfl ?_
  refine l_split (t := 8) rfl (fun hs8 => ?_) (fun hs8 => ?_)
  · try simp only [decide_eq_true_eq, decide_eq_false_iff_not, Bool.not_eq_true', Bool.not_eq_false', Bool.not_true, Bool.not_false, beq_iff_eq, bne_iff_ne, ne_eq, beq_eq_false_iff_ne, bne_eq_false_iff_eq, Decidable.not_not, Int.not_lt, Int.not_le] at hs8
    refine l_skip rfl rfl rfl rfl rfl rfl ?_
    refine l_skip rfl rfl rfl rfl rfl rfl ?_
    refine l_y (y_pick_t rfl rfl) rfl rfl rfl ?_
    refine l_nil ?_
    refine p_then ?_
    refine c_cond_t rfl ?_
    refine c_seq ?_
    refine c_region ?_
    refine l_y (y_assign rfl) rfl rfl rfl ?_
    refine l_nil ?_
    refine p_then ?_
    refine c_ret ?_
    refine p_then_ret ?_
    refine p_ret1 rfl (rv_tmp rfl) ?_
    exact ⟨_, rfl, hE, ⟨_, _, _, _, _, hb, hs, hi, hbs⟩, 0, rfl, by omega, by omega, by omega⟩
  · try simp only [decide_eq_true_eq, decide_eq_false_iff_not, Bool.not_eq_true', Bool.not_eq_false', Bool.not_true, Bool.not_false, beq_iff_eq, bne_iff_ne, ne_eq, beq_eq_false_iff_ne, bne_eq_false_iff_eq, Decidable.not_not, Int.not_lt, Int.not_le] at hs8
    refine l_guard rfl rfl rfl ?_
    refine l_y (y_move rfl) rfl rfl rfl ?_
    refine l_guard rfl rfl rfl ?_
    refine l_y (y_lss rfl rfl) rfl rfl rfl ?_
    refine l_y (y_pick_f rfl rfl) rfl rfl rfl ?_
    refine l_nil ?_
    refine p_then ?_
    refine c_cond rfl (fun hc0 => ?_) (fun hc0 => ?_)
    · try simp only [decide_eq_true_eq, decide_eq_false_iff_not, Bool.not_eq_true', Bool.not_eq_false', Bool.not_true, Bool.not_false, beq_iff_eq, bne_iff_ne, ne_eq, beq_eq_false_iff_ne, bne_eq_false_iff_eq, Decidable.not_not, Int.not_lt, Int.not_le] at hc0
      refine c_seq ?_
      refine c_region ?_
      refine l_y (y_assign rfl) rfl rfl rfl ?_
      refine l_nil ?_
      refine p_then ?_
      refine c_ret ?_
      refine p_then_ret ?_
      refine p_ret1 rfl (rv_tmp rfl) ?_
      exact ⟨_, rfl, hE, ⟨_, _, _, _, _, hb, hs, hi, hbs⟩, 0, rfl, by omega, by omega, by omega⟩
    · try simp only [decide_eq_true_eq, decide_eq_false_iff_not, Bool.not_eq_true', Bool.not_eq_false', Bool.not_true, Bool.not_false, beq_iff_eq, bne_iff_ne, ne_eq, beq_eq_false_iff_ne, bne_eq_false_iff_eq, Decidable.not_not, Int.not_lt, Int.not_le] at hc0
      refine c_skip ?_
      refine p_then ?_
      refine c_seq ?_
      refine c_region ?_
      refine l_y (y_move rfl) rfl rfl rfl ?_
      refine l_y (y_nilCheck rfl) rfl rfl rfl ?_
      refine l_y (y_fieldAddr (i := 1) (fo := 1) Try.underlying80 rfl rfl Try.sizeOf3 rfl rfl) rfl rfl rfl ?_
      first | refine l_y (y_load_blk rfl Try.isAgg3 (by assumption) rfl) rfl rfl rfl ?_ | refine l_y (y_load_el rfl Try.isAgg3 (by assumption) (by assumption) rfl) rfl rfl rfl ?_ | refine l_y (y_load_el0 rfl Try.isAgg3 (by assumption) (by assumption) rfl) rfl rfl rfl ?_
      first | refine l_y (y_add_in rfl rfl (by omega) (by omega)) rfl rfl rfl ?_ | refine l_y (y_add rfl rfl) rfl rfl rfl ?_
      refine l_y (y_nilCheck rfl) rfl rfl rfl ?_
      refine l_y (y_fieldAddr (i := 1) (fo := 1) Try.underlying80 rfl rfl Try.sizeOf3 rfl rfl) rfl rfl rfl ?_
      refine l_du (o_store rfl rfl rfl Try.sizeOf3 rfl hb (by simp) (by simp [Value.oneCell'])) rfl rfl ?_
      rintro _ ⟨g2, rfl, hv, hb'⟩
      replace hs := hs.ev hv
      replace hE := hE.trans hv
      simp only [splice, List.set_cons_zero, List.set_cons_succ, Nat.reduceAdd, Nat.zero_add] at hb'
      replace hb := hb'; clear hb' hv
      refine l_nil ?_
      refine p_then ?_
      refine c_seq ?_
      obtain ⟨lb, lo, rfl⟩ := hs.at_ (by omega)
      obtain ⟨z, hz⟩ := hs.get (i := i) (by omega)
      have hzb := hbs z (List.mem_of_getElem? hz)
      refine c_quiet Mno (fun _ => True) Try.mixo (by kernel_rfl) (by kernel_rfl) trivial ?_
      refine q_y (fun g hv _ => y_move rfl) rfl rfl ?_
      refine q_y (fun g hv _ => y_nilCheck rfl) rfl rfl ?_
      refine q_y (fun g hv _ => y_fieldAddr (i := 0) (fo := 0) Try.underlying80 rfl rfl Try.sizeOf22 rfl rfl) rfl rfl ?_
      first | refine q_y (fun g hv _ => y_load_blk rfl Try.isAgg22 (by exact Blk.ev (by assumption) hv nno) rfl) rfl rfl ?_ | refine q_y (fun g hv _ => y_load_el rfl Try.isAgg22 (by exact FSf.ev (by assumption) hv) (by assumption) rfl) rfl rfl ?_ | refine q_y (fun g hv _ => y_load_el0 rfl Try.isAgg22 (by exact FSf.ev (by assumption) hv) (by assumption) rfl) rfl rfl ?_
      refine q_y (fun g hv _ => y_move rfl) rfl rfl ?_
      refine q_y (fun g hv _ => y_nilCheck rfl) rfl rfl ?_
      refine q_y (fun g hv _ => y_fieldAddr (i := 1) (fo := 1) Try.underlying80 rfl rfl Try.sizeOf3 rfl rfl) rfl rfl ?_
      first | refine q_y (fun g hv _ => y_load_blk rfl Try.isAgg3 (by exact Blk.ev (by assumption) hv nno) rfl) rfl rfl ?_ | refine q_y (fun g hv _ => y_load_el rfl Try.isAgg3 (by exact FSf.ev (by assumption) hv) (by assumption) rfl) rfl rfl ?_ | refine q_y (fun g hv _ => y_load_el0 rfl Try.isAgg3 (by exact FSf.ev (by assumption) hv) (by assumption) rfl) rfl rfl ?_
      refine q_y (fun g hv _ => y_sub_to rfl rfl ((i : Int)) (by omega) (by omega) (by omega)) rfl rfl ?_
      first | refine q_y (fun g hv _ => y_indexAddr Try.underlying22 Try.sizeOf5 rfl rfl (by omega)) rfl rfl ?_ | refine q_y (fun g hv _ => y_indexAddr_int Try.underlying22 Try.sizeOf5 rfl rfl (by omega) (by omega)) rfl rfl ?_
      first | refine q_y (fun g hv _ => y_load_blk rfl Try.isAgg5 (by exact Blk.ev (by assumption) hv nno) rfl) rfl rfl ?_ | refine q_y (fun g hv _ => y_load_el rfl Try.isAgg5 (by exact FSf.ev (by assumption) hv) (by assumption) rfl) rfl rfl ?_ | refine q_y (fun g hv _ => y_load_el0 rfl Try.isAgg5 (by exact FSf.ev (by assumption) hv) (by assumption) rfl) rfl rfl ?_
      refine q_y (fun g hv _ => (y_conv_int Try.underlying5 Try.underlying3 rfl).to (.int .i64 z) (by rw [wrap_in (by omega) (by omega)])) rfl rfl ?_
      refine q_y (fun g hv _ => y_move rfl) rfl rfl ?_
      refine q_y (fun g hv _ => y_rem rfl rfl (by omega)) rfl rfl ?_
      refine q_y (fun g hv _ => y_assign rfl) rfl rfl ?_
      refine q_nil ?_
      intro g3 hv _
      replace hb := hb.ev hv nno
      replace hs := hs.ev hv
      replace hE := hE.no hv
      clear hv
      refine p_then ?_
      refine c_ret ?_
      refine p_ret1 rfl (rv_tmp rfl) ?_
      have hm0 := Int.emod_nonneg z (show n ≠ 0 by omega)
      have hm1 := Int.emod_lt_of_pos z (show 0 < n by omega)
      have hmt : z.tmod n = z % n := Int.tmod_eq_emod_of_nonneg (by omega)
      exact ⟨_, rfl, hE, ⟨_, _, _, _, i + 1, hb, hs, by omega, hbs⟩, _, rfl, by omega, by omega, by omega⟩

set_option maxHeartbeats 1000000 in
theorem pick_m {g : Gw} {pc : Nat} {a : Option Addr} {n cap : Nat} {ss : List ByteArray} (hC : Cods 80 g pc) (hl : FSf g a n cap 1 strC ss) (hn : 1 ≤ n) :
    CallsV Try.prog 40 [.pointer (some ⟨pc, 0, none⟩), .slice a n cap].toArray g.w (Ret (· = pc) g fun v g' => Cods 80 g' pc ∧ ∃ s ∈ ss, v = .string s) := by
  refine enter Try.func40 rfl Try.ntmps40 rfl ?_
  have hE := Ev.refl (· = pc) g
  refine c_seq ?_
  refine c_region ?_
  refine l_y (y_assign rfl) rfl rfl rfl ?_
  refine l_nil ?_
  refine p_then ?_
  refine c_seq ?_
  refine c_region ?_
  refine l_y (y_move rfl) rfl rfl rfl ?_
  refine l_y (y_move rfl) rfl rfl rfl ?_
  refine l_y (y_move rfl) rfl rfl rfl ?_
  refine l_y (y_len_slice Try.underlying98 rfl) rfl rfl rfl ?_
  refine l_call (e_call Try.call39 rfl (next_m _ hC)) rfl rfl rfl ?_
  rintro _ _ ⟨g1, rfl, hv, ⟨hC, r, rfl, hr0, hr1, _⟩⟩
  replace hl := hl.ev hv
  replace hE := hE.trans hv
  clear hv
  replace hr1 := hr1 (by omega)
  obtain ⟨lb, lo, rfl⟩ := hl.at_ (by omega)
  obtain ⟨r, rfl⟩ := Int.eq_ofNat_of_zero_le hr0
  obtain ⟨q, hq⟩ := hl.get (i := r) (by omega)
  first | refine l_y (y_indexAddr Try.underlying98 Try.sizeOf9 rfl rfl (by omega)) rfl rfl rfl ?_ | refine l_y (y_indexAddr_int Try.underlying98 Try.sizeOf9 rfl rfl (by omega) (by omega)) rfl rfl rfl ?_
  first | refine l_y (y_load_blk rfl Try.isAgg9 (by assumption) rfl) rfl rfl rfl ?_ | refine l_y (y_load_el rfl Try.isAgg9 (by assumption) (by assumption) rfl) rfl rfl rfl ?_ | refine l_y (y_load_el0 rfl Try.isAgg9 (by assumption) (by assumption) rfl) rfl rfl rfl ?_
  refine l_y (y_assign rfl) rfl rfl rfl ?_
  refine l_nil ?_
  refine p_then ?_
  refine c_ret ?_
  refine p_ret1 rfl (rv_tmp rfl) ?_
  exact ⟨_, rfl, hE, hC, q, List.mem_of_getElem? hq, rfl⟩

set_option maxHeartbeats 1000000 in
theorem text_m {g : Gw} {pc : Nat} (most : Int) (hm0 : 0 ≤ most) (hm1 : most ≤ 100) (hC : Cods 80 g pc) :
    CallsV Try.prog 83 [.pointer (some ⟨pc, 0, none⟩), .int .i64 most].toArray g.w (Ret (· = pc) g fun v g' => Cods 80 g' pc ∧ ∃ s : ByteArray, v = .string s ∧ s.size ≤ 4 * most) := by
  refine enter Try.func83 rfl Try.ntmps83 rfl ?_
  have hE := Ev.refl (· = pc) g
  refine c_seq ?_
  refine c_region ?_
  refine l_y (y_assign rfl) rfl rfl rfl ?_
  refine l_nil ?_
  refine p_then ?_
  refine c_seq ?_
  refine c_region ?_
  refine l_y (y_assign rfl) rfl rfl rfl ?_
  refine l_nil ?_
  refine p_then ?_
  refine c_seq ?_
  refine c_seq ?_
  refine c_region ?_
  refine l_y (y_move rfl) rfl rfl rfl ?_
  refine l_y (y_move rfl) rfl rfl rfl ?_
  first | refine l_y (y_add_in rfl rfl (by omega) (by omega)) rfl rfl rfl ?_ | refine l_y (y_add rfl rfl) rfl rfl rfl ?_
  refine l_call (e_call Try.call39 rfl (next_m _ hC)) rfl rfl rfl ?_
  rintro _ _ ⟨g1, rfl, hv, ⟨hC, r, rfl, hr0, hr1, _⟩⟩
  replace hE := hE.trans hv
  clear hv
  replace hr1 := hr1 (by omega)
  refine l_y (y_assign rfl) rfl rfl rfl ?_
  refine l_nil ?_
  refine p_then ?_
  refine c_block ?_
  refine c_loop (γ := Int × ByteArray) (fun x w => ∃ gg : Gw, gg.w = w ∧ Ev (· = pc) g gg ∧ Cods 80 gg pc ∧ 0 ≤ x.1 ∧ x.1 ≤ most ∧ x.2.size + 4 * x.1 ≤ 4 * most) (fun x => [(5, .string x.2), (6, .int .i64 x.1)] ++ _) (fun x => x.1.toNat) (r, ⟨#[]⟩) ⟨g1, rfl, hE, hC, by omega, by omega, by dsimp only; have : ByteArray.size ⟨#[]⟩ = 0 := rfl; omega⟩ (Sub.backN 0 rfl (Sub.cons rfl (Sub.cons rfl (Sub.nil))) rfl) ?_
  rintro ⟨n, s⟩ _ ⟨g2, rfl, hE, hC, hn0, hn1, hns⟩
  try dsimp only
  try dsimp only at hn0
  try dsimp only at hn1
  try dsimp only at hns
  refine c_seq ?_
  refine c_seq ?_
  refine c_region ?_
  refine l_y (y_move rfl) rfl rfl rfl ?_
  refine l_y (y_gtr rfl rfl) rfl rfl rfl ?_
  refine l_nil ?_
  refine p_then ?_
  refine c_cond rfl (fun hc0 => ?_) (fun hc0 => ?_)
  · try simp only [decide_eq_true_eq, decide_eq_false_iff_not, Bool.not_eq_true', Bool.not_eq_false', Bool.not_true, Bool.not_false, beq_iff_eq, bne_iff_ne, ne_eq, beq_eq_false_iff_ne, bne_eq_false_iff_eq, Decidable.not_not, Int.not_lt, Int.not_le] at hc0
    refine c_skip ?_
    refine p_then ?_
    refine c_seq ?_
    refine c_block ?_
    refine c_region ?_
    refine l_y (y_move rfl) rfl rfl rfl ?_
    refine l_y (y_move rfl) rfl rfl rfl ?_
    have hE0 := hE
    refine l_do (o_lit rfl Try.underlying98 Try.sizeOf9 Try.zeroValue9 rfl rfl rfl rfl rfl) rfl rfl rfl ?_
    rintro _ _ ⟨g3, b17, rfl, rfl, hv, h17, h17_own, h17_new⟩
    replace hC := hC.ev hv nno
    replace hE := hE.no hv
    replace h17_new := Nat.le_trans hE0.size (Nat.le_of_eq h17_new.symm)
    clear hE0 hv h17_own
    replace h17 := FSf.of h17 strC [⟨#[97]⟩, ⟨#[98]⟩, ⟨#[32]⟩, ⟨#[49]⟩, ⟨#[117, 115, 101, 114]⟩, ⟨#[61]⟩, ⟨#[34]⟩, ⟨#[55]⟩, ⟨#[46]⟩, ⟨#[44]⟩, ⟨#[120, 32, 121]⟩, ⟨#[49, 48, 46, 50]⟩, ⟨#[45]⟩, ⟨#[195, 169]⟩, ⟨#[91]⟩, ⟨#[105, 100]⟩, ⟨#[9]⟩, ⟨#[58]⟩] (fun _ => rfl) rfl rfl
    refine l_call (e_call Try.call40 rfl (pick_m hC h17 (by omega))) rfl rfl rfl ?_
    rintro _ _ ⟨g4, rfl, hv, ⟨hC, q, hq, rfl⟩⟩
    replace h17 := h17.ev hv
    replace hE := hE.trans hv
    clear hv
    have hqs : q.size ≤ 4 := by revert hq; simp only [List.mem_cons, List.not_mem_nil, or_false]; intro hq; rcases hq with rfl | rfl | rfl | rfl | rfl | rfl | rfl | rfl | rfl | rfl | rfl | rfl | rfl | rfl | rfl | rfl | rfl | rfl <;> decide
    refine l_y (y_sadd rfl rfl (by omega)) rfl rfl rfl ?_
    refine l_y (y_assign rfl) rfl rfl rfl ?_
    refine l_nil ?_
    refine p_blk ?_
    refine p_then ?_
    refine c_region ?_
    refine l_y (y_move rfl) rfl rfl rfl ?_
    first | refine l_y (y_sub_in rfl rfl (by omega) (by omega)) rfl rfl rfl ?_ | refine l_y (y_sub rfl rfl) rfl rfl rfl ?_
    refine l_y (y_assign rfl) rfl rfl rfl ?_
    refine l_nil ?_
    exact p_back (n - 1, s ++ q) ⟨g4, rfl, hE, hC, by dsimp only; omega, by dsimp only; omega, by dsimp only; rw [ByteArray.size_append]; omega⟩ (Sub.backN 13 rfl (Sub.cons rfl (Sub.cons rfl (Sub.nil))) rfl) (by (try dsimp only); omega)
  · try simp only [decide_eq_true_eq, decide_eq_false_iff_not, Bool.not_eq_true', Bool.not_eq_false', Bool.not_true, Bool.not_false, beq_iff_eq, bne_iff_ne, ne_eq, beq_eq_false_iff_ne, bne_eq_false_iff_eq, Decidable.not_not, Int.not_lt, Int.not_le] at hc0
    refine c_exit ?_
    refine p_then_exit ?_
    refine p_then_exit ?_
    refine p_blk_exit ?_
    refine p_then ?_
    refine c_seq ?_
    refine c_region ?_
    refine l_y (y_move rfl) rfl rfl rfl ?_
    refine l_y (y_assign rfl) rfl rfl rfl ?_
    refine l_nil ?_
    refine p_then ?_
    refine c_ret ?_
    refine p_ret1 rfl (rv_tmp rfl) ?_
    exact ⟨_, rfl, hE, hC, s, rfl, by omega⟩

set_option maxHeartbeats 1000000 in
theorem line_m {g : Gw} {pc : Nat} (hC : Cods 80 g pc) :
    CallsV Try.prog 67 [.pointer (some ⟨pc, 0, none⟩)].toArray g.w (Ret (· = pc) g fun v g' => Cods 80 g' pc ∧ ∃ s : ByteArray, v = .string s ∧ s.size ≤ 100) := by
  refine enter Try.func67 rfl Try.ntmps67 rfl ?_
  have hE := Ev.refl (· = pc) g
  have hpc := hC.lt
  refine c_seq ?_
  refine c_region ?_
  refine l_y (y_assign rfl) rfl rfl rfl ?_
  refine l_nil ?_
  refine p_then ?_
  refine c_seq ?_
  refine c_seq ?_
  refine c_region ?_
  refine l_y (y_move rfl) rfl rfl rfl ?_
  refine l_call (e_call Try.call39 rfl (next_m _ hC)) rfl rfl rfl ?_
  rintro _ _ ⟨g1, rfl, hv, ⟨hC, r4, rfl, hr4, hq4, _⟩⟩
  replace hE := hE.trans hv
  clear hv
  replace hq4 := hq4 (by omega)
  refine l_nil ?_
  refine p_then ?_
  refine c_block ?_
  refine c_seq ?_
  refine c_region ?_
  refine l_y (y_eql rfl rfl) rfl rfl rfl ?_
  refine l_y (y_assign rfl) rfl rfl rfl ?_
  refine l_nil ?_
  refine p_then ?_
  refine c_cond rfl (fun hc0 => ?_) (fun hc0 => ?_)
  · try simp only [decide_eq_true_eq, decide_eq_false_iff_not, Bool.not_eq_true', Bool.not_eq_false', Bool.not_true, Bool.not_false, beq_iff_eq, bne_iff_ne, ne_eq, beq_eq_false_iff_ne, bne_eq_false_iff_eq, Decidable.not_not, Int.not_lt, Int.not_le] at hc0
    refine c_seq ?_
    refine c_region ?_
    refine l_y (y_move rfl) rfl rfl rfl ?_
    have hE0 := hE
    refine l_do (o_lit rfl Try.underlying98 Try.sizeOf9 Try.zeroValue9 rfl rfl rfl rfl rfl) rfl rfl rfl ?_
    rintro _ _ ⟨g2, b8, rfl, rfl, hv, h8, h8_own, h8_new⟩
    replace hC := hC.ev hv nno
    replace hE := hE.no hv
    replace h8_new := Nat.le_trans hE0.size (Nat.le_of_eq h8_new.symm)
    clear hE0 hv h8_own
    replace h8 := FSf.of h8 strC [⟨#[49]⟩, ⟨#[50]⟩, ⟨#[57]⟩] (fun _ => rfl) rfl rfl
    refine l_call (e_call Try.call40 rfl (pick_m hC h8 (by omega))) rfl rfl rfl ?_
    rintro _ _ ⟨g3, rfl, hv, ⟨hC, s9, hm9, rfl⟩⟩
    replace h8 := h8.ev hv
    replace hE := hE.trans hv
    clear hv
    have hs9 := sizes_le 1 hm9 rfl
    clear h8
    refine l_do (o_sadd rfl rfl 6 1 (by decide) hs9 rfl) rfl rfl rfl ?_
    rintro _ _ ⟨s10, rfl, hs10, rfl⟩
    refine l_do (o_sadd rfl rfl 7 2 hs10 (by decide) rfl) rfl rfl rfl ?_
    rintro _ _ ⟨s11, rfl, hs11, rfl⟩
    refine l_y (y_move rfl) rfl rfl rfl ?_
    have hE0 := hE
    refine l_do (o_lit rfl Try.underlying98 Try.sizeOf9 Try.zeroValue9 rfl rfl rfl rfl rfl) rfl rfl rfl ?_
    rintro _ _ ⟨g4, b13, rfl, rfl, hv, h13, h13_own, h13_new⟩
    replace hC := hC.ev hv nno
    replace hE := hE.no hv
    replace h13_new := Nat.le_trans hE0.size (Nat.le_of_eq h13_new.symm)
    clear hE0 hv h13_own
    replace h13 := FSf.of h13 strC [⟨#[48]⟩, ⟨#[53]⟩] (fun _ => rfl) rfl rfl
    refine l_call (e_call Try.call40 rfl (pick_m hC h13 (by omega))) rfl rfl rfl ?_
    rintro _ _ ⟨g5, rfl, hv, ⟨hC, s14, hm14, rfl⟩⟩
    replace h13 := h13.ev hv
    replace hE := hE.trans hv
    clear hv
    have hs14 := sizes_le 1 hm14 rfl
    clear h13
    refine l_do (o_sadd rfl rfl 9 1 hs11 hs14 rfl) rfl rfl rfl ?_
    rintro _ _ ⟨s15, rfl, hs15, rfl⟩
    refine l_do (o_sadd rfl rfl 10 8 hs15 (by decide) rfl) rfl rfl rfl ?_
    rintro _ _ ⟨s16, rfl, hs16, rfl⟩
    refine l_y (y_move rfl) rfl rfl rfl ?_
    have hE0 := hE
    refine l_do (o_lit rfl Try.underlying98 Try.sizeOf9 Try.zeroValue9 rfl rfl rfl rfl rfl) rfl rfl rfl ?_
    rintro _ _ ⟨g6, b18, rfl, rfl, hv, h18, h18_own, h18_new⟩
    replace hC := hC.ev hv nno
    replace hE := hE.no hv
    replace h18_new := Nat.le_trans hE0.size (Nat.le_of_eq h18_new.symm)
    clear hE0 hv h18_own
    replace h18 := FSf.of h18 strC [⟨#[49]⟩, ⟨#[50]⟩] (fun _ => rfl) rfl rfl
    refine l_call (e_call Try.call40 rfl (pick_m hC h18 (by omega))) rfl rfl rfl ?_
    rintro _ _ ⟨g7, rfl, hv, ⟨hC, s19, hm19, rfl⟩⟩
    replace h18 := h18.ev hv
    replace hE := hE.trans hv
    clear hv
    have hs19 := sizes_le 1 hm19 rfl
    clear h18
    refine l_do (o_sadd rfl rfl 18 1 hs16 hs19 rfl) rfl rfl rfl ?_
    rintro _ _ ⟨s20, rfl, hs20, rfl⟩
    refine l_do (o_sadd rfl rfl 19 8 hs20 (by decide) rfl) rfl rfl rfl ?_
    rintro _ _ ⟨s21, rfl, hs21, rfl⟩
    refine l_y (y_move rfl) rfl rfl rfl ?_
    have hE0 := hE
    refine l_do (o_lit rfl Try.underlying98 Try.sizeOf9 Try.zeroValue9 rfl rfl rfl rfl rfl) rfl rfl rfl ?_
    rintro _ _ ⟨g8, b23, rfl, rfl, hv, h23, h23_own, h23_new⟩
    replace hC := hC.ev hv nno
    replace hE := hE.no hv
    replace h23_new := Nat.le_trans hE0.size (Nat.le_of_eq h23_new.symm)
    clear hE0 hv h23_own
    replace h23 := FSf.of h23 strC [⟨#[105, 110, 102, 111]⟩, ⟨#[119, 97, 114, 110]⟩] (fun _ => rfl) rfl rfl
    refine l_call (e_call Try.call40 rfl (pick_m hC h23 (by omega))) rfl rfl rfl ?_
    rintro _ _ ⟨g9, rfl, hv, ⟨hC, s24, hm24, rfl⟩⟩
    replace h23 := h23.ev hv
    replace hE := hE.trans hv
    clear hv
    have hs24 := sizes_le 4 hm24 rfl
    clear h23
    refine l_do (o_sadd rfl rfl 27 4 hs21 hs24 rfl) rfl rfl rfl ?_
    rintro _ _ ⟨s25, rfl, hs25, rfl⟩
    refine l_do (o_sadd rfl rfl 31 4 hs25 (by decide) rfl) rfl rfl rfl ?_
    rintro _ _ ⟨s26, rfl, hs26, rfl⟩
    refine l_y (y_move rfl) rfl rfl rfl ?_
    have hE0 := hE
    refine l_do (o_lit rfl Try.underlying98 Try.sizeOf9 Try.zeroValue9 rfl rfl rfl rfl rfl) rfl rfl rfl ?_
    rintro _ _ ⟨g10, b28, rfl, rfl, hv, h28, h28_own, h28_new⟩
    replace hC := hC.ev hv nno
    replace hE := hE.no hv
    replace h28_new := Nat.le_trans hE0.size (Nat.le_of_eq h28_new.symm)
    clear hE0 hv h28_own
    replace h28 := FSf.of h28 strC [⟨#[55]⟩, ⟨#[116, 49]⟩, ⟨#[116, 50]⟩] (fun _ => rfl) rfl rfl
    refine l_call (e_call Try.call40 rfl (pick_m hC h28 (by omega))) rfl rfl rfl ?_
    rintro _ _ ⟨g11, rfl, hv, ⟨hC, s29, hm29, rfl⟩⟩
    replace h28 := h28.ev hv
    replace hE := hE.trans hv
    clear hv
    have hs29 := sizes_le 2 hm29 rfl
    clear h28
    refine l_do (o_sadd rfl rfl 35 2 hs26 hs29 rfl) rfl rfl rfl ?_
    rintro _ _ ⟨s30, rfl, hs30, rfl⟩
    refine l_y (y_assign rfl) rfl rfl rfl ?_
    refine l_nil ?_
    refine p_then ?_
    refine c_ret ?_
    refine p_blk_ret ?_
    refine p_then_ret ?_
    refine p_ret1 rfl (rv_tmp rfl) ?_
    exact ⟨_, rfl, hE, hC, _, rfl, Nat.le_trans hs30 (by decide)⟩
  · try simp only [decide_eq_true_eq, decide_eq_false_iff_not, Bool.not_eq_true', Bool.not_eq_false', Bool.not_true, Bool.not_false, beq_iff_eq, bne_iff_ne, ne_eq, beq_eq_false_iff_ne, bne_eq_false_iff_eq, Decidable.not_not, Int.not_lt, Int.not_le] at hc0
    refine c_seq ?_
    refine c_region ?_
    refine l_y (y_eql rfl rfl) rfl rfl rfl ?_
    refine l_y (y_assign rfl) rfl rfl rfl ?_
    refine l_nil ?_
    refine p_then ?_
    refine c_cond rfl (fun hc1 => ?_) (fun hc1 => ?_)
    · try simp only [decide_eq_true_eq, decide_eq_false_iff_not, Bool.not_eq_true', Bool.not_eq_false', Bool.not_true, Bool.not_false, beq_iff_eq, bne_iff_ne, ne_eq, beq_eq_false_iff_ne, bne_eq_false_iff_eq, Decidable.not_not, Int.not_lt, Int.not_le] at hc1
      refine c_seq ?_
      refine c_region ?_
      refine l_y (y_move rfl) rfl rfl rfl ?_
      have hE0 := hE
      refine l_do (o_lit rfl Try.underlying98 Try.sizeOf9 Try.zeroValue9 rfl rfl rfl rfl rfl) rfl rfl rfl ?_
      rintro _ _ ⟨g2, b34, rfl, rfl, hv, h34, h34_own, h34_new⟩
      replace hC := hC.ev hv nno
      replace hE := hE.no hv
      replace h34_new := Nat.le_trans hE0.size (Nat.le_of_eq h34_new.symm)
      clear hE0 hv h34_own
      replace h34 := FSf.of h34 strC [⟨#[105, 110, 102, 111]⟩, ⟨#[119, 97, 114, 110]⟩, ⟨#[100, 101, 98, 117, 103]⟩] (fun _ => rfl) rfl rfl
      refine l_call (e_call Try.call40 rfl (pick_m hC h34 (by omega))) rfl rfl rfl ?_
      rintro _ _ ⟨g3, rfl, hv, ⟨hC, s35, hm35, rfl⟩⟩
      replace h34 := h34.ev hv
      replace hE := hE.trans hv
      clear hv
      have hs35 := sizes_le 5 hm35 rfl
      clear h34
      refine l_do (o_sadd rfl rfl 6 5 (by decide) hs35 rfl) rfl rfl rfl ?_
      rintro _ _ ⟨s36, rfl, hs36, rfl⟩
      refine l_do (o_sadd rfl rfl 11 6 hs36 (by decide) rfl) rfl rfl rfl ?_
      rintro _ _ ⟨s37, rfl, hs37, rfl⟩
      refine l_y (y_move rfl) rfl rfl rfl ?_
      have hE0 := hE
      refine l_do (o_lit rfl Try.underlying98 Try.sizeOf9 Try.zeroValue9 rfl rfl rfl rfl rfl) rfl rfl rfl ?_
      rintro _ _ ⟨g4, b39, rfl, rfl, hv, h39, h39_own, h39_new⟩
      replace hC := hC.ev hv nno
      replace hE := hE.no hv
      replace h39_new := Nat.le_trans hE0.size (Nat.le_of_eq h39_new.symm)
      clear hE0 hv h39_own
      replace h39 := FSf.of h39 strC [⟨#[97, 110, 110]⟩, ⟨#[98, 111, 98]⟩] (fun _ => rfl) rfl rfl
      refine l_call (e_call Try.call40 rfl (pick_m hC h39 (by omega))) rfl rfl rfl ?_
      rintro _ _ ⟨g5, rfl, hv, ⟨hC, s40, hm40, rfl⟩⟩
      replace h39 := h39.ev hv
      replace hE := hE.trans hv
      clear hv
      have hs40 := sizes_le 3 hm40 rfl
      clear h39
      refine l_do (o_sadd rfl rfl 17 3 hs37 hs40 rfl) rfl rfl rfl ?_
      rintro _ _ ⟨s41, rfl, hs41, rfl⟩
      refine l_do (o_sadd rfl rfl 20 4 hs41 (by decide) rfl) rfl rfl rfl ?_
      rintro _ _ ⟨s42, rfl, hs42, rfl⟩
      refine l_y (y_move rfl) rfl rfl rfl ?_
      have hE0 := hE
      refine l_do (o_lit rfl Try.underlying98 Try.sizeOf9 Try.zeroValue9 rfl rfl rfl rfl rfl) rfl rfl rfl ?_
      rintro _ _ ⟨g6, b44, rfl, rfl, hv, h44, h44_own, h44_new⟩
      replace hC := hC.ev hv nno
      replace hE := hE.no hv
      replace h44_new := Nat.le_trans hE0.size (Nat.le_of_eq h44_new.symm)
      clear hE0 hv h44_own
      replace h44 := FSf.of h44 strC [⟨#[49, 48, 46, 50]⟩, ⟨#[49, 48, 46, 51]⟩, ⟨#[55, 46, 55]⟩] (fun _ => rfl) rfl rfl
      refine l_call (e_call Try.call40 rfl (pick_m hC h44 (by omega))) rfl rfl rfl ?_
      rintro _ _ ⟨g7, rfl, hv, ⟨hC, s45, hm45, rfl⟩⟩
      replace h44 := h44.ev hv
      replace hE := hE.trans hv
      clear hv
      have hs45 := sizes_le 4 hm45 rfl
      clear h44
      refine l_do (o_sadd rfl rfl 24 4 hs42 hs45 rfl) rfl rfl rfl ?_
      rintro _ _ ⟨s46, rfl, hs46, rfl⟩
      refine l_y (y_assign rfl) rfl rfl rfl ?_
      refine l_nil ?_
      refine p_then ?_
      refine c_ret ?_
      refine p_blk_ret ?_
      refine p_then_ret ?_
      refine p_ret1 rfl (rv_tmp rfl) ?_
      exact ⟨_, rfl, hE, hC, _, rfl, Nat.le_trans hs46 (by decide)⟩
    · try simp only [decide_eq_true_eq, decide_eq_false_iff_not, Bool.not_eq_true', Bool.not_eq_false', Bool.not_true, Bool.not_false, beq_iff_eq, bne_iff_ne, ne_eq, beq_eq_false_iff_ne, bne_eq_false_iff_eq, Decidable.not_not, Int.not_lt, Int.not_le] at hc1
      refine c_seq ?_
      refine c_region ?_
      refine l_y (y_eql rfl rfl) rfl rfl rfl ?_
      refine l_y (y_assign rfl) rfl rfl rfl ?_
      refine l_nil ?_
      refine p_then ?_
      refine c_cond rfl (fun hc2 => ?_) (fun hc2 => ?_)
      · try simp only [decide_eq_true_eq, decide_eq_false_iff_not, Bool.not_eq_true', Bool.not_eq_false', Bool.not_true, Bool.not_false, beq_iff_eq, bne_iff_ne, ne_eq, beq_eq_false_iff_ne, bne_eq_false_iff_eq, Decidable.not_not, Int.not_lt, Int.not_le] at hc2
        refine c_seq ?_
        refine c_region ?_
        refine l_y (y_move rfl) rfl rfl rfl ?_
        have hE0 := hE
        refine l_do (o_lit rfl Try.underlying98 Try.sizeOf9 Try.zeroValue9 rfl rfl rfl rfl rfl) rfl rfl rfl ?_
        rintro _ _ ⟨g2, b50, rfl, rfl, hv, h50, h50_own, h50_new⟩
        replace hC := hC.ev hv nno
        replace hE := hE.no hv
        replace h50_new := Nat.le_trans hE0.size (Nat.le_of_eq h50_new.symm)
        clear hE0 hv h50_own
        replace h50 := FSf.of h50 strC [⟨#[102]⟩, ⟨#[103]⟩] (fun _ => rfl) rfl rfl
        refine l_call (e_call Try.call40 rfl (pick_m hC h50 (by omega))) rfl rfl rfl ?_
        rintro _ _ ⟨g3, rfl, hv, ⟨hC, s51, hm51, rfl⟩⟩
        replace h50 := h50.ev hv
        replace hE := hE.trans hv
        clear hv
        have hs51 := sizes_le 1 hm51 rfl
        clear h50
        refine l_do (o_sadd rfl rfl 5 1 (by decide) hs51 rfl) rfl rfl rfl ?_
        rintro _ _ ⟨s52, rfl, hs52, rfl⟩
        refine l_y (y_move rfl) rfl rfl rfl ?_
        have hE0 := hE
        refine l_do (o_lit rfl Try.underlying98 Try.sizeOf9 Try.zeroValue9 rfl rfl rfl rfl rfl) rfl rfl rfl ?_
        rintro _ _ ⟨g4, b54, rfl, rfl, hv, h54, h54_own, h54_new⟩
        replace hC := hC.ev hv nno
        replace hE := hE.no hv
        replace h54_new := Nat.le_trans hE0.size (Nat.le_of_eq h54_new.symm)
        clear hE0 hv h54_own
        replace h54 := FSf.of h54 strC [⟨#[40, 49, 41]⟩, ⟨#[40, 50, 50, 41]⟩] (fun _ => rfl) rfl rfl
        refine l_call (e_call Try.call40 rfl (pick_m hC h54 (by omega))) rfl rfl rfl ?_
        rintro _ _ ⟨g5, rfl, hv, ⟨hC, s55, hm55, rfl⟩⟩
        replace h54 := h54.ev hv
        replace hE := hE.trans hv
        clear hv
        have hs55 := sizes_le 4 hm55 rfl
        clear h54
        refine l_do (o_sadd rfl rfl 6 4 hs52 hs55 rfl) rfl rfl rfl ?_
        rintro _ _ ⟨s56, rfl, hs56, rfl⟩
        refine l_y (y_assign rfl) rfl rfl rfl ?_
        refine l_nil ?_
        refine p_then ?_
        refine c_ret ?_
        refine p_blk_ret ?_
        refine p_then_ret ?_
        refine p_ret1 rfl (rv_tmp rfl) ?_
        exact ⟨_, rfl, hE, hC, _, rfl, Nat.le_trans hs56 (by decide)⟩
      · try simp only [decide_eq_true_eq, decide_eq_false_iff_not, Bool.not_eq_true', Bool.not_eq_false', Bool.not_true, Bool.not_false, beq_iff_eq, bne_iff_ne, ne_eq, beq_eq_false_iff_ne, bne_eq_false_iff_eq, Decidable.not_not, Int.not_lt, Int.not_le] at hc2
        refine c_seq ?_
        refine c_region ?_
        refine l_y (y_eql rfl rfl) rfl rfl rfl ?_
        refine l_y (y_assign rfl) rfl rfl rfl ?_
        refine l_nil ?_
        refine p_then ?_
        refine c_cond rfl (fun hc3 => ?_) (fun hc3 => ?_)
        · try simp only [decide_eq_true_eq, decide_eq_false_iff_not, Bool.not_eq_true', Bool.not_eq_false', Bool.not_true, Bool.not_false, beq_iff_eq, bne_iff_ne, ne_eq, beq_eq_false_iff_ne, bne_eq_false_iff_eq, Decidable.not_not, Int.not_lt, Int.not_le] at hc3
          refine c_seq ?_
          refine c_region ?_
          refine l_y (y_move rfl) rfl rfl rfl ?_
          have hE0 := hE
          refine l_do (o_lit rfl Try.underlying98 Try.sizeOf9 Try.zeroValue9 rfl rfl rfl rfl rfl) rfl rfl rfl ?_
          rintro _ _ ⟨g2, b60, rfl, rfl, hv, h60, h60_own, h60_new⟩
          replace hC := hC.ev hv nno
          replace hE := hE.no hv
          replace h60_new := Nat.le_trans hE0.size (Nat.le_of_eq h60_new.symm)
          clear hE0 hv h60_own
          replace h60 := FSf.of h60 strC [⟨#[97, 110, 110]⟩, ⟨#[98, 111, 98]⟩, ⟨#[101, 118, 101]⟩] (fun _ => rfl) rfl rfl
          refine l_call (e_call Try.call40 rfl (pick_m hC h60 (by omega))) rfl rfl rfl ?_
          rintro _ _ ⟨g3, rfl, hv, ⟨hC, s61, hm61, rfl⟩⟩
          replace h60 := h60.ev hv
          replace hE := hE.trans hv
          clear hv
          have hs61 := sizes_le 3 hm61 rfl
          clear h60
          refine l_do (o_sadd rfl rfl 5 3 (by decide) hs61 rfl) rfl rfl rfl ?_
          rintro _ _ ⟨s62, rfl, hs62, rfl⟩
          refine l_do (o_sadd rfl rfl 8 8 hs62 (by decide) rfl) rfl rfl rfl ?_
          rintro _ _ ⟨s63, rfl, hs63, rfl⟩
          refine l_y (y_move rfl) rfl rfl rfl ?_
          have hE0 := hE
          refine l_do (o_lit rfl Try.underlying98 Try.sizeOf9 Try.zeroValue9 rfl rfl rfl rfl rfl) rfl rfl rfl ?_
          rintro _ _ ⟨g4, b65, rfl, rfl, hv, h65, h65_own, h65_new⟩
          replace hC := hC.ev hv nno
          replace hE := hE.no hv
          replace h65_new := Nat.le_trans hE0.size (Nat.le_of_eq h65_new.symm)
          clear hE0 hv h65_own
          replace h65 := FSf.of h65 strC [⟨#[105, 110]⟩, ⟨#[111, 117, 116]⟩] (fun _ => rfl) rfl rfl
          refine l_call (e_call Try.call40 rfl (pick_m hC h65 (by omega))) rfl rfl rfl ?_
          rintro _ _ ⟨g5, rfl, hv, ⟨hC, s66, hm66, rfl⟩⟩
          replace h65 := h65.ev hv
          replace hE := hE.trans hv
          clear hv
          have hs66 := sizes_le 3 hm66 rfl
          clear h65
          refine l_do (o_sadd rfl rfl 16 3 hs63 hs66 rfl) rfl rfl rfl ?_
          rintro _ _ ⟨s67, rfl, hs67, rfl⟩
          refine l_y (y_assign rfl) rfl rfl rfl ?_
          refine l_nil ?_
          refine p_then ?_
          refine c_ret ?_
          refine p_blk_ret ?_
          refine p_then_ret ?_
          refine p_ret1 rfl (rv_tmp rfl) ?_
          exact ⟨_, rfl, hE, hC, _, rfl, Nat.le_trans hs67 (by decide)⟩
        · try simp only [decide_eq_true_eq, decide_eq_false_iff_not, Bool.not_eq_true', Bool.not_eq_false', Bool.not_true, Bool.not_false, beq_iff_eq, bne_iff_ne, ne_eq, beq_eq_false_iff_ne, bne_eq_false_iff_eq, Decidable.not_not, Int.not_lt, Int.not_le] at hc3
          refine c_seq ?_
          refine c_region ?_
          refine l_y (y_eql rfl rfl) rfl rfl rfl ?_
          refine l_y (y_assign rfl) rfl rfl rfl ?_
          refine l_nil ?_
          refine p_then ?_
          refine c_cond rfl (fun hc4 => ?_) (fun hc4 => ?_)
          · try simp only [decide_eq_true_eq, decide_eq_false_iff_not, Bool.not_eq_true', Bool.not_eq_false', Bool.not_true, Bool.not_false, beq_iff_eq, bne_iff_ne, ne_eq, beq_eq_false_iff_ne, bne_eq_false_iff_eq, Decidable.not_not, Int.not_lt, Int.not_le] at hc4
            refine c_seq ?_
            refine c_region ?_
            refine l_y (y_move rfl) rfl rfl rfl ?_
            have hE0 := hE
            refine l_do (o_lit rfl Try.underlying98 Try.sizeOf9 Try.zeroValue9 rfl rfl rfl rfl rfl) rfl rfl rfl ?_
            rintro _ _ ⟨g2, b71, rfl, rfl, hv, h71, h71_own, h71_new⟩
            replace hC := hC.ev hv nno
            replace hE := hE.no hv
            replace h71_new := Nat.le_trans hE0.size (Nat.le_of_eq h71_new.symm)
            clear hE0 hv h71_own
            replace h71 := FSf.of h71 strC [⟨#[105, 110, 102, 111]⟩, ⟨#[119, 97, 114, 110]⟩] (fun _ => rfl) rfl rfl
            refine l_call (e_call Try.call40 rfl (pick_m hC h71 (by omega))) rfl rfl rfl ?_
            rintro _ _ ⟨g3, rfl, hv, ⟨hC, s72, hm72, rfl⟩⟩
            replace h71 := h71.ev hv
            replace hE := hE.trans hv
            clear hv
            have hs72 := sizes_le 4 hm72 rfl
            clear h71
            refine l_do (o_sadd rfl rfl 11 4 (by decide) hs72 rfl) rfl rfl rfl ?_
            rintro _ _ ⟨s73, rfl, hs73, rfl⟩
            refine l_do (o_sadd rfl rfl 15 8 hs73 (by decide) rfl) rfl rfl rfl ?_
            rintro _ _ ⟨s74, rfl, hs74, rfl⟩
            refine l_y (y_move rfl) rfl rfl rfl ?_
            have hE0 := hE
            refine l_do (o_lit rfl Try.underlying98 Try.sizeOf9 Try.zeroValue9 rfl rfl rfl rfl rfl) rfl rfl rfl ?_
            rintro _ _ ⟨g4, b76, rfl, rfl, hv, h76, h76_own, h76_new⟩
            replace hC := hC.ev hv nno
            replace hE := hE.no hv
            replace h76_new := Nat.le_trans hE0.size (Nat.le_of_eq h76_new.symm)
            clear hE0 hv h76_own
            replace h76 := FSf.of h76 strC [⟨#[49]⟩, ⟨#[45, 50, 48]⟩, ⟨#[116, 114, 117, 101]⟩] (fun _ => rfl) rfl rfl
            refine l_call (e_call Try.call40 rfl (pick_m hC h76 (by omega))) rfl rfl rfl ?_
            rintro _ _ ⟨g5, rfl, hv, ⟨hC, s77, hm77, rfl⟩⟩
            replace h76 := h76.ev hv
            replace hE := hE.trans hv
            clear hv
            have hs77 := sizes_le 4 hm77 rfl
            clear h76
            refine l_do (o_sadd rfl rfl 23 4 hs74 hs77 rfl) rfl rfl rfl ?_
            rintro _ _ ⟨s78, rfl, hs78, rfl⟩
            refine l_do (o_sadd rfl rfl 27 1 hs78 (by decide) rfl) rfl rfl rfl ?_
            rintro _ _ ⟨s79, rfl, hs79, rfl⟩
            refine l_y (y_assign rfl) rfl rfl rfl ?_
            refine l_nil ?_
            refine p_then ?_
            refine c_ret ?_
            refine p_blk_ret ?_
            refine p_then_ret ?_
            refine p_ret1 rfl (rv_tmp rfl) ?_
            exact ⟨_, rfl, hE, hC, _, rfl, Nat.le_trans hs79 (by decide)⟩
          · try simp only [decide_eq_true_eq, decide_eq_false_iff_not, Bool.not_eq_true', Bool.not_eq_false', Bool.not_true, Bool.not_false, beq_iff_eq, bne_iff_ne, ne_eq, beq_eq_false_iff_ne, bne_eq_false_iff_eq, Decidable.not_not, Int.not_lt, Int.not_le] at hc4
            refine c_seq ?_
            refine c_region ?_
            refine l_y (y_eql rfl rfl) rfl rfl rfl ?_
            refine l_y (y_assign rfl) rfl rfl rfl ?_
            refine l_nil ?_
            refine p_then ?_
            refine c_cond rfl (fun hc5 => ?_) (fun hc5 => ?_)
            · try simp only [decide_eq_true_eq, decide_eq_false_iff_not, Bool.not_eq_true', Bool.not_eq_false', Bool.not_true, Bool.not_false, beq_iff_eq, bne_iff_ne, ne_eq, beq_eq_false_iff_ne, bne_eq_false_iff_eq, Decidable.not_not, Int.not_lt, Int.not_le] at hc5
              refine c_seq ?_
              refine c_region ?_
              refine l_y (y_move rfl) rfl rfl rfl ?_
              have hE0 := hE
              refine l_do (o_lit rfl Try.underlying98 Try.sizeOf9 Try.zeroValue9 rfl rfl rfl rfl rfl) rfl rfl rfl ?_
              rintro _ _ ⟨g2, b83, rfl, rfl, hv, h83, h83_own, h83_new⟩
              replace hC := hC.ev hv nno
              replace hE := hE.no hv
              replace h83_new := Nat.le_trans hE0.size (Nat.le_of_eq h83_new.symm)
              clear hE0 hv h83_own
              replace h83 := FSf.of h83 strC [⟨#[49]⟩, ⟨#[50]⟩] (fun _ => rfl) rfl rfl
              refine l_call (e_call Try.call40 rfl (pick_m hC h83 (by omega))) rfl rfl rfl ?_
              rintro _ _ ⟨g3, rfl, hv, ⟨hC, s84, hm84, rfl⟩⟩
              replace h83 := h83.ev hv
              replace hE := hE.trans hv
              clear hv
              have hs84 := sizes_le 1 hm84 rfl
              clear h83
              refine l_do (o_sadd rfl rfl 5 1 (by decide) hs84 rfl) rfl rfl rfl ?_
              rintro _ _ ⟨s85, rfl, hs85, rfl⟩
              refine l_do (o_sadd rfl rfl 6 8 hs85 (by decide) rfl) rfl rfl rfl ?_
              rintro _ _ ⟨s86, rfl, hs86, rfl⟩
              refine l_y (y_move rfl) rfl rfl rfl ?_
              have hE0 := hE
              refine l_do (o_lit rfl Try.underlying98 Try.sizeOf9 Try.zeroValue9 rfl rfl rfl rfl rfl) rfl rfl rfl ?_
              rintro _ _ ⟨g4, b88, rfl, rfl, hv, h88, h88_own, h88_new⟩
              replace hC := hC.ev hv nno
              replace hE := hE.no hv
              replace h88_new := Nat.le_trans hE0.size (Nat.le_of_eq h88_new.symm)
              clear hE0 hv h88_own
              replace h88 := FSf.of h88 strC [⟨#[49]⟩, ⟨#[50]⟩] (fun _ => rfl) rfl rfl
              refine l_call (e_call Try.call40 rfl (pick_m hC h88 (by omega))) rfl rfl rfl ?_
              rintro _ _ ⟨g5, rfl, hv, ⟨hC, s89, hm89, rfl⟩⟩
              replace h88 := h88.ev hv
              replace hE := hE.trans hv
              clear hv
              have hs89 := sizes_le 1 hm89 rfl
              clear h88
              refine l_do (o_sadd rfl rfl 14 1 hs86 hs89 rfl) rfl rfl rfl ?_
              rintro _ _ ⟨s90, rfl, hs90, rfl⟩
              refine l_do (o_sadd rfl rfl 15 1 hs90 (by decide) rfl) rfl rfl rfl ?_
              rintro _ _ ⟨s91, rfl, hs91, rfl⟩
              refine l_y (y_move rfl) rfl rfl rfl ?_
              have hE0 := hE
              refine l_do (o_lit rfl Try.underlying98 Try.sizeOf9 Try.zeroValue9 rfl rfl rfl rfl rfl) rfl rfl rfl ?_
              rintro _ _ ⟨g6, b93, rfl, rfl, hv, h93, h93_own, h93_new⟩
              replace hC := hC.ev hv nno
              replace hE := hE.no hv
              replace h93_new := Nat.le_trans hE0.size (Nat.le_of_eq h93_new.symm)
              clear hE0 hv h93_own
              replace h93 := FSf.of h93 strC [⟨#[111, 107]⟩, ⟨#[102, 97, 105, 108, 101, 100]⟩] (fun _ => rfl) rfl rfl
              refine l_call (e_call Try.call40 rfl (pick_m hC h93 (by omega))) rfl rfl rfl ?_
              rintro _ _ ⟨g7, rfl, hv, ⟨hC, s94, hm94, rfl⟩⟩
              replace h93 := h93.ev hv
              replace hE := hE.trans hv
              clear hv
              have hs94 := sizes_le 6 hm94 rfl
              clear h93
              refine l_do (o_sadd rfl rfl 16 6 hs91 hs94 rfl) rfl rfl rfl ?_
              rintro _ _ ⟨s95, rfl, hs95, rfl⟩
              refine l_y (y_assign rfl) rfl rfl rfl ?_
              refine l_nil ?_
              refine p_then ?_
              refine c_ret ?_
              refine p_blk_ret ?_
              refine p_then_ret ?_
              refine p_ret1 rfl (rv_tmp rfl) ?_
              exact ⟨_, rfl, hE, hC, _, rfl, Nat.le_trans hs95 (by decide)⟩
            · try simp only [decide_eq_true_eq, decide_eq_false_iff_not, Bool.not_eq_true', Bool.not_eq_false', Bool.not_true, Bool.not_false, beq_iff_eq, bne_iff_ne, ne_eq, beq_eq_false_iff_ne, bne_eq_false_iff_eq, Decidable.not_not, Int.not_lt, Int.not_le] at hc5
              refine c_skip ?_
              refine p_blk ?_
              refine p_then ?_
              refine c_seq ?_
              refine c_region ?_
              refine l_y (y_move rfl) rfl rfl rfl ?_
              refine l_call (e_call Try.call83 rfl (text_m 6 (by omega) (by omega) hC)) rfl rfl rfl ?_
              rintro _ _ ⟨g2, rfl, hv, ⟨hC, s97, rfl, hs97⟩⟩
              replace hE := hE.trans hv
              clear hv
              replace hs97 : s97.size ≤ 24 := by omega
              refine l_y (y_assign rfl) rfl rfl rfl ?_
              refine l_nil ?_
              refine p_then ?_
              refine c_ret ?_
              refine p_ret1 rfl (rv_tmp rfl) ?_
              exact ⟨_, rfl, hE, hC, _, rfl, Nat.le_trans hs97 (by decide)⟩
end Go.Proofs.Ytiamjjeflmcgoaa
