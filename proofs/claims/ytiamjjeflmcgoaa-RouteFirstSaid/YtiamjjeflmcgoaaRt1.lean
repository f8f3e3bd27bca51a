/- Walks of parse.Get and of the rules of routing. -/
import Derived.Test.YtiamjjeflmcgoaaMk3
set_option linter.unusedSimpArgs false
set_option linter.unusedVariables false
namespace Go.Proofs.Ytiamjjeflmcgoaa
open Go.Eng
/-- What Get finds among fields. -/
def getF (fs : List FieldD) (n : ByteArray) : ByteArray × Bool := match fs.find? (fun f => f.1.toList == n.toList) with
  | some f => (f.2, true)
  | none => (⟨#[]⟩, false)

set_option maxHeartbeats 1000000 in
theorem get_c {g : Gw} {a : Option Addr} {n cp : Nat} {fs : List FieldD} (name : ByteArray) (hl : FSf g a n cp 2 fldC fs) :
    CallsV Try.prog 70 [.slice a n cp, .string name].toArray g.w (Ret Mno g fun v _ => v = .tuple #[.string (getF fs name).1, .bool (getF fs name).2]) := by
  refine enter Try.func70 rfl Try.ntmps70 rfl ?_
  have hE := Ev.refl Mno g
  refine c_seq ?_
  refine c_region ?_
  refine l_y (y_assign rfl) rfl rfl rfl ?_
  refine l_y (y_assign rfl) rfl rfl rfl ?_
  refine l_nil ?_
  refine p_then ?_
  refine c_seq ?_
  refine c_seq ?_
  refine c_region ?_
  refine l_y (y_move rfl) rfl rfl rfl ?_
  refine l_y (y_len_slice Try.underlying29 rfl) rfl rfl rfl ?_
  refine l_y (y_move rfl) rfl rfl rfl ?_
  refine l_nil ?_
  refine p_then ?_
  refine c_block ?_
  refine c_loop (γ := Nat) (fun x w => ∃ gg : Gw, gg.w = w ∧ Ev Mno g gg ∧ FSf gg a n cp 2 fldC fs ∧ x ≤ n ∧ (fs.take x).find? (fun f => f.1.toList == name.toList) = none) (fun x => [(10, .int .i64 (x : Int))] ++ _) (fun x => n - x) 0 ⟨g, rfl, hE, hl, Nat.zero_le _, by simp⟩ (Sub.backN 0 rfl (Sub.cons rfl (Sub.nil)) rfl) ?_
  rintro i _ ⟨g1, rfl, hE, hl, hi, hfind⟩
  try dsimp only
  try dsimp only at hl
  try dsimp only at hi
  try dsimp only at hfind
  refine c_seq ?_
  refine c_region ?_
  refine l_y (y_lss rfl rfl) rfl rfl rfl ?_
  refine l_nil ?_
  refine p_then ?_
  refine c_seq ?_
  have hcm := hl.sl.cm; have hnc := hl.sl.nc; have hnum := hl.num
  refine c_cond rfl (fun hc0 => ?_) (fun hc0 => ?_)
  · try simp only [decide_eq_true_eq, decide_eq_false_iff_not, Bool.not_eq_true', Bool.not_eq_false', Bool.not_true, Bool.not_false, beq_iff_eq, bne_iff_ne, ne_eq, beq_eq_false_iff_ne, bne_eq_false_iff_eq, Decidable.not_not, Int.not_lt, Int.not_le] at hc0
    refine c_skip ?_
    refine p_then ?_
    refine c_seq ?_
    refine c_block ?_
    refine c_seq ?_
    refine c_region ?_
    obtain ⟨lb, lo, rfl⟩ := hl.at_ (by omega)
    obtain ⟨q, hq⟩ := hl.get (i := i) (by omega)
    first | refine l_y (y_indexAddr Try.underlying29 Try.sizeOf109 rfl rfl (by omega)) rfl rfl rfl ?_ | refine l_y (y_indexAddr_int Try.underlying29 Try.sizeOf109 rfl rfl (by omega) (by omega)) rfl rfl rfl ?_
    first | refine l_y (y_loada_blk (vs := [_, _]) rfl Try.isAgg109 Try.sizeOf109 (by assumption) rfl rfl) rfl rfl rfl ?_ | refine l_y (y_loada_el rfl Try.isAgg109 Try.sizeOf109 (by assumption) (by assumption)) rfl rfl rfl ?_
    have hE0 := hE
    refine l_do (o_alloc Try.zeroValue109 rfl) rfl rfl rfl ?_
    rintro _ _ ⟨g2, b7, rfl, rfl, hv, h7, h7_new⟩
    replace hl := hl.ev hv
    replace hE := hE.no hv
    replace h7_new := Nat.le_trans hE0.size (Nat.le_of_eq h7_new.symm)
    clear hE0 hv
    refine l_du (o_store rfl rfl rfl Try.sizeOf109 rfl h7 (by simp) (by simp [Value.oneCell'])) rfl rfl ?_
    rintro _ ⟨g3, rfl, hv, h7'⟩
    replace hl := hl.ev hv
    replace hE := hE.step hv (fun x hx => .inr (by rw [hx]; exact h7_new))
    simp only [splice, List.set_cons_zero, List.set_cons_succ, Nat.reduceAdd, Nat.zero_add] at h7'
    replace h7 := h7'; clear h7' hv
    refine l_nil ?_
    refine p_then ?_
    refine c_seq ?_
    refine c_region ?_
    refine l_y (y_fieldAddr (i := 0) (fo := 0) Try.underlying109 rfl rfl Try.sizeOf9 rfl rfl) rfl rfl rfl ?_
    first | refine l_y (y_load_blk rfl Try.isAgg9 (by assumption) rfl) rfl rfl rfl ?_ | refine l_y (y_load_el rfl Try.isAgg9 (by assumption) (by assumption) rfl) rfl rfl rfl ?_ | refine l_y (y_load_el0 rfl Try.isAgg9 (by assumption) (by assumption) rfl) rfl rfl rfl ?_
    refine l_y (y_move rfl) rfl rfl rfl ?_
    refine l_y (y_seql rfl rfl) rfl rfl rfl ?_
    refine l_nil ?_
    refine p_then ?_
    refine c_cond rfl (fun hc1 => ?_) (fun hc1 => ?_)
    · skip
      refine c_seq ?_
      refine c_region ?_
      refine l_y (y_fieldAddr (i := 1) (fo := 1) Try.underlying109 rfl rfl Try.sizeOf9 rfl rfl) rfl rfl rfl ?_
      first | refine l_y (y_load_blk rfl Try.isAgg9 (by assumption) rfl) rfl rfl rfl ?_ | refine l_y (y_load_el rfl Try.isAgg9 (by assumption) (by assumption) rfl) rfl rfl rfl ?_ | refine l_y (y_load_el0 rfl Try.isAgg9 (by assumption) (by assumption) rfl) rfl rfl rfl ?_
      refine l_y (y_assign rfl) rfl rfl rfl ?_
      refine l_y (y_assign rfl) rfl rfl rfl ?_
      refine l_nil ?_
      refine p_then ?_
      refine c_ret ?_
      refine p_blk_ret ?_
      refine p_then_ret ?_
      refine p_then_ret ?_
      refine p_blk_ret ?_
      refine p_then_ret ?_
      refine p_ret2 rfl (rv_tmp rfl) (rv_tmp rfl) ?_
      exact ⟨_, rfl, hE, by simp [getF, find_hit hfind hq hc1]⟩
    · skip
      refine c_skip ?_
      refine p_blk ?_
      refine p_then ?_
      refine c_region ?_
      first | refine l_y (y_add_in rfl rfl (by omega) (by omega)) rfl rfl rfl ?_ | refine l_y (y_add rfl rfl) rfl rfl rfl ?_
      refine l_y (y_move rfl) rfl rfl rfl ?_
      refine l_nil ?_
      exact p_back (i + 1) ⟨g3, rfl, hE, hl, by (try dsimp only); omega, find_miss hfind hq hc1⟩ (Sub.backN 11 rfl (Sub.cons rfl (Sub.nil)) rfl) (by (try dsimp only); omega)
  · try simp only [decide_eq_true_eq, decide_eq_false_iff_not, Bool.not_eq_true', Bool.not_eq_false', Bool.not_true, Bool.not_false, beq_iff_eq, bne_iff_ne, ne_eq, beq_eq_false_iff_ne, bne_eq_false_iff_eq, Decidable.not_not, Int.not_lt, Int.not_le] at hc0
    refine c_exit ?_
    refine p_then_exit ?_
    refine p_then_exit ?_
    refine p_blk_exit ?_
    refine p_then ?_
    refine c_seq ?_
    refine c_region ?_
    refine l_y (y_assign rfl) rfl rfl rfl ?_
    refine l_y (y_assign rfl) rfl rfl rfl ?_
    refine l_nil ?_
    refine p_then ?_
    refine c_ret ?_
    refine p_ret2 rfl (rv_tmp rfl) (rv_tmp rfl) ?_
    exact ⟨_, rfl, hE, by simp [getF, find_end hfind (by omega)]⟩

/-- Whether a rule fits an event. -/
def fitsR (r : RouteD) (e : EventD) : Bool := r.field.toList == ByteArray.toList ⟨#[]⟩ || ((getF e.fields r.field).2 && (getF e.fields r.field).1.toList == r.value.toList)
def noRoute : RouteD := ⟨⟨#[]⟩, ⟨#[]⟩, ⟨#[]⟩, ⟨#[]⟩, 0, false⟩
/-- The first rule that fits. -/
def decideF (rs : List RouteD) (e : EventD) : RouteD × Bool := match rs.find? (fitsR · e) with
  | some r => (r, true)
  | none => (noRoute, false)
/-- The function value of a rule's condition. -/
def PredV (r : RouteD) (v : Value) (g : Gw) : Prop := ((r.field.toList == ByteArray.toList ⟨#[]⟩) = true ∧ v = .func (.func 68) #[] #[]) ∨ ((r.field.toList == ByteArray.toList ⟨#[]⟩) = false ∧ ∃ b, Blk g b 34 (rouC r) ∧ v = .func (.func 69) #[] #[.pointer (some ⟨b, 0, none⟩)])

set_option maxHeartbeats 1000000 in
theorem predicate_c {g : Gw} (r : RouteD) :
    CallsV Try.prog 43 [.agg (rouC r).toArray].toArray g.w (Ret Mno g fun v g' => PredV r v g') := by
  refine enter Try.func43 rfl Try.ntmps43 rfl ?_
  have hE := Ev.refl Mno g
  refine c_seq ?_
  refine c_region ?_
  have hE0 := hE
  refine l_do (o_box (cs := [_, _, _, _, _, _]) rfl rfl) rfl rfl rfl ?_
  rintro _ _ ⟨g1, b1, rfl, rfl, hv, h1, h1_new⟩
  replace hE := hE.no hv
  replace h1_new := Nat.le_trans hE0.size (Nat.le_of_eq h1_new.symm)
  clear hE0 hv
  refine l_y (y_assign rfl) rfl rfl rfl ?_
  refine l_nil ?_
  refine p_then ?_
  refine c_seq ?_
  refine c_seq ?_
  refine c_region ?_
  refine l_y (y_fieldAddr (i := 1) (fo := 1) Try.underlying34 rfl rfl Try.sizeOf9 rfl rfl) rfl rfl rfl ?_
  first | refine l_y (y_load_blk rfl Try.isAgg9 (by assumption) rfl) rfl rfl rfl ?_ | refine l_y (y_load_el rfl Try.isAgg9 (by assumption) (by assumption) rfl) rfl rfl rfl ?_ | refine l_y (y_load_el0 rfl Try.isAgg9 (by assumption) (by assumption) rfl) rfl rfl rfl ?_
  refine l_y (y_seql rfl rfl) rfl rfl rfl ?_
  refine l_nil ?_
  refine p_then ?_
  refine c_cond rfl (fun hc0 => ?_) (fun hc0 => ?_)
  · skip
    refine c_seq ?_
    refine c_region ?_
    refine l_y (y_assign rfl) rfl rfl rfl ?_
    refine l_nil ?_
    refine p_then ?_
    refine c_ret ?_
    refine p_then_ret ?_
    refine p_ret1 rfl (rv_tmp rfl) ?_
    exact ⟨_, rfl, hE, .inl ⟨hc0, rfl⟩⟩
  · skip
    refine c_skip ?_
    refine p_then ?_
    refine c_seq ?_
    refine c_region ?_
    refine l_y (y_makeFunc rfl rfl) rfl rfl rfl ?_
    refine l_y (y_assign rfl) rfl rfl rfl ?_
    refine l_nil ?_
    refine p_then ?_
    refine c_ret ?_
    refine p_ret1 rfl (rv_tmp rfl) ?_
    exact ⟨_, rfl, hE, .inr ⟨hc0, _, h1, rfl⟩⟩

set_option maxHeartbeats 1000000 in
theorem pred1_c {g : Gw} {cs : List Value} {e : EventD} (hev : EvRep g cs e) :
    CallsV Try.prog 68 [.agg cs.toArray].toArray g.w (Ret Mno g fun v _ => v = .bool true) := by
  refine enter Try.func68 rfl Try.ntmps68 rfl ?_
  obtain ⟨la, ln, lc, fa, fn, fc, rfl, hl, hf⟩ := hev
  have hE := Ev.refl Mno g
  refine c_seq ?_
  refine c_region ?_
  have hE0 := hE
  refine l_do (o_box (cs := [_, _, _, _, _, _, _, _, _, _]) rfl rfl) rfl rfl rfl ?_
  rintro _ _ ⟨g1, b1, rfl, rfl, hv, h1, h1_new⟩
  replace hE := hE.no hv
  replace h1_new := Nat.le_trans hE0.size (Nat.le_of_eq h1_new.symm)
  clear hE0 hv
  refine l_y (y_assign rfl) rfl rfl rfl ?_
  refine l_nil ?_
  refine p_then ?_
  refine c_seq ?_
  refine c_region ?_
  refine l_y (y_assign rfl) rfl rfl rfl ?_
  refine l_nil ?_
  refine p_then ?_
  refine c_ret ?_
  refine p_ret1 rfl (rv_tmp rfl) ?_
  exact ⟨_, rfl, hE, rfl⟩

set_option maxHeartbeats 1000000 in
theorem pred2_c {g : Gw} {cs : List Value} {e : EventD} {r : RouteD} {b : Nat} (hev : EvRep g cs e) (hb : Blk g b 34 (rouC r)) (hne : (r.field.toList == ByteArray.toList ⟨#[]⟩) = false) :
    CallsV Try.prog 69 [.agg cs.toArray, .pointer (some ⟨b, 0, none⟩)].toArray g.w (Ret Mno g fun v _ => v = .bool (fitsR r e)) := by
  refine enter Try.func69 rfl Try.ntmps69 rfl ?_
  obtain ⟨la, ln, lc, fa, fn, fc, rfl, hl, hf⟩ := hev
  have hE := Ev.refl Mno g
  refine c_seq ?_
  refine c_region ?_
  have hE0 := hE
  refine l_do (o_box (cs := [_, _, _, _, _, _, _, _, _, _]) rfl rfl) rfl rfl rfl ?_
  rintro _ _ ⟨g1, b2, rfl, rfl, hv, h2, h2_new⟩
  replace hf := hf.ev hv
  replace hb := hb.ev hv nno
  replace hE := hE.no hv
  replace h2_new := Nat.le_trans hE0.size (Nat.le_of_eq h2_new.symm)
  clear hE0 hv
  refine l_y (y_assign rfl) rfl rfl rfl ?_
  refine l_nil ?_
  refine p_then ?_
  refine c_seq ?_
  refine c_region ?_
  refine l_y (y_fieldAddr (i := 9) (fo := 9) Try.underlying31 rfl rfl Try.sizeOf29 rfl rfl) rfl rfl rfl ?_
  first | refine l_y (y_load_blk rfl Try.isAgg29 (by assumption) rfl) rfl rfl rfl ?_ | refine l_y (y_load_el rfl Try.isAgg29 (by assumption) (by assumption) rfl) rfl rfl rfl ?_ | refine l_y (y_load_el0 rfl Try.isAgg29 (by assumption) (by assumption) rfl) rfl rfl rfl ?_
  refine l_y (y_fieldAddr (i := 1) (fo := 1) Try.underlying34 rfl rfl Try.sizeOf9 rfl rfl) rfl rfl rfl ?_
  first | refine l_y (y_load_blk rfl Try.isAgg9 (by assumption) rfl) rfl rfl rfl ?_ | refine l_y (y_load_el rfl Try.isAgg9 (by assumption) (by assumption) rfl) rfl rfl rfl ?_ | refine l_y (y_load_el0 rfl Try.isAgg9 (by assumption) (by assumption) rfl) rfl rfl rfl ?_
  refine l_call (e_call Try.call70 rfl (get_c _ hf)) rfl rfl rfl ?_
  rintro _ _ ⟨g2, rfl, hv, rfl⟩
  replace hf := hf.ev hv
  replace hb := hb.ev hv nno
  replace h2 := h2.ev hv nno
  replace hE := hE.no hv
  clear hv
  refine l_y (y_move rfl) rfl rfl rfl ?_
  refine l_y (y_extract (i := 0) rfl rfl) rfl rfl rfl ?_
  refine l_y (y_extract (i := 1) rfl rfl) rfl rfl rfl ?_
  refine l_y (y_assign rfl) rfl rfl rfl ?_
  refine l_y (y_assign rfl) rfl rfl rfl ?_
  refine l_nil ?_
  refine p_then ?_
  refine c_seq ?_
  refine c_region ?_
  refine l_y (y_move rfl) rfl rfl rfl ?_
  refine l_y (y_move rfl) rfl rfl rfl ?_
  refine l_split (t := 15) rfl (fun hs15 => ?_) (fun hs15 => ?_)
  · skip
    refine l_guard rfl rfl rfl ?_
    refine l_y (y_move rfl) rfl rfl rfl ?_
    refine l_guard rfl rfl rfl ?_
    refine l_y (y_fieldAddr (i := 2) (fo := 2) Try.underlying34 rfl rfl Try.sizeOf9 rfl rfl) rfl rfl rfl ?_
    refine l_guard rfl rfl rfl ?_
    first | refine l_y (y_load_blk rfl Try.isAgg9 (by assumption) rfl) rfl rfl rfl ?_ | refine l_y (y_load_el rfl Try.isAgg9 (by assumption) (by assumption) rfl) rfl rfl rfl ?_ | refine l_y (y_load_el0 rfl Try.isAgg9 (by assumption) (by assumption) rfl) rfl rfl rfl ?_
    refine l_guard rfl rfl rfl ?_
    refine l_y (y_seql rfl rfl) rfl rfl rfl ?_
    refine l_y (y_pick_t rfl rfl) rfl rfl rfl ?_
    refine l_y (y_assign rfl) rfl rfl rfl ?_
    refine l_nil ?_
    refine p_then ?_
    refine c_ret ?_
    refine p_ret1 rfl (rv_tmp rfl) ?_
    refine ⟨_, rfl, hE, ?_⟩
    unfold fitsR; rw [hne, hs15]; rfl
  · skip
    refine l_skip rfl rfl rfl rfl rfl rfl ?_
    refine l_skip rfl rfl rfl rfl rfl rfl ?_
    refine l_skip rfl rfl rfl rfl rfl rfl ?_
    refine l_skip rfl rfl rfl rfl rfl rfl ?_
    refine l_y (y_pick_f rfl rfl) rfl rfl rfl ?_
    refine l_y (y_assign rfl) rfl rfl rfl ?_
    refine l_nil ?_
    refine p_then ?_
    refine c_ret ?_
    refine p_ret1 rfl (rv_tmp rfl) ?_
    refine ⟨_, rfl, hE, ?_⟩
    unfold fitsR; rw [hne, hs15]; rfl

set_option maxHeartbeats 1000000 in
theorem decide_c {g : Gw} {a : Option Addr} {n cp : Nat} {rs : List RouteD} {cs : List Value} {e : EventD} (hl : FSf g a n cp 6 rouC rs) (hev : EvRep g cs e) :
    CallsV Try.prog 13 [.slice a n cp, .agg cs.toArray].toArray g.w (Ret Mno g fun v _ => v = .tuple #[.agg (rouC (decideF rs e).1).toArray, .bool (decideF rs e).2]) := by
  refine enter Try.func13 rfl Try.ntmps13 rfl ?_
  obtain ⟨la, ln, lc, fa, fn, fc, rfl, hll, hf⟩ := hev
  have hE := Ev.refl Mno g
  refine c_seq ?_
  refine c_region ?_
  have hE0 := hE
  refine l_do (o_box (cs := [_, _, _, _, _, _, _, _, _, _]) rfl rfl) rfl rfl rfl ?_
  rintro _ _ ⟨g1, b3, rfl, rfl, hv, h3, h3_new⟩
  replace hl := hl.ev hv
  replace hll := hll.ev hv
  replace hf := hf.ev hv
  replace hE := hE.no hv
  replace h3_new := Nat.le_trans hE0.size (Nat.le_of_eq h3_new.symm)
  clear hE0 hv
  have hE0 := hE
  refine l_do (o_alloc Try.zeroValue34 rfl) rfl rfl rfl ?_
  rintro _ _ ⟨g2, b4, rfl, rfl, hv, h4, h4_new⟩
  replace hl := hl.ev hv
  replace hll := hll.ev hv
  replace hf := hf.ev hv
  replace h3 := h3.ev hv nno
  replace hE := hE.no hv
  replace h4_new := Nat.le_trans hE0.size (Nat.le_of_eq h4_new.symm)
  clear hE0 hv
  refine l_y (y_assign rfl) rfl rfl rfl ?_
  refine l_nil ?_
  refine p_then ?_
  refine c_seq ?_
  refine c_seq ?_
  refine c_region ?_
  refine l_y (y_move rfl) rfl rfl rfl ?_
  refine l_y (y_len_slice Try.underlying26 rfl) rfl rfl rfl ?_
  refine l_y (y_move rfl) rfl rfl rfl ?_
  refine l_nil ?_
  refine p_then ?_
  refine c_block ?_
  have h3_lt := h3_new; have h4_lt := h4_new; clear h3_new h4_new
  refine c_loop (γ := Nat) (fun x w => ∃ gg : Gw, gg.w = w ∧ Ev Mno g gg ∧ FSf gg a n cp 6 rouC rs ∧ FSf gg la ln lc 3 linC e.lines ∧ FSf gg fa fn fc 2 fldC e.fields ∧ Blk gg b3 31 [.int .i64 e.host, .int .i64 e.file, .int .i64 e.from_, .int .i64 e.to, .slice la ln lc, .int .i64 e.time, .int .i64 e.weight, .string e.trace, .string e.stream, .slice fa fn fc] ∧ Blk gg b4 34 [.string ⟨#[]⟩, .string ⟨#[]⟩, .string ⟨#[]⟩, .string ⟨#[]⟩, .int .i64 0, .bool false] ∧ x ≤ n ∧ (rs.take x).find? (fitsR · e) = none) (fun x => [(10, .int .i64 (x : Int))] ++ _) (fun x => n - x) 0 ⟨g2, rfl, hE, hl, hll, hf, h3, h4, Nat.zero_le _, by simp⟩ (Sub.backN 0 rfl (Sub.cons rfl (Sub.nil)) rfl) ?_
  rintro i _ ⟨g3, rfl, hE, hl, hll, hf, h3, h4, hi, hfind⟩
  try dsimp only
  try dsimp only at hl
  try dsimp only at hll
  try dsimp only at hf
  try dsimp only at h3
  try dsimp only at h4
  try dsimp only at hi
  try dsimp only at hfind
  refine c_seq ?_
  refine c_region ?_
  refine l_y (y_lss rfl rfl) rfl rfl rfl ?_
  refine l_nil ?_
  refine p_then ?_
  refine c_seq ?_
  have hcm := hl.sl.cm; have hnc := hl.sl.nc; have hnum := hl.num; have h3_new := h3_lt; have h4_new := h4_lt
  refine c_cond rfl (fun hc0 => ?_) (fun hc0 => ?_)
  · try simp only [decide_eq_true_eq, decide_eq_false_iff_not, Bool.not_eq_true', Bool.not_eq_false', Bool.not_true, Bool.not_false, beq_iff_eq, bne_iff_ne, ne_eq, beq_eq_false_iff_ne, bne_eq_false_iff_eq, Decidable.not_not, Int.not_lt, Int.not_le] at hc0
    refine c_skip ?_
    refine p_then ?_
    refine c_seq ?_
    refine c_block ?_
    refine c_seq ?_
    refine c_region ?_
    obtain ⟨lb, lo, rfl⟩ := hl.at_ (by omega)
    obtain ⟨q, hq⟩ := hl.get (i := i) (by omega)
    first | refine l_y (y_indexAddr Try.underlying26 Try.sizeOf34 rfl rfl (by omega)) rfl rfl rfl ?_ | refine l_y (y_indexAddr_int Try.underlying26 Try.sizeOf34 rfl rfl (by omega) (by omega)) rfl rfl rfl ?_
    first | refine l_y (y_loada_blk (vs := [_, _, _, _, _, _]) rfl Try.isAgg34 Try.sizeOf34 (by assumption) rfl rfl) rfl rfl rfl ?_ | refine l_y (y_loada_el rfl Try.isAgg34 Try.sizeOf34 (by assumption) (by assumption)) rfl rfl rfl ?_
    have hE0 := hE
    refine l_do (o_alloc Try.zeroValue34 rfl) rfl rfl rfl ?_
    rintro _ _ ⟨g4, b7, rfl, rfl, hv, h7, h7_new⟩
    have ne_h4_h7 : b4 ≠ b7 := by have := h4.lt; omega
    have ne_h7_h4 := Ne.symm ne_h4_h7
    replace hl := hl.ev hv
    replace hll := hll.ev hv
    replace hf := hf.ev hv
    replace h3 := h3.ev hv nno
    replace h4 := h4.ev hv nno
    replace hE := hE.no hv
    replace h7_new := Nat.le_trans hE0.size (Nat.le_of_eq h7_new.symm)
    clear hE0 hv
    refine l_du (o_store rfl rfl rfl Try.sizeOf34 rfl h7 (by simp) (by simp [Value.oneCell'])) rfl rfl ?_
    rintro _ ⟨g5, rfl, hv, h7'⟩
    replace hl := hl.ev hv
    replace hll := hll.ev hv
    replace hf := hf.ev hv
    replace h3 := h3.ev hv (fun hh => Blk.ne_ h3 h7 rfl hh)
    replace h4 := h4.ev hv (ne_h4_h7)
    replace hE := hE.step hv (fun x hx => .inr (by rw [hx]; exact h7_new))
    simp only [splice, List.set_cons_zero, List.set_cons_succ, Nat.reduceAdd, Nat.zero_add] at h7'
    replace h7 := h7'; clear h7' hv
    refine l_nil ?_
    refine p_then ?_
    refine c_seq ?_
    refine c_ogt (Ev Mno) (Ev.pre _) (Ev.draw0 _ _) (fun _ => True) [fEq (.agg (rouC q).toArray), fun v g => PredV q v g, fEq (.agg [.int .i64 e.host, .int .i64 e.file, .int .i64 e.from_, .int .i64 e.to, .slice la ln lc, .int .i64 e.time, .int .i64 e.weight, .string e.trace, .string e.stream, .slice fa fn fc].toArray), fEq (.bool (fitsR q e))] 4 Try.mixo (by kernel_rfl) (by kernel_rfl) (by kernel_rfl) rfl (trivial) (stabs_spec ⟨fEq.stab, (fun _ _ _ h he _ => h.elim .inl (fun ⟨h1, b, h2, h3⟩ => .inr ⟨h1, b, h2.ev he nno, h3⟩)), fEq.stab, fEq.stab, trivial⟩) ?_ ?_
    · refine ⟨⟨rfl, fun g hv hJ => ?_⟩, ⟨rfl, fun g hv hJ => ?_⟩, ⟨rfl, fun g hv hJ => ?_⟩, ⟨rfl, fun g hv hJ => ?_⟩, trivial⟩
      · skip
        show OgDo _ _ _ _ _ _ _
        exact og_y (y_loada_blk (vs := [_, _, _, _, _, _]) rfl Try.isAgg34 Try.sizeOf34 (h7.ev hv nno) rfl rfl) rfl hJ fEq.mk
      · intro v0 hk0
        obtain rfl : v0 = _ := hk0
        show OgDo _ _ _ _ _ _ _
        exact og_call (e_call Try.call43 rfl ((predicate_c q).mono_ret (fun v g' h => ⟨trivial, h⟩))) rfl
      · skip
        show OgDo _ _ _ _ _ _ _
        exact og_y (y_loada_blk (vs := [_, _, _, _, _, _, _, _, _, _]) rfl Try.isAgg31 Try.sizeOf31 (h3.ev hv nno) rfl rfl) rfl hJ fEq.mk
      · intro v1 hk1; intro v2 hk2; intro v1 hk1
        skip
        obtain rfl : v2 = _ := hk2
        show OgDo _ _ _ _ _ _ _
        rcases hk1 with ⟨hp, rfl⟩ | ⟨hp, b, hb, rfl⟩
        · exact og_call (e_callv (first := []) (capt := []) rfl Try.call68 rfl ((pred1_c (e := e) ⟨_, _, _, _, _, _, rfl, hll.ev hv, hf.ev hv⟩).mono_ret (fun v g' h => ⟨trivial, by rw [h]; show Value.bool true = _; unfold fitsR; rw [hp]; rfl⟩))) rfl
        · exact og_call (e_callv (first := []) (capt := [.pointer (some ⟨b, 0, none⟩)]) rfl Try.call69 rfl ((pred2_c (e := e) ⟨_, _, _, _, _, _, rfl, hll.ev hv, hf.ev hv⟩ hb hp).mono_ret (fun v g' h => ⟨trivial, h⟩))) rfl
    · intro g6 vs0 hv hJ hf0
      obtain ⟨v0, vs1, rfl, hk0, hf1⟩ := hf0.cons
      clear hf0
      obtain rfl : v0 = _ := hk0
      obtain ⟨v1, vs2, rfl, hk1, hf2⟩ := hf1.cons
      clear hf1
      skip
      obtain ⟨v2, vs3, rfl, hk2, hf3⟩ := hf2.cons
      clear hf2
      obtain rfl : v2 = _ := hk2
      obtain ⟨v3, vs4, rfl, hk3, hf4⟩ := hf3.cons
      clear hf3
      obtain rfl : v3 = _ := hk3
      obtain rfl := hf4.nil; clear hf4
      replace hl := hl.ev hv
      replace hll := hll.ev hv
      replace hf := hf.ev hv
      replace h3 := h3.ev hv nno
      replace h4 := h4.ev hv nno
      replace h7 := h7.ev hv nno
      replace hE := hE.no hv
      try replace hC := hJ
      clear hv
      clear hk1
      refine l_nil ?_
      refine p_then ?_
      refine c_cond rfl (fun hc1 => ?_) (fun hc1 => ?_)
      · skip
        refine c_seq ?_
        refine c_region ?_
        first | refine l_y (y_loada_blk (vs := [_, _, _, _, _, _]) rfl Try.isAgg34 Try.sizeOf34 (by assumption) rfl rfl) rfl rfl rfl ?_ | refine l_y (y_loada_el rfl Try.isAgg34 Try.sizeOf34 (by assumption) (by assumption)) rfl rfl rfl ?_
        refine l_du (o_store rfl rfl rfl Try.sizeOf34 rfl h4 (by simp) (by simp [Value.oneCell'])) rfl rfl ?_
        rintro _ ⟨g7, rfl, hv, h4'⟩
        replace hl := hl.ev hv
        replace hll := hll.ev hv
        replace hf := hf.ev hv
        replace h3 := h3.ev hv (fun hh => Blk.ne_ h3 h4 rfl hh)
        replace h7 := h7.ev hv (ne_h7_h4)
        replace hE := hE.step hv (fun x hx => .inr (by rw [hx]; exact h4_new))
        simp only [splice, List.set_cons_zero, List.set_cons_succ, Nat.reduceAdd, Nat.zero_add] at h4'
        replace h4 := h4'; clear h4' hv
        refine l_y (y_assign rfl) rfl rfl rfl ?_
        refine l_nil ?_
        refine p_then ?_
        refine c_ret ?_
        refine p_blk_ret ?_
        refine p_then_ret ?_
        refine p_then_ret ?_
        refine p_blk_ret ?_
        refine p_then_ret ?_
        refine p_ret2 rfl (rv_blka rfl Try.isAgg34 Try.sizeOf34 h4 rfl) (rv_tmp rfl) ?_
        exact ⟨_, rfl, hE, by simp [decideF, find_hit hfind hq hc1]⟩
      · skip
        refine c_skip ?_
        refine p_blk ?_
        refine p_then ?_
        refine c_region ?_
        first | refine l_y (y_add_in rfl rfl (by omega) (by omega)) rfl rfl rfl ?_ | refine l_y (y_add rfl rfl) rfl rfl rfl ?_
        refine l_y (y_move rfl) rfl rfl rfl ?_
        refine l_nil ?_
        exact p_back (i + 1) ⟨g6, rfl, hE, hl, hll, hf, h3, h4, by (try dsimp only); omega, find_miss hfind hq hc1⟩ (Sub.backN 11 rfl (Sub.cons rfl (Sub.nil)) rfl) (by (try dsimp only); omega)
  · try simp only [decide_eq_true_eq, decide_eq_false_iff_not, Bool.not_eq_true', Bool.not_eq_false', Bool.not_true, Bool.not_false, beq_iff_eq, bne_iff_ne, ne_eq, beq_eq_false_iff_ne, bne_eq_false_iff_eq, Decidable.not_not, Int.not_lt, Int.not_le] at hc0
    refine c_exit ?_
    refine p_then_exit ?_
    refine p_then_exit ?_
    refine p_blk_exit ?_
    refine p_then ?_
    refine c_seq ?_
    refine c_region ?_
    refine l_y (y_struct [_, _, _, _, _, _] Try.underlying34 Try.zeroValue34 (pl := [(0, 1), (1, 1), (2, 1), (3, 1), (4, 1), (5, 1)]) (fun w => by simp) rfl rfl) rfl rfl rfl ?_
    refine l_du (o_store rfl rfl rfl Try.sizeOf34 rfl h4 (by simp) (by simp [Value.oneCell'])) rfl rfl ?_
    rintro _ ⟨g4, rfl, hv, h4'⟩
    replace hl := hl.ev hv
    replace hll := hll.ev hv
    replace hf := hf.ev hv
    replace h3 := h3.ev hv (fun hh => Blk.ne_ h3 h4 rfl hh)
    replace hE := hE.step hv (fun x hx => .inr (by rw [hx]; exact h4_new))
    simp only [splice, List.set_cons_zero, List.set_cons_succ, Nat.reduceAdd, Nat.zero_add] at h4'
    replace h4 := h4'; clear h4' hv
    refine l_y (y_assign rfl) rfl rfl rfl ?_
    refine l_nil ?_
    refine p_then ?_
    refine c_ret ?_
    refine p_ret2 rfl (rv_blka rfl Try.isAgg34 Try.sizeOf34 h4 rfl) (rv_tmp rfl) ?_
    exact ⟨_, rfl, hE, by simp [decideF, find_end hfind (by omega), noRoute]⟩
end Go.Proofs.Ytiamjjeflmcgoaa
