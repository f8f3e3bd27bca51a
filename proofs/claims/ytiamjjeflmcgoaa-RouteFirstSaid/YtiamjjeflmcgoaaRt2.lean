/- A walk of route.Apply. -/
import Derived.Test.YtiamjjeflmcgoaaRt1
set_option linter.unusedSimpArgs false
set_option linter.unusedVariables false
namespace Go.Proofs.Ytiamjjeflmcgoaa
open Go.Eng
/-- An item: an event, or a skip by a rule. -/
structure ItemD where
  rule : ByteArray
  ev : EventD
def ItRep (g : Gw) (cs : List Value) (i : ItemD) : Prop := ∃ es, cs = .string i.rule :: es ∧ EvRep g es i.ev
theorem ItRep.ev_ {M : Nat → Prop} {g g' : Gw} {cs : List Value} {i : ItemD} (h : ItRep g cs i) (he : Ev M g g') : ItRep g' cs i := by
  obtain ⟨es, h1, h2⟩ := h
  exact ⟨es, h1, h2.ev he⟩
def mainS : ByteArray := ⟨#[109, 97, 105, 110]⟩
def bare (l : LineD) : LineD := ⟨l.off, l.len, ⟨#[]⟩⟩
def skipEv (e : EventD) : EventD := ⟨e.host, e.file, e.from_, e.to, e.lines.map bare, 0, 0, ⟨#[]⟩, ⟨#[]⟩, []⟩
def withStream (e : EventD) (s : ByteArray) : EventD := ⟨e.host, e.file, e.from_, e.to, e.lines, e.time, e.weight, e.trace, s, e.fields⟩
/-- The item of an event, and its priority. -/
def applyF (rs : List RouteD) (e : EventD) : ItemD × Int :=
  if (decideF rs e).2 = false then (⟨⟨#[]⟩, withStream e mainS⟩, 0)
  else if (decideF rs e).1.drop = false then (⟨⟨#[]⟩, withStream e (decideF rs e).1.stream⟩, (decideF rs e).1.prio)
  else (⟨(decideF rs e).1.name, skipEv e⟩, (decideF rs e).1.prio)

set_option maxHeartbeats 1000000 in
theorem apply_c {g : Gw} {a : Option Addr} {n cp : Nat} {rs : List RouteD} {cs : List Value} {e : EventD} (hl : FSf g a n cp 6 rouC rs) (hev : EvRep g cs e) (hlim : e.lines.length ≤ 1000000) :
    CallsV Try.prog 38 [.slice a n cp, .agg cs.toArray].toArray g.w (Ret Mno g fun v g' => ∃ (is : List Value) (k : Int), v = .tuple #[.agg is.toArray, .int .i64 k] ∧ k = (applyF rs e).2 ∧ ItRep g' is (applyF rs e).1) := by
  refine enter Try.func38 rfl Try.ntmps38 rfl ?_
  obtain ⟨la, ln, lc, fa, fn, fc, rfl, hll, hf⟩ := hev
  have hE := Ev.refl Mno g
  refine c_seq ?_
  refine c_region ?_
  have hE0 := hE
  refine l_do (o_box (cs := [_, _, _, _, _, _, _, _, _, _]) rfl rfl) rfl rfl rfl ?_
  rintro _ _ ⟨g1, b3, rfl, rfl, hv, h3, h3_new⟩
  replace hl := hl.ev hv
  replace hll := hll.ev hv
  replace hf := hf.ev hv
  replace hE := hE.no hv
  replace h3_new := Nat.le_trans hE0.size (Nat.le_of_eq h3_new.symm)
  clear hE0 hv
  have hE0 := hE
  refine l_do (o_alloc Try.zeroValue74 rfl) rfl rfl rfl ?_
  rintro _ _ ⟨g2, b4, rfl, rfl, hv, h4, h4_new⟩
  replace hl := hl.ev hv
  replace hll := hll.ev hv
  replace hf := hf.ev hv
  replace h3 := h3.ev hv nno
  replace hE := hE.no hv
  replace h4_new := Nat.le_trans hE0.size (Nat.le_of_eq h4_new.symm)
  clear hE0 hv
  refine l_y (y_assign rfl) rfl rfl rfl ?_
  refine l_nil ?_
  refine p_then ?_
  refine c_seq ?_
  refine c_region ?_
  refine l_y (y_move rfl) rfl rfl rfl ?_
  first | refine l_y (y_loada_blk (vs := [_, _, _, _, _, _, _, _, _, _]) rfl Try.isAgg31 Try.sizeOf31 (by assumption) rfl rfl) rfl rfl rfl ?_ | refine l_y (y_loada_el rfl Try.isAgg31 Try.sizeOf31 (by assumption) (by assumption)) rfl rfl rfl ?_
  refine l_call (e_call Try.call13 rfl (decide_c (e := e) hl ⟨_, _, _, _, _, _, rfl, hll, hf⟩)) rfl rfl rfl ?_
  rintro _ _ ⟨g3, rfl, hv, rfl⟩
  replace hl := hl.ev hv
  replace hll := hll.ev hv
  replace hf := hf.ev hv
  replace h3 := h3.ev hv nno
  replace h4 := h4.ev hv nno
  replace hE := hE.no hv
  clear hv
  refine l_y (y_move rfl) rfl rfl rfl ?_
  refine l_y (y_extract (i := 0) rfl rfl) rfl rfl rfl ?_
  refine l_y (y_extract (i := 1) rfl rfl) rfl rfl rfl ?_
  have hE0 := hE
  refine l_do (o_alloc Try.zeroValue34 rfl) rfl rfl rfl ?_
  rintro _ _ ⟨g4, b6, rfl, rfl, hv, h6, h6_new⟩
  replace hl := hl.ev hv
  replace hll := hll.ev hv
  replace hf := hf.ev hv
  replace h3 := h3.ev hv nno
  replace h4 := h4.ev hv nno
  replace hE := hE.no hv
  replace h6_new := Nat.le_trans hE0.size (Nat.le_of_eq h6_new.symm)
  clear hE0 hv
  refine l_du (o_store rfl rfl rfl Try.sizeOf34 rfl h6 (by simp) (by simp [Value.oneCell'])) rfl rfl ?_
  rintro _ ⟨g5, rfl, hv, h6'⟩
  replace hl := hl.ev hv
  replace hll := hll.ev hv
  replace hf := hf.ev hv
  replace h3 := h3.ev hv (fun hh => Blk.ne_ h3 h6 rfl hh)
  replace h4 := h4.ev hv (fun hh => Blk.ne_ h4 h6 rfl hh)
  replace hE := hE.step hv (fun x hx => .inr (by rw [hx]; exact h6_new))
  simp only [splice, List.set_cons_zero, List.set_cons_succ, Nat.reduceAdd, Nat.zero_add] at h6'
  replace h6 := h6'; clear h6' hv
  refine l_y (y_assign rfl) rfl rfl rfl ?_
  refine l_nil ?_
  refine p_then ?_
  refine c_seq ?_
  refine c_seq ?_
  refine c_region ?_
  refine l_y (y_move rfl) rfl rfl rfl ?_
  refine l_y (y_not rfl) rfl rfl rfl ?_
  refine l_nil ?_
  refine p_then ?_
  refine c_cond rfl (fun hc0 => ?_) (fun hc0 => ?_)
  · try simp only [decide_eq_true_eq, decide_eq_false_iff_not, Bool.not_eq_true', Bool.not_eq_false', Bool.not_true, Bool.not_false, beq_iff_eq, bne_iff_ne, ne_eq, beq_eq_false_iff_ne, bne_eq_false_iff_eq, Decidable.not_not, Int.not_lt, Int.not_le] at hc0
    refine c_seq ?_
    refine c_region ?_
    refine l_y (y_fieldAddr (i := 8) (fo := 8) Try.underlying31 rfl rfl Try.sizeOf9 rfl rfl) rfl rfl rfl ?_
    refine l_du (o_store rfl rfl rfl Try.sizeOf9 rfl h3 (by simp) (by simp [Value.oneCell'])) rfl rfl ?_
    rintro _ ⟨g6, rfl, hv, h3'⟩
    replace hl := hl.ev hv
    replace hll := hll.ev hv
    replace hf := hf.ev hv
    replace h4 := h4.ev hv (fun hh => Blk.ne_ h4 h3 rfl hh)
    replace h6 := h6.ev hv (fun hh => Blk.ne_ h6 h3 rfl hh)
    replace hE := hE.step hv (fun x hx => .inr (by rw [hx]; exact h3_new))
    simp only [splice, List.set_cons_zero, List.set_cons_succ, Nat.reduceAdd, Nat.zero_add] at h3'
    replace h3 := h3'; clear h3' hv
    refine l_nil ?_
    refine p_then ?_
    refine c_seq ?_
    refine c_region ?_
    first | refine l_y (y_loada_blk (vs := [_, _, _, _, _, _, _, _, _, _]) rfl Try.isAgg31 Try.sizeOf31 (by assumption) rfl rfl) rfl rfl rfl ?_ | refine l_y (y_loada_el rfl Try.isAgg31 Try.sizeOf31 (by assumption) (by assumption)) rfl rfl rfl ?_
    refine l_y (y_struct [_, _, _, _, _, _, _, _, _, _, _] Try.underlying74 Try.zeroValue74 (pl := [(0, 1), (1, 10)]) (fun w => by simp) rfl rfl) rfl rfl rfl ?_
    refine l_du (o_store rfl rfl rfl Try.sizeOf74 rfl h4 (by simp) (by simp [Value.oneCell'])) rfl rfl ?_
    rintro _ ⟨g7, rfl, hv, h4'⟩
    replace hl := hl.ev hv
    replace hll := hll.ev hv
    replace hf := hf.ev hv
    replace h3 := h3.ev hv (fun hh => Blk.ne_ h3 h4 rfl hh)
    replace h6 := h6.ev hv (fun hh => Blk.ne_ h6 h4 rfl hh)
    replace hE := hE.step hv (fun x hx => .inr (by rw [hx]; exact h4_new))
    simp only [splice, List.set_cons_zero, List.set_cons_succ, Nat.reduceAdd, Nat.zero_add] at h4'
    replace h4 := h4'; clear h4' hv
    refine l_y (y_assign rfl) rfl rfl rfl ?_
    refine l_nil ?_
    refine p_then ?_
    refine c_ret ?_
    refine p_then_ret ?_
    refine p_ret2 rfl (rv_blka rfl Try.isAgg74 Try.sizeOf74 h4 rfl) (rv_tmp rfl) ?_
    have hA : applyF rs e = (⟨⟨#[]⟩, withStream e mainS⟩, 0) := by unfold applyF; rw [if_pos hc0]
    rw [hA]
    exact ⟨_, rfl, hE, _, _, rfl, rfl, _, rfl, la, ln, lc, fa, fn, fc, rfl, hll, hf⟩
  · try simp only [decide_eq_true_eq, decide_eq_false_iff_not, Bool.not_eq_true', Bool.not_eq_false', Bool.not_true, Bool.not_false, beq_iff_eq, bne_iff_ne, ne_eq, beq_eq_false_iff_ne, bne_eq_false_iff_eq, Decidable.not_not, Int.not_lt, Int.not_le] at hc0
    refine c_skip ?_
    refine p_then ?_
    refine c_seq ?_
    refine c_seq ?_
    refine c_region ?_
    refine l_y (y_fieldAddr (i := 5) (fo := 5) Try.underlying34 rfl rfl Try.sizeOf4 rfl rfl) rfl rfl rfl ?_
    first | refine l_y (y_load_blk rfl Try.isAgg4 (by assumption) rfl) rfl rfl rfl ?_ | refine l_y (y_load_el rfl Try.isAgg4 (by assumption) (by assumption) rfl) rfl rfl rfl ?_ | refine l_y (y_load_el0 rfl Try.isAgg4 (by assumption) (by assumption) rfl) rfl rfl rfl ?_
    refine l_y (y_not rfl) rfl rfl rfl ?_
    refine l_nil ?_
    refine p_then ?_
    refine c_cond rfl (fun hc1 => ?_) (fun hc1 => ?_)
    · try simp only [decide_eq_true_eq, decide_eq_false_iff_not, Bool.not_eq_true', Bool.not_eq_false', Bool.not_true, Bool.not_false, beq_iff_eq, bne_iff_ne, ne_eq, beq_eq_false_iff_ne, bne_eq_false_iff_eq, Decidable.not_not, Int.not_lt, Int.not_le] at hc1
      refine c_seq ?_
      refine c_region ?_
      refine l_y (y_fieldAddr (i := 3) (fo := 3) Try.underlying34 rfl rfl Try.sizeOf9 rfl rfl) rfl rfl rfl ?_
      first | refine l_y (y_load_blk rfl Try.isAgg9 (by assumption) rfl) rfl rfl rfl ?_ | refine l_y (y_load_el rfl Try.isAgg9 (by assumption) (by assumption) rfl) rfl rfl rfl ?_ | refine l_y (y_load_el0 rfl Try.isAgg9 (by assumption) (by assumption) rfl) rfl rfl rfl ?_
      refine l_y (y_fieldAddr (i := 8) (fo := 8) Try.underlying31 rfl rfl Try.sizeOf9 rfl rfl) rfl rfl rfl ?_
      refine l_du (o_store rfl rfl rfl Try.sizeOf9 rfl h3 (by simp) (by simp [Value.oneCell'])) rfl rfl ?_
      rintro _ ⟨g6, rfl, hv, h3'⟩
      replace hl := hl.ev hv
      replace hll := hll.ev hv
      replace hf := hf.ev hv
      replace h4 := h4.ev hv (fun hh => Blk.ne_ h4 h3 rfl hh)
      replace h6 := h6.ev hv (fun hh => Blk.ne_ h6 h3 rfl hh)
      replace hE := hE.step hv (fun x hx => .inr (by rw [hx]; exact h3_new))
      simp only [splice, List.set_cons_zero, List.set_cons_succ, Nat.reduceAdd, Nat.zero_add] at h3'
      replace h3 := h3'; clear h3' hv
      refine l_nil ?_
      refine p_then ?_
      refine c_seq ?_
      have ne3 : b3 ≠ b4 := h3.ne_ h4 rfl; have ne6 : b6 ≠ b4 := h6.ne_ h4 rfl
      refine c_ogt (EvS b4 74 (.string ⟨#[]⟩ :: [.int .i64 e.host, .int .i64 e.file, .int .i64 e.from_, .int .i64 e.to, .slice la ln lc, .int .i64 e.time, .int .i64 e.weight, .string e.trace, .string (decideF rs e).1.stream, .slice fa fn fc])) (EvS.pre _ _ _) (EvS.draw0 _ _ _ _) (JS b4 74 [.string ⟨#[]⟩, .int .i64 0, .int .i64 0, .int .i64 0, .int .i64 0, .slice none 0 0, .int .i64 0, .int .i64 0, .string ⟨#[]⟩, .string ⟨#[]⟩, .slice none 0 0] (.string ⟨#[]⟩ :: [.int .i64 e.host, .int .i64 e.file, .int .i64 e.from_, .int .i64 e.to, .slice la ln lc, .int .i64 e.time, .int .i64 e.weight, .string e.trace, .string (decideF rs e).1.stream, .slice fa fn fc])) [fEq (.agg ([.int .i64 e.host, .int .i64 e.file, .int .i64 e.from_, .int .i64 e.to, .slice la ln lc, .int .i64 e.time, .int .i64 e.weight, .string e.trace, .string (decideF rs e).1.stream, .slice fa fn fc]).toArray), fEq (.agg (.string ⟨#[]⟩ :: [.int .i64 e.host, .int .i64 e.file, .int .i64 e.from_, .int .i64 e.to, .slice la ln lc, .int .i64 e.time, .int .i64 e.weight, .string e.trace, .string (decideF rs e).1.stream, .slice fa fn fc]).toArray), fEq (.pointer (some ⟨b6, 0 + 4, none⟩)), fEq (.int .i64 (decideF rs e).1.prio), fDone b4 74 (.string ⟨#[]⟩ :: [.int .i64 e.host, .int .i64 e.file, .int .i64 e.from_, .int .i64 e.to, .slice la ln lc, .int .i64 e.time, .int .i64 e.weight, .string e.trace, .string (decideF rs e).1.stream, .slice fa fn fc])] 5 Try.mixo (by kernel_rfl) (by kernel_rfl) (by kernel_rfl) rfl (.inl h4.draw) (stabs_spec ⟨fEq.stab, fEq.stab, fEq.stab, fEq.stab, fDone.stab, trivial⟩) ?_ ?_
      · refine ⟨⟨rfl, fun g hv hJ => ?_⟩, ⟨rfl, fun g hv hJ => ?_⟩, ⟨rfl, fun g hv hJ => ?_⟩, ⟨rfl, fun g hv hJ => ?_⟩, ⟨rfl, fun g hv hJ => ?_⟩, trivial⟩
        · skip
          show OgDo _ _ _ _ _ _ _
          exact og_yR (y_loada_blk (vs := [_, _, _, _, _, _, _, _, _, _]) rfl Try.isAgg31 Try.sizeOf31 (h3.ev hv.1 ne3) rfl rfl) rfl ⟨Ev.refl _ _, fun h => h⟩ hJ fEq.mk
        · intro v0 hk0
          obtain rfl : v0 = _ := hk0
          show OgDo _ _ _ _ _ _ _
          exact og_yR (y_struct [_, _, _, _, _, _, _, _, _, _, _] Try.underlying74 Try.zeroValue74 (pl := [(0, 1), (1, 10)]) (fun w => by simp) rfl rfl) rfl ⟨Ev.refl _ _, fun h => h⟩ hJ fEq.mk
        · skip
          show OgDo _ _ _ _ _ _ _
          exact og_yR (y_fieldAddr (i := 4) (fo := 4) Try.underlying34 rfl rfl Try.sizeOf3 rfl rfl) rfl ⟨Ev.refl _ _, fun h => h⟩ hJ fEq.mk
        · intro v2 hk2
          obtain rfl : v2 = _ := hk2
          show OgDo _ _ _ _ _ _ _
          exact og_yR (y_load_blk rfl Try.isAgg3 (h6.ev hv.1 ne6) rfl) rfl ⟨Ev.refl _ _, fun h => h⟩ hJ fEq.mk
        · intro v1 hk1; intro v0 hk0; intro v1 hk1
          obtain rfl : v1 = _ := hk1
          show OgDo _ _ _ _ _ _ _
          exact og_store rfl rfl rfl rfl Try.sizeOf74 rfl hJ rfl rfl rfl rfl (by simp [Value.oneCell'])
      · intro g7 vs0 hv hJ hf0
        obtain ⟨v0, vs1, rfl, hk0, hf1⟩ := hf0.cons
        clear hf0
        obtain rfl : v0 = _ := hk0
        obtain ⟨v1, vs2, rfl, hk1, hf2⟩ := hf1.cons
        clear hf1
        obtain rfl : v1 = _ := hk1
        obtain ⟨v2, vs3, rfl, hk2, hf3⟩ := hf2.cons
        clear hf2
        obtain rfl : v2 = _ := hk2
        obtain ⟨v3, vs4, rfl, hk3, hf4⟩ := hf3.cons
        clear hf3
        obtain rfl : v3 = _ := hk3
        obtain ⟨v4, vs5, rfl, hk4, hf5⟩ := hf4.cons
        clear hf4
        skip
        obtain rfl := hf5.nil; clear hf5
        replace hv := hv.1
        replace hl := hl.ev hv
        replace hll := hll.ev hv
        replace hf := hf.ev hv
        replace h3 := h3.ev hv (fun hh => Blk.ne_ h3 h4 rfl hh)
        replace h6 := h6.ev hv (fun hh => Blk.ne_ h6 h4 rfl hh)
        replace hE := hE.step hv (fun x hx => .inr (by rw [hx]; exact h4_new))
        clear hv
        replace h4 := hk4
        refine l_y (y_assign rfl) rfl rfl rfl ?_
        refine l_nil ?_
        refine p_then ?_
        refine c_ret ?_
        refine p_then_ret ?_
        refine p_ret2 rfl (rv_blka rfl Try.isAgg74 Try.sizeOf74 h4 rfl) (rv_tmp rfl) ?_
        have hA : applyF rs e = (⟨⟨#[]⟩, withStream e (decideF rs e).1.stream⟩, (decideF rs e).1.prio) := by unfold applyF; rw [if_neg (by rw [hc0]; simp), if_pos hc1]
        rw [hA]
        exact ⟨_, rfl, hE, _, _, rfl, rfl, _, rfl, la, ln, lc, fa, fn, fc, rfl, hll, hf⟩
    · try simp only [decide_eq_true_eq, decide_eq_false_iff_not, Bool.not_eq_true', Bool.not_eq_false', Bool.not_true, Bool.not_false, beq_iff_eq, bne_iff_ne, ne_eq, beq_eq_false_iff_ne, bne_eq_false_iff_eq, Decidable.not_not, Int.not_lt, Int.not_le] at hc1
      refine c_skip ?_
      refine p_then ?_
      refine c_seq ?_
      refine c_region ?_
      refine l_y (y_fieldAddr (i := 0) (fo := 0) Try.underlying31 rfl rfl Try.sizeOf3 rfl rfl) rfl rfl rfl ?_
      first | refine l_y (y_load_blk rfl Try.isAgg3 (by assumption) rfl) rfl rfl rfl ?_ | refine l_y (y_load_el rfl Try.isAgg3 (by assumption) (by assumption) rfl) rfl rfl rfl ?_ | refine l_y (y_load_el0 rfl Try.isAgg3 (by assumption) (by assumption) rfl) rfl rfl rfl ?_
      refine l_y (y_fieldAddr (i := 1) (fo := 1) Try.underlying31 rfl rfl Try.sizeOf3 rfl rfl) rfl rfl rfl ?_
      first | refine l_y (y_load_blk rfl Try.isAgg3 (by assumption) rfl) rfl rfl rfl ?_ | refine l_y (y_load_el rfl Try.isAgg3 (by assumption) (by assumption) rfl) rfl rfl rfl ?_ | refine l_y (y_load_el0 rfl Try.isAgg3 (by assumption) (by assumption) rfl) rfl rfl rfl ?_
      refine l_y (y_fieldAddr (i := 2) (fo := 2) Try.underlying31 rfl rfl Try.sizeOf3 rfl rfl) rfl rfl rfl ?_
      first | refine l_y (y_load_blk rfl Try.isAgg3 (by assumption) rfl) rfl rfl rfl ?_ | refine l_y (y_load_el rfl Try.isAgg3 (by assumption) (by assumption) rfl) rfl rfl rfl ?_ | refine l_y (y_load_el0 rfl Try.isAgg3 (by assumption) (by assumption) rfl) rfl rfl rfl ?_
      refine l_y (y_fieldAddr (i := 3) (fo := 3) Try.underlying31 rfl rfl Try.sizeOf3 rfl rfl) rfl rfl rfl ?_
      first | refine l_y (y_load_blk rfl Try.isAgg3 (by assumption) rfl) rfl rfl rfl ?_ | refine l_y (y_load_el rfl Try.isAgg3 (by assumption) (by assumption) rfl) rfl rfl rfl ?_ | refine l_y (y_load_el0 rfl Try.isAgg3 (by assumption) (by assumption) rfl) rfl rfl rfl ?_
      refine l_y (y_struct [_, _, _, _, _, _, _, _, _, _] Try.underlying31 Try.zeroValue31 (pl := [(0, 1), (1, 1), (2, 1), (3, 1), (4, 1), (5, 1), (6, 1), (7, 1), (8, 1), (9, 1)]) (fun w => by simp) rfl rfl) rfl rfl rfl ?_
      have hE0 := hE
      refine l_do (o_alloc Try.zeroValue31 rfl) rfl rfl rfl ?_
      rintro _ _ ⟨g6, b8, rfl, rfl, hv, h8, h8_new⟩
      have ne_h3_h8 : b3 ≠ b8 := by have := h3.lt; omega
      have ne_h8_h3 := Ne.symm ne_h3_h8
      replace hl := hl.ev hv
      replace hll := hll.ev hv
      replace hf := hf.ev hv
      replace h3 := h3.ev hv nno
      replace h4 := h4.ev hv nno
      replace h6 := h6.ev hv nno
      replace hE := hE.no hv
      replace h8_new := Nat.le_trans hE0.size (Nat.le_of_eq h8_new.symm)
      clear hE0 hv
      refine l_du (o_store rfl rfl rfl Try.sizeOf31 rfl h8 (by simp) (by simp [Value.oneCell'])) rfl rfl ?_
      rintro _ ⟨g7, rfl, hv, h8'⟩
      replace hl := hl.ev hv
      replace hll := hll.ev hv
      replace hf := hf.ev hv
      replace h3 := h3.ev hv (ne_h3_h8)
      replace h4 := h4.ev hv (fun hh => Blk.ne_ h4 h8 rfl hh)
      replace h6 := h6.ev hv (fun hh => Blk.ne_ h6 h8 rfl hh)
      replace hE := hE.step hv (fun x hx => .inr (by rw [hx]; exact h8_new))
      simp only [splice, List.set_cons_zero, List.set_cons_succ, Nat.reduceAdd, Nat.zero_add] at h8'
      replace h8 := h8'; clear h8' hv
      refine l_nil ?_
      refine p_then ?_
      refine c_seq ?_
      refine c_seq ?_
      have ne38 := ne_h3_h8
      refine c_region ?_
      refine l_y (y_fieldAddr (i := 4) (fo := 4) Try.underlying31 rfl rfl Try.sizeOf28 rfl rfl) rfl rfl rfl ?_
      first | refine l_y (y_load_blk rfl Try.isAgg28 (by assumption) rfl) rfl rfl rfl ?_ | refine l_y (y_load_el rfl Try.isAgg28 (by assumption) (by assumption) rfl) rfl rfl rfl ?_ | refine l_y (y_load_el0 rfl Try.isAgg28 (by assumption) (by assumption) rfl) rfl rfl rfl ?_
      refine l_y (y_len_slice Try.underlying28 rfl) rfl rfl rfl ?_
      refine l_y (y_move rfl) rfl rfl rfl ?_
      refine l_nil ?_
      refine p_then ?_
      refine c_block ?_
      have h3_lt := h3_new; have h4_lt := h4_new; have h6_lt := h6_new; have h8_lt := h8_new
      clear h3_new h4_new h6_new h8_new
      refine c_loop (γ := Nat × Option Addr × Nat) (fun x w => ∃ gg : Gw, gg.w = w ∧ Ev Mno g gg ∧ FSf gg la ln lc 3 linC e.lines ∧ FSf gg fa fn fc 2 fldC e.fields ∧ Blk gg b3 31 [.int .i64 e.host, .int .i64 e.file, .int .i64 e.from_, .int .i64 e.to, .slice la ln lc, .int .i64 e.time, .int .i64 e.weight, .string e.trace, .string e.stream, .slice fa fn fc] ∧ Blk gg b4 74 [.string ⟨#[]⟩, .int .i64 0, .int .i64 0, .int .i64 0, .int .i64 0, .slice none 0 0, .int .i64 0, .int .i64 0, .string ⟨#[]⟩, .string ⟨#[]⟩, .slice none 0 0] ∧ Blk gg b6 34 (rouC (decideF rs e).1) ∧ Blk gg b8 31 [.int .i64 e.host, .int .i64 e.file, .int .i64 e.from_, .int .i64 e.to, .slice x.2.1 x.1 x.2.2, .int .i64 0, .int .i64 0, .string ⟨#[]⟩, .string ⟨#[]⟩, .slice none 0 0] ∧ x.1 ≤ ln ∧ FSf gg x.2.1 x.1 x.2.2 3 linC ((e.lines.take x.1).map bare) ∧ Own gg g.w.heap.size x.2.1 x.1 x.2.2 3 78) (fun x => [(44, .int .i64 (x.1 : Int))] ++ _) (fun x => ln - x.1) (0, none, 0) ⟨g7, rfl, hE, hll, hf, h3, h4, h6, h8, Nat.zero_le _, FSf.nil _ _ _ _ _ (fun _ => rfl) (Nat.zero_le _), Own.nil _ _ _ _⟩ (Sub.backN 0 rfl (Sub.cons rfl (Sub.nil)) rfl) ?_
      rintro ⟨i, a, cp⟩ _ ⟨g8, rfl, hE, hll, hf, h3, h4, h6, h8, hi, ho, hown⟩
      try dsimp only
      try dsimp only at hll
      try dsimp only at hf
      try dsimp only at h3
      try dsimp only at h4
      try dsimp only at h6
      try dsimp only at h8
      try dsimp only at hi
      try dsimp only at ho
      try dsimp only at hown
      refine c_seq ?_
      refine c_region ?_
      refine l_y (y_lss rfl rfl) rfl rfl rfl ?_
      refine l_nil ?_
      refine p_then ?_
      refine c_seq ?_
      have hnum := hll.num
      have h3_new := h3_lt; have h4_new := h4_lt; have h6_new := h6_lt; have h8_new := h8_lt
      have ne_h3_h8 : b3 ≠ b8 := ne38; have ne_h8_h3 := Ne.symm ne_h3_h8
      refine c_cond rfl (fun hc2 => ?_) (fun hc2 => ?_)
      · try simp only [decide_eq_true_eq, decide_eq_false_iff_not, Bool.not_eq_true', Bool.not_eq_false', Bool.not_true, Bool.not_false, beq_iff_eq, bne_iff_ne, ne_eq, beq_eq_false_iff_ne, bne_eq_false_iff_eq, Decidable.not_not, Int.not_lt, Int.not_le] at hc2
        refine c_skip ?_
        refine p_then ?_
        refine c_seq ?_
        refine c_block ?_
        refine c_seq ?_
        refine c_region ?_
        obtain ⟨lb, lo, rfl⟩ := hll.at_ (by omega)
        obtain ⟨q, hq⟩ := hll.get (i := i) (by omega)
        first | refine l_y (y_indexAddr Try.underlying28 Try.sizeOf78 rfl rfl (by omega)) rfl rfl rfl ?_ | refine l_y (y_indexAddr_int Try.underlying28 Try.sizeOf78 rfl rfl (by omega) (by omega)) rfl rfl rfl ?_
        first | refine l_y (y_loada_blk (vs := [_, _, _]) rfl Try.isAgg78 Try.sizeOf78 (by assumption) rfl rfl) rfl rfl rfl ?_ | refine l_y (y_loada_el rfl Try.isAgg78 Try.sizeOf78 (by assumption) (by assumption)) rfl rfl rfl ?_
        have hE0 := hE
        refine l_do (o_alloc Try.zeroValue78 rfl) rfl rfl rfl ?_
        have hlt_hown := Own.blk_lt hown
        rintro _ _ ⟨g9, b10, rfl, rfl, hv, h10, h10_new⟩
        replace hlt_hown : ∀ x, blkOf _ x → x ≠ b10 := fun x hx => by have := hlt_hown x hx; omega
        have hne_hown_h10 := hlt_hown; clear hlt_hown
        replace hll := hll.ev hv
        replace hf := hf.ev hv
        replace ho := ho.ev hv
        replace h3 := h3.ev hv nno
        replace h4 := h4.ev hv nno
        replace h6 := h6.ev hv nno
        replace h8 := h8.ev hv nno
        replace hown := hown.ev hv nno3
        replace hE := hE.no hv
        replace h10_new := Nat.le_trans hE0.size (Nat.le_of_eq h10_new.symm)
        clear hE0 hv
        refine l_du (o_store rfl rfl rfl Try.sizeOf78 rfl h10 (by simp) (by simp [Value.oneCell'])) rfl rfl ?_
        rintro _ ⟨g10, rfl, hv, h10'⟩
        replace hll := hll.ev hv
        replace hf := hf.ev hv
        replace ho := ho.ev hv
        replace h3 := h3.ev hv (fun hh => Blk.ne_ h3 h10 rfl hh)
        replace h4 := h4.ev hv (fun hh => Blk.ne_ h4 h10 rfl hh)
        replace h6 := h6.ev hv (fun hh => Blk.ne_ h6 h10 rfl hh)
        replace h8 := h8.ev hv (fun hh => Blk.ne_ h8 h10 rfl hh)
        replace hown := hown.ev hv (fun x hx _ hxx => hne_hown_h10 x hx hxx)
        replace hE := hE.step hv (fun x hx => .inr (by rw [hx]; exact h10_new))
        simp only [splice, List.set_cons_zero, List.set_cons_succ, Nat.reduceAdd, Nat.zero_add] at h10'
        replace h10 := h10'; clear h10' hv
        refine l_nil ?_
        refine p_then ?_
        refine c_region ?_
        refine l_y (y_fieldAddr (i := 4) (fo := 4) Try.underlying31 rfl rfl Try.sizeOf28 rfl rfl) rfl rfl rfl ?_
        first | refine l_y (y_load_blk rfl Try.isAgg28 (by assumption) rfl) rfl rfl rfl ?_ | refine l_y (y_load_el rfl Try.isAgg28 (by assumption) (by assumption) rfl) rfl rfl rfl ?_ | refine l_y (y_load_el0 rfl Try.isAgg28 (by assumption) (by assumption) rfl) rfl rfl rfl ?_
        refine l_y (y_fieldAddr (i := 0) (fo := 0) Try.underlying78 rfl rfl Try.sizeOf3 rfl rfl) rfl rfl rfl ?_
        first | refine l_y (y_load_blk rfl Try.isAgg3 (by assumption) rfl) rfl rfl rfl ?_ | refine l_y (y_load_el rfl Try.isAgg3 (by assumption) (by assumption) rfl) rfl rfl rfl ?_ | refine l_y (y_load_el0 rfl Try.isAgg3 (by assumption) (by assumption) rfl) rfl rfl rfl ?_
        refine l_y (y_fieldAddr (i := 1) (fo := 1) Try.underlying78 rfl rfl Try.sizeOf3 rfl rfl) rfl rfl rfl ?_
        first | refine l_y (y_load_blk rfl Try.isAgg3 (by assumption) rfl) rfl rfl rfl ?_ | refine l_y (y_load_el rfl Try.isAgg3 (by assumption) (by assumption) rfl) rfl rfl rfl ?_ | refine l_y (y_load_el0 rfl Try.isAgg3 (by assumption) (by assumption) rfl) rfl rfl rfl ?_
        refine l_y (y_struct [_, _, _] Try.underlying78 Try.zeroValue78 (pl := [(0, 1), (1, 1), (2, 1)]) (fun w => by simp) rfl rfl) rfl rfl rfl ?_
        have hE0 := hE
        refine l_do (o_lit rfl Try.underlying28 Try.sizeOf78 Try.zeroValue78 rfl rfl rfl rfl rfl) rfl rfl rfl ?_
        rintro _ _ ⟨g11, b55, rfl, rfl, hv, h55, h55_own, h55_new⟩
        replace hll := hll.ev hv
        replace hf := hf.ev hv
        replace ho := ho.ev hv
        replace h3 := h3.ev hv nno
        replace h4 := h4.ev hv nno
        replace h6 := h6.ev hv nno
        replace h8 := h8.ev hv nno
        replace hown := hown.ev hv nno3
        replace h10 := h10.ev hv nno
        replace hE := hE.no hv
        replace h55_new := Nat.le_trans hE0.size (Nat.le_of_eq h55_new.symm)
        clear hE0 hv h55_own
        simp only [List.flatMap_cons, List.flatMap_nil, List.append_nil, Value.cells, List.cons_append, List.nil_append, List.toList_toArray] at h55
        refine l_do (o_app (B := 32) (sz := 3) rfl rfl Try.underlying28 Try.info78 rfl rfl rfl rfl rfl hown ho.sl h55 (by simp [Value.oneCell', Value.cells]) (by omega) (by omega) hE.size) rfl rfl rfl ?_
        rintro _ _ ⟨g12, a56, c56, rfl, rfl, hv, ho', hown', _⟩
        replace hll := hll.ev hv
        replace hf := hf.ev hv
        replace h3 := h3.ev hv (Own.ne_blk hown h3 rfl)
        replace h4 := h4.ev hv (Own.ne_blk hown h4 rfl)
        replace h6 := h6.ev hv (Own.ne_blk hown h6 rfl)
        replace h8 := h8.ev hv (Own.ne_blk hown h8 rfl)
        replace h10 := h10.ev hv (fun hk => hne_hown_h10 _ hk rfl)
        replace h55 := h55.ev hv
        replace hE := hE.step hv (fun x hx => .inr (Nat.le_trans (Nat.le_of_eq rfl) (Own.blk_base hown x hx)))
        clear hv
        replace ho' := FSf.of ho' linC ((e.lines.take i).map bare ++ [bare q]) (fun _ => rfl) (by simp [bare, linC]) (by rw [List.length_append, ho.num]; rfl)
        replace ho := ho'; replace hown := hown'; clear ho' hown'
        refine l_y (y_fieldAddr (i := 4) (fo := 4) Try.underlying31 rfl rfl Try.sizeOf28 rfl rfl) rfl rfl rfl ?_
        refine l_du (o_store rfl rfl rfl Try.sizeOf28 rfl h8 (by simp) (by simp [Value.oneCell'])) rfl rfl ?_
        rintro _ ⟨g13, rfl, hv, h8'⟩
        replace hll := hll.ev hv
        replace hf := hf.ev hv
        replace ho := ho.ev hv
        replace h3 := h3.ev hv (ne_h3_h8)
        replace h4 := h4.ev hv (fun hh => Blk.ne_ h4 h8 rfl hh)
        replace h6 := h6.ev hv (fun hh => Blk.ne_ h6 h8 rfl hh)
        replace hown := hown.ev hv (own_ne hown h8 rfl)
        replace h10 := h10.ev hv (fun hh => Blk.ne_ h10 h8 rfl hh)
        replace hE := hE.step hv (fun x hx => .inr (by rw [hx]; exact h8_new))
        simp only [splice, List.set_cons_zero, List.set_cons_succ, Nat.reduceAdd, Nat.zero_add] at h8'
        replace h8 := h8'; clear h8' hv
        refine l_nil ?_
        refine p_blk ?_
        refine p_then ?_
        refine c_region ?_
        first | refine l_y (y_add_in rfl rfl (by omega) (by omega)) rfl rfl rfl ?_ | refine l_y (y_add rfl rfl) rfl rfl rfl ?_
        refine l_y (y_move rfl) rfl rfl rfl ?_
        refine l_nil ?_
        exact p_back (i + 1, a56, c56) ⟨g13, rfl, hE, hll, hf, h3, h4, h6, h8, by (try dsimp only); omega, by (try dsimp only); rw [List.take_add_one, hq, List.map_append]; exact ho, hown⟩ (Sub.backN 17 rfl (Sub.cons rfl (Sub.nil)) rfl) (by (try dsimp only); omega)
      · try simp only [decide_eq_true_eq, decide_eq_false_iff_not, Bool.not_eq_true', Bool.not_eq_false', Bool.not_true, Bool.not_false, beq_iff_eq, bne_iff_ne, ne_eq, beq_eq_false_iff_ne, bne_eq_false_iff_eq, Decidable.not_not, Int.not_lt, Int.not_le] at hc2
        refine c_exit ?_
        refine p_then_exit ?_
        refine p_then_exit ?_
        refine p_blk_exit ?_
        refine p_then ?_
        refine c_seq ?_
        have ne3 : b3 ≠ b4 := h3.ne_ h4 rfl; have ne6 : b6 ≠ b4 := h6.ne_ h4 rfl
        have ne_h8 : b8 ≠ b4 := h8.ne_ h4 rfl
        refine c_ogt (EvS b4 74 (.string (decideF rs e).1.name :: [.int .i64 e.host, .int .i64 e.file, .int .i64 e.from_, .int .i64 e.to, .slice a i cp, .int .i64 0, .int .i64 0, .string ⟨#[]⟩, .string ⟨#[]⟩, .slice none 0 0])) (EvS.pre _ _ _) (EvS.draw0 _ _ _ _) (JS b4 74 [.string ⟨#[]⟩, .int .i64 0, .int .i64 0, .int .i64 0, .int .i64 0, .slice none 0 0, .int .i64 0, .int .i64 0, .string ⟨#[]⟩, .string ⟨#[]⟩, .slice none 0 0] (.string (decideF rs e).1.name :: [.int .i64 e.host, .int .i64 e.file, .int .i64 e.from_, .int .i64 e.to, .slice a i cp, .int .i64 0, .int .i64 0, .string ⟨#[]⟩, .string ⟨#[]⟩, .slice none 0 0])) [fEq (.pointer (some ⟨b6, 0 + 0, none⟩)), fEq (.string (decideF rs e).1.name), fEq (.agg ([.int .i64 e.host, .int .i64 e.file, .int .i64 e.from_, .int .i64 e.to, .slice a i cp, .int .i64 0, .int .i64 0, .string ⟨#[]⟩, .string ⟨#[]⟩, .slice none 0 0]).toArray), fEq (.agg (.string (decideF rs e).1.name :: [.int .i64 e.host, .int .i64 e.file, .int .i64 e.from_, .int .i64 e.to, .slice a i cp, .int .i64 0, .int .i64 0, .string ⟨#[]⟩, .string ⟨#[]⟩, .slice none 0 0]).toArray), fEq (.pointer (some ⟨b6, 0 + 4, none⟩)), fEq (.int .i64 (decideF rs e).1.prio), fDone b4 74 (.string (decideF rs e).1.name :: [.int .i64 e.host, .int .i64 e.file, .int .i64 e.from_, .int .i64 e.to, .slice a i cp, .int .i64 0, .int .i64 0, .string ⟨#[]⟩, .string ⟨#[]⟩, .slice none 0 0])] 7 Try.mixo (by kernel_rfl) (by kernel_rfl) (by kernel_rfl) rfl (.inl h4.draw) (stabs_spec ⟨fEq.stab, fEq.stab, fEq.stab, fEq.stab, fEq.stab, fEq.stab, fDone.stab, trivial⟩) ?_ ?_
        · refine ⟨⟨rfl, fun g hv hJ => ?_⟩, ⟨rfl, fun g hv hJ => ?_⟩, ⟨rfl, fun g hv hJ => ?_⟩, ⟨rfl, fun g hv hJ => ?_⟩, ⟨rfl, fun g hv hJ => ?_⟩, ⟨rfl, fun g hv hJ => ?_⟩, ⟨rfl, fun g hv hJ => ?_⟩, trivial⟩
          · skip
            show OgDo _ _ _ _ _ _ _
            exact og_yR (y_fieldAddr (i := 0) (fo := 0) Try.underlying34 rfl rfl Try.sizeOf9 rfl rfl) rfl ⟨Ev.refl _ _, fun h => h⟩ hJ fEq.mk
          · intro v0 hk0
            obtain rfl : v0 = _ := hk0
            show OgDo _ _ _ _ _ _ _
            exact og_yR (y_load_blk rfl Try.isAgg9 (h6.ev hv.1 ne6) rfl) rfl ⟨Ev.refl _ _, fun h => h⟩ hJ fEq.mk
          · skip
            show OgDo _ _ _ _ _ _ _
            exact og_yR (y_loada_blk (vs := [_, _, _, _, _, _, _, _, _, _]) rfl Try.isAgg31 Try.sizeOf31 (h8.ev hv.1 ne_h8) rfl rfl) rfl ⟨Ev.refl _ _, fun h => h⟩ hJ fEq.mk
          · intro v1 hk1; intro v2 hk2
            obtain rfl : v1 = _ := hk1
            obtain rfl : v2 = _ := hk2
            show OgDo _ _ _ _ _ _ _
            exact og_yR (y_struct [_, _, _, _, _, _, _, _, _, _, _] Try.underlying74 Try.zeroValue74 (pl := [(0, 1), (1, 10)]) (fun w => by simp) rfl rfl) rfl ⟨Ev.refl _ _, fun h => h⟩ hJ fEq.mk
          · skip
            show OgDo _ _ _ _ _ _ _
            exact og_yR (y_fieldAddr (i := 4) (fo := 4) Try.underlying34 rfl rfl Try.sizeOf3 rfl rfl) rfl ⟨Ev.refl _ _, fun h => h⟩ hJ fEq.mk
          · intro v4 hk4
            obtain rfl : v4 = _ := hk4
            show OgDo _ _ _ _ _ _ _
            exact og_yR (y_load_blk rfl Try.isAgg3 (h6.ev hv.1 ne6) rfl) rfl ⟨Ev.refl _ _, fun h => h⟩ hJ fEq.mk
          · intro v3 hk3; intro v0 hk0; intro v1 hk1; intro v2 hk2; intro v3 hk3
            obtain rfl : v3 = _ := hk3
            show OgDo _ _ _ _ _ _ _
            exact og_store rfl rfl rfl rfl Try.sizeOf74 rfl hJ rfl rfl rfl rfl (by simp [Value.oneCell'])
        · intro g9 vs0 hv hJ hf0
          obtain ⟨v0, vs1, rfl, hk0, hf1⟩ := hf0.cons
          clear hf0
          obtain rfl : v0 = _ := hk0
          obtain ⟨v1, vs2, rfl, hk1, hf2⟩ := hf1.cons
          clear hf1
          obtain rfl : v1 = _ := hk1
          obtain ⟨v2, vs3, rfl, hk2, hf3⟩ := hf2.cons
          clear hf2
          obtain rfl : v2 = _ := hk2
          obtain ⟨v3, vs4, rfl, hk3, hf4⟩ := hf3.cons
          clear hf3
          obtain rfl : v3 = _ := hk3
          obtain ⟨v4, vs5, rfl, hk4, hf5⟩ := hf4.cons
          clear hf4
          obtain rfl : v4 = _ := hk4
          obtain ⟨v5, vs6, rfl, hk5, hf6⟩ := hf5.cons
          clear hf5
          obtain rfl : v5 = _ := hk5
          obtain ⟨v6, vs7, rfl, hk6, hf7⟩ := hf6.cons
          clear hf6
          skip
          obtain rfl := hf7.nil; clear hf7
          replace hv := hv.1
          replace hll := hll.ev hv
          replace hf := hf.ev hv
          replace ho := ho.ev hv
          replace h3 := h3.ev hv (fun hh => Blk.ne_ h3 h4 rfl hh)
          replace h6 := h6.ev hv (fun hh => Blk.ne_ h6 h4 rfl hh)
          replace h8 := h8.ev hv (fun hh => Blk.ne_ h8 h4 rfl hh)
          replace hown := hown.ev hv (own_ne hown h4 rfl)
          replace hE := hE.step hv (fun x hx => .inr (by rw [hx]; exact h4_new))
          clear hv
          replace h4 := hk6
          refine l_y (y_assign rfl) rfl rfl rfl ?_
          refine l_nil ?_
          refine p_then ?_
          refine c_ret ?_
          refine p_ret2 rfl (rv_blka rfl Try.isAgg74 Try.sizeOf74 h4 rfl) (rv_tmp rfl) ?_
          have hA : applyF rs e = (⟨(decideF rs e).1.name, skipEv e⟩, (decideF rs e).1.prio) := by unfold applyF; rw [if_neg (by rw [hc0]; simp), if_neg (by rw [hc1]; simp)]
          rw [hA]
          have hil : i = ln := by omega
          subst hil
          rw [List.take_of_length_le (by omega)] at ho
          exact ⟨_, rfl, hE, _, _, rfl, rfl, _, rfl, a, i, cp, none, 0, 0, rfl, ho, FSf.nil _ none 0 2 fldC (fun _ => rfl) (Nat.zero_le _)⟩
end Go.Proofs.Ytiamjjeflmcgoaa
