/- Walks of the functions that draw events. -/
import Derived.Test.YtiamjjeflmcgoaaMk1
set_option linter.unusedSimpArgs false
set_option linter.unusedVariables false
namespace Go.Proofs.Ytiamjjeflmcgoaa
open Go.Eng
/-- A field: name and value. -/
abbrev FieldD := ByteArray × ByteArray
abbrev fldC : FieldD → List Value := fun f => [.string f.1, .string f.2]
/-- A line: offset, length, text. -/
structure LineD where
  off : Int
  len : Int
  text : ByteArray
abbrev linC : LineD → List Value := fun l => [.int .i64 l.off, .int .i64 l.len, .string l.text]
/-- Lines one after the other, from an offset to another. -/
def chain (a : Int) : List LineD → Int → Prop
  | [], b => a = b
  | l :: r, b => l.off = a ∧ 1 ≤ l.len ∧ l.len ≤ 20 ∧ l.text.size ≤ 100 ∧ chain (a + l.len) r b
theorem chain_snoc {l : LineD} : ∀ {ls : List LineD} {a b : Int}, chain a ls b → l.off = b → 1 ≤ l.len → l.len ≤ 20 → l.text.size ≤ 100 → chain a (ls ++ [l]) (b + l.len)
  | [], a, b, h, h1, h2, h3, h4 => by
    have h : a = b := h
    subst h
    exact ⟨h1, h2, h3, h4, rfl⟩
  | x :: r, a, b, ⟨g1, g2, g3, g4, g5⟩, h1, h2, h3, h4 => ⟨g1, g2, g3, g4, chain_snoc g5 h1 h2 h3 h4⟩
def fldNames : List ByteArray := [⟨#[97]⟩, ⟨#[105, 100]⟩, ⟨#[108, 101, 118, 101, 108]⟩, ⟨#[117, 115, 101, 114]⟩]
def fldVals : List ByteArray := [⟨#[]⟩, ⟨#[49]⟩, ⟨#[105, 110, 102, 111]⟩, ⟨#[119, 97, 114, 110]⟩, ⟨#[97, 110, 110]⟩, ⟨#[50, 46, 53, 48]⟩, ⟨#[116, 114, 117, 101]⟩, ⟨#[116, 49]⟩]
/-- Fields that are drawn. -/
def FldsOK (fs : List FieldD) : Prop := (fs.map (·.1)).Sublist fldNames ∧ ∀ f ∈ fs, f.2 ∈ fldVals
theorem chain_last : ∀ {ls : List LineD} {a b : Int} {l : LineD}, chain a ls b → ls[ls.length - 1]? = some l → l.off + l.len = b
  | [], _, _, _, _, h => by simp at h
  | [x], a, b, l, ⟨h1, _, _, _, h5⟩, h => by
    simp at h
    subst h
    have h5 : a + x.len = b := h5
    omega
  | x :: y :: r, a, b, l, ⟨_, _, _, _, h5⟩, h => chain_last (ls := y :: r) h5 (by simpa using h)
theorem chain_pos : ∀ {ls : List LineD} {a b : Int}, chain a ls b → a + ls.length ≤ b ∧ b ≤ a + 20 * ls.length
  | [], a, b, h => by
    have h : a = b := h
    simp; omega
  | x :: r, a, b, ⟨h1, h2, h3, _, h5⟩ => by
    have := chain_pos h5
    simp; omega
/-- An event. -/
structure EventD where
  host : Int
  file : Int
  from_ : Int
  to : Int
  lines : List LineD
  time : Int
  weight : Int
  trace : ByteArray
  stream : ByteArray
  fields : List FieldD
/-- The cells of an event. -/
def EvRep (g : Gw) (cs : List Value) (e : EventD) : Prop := ∃ la ln lc fa fn fc, cs = [.int .i64 e.host, .int .i64 e.file, .int .i64 e.from_, .int .i64 e.to, .slice la ln lc, .int .i64 e.time, .int .i64 e.weight, .string e.trace, .string e.stream, .slice fa fn fc] ∧
  FSf g la ln lc 3 linC e.lines ∧ FSf g fa fn fc 2 fldC e.fields
theorem EvRep.ev {M : Nat → Prop} {g g' : Gw} {cs : List Value} {e : EventD} (h : EvRep g cs e) (he : Ev M g g') : EvRep g' cs e := by
  obtain ⟨la, ln, lc, fa, fn, fc, h1, h2, h3⟩ := h
  exact ⟨la, ln, lc, fa, fn, fc, h1, h2.ev he, h3.ev he⟩
/-- What the drawn events have. -/
structure GoodEv (e : EventD) : Prop where
  host : 0 ≤ e.host ∧ e.host < 3
  file : 0 ≤ e.file ∧ e.file < 3
  from_ : 0 ≤ e.from_ ∧ e.from_ ≤ 50
  chain : chain e.from_ e.lines e.to
  some_ : 1 ≤ e.lines.length ∧ e.lines.length ≤ 20
  time : 0 ≤ e.time ∧ e.time ≤ 255000
  weight : e.weight = 1 ∨ e.weight = 2 ∨ e.weight = 5040
  trace : e.trace.size ≤ 2
  stream : 1 ≤ e.stream.size ∧ e.stream.size ≤ 5
  fields : FldsOK e.fields

set_option maxHeartbeats 1000000 in
theorem fields_m {g : Gw} {pc : Nat} (hC : Cods 80 g pc) :
    CallsV Try.prog 41 [.pointer (some ⟨pc, 0, none⟩)].toArray g.w (Ret (· = pc) g fun v g' => Cods 80 g' pc ∧ ∃ a n c fs, v = .slice a n c ∧ FSf g' a n c 2 fldC fs ∧ Own g' g.w.heap.size a n c 2 109 ∧ FldsOK fs) := by
  refine enter Try.func41 rfl Try.ntmps41 rfl ?_
  have hE := Ev.refl (· = pc) g
  have hpc := hC.lt
  refine c_seq ?_
  refine c_region ?_
  refine l_y (y_assign rfl) rfl rfl rfl ?_
  refine l_nil ?_
  refine p_then ?_
  refine c_seq ?_
  refine c_region ?_
  refine l_y (y_assign rfl) rfl rfl rfl ?_
  refine l_nil ?_
  refine p_then ?_
  refine c_seq ?_
  refine c_seq ?_
  refine c_region ?_
  have hE0 := hE
  refine l_do (o_lit rfl Try.underlying98 Try.sizeOf9 Try.zeroValue9 rfl rfl rfl rfl rfl) rfl rfl rfl ?_
  rintro _ _ ⟨g1, b6, rfl, rfl, hv, h6, h6_own, h6_new⟩
  replace hC := hC.ev hv nno
  replace hE := hE.no hv
  replace h6_new := Nat.le_trans hE0.size (Nat.le_of_eq h6_new.symm)
  clear hE0 hv h6_own
  replace h6 := FSf.of h6 strC fldNames (fun _ => rfl) rfl rfl
  refine l_y (y_len_slice Try.underlying98 rfl) rfl rfl rfl ?_
  refine l_y (y_move rfl) rfl rfl rfl ?_
  refine l_nil ?_
  refine p_then ?_
  refine c_block ?_
  refine c_loop (γ := Nat × Option Addr × Nat × Nat × List FieldD) (fun x w => ∃ gg : Gw, gg.w = w ∧ Ev (· = pc) g gg ∧ Cods 80 gg pc ∧ FSf gg (some ⟨b6, 0, none⟩) 4 4 1 strC fldNames ∧ x.1 ≤ 4 ∧ x.2.2.1 ≤ x.1 ∧ FSf gg x.2.1 x.2.2.1 x.2.2.2.1 2 fldC x.2.2.2.2 ∧ Own gg g.w.heap.size x.2.1 x.2.2.1 x.2.2.2.1 2 109 ∧ (x.2.2.2.2.map (·.1)).Sublist (fldNames.take x.1) ∧ ∀ f ∈ x.2.2.2.2, f.2 ∈ fldVals) (fun x => [(8, .int .i64 (x.1 : Int)), (3, .slice x.2.1 x.2.2.1 x.2.2.2.1)] ++ _) (fun x => 4 - x.1) (0, none, 0, 0, []) ⟨g1, rfl, hE, hC, h6, Nat.zero_le _, Nat.zero_le _, FSf.nil _ _ _ _ _ (fun _ => rfl) (Nat.zero_le _), Own.nil _ _ _ _, by simp, by simp⟩ (Sub.backN 0 rfl (Sub.cons rfl (Sub.cons rfl (Sub.nil))) rfl) ?_
  rintro ⟨i, a, n, cp, fs⟩ _ ⟨g2, rfl, hE, hC, h6, hi, hn, ho, hown, hsub, hval⟩
  try dsimp only
  try dsimp only at h6
  try dsimp only at hi
  try dsimp only at hn
  try dsimp only at ho
  try dsimp only at hown
  try dsimp only at hsub
  try dsimp only at hval
  refine c_seq ?_
  refine c_region ?_
  refine l_y (y_lss rfl rfl) rfl rfl rfl ?_
  refine l_nil ?_
  refine p_then ?_
  refine c_seq ?_
  refine c_cond rfl (fun hc0 => ?_) (fun hc0 => ?_)
  · try simp only [decide_eq_true_eq, decide_eq_false_iff_not, Bool.not_eq_true', Bool.not_eq_false', Bool.not_true, Bool.not_false, beq_iff_eq, bne_iff_ne, ne_eq, beq_eq_false_iff_ne, bne_eq_false_iff_eq, Decidable.not_not, Int.not_lt, Int.not_le] at hc0
    refine c_skip ?_
    refine p_then ?_
    refine c_seq ?_
    refine c_block ?_
    refine c_seq ?_
    refine c_region ?_
    obtain ⟨nm, hnm⟩ := h6.get (i := i) (by omega)
    first | refine l_y (y_indexAddr Try.underlying98 Try.sizeOf9 rfl rfl (by omega)) rfl rfl rfl ?_ | refine l_y (y_indexAddr_int Try.underlying98 Try.sizeOf9 rfl rfl (by omega) (by omega)) rfl rfl rfl ?_
    first | refine l_y (y_load_blk rfl Try.isAgg9 (by assumption) rfl) rfl rfl rfl ?_ | refine l_y (y_load_el rfl Try.isAgg9 (by assumption) (by assumption) rfl) rfl rfl rfl ?_ | refine l_y (y_load_el0 rfl Try.isAgg9 (by assumption) (by assumption) rfl) rfl rfl rfl ?_
    refine l_y (y_assign rfl) rfl rfl rfl ?_
    refine l_nil ?_
    refine p_then ?_
    refine c_seq ?_
    refine c_region ?_
    refine l_y (y_move rfl) rfl rfl rfl ?_
    refine l_call (e_call Try.call39 rfl (next_m _ hC)) rfl rfl rfl ?_
    rintro _ _ ⟨g3, rfl, hv, ⟨hC, r13, rfl, hr13, hq13, _⟩⟩
    replace h6 := h6.ev hv
    replace ho := ho.ev hv
    replace hown := hown.ev hv (fun x _ hx hxx => by omega)
    replace hE := hE.trans hv
    clear hv
    replace hq13 := hq13 (by omega)
    refine l_y (y_gtr rfl rfl) rfl rfl rfl ?_
    refine l_nil ?_
    refine p_then ?_
    refine c_cond rfl (fun hc1 => ?_) (fun hc1 => ?_)
    · try simp only [decide_eq_true_eq, decide_eq_false_iff_not, Bool.not_eq_true', Bool.not_eq_false', Bool.not_true, Bool.not_false, beq_iff_eq, bne_iff_ne, ne_eq, beq_eq_false_iff_ne, bne_eq_false_iff_eq, Decidable.not_not, Int.not_lt, Int.not_le] at hc1
      refine c_region ?_
      refine l_y (y_move rfl) rfl rfl rfl ?_
      refine l_y (y_move rfl) rfl rfl rfl ?_
      refine l_y (y_move rfl) rfl rfl rfl ?_
      have hE0 := hE
      refine l_do (o_lit rfl Try.underlying98 Try.sizeOf9 Try.zeroValue9 rfl rfl rfl rfl rfl) rfl rfl rfl ?_
      rintro _ _ ⟨g4, b18, rfl, rfl, hv, h18, h18_own, h18_new⟩
      replace hC := hC.ev hv nno
      replace h6 := h6.ev hv
      replace ho := ho.ev hv
      replace hown := hown.ev hv nno3
      replace hE := hE.no hv
      replace h18_new := Nat.le_trans hE0.size (Nat.le_of_eq h18_new.symm)
      clear hE0 hv h18_own
      replace h18 := FSf.of h18 strC fldVals (fun _ => rfl) rfl rfl
      refine l_call (e_call Try.call40 rfl (pick_m hC h18 (by omega))) rfl rfl rfl ?_
      rintro _ _ ⟨g5, rfl, hv, ⟨hC, s19, hm19, rfl⟩⟩
      replace h6 := h6.ev hv
      replace ho := ho.ev hv
      replace hown := hown.ev hv (fun x _ hx hxx => by omega)
      replace h18 := h18.ev hv
      replace hE := hE.trans hv
      clear hv
      have hs19 := sizes_le 4 hm19 rfl
      clear h18
      refine l_y (y_struct [_, _] Try.underlying109 Try.zeroValue109 (pl := [(0, 1), (1, 1)]) (fun w => by simp) rfl rfl) rfl rfl rfl ?_
      have hE0 := hE
      refine l_do (o_lit rfl Try.underlying29 Try.sizeOf109 Try.zeroValue109 rfl rfl rfl rfl rfl) rfl rfl rfl ?_
      rintro _ _ ⟨g6, b21, rfl, rfl, hv, h21, h21_own, h21_new⟩
      replace hC := hC.ev hv nno
      replace h6 := h6.ev hv
      replace ho := ho.ev hv
      replace hown := hown.ev hv nno3
      replace hE := hE.no hv
      replace h21_new := Nat.le_trans hE0.size (Nat.le_of_eq h21_new.symm)
      clear hE0 hv h21_own
      simp only [List.flatMap_cons, List.flatMap_nil, List.append_nil, Value.cells, List.cons_append, List.nil_append, List.toList_toArray] at h21
      refine l_do (o_app (B := 32) (sz := 2) rfl rfl Try.underlying29 Try.info109 rfl rfl rfl rfl rfl hown ho.sl h21 (by simp [Value.oneCell', Value.cells]) (by omega) (by omega) hE.size) rfl rfl rfl ?_
      rintro _ _ ⟨g7, a22, c22, rfl, rfl, hv, ho', hown', _⟩
      replace hC := hC.ev hv (fun hh => by have := Own.blk_base hown _ hh; have := hpc; omega)
      replace h6 := h6.ev hv
      replace h21 := h21.ev hv
      replace hE := hE.step hv (fun x hx => .inr (Nat.le_trans (Nat.le_of_eq rfl) (Own.blk_base hown x hx)))
      clear hv
      replace ho' := FSf.of ho' fldC (fs ++ [(nm, s19)]) (fun _ => rfl) (by simp) (by rw [List.length_append, ho.num]; rfl)
      replace ho := ho'; replace hown := hown'; clear ho' hown'
      refine l_y (y_assign rfl) rfl rfl rfl ?_
      refine l_nil ?_
      refine p_blk ?_
      refine p_then ?_
      refine c_region ?_
      first | refine l_y (y_add_in rfl rfl (by omega) (by omega)) rfl rfl rfl ?_ | refine l_y (y_add rfl rfl) rfl rfl rfl ?_
      refine l_y (y_move rfl) rfl rfl rfl ?_
      refine l_nil ?_
      exact p_back (i + 1, a22, n + 1, c22, fs ++ [(nm, s19)]) ⟨g7, rfl, hE, hC, h6, by dsimp only; omega, by dsimp only; omega, ho, hown, by dsimp only; rw [List.map_append, List.take_add_one, hnm]; exact hsub.append (List.Sublist.refl _), by dsimp only; intro f hf; rcases List.mem_append.1 hf with hf | hf; exact hval f hf; rw [List.mem_singleton.1 hf]; exact hm19⟩ (Sub.backN 20 rfl (Sub.cons rfl (Sub.cons rfl (Sub.nil))) rfl) (by (try dsimp only); omega)
    · try simp only [decide_eq_true_eq, decide_eq_false_iff_not, Bool.not_eq_true', Bool.not_eq_false', Bool.not_true, Bool.not_false, beq_iff_eq, bne_iff_ne, ne_eq, beq_eq_false_iff_ne, bne_eq_false_iff_eq, Decidable.not_not, Int.not_lt, Int.not_le] at hc1
      refine c_skip ?_
      refine p_blk ?_
      refine p_then ?_
      refine c_region ?_
      first | refine l_y (y_add_in rfl rfl (by omega) (by omega)) rfl rfl rfl ?_ | refine l_y (y_add rfl rfl) rfl rfl rfl ?_
      refine l_y (y_move rfl) rfl rfl rfl ?_
      refine l_nil ?_
      exact p_back (i + 1, a, n, cp, fs) ⟨g3, rfl, hE, hC, h6, by dsimp only; omega, by dsimp only; omega, ho, hown, by dsimp only; rw [List.take_add_one]; exact hsub.trans (List.sublist_append_left _ _), hval⟩ (Sub.backN 11 rfl (Sub.cons rfl (Sub.cons rfl (Sub.nil))) rfl) (by (try dsimp only); omega)
  · try simp only [decide_eq_true_eq, decide_eq_false_iff_not, Bool.not_eq_true', Bool.not_eq_false', Bool.not_true, Bool.not_false, beq_iff_eq, bne_iff_ne, ne_eq, beq_eq_false_iff_ne, bne_eq_false_iff_eq, Decidable.not_not, Int.not_lt, Int.not_le] at hc0
    refine c_exit ?_
    refine p_then_exit ?_
    refine p_then_exit ?_
    refine p_blk_exit ?_
    refine p_then ?_
    refine c_seq ?_
    refine c_region ?_
    refine l_y (y_move rfl) rfl rfl rfl ?_
    refine l_y (y_assign rfl) rfl rfl rfl ?_
    refine l_nil ?_
    refine p_then ?_
    refine c_ret ?_
    refine p_ret1 rfl (rv_tmp rfl) ?_
    exact ⟨_, rfl, hE, hC, a, n, cp, fs, rfl, ho, hown, hsub.trans (List.take_sublist _ _), hval⟩

set_option maxHeartbeats 1000000 in
theorem lines_m {g : Gw} {pc : Nat} (from0 most : Int) (h0 : 0 ≤ from0) (h1 : from0 ≤ 1000000) (h2 : 1 ≤ most) (h3 : most ≤ 20) (hC : Cods 80 g pc) :
    CallsV Try.prog 42 [.pointer (some ⟨pc, 0, none⟩), .int .i64 from0, .int .i64 most, .bool true].toArray g.w (Ret (· = pc) g fun v g' => Cods 80 g' pc ∧ ∃ a n c ls to, v = .slice a n c ∧ FSf g' a n c 3 linC ls ∧ Own g' g.w.heap.size a n c 3 78 ∧ 1 ≤ n ∧ n ≤ 20 ∧ chain from0 ls to) := by
  refine enter Try.func42 rfl Try.ntmps42 rfl ?_
  have hE := Ev.refl (· = pc) g
  have hpc := hC.lt
  refine c_seq ?_
  refine c_region ?_
  refine l_y (y_assign rfl) rfl rfl rfl ?_
  refine l_nil ?_
  refine p_then ?_
  refine c_seq ?_
  refine c_region ?_
  refine l_y (y_assign rfl) rfl rfl rfl ?_
  refine l_nil ?_
  refine p_then ?_
  refine c_seq ?_
  refine c_seq ?_
  refine c_region ?_
  refine l_y (y_move rfl) rfl rfl rfl ?_
  refine l_y (y_move rfl) rfl rfl rfl ?_
  refine l_call (e_call Try.call39 rfl (next_m _ hC)) rfl rfl rfl ?_
  rintro _ _ ⟨g1, rfl, hv, ⟨hC, r14, rfl, hr14, hq14, _⟩⟩
  replace hE := hE.trans hv
  clear hv
  first | refine l_y (y_add_in rfl rfl (by omega) (by omega)) rfl rfl rfl ?_ | refine l_y (y_add rfl rfl) rfl rfl rfl ?_
  refine l_y (y_assign rfl) rfl rfl rfl ?_
  refine l_nil ?_
  refine p_then ?_
  refine c_block ?_
  refine c_loop (γ := Int × Int × Option Addr × Nat × Nat × List LineD) (fun x w => ∃ gg : Gw, gg.w = w ∧ Ev (· = pc) g gg ∧ Cods 80 gg pc ∧ 0 ≤ x.1 ∧ (x.2.2.2.1 : Int) + x.1 = 1 + r14 ∧ from0 ≤ x.2.1 ∧ x.2.1 ≤ from0 + 20 * (x.2.2.2.1 : Int) ∧ FSf gg x.2.2.1 x.2.2.2.1 x.2.2.2.2.1 3 linC x.2.2.2.2.2 ∧ Own gg g.w.heap.size x.2.2.1 x.2.2.2.1 x.2.2.2.2.1 3 78 ∧ chain from0 x.2.2.2.2.2 x.2.1) (fun x => [(10, .int .i64 x.1), (1, .int .i64 x.2.1), (9, .slice x.2.2.1 x.2.2.2.1 x.2.2.2.2.1)] ++ _) (fun x => x.1.toNat) (1 + r14, from0, none, 0, 0, []) ⟨g1, rfl, hE, hC, by dsimp only; omega, by dsimp only; omega, by dsimp only; omega, by dsimp only; omega, FSf.nil _ _ _ _ _ (fun _ => rfl) (Nat.zero_le _), Own.nil _ _ _ _, rfl⟩ (Sub.backN 0 rfl (Sub.cons rfl (Sub.cons rfl (Sub.cons rfl (Sub.nil)))) rfl) ?_
  rintro ⟨n, fr, a, m, cp, ls⟩ _ ⟨g2, rfl, hE, hC, hn0, hnm, hf0, hf1, ho, hown, hch⟩
  try dsimp only
  try dsimp only at hn0
  try dsimp only at hnm
  try dsimp only at hf0
  try dsimp only at hf1
  try dsimp only at ho
  try dsimp only at hown
  try dsimp only at hch
  refine c_seq ?_
  refine c_seq ?_
  refine c_region ?_
  refine l_y (y_move rfl) rfl rfl rfl ?_
  refine l_y (y_gtr rfl rfl) rfl rfl rfl ?_
  refine l_nil ?_
  refine p_then ?_
  refine c_cond rfl (fun hc0 => ?_) (fun hc0 => ?_)
  · try simp only [decide_eq_true_eq, decide_eq_false_iff_not, Bool.not_eq_true', Bool.not_eq_false', Bool.not_true, Bool.not_false, beq_iff_eq, bne_iff_ne, ne_eq, beq_eq_false_iff_ne, bne_eq_false_iff_eq, Decidable.not_not, Int.not_lt, Int.not_le] at hc0
    refine c_skip ?_
    refine p_then ?_
    refine c_seq ?_
    refine c_block ?_
    refine c_seq ?_
    refine c_region ?_
    refine l_y (y_move rfl) rfl rfl rfl ?_
    refine l_y (y_move rfl) rfl rfl rfl ?_
    refine l_call (e_call Try.call39 rfl (next_m _ hC)) rfl rfl rfl ?_
    rintro _ _ ⟨g3, rfl, hv, ⟨hC, r22, rfl, hr22, hq22, _⟩⟩
    replace ho := ho.ev hv
    replace hown := hown.ev hv (fun x _ hx hxx => by omega)
    replace hE := hE.trans hv
    clear hv
    replace hq22 := hq22 (by omega)
    first | refine l_y (y_add_in rfl rfl (by omega) (by omega)) rfl rfl rfl ?_ | refine l_y (y_add rfl rfl) rfl rfl rfl ?_
    refine l_y (y_struct [_, _, _] Try.underlying78 Try.zeroValue78 (pl := [(0, 1), (1, 1), (2, 1)]) (fun w => by simp) rfl rfl) rfl rfl rfl ?_
    have hE0 := hE
    refine l_do (o_alloc Try.zeroValue78 rfl) rfl rfl rfl ?_
    have hlt_hown := Own.blk_lt hown
    rintro _ _ ⟨g4, b11, rfl, rfl, hv, h11, h11_new⟩
    replace hlt_hown : ∀ x, blkOf _ x → x ≠ b11 := fun x hx => by have := hlt_hown x hx; omega
    have hne_hown_h11 := hlt_hown; clear hlt_hown
    replace hC := hC.ev hv nno
    replace ho := ho.ev hv
    replace hown := hown.ev hv nno3
    replace hE := hE.no hv
    replace h11_new := Nat.le_trans hE0.size (Nat.le_of_eq h11_new.symm)
    clear hE0 hv
    refine l_du (o_store rfl rfl rfl Try.sizeOf78 rfl h11 (by simp) (by simp [Value.oneCell'])) rfl rfl ?_
    rintro _ ⟨g5, rfl, hv, h11'⟩
    replace hC := hC.ev hv (fun hh => hC.ne_blk h11 rfl hh.symm)
    replace ho := ho.ev hv
    replace hown := hown.ev hv (fun x hx _ hxx => hne_hown_h11 x hx hxx)
    replace hE := hE.step hv (fun x hx => .inr (by rw [hx]; exact h11_new))
    simp only [splice, List.set_cons_zero, List.set_cons_succ, Nat.reduceAdd, Nat.zero_add] at h11'
    replace h11 := h11'; clear h11' hv
    refine l_nil ?_
    refine p_then ?_
    refine c_seq ?_
    refine c_seq ?_
    refine c_region ?_
    refine l_y (y_move rfl) rfl rfl rfl ?_
    refine l_nil ?_
    refine p_then ?_
    refine c_cond_t rfl ?_
    refine c_region ?_
    refine l_y (y_move rfl) rfl rfl rfl ?_
    refine l_call (e_call Try.call67 rfl (line_m hC)) rfl rfl rfl ?_
    rintro _ _ ⟨g6, rfl, hv, ⟨hC, s27, rfl, hs27⟩⟩
    replace ho := ho.ev hv
    replace hown := hown.ev hv (fun x _ hx hxx => by omega)
    replace h11 := h11.ev hv (fun hh => by omega)
    replace hE := hE.trans hv
    clear hv
    refine l_y (y_fieldAddr (i := 2) (fo := 2) Try.underlying78 rfl rfl Try.sizeOf9 rfl rfl) rfl rfl rfl ?_
    refine l_du (o_store rfl rfl rfl Try.sizeOf9 rfl h11 (by simp) (by simp [Value.oneCell'])) rfl rfl ?_
    rintro _ ⟨g7, rfl, hv, h11'⟩
    replace hC := hC.ev hv (fun hh => hC.ne_blk h11 rfl hh.symm)
    replace ho := ho.ev hv
    replace hown := hown.ev hv (fun x hx _ hxx => hne_hown_h11 x hx hxx)
    replace hE := hE.step hv (fun x hx => .inr (by rw [hx]; exact h11_new))
    simp only [splice, List.set_cons_zero, List.set_cons_succ, Nat.reduceAdd, Nat.zero_add] at h11'
    replace h11 := h11'; clear h11' hv
    refine l_nil ?_
    refine p_then ?_
    refine c_seq ?_
    refine c_region ?_
    refine l_y (y_move rfl) rfl rfl rfl ?_
    first | refine l_y (y_loada_blk (vs := [_, _, _]) rfl Try.isAgg78 Try.sizeOf78 (by assumption) rfl rfl) rfl rfl rfl ?_ | refine l_y (y_loada_el rfl Try.isAgg78 Try.sizeOf78 (by assumption) (by assumption)) rfl rfl rfl ?_
    have hE0 := hE
    refine l_do (o_lit rfl Try.underlying28 Try.sizeOf78 Try.zeroValue78 rfl rfl rfl rfl rfl) rfl rfl rfl ?_
    rintro _ _ ⟨g8, b31, rfl, rfl, hv, h31, h31_own, h31_new⟩
    replace hC := hC.ev hv nno
    replace ho := ho.ev hv
    replace hown := hown.ev hv nno3
    replace h11 := h11.ev hv nno
    replace hE := hE.no hv
    replace h31_new := Nat.le_trans hE0.size (Nat.le_of_eq h31_new.symm)
    clear hE0 hv h31_own
    simp only [List.flatMap_cons, List.flatMap_nil, List.append_nil, Value.cells, List.cons_append, List.nil_append, List.toList_toArray] at h31
    refine l_do (o_app (B := 32) (sz := 3) rfl rfl Try.underlying28 Try.info78 rfl rfl rfl rfl rfl hown ho.sl h31 (by simp [Value.oneCell', Value.cells]) (by omega) (by omega) hE.size) rfl rfl rfl ?_
    rintro _ _ ⟨g9, a32, c32, rfl, rfl, hv, ho', hown', _⟩
    replace hC := hC.ev hv (fun hh => by have := Own.blk_base hown _ hh; have := hpc; omega)
    replace h11 := h11.ev hv (fun hk => hne_hown_h11 _ hk rfl)
    replace h31 := h31.ev hv
    replace hE := hE.step hv (fun x hx => .inr (Nat.le_trans (Nat.le_of_eq rfl) (Own.blk_base hown x hx)))
    clear hv
    replace ho' := FSf.of ho' linC (ls ++ [⟨fr, 1 + r22, s27⟩]) (fun _ => rfl) (by simp) (by rw [List.length_append, ho.num]; rfl)
    replace ho := ho'; replace hown := hown'; clear ho' hown'
    refine l_y (y_assign rfl) rfl rfl rfl ?_
    refine l_nil ?_
    refine p_then ?_
    refine c_region ?_
    refine l_y (y_move rfl) rfl rfl rfl ?_
    refine l_y (y_fieldAddr (i := 1) (fo := 1) Try.underlying78 rfl rfl Try.sizeOf3 rfl rfl) rfl rfl rfl ?_
    first | refine l_y (y_load_blk rfl Try.isAgg3 (by assumption) rfl) rfl rfl rfl ?_ | refine l_y (y_load_el rfl Try.isAgg3 (by assumption) (by assumption) rfl) rfl rfl rfl ?_ | refine l_y (y_load_el0 rfl Try.isAgg3 (by assumption) (by assumption) rfl) rfl rfl rfl ?_
    first | refine l_y (y_add_in rfl rfl (by omega) (by omega)) rfl rfl rfl ?_ | refine l_y (y_add rfl rfl) rfl rfl rfl ?_
    refine l_y (y_assign rfl) rfl rfl rfl ?_
    refine l_nil ?_
    refine p_blk ?_
    refine p_then ?_
    refine c_region ?_
    refine l_y (y_move rfl) rfl rfl rfl ?_
    first | refine l_y (y_sub_in rfl rfl (by omega) (by omega)) rfl rfl rfl ?_ | refine l_y (y_sub rfl rfl) rfl rfl rfl ?_
    refine l_y (y_assign rfl) rfl rfl rfl ?_
    refine l_nil ?_
    exact p_back (n - 1, fr + (1 + r22), a32, m + 1, c32, ls ++ [⟨fr, 1 + r22, s27⟩]) ⟨g9, rfl, hE, hC, by dsimp only; omega, by dsimp only; omega, by dsimp only; omega, by dsimp only; omega, ho, hown, chain_snoc hch rfl (by dsimp only; omega) (by dsimp only; omega) hs27⟩ (Sub.backN 28 rfl (Sub.cons rfl (Sub.cons rfl (Sub.cons rfl (Sub.nil)))) rfl) (by (try dsimp only); omega)
  · try simp only [decide_eq_true_eq, decide_eq_false_iff_not, Bool.not_eq_true', Bool.not_eq_false', Bool.not_true, Bool.not_false, beq_iff_eq, bne_iff_ne, ne_eq, beq_eq_false_iff_ne, bne_eq_false_iff_eq, Decidable.not_not, Int.not_lt, Int.not_le] at hc0
    refine c_exit ?_
    refine p_then_exit ?_
    refine p_then_exit ?_
    refine p_blk_exit ?_
    refine p_then ?_
    refine c_seq ?_
    refine c_region ?_
    refine l_y (y_move rfl) rfl rfl rfl ?_
    refine l_y (y_assign rfl) rfl rfl rfl ?_
    refine l_nil ?_
    refine p_then ?_
    refine c_ret ?_
    refine p_ret1 rfl (rv_tmp rfl) ?_
    exact ⟨_, rfl, hE, hC, a, m, cp, ls, fr, rfl, ho, hown, by omega, by omega, hch⟩

set_option maxHeartbeats 1000000 in
theorem event_m {g : Gw} {pc : Nat} (hC : Cods 80 g pc) :
    CallsV Try.prog 12 [.pointer (some ⟨pc, 0, none⟩)].toArray g.w (Ret (· = pc) g fun v g' => Cods 80 g' pc ∧ ∃ (cs : List Value) (e : EventD), v = .agg cs.toArray ∧ EvRep g' cs e ∧ GoodEv e) := by
  refine enter Try.func12 rfl Try.ntmps12 rfl ?_
  have hE := Ev.refl (· = pc) g
  have hpc := hC.lt
  refine c_seq ?_
  refine c_region ?_
  have hE0 := hE
  refine l_do (o_alloc Try.zeroValue31 rfl) rfl rfl rfl ?_
  rintro _ _ ⟨g1, b2, rfl, rfl, hv, h2, h2_new⟩
  replace hC := hC.ev hv nno
  replace hE := hE.no hv
  replace h2_new := Nat.le_trans hE0.size (Nat.le_of_eq h2_new.symm)
  clear hE0 hv
  refine l_nil ?_
  refine p_then ?_
  refine c_seq ?_
  have h2_E := hE; have h2_lt := h2.lt
  refine c_ogt (Ev (· = pc)) (Ev.pre _) (Ev.draw0 _ _) (fun g => Cods 80 g pc) [fEq (.pointer (some ⟨pc, 0, none⟩)), fInt (fun r => 0 ≤ r ∧ r < 3), fEq (.pointer (some ⟨pc, 0, none⟩)), fInt (fun r => 0 ≤ r ∧ r < 3), fEq (.pointer (some ⟨pc, 0, none⟩)), fInt (fun r => 0 ≤ r ∧ r < 6), fInt (fun r => 0 ≤ r ∧ r < 51), fEq (.pointer (some ⟨pc, 0, none⟩)), fInt (fun r => 0 ≤ r ∧ r < 256), fInt (fun r => 0 ≤ r ∧ r < 255001), fSf 4 1 intC [1, 1, 2, 5040], fEq (.pointer (some ⟨pc, 0, none⟩)), fInt (fun r => 0 ≤ r ∧ r < 4), fCell (fun u => ∃ r, u = .int .i64 r ∧ r ∈ [1, 1, 2, 5040]), fInt (fun r => r ∈ [1, 1, 2, 5040]), fEq (.pointer (some ⟨pc, 0, none⟩)), fSf 4 1 strC [⟨#[]⟩, ⟨#[116, 49]⟩, ⟨#[116, 50]⟩, ⟨#[105, 100]⟩], fStr (fun s => s ∈ [⟨#[]⟩, ⟨#[116, 49]⟩, ⟨#[116, 50]⟩, ⟨#[105, 100]⟩]), fEq (.pointer (some ⟨pc, 0, none⟩)), fSf 2 1 strC [⟨#[109, 97, 105, 110]⟩, ⟨#[97, 117, 100, 105, 116]⟩], fStr (fun s => s ∈ [⟨#[109, 97, 105, 110]⟩, ⟨#[97, 117, 100, 105, 116]⟩]), fEq (.pointer (some ⟨pc, 0, none⟩)), fun v g => ∃ (a : Option Addr) (n c : Nat) (fs : List FieldD), v = .slice a n c ∧ FSf g a n c 2 fldC fs ∧ FldsOK fs, fun v g => ∃ (cs : List Value) (e : EventD), v = .agg cs.toArray ∧ EvRep g cs e ∧ e.lines = [] ∧ (0 ≤ e.host ∧ e.host < 3) ∧ (0 ≤ e.file ∧ e.file < 3) ∧ (0 ≤ e.from_ ∧ e.from_ ≤ 50) ∧ (0 ≤ e.time ∧ e.time ≤ 255000) ∧ (e.weight = 1 ∨ e.weight = 2 ∨ e.weight = 5040) ∧ e.trace.size ≤ 2 ∧ (1 ≤ e.stream.size ∧ e.stream.size ≤ 5) ∧ FldsOK e.fields, fNew g1.w.heap.size 31 [.int .i64 0, .int .i64 0, .int .i64 0, .int .i64 0, .slice none 0 0, .int .i64 0, .int .i64 0, .string ⟨#[]⟩, .string ⟨#[]⟩, .slice none 0 0]] 25 Try.mixo (by kernel_rfl) (by kernel_rfl) (by kernel_rfl) rfl (hC.ev (Gw.draw_ev _) nno) (stabs_spec ⟨fEq.stab, fInt.stab, fEq.stab, fInt.stab, fEq.stab, fInt.stab, fInt.stab, fEq.stab, fInt.stab, fInt.stab, fSf.stab, fEq.stab, fInt.stab, fCell.stab, fInt.stab, fEq.stab, fSf.stab, fStr.stab, fEq.stab, fSf.stab, fStr.stab, fEq.stab, (fun _ _ _ ⟨a, n, c, fs, h1, h2, h3⟩ he _ => ⟨a, n, c, fs, h1, h2.ev he, h3⟩), (fun _ _ _ ⟨cs, e, h1, h2, h3⟩ he _ => ⟨cs, e, h1, h2.ev he, h3⟩), (fNew.stab (fun b hb hh => by have := hE.size; omega)), trivial⟩) ?_ ?_
  · refine ⟨⟨rfl, fun g hv hJ => ?_⟩, ⟨rfl, fun g hv hJ => ?_⟩, ⟨rfl, fun g hv hJ => ?_⟩, ⟨rfl, fun g hv hJ => ?_⟩, ⟨rfl, fun g hv hJ => ?_⟩, ⟨rfl, fun g hv hJ => ?_⟩, ⟨rfl, fun g hv hJ => ?_⟩, ⟨rfl, fun g hv hJ => ?_⟩, ⟨rfl, fun g hv hJ => ?_⟩, ⟨rfl, fun g hv hJ => ?_⟩, ⟨rfl, fun g hv hJ => ?_⟩, ⟨rfl, fun g hv hJ => ?_⟩, ⟨rfl, fun g hv hJ => ?_⟩, ⟨rfl, fun g hv hJ => ?_⟩, ⟨rfl, fun g hv hJ => ?_⟩, ⟨rfl, fun g hv hJ => ?_⟩, ⟨rfl, fun g hv hJ => ?_⟩, ⟨rfl, fun g hv hJ => ?_⟩, ⟨rfl, fun g hv hJ => ?_⟩, ⟨rfl, fun g hv hJ => ?_⟩, ⟨rfl, fun g hv hJ => ?_⟩, ⟨rfl, fun g hv hJ => ?_⟩, ⟨rfl, fun g hv hJ => ?_⟩, ⟨rfl, fun g hv hJ => ?_⟩, ⟨rfl, fun g hv hJ => ?_⟩, trivial⟩
    · skip
      show OgDo _ _ _ _ _ _ _
      exact og_y (y_move rfl) rfl hJ (fEq.mk)
    · intro v0 hk0
      obtain rfl : v0 = _ := hk0
      show OgDo _ _ _ _ _ _ _
      exact og_call (e_call Try.call39 rfl ((next_m 3 hJ).mono_ret (fun v g' ⟨hC, r, hv, h0, h1, _⟩ => ⟨hC, r, hv, h0, h1 (by omega)⟩))) rfl
    · skip
      show OgDo _ _ _ _ _ _ _
      exact og_y (y_move rfl) rfl hJ (fEq.mk)
    · intro v2 hk2; intro v1 hk1
      obtain rfl : v2 = _ := hk2
      show OgDo _ _ _ _ _ _ _
      exact og_call (e_call Try.call39 rfl ((next_m 3 hJ).mono_ret (fun v g' ⟨hC, r, hv, h0, h1, _⟩ => ⟨hC, r, hv, h0, h1 (by omega)⟩))) rfl
    · skip
      show OgDo _ _ _ _ _ _ _
      exact og_y (y_move rfl) rfl hJ (fEq.mk)
    · intro v4 hk4; intro v3 hk3
      obtain rfl : v4 = _ := hk4
      show OgDo _ _ _ _ _ _ _
      exact og_call (e_call Try.call39 rfl ((next_m 6 hJ).mono_ret (fun v g' ⟨hC, r, hv, h0, h1, _⟩ => ⟨hC, r, hv, h0, h1 (by omega)⟩))) rfl
    · intro v5 hk5
      obtain ⟨r5, rfl, hr5⟩ := hk5
      show OgDo _ _ _ _ _ _ _
      exact og_y (y_mul_in rfl rfl (by omega) (by omega)) rfl hJ (fInt.mk ⟨by omega, by omega⟩)
    · skip
      show OgDo _ _ _ _ _ _ _
      exact og_y (y_move rfl) rfl hJ (fEq.mk)
    · intro v7 hk7; intro v5 hk5
      obtain rfl : v7 = _ := hk7
      show OgDo _ _ _ _ _ _ _
      exact og_call (e_call Try.call39 rfl ((next_m 256 hJ).mono_ret (fun v g' ⟨hC, r, hv, h0, h1, _⟩ => ⟨hC, r, hv, h0, h1 (by omega)⟩))) rfl
    · intro v8 hk8
      obtain ⟨r8, rfl, hr8⟩ := hk8
      show OgDo _ _ _ _ _ _ _
      exact og_y (y_mul_in rfl rfl (by omega) (by omega)) rfl hJ (fInt.mk ⟨by omega, by omega⟩)
    · skip
      show OgDo _ _ _ _ _ _ _
      refine og_do (o_lit rfl Try.underlying82 Try.sizeOf3 Try.zeroValue3 rfl rfl rfl rfl rfl) rfl ?_
      rintro _ _ ⟨g', b, rfl, rfl, hv', hsl, _, _⟩
      exact ⟨g', rfl, hv'.of_no, hJ.ev hv' nno, b, rfl, FSf.of hsl intC [1, 1, 2, 5040] (fun _ => rfl) rfl rfl⟩
    · skip
      show OgDo _ _ _ _ _ _ _
      exact og_y (y_move rfl) rfl hJ (fEq.mk)
    · intro v11 hk11; intro v8 hk8
      obtain rfl : v11 = _ := hk11
      show OgDo _ _ _ _ _ _ _
      exact og_call (e_call Try.call39 rfl ((next_m 4 hJ).mono_ret (fun v g' ⟨hC, r, hv, h0, h1, _⟩ => ⟨hC, r, hv, h0, h1 (by omega)⟩))) rfl
    · intro v10 hk10; intro v12 hk12
      obtain ⟨b10, rfl, hb10⟩ := hk10
      obtain ⟨r12, rfl, hr12⟩ := hk12
      show OgDo _ _ _ _ _ _ _
      obtain ⟨r12, rfl⟩ := Int.eq_ofNat_of_zero_le hr12.1
      obtain ⟨q, hq⟩ := hb10.get (i := r12) (by omega)
      exact og_y (y_indexAddr Try.underlying82 Try.sizeOf3 rfl rfl (by omega)) rfl hJ ⟨_, _, _, rfl, hb10.fz0 (by omega) rfl, hb10.cell0 hq rfl, q, rfl, List.mem_of_getElem? hq⟩
    · intro v13 hk13
      obtain ⟨b13, i13, u13, rfl, hi13, hc13, ⟨r13, rfl, hr13⟩⟩ := hk13
      show OgDo _ _ _ _ _ _ _
      exact og_y (y_load rfl Try.isAgg3 hc13) rfl hJ (fInt.mk hr13)
    · skip
      show OgDo _ _ _ _ _ _ _
      exact og_y (y_move rfl) rfl hJ (fEq.mk)
    · skip
      show OgDo _ _ _ _ _ _ _
      refine og_do (o_lit rfl Try.underlying98 Try.sizeOf9 Try.zeroValue9 rfl rfl rfl rfl rfl) rfl ?_
      rintro _ _ ⟨g', b, rfl, rfl, hv', hsl, _, _⟩
      exact ⟨g', rfl, hv'.of_no, hJ.ev hv' nno, b, rfl, FSf.of hsl strC [⟨#[]⟩, ⟨#[116, 49]⟩, ⟨#[116, 50]⟩, ⟨#[105, 100]⟩] (fun _ => rfl) rfl rfl⟩
    · intro v15 hk15; intro v16 hk16; intro v12 hk12
      obtain rfl : v15 = _ := hk15
      obtain ⟨b16, rfl, hb16⟩ := hk16
      show OgDo _ _ _ _ _ _ _
      exact og_call (e_call Try.call40 rfl ((pick_m hJ hb16 (by omega)).mono_ret (fun v g' ⟨hC, s, hm, hv⟩ => ⟨hC, s, hv, hm⟩))) rfl
    · skip
      show OgDo _ _ _ _ _ _ _
      exact og_y (y_move rfl) rfl hJ (fEq.mk)
    · skip
      show OgDo _ _ _ _ _ _ _
      refine og_do (o_lit rfl Try.underlying98 Try.sizeOf9 Try.zeroValue9 rfl rfl rfl rfl rfl) rfl ?_
      rintro _ _ ⟨g', b, rfl, rfl, hv', hsl, _, _⟩
      exact ⟨g', rfl, hv'.of_no, hJ.ev hv' nno, b, rfl, FSf.of hsl strC [⟨#[109, 97, 105, 110]⟩, ⟨#[97, 117, 100, 105, 116]⟩] (fun _ => rfl) rfl rfl⟩
    · intro v18 hk18; intro v19 hk19; intro v17 hk17
      obtain rfl : v18 = _ := hk18
      obtain ⟨b19, rfl, hb19⟩ := hk19
      show OgDo _ _ _ _ _ _ _
      exact og_call (e_call Try.call40 rfl ((pick_m hJ hb19 (by omega)).mono_ret (fun v g' ⟨hC, s, hm, hv⟩ => ⟨hC, s, hv, hm⟩))) rfl
    · skip
      show OgDo _ _ _ _ _ _ _
      exact og_y (y_move rfl) rfl hJ (fEq.mk)
    · intro v21 hk21; intro v20 hk20
      obtain rfl : v21 = _ := hk21
      show OgDo _ _ _ _ _ _ _
      exact og_call (e_call Try.call41 rfl ((fields_m hJ).mono_ret (fun v g' ⟨hC, a, n, c, fs, h1, h2, _, h4⟩ => ⟨hC, a, n, c, fs, h1, h2, h4⟩))) rfl
    · intro v1 hk1; intro v3 hk3; intro v6 hk6; intro v9 hk9; intro v14 hk14; intro v17 hk17; intro v20 hk20; intro v22 hk22
      obtain ⟨r1, rfl, hr1⟩ := hk1
      obtain ⟨r3, rfl, hr3⟩ := hk3
      obtain ⟨r6, rfl, hr6⟩ := hk6
      obtain ⟨r9, rfl, hr9⟩ := hk9
      obtain ⟨r14, rfl, hr14⟩ := hk14
      obtain ⟨s17, rfl, hs17⟩ := hk17
      obtain ⟨s20, rfl, hs20⟩ := hk20
      obtain ⟨fa22, fn22, fc22, fs22, rfl, hb22, hsub22⟩ := hk22
      show OgDo _ _ _ _ _ _ _
      have hw : r14 = 1 ∨ r14 = 2 ∨ r14 = 5040 := by simpa using hr14
      have ht := sizes_le 2 hs17 rfl
      have hu := sizes_le 5 hs20 rfl
      have hu1 : 1 ≤ s20.size := by revert hs20; simp only [List.mem_cons, List.not_mem_nil, or_false]; rintro (rfl | rfl) <;> decide
      refine og_y (y_struct [_, _, _, _, _, _, _, _, _, _] Try.underlying31 Try.zeroValue31 (pl := [(0, 1), (1, 1), (2, 1), (3, 1), (4, 1), (5, 1), (6, 1), (7, 1), (8, 1), (9, 1)]) (fun w => by simp) rfl rfl) rfl hJ ⟨_, ⟨r1, r3, r6, 0, [], r9, r14, s17, s20, fs22⟩, rfl, ⟨none, 0, 0, fa22, fn22, fc22, rfl, FSf.nil _ _ _ _ _ (fun _ => rfl) (Nat.zero_le _), hb22⟩, rfl, hr1, hr3, ⟨by dsimp only; omega, by dsimp only; omega⟩, ⟨by dsimp only; omega, by dsimp only; omega⟩, hw, ht, ⟨hu1, hu⟩, hsub22⟩
    · skip
      show OgDo _ _ _ _ _ _ _
      refine og_do (o_alloc Try.zeroValue31 rfl) rfl ?_
      rintro _ _ ⟨g', b, rfl, rfl, hv', hb, hbn⟩
      exact ⟨g', rfl, hv'.of_no, hJ.ev hv' nno, b, rfl, by have := hv.size; omega, hb⟩
  · intro g2 vs0 hv hJ hf0
    obtain ⟨v0, vs1, rfl, hk0, hf1⟩ := hf0.cons
    clear hf0
    obtain rfl : v0 = _ := hk0
    obtain ⟨v1, vs2, rfl, hk1, hf2⟩ := hf1.cons
    clear hf1
    obtain ⟨r1, rfl, hr1⟩ := hk1
    obtain ⟨v2, vs3, rfl, hk2, hf3⟩ := hf2.cons
    clear hf2
    obtain rfl : v2 = _ := hk2
    obtain ⟨v3, vs4, rfl, hk3, hf4⟩ := hf3.cons
    clear hf3
    obtain ⟨r3, rfl, hr3⟩ := hk3
    obtain ⟨v4, vs5, rfl, hk4, hf5⟩ := hf4.cons
    clear hf4
    obtain rfl : v4 = _ := hk4
    obtain ⟨v5, vs6, rfl, hk5, hf6⟩ := hf5.cons
    clear hf5
    obtain ⟨r5, rfl, hr5⟩ := hk5
    obtain ⟨v6, vs7, rfl, hk6, hf7⟩ := hf6.cons
    clear hf6
    obtain ⟨r6, rfl, hr6⟩ := hk6
    obtain ⟨v7, vs8, rfl, hk7, hf8⟩ := hf7.cons
    clear hf7
    obtain rfl : v7 = _ := hk7
    obtain ⟨v8, vs9, rfl, hk8, hf9⟩ := hf8.cons
    clear hf8
    obtain ⟨r8, rfl, hr8⟩ := hk8
    obtain ⟨v9, vs10, rfl, hk9, hf10⟩ := hf9.cons
    clear hf9
    obtain ⟨r9, rfl, hr9⟩ := hk9
    obtain ⟨v10, vs11, rfl, hk10, hf11⟩ := hf10.cons
    clear hf10
    obtain ⟨b10, rfl, hb10⟩ := hk10
    obtain ⟨v11, vs12, rfl, hk11, hf12⟩ := hf11.cons
    clear hf11
    obtain rfl : v11 = _ := hk11
    obtain ⟨v12, vs13, rfl, hk12, hf13⟩ := hf12.cons
    clear hf12
    obtain ⟨r12, rfl, hr12⟩ := hk12
    obtain ⟨v13, vs14, rfl, hk13, hf14⟩ := hf13.cons
    clear hf13
    obtain ⟨b13, i13, u13, rfl, hi13, hc13, ⟨r13, rfl, hr13⟩⟩ := hk13
    obtain ⟨v14, vs15, rfl, hk14, hf15⟩ := hf14.cons
    clear hf14
    obtain ⟨r14, rfl, hr14⟩ := hk14
    obtain ⟨v15, vs16, rfl, hk15, hf16⟩ := hf15.cons
    clear hf15
    obtain rfl : v15 = _ := hk15
    obtain ⟨v16, vs17, rfl, hk16, hf17⟩ := hf16.cons
    clear hf16
    obtain ⟨b16, rfl, hb16⟩ := hk16
    obtain ⟨v17, vs18, rfl, hk17, hf18⟩ := hf17.cons
    clear hf17
    obtain ⟨s17, rfl, hs17⟩ := hk17
    obtain ⟨v18, vs19, rfl, hk18, hf19⟩ := hf18.cons
    clear hf18
    obtain rfl : v18 = _ := hk18
    obtain ⟨v19, vs20, rfl, hk19, hf20⟩ := hf19.cons
    clear hf19
    obtain ⟨b19, rfl, hb19⟩ := hk19
    obtain ⟨v20, vs21, rfl, hk20, hf21⟩ := hf20.cons
    clear hf20
    obtain ⟨s20, rfl, hs20⟩ := hk20
    obtain ⟨v21, vs22, rfl, hk21, hf22⟩ := hf21.cons
    clear hf21
    obtain rfl : v21 = _ := hk21
    obtain ⟨v22, vs23, rfl, hk22, hf23⟩ := hf22.cons
    clear hf22
    obtain ⟨fa22, fn22, fc22, fs22, rfl, hb22, hsub22⟩ := hk22
    obtain ⟨v23, vs24, rfl, hk23, hf24⟩ := hf23.cons
    clear hf23
    obtain ⟨cs23, ev23, rfl, hb23, hno23, hho23, hfi23, hfr23, hti23, hwe23, htr23, hst23, hsub23⟩ := hk23
    obtain ⟨v24, vs25, rfl, hk24, hf25⟩ := hf24.cons
    clear hf24
    obtain ⟨b24, rfl, hn24, hb24⟩ := hk24
    obtain rfl := hf25.nil; clear hf25
    replace h2 := h2.ev hv (fun hh => by omega)
    replace hE := hE.trans hv
    try replace hC := hJ
    clear hv
    obtain ⟨la0, ln0, lc0, fa, fn, fc, rfl, hl0, hfl⟩ := hb23
    have hb24_new : g.w.heap.size ≤ b24 := Nat.le_trans h2_E.size hn24
    have ne_h2_hb24 : b2 ≠ b24 := by omega
    have ne_hb24_h2 := Ne.symm ne_h2_hb24
    refine l_du (o_store rfl rfl rfl Try.sizeOf31 rfl hb24 (by simp) (by simp [Value.oneCell'])) rfl rfl ?_
    rintro _ ⟨g3, rfl, hv, hb24'⟩
    replace hC := hC.ev hv (fun hh => hC.ne_blk hb24 rfl hh.symm)
    replace h2 := h2.ev hv (ne_h2_hb24)
    replace hfl := hfl.ev hv
    replace hE := hE.step hv (fun x hx => .inr (by rw [hx]; exact hb24_new))
    simp only [splice, List.set_cons_zero, List.set_cons_succ, Nat.reduceAdd, Nat.zero_add] at hb24'
    replace hb24 := hb24'; clear hb24' hv
    refine l_nil ?_
    refine p_then ?_
    refine c_seq ?_
    refine c_region ?_
    refine l_y (y_move rfl) rfl rfl rfl ?_
    refine l_y (y_fieldAddr (i := 2) (fo := 2) Try.underlying31 rfl rfl Try.sizeOf3 rfl rfl) rfl rfl rfl ?_
    first | refine l_y (y_load_blk rfl Try.isAgg3 (by assumption) rfl) rfl rfl rfl ?_ | refine l_y (y_load_el rfl Try.isAgg3 (by assumption) (by assumption) rfl) rfl rfl rfl ?_ | refine l_y (y_load_el0 rfl Try.isAgg3 (by assumption) (by assumption) rfl) rfl rfl rfl ?_
    refine l_call (e_call Try.call42 rfl (lines_m _ 3 (by omega) (by omega) (by omega) (by omega) hC)) rfl rfl rfl ?_
    rintro _ _ ⟨g4, rfl, hv, ⟨hC, la, ln, lc, ls, to, rfl, hls, _, hln1, hln2, hch⟩⟩
    replace h2 := h2.ev hv (fun hh => by omega)
    replace hb24 := hb24.ev hv (fun hh => by omega)
    replace hfl := hfl.ev hv
    replace hE := hE.trans hv
    clear hv
    have hlen := hls.num
    obtain ⟨last, hlast⟩ := hls.get (i := ln - 1) (by omega)
    obtain ⟨lb, lo, rfl⟩ := hls.at_ (by omega)
    have hlst := chain_last hch (by rw [hlen]; exact hlast)
    have hpos := chain_pos hch
    refine l_y (y_fieldAddr (i := 4) (fo := 4) Try.underlying31 rfl rfl Try.sizeOf28 rfl rfl) rfl rfl rfl ?_
    refine l_du (o_store rfl rfl rfl Try.sizeOf28 rfl hb24 (by simp) (by simp [Value.oneCell'])) rfl rfl ?_
    rintro _ ⟨g5, rfl, hv, hb24'⟩
    replace hC := hC.ev hv (fun hh => hC.ne_blk hb24 rfl hh.symm)
    replace h2 := h2.ev hv (ne_h2_hb24)
    replace hfl := hfl.ev hv
    replace hls := hls.ev hv
    replace hE := hE.step hv (fun x hx => .inr (by rw [hx]; exact hb24_new))
    simp only [splice, List.set_cons_zero, List.set_cons_succ, Nat.reduceAdd, Nat.zero_add] at hb24'
    replace hb24 := hb24'; clear hb24' hv
    refine l_nil ?_
    refine p_then ?_
    refine c_seq ?_
    refine c_region ?_
    refine l_y (y_fieldAddr (i := 4) (fo := 4) Try.underlying31 rfl rfl Try.sizeOf28 rfl rfl) rfl rfl rfl ?_
    first | refine l_y (y_load_blk rfl Try.isAgg28 (by assumption) rfl) rfl rfl rfl ?_ | refine l_y (y_load_el rfl Try.isAgg28 (by assumption) (by assumption) rfl) rfl rfl rfl ?_ | refine l_y (y_load_el0 rfl Try.isAgg28 (by assumption) (by assumption) rfl) rfl rfl rfl ?_
    refine l_y (y_fieldAddr (i := 4) (fo := 4) Try.underlying31 rfl rfl Try.sizeOf28 rfl rfl) rfl rfl rfl ?_
    first | refine l_y (y_load_blk rfl Try.isAgg28 (by assumption) rfl) rfl rfl rfl ?_ | refine l_y (y_load_el rfl Try.isAgg28 (by assumption) (by assumption) rfl) rfl rfl rfl ?_ | refine l_y (y_load_el0 rfl Try.isAgg28 (by assumption) (by assumption) rfl) rfl rfl rfl ?_
    refine l_y (y_len_slice Try.underlying28 rfl) rfl rfl rfl ?_
    refine l_y (y_sub_to rfl rfl (((ln - 1 : Nat) : Int)) (by omega) (by omega) (by omega)) rfl rfl rfl ?_
    first | refine l_y (y_indexAddr Try.underlying28 Try.sizeOf78 rfl rfl (by omega)) rfl rfl rfl ?_ | refine l_y (y_indexAddr_int Try.underlying28 Try.sizeOf78 rfl rfl (by omega) (by omega)) rfl rfl rfl ?_
    first | refine l_y (y_loada_blk (vs := [_, _, _]) rfl Try.isAgg78 Try.sizeOf78 (by assumption) rfl rfl) rfl rfl rfl ?_ | refine l_y (y_loada_el rfl Try.isAgg78 Try.sizeOf78 (by assumption) (by assumption)) rfl rfl rfl ?_
    have hE0 := hE
    refine l_do (o_alloc Try.zeroValue78 rfl) rfl rfl rfl ?_
    rintro _ _ ⟨g6, b4, rfl, rfl, hv, h4, h4_new⟩
    replace hC := hC.ev hv nno
    replace h2 := h2.ev hv nno
    replace hb24 := hb24.ev hv nno
    replace hfl := hfl.ev hv
    replace hls := hls.ev hv
    replace hE := hE.no hv
    replace h4_new := Nat.le_trans hE0.size (Nat.le_of_eq h4_new.symm)
    clear hE0 hv
    refine l_du (o_store rfl rfl rfl Try.sizeOf78 rfl h4 (by simp) (by simp [Value.oneCell'])) rfl rfl ?_
    rintro _ ⟨g7, rfl, hv, h4'⟩
    replace hC := hC.ev hv (fun hh => hC.ne_blk h4 rfl hh.symm)
    replace h2 := h2.ev hv (fun hh => Blk.ne_ h2 h4 rfl hh)
    replace hb24 := hb24.ev hv (fun hh => Blk.ne_ hb24 h4 rfl hh)
    replace hfl := hfl.ev hv
    replace hls := hls.ev hv
    replace hE := hE.step hv (fun x hx => .inr (by rw [hx]; exact h4_new))
    simp only [splice, List.set_cons_zero, List.set_cons_succ, Nat.reduceAdd, Nat.zero_add] at h4'
    replace h4 := h4'; clear h4' hv
    refine l_nil ?_
    refine p_then ?_
    refine c_seq ?_
    refine c_region ?_
    refine l_y (y_fieldAddr (i := 0) (fo := 0) Try.underlying78 rfl rfl Try.sizeOf3 rfl rfl) rfl rfl rfl ?_
    first | refine l_y (y_load_blk rfl Try.isAgg3 (by assumption) rfl) rfl rfl rfl ?_ | refine l_y (y_load_el rfl Try.isAgg3 (by assumption) (by assumption) rfl) rfl rfl rfl ?_ | refine l_y (y_load_el0 rfl Try.isAgg3 (by assumption) (by assumption) rfl) rfl rfl rfl ?_
    refine l_y (y_fieldAddr (i := 1) (fo := 1) Try.underlying78 rfl rfl Try.sizeOf3 rfl rfl) rfl rfl rfl ?_
    first | refine l_y (y_load_blk rfl Try.isAgg3 (by assumption) rfl) rfl rfl rfl ?_ | refine l_y (y_load_el rfl Try.isAgg3 (by assumption) (by assumption) rfl) rfl rfl rfl ?_ | refine l_y (y_load_el0 rfl Try.isAgg3 (by assumption) (by assumption) rfl) rfl rfl rfl ?_
    refine l_y (y_add_to rfl rfl (to) (by omega) (by omega) (by omega)) rfl rfl rfl ?_
    refine l_y (y_fieldAddr (i := 3) (fo := 3) Try.underlying31 rfl rfl Try.sizeOf3 rfl rfl) rfl rfl rfl ?_
    refine l_du (o_store rfl rfl rfl Try.sizeOf3 rfl hb24 (by simp) (by simp [Value.oneCell'])) rfl rfl ?_
    rintro _ ⟨g8, rfl, hv, hb24'⟩
    replace hC := hC.ev hv (fun hh => hC.ne_blk hb24 rfl hh.symm)
    replace h2 := h2.ev hv (ne_h2_hb24)
    replace hfl := hfl.ev hv
    replace hls := hls.ev hv
    replace h4 := h4.ev hv (fun hh => Blk.ne_ h4 hb24 rfl hh)
    replace hE := hE.step hv (fun x hx => .inr (by rw [hx]; exact hb24_new))
    simp only [splice, List.set_cons_zero, List.set_cons_succ, Nat.reduceAdd, Nat.zero_add] at hb24'
    replace hb24 := hb24'; clear hb24' hv
    refine l_nil ?_
    refine p_then ?_
    refine c_seq ?_
    refine c_region ?_
    first | refine l_y (y_loada_blk (vs := [_, _, _, _, _, _, _, _, _, _]) rfl Try.isAgg31 Try.sizeOf31 (by assumption) rfl rfl) rfl rfl rfl ?_ | refine l_y (y_loada_el rfl Try.isAgg31 Try.sizeOf31 (by assumption) (by assumption)) rfl rfl rfl ?_
    refine l_du (o_store rfl rfl rfl Try.sizeOf31 rfl h2 (by simp) (by simp [Value.oneCell'])) rfl rfl ?_
    rintro _ ⟨g9, rfl, hv, h2'⟩
    replace hC := hC.ev hv (fun hh => hC.ne_blk h2 rfl hh.symm)
    replace hb24 := hb24.ev hv (ne_hb24_h2)
    replace hfl := hfl.ev hv
    replace hls := hls.ev hv
    replace h4 := h4.ev hv (fun hh => Blk.ne_ h4 h2 rfl hh)
    replace hE := hE.step hv (fun x hx => .inr (by rw [hx]; exact h2_new))
    simp only [splice, List.set_cons_zero, List.set_cons_succ, Nat.reduceAdd, Nat.zero_add] at h2'
    replace h2 := h2'; clear h2' hv
    refine l_nil ?_
    refine p_then ?_
    refine c_ret ?_
    refine p_ret1 rfl (rv_blka rfl Try.isAgg31 Try.sizeOf31 h2 rfl) ?_
    exact ⟨_, rfl, hE, hC, _, ⟨ev23.host, ev23.file, ev23.from_, to, ls, ev23.time, ev23.weight, ev23.trace, ev23.stream, ev23.fields⟩, rfl, ⟨_, _, _, _, _, _, rfl, hls, hfl⟩, ⟨hho23, hfi23, hfr23, hch, by dsimp only; omega, hti23, hwe23, htr23, hst23, hsub23⟩⟩
end Go.Proofs.Ytiamjjeflmcgoaa
