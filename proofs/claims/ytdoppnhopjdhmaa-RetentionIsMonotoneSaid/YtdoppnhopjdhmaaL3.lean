/- Laws, on plain data, about functions that the statement reaches. -/
import Derived.Test.YtdoppnhopjdhmaaL2
set_option linter.unusedSimpArgs false
set_option linter.unusedVariables false
set_option linter.unnecessarySimpa false
set_option maxRecDepth 100000
namespace Go.Proofs.Ytdoppnhopjdhmaa
open Go.Eng Go.Pi
theorem s87 (l : List Tal) (d : D) (t : Tal) (fn : D) (c : Tal → Int) (h : Hp) (hd : RdT h l d) (hl : l.length ≤ 1000000) (hf : ∀ x, callV R fn [.agg (talr x), .agg (talr t)] h = some (.int .i64 (c x), h))
   (k : Nat) (hk : k ≤ l.length) (h1 : ∀ i x, l[i]? = some x → i < k → c x < 0) (h2 : ∀ i x, l[i]? = some x → k ≤ i → 0 ≤ c x) :
   R fn87 [d, .agg (talr t), fn] h = some (.tup [.int .i64 k, .bool (match l[k]? with | some x => decide (c x = 0) | none => false)], h) := by
  suffices Wp (R fn87 [d, .agg (talr t), fn] h) (fun p => p = (.tup [.int .i64 k, .bool (match l[k]? with | some x => decide (c x = 0) | none => false)], h)) by
    obtain ⟨p, h1, rfl⟩ := this
    exact h1
  rw [e87]
  simp only [F87, pBoxF_agg, bs, Option.bind_assoc, rdT_len hd]
  refine Wp.loop (fun n ds g => g = h ∧ ∃ a b e, ∃ lo hi : Nat, ds = [.int .i64 lo, .int .i64 hi, a, b, e] ∧ lo ≤ k ∧ k ≤ hi ∧ hi ≤ l.length ∧ n = hi - lo)
      (fun x => x.1 = .ext 0 ∧ x.2.2 = h ∧ nth 0 x.2.1 = .int .i64 k) l.length ⟨rfl, _, _, _, 0, l.length, rfl, by omega, hk, Nat.le_refl _, rfl⟩ ?_ ?_
  · rintro n ds g ⟨rfl, a, b, e, lo, hi, rfl, hlo, hhi, hle, rfl⟩
    simp only [F87_L0, nth_zero, nth_succ, bs, Option.bind_assoc, dBin_lss]
    refine Wp.dif ?_ ?_
    · intro h0
      have h0 : lo < hi := by have : (lo : Int) < hi := by simpa [-Option.bind_some] using h0
                              omega
      have hw : IntKind.wrap .i64 ((lo : Int) + hi) = ((lo + hi : Nat) : Int) := by
        rw [wrap_i64 (by omega) (by omega)]; omega
      have hw2 : IntKind.wrap .u64 ((lo + hi : Nat) : Int) = ((lo + hi : Nat) : Int) := by
        unfold IntKind.wrap
        simp [-Option.bind_some, IntKind.signed, IntKind.bits, IntKind.min, IntKind.max]
        omega
      have hw3 : (((lo + hi : Nat) : Int)).fdiv (2 ^ (min (Int.toNat 1) IntKind.u64.bits)) = (((lo + hi) / 2 : Nat) : Int) := by
        rw [show (2 : Int) ^ (min (Int.toNat 1) IntKind.u64.bits) = 2 by decide]
        rw [Int.fdiv_eq_ediv_of_nonneg _ (by omega)]
        omega
      have hw4 : IntKind.wrap .i64 (((lo + hi) / 2 : Nat) : Int) = (((lo + hi) / 2 : Nat) : Int) := wrap_i64 (by omega) (by omega)
      have hw5 : IntKind.wrap .i64 ((((lo + hi) / 2 : Nat) : Int) + 1) = (((lo + hi) / 2 + 1 : Nat) : Int) := by
        rw [wrap_i64 (by omega) (by omega)]; omega
      have hm : (lo + hi) / 2 < l.length := by omega
      have hm1 : lo ≤ (lo + hi) / 2 := by omega
      have hm2 : (lo + hi) / 2 < hi := by omega
      generalize (lo + hi) / 2 = mid at *
      have hg : l[mid]? = some l[mid] := List.getElem?_eq_getElem hm
      generalize l[mid] = x at hg
      obtain ⟨q0, i0, i1⟩ := rdT_ix hd mid x hg
      simp only [dBin_add, hw, cv3_134, cv134_3, bs, hw2, dBin_shr, show ¬ (1 : Int) < 0 by omega, if_false, hw3, hw4, i0, i1, talr_ld, hf, dBin_lss]
      by_cases hc : c x < 0
      · have hkm : mid < k := by
          rcases Nat.lt_or_ge mid k with hh | hh
          · exact hh
          · have := h2 mid x hg hh
            omega
        simp only [hc, decide_true, dIf_bool, if_true, bs, hw5, unblk_nrm, nth_zero, nth_succ]
        exact .some (.inl ⟨rfl, hi - (mid + 1), by omega, rfl, _, _, _, mid + 1, hi, rfl, by omega, hhi, hle, rfl⟩)
      · have hkm : k ≤ mid := by
          rcases Nat.lt_or_ge mid k with hh | hh
          · exact absurd (h1 mid x hg hh) hc
          · exact hh
        simp only [hc, decide_false, dIf_bool, Bool.false_eq_true, if_false, bs, unblk_nrm, nth_zero, nth_succ]
        exact .some (.inl ⟨rfl, mid - lo, by omega, rfl, _, _, _, lo, mid, rfl, hlo, hkm, by omega, rfl⟩)
    · intro h0
      have h0 : lo = k := by have : ¬ (lo : Int) < hi := by simpa [-Option.bind_some] using h0
                             omega
      subst h0
      exact .some (.inr ⟨by simp [-Option.bind_some], rfl, rfl, rfl⟩)
  · rintro ⟨ex, ds, g⟩ ⟨q1, q2, q3⟩
    simp only at q1 q2 q3
    subst q1; subst q2
    simp only [unblk_self, toEnd_nrm, nth_zero, q3, bs, dBin_lss]
    by_cases hkl : k < l.length
    · have hg : l[k]? = some l[k] := List.getElem?_eq_getElem hkl
      have hlt : (k : Int) < l.length := by omega
      generalize l[k] = x at hg
      obtain ⟨q0, i0, i1⟩ := rdT_ix hd k x hg
      simp only [hlt, decide_true, gd_bool, if_true, bs, i0, i1, talr_ld, gdW_bool, hf, dBin_eql, dPick_bool, mkRes_two, hg]
      exact .some rfl
    · have hg : l[k]? = none := List.getElem?_eq_none (by omega)
      have hlt : ¬ (k : Int) < l.length := by omega
      simp only [hlt, decide_false, gd_bool, Bool.false_eq_true, if_false, bs, gdW_bool, dPick_bool, mkRes_two, hg]
      exact .some rfl
theorem s80 (l : List Tal) (d : D) (hst : Int) (rule : Str) (h : Hp) (hd : RdT h l d) (hl : l.length ≤ 1000000)
   (k : Nat) (hk : k ≤ l.length) (h1 : ∀ i x, l[i]? = some x → i < k → cmpT x ⟨hst, rule, 0⟩ < 0) (h2 : ∀ i x, l[i]? = some x → k ≤ i → 0 ≤ cmpT x ⟨hst, rule, 0⟩) :
   R fn80 [d, .int .i64 hst, .str rule] h = some (.tup [.int .i64 k, .bool (match l[k]? with | some x => decide (cmpT x ⟨hst, rule, 0⟩ = 0) | none => false)], h) := by
  have hb : dBuild tab ty106 [0, 1] [.int .i64 hst, .str rule] = some (.agg (talr ⟨hst, rule, 0⟩)) := id rfl
  rw [e80]
  simp only [F80, bs, hb, Option.bind_assoc]
  rw [s87 l d ⟨hst, rule, 0⟩ (.fn (.func fn88) [] []) (fun x => cmpT x ⟨hst, rule, 0⟩) h hd hl (fun x => by rw [callV_some]; exact s88 x _ h) k hk h1 h2]
  rfl
theorem bL_irr : ∀ a : Str, Op.bytesLess a a = false
  | [] => rfl
  | x :: a => by simp [-Option.bind_some, Op.bytesLess, bL_irr a]
theorem bL_tr : ∀ {a b c : Str}, Op.bytesLess a b = true → Op.bytesLess b c = true → Op.bytesLess a c = true
  | _, [], _, h, _ => by cases ‹Str› <;> simp [-Option.bind_some, Op.bytesLess] at h
  | _, _ :: _, [], _, h => by simp [-Option.bind_some, Op.bytesLess] at h
  | [], _ :: _, _ :: _, _, _ => rfl
  | x :: a, y :: b, z :: c, h, k => by
    simp only [Op.bytesLess, Bool.or_eq_true, decide_eq_true_eq, Bool.and_eq_true, beq_iff_eq] at h k ⊢
    rcases h with h | ⟨rfl, h⟩
    · rcases k with k | ⟨rfl, k⟩
      · exact .inl (UInt8.lt_trans h k)
      · exact .inl h
    · rcases k with k | ⟨rfl, k⟩
      · exact .inl k
      · exact .inr ⟨rfl, bL_tr h k⟩
theorem bL_tot : ∀ {a b : Str}, Op.bytesLess a b = false → a ≠ b → Op.bytesLess b a = true
  | [], [], _, h => absurd rfl h
  | [], _ :: _, h, _ => by simp [-Option.bind_some, Op.bytesLess] at h
  | _ :: _, [], _, _ => rfl
  | x :: a, y :: b, h, k => by
    simp only [Op.bytesLess, Bool.or_eq_false_iff, decide_eq_false_iff_not, Bool.and_eq_false_iff, beq_eq_false_iff_ne] at h
    simp only [Op.bytesLess, Bool.or_eq_true, decide_eq_true_eq, Bool.and_eq_true, beq_iff_eq]
    by_cases hxy : x = y
    · subst hxy
      refine .inr ⟨rfl, bL_tot (h.2.resolve_left fun hh => hh rfl) fun hh => k (by rw [hh])⟩
    · left
      have h1 := mt UInt8.lt_iff_toNat_lt.2 h.1
      have h2 : x.toNat ≠ y.toNat := fun hh => hxy (UInt8.toNat_inj.1 hh)
      exact UInt8.lt_iff_toNat_lt.2 (by omega)
/-- The order of tallies. -/
def kl (a b : Tal) : Prop := a.h < b.h ∨ (a.h = b.h ∧ Op.bytesLess a.r b.r = true)
theorem cmpT_lt (a b : Tal) : cmpT a b < 0 ↔ kl a b := by
  unfold cmpT orI orI orI cmpI cmpS kl
  by_cases h1 : a.h < b.h
  · simp [-Option.bind_some, h1]
  · by_cases h2 : b.h < a.h
    · have h3 : ¬ a.h = b.h := by omega
      simp [-Option.bind_some, h1, h2, h3]
    · have h3 : a.h = b.h := by omega
      cases h4 : Op.bytesLess a.r b.r
      · by_cases h5 : a.r = b.r <;> simp [-Option.bind_some, h3, h5]
      · simp [-Option.bind_some, h3]
theorem cmpT_eq (a b : Tal) : cmpT a b = 0 ↔ a.h = b.h ∧ a.r = b.r := by
  unfold cmpT orI orI orI cmpI cmpS
  by_cases h1 : a.h < b.h
  · have h3 : ¬ a.h = b.h := by omega
    simp [-Option.bind_some, h1, h3]
  · by_cases h2 : b.h < a.h
    · have h3 : ¬ a.h = b.h := by omega
      simp [-Option.bind_some, h1, h2, h3]
    · have h3 : a.h = b.h := by omega
      cases h4 : Op.bytesLess a.r b.r
      · by_cases h5 : a.r = b.r <;> simp [-Option.bind_some, h3, h5]
      · have h5 : ¬ a.r = b.r := fun hh => by rw [hh, bL_irr] at h4; cases h4
        simp [-Option.bind_some, h3, h5]
theorem kl_tr {a b c : Tal} (h : kl a b) (k : kl b c) : kl a c := by
  unfold kl at *
  rcases h with h | ⟨h, h'⟩ <;> rcases k with k | ⟨k, k'⟩
  · left; omega
  · left; omega
  · left; omega
  · exact .inr ⟨by omega, bL_tr h' k'⟩
theorem kl_tot {a b : Tal} (h : ¬ kl a b) (k : ¬ (a.h = b.h ∧ a.r = b.r)) : kl b a := by
  unfold kl at *
  by_cases h1 : a.h = b.h
  · right
    refine ⟨h1.symm, bL_tot ?_ fun hh => k ⟨h1, hh⟩⟩
    cases h2 : Op.bytesLess a.r b.r
    · rfl
    · exact absurd (.inr ⟨h1, h2⟩) h
  · left
    have : ¬ a.h < b.h := fun hh => h (.inl hh)
    omega
def TAsc (l : List Tal) : Prop := l.Pairwise kl
/-- Where a key stands, or would. -/
def kT (key : Tal) : List Tal → Nat
  | [] => 0
  | x :: r => if cmpT x key < 0 then kT key r + 1 else 0
theorem kT_le (key : Tal) : ∀ l, kT key l ≤ l.length
  | [] => Nat.le_refl _
  | x :: r => by
    unfold kT
    split
    · have := kT_le key r; simp [-Option.bind_some]; omega
    · simp [-Option.bind_some]
theorem kT_lt (key : Tal) : ∀ (l : List Tal) (i : Nat) (x : Tal), l[i]? = some x → i < kT key l → cmpT x key < 0
  | y :: r, 0, x, hx, hi => by
    unfold kT at hi
    simp [-Option.bind_some] at hx
    subst hx
    split at hi
    · assumption
    · omega
  | y :: r, i + 1, x, hx, hi => by
    unfold kT at hi
    simp [-Option.bind_some] at hx
    split at hi
    · exact kT_lt key r i x hx (by omega)
    · omega
theorem kT_ge (key : Tal) : ∀ (l : List Tal), TAsc l → ∀ (i : Nat) (x : Tal), l[i]? = some x → kT key l ≤ i → 0 ≤ cmpT x key
  | y :: r, hs, i, x, hx, hi => by
    unfold kT at hi
    have hs' := List.pairwise_cons.1 hs
    split at hi
    · cases i with
      | zero => omega
      | succ i => exact kT_ge key r hs'.2 i x (by simpa [-Option.bind_some] using hx) (by omega)
    · rename_i hc
      rcases Int.lt_or_le (cmpT x key) 0 with h1 | h1
      · exfalso
        cases i with
        | zero => simp [-Option.bind_some] at hx; subst hx; exact hc h1
        | succ i =>
          have hx' : r[i]? = some x := by simpa [-Option.bind_some] using hx
          exact hc ((cmpT_lt _ _).2 (kl_tr (hs'.1 x (List.mem_of_getElem? hx')) ((cmpT_lt _ _).1 h1)))
      · exact h1
/-- The tallies with some lines more. -/
def addK (l : List Tal) (hst : Int) (rule : Str) (n : Int) (k : Nat) : List Tal := match l[k]? with
  | some x => if cmpT x ⟨hst, rule, 0⟩ = 0 then l.set k ⟨x.h, x.r, IntKind.wrap .i64 (x.n + n)⟩ else l.take k ++ [⟨hst, rule, IntKind.wrap .i64 (0 + n)⟩] ++ l.drop k
  | none => l.take k ++ [⟨hst, rule, IntKind.wrap .i64 (0 + n)⟩] ++ l.drop k
def addT (l : List Tal) (hst : Int) (rule : Str) (n : Int) : List Tal := if n < 1 then l else addK l hst rule n (kT ⟨hst, rule, 0⟩ l)
theorem u79 (l : List Tal) (d : D) (h : Hp) (hd : SlOf 3 talr l d) (hl : l.length ≤ 1000000) : ∃ d' h', R fn79 [d] h = some (d', h') ∧ h.length ≤ h'.length ∧ (∀ q, q < h.length → h'[q]? = h[q]?) ∧
    ((l = [] ∧ (d' = .nils ∨ d' = .sl 3 true [])) ∨ ∃ ob, h.length ≤ ob ∧ d' = .msl 3 ob 0 l.length ∧ h'[ob]? = some (.row ty106 3 (l.map talr))) := by
  rw [e79]
  rcases hd with ⟨rfl, rfl⟩ | ⟨b, rfl⟩
  · exact ⟨.nils, h, by
      have hne : dBin tab .eql ty58 .nils .nils = some (.bool true) := id rfl
      simp [-Option.bind_some, F79, hne], Nat.le_refl _, fun _ _ => rfl, .inl ⟨rfl, .inl rfl⟩⟩
  · obtain ⟨x', h', e, hl', hq, ho⟩ := app_full (T := tab) (t := ty58) (i := ti58) (j := ti106) (h := h) (id rfl) (id rfl) (id rfl) (by decide) (y := .sl 3 b (l.map talr)) (rowsOf_sl _ _ _ _) (lim_ok (by have : ti106.by_ = 32 := rfl; rw [this, List.length_map]; omega) (by rw [List.length_map]; omega))
    have e' : dAppend tab h ty58 ty58 (.sl 3 true []) (.sl 3 b (l.map talr)) = some (x', h') := e
    have hne : dBin tab .eql ty58 (.sl 3 b (l.map talr)) .nils = some (.bool false) := id rfl
    refine ⟨x', h', ?_, hl', hq, ?_⟩
    · simp only [F79, bs, hne, dIf_bool, Bool.false_eq_true, if_false, bs58_0, e', mkRes_one]
    · rcases ho with ⟨rfl, hn⟩ | ⟨rfl, hn⟩ | ⟨ob, h1, rfl, h2⟩
      · have : l = [] := by simpa [-Option.bind_some] using hn
        exact .inl ⟨this, .inr rfl⟩
      · have : l = [] := by simpa [-Option.bind_some] using hn
        exact .inl ⟨this, .inl rfl⟩
      · exact .inr ⟨ob, h1, by rw [List.length_map]; rfl, h2⟩
theorem lim106 {n : Nat} (hn : n ≤ 1000001) : lim n ti106.by_ = true := lim_ok (by have : ti106.by_ = 32 := rfl; rw [this]; omega) (by omega)
theorem s59 (l : List Tal) (d : D) (hst : Int) (rule : Str) (n : Int) (h : Hp) (hd : SlOf 3 talr l d) (hl : l.length ≤ 1000000) (hs : TAsc l) :
    ∃ d', R fn59 [d, .int .i64 hst, .str rule, .int .i64 n] h = some (d', h) ∧ SlOf 3 talr (addT l hst rule n) d' := by
  suffices Wp (R fn59 [d, .int .i64 hst, .str rule, .int .i64 n] h) (fun p => p.2 = h ∧ SlOf 3 talr (addT l hst rule n) p.1) by
    obtain ⟨⟨x, h'⟩, h1, rfl, h2⟩ := this
    exact ⟨x, h1, h2⟩
  rw [e59]
  obtain ⟨d1, h1, e1, hl1, hb1, hd1⟩ := u79 l d h hd hl
  simp only [F59, bs, e1, dBin_lss]
  refine Wp.dif (fun hn => ?_) (fun hn => ?_)
  · have hn : n < 1 := by simpa [-Option.bind_some] using hn
    have ha : addT l hst rule n = l := by simp [-Option.bind_some, addT, hn]
    rw [ha]
    rcases hd1 with ⟨rfl, rfl | rfl⟩ | ⟨ob, hob, rfl, ho⟩
    · simp only [mkRes_one, bs]
      rw [scope_eq rfl (by simp [-Option.bind_some]; exact .nils) hl1 hb1]
      exact .some ⟨rfl, by simpa [-Option.bind_some] using SlOf.nils _ _⟩
    · have hsl : SlOf 3 talr [] (.sl 3 true []) := .inr ⟨true, rfl⟩
      simp only [mkRes_one, bs]
      rw [scope_eq (d' := .sl 3 true []) rfl (slof_ok hsl fun a _ => talr_ok _ a) hl1 hb1]
      exact .some ⟨rfl, hsl⟩
    · have ow : Own h1 h.length ty106 3 (l.map talr) (.msl 3 ob 0 l.length) := .inr ⟨ob, hob, by simp [-Option.bind_some], ho⟩
      have hsl := own_sl (n0 := h.length) (n := 3) ow (Nat.le_refl _) (fun a _ => talr_frz _ h1 _ a)
      simp only [mkRes_one, bs]
      rw [scope_eq rfl (slof_ok hsl fun a _ => talr_ok _ a) hl1 hb1]
      exact .some ⟨rfl, hsl⟩
  · have hn : ¬ n < 1 := by simpa [-Option.bind_some] using hn
    have ha : addT l hst rule n = addK l hst rule n (kT ⟨hst, rule, 0⟩ l) := by simp [-Option.bind_some, addT, hn]
    rw [ha]
    have hrd : RdT h1 l d1 := by
      rcases hd1 with ⟨rfl, rfl | rfl⟩ | ⟨ob, hob, rfl, ho⟩
      · exact .inl (.nils _ _)
      · exact .inl (.inr ⟨true, rfl⟩)
      · exact .inr ⟨ob, rfl, ho⟩
    have hk := kT_le ⟨hst, rule, 0⟩ l
    have h80 := s80 l d1 hst rule h1 hrd hl (kT ⟨hst, rule, 0⟩ l) hk (kT_lt _ l) (kT_ge _ l hs)
    generalize kT ⟨hst, rule, 0⟩ l = k at hk h80
    simp only [h80, bs, dExtract_tup, List.getElem?_cons_zero, List.getElem?_cons_succ, dUn_not]
    refine Wp.join (P := fun r => ∃ (d2 : D) (h2 : Hp) (ob : Nat) (L : List Tal) (x : Tal), r = (.nrm, [d2], h2) ∧ d2 = .msl 3 ob 0 L.length ∧ h.length ≤ ob ∧ h.length ≤ h2.length ∧ (∀ q, q < h.length → h2[q]? = h[q]?) ∧ h2[ob]? = some (.row ty106 3 (L.map talr)) ∧ L[k]? = some x ∧ L.set k ⟨x.h, x.r, IntKind.wrap .i64 (x.n + n)⟩ = addK l hst rule n k) ?_ ?_ ?_
    · intro hf
      have hadd : addK l hst rule n k = l.take k ++ [⟨hst, rule, IntKind.wrap .i64 (0 + n)⟩] ++ l.drop k := by
        unfold addK
        cases hg : l[k]? with
        | none => rfl
        | some x =>
          rw [hg] at hf
          have : ¬ cmpT x ⟨hst, rule, 0⟩ = 0 := by simpa [-Option.bind_some] using hf
          simp [-Option.bind_some, this]
      have hlt : (l.take k).length = k := by simp [-Option.bind_some]; omega
      have hL : (l.take k ++ [(⟨hst, rule, 0⟩ : Tal)] ++ l.drop k)[k]? = some ⟨hst, rule, 0⟩ := by
        rw [List.append_assoc, List.getElem?_append_right (by omega), hlt]; simp [-Option.bind_some]
      have hset : (l.take k ++ [(⟨hst, rule, 0⟩ : Tal)] ++ l.drop k).set k ⟨hst, rule, IntKind.wrap .i64 (0 + n)⟩ = l.take k ++ [⟨hst, rule, IntKind.wrap .i64 (0 + n)⟩] ++ l.drop k := by
        rw [List.append_assoc, List.set_append_right _ _ (by omega), hlt]; simp [-Option.bind_some]
      have hlen : (l.take k ++ [(⟨hst, rule, 0⟩ : Tal)] ++ l.drop k).length = l.length + 1 := by simp [-Option.bind_some]; omega
      have hmap : (l.take k ++ [(⟨hst, rule, 0⟩ : Tal)] ++ l.drop k).map talr = (l.map talr).take k ++ [[.int .i64 hst, .str rule, .int .i64 0]] ++ (l.map talr).drop k := by
        rw [List.map_append, List.map_append, List.map_take, List.map_drop]; rfl
      have hz : ti106.sz = 3 := rfl
      have hlim : lim (l.length + 1) ti106.by_ = true := lim106 (by omega)
      have hlim1 : lim 1 ti106.by_ = true := lim106 (by omega)
      simp only [bd106_0_1, bs58_1, bs, xins81]
      rcases hd1 with ⟨rfl, hdd⟩ | ⟨ob, hob, rfl, ho⟩
      · have hk0 : k = 0 := by simpa [-Option.bind_some] using hk
        subst hk0
        have hi : dIns ty106 ti106 [d1, .int .i64 ((0 : Nat) : Int), .sl 3 true [[.int .i64 hst, .str rule, .int .i64 0]]] h1 = some (.msl 3 h1.length 0 1, dNew h1 ty106 3 [[.int .i64 hst, .str rule, .int .i64 0]]) := by
          rcases hdd with rfl | rfl <;> simp [-Option.bind_some, dIns, hz, hlim1]
        rw [hi]
        simp only [bs]
        refine .some ⟨_, _, h1.length, [⟨hst, rule, 0⟩], ⟨hst, rule, 0⟩, rfl, rfl, hl1, ?_, fun q hq => ?_, dNew_get _ _ _ _, rfl, ?_⟩
        · simp [-Option.bind_some, dNew]; omega
        · rw [dNew_old _ _ _ _ (by omega)]; exact hb1 q hq
        · rw [hadd]; simp [-Option.bind_some]
      · have hi : dIns ty106 ti106 [.msl 3 ob 0 l.length, .int .i64 (k : Int), .sl 3 true [[.int .i64 hst, .str rule, .int .i64 0]]] h1 = some (.msl 3 h1.length 0 (l.length + 1), dNew (h1.set ob .dead) ty106 3 ((l.map talr).take k ++ [[.int .i64 hst, .str rule, .int .i64 0]] ++ (l.map talr).drop k)) := by
          have hkl : (k : Int) ≤ (l.length : Int) := by omega
          simp [-Option.bind_some, dIns, hz, hlim, ho, hkl]
        rw [hi]
        simp only [bs]
        refine .some ⟨_, _, h1.length, l.take k ++ [⟨hst, rule, 0⟩] ++ l.drop k, ⟨hst, rule, 0⟩, rfl, by rw [hlen], hl1, ?_, fun q hq => ?_, ?_, hL, by rw [hadd]; exact hset⟩
        · simp [-Option.bind_some, dNew]; omega
        · rw [dNew_old _ _ _ _ (by simp [-Option.bind_some]; omega), List.getElem?_set_ne (by omega)]; exact hb1 q hq
        · have := dNew_get (h1.set ob .dead) ty106 3 ((l.take k ++ [(⟨hst, rule, 0⟩ : Tal)] ++ l.drop k).map talr)
          simp only [List.length_set] at this
          rw [hmap] at this ⊢
          exact this
    · intro hf
      cases hg : l[k]? with
      | none => rw [hg] at hf; simp [-Option.bind_some] at hf
      | some x =>
        rw [hg] at hf
        have hc : cmpT x ⟨hst, rule, 0⟩ = 0 := by simpa [-Option.bind_some] using hf
        rcases hd1 with ⟨rfl, hdd⟩ | ⟨ob, hob, rfl, ho⟩
        · simp [-Option.bind_some] at hg
        · refine .some ⟨_, _, ob, l, x, rfl, rfl, hob, hl1, hb1, ho, hg, ?_⟩
          simp [-Option.bind_some, addK, hg, hc]
    · rintro _ ⟨d2, h2, ob, L, x, rfl, rfl, hob, hl2, hb2, ho, hx, hfin⟩
      have hkL : k < L.length := (List.getElem?_eq_some_iff.1 hx).1
      have hkl2 : (0 : Int) ≤ (k : Int) ∧ (k : Int) < (L.length : Int) := by omega
      have hr : (L.map talr)[k]? = some (talr x) := by rw [List.getElem?_map, hx]; rfl
      simp only [toEnd_nrm, nth_zero, bs, ixm58, hkl2, and_self, if_true, fap106_2, Int.toNat_natCast, Nat.zero_add, ldp3, row_of ho, hr]
      simp only [talr, List.drop_succ_cons, List.drop_zero, List.head?_cons, bs, dBin_add]
      simp only [Option.bind_assoc, bs]
      refine wst3 (off := 2) (v := .int .i64 (IntKind.wrap .i64 (x.n + n))) ho hr rfl (by simp [-Option.bind_some, talr]) rfl fun h3 q3 s3 => ?_
      have hset : (L.map talr).set k (spl (talr x) 2 (cells1 (.int .i64 (IntKind.wrap .i64 (x.n + n))))) = (addK l hst rule n k).map talr := by
        rw [← hfin, List.map_set]; rfl
      rw [hset] at q3
      simp only [bs, mkRes_one]
      have hlen : (addK l hst rule n k).length = L.length := by rw [← hfin]; simp [-Option.bind_some]
      have ow : Own h3 h.length ty106 3 ((addK l hst rule n k).map talr) (.msl 3 ob 0 L.length) := .inr ⟨ob, hob, by simp [-Option.bind_some, hlen], q3⟩
      have hsl := own_sl (n0 := h.length) (n := 3) ow (Nat.le_refl _) (fun a _ => talr_frz _ h3 _ a)
      rw [scope_eq rfl (slof_ok hsl fun a _ => talr_ok _ a) (by have := s3.1; omega) (fun q hq => (s3.2 q (by omega)).trans (hb2 q hq))]
      exact .some ⟨rfl, hsl⟩
theorem addT_len (l : List Tal) (hst : Int) (rule : Str) (n : Int) : (addT l hst rule n).length ≤ l.length + 1 := by
  unfold addT
  split
  · omega
  · have hk := kT_le ⟨hst, rule, 0⟩ l
    generalize kT ⟨hst, rule, 0⟩ l = k at hk
    unfold addK
    split
    · split
      · simp [-Option.bind_some]
      · simp [-Option.bind_some]; omega
    · simp [-Option.bind_some]; omega
theorem addT_asc {l : List Tal} (hs : TAsc l) (hst : Int) (rule : Str) (n : Int) : TAsc (addT l hst rule n) := by
  unfold addT
  split
  · exact hs
  · have hk := kT_le ⟨hst, rule, 0⟩ l
    have h1 := kT_lt ⟨hst, rule, 0⟩ l
    have h2 := kT_ge ⟨hst, rule, 0⟩ l hs
    generalize kT ⟨hst, rule, 0⟩ l = k at hk h1 h2
    have hins : (∀ x, l[k]? = some x → ¬ cmpT x ⟨hst, rule, 0⟩ = 0) → TAsc (l.take k ++ [⟨hst, rule, IntKind.wrap .i64 (0 + n)⟩] ++ l.drop k) := fun hne => by
      have hpre : ∀ x ∈ l.take k, kl x ⟨hst, rule, 0⟩ := fun x hx => by
        obtain ⟨i, hi⟩ := List.mem_iff_getElem?.1 hx
        rw [List.getElem?_take] at hi
        split at hi
        · exact (cmpT_lt _ _).1 (h1 i x hi (by assumption))
        · cases hi
      have hpost : ∀ x ∈ l.drop k, kl ⟨hst, rule, 0⟩ x := fun x hx => by
        obtain ⟨i, hi⟩ := List.mem_iff_getElem?.1 hx
        rw [List.getElem?_drop] at hi
        have hge := h2 (k + i) x hi (by omega)
        refine kl_tot (fun hh => ?_) fun hh => ?_
        · have := (cmpT_lt _ _).2 hh; omega
        · have h0 := (cmpT_eq x ⟨hst, rule, 0⟩).2 hh
          cases i with
          | zero => exact hne x hi h0
          | succ i =>
            have hlt := (List.getElem?_eq_some_iff.1 hi).1
            have hg : l[k]? = some (l[k]'(by omega)) := List.getElem?_eq_getElem (by omega)
            generalize l[k]'(by omega) = y at hg
            have hky : kl y x := by
              have := List.pairwise_iff_getElem.1 hs k (k + (i + 1)) (by omega) hlt (by omega)
              rw [List.getElem?_eq_getElem (by omega)] at hg hi
              injection hg with hg
              injection hi with hi
              rwa [hg, hi] at this
            have := h2 k y hg (Nat.le_refl _)
            have h3 : cmpT y ⟨hst, rule, 0⟩ < 0 := by
              rw [cmpT_lt]
              unfold kl at hky ⊢
              rw [hh.1, hh.2] at hky
              exact hky
            omega
      unfold TAsc
      rw [List.append_assoc, List.pairwise_append]
      refine ⟨hs.sublist (List.take_sublist _ _), ?_, fun a ha b hb => ?_⟩
      · rw [List.singleton_append, List.pairwise_cons]
        exact ⟨fun b hb => hpost b hb, hs.sublist (List.drop_sublist _ _)⟩
      · rw [List.singleton_append, List.mem_cons] at hb
        rcases hb with rfl | hb
        · exact hpre a ha
        · exact kl_tr (hpre a ha) (hpost b hb)
    unfold addK
    cases hg : l[k]? with
    | none => exact hins fun x hx => by rw [hg] at hx; cases hx
    | some y =>
      simp only
      split
      · have hkl := (List.getElem?_eq_some_iff.1 hg).1
        unfold TAsc at hs ⊢
        rw [List.pairwise_iff_getElem] at hs ⊢
        have hval : l[k] = y := (List.getElem?_eq_some_iff.1 hg).2
        intro i j hi hj hij
        have q := hs i j (by simpa [-Option.bind_some] using hi) (by simpa [-Option.bind_some] using hj) hij
        simp only [List.getElem_set]
        by_cases hki : k = i
        · subst hki
          have hkj : ¬ k = j := by omega
          simp only [if_true, hkj, if_false]
          rw [hval] at q
          exact q
        · by_cases hkj : k = j
          · subst hkj
            simp only [hki, if_false, if_true]
            rw [hval] at q
            exact q
          · simp only [hki, hkj, if_false]
            exact q
      · rename_i hne
        exact hins fun x hx => by
          rw [hg] at hx
          injection hx with hx
          subst hx
          exact hne
def keptE (ps : List Pol) (hs : List Hld) (now : Int) (es : List Ev) : List Ev := es.filter fun e => (expi ps hs now e).isNone
def stepT (ps : List Pol) (hs : List Hld) (now : Int) (t : List Tal) (e : Ev) : List Tal := match expi ps hs now e with
  | some nm => addT t e.a0 nm e.ls.length
  | none => t
def talE (ps : List Pol) (hs : List Hld) (now : Int) (es : List Ev) : List Tal := es.foldl (stepT ps hs now) []
theorem talE_snoc (ps : List Pol) (hs : List Hld) (now : Int) (es : List Ev) (e : Ev) : talE ps hs now (es ++ [e]) = stepT ps hs now (talE ps hs now es) e := by
  simp [-Option.bind_some, talE]
theorem talr_frz' {l : List Tal} {d : D} (hd : SlOf 3 talr l d) (n0 : Nat) (h : Hp) (n : Nat) : frz n0 h n d = d := by
  cases n with
  | zero => rfl
  | succ n =>
    rcases hd with ⟨rfl, _⟩ | ⟨b, rfl⟩
    · simp [-Option.bind_some]
    · refine frz_sl_id fun row hrow => ?_
      obtain ⟨a, _, rfl⟩ := List.mem_map.1 hrow
      exact talr_frz _ _ _ a
/-- A slice of holds that can be read here. -/
def RdH (h : Hp) (l : List Hld) (d : D) : Prop := SlOf 5 hldr l d ∨ ∃ ob, d = .msl 5 ob 0 l.length ∧ h[ob]? = some (.row ty56 5 (l.map hldr))
theorem rdH_len {h : Hp} {l : List Hld} {d : D} (hd : RdH h l d) : dLenT tab ty39 d = some (.int .i64 l.length) := by
  rcases hd with hd | ⟨ob, rfl, _⟩
  · exact lens39 hd
  · exact lenm39 _ _ _ _
theorem rdH_ix {h : Hp} {l : List Hld} {d : D} (hd : RdH h l d) (i : Nat) (p : Hld) (hp : l[i]? = some p) : ∃ q, dIndexAddr tab ty39 d (.int .i64 i) = some q ∧ dLoad tab h ty56 q = some (.agg (hldr p)) := by
  have hi := (List.getElem?_eq_some_iff.1 hp).1
  rcases hd with hd | ⟨ob, rfl, ho⟩
  · exact ⟨.fptr (hldr p), by rw [ixs39 hd]; simp [-Option.bind_some, hp], id rfl⟩
  · have hr : (l.map hldr)[i]? = some (hldr p) := by rw [List.getElem?_map, hp]; rfl
    have hh : (0 : Int) ≤ (i : Int) ∧ (i : Int) < (l.length : Int) := by omega
    refine ⟨.ptr ob i 0, by rw [ixm39]; simp [-Option.bind_some, hh], ?_⟩
    rw [ldp56, row_of ho, hr]; rfl
theorem l77r (l : List Hld) (d : D) (fn : D) (pr : Hld → Bool) (h : Hp) (hd : RdH h l d) (hl : l.length ≤ 9223372036854775807) (hf : ∀ x, callV R fn [.agg (hldr x)] h = some (.bool (pr x), h)) {β : Type} (K : Out → Option β) (X : Int → Option β)
   (hX : ∀ v r, K (.ret, .int .i64 v :: r, h) = X v) (hY : ∀ r, K (.ext 0, r, h) = X (-1)) : ∀ (suf pre : List Hld), l = pre ++ suf → ∀ a b e f,
   (loopW (F77_L0 d fn (.int .i64 l.length)) [a, b, .int .i64 pre.length, e, f] h).bind K = X (idx pr pre.length suf) := by
  intro suf
  induction suf with
  | nil =>
    rintro pre rfl a b e f
    rw [loopW_eq]
    simp [-Option.bind_some, F77_L0, rdH_len hd, hY, idx]
  | cons p suf ih =>
    rintro pre rfl a b e f
    have hw : IntKind.wrap .i64 ((pre.length : Int) + 1) = (pre ++ [p]).length := by
      rw [wrap_i64 (by omega) (by simp [-Option.bind_some] at hl; omega)]; simp [-Option.bind_some]
    have hlt : (pre.length : Int) < (pre ++ p :: suf).length := by simp [-Option.bind_some]; omega
    rw [loopW_eq]
    generalize hL : pre ++ p :: suf = L at *
    have hg : L[pre.length]? = some p := by rw [← hL]; exact get_mid _ _ _
    obtain ⟨q0, i0, i1⟩ := rdH_ix hd pre.length p hg
    by_cases hp : pr p = true
    · simp [-Option.bind_some, F77_L0, i0, hlt, i1, hf, hp, hX, idx]
    · have := ih (pre ++ [p]) (by simp [-Option.bind_some, ← hL]) a (.int .i64 pre.length) (.bool true) (.bool (pr p))
      simp only [← hw] at this
      simp [-Option.bind_some, F77_L0, i0, hlt, i1, hf, hp, idx]
      simp [-Option.bind_some, hp] at this
      exact this
theorem s77r (l : List Hld) (d : D) (fn : D) (pr : Hld → Bool) (h : Hp) (hd : RdH h l d) (hl : l.length ≤ 9223372036854775807) (hf : ∀ x, callV R fn [.agg (hldr x)] h = some (.bool (pr x), h)) :
   R fn77 [d, fn] h = some (.int .i64 (idx pr 0 l), h) := by
  rw [e77]
  simp only [F77, bs, rdH_len hd, Option.bind_assoc]
  rw [show (0 : Int) = (([] : List Hld).length : Int) from rfl, l77r l d fn pr h hd hl hf _ (fun v => some (.int .i64 v, h)) (fun v r => by simp [-Option.bind_some]) (fun r => by simp [-Option.bind_some]) l [] rfl]
  rfl
theorem s20r (l : List Hld) (d : D) (e : Ev) (h : Hp) (hd : RdH h l d) (hl : l.length ≤ 9223372036854775807) : R fn20 [d, .agg (evr e)] h = some (.bool (held l e), h) := by
  rw [e20]
  simp only [F20, pBoxF_agg, bs]
  rw [e54]
  simp only [F54, bs]
  rw [s77r l d _ (holds e) h hd hl (fun x => by simp [-Option.bind_some, sHold])]
  simp [-Option.bind_some, held, idx_any]
theorem s16r (ps : List Pol) (dp : D) (hs : List Hld) (dh : D) (now : Int) (e : Ev) (h : Hp) (hdp : SlOf 4 polr ps dp) (hlp : ps.length ≤ 9223372036854775807) (hdh : RdH h hs dh) (hlh : hs.length ≤ 9223372036854775807) :
    R fn16 [dp, dh, .int .i64 now, .agg (evr e)] h = some (expD (expi ps hs now e), h) := by
  rw [e16]
  rcases idx_get (fun p => app p.f p.v e) ps 0 with hi | ⟨j, hj, hi⟩
  · replace hi : polI ps e = -1 := hi
    simp [-Option.bind_some, F16, evL, s18 ps dp e h hdp hlp, hi, expi, expD]
    cases ps[0]? <;> simp [-Option.bind_some]
  · replace hi : polI ps e = ((j : Nat) : Int) := by rw [show polI ps e = _ from hi]; simp [-Option.bind_some]
    have hg : ps[j]? = some ps[j] := List.getElem?_eq_getElem hj
    generalize ps[j] = p at hg
    have hn : ¬ ((j : Int) < 0) := by omega
    by_cases h0 : 0 ≤ now <;> by_cases h1 : now ≤ 253402300799999 <;> by_cases h2 : IntKind.wrap .i64 (now - p.age) ≤ e.a5 <;> cases h3 : held hs e <;>
      simp [-Option.bind_some, F16, evL, ev5, s18 ps dp e h hdp hlp, s49, s20r hs dh e h hdh hlh, ixs38 hdp, hi, hg, polr, expi, expD, h0, h1, h2, h3, hn]
theorem s27r (ps : List Pol) (dp : D) (hs : List Hld) (dh : D) (now : Int) (es : List Ev) (de : D) (h : Hp) (hdp : SlOf 4 polr ps dp) (hlp : ps.length ≤ 1000000000) (hdh : RdH h hs dh) (hlh : hs.length ≤ 1000000000) (he : SlOf 10 evr es de) (hel : es.length ≤ 100000) :
    ∃ dk dt, R fn27 [dp, dh, .int .i64 now, de] h = some (.tup [dk, dt], h) ∧ SlOf 10 evr (keptE ps hs now es) dk ∧ SlOf 3 talr (talE ps hs now es) dt ∧ TAsc (talE ps hs now es) ∧ (talE ps hs now es).length ≤ es.length := by
  suffices Wp (R fn27 [dp, dh, .int .i64 now, de] h) (fun p => p.2 = h ∧ ∃ dk dt, p.1 = .tup [dk, dt] ∧ SlOf 10 evr (keptE ps hs now es) dk ∧ SlOf 3 talr (talE ps hs now es) dt ∧ TAsc (talE ps hs now es) ∧ (talE ps hs now es).length ≤ es.length) by
    obtain ⟨⟨x, h'⟩, h1, rfl, dk, dt, rfl, h2⟩ := this
    exact ⟨dk, dt, h1, h2⟩
  rw [e27]
  simp only [F27, bs, Option.bind_assoc, lens40 he]
  refine Wp.loop (fun k ds g => h.length ≤ g.length ∧ (∀ q, q < h.length → g[q]? = h[q]?) ∧ ∃ x y a b c e f, ∃ i : Nat, ds = [x, y, a, b, c, .int .i64 i, e, f] ∧ k + i = es.length ∧ Own g h.length ty31 10 ((keptE ps hs now (es.take i)).map evr) x
        ∧ SlOf 3 talr (talE ps hs now (es.take i)) y ∧ TAsc (talE ps hs now (es.take i)) ∧ (talE ps hs now (es.take i)).length ≤ i)
      (fun r => r.1 = .ext 0 ∧ h.length ≤ r.2.2.length ∧ (∀ q, q < h.length → r.2.2[q]? = h[q]?) ∧ Own r.2.2 h.length ty31 10 ((keptE ps hs now es).map evr) (nth 0 r.2.1)
        ∧ SlOf 3 talr (talE ps hs now es) (nth 1 r.2.1) ∧ TAsc (talE ps hs now es) ∧ (talE ps hs now es).length ≤ es.length)
      es.length ⟨Nat.le_refl _, fun _ _ => rfl, _, _, _, _, _, _, _, 0, rfl, rfl, Own.nils _ _ _ _, SlOf.nils _ _, List.Pairwise.nil, Nat.le_refl _⟩ ?_ ?_
  · rintro k ds g ⟨hgl, hgq, x, y, a, b, c, e, f, i, rfl, hk, ow, hy, hasc, hlen⟩
    simp only [F27_L0, nth_zero, nth_succ, bs, Option.bind_assoc, dBin_lss]
    refine Wp.dif ?_ ?_
    · intro h0
      have h0 : i < es.length := by have : (i : Int) < es.length := by simpa [-Option.bind_some] using h0
                                    omega
      have hg : es[i]? = some es[i] := List.getElem?_eq_getElem h0
      have hw : IntKind.wrap .i64 ((i : Int) + 1) = ((i + 1 : Nat) : Int) := by
        rw [wrap_i64 (by omega) (by omega)]; omega
      have htk : es.take (i + 1) = es.take i ++ [es[i]] := by rw [List.take_add_one, hg]; rfl
      have hfl : (keptE ps hs now (es.take i)).length ≤ i := Nat.le_trans (List.length_filter_le _ _) (by simp [-Option.bind_some]; omega)
      generalize es[i] = ev at hg htk
      have hbx : boxN 10 (.agg (evr ev)) = some (.fptr (evr ev)) := boxN_agg 10 _ rfl
      have hix : dIndexAddr tab ty40 de (.int .i64 i) = some (.fptr (evr ev)) := by rw [ixs40 he]; simp [-Option.bind_some, hg]
      have f0 : dFieldAddr tab ty31 0 (.fptr (evr ev)) = some (.fptr (evr ev)) := id rfl
      have l0 : dLoad tab g ty3 (.fptr (evr ev)) = some (.int .i64 ev.a0) := id rfl
      have f4 : (dFieldAddr tab ty31 4 (.fptr (evr ev))).bind (fun q => dLoad tab g ty28 q) = some ev.ld := id rfl
      have hll := ev.hll
      have hdg : RdH g hs dh := hdh.imp id fun ⟨ob, h1, h2⟩ => ⟨ob, h1, (hgq ob (List.getElem?_eq_some_iff.1 h2).1).trans h2⟩
      simp only [hix, evL, hbx, bs, s16r ps dp hs dh now ev g hdp (by omega) hdg (by omega), expD, dExtract_tup, List.getElem?_cons_zero, List.getElem?_cons_succ]
      cases hx : expi ps hs now ev with
      | none =>
        have hb : pLitF tab ty40 1 [0] [.agg (evr ev)] = some (.sl 10 true [evr ev]) := by simp [-Option.bind_some, evr]
        simp only [Option.isSome_none, dIf_bool, Bool.false_eq_true, if_false, hb, bs, Option.bind_assoc]
        refine wap40 hgl ow (rowsOf_sl _ _ _ _) (by simp [-Option.bind_some]; omega) fun x1 g1 ow1 len1 bel1 _ _ => ?_
        simp only [bs, toEnd_nrm, unblk_nrm, nth_zero, nth_succ, dBin_add, hw]
        have hke : keptE ps hs now (es.take i ++ [ev]) = keptE ps hs now (es.take i) ++ [ev] := by simp [-Option.bind_some, keptE, hx]
        have hte : talE ps hs now (es.take i ++ [ev]) = talE ps hs now (es.take i) := by rw [talE_snoc]; simp [-Option.bind_some, stepT, hx]
        refine .some (.inl ⟨rfl, k - 1, by omega, Nat.le_trans hgl len1, fun q hq => (bel1 q (by omega)).trans (hgq q hq), _, _, _, _, _, _, _, i + 1, rfl, by omega, ?_, ?_, ?_, ?_⟩)
        · rw [htk, hke, List.map_append]; exact ow1
        · rw [htk, hte]; exact hy
        · rw [htk, hte]; exact hasc
        · rw [htk, hte]; omega
      | some nm =>
        obtain ⟨d', e1, hd'⟩ := s59 (talE ps hs now (es.take i)) y ev.a0 nm ev.ls.length g hy (by omega) hasc
        have hll := ev.hll
        simp only [Option.isSome_some, dIf_bool, if_true, f0, l0, Option.getD_some, bs]
        have f4' : ∀ {β : Type} (k : D → Option β), ((dFieldAddr tab ty31 4 (.fptr (evr ev))).bind fun q => (dLoad tab g ty28 q).bind k) = k ev.ld := fun k => by
          rw [← Option.bind_assoc, f4]; rfl
        rw [f4']
        simp only [lens28 ev.hld, bs, e1, toEnd_nrm, unblk_nrm, nth_zero, nth_succ, dBin_add, hw]
        have hke : keptE ps hs now (es.take i ++ [ev]) = keptE ps hs now (es.take i) := by simp [-Option.bind_some, keptE, hx]
        have hte : talE ps hs now (es.take i ++ [ev]) = addT (talE ps hs now (es.take i)) ev.a0 nm ev.ls.length := by rw [talE_snoc]; simp [-Option.bind_some, stepT, hx]
        refine .some (.inl ⟨rfl, k - 1, by omega, hgl, hgq, _, _, _, _, _, _, _, i + 1, rfl, by omega, ?_, ?_, ?_, ?_⟩)
        · rw [htk, hke]; exact ow
        · rw [htk, hte]; exact hd'
        · rw [htk, hte]; exact addT_asc hasc _ _ _
        · rw [htk, hte]; have := addT_len (talE ps hs now (es.take i)) ev.a0 nm ev.ls.length; omega
    · intro h0
      have h0 : i = es.length := by have : ¬ (i : Int) < es.length := by simpa [-Option.bind_some] using h0
                                    omega
      subst h0
      rw [List.take_length] at ow hy hasc hlen
      exact .some (.inr ⟨by simp [-Option.bind_some], rfl, hgl, hgq, ow, hy, hasc, hlen⟩)
  · rintro ⟨ex, ds, g⟩ ⟨q1, hgl, hgq, ow, hy, hasc, hlen⟩
    simp only at q1 hgl hgq ow hy
    subst q1
    simp only [unblk_self, toEnd_nrm, nth_zero, nth_succ, bs, mkRes_two] at hy ⊢
    have hsl := own_sl (n0 := h.length) (n := 2) ow (Nat.le_refl _) (fun a _ => evr_frz _ g 1 a)
    rw [scope_eq (d' := .tup [frz h.length g 3 (nth 0 ds), nth 0 (tlD ds)]) (by simp [-Option.bind_some, talr_frz' hy]; rfl) (by
      refine .tup _ fun d hd => ?_
      simp [-Option.bind_some] at hd
      rcases hd with rfl | rfl
      · exact slof_ok hsl fun a _ => evr_ok _ a
      · exact slof_ok hy fun a _ => talr_ok _ a) hgl hgq]
    exact .some ⟨rfl, _, _, rfl, hsl, hy, hasc, hlen⟩
/-- All of the first occur in the second, in order. -/
def gr : List Ev → List Ev → Bool
  | [], _ => true
  | _ :: _, [] => false
  | x :: a, y :: b => if sameE x y = true then gr a b else gr (x :: a) b
theorem gr_cc (x y : Ev) (a b : List Ev) : gr (x :: a) (y :: b) = if sameE x y = true then gr a b else gr (x :: a) b := by rw [gr]
theorem gr_both : ∀ b : List Ev, (∀ x a, gr (x :: a) b = true → gr a b = true) ∧ ∀ a y, gr a b = true → gr a (y :: b) = true
  | [] => ⟨fun x a h => by simp [-Option.bind_some, gr] at h, fun a y h => by
      cases a with
      | nil => simp [-Option.bind_some, gr]
      | cons x a => simp [-Option.bind_some, gr] at h⟩
  | z :: b => by
    obtain ⟨h1, h2⟩ := gr_both b
    have k1 : ∀ x a, gr (x :: a) (z :: b) = true → gr a (z :: b) = true := fun x a h => by
      unfold gr at h
      split at h
      · exact h2 a z h
      · exact h2 a z (h1 x a h)
    refine ⟨k1, fun a y h => ?_⟩
    cases a with
    | nil => simp [-Option.bind_some, gr]
    | cons x a =>
      rw [gr]
      split
      · exact k1 x a h
      · exact h
theorem gr_sub {a b : List Ev} (h : a.Sublist b) : gr a b = true := by
  induction h with
  | slnil => rfl
  | cons y _ ih => exact (gr_both _).2 _ y ih
  | cons_cons y _ ih => simp [-Option.bind_some, gr, sameE_refl, ih]
theorem s34 (a b : List Ev) (da db : D) (h : Hp) (ha : SlOf 10 evr a da) (hb : SlOf 10 evr b db) (hla : a.length ≤ 1000000) (hlb : b.length ≤ 1000000) : R fn34 [da, db] h = some (.bool (gr a b), h) := by
  suffices Wp (R fn34 [da, db] h) (fun p => p = (.bool (gr a b), h)) by
    obtain ⟨p, h1, rfl⟩ := this
    exact h1
  rw [e34]
  simp only [F34, bs, Option.bind_assoc]
  refine Wp.loop (fun n ds g => g = h ∧ ∃ x y, ∃ k i : Nat, ds = [.int .i64 k, .int .i64 i, x, y] ∧ k ≤ a.length ∧ n + i = b.length ∧ gr (a.drop k) (b.drop i) = gr a b)
    (fun r => r.1 = .ext 0 ∧ r.2.2 = h ∧ ∃ k : Nat, nth 0 r.2.1 = .int .i64 k ∧ decide ((k : Int) = a.length) = gr a b) b.length ⟨rfl, _, _, 0, 0, rfl, by omega, rfl, rfl⟩ ?_ ?_
  · rintro n ds g ⟨rfl, x, y, k, i, rfl, hk, hi, hg⟩
    simp only [F34_L0, nth_zero, nth_succ, bs, Option.bind_assoc, lens40 ha, lens40 hb, dBin_lss]
    by_cases hib : i < b.length
    · have hib' : (i : Int) < b.length := by omega
      by_cases hka : k < a.length
      · have hka' : (k : Int) < a.length := by omega
        have ga : a[k]? = some a[k] := List.getElem?_eq_getElem hka
        have gb : b[i]? = some b[i] := List.getElem?_eq_getElem hib
        rw [List.drop_eq_getElem_cons hka, List.drop_eq_getElem_cons hib] at hg
        have hda : gr (a.drop k) (b.drop (i + 1)) = gr (a[k] :: a.drop (k + 1)) (b.drop (i + 1)) := by rw [List.drop_eq_getElem_cons hka]
        generalize a[k] = u at ga hg hda
        generalize b[i] = v at gb hg
        have ia : dIndexAddr tab ty40 da (.int .i64 k) = some (.fptr (evr u)) := by rw [ixs40 ha]; simp [-Option.bind_some, ga]
        have ib : dIndexAddr tab ty40 db (.int .i64 i) = some (.fptr (evr v)) := by rw [ixs40 hb]; simp [-Option.bind_some, gb]
        have hw1 : IntKind.wrap .i64 ((k : Int) + 1) = ((k + 1 : Nat) : Int) := by
          rw [wrap_i64 (by omega) (by omega)]; omega
        have hw2 : IntKind.wrap .i64 ((i : Int) + 1) = ((i + 1 : Nat) : Int) := by
          rw [wrap_i64 (by omega) (by omega)]; omega
        simp only [hib', decide_true, gd_bool, if_true, bs, lens40 ha, dBin_lss, hka', dPick_bool, dIf_bool, ia, ib, evL, s61]
        rw [gr_cc] at hg
        cases hs : sameE u v
        · rw [hs] at hg
          simp only [Bool.false_eq_true, if_false, bs, toEnd_nrm, unblk_nrm, nth_zero, nth_succ, dBin_add, hw2]
          exact .some (.inl ⟨rfl, n - 1, by omega, rfl, _, _, k, i + 1, rfl, hk, by omega, by rw [hda]; simpa [-Option.bind_some] using hg⟩)
        · rw [hs] at hg
          simp only [if_true, bs, toEnd_nrm, unblk_nrm, nth_zero, nth_succ, dBin_add, hw1, hw2]
          exact .some (.inl ⟨rfl, n - 1, by omega, rfl, _, _, k + 1, i + 1, rfl, by omega, by omega, by simpa [-Option.bind_some] using hg⟩)
      · have hka' : ¬ (k : Int) < a.length := by omega
        have hke : k = a.length := by omega
        simp only [hib', decide_true, gd_bool, if_true, bs, lens40 ha, dBin_lss, hka', decide_false, dPick_bool, dIf_bool, Bool.false_eq_true, if_false]
        refine .some (.inr ⟨by simp [-Option.bind_some], rfl, rfl, k, rfl, ?_⟩)
        rw [List.drop_of_length_le (by omega)] at hg
        rw [← hg]
        simp [-Option.bind_some, gr, hke]
    · have hib' : ¬ (i : Int) < b.length := by omega
      simp only [hib', decide_false, gd_bool, Bool.false_eq_true, if_false, bs, dPick_bool, dIf_bool]
      refine .some (.inr ⟨by simp [-Option.bind_some], rfl, rfl, k, rfl, ?_⟩)
      rw [List.drop_of_length_le (show b.length ≤ i by omega)] at hg
      rw [← hg]
      by_cases hka : k < a.length
      · rw [List.drop_eq_getElem_cons hka]
        have : ¬ (k : Int) = a.length := by omega
        simp [-Option.bind_some, gr, this]
      · have hke : k = a.length := by omega
        rw [List.drop_of_length_le (by omega)]
        simp [-Option.bind_some, gr, hke]
  · rintro ⟨ex, ds, g⟩ ⟨q1, q2, k, q3, q4⟩
    simp only at q1 q2 q3
    subst q1; subst q2
    simp only [unblk_self, toEnd_nrm, nth_zero, q3, bs, lens40 ha, dBin_eql, mkRes_one, q4]
    exact .some rfl
theorem s29r (l : List Ev) (da db : D) (h : Hp) (ha : SlOf 10 evr l da) (hb : SlOf 10 evr l db) (hl : l.length ≤ 1000000) : R fn29 [da, db] h = some (.bool true, h) := by
  suffices Wp (R fn29 [da, db] h) (fun p => p = (.bool true, h)) by
    obtain ⟨p, h1, rfl⟩ := this
    exact h1
  rw [e29]
  simp only [F29, bs, Option.bind_assoc, lens40 ha, lens40 hb, dBin_neq, ne_eq, not_true, decide_false, dIf_bool, Bool.false_eq_true, if_false]
  refine Wp.loop (fun n ds g => g = h ∧ ∃ x y z, ∃ i : Nat, ds = [x, .int .i64 i, y, z] ∧ n + i = l.length)
    (fun r => r.1 = .ext 0 ∧ r.2.2 = h) l.length ⟨rfl, _, _, _, 0, rfl, rfl⟩ ?_ ?_
  · rintro n ds g ⟨rfl, x, y, z, i, rfl, hi⟩
    simp only [F29_L0, nth_zero, nth_succ, bs, Option.bind_assoc, lens40 ha, dBin_lss]
    refine Wp.dif ?_ ?_
    · intro h0
      have h0 : i < l.length := by have : (i : Int) < l.length := by simpa [-Option.bind_some] using h0
                                   omega
      have hg : l[i]? = some l[i] := List.getElem?_eq_getElem h0
      generalize l[i] = u at hg
      have ia : dIndexAddr tab ty40 da (.int .i64 i) = some (.fptr (evr u)) := by rw [ixs40 ha]; simp [-Option.bind_some, hg]
      have ib : dIndexAddr tab ty40 db (.int .i64 i) = some (.fptr (evr u)) := by rw [ixs40 hb]; simp [-Option.bind_some, hg]
      have hw : IntKind.wrap .i64 ((i : Int) + 1) = ((i + 1 : Nat) : Int) := by
        rw [wrap_i64 (by omega) (by omega)]; omega
      simp only [ia, ib, evL, s61, sameE_refl, bs, dUn_not, Bool.not_true, dIf_bool, Bool.false_eq_true, if_false, dBin_add, hw]
      exact .some (.inl ⟨rfl, n - 1, by omega, rfl, _, _, _, i + 1, rfl, by omega⟩)
    · intro _
      exact .some (.inr ⟨by simp [-Option.bind_some], rfl, rfl⟩)
  · rintro ⟨ex, ds, g⟩ ⟨q1, q2⟩
    simp only at q1 q2
    subst q1; subst q2
    simp only [unblk_self, toEnd_nrm, bs, mkRes_one]
    exact .some rfl
theorem expi_later {ps : List Pol} (hb : ∀ p ∈ ps, badP p = false) (hs : List Hld) {now now' : Int} (h0 : 0 ≤ now) (h1 : now ≤ now') (h2 : now' ≤ 253402300799999) (e : Ev) (h : (expi ps hs now e).isSome = true) : (expi ps hs now' e).isSome = true := by
  unfold expi at h ⊢
  cases hp : ps[(polI ps e).toNat]? with
  | none => rw [hp] at h; simp [-Option.bind_some] at h
  | some p =>
    rw [hp] at h
    have hbp := hb p (List.mem_of_getElem? hp)
    simp [-Option.bind_some, badP] at hbp
    simp only at h ⊢
    split at h
    · rename_i hc
      rw [wrap_i64 (by omega) (by omega)] at hc
      rw [if_pos]
      · rfl
      · rw [wrap_i64 (by omega) (by omega)]
        exact ⟨hc.1, by omega, h2, by omega, hc.2.2.2.2⟩
    · simp [-Option.bind_some] at h
theorem expi_more {ps : List Pol} (hs : List Hld) (x : Hld) {now : Int} (e : Ev) (h : (expi ps (hs ++ [x]) now e).isSome = true) : (expi ps hs now e).isSome = true := by
  unfold expi at h ⊢
  cases hp : ps[(polI ps e).toNat]? with
  | none => rw [hp] at h; simp [-Option.bind_some] at h
  | some p =>
    rw [hp] at h
    simp only at h ⊢
    split at h
    · rename_i hc
      rw [if_pos]
      · rfl
      · refine ⟨hc.1, hc.2.1, hc.2.2.1, hc.2.2.2.1, ?_⟩
        have := hc.2.2.2.2
        simp only [held, List.any_append, Bool.or_eq_false_iff] at this
        exact this.1
    · simp [-Option.bind_some] at h
theorem kept_sub {ps : List Pol} {hs hs' : List Hld} {now now' : Int} {es : List Ev} (h : ∀ e ∈ es, (expi ps hs now e).isSome = true → (expi ps hs' now' e).isSome = true) : (keptE ps hs' now' es).Sublist (keptE ps hs now es) := by
  have e : keptE ps hs' now' es = (keptE ps hs now es).filter fun e => (expi ps hs' now' e).isNone := by
    unfold keptE
    rw [List.filter_filter]
    refine List.filter_congr fun x hx => ?_
    have := h x hx
    cases h1 : expi ps hs now x <;> cases h2 : expi ps hs' now' x <;> simp [-Option.bind_some, h1, h2] at this ⊢
  rw [e]
  exact List.filter_sublist
theorem kept_again (ps : List Pol) (hs : List Hld) (now : Int) (es : List Ev) : keptE ps hs now (keptE ps hs now es) = keptE ps hs now es := by
  unfold keptE
  rw [List.filter_filter]
  refine List.filter_congr fun x _ => ?_
  simp [-Option.bind_some]
theorem tal_kept (ps : List Pol) (hs : List Hld) (now : Int) : ∀ es : List Ev, (∀ e ∈ es, expi ps hs now e = none) → ∀ t, es.foldl (stepT ps hs now) t = t
  | [], _, t => rfl
  | e :: r, h, t => by
    rw [List.foldl_cons]
    have : stepT ps hs now t e = t := by simp [-Option.bind_some, stepT, h e (by simp [-Option.bind_some])]
    rw [this]
    exact tal_kept ps hs now r (fun x hx => h x (by simp [-Option.bind_some, hx])) t
theorem tal_again (ps : List Pol) (hs : List Hld) (now : Int) (es : List Ev) : talE ps hs now (keptE ps hs now es) = [] :=
  tal_kept ps hs now _ (fun e he => by
    have := (List.mem_filter.1 he).2
    cases hx : expi ps hs now e
    · rfl
    · rw [hx] at this; simp [-Option.bind_some] at this) []
theorem kept_len (ps : List Pol) (hs : List Hld) (now : Int) (es : List Ev) : (keptE ps hs now es).length ≤ es.length := List.length_filter_le _ _
theorem law7 (zs : List Int) (d : D) (later : Int) (hd : Given .u8 zs d) (hz : ∀ z ∈ zs, 0 ≤ z ∧ z < 256) (l0 : 0 ≤ later) (l1 : later < 4294967296) : ∃ h', R fn7 [d, .int .u32 later] [] = some (.bool true, h') := by
  obtain ⟨h, hh⟩ : ∃ h : Hp, h = [] := ⟨_, rfl⟩
  rw [← hh]
  have hlen0 : h.length = 0 := by rw [hh]; rfl
  clear hh
  suffices Wp (R fn7 [d, .int .u32 later] h) (fun p => p.1 = .bool true) by
    obtain ⟨⟨x, h'⟩, h1, rfl⟩ := this
    exact ⟨h', h1⟩
  have fin : ∀ g : Hp, scope h g (.bool true) = some (.bool true, h) := fun g => scope_eq (by simp [-Option.bind_some]) (.bool _) (by omega) fun q hq => by omega
  rw [e7]
  simp only [F7, bs, s14, dUn_not, dIf_bool, Bool.not_true, Bool.false_eq_true, if_false]
  obtain ⟨dp, dh, de, now, h1, ps, hs, es, e1, c1, hl1, hp, hpl, hpb, hh, hhl, he, heo, hel, hn0, hn1⟩ := s15s zs d h hd hz
  refine Wp.step e1 ?_
  simp only [bs, dExtract_tup, List.getElem?_cons_zero, List.getElem?_cons_succ, Option.bind_assoc, dBin_lss, dBin_gtr]
  by_cases g0 : now < 0
  · simp only [g0, decide_true, gd_bool, Bool.true_eq_false, if_false, if_true, bs, dPick_bool, dIf_bool, mkRes_one, fin, gd_und]
    exact .some rfl
  by_cases g1 : 253402300799999 < now
  · simp only [g0, dBin_gtr, g1, decide_true, decide_false, gd_bool, Bool.true_eq_false, Bool.false_eq_true, if_false, if_true, bs, dPick_bool, dIf_bool, mkRes_one, fin, gd_und]
    exact .some rfl
  have w1 : IntKind.wrap .i64 later = later := wrap_i64 (by omega) (by omega)
  have w2 : IntKind.wrap .i64 (now + later) = now + later := wrap_i64 (by omega) (by omega)
  obtain ⟨nw, hnw, n0, n1⟩ : ∃ nw, nw = (if (253402300799999 : Int) ≤ now + later then 253402300799999 else now + later) ∧ now ≤ nw ∧ nw ≤ 253402300799999 := by
    refine ⟨_, rfl, ?_, ?_⟩ <;> split <;> omega
  simp only [g0, dBin_gtr, g1, decide_false, gd_bool, Bool.false_eq_true, if_false, if_true, bs, dPick_bool, dIf_bool]
  obtain ⟨dk, dt, f1, hdk, hdt, _, _⟩ := s27r ps dp hs dh now es de h1 hp (by omega) (.inl hh) (by omega) he (by omega)
  refine Wp.step f1 ?_
  simp only [bs, dExtract_tup, List.getElem?_cons_zero, List.getElem?_cons_succ, Option.bind_assoc]
  have hkl := kept_len ps hs now es
  obtain ⟨dk2, dt2, f2, hdk2, hdt2, _, _⟩ := s27r ps dp hs dh now (keptE ps hs now es) dk h1 hp (by omega) (.inl hh) (by omega) hdk (by omega)
  rw [kept_again] at hdk2
  rw [tal_again] at hdt2
  refine Wp.step f2 ?_
  simp only [bs, dExtract_tup, List.getElem?_cons_zero, List.getElem?_cons_succ, Option.bind_assoc, cv65_3, w1, dBin_add, w2, dMin_int]
  rw [← hnw]
  obtain ⟨dk3, dt3, f3, hdk3, hdt3, _, _⟩ := s27r ps dp hs dh nw es de h1 hp (by omega) (.inl hh) (by omega) he (by omega)
  refine Wp.step f3 ?_
  simp only [bs, dExtract_tup, List.getElem?_cons_zero, List.getElem?_cons_succ, Option.bind_assoc]
  refine wap39 (n0 := h1.length) (Nat.le_refl _) (Own.nils _ _ _ _) (slof_rows _ hh) (by simp [-Option.bind_some]; omega) fun x1 h2 ow1 len1 bel1 _ _ => ?_
  have ho1 := c1.lt
  have c2 : CD h2 h.length := c1.keep (bel1 _ ho1)
  simp only [bs]
  obtain ⟨v, h3, f4, c3, s3, hv⟩ := d33 c2
  refine Wp.step f4 ?_
  replace ow1 := ow1.same s3 ho1
  simp only [bs, bd56_0_1_2_4, bs39_1]
  rw [List.nil_append] at ow1
  refine wap39 (n0 := h1.length) (by rw [s3.1]; exact len1) ow1 (rowsOf_sl _ _ _ _) (by simp [-Option.bind_some]; omega) fun x2 h4 ow2 len2 bel2 _ _ => ?_
  obtain ⟨mo, hmo⟩ : ∃ mo : Hld, hldr mo = [.str [109, 111, 114, 101], .str [108, 101, 118, 101, 108], .str v, .int .i64 0, .int .i64 253402300799999] := ⟨⟨_, _, _, _, _⟩, rfl⟩
  have hrows : hs.map hldr ++ [[.str [109, 111, 114, 101], .str [108, 101, 118, 101, 108], .str v, .int .i64 0, .int .i64 253402300799999]] = (hs ++ [mo]).map hldr := by
    rw [List.map_append, ← hmo]; rfl
  rw [hrows] at ow2
  have hrd : RdH h4 (hs ++ [mo]) x2 := by
    obtain ⟨ob, _, q1, q2⟩ := own_ix (i := 0) ow2 (by simp [-Option.bind_some])
    exact .inr ⟨ob, by rw [q1]; simp [-Option.bind_some], q2⟩
  obtain ⟨dk4, dt4, f5, hdk4, hdt4, _, _⟩ := s27r ps dp (hs ++ [mo]) x2 now es de h4 hp (by omega) hrd (by simp [-Option.bind_some]; omega) he (by omega)
  simp only [bs]
  refine Wp.step f5 ?_
  have k1 := gr_sub (kept_sub (ps := ps) (hs := hs) (hs' := hs) (now := now) (now' := nw) (es := es) fun e _ hx => expi_later hpb hs (by omega) n0 n1 e hx)
  have k2 := gr_sub (kept_sub (ps := ps) (hs := hs ++ [mo]) (hs' := hs) (now := now) (now' := now) (es := es) fun e _ hx => expi_more hs mo e hx)
  have kl3 := kept_len ps hs nw es
  have kl4 := kept_len ps (hs ++ [mo]) now es
  have p1 := s29r (keptE ps hs now es) dk2 dk h4 hdk2 hdk (by omega)
  have p2 := s34 (keptE ps hs nw es) (keptE ps hs now es) dk3 dk h4 hdk3 hdk (by omega) (by omega)
  have p3 := s34 (keptE ps hs now es) (keptE ps (hs ++ [mo]) now es) dk dk4 h4 hdk hdk4 (by omega) (by omega)
  rw [k1] at p2
  rw [k2] at p3
  simp only [bs, dExtract_tup, List.getElem?_cons_zero, List.getElem?_cons_succ, Option.bind_assoc, lens58 hdt2, List.length_nil, Int.natCast_zero, dBin_eql, decide_true, gd_bool, if_true, gdW_bool, p1, p2, p3, dPick_bool, mkRes_one, fin]
  exact .some rfl
theorem wf_u32 {n : Int} (h : (Lit.int .u32 n).wf = true) : 0 ≤ n ∧ n < 4294967296 := by
  simp only [Lit.wf, Bool.and_eq_true, decide_eq_true_eq] at h
  have h1 : IntKind.min .u32 = 0 := rfl
  have h2 : IntKind.max .u32 = 4294967295 := rfl
  omega
theorem law7w (zs : List Int) (d : D) (later : Int) (hd : Given .u8 zs d) (hz : ∀ z ∈ zs, 0 ≤ z ∧ z < 256) (hw : (Lit.int .u32 later).wf = true) : ∃ h', R fn7 [d, .int .u32 later] [] = some (.bool true, h') := law7 zs d later hd hz (wf_u32 hw).1 (wf_u32 hw).2
end Go.Proofs.Ytdoppnhopjdhmaa
