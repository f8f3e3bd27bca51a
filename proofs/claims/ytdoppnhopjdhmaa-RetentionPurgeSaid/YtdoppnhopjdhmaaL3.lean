/- Laws, on plain data, about functions that the statement reaches. -/
import Derived.Test.YtdoppnhopjdhmaaL2
set_option linter.unusedSimpArgs false
set_option linter.unusedVariables false
set_option linter.unnecessarySimpa false
set_option maxRecDepth 100000
namespace Go.Proofs.Ytdoppnhopjdhmaa
open Go.Eng Go.Pi
theorem rdT_ix {h : Hp} {l : List Tal} {d : D} (hd : RdT h l d) (i : Nat) (p : Tal) (hp : l[i]? = some p) : ∃ q, dIndexAddr tab ty58 d (.int .i64 i) = some q ∧ dLoad tab h ty106 q = some (.agg (talr p)) := by
  have hi := (List.getElem?_eq_some_iff.1 hp).1
  rcases hd with hd | ⟨ob, rfl, ho⟩
  · exact ⟨.fptr (talr p), by rw [ixs58 hd]; simp [-Option.bind_some, hp], talr_ld p h⟩
  · have hr : (l.map talr)[i]? = some (talr p) := by rw [List.getElem?_map, hp]; rfl
    have hh : (0 : Int) ≤ (i : Int) ∧ (i : Int) < (l.length : Int) := by omega
    refine ⟨.ptr ob i 0, by rw [ixm58]; simp [-Option.bind_some, hh], ?_⟩
    rw [ldp106, row_of ho, hr]; rfl
theorem s87 (l : List Tal) (d : D) (t : Tal) (fn : D) (c : Tal → Int) (h : Hp) (hd : RdT h l d) (hl : l.length ≤ 1000000) (hf : ∀ x, callV R fn [.agg (talr x), .agg (talr t)] h = some (.int .i64 (c x), h))
   (k : Nat) (hk : k ≤ l.length) (h1 : ∀ i x, l[i]? = some x → i < k → c x < 0) (h2 : ∀ i x, l[i]? = some x → k ≤ i → 0 ≤ c x) :
   R fn87 [d, .agg (talr t), fn] h = some (.tup [.int .i64 k, .bool (match l[k]? with | some x => decide (c x = 0) | none => false)], h) := by
  suffices Wp (R fn87 [d, .agg (talr t), fn] h) (fun p => p = (.tup [.int .i64 k, .bool (match l[k]? with | some x => decide (c x = 0) | none => false)], h)) by
    obtain ⟨p, h1, rfl⟩ := this
    exact h1
  rw [e87]
  simp only [F87, pBoxF_agg, bs, Option.bind_assoc, rdT_len hd]
  refine Wp.loop (fun n ds g => g = h ∧ ∃ a b e, ∃ lo hi : Nat, ds = [.int .i64 lo, .int .i64 hi, a, b, e] ∧ lo ≤ k ∧ k ≤ hi ∧ hi ≤ l.length ∧ n = hi - lo)
      (fun x => x.1 = .ext 0 ∧ x.2.2 = h ∧ nth 0 x.2.1 = .int .i64 k) l.length ⟨rfl, _, _, _, 0, l.length, rfl, by omega, hk, Nat.le_refl _, rfl⟩ ?_ ?_
  · rintro n ds g ⟨rfl, a, b, e, lo, hi, rfl, hlo, hhi, hle, rfl⟩
    simp only [F87_L0, nth_zero, nth_succ, bs, Option.bind_assoc, dBin_lss]
    refine Wp.dif ?_ ?_
    · intro h0
      have h0 : lo < hi := by have : (lo : Int) < hi := by simpa [-Option.bind_some] using h0
                              omega
      have hw : IntKind.wrap .i64 ((lo : Int) + hi) = ((lo + hi : Nat) : Int) := by
        rw [wrap_i64 (by omega) (by omega)]; omega
      have hw2 : IntKind.wrap .u64 ((lo + hi : Nat) : Int) = ((lo + hi : Nat) : Int) := by
        unfold IntKind.wrap
        simp [-Option.bind_some, IntKind.signed, IntKind.bits, IntKind.min, IntKind.max]
        omega
      have hw3 : (((lo + hi : Nat) : Int)).fdiv (2 ^ (min (Int.toNat 1) IntKind.u64.bits)) = (((lo + hi) / 2 : Nat) : Int) := by
        rw [show (2 : Int) ^ (min (Int.toNat 1) IntKind.u64.bits) = 2 by decide]
        rw [Int.fdiv_eq_ediv_of_nonneg _ (by omega)]
        omega
      have hw4 : IntKind.wrap .i64 (((lo + hi) / 2 : Nat) : Int) = (((lo + hi) / 2 : Nat) : Int) := wrap_i64 (by omega) (by omega)
      have hw5 : IntKind.wrap .i64 ((((lo + hi) / 2 : Nat) : Int) + 1) = (((lo + hi) / 2 + 1 : Nat) : Int) := by
        rw [wrap_i64 (by omega) (by omega)]; omega
      have hm : (lo + hi) / 2 < l.length := by omega
      have hm1 : lo ≤ (lo + hi) / 2 := by omega
      have hm2 : (lo + hi) / 2 < hi := by omega
      generalize (lo + hi) / 2 = mid at *
      have hg : l[mid]? = some l[mid] := List.getElem?_eq_getElem hm
      generalize l[mid] = x at hg
      obtain ⟨q0, i0, i1⟩ := rdT_ix hd mid x hg
      simp only [dBin_add, hw, cv3_134, cv134_3, bs, hw2, dBin_shr, show ¬ (1 : Int) < 0 by omega, if_false, hw3, hw4, i0, i1, talr_ld, hf, dBin_lss]
      by_cases hc : c x < 0
      · have hkm : mid < k := by
          rcases Nat.lt_or_ge mid k with hh | hh
          · exact hh
          · have := h2 mid x hg hh
            omega
        simp only [hc, decide_true, dIf_bool, if_true, bs, hw5, unblk_nrm, nth_zero, nth_succ]
        exact .some (.inl ⟨rfl, hi - (mid + 1), by omega, rfl, _, _, _, mid + 1, hi, rfl, by omega, hhi, hle, rfl⟩)
      · have hkm : k ≤ mid := by
          rcases Nat.lt_or_ge mid k with hh | hh
          · exact absurd (h1 mid x hg hh) hc
          · exact hh
        simp only [hc, decide_false, dIf_bool, Bool.false_eq_true, if_false, bs, unblk_nrm, nth_zero, nth_succ]
        exact .some (.inl ⟨rfl, mid - lo, by omega, rfl, _, _, _, lo, mid, rfl, hlo, hkm, by omega, rfl⟩)
    · intro h0
      have h0 : lo = k := by have : ¬ (lo : Int) < hi := by simpa [-Option.bind_some] using h0
                             omega
      subst h0
      exact .some (.inr ⟨by simp [-Option.bind_some], rfl, rfl, rfl⟩)
  · rintro ⟨ex, ds, g⟩ ⟨q1, q2, q3⟩
    simp only at q1 q2 q3
    subst q1; subst q2
    simp only [unblk_self, toEnd_nrm, nth_zero, q3, bs, dBin_lss]
    by_cases hkl : k < l.length
    · have hg : l[k]? = some l[k] := List.getElem?_eq_getElem hkl
      have hlt : (k : Int) < l.length := by omega
      generalize l[k] = x at hg
      obtain ⟨q0, i0, i1⟩ := rdT_ix hd k x hg
      simp only [hlt, decide_true, gd_bool, if_true, bs, i0, i1, talr_ld, gdW_bool, hf, dBin_eql, dPick_bool, mkRes_two, hg]
      exact .some rfl
    · have hg : l[k]? = none := List.getElem?_eq_none (by omega)
      have hlt : ¬ (k : Int) < l.length := by omega
      simp only [hlt, decide_false, gd_bool, Bool.false_eq_true, if_false, bs, gdW_bool, dPick_bool, mkRes_two, hg]
      exact .some rfl
theorem s80 (l : List Tal) (d : D) (hst : Int) (rule : Str) (h : Hp) (hd : RdT h l d) (hl : l.length ≤ 1000000)
   (k : Nat) (hk : k ≤ l.length) (h1 : ∀ i x, l[i]? = some x → i < k → cmpT x ⟨hst, rule, 0⟩ < 0) (h2 : ∀ i x, l[i]? = some x → k ≤ i → 0 ≤ cmpT x ⟨hst, rule, 0⟩) :
   R fn80 [d, .int .i64 hst, .str rule] h = some (.tup [.int .i64 k, .bool (match l[k]? with | some x => decide (cmpT x ⟨hst, rule, 0⟩ = 0) | none => false)], h) := by
  have hb : dBuild tab ty106 [0, 1] [.int .i64 hst, .str rule] = some (.agg (talr ⟨hst, rule, 0⟩)) := id rfl
  rw [e80]
  simp only [F80, bs, hb, Option.bind_assoc]
  rw [s87 l d ⟨hst, rule, 0⟩ (.fn (.func fn88) [] []) (fun x => cmpT x ⟨hst, rule, 0⟩) h hd hl (fun x => by rw [callV_some]; exact s88 x _ h) k hk h1 h2]
  rfl
theorem bL_irr : ∀ a : Str, Op.bytesLess a a = false
  | [] => rfl
  | x :: a => by simp [-Option.bind_some, Op.bytesLess, bL_irr a]
theorem bL_tr : ∀ {a b c : Str}, Op.bytesLess a b = true → Op.bytesLess b c = true → Op.bytesLess a c = true
  | _, [], _, h, _ => by cases ‹Str› <;> simp [-Option.bind_some, Op.bytesLess] at h
  | _, _ :: _, [], _, h => by simp [-Option.bind_some, Op.bytesLess] at h
  | [], _ :: _, _ :: _, _, _ => rfl
  | x :: a, y :: b, z :: c, h, k => by
    simp only [Op.bytesLess, Bool.or_eq_true, decide_eq_true_eq, Bool.and_eq_true, beq_iff_eq] at h k ⊢
    rcases h with h | ⟨rfl, h⟩
    · rcases k with k | ⟨rfl, k⟩
      · exact .inl (UInt8.lt_trans h k)
      · exact .inl h
    · rcases k with k | ⟨rfl, k⟩
      · exact .inl k
      · exact .inr ⟨rfl, bL_tr h k⟩
theorem bL_tot : ∀ {a b : Str}, Op.bytesLess a b = false → a ≠ b → Op.bytesLess b a = true
  | [], [], _, h => absurd rfl h
  | [], _ :: _, h, _ => by simp [-Option.bind_some, Op.bytesLess] at h
  | _ :: _, [], _, _ => rfl
  | x :: a, y :: b, h, k => by
    simp only [Op.bytesLess, Bool.or_eq_false_iff, decide_eq_false_iff_not, Bool.and_eq_false_iff, beq_eq_false_iff_ne] at h
    simp only [Op.bytesLess, Bool.or_eq_true, decide_eq_true_eq, Bool.and_eq_true, beq_iff_eq]
    by_cases hxy : x = y
    · subst hxy
      refine .inr ⟨rfl, bL_tot (h.2.resolve_left fun hh => hh rfl) fun hh => k (by rw [hh])⟩
    · left
      have h1 := mt UInt8.lt_iff_toNat_lt.2 h.1
      have h2 : x.toNat ≠ y.toNat := fun hh => hxy (UInt8.toNat_inj.1 hh)
      exact UInt8.lt_iff_toNat_lt.2 (by omega)
/-- The order of tallies. -/
def kl (a b : Tal) : Prop := a.h < b.h ∨ (a.h = b.h ∧ Op.bytesLess a.r b.r = true)
theorem cmpT_lt (a b : Tal) : cmpT a b < 0 ↔ kl a b := by
  unfold cmpT orI orI orI cmpI cmpS kl
  by_cases h1 : a.h < b.h
  · simp [-Option.bind_some, h1]
  · by_cases h2 : b.h < a.h
    · have h3 : ¬ a.h = b.h := by omega
      simp [-Option.bind_some, h1, h2, h3]
    · have h3 : a.h = b.h := by omega
      cases h4 : Op.bytesLess a.r b.r
      · by_cases h5 : a.r = b.r <;> simp [-Option.bind_some, h3, h5]
      · simp [-Option.bind_some, h3]
theorem cmpT_eq (a b : Tal) : cmpT a b = 0 ↔ a.h = b.h ∧ a.r = b.r := by
  unfold cmpT orI orI orI cmpI cmpS
  by_cases h1 : a.h < b.h
  · have h3 : ¬ a.h = b.h := by omega
    simp [-Option.bind_some, h1, h3]
  · by_cases h2 : b.h < a.h
    · have h3 : ¬ a.h = b.h := by omega
      simp [-Option.bind_some, h1, h2, h3]
    · have h3 : a.h = b.h := by omega
      cases h4 : Op.bytesLess a.r b.r
      · by_cases h5 : a.r = b.r <;> simp [-Option.bind_some, h3, h5]
      · have h5 : ¬ a.r = b.r := fun hh => by rw [hh, bL_irr] at h4; cases h4
        simp [-Option.bind_some, h3, h5]
theorem kl_tr {a b c : Tal} (h : kl a b) (k : kl b c) : kl a c := by
  unfold kl at *
  rcases h with h | ⟨h, h'⟩ <;> rcases k with k | ⟨k, k'⟩
  · left; omega
  · left; omega
  · left; omega
  · exact .inr ⟨by omega, bL_tr h' k'⟩
theorem kl_tot {a b : Tal} (h : ¬ kl a b) (k : ¬ (a.h = b.h ∧ a.r = b.r)) : kl b a := by
  unfold kl at *
  by_cases h1 : a.h = b.h
  · right
    refine ⟨h1.symm, bL_tot ?_ fun hh => k ⟨h1, hh⟩⟩
    cases h2 : Op.bytesLess a.r b.r
    · rfl
    · exact absurd (.inr ⟨h1, h2⟩) h
  · left
    have : ¬ a.h < b.h := fun hh => h (.inl hh)
    omega
def TAsc (l : List Tal) : Prop := l.Pairwise kl
/-- Where a key stands, or would. -/
def kT (key : Tal) : List Tal → Nat
  | [] => 0
  | x :: r => if cmpT x key < 0 then kT key r + 1 else 0
theorem kT_le (key : Tal) : ∀ l, kT key l ≤ l.length
  | [] => Nat.le_refl _
  | x :: r => by
    unfold kT
    split
    · have := kT_le key r; simp [-Option.bind_some]; omega
    · simp [-Option.bind_some]
theorem kT_lt (key : Tal) : ∀ (l : List Tal) (i : Nat) (x : Tal), l[i]? = some x → i < kT key l → cmpT x key < 0
  | y :: r, 0, x, hx, hi => by
    unfold kT at hi
    simp [-Option.bind_some] at hx
    subst hx
    split at hi
    · assumption
    · omega
  | y :: r, i + 1, x, hx, hi => by
    unfold kT at hi
    simp [-Option.bind_some] at hx
    split at hi
    · exact kT_lt key r i x hx (by omega)
    · omega
theorem kT_ge (key : Tal) : ∀ (l : List Tal), TAsc l → ∀ (i : Nat) (x : Tal), l[i]? = some x → kT key l ≤ i → 0 ≤ cmpT x key
  | y :: r, hs, i, x, hx, hi => by
    unfold kT at hi
    have hs' := List.pairwise_cons.1 hs
    split at hi
    · cases i with
      | zero => omega
      | succ i => exact kT_ge key r hs'.2 i x (by simpa [-Option.bind_some] using hx) (by omega)
    · rename_i hc
      rcases Int.lt_or_le (cmpT x key) 0 with h1 | h1
      · exfalso
        cases i with
        | zero => simp [-Option.bind_some] at hx; subst hx; exact hc h1
        | succ i =>
          have hx' : r[i]? = some x := by simpa [-Option.bind_some] using hx
          exact hc ((cmpT_lt _ _).2 (kl_tr (hs'.1 x (List.mem_of_getElem? hx')) ((cmpT_lt _ _).1 h1)))
      · exact h1
/-- The tallies with some lines more. -/
def addK (l : List Tal) (hst : Int) (rule : Str) (n : Int) (k : Nat) : List Tal := match l[k]? with
  | some x => if cmpT x ⟨hst, rule, 0⟩ = 0 then l.set k ⟨x.h, x.r, IntKind.wrap .i64 (x.n + n)⟩ else l.take k ++ [⟨hst, rule, IntKind.wrap .i64 (0 + n)⟩] ++ l.drop k
  | none => l.take k ++ [⟨hst, rule, IntKind.wrap .i64 (0 + n)⟩] ++ l.drop k
def addT (l : List Tal) (hst : Int) (rule : Str) (n : Int) : List Tal := if n < 1 then l else addK l hst rule n (kT ⟨hst, rule, 0⟩ l)
theorem u79 (l : List Tal) (d : D) (h : Hp) (hd : SlOf 3 talr l d) (hl : l.length ≤ 1000000) : ∃ d' h', R fn79 [d] h = some (d', h') ∧ h.length ≤ h'.length ∧ (∀ q, q < h.length → h'[q]? = h[q]?) ∧
    ((l = [] ∧ (d' = .nils ∨ d' = .sl 3 true [])) ∨ ∃ ob, h.length ≤ ob ∧ d' = .msl 3 ob 0 l.length ∧ h'[ob]? = some (.row ty106 3 (l.map talr))) := by
  rw [e79]
  rcases hd with ⟨rfl, rfl⟩ | ⟨b, rfl⟩
  · exact ⟨.nils, h, by
      have hne : dBin tab .eql ty58 .nils .nils = some (.bool true) := id rfl
      simp [-Option.bind_some, F79, hne], Nat.le_refl _, fun _ _ => rfl, .inl ⟨rfl, .inl rfl⟩⟩
  · obtain ⟨x', h', e, hl', hq, ho⟩ := app_full (T := tab) (t := ty58) (i := ti58) (j := ti106) (h := h) (id rfl) (id rfl) (id rfl) (by decide) (y := .sl 3 b (l.map talr)) (rowsOf_sl _ _ _ _) (lim_ok (by have : ti106.by_ = 32 := rfl; rw [this, List.length_map]; omega) (by rw [List.length_map]; omega))
    have e' : dAppend tab h ty58 ty58 (.sl 3 true []) (.sl 3 b (l.map talr)) = some (x', h') := e
    have hne : dBin tab .eql ty58 (.sl 3 b (l.map talr)) .nils = some (.bool false) := id rfl
    refine ⟨x', h', ?_, hl', hq, ?_⟩
    · simp only [F79, bs, hne, dIf_bool, Bool.false_eq_true, if_false, bs58_0, e', mkRes_one]
    · rcases ho with ⟨rfl, hn⟩ | ⟨rfl, hn⟩ | ⟨ob, h1, rfl, h2⟩
      · have : l = [] := by simpa [-Option.bind_some] using hn
        exact .inl ⟨this, .inr rfl⟩
      · have : l = [] := by simpa [-Option.bind_some] using hn
        exact .inl ⟨this, .inl rfl⟩
      · exact .inr ⟨ob, h1, by rw [List.length_map]; rfl, h2⟩
theorem lim106 {n : Nat} (hn : n ≤ 1000001) : lim n ti106.by_ = true := lim_ok (by have : ti106.by_ = 32 := rfl; rw [this]; omega) (by omega)
theorem s59 (l : List Tal) (d : D) (hst : Int) (rule : Str) (n : Int) (h : Hp) (hd : SlOf 3 talr l d) (hl : l.length ≤ 1000000) (hs : TAsc l) :
    ∃ d', R fn59 [d, .int .i64 hst, .str rule, .int .i64 n] h = some (d', h) ∧ SlOf 3 talr (addT l hst rule n) d' := by
  suffices Wp (R fn59 [d, .int .i64 hst, .str rule, .int .i64 n] h) (fun p => p.2 = h ∧ SlOf 3 talr (addT l hst rule n) p.1) by
    obtain ⟨⟨x, h'⟩, h1, rfl, h2⟩ := this
    exact ⟨x, h1, h2⟩
  rw [e59]
  obtain ⟨d1, h1, e1, hl1, hb1, hd1⟩ := u79 l d h hd hl
  simp only [F59, bs, e1, dBin_lss]
  refine Wp.dif (fun hn => ?_) (fun hn => ?_)
  · have hn : n < 1 := by simpa [-Option.bind_some] using hn
    have ha : addT l hst rule n = l := by simp [-Option.bind_some, addT, hn]
    rw [ha]
    rcases hd1 with ⟨rfl, rfl | rfl⟩ | ⟨ob, hob, rfl, ho⟩
    · simp only [mkRes_one, bs]
      rw [scope_eq rfl (by simp [-Option.bind_some]; exact .nils) hl1 hb1]
      exact .some ⟨rfl, by simpa [-Option.bind_some] using SlOf.nils _ _⟩
    · have hsl : SlOf 3 talr [] (.sl 3 true []) := .inr ⟨true, rfl⟩
      simp only [mkRes_one, bs]
      rw [scope_eq (d' := .sl 3 true []) rfl (slof_ok hsl fun a _ => talr_ok _ a) hl1 hb1]
      exact .some ⟨rfl, hsl⟩
    · have ow : Own h1 h.length ty106 3 (l.map talr) (.msl 3 ob 0 l.length) := .inr ⟨ob, hob, by simp [-Option.bind_some], ho⟩
      have hsl := own_sl (n0 := h.length) (n := 3) ow (Nat.le_refl _) (fun a _ => talr_frz _ h1 _ a)
      simp only [mkRes_one, bs]
      rw [scope_eq rfl (slof_ok hsl fun a _ => talr_ok _ a) hl1 hb1]
      exact .some ⟨rfl, hsl⟩
  · have hn : ¬ n < 1 := by simpa [-Option.bind_some] using hn
    have ha : addT l hst rule n = addK l hst rule n (kT ⟨hst, rule, 0⟩ l) := by simp [-Option.bind_some, addT, hn]
    rw [ha]
    have hrd : RdT h1 l d1 := by
      rcases hd1 with ⟨rfl, rfl | rfl⟩ | ⟨ob, hob, rfl, ho⟩
      · exact .inl (.nils _ _)
      · exact .inl (.inr ⟨true, rfl⟩)
      · exact .inr ⟨ob, rfl, ho⟩
    have hk := kT_le ⟨hst, rule, 0⟩ l
    have h80 := s80 l d1 hst rule h1 hrd hl (kT ⟨hst, rule, 0⟩ l) hk (kT_lt _ l) (kT_ge _ l hs)
    generalize kT ⟨hst, rule, 0⟩ l = k at hk h80
    simp only [h80, bs, dExtract_tup, List.getElem?_cons_zero, List.getElem?_cons_succ, dUn_not]
    refine Wp.join (P := fun r => ∃ (d2 : D) (h2 : Hp) (ob : Nat) (L : List Tal) (x : Tal), r = (.nrm, [d2], h2) ∧ d2 = .msl 3 ob 0 L.length ∧ h.length ≤ ob ∧ h.length ≤ h2.length ∧ (∀ q, q < h.length → h2[q]? = h[q]?) ∧ h2[ob]? = some (.row ty106 3 (L.map talr)) ∧ L[k]? = some x ∧ L.set k ⟨x.h, x.r, IntKind.wrap .i64 (x.n + n)⟩ = addK l hst rule n k) ?_ ?_ ?_
    · intro hf
      have hadd : addK l hst rule n k = l.take k ++ [⟨hst, rule, IntKind.wrap .i64 (0 + n)⟩] ++ l.drop k := by
        unfold addK
        cases hg : l[k]? with
        | none => rfl
        | some x =>
          rw [hg] at hf
          have : ¬ cmpT x ⟨hst, rule, 0⟩ = 0 := by simpa [-Option.bind_some] using hf
          simp [-Option.bind_some, this]
      have hlt : (l.take k).length = k := by simp [-Option.bind_some]; omega
      have hL : (l.take k ++ [(⟨hst, rule, 0⟩ : Tal)] ++ l.drop k)[k]? = some ⟨hst, rule, 0⟩ := by
        rw [List.append_assoc, List.getElem?_append_right (by omega), hlt]; simp [-Option.bind_some]
      have hset : (l.take k ++ [(⟨hst, rule, 0⟩ : Tal)] ++ l.drop k).set k ⟨hst, rule, IntKind.wrap .i64 (0 + n)⟩ = l.take k ++ [⟨hst, rule, IntKind.wrap .i64 (0 + n)⟩] ++ l.drop k := by
        rw [List.append_assoc, List.set_append_right _ _ (by omega), hlt]; simp [-Option.bind_some]
      have hlen : (l.take k ++ [(⟨hst, rule, 0⟩ : Tal)] ++ l.drop k).length = l.length + 1 := by simp [-Option.bind_some]; omega
      have hmap : (l.take k ++ [(⟨hst, rule, 0⟩ : Tal)] ++ l.drop k).map talr = (l.map talr).take k ++ [[.int .i64 hst, .str rule, .int .i64 0]] ++ (l.map talr).drop k := by
        rw [List.map_append, List.map_append, List.map_take, List.map_drop]; rfl
      have hz : ti106.sz = 3 := rfl
      have hlim : lim (l.length + 1) ti106.by_ = true := lim106 (by omega)
      have hlim1 : lim 1 ti106.by_ = true := lim106 (by omega)
      simp only [bd106_0_1, bs58_1, bs, xins81]
      rcases hd1 with ⟨rfl, hdd⟩ | ⟨ob, hob, rfl, ho⟩
      · have hk0 : k = 0 := by simpa [-Option.bind_some] using hk
        subst hk0
        have hi : dIns ty106 ti106 [d1, .int .i64 ((0 : Nat) : Int), .sl 3 true [[.int .i64 hst, .str rule, .int .i64 0]]] h1 = some (.msl 3 h1.length 0 1, dNew h1 ty106 3 [[.int .i64 hst, .str rule, .int .i64 0]]) := by
          rcases hdd with rfl | rfl <;> simp [-Option.bind_some, dIns, hz, hlim1]
        rw [hi]
        simp only [bs]
        refine .some ⟨_, _, h1.length, [⟨hst, rule, 0⟩], ⟨hst, rule, 0⟩, rfl, rfl, hl1, ?_, fun q hq => ?_, dNew_get _ _ _ _, rfl, ?_⟩
        · simp [-Option.bind_some, dNew]; omega
        · rw [dNew_old _ _ _ _ (by omega)]; exact hb1 q hq
        · rw [hadd]; simp [-Option.bind_some]
      · have hi : dIns ty106 ti106 [.msl 3 ob 0 l.length, .int .i64 (k : Int), .sl 3 true [[.int .i64 hst, .str rule, .int .i64 0]]] h1 = some (.msl 3 h1.length 0 (l.length + 1), dNew (h1.set ob .dead) ty106 3 ((l.map talr).take k ++ [[.int .i64 hst, .str rule, .int .i64 0]] ++ (l.map talr).drop k)) := by
          have hkl : (k : Int) ≤ (l.length : Int) := by omega
          simp [-Option.bind_some, dIns, hz, hlim, ho, hkl]
        rw [hi]
        simp only [bs]
        refine .some ⟨_, _, h1.length, l.take k ++ [⟨hst, rule, 0⟩] ++ l.drop k, ⟨hst, rule, 0⟩, rfl, by rw [hlen], hl1, ?_, fun q hq => ?_, ?_, hL, by rw [hadd]; exact hset⟩
        · simp [-Option.bind_some, dNew]; omega
        · rw [dNew_old _ _ _ _ (by simp [-Option.bind_some]; omega), List.getElem?_set_ne (by omega)]; exact hb1 q hq
        · have := dNew_get (h1.set ob .dead) ty106 3 ((l.take k ++ [(⟨hst, rule, 0⟩ : Tal)] ++ l.drop k).map talr)
          simp only [List.length_set] at this
          rw [hmap] at this ⊢
          exact this
    · intro hf
      cases hg : l[k]? with
      | none => rw [hg] at hf; simp [-Option.bind_some] at hf
      | some x =>
        rw [hg] at hf
        have hc : cmpT x ⟨hst, rule, 0⟩ = 0 := by simpa [-Option.bind_some] using hf
        rcases hd1 with ⟨rfl, hdd⟩ | ⟨ob, hob, rfl, ho⟩
        · simp [-Option.bind_some] at hg
        · refine .some ⟨_, _, ob, l, x, rfl, rfl, hob, hl1, hb1, ho, hg, ?_⟩
          simp [-Option.bind_some, addK, hg, hc]
    · rintro _ ⟨d2, h2, ob, L, x, rfl, rfl, hob, hl2, hb2, ho, hx, hfin⟩
      have hkL : k < L.length := (List.getElem?_eq_some_iff.1 hx).1
      have hkl2 : (0 : Int) ≤ (k : Int) ∧ (k : Int) < (L.length : Int) := by omega
      have hr : (L.map talr)[k]? = some (talr x) := by rw [List.getElem?_map, hx]; rfl
      simp only [toEnd_nrm, nth_zero, bs, ixm58, hkl2, and_self, if_true, fap106_2, Int.toNat_natCast, Nat.zero_add, ldp3, row_of ho, hr]
      simp only [talr, List.drop_succ_cons, List.drop_zero, List.head?_cons, bs, dBin_add]
      simp only [Option.bind_assoc, bs]
      refine wst3 (off := 2) (v := .int .i64 (IntKind.wrap .i64 (x.n + n))) ho hr rfl (by simp [-Option.bind_some, talr]) rfl fun h3 q3 s3 => ?_
      have hset : (L.map talr).set k (spl (talr x) 2 (cells1 (.int .i64 (IntKind.wrap .i64 (x.n + n))))) = (addK l hst rule n k).map talr := by
        rw [← hfin, List.map_set]; rfl
      rw [hset] at q3
      simp only [bs, mkRes_one]
      have hlen : (addK l hst rule n k).length = L.length := by rw [← hfin]; simp [-Option.bind_some]
      have ow : Own h3 h.length ty106 3 ((addK l hst rule n k).map talr) (.msl 3 ob 0 L.length) := .inr ⟨ob, hob, by simp [-Option.bind_some, hlen], q3⟩
      have hsl := own_sl (n0 := h.length) (n := 3) ow (Nat.le_refl _) (fun a _ => talr_frz _ h3 _ a)
      rw [scope_eq rfl (slof_ok hsl fun a _ => talr_ok _ a) (by have := s3.1; omega) (fun q hq => (s3.2 q (by omega)).trans (hb2 q hq))]
      exact .some ⟨rfl, hsl⟩
theorem addT_len (l : List Tal) (hst : Int) (rule : Str) (n : Int) : (addT l hst rule n).length ≤ l.length + 1 := by
  unfold addT
  split
  · omega
  · have hk := kT_le ⟨hst, rule, 0⟩ l
    generalize kT ⟨hst, rule, 0⟩ l = k at hk
    unfold addK
    split
    · split
      · simp [-Option.bind_some]
      · simp [-Option.bind_some]; omega
    · simp [-Option.bind_some]; omega
theorem addT_asc {l : List Tal} (hs : TAsc l) (hst : Int) (rule : Str) (n : Int) : TAsc (addT l hst rule n) := by
  unfold addT
  split
  · exact hs
  · have hk := kT_le ⟨hst, rule, 0⟩ l
    have h1 := kT_lt ⟨hst, rule, 0⟩ l
    have h2 := kT_ge ⟨hst, rule, 0⟩ l hs
    generalize kT ⟨hst, rule, 0⟩ l = k at hk h1 h2
    have hins : (∀ x, l[k]? = some x → ¬ cmpT x ⟨hst, rule, 0⟩ = 0) → TAsc (l.take k ++ [⟨hst, rule, IntKind.wrap .i64 (0 + n)⟩] ++ l.drop k) := fun hne => by
      have hpre : ∀ x ∈ l.take k, kl x ⟨hst, rule, 0⟩ := fun x hx => by
        obtain ⟨i, hi⟩ := List.mem_iff_getElem?.1 hx
        rw [List.getElem?_take] at hi
        split at hi
        · exact (cmpT_lt _ _).1 (h1 i x hi (by assumption))
        · cases hi
      have hpost : ∀ x ∈ l.drop k, kl ⟨hst, rule, 0⟩ x := fun x hx => by
        obtain ⟨i, hi⟩ := List.mem_iff_getElem?.1 hx
        rw [List.getElem?_drop] at hi
        have hge := h2 (k + i) x hi (by omega)
        refine kl_tot (fun hh => ?_) fun hh => ?_
        · have := (cmpT_lt _ _).2 hh; omega
        · have h0 := (cmpT_eq x ⟨hst, rule, 0⟩).2 hh
          cases i with
          | zero => exact hne x hi h0
          | succ i =>
            have hlt := (List.getElem?_eq_some_iff.1 hi).1
            have hg : l[k]? = some (l[k]'(by omega)) := List.getElem?_eq_getElem (by omega)
            generalize l[k]'(by omega) = y at hg
            have hky : kl y x := by
              have := List.pairwise_iff_getElem.1 hs k (k + (i + 1)) (by omega) hlt (by omega)
              rw [List.getElem?_eq_getElem (by omega)] at hg hi
              injection hg with hg
              injection hi with hi
              rwa [hg, hi] at this
            have := h2 k y hg (Nat.le_refl _)
            have h3 : cmpT y ⟨hst, rule, 0⟩ < 0 := by
              rw [cmpT_lt]
              unfold kl at hky ⊢
              rw [hh.1, hh.2] at hky
              exact hky
            omega
      unfold TAsc
      rw [List.append_assoc, List.pairwise_append]
      refine ⟨hs.sublist (List.take_sublist _ _), ?_, fun a ha b hb => ?_⟩
      · rw [List.singleton_append, List.pairwise_cons]
        exact ⟨fun b hb => hpost b hb, hs.sublist (List.drop_sublist _ _)⟩
      · rw [List.singleton_append, List.mem_cons] at hb
        rcases hb with rfl | hb
        · exact hpre a ha
        · exact kl_tr (hpre a ha) (hpost b hb)
    unfold addK
    cases hg : l[k]? with
    | none => exact hins fun x hx => by rw [hg] at hx; cases hx
    | some y =>
      simp only
      split
      · have hkl := (List.getElem?_eq_some_iff.1 hg).1
        unfold TAsc at hs ⊢
        rw [List.pairwise_iff_getElem] at hs ⊢
        have hval : l[k] = y := (List.getElem?_eq_some_iff.1 hg).2
        intro i j hi hj hij
        have q := hs i j (by simpa [-Option.bind_some] using hi) (by simpa [-Option.bind_some] using hj) hij
        simp only [List.getElem_set]
        by_cases hki : k = i
        · subst hki
          have hkj : ¬ k = j := by omega
          simp only [if_true, hkj, if_false]
          rw [hval] at q
          exact q
        · by_cases hkj : k = j
          · subst hkj
            simp only [hki, if_false, if_true]
            rw [hval] at q
            exact q
          · simp only [hki, hkj, if_false]
            exact q
      · rename_i hne
        exact hins fun x hx => by
          rw [hg] at hx
          injection hx with hx
          subst hx
          exact hne
def keptE (ps : List Pol) (hs : List Hld) (now : Int) (es : List Ev) : List Ev := es.filter fun e => (expi ps hs now e).isNone
def stepT (ps : List Pol) (hs : List Hld) (now : Int) (t : List Tal) (e : Ev) : List Tal := match expi ps hs now e with
  | some nm => addT t e.a0 nm e.ls.length
  | none => t
def talE (ps : List Pol) (hs : List Hld) (now : Int) (es : List Ev) : List Tal := es.foldl (stepT ps hs now) []
theorem talE_snoc (ps : List Pol) (hs : List Hld) (now : Int) (es : List Ev) (e : Ev) : talE ps hs now (es ++ [e]) = stepT ps hs now (talE ps hs now es) e := by
  simp [-Option.bind_some, talE]
theorem talr_frz' {l : List Tal} {d : D} (hd : SlOf 3 talr l d) (n0 : Nat) (h : Hp) (n : Nat) : frz n0 h n d = d := by
  cases n with
  | zero => rfl
  | succ n =>
    rcases hd with ⟨rfl, _⟩ | ⟨b, rfl⟩
    · simp [-Option.bind_some]
    · refine frz_sl_id fun row hrow => ?_
      obtain ⟨a, _, rfl⟩ := List.mem_map.1 hrow
      exact talr_frz _ _ _ a
theorem s27 (ps : List Pol) (dp : D) (hs : List Hld) (dh : D) (now : Int) (es : List Ev) (de : D) (h : Hp) (hdp : SlOf 4 polr ps dp) (hlp : ps.length ≤ 1000000000) (hdh : SlOf 5 hldr hs dh) (hlh : hs.length ≤ 1000000000) (he : SlOf 10 evr es de) (hel : es.length ≤ 100000) :
    ∃ dk dt, R fn27 [dp, dh, .int .i64 now, de] h = some (.tup [dk, dt], h) ∧ SlOf 10 evr (keptE ps hs now es) dk ∧ SlOf 3 talr (talE ps hs now es) dt ∧ TAsc (talE ps hs now es) ∧ (talE ps hs now es).length ≤ es.length := by
  suffices Wp (R fn27 [dp, dh, .int .i64 now, de] h) (fun p => p.2 = h ∧ ∃ dk dt, p.1 = .tup [dk, dt] ∧ SlOf 10 evr (keptE ps hs now es) dk ∧ SlOf 3 talr (talE ps hs now es) dt ∧ TAsc (talE ps hs now es) ∧ (talE ps hs now es).length ≤ es.length) by
    obtain ⟨⟨x, h'⟩, h1, rfl, dk, dt, rfl, h2⟩ := this
    exact ⟨dk, dt, h1, h2⟩
  rw [e27]
  simp only [F27, bs, Option.bind_assoc, lens40 he]
  refine Wp.loop (fun k ds g => h.length ≤ g.length ∧ (∀ q, q < h.length → g[q]? = h[q]?) ∧ ∃ x y a b c e f, ∃ i : Nat, ds = [x, y, a, b, c, .int .i64 i, e, f] ∧ k + i = es.length ∧ Own g h.length ty31 10 ((keptE ps hs now (es.take i)).map evr) x
        ∧ SlOf 3 talr (talE ps hs now (es.take i)) y ∧ TAsc (talE ps hs now (es.take i)) ∧ (talE ps hs now (es.take i)).length ≤ i)
      (fun r => r.1 = .ext 0 ∧ h.length ≤ r.2.2.length ∧ (∀ q, q < h.length → r.2.2[q]? = h[q]?) ∧ Own r.2.2 h.length ty31 10 ((keptE ps hs now es).map evr) (nth 0 r.2.1)
        ∧ SlOf 3 talr (talE ps hs now es) (nth 1 r.2.1) ∧ TAsc (talE ps hs now es) ∧ (talE ps hs now es).length ≤ es.length)
      es.length ⟨Nat.le_refl _, fun _ _ => rfl, _, _, _, _, _, _, _, 0, rfl, rfl, Own.nils _ _ _ _, SlOf.nils _ _, List.Pairwise.nil, Nat.le_refl _⟩ ?_ ?_
  · rintro k ds g ⟨hgl, hgq, x, y, a, b, c, e, f, i, rfl, hk, ow, hy, hasc, hlen⟩
    simp only [F27_L0, nth_zero, nth_succ, bs, Option.bind_assoc, dBin_lss]
    refine Wp.dif ?_ ?_
    · intro h0
      have h0 : i < es.length := by have : (i : Int) < es.length := by simpa [-Option.bind_some] using h0
                                    omega
      have hg : es[i]? = some es[i] := List.getElem?_eq_getElem h0
      have hw : IntKind.wrap .i64 ((i : Int) + 1) = ((i + 1 : Nat) : Int) := by
        rw [wrap_i64 (by omega) (by omega)]; omega
      have htk : es.take (i + 1) = es.take i ++ [es[i]] := by rw [List.take_add_one, hg]; rfl
      have hfl : (keptE ps hs now (es.take i)).length ≤ i := Nat.le_trans (List.length_filter_le _ _) (by simp [-Option.bind_some]; omega)
      generalize es[i] = ev at hg htk
      have hbx : boxN 10 (.agg (evr ev)) = some (.fptr (evr ev)) := boxN_agg 10 _ rfl
      have hix : dIndexAddr tab ty40 de (.int .i64 i) = some (.fptr (evr ev)) := by rw [ixs40 he]; simp [-Option.bind_some, hg]
      have f0 : dFieldAddr tab ty31 0 (.fptr (evr ev)) = some (.fptr (evr ev)) := id rfl
      have l0 : dLoad tab g ty3 (.fptr (evr ev)) = some (.int .i64 ev.a0) := id rfl
      have f4 : (dFieldAddr tab ty31 4 (.fptr (evr ev))).bind (fun q => dLoad tab g ty28 q) = some ev.ld := id rfl
      have hll := ev.hll
      simp only [hix, evL, hbx, bs, s16 ps dp hs dh now ev g hdp (by omega) hdh (by omega), expD, dExtract_tup, List.getElem?_cons_zero, List.getElem?_cons_succ]
      cases hx : expi ps hs now ev with
      | none =>
        have hb : pLitF tab ty40 1 [0] [.agg (evr ev)] = some (.sl 10 true [evr ev]) := by simp [-Option.bind_some, evr]
        simp only [Option.isSome_none, dIf_bool, Bool.false_eq_true, if_false, hb, bs, Option.bind_assoc]
        refine wap40 hgl ow (rowsOf_sl _ _ _ _) (by simp [-Option.bind_some]; omega) fun x1 g1 ow1 len1 bel1 _ _ => ?_
        simp only [bs, toEnd_nrm, unblk_nrm, nth_zero, nth_succ, dBin_add, hw]
        have hke : keptE ps hs now (es.take i ++ [ev]) = keptE ps hs now (es.take i) ++ [ev] := by simp [-Option.bind_some, keptE, hx]
        have hte : talE ps hs now (es.take i ++ [ev]) = talE ps hs now (es.take i) := by rw [talE_snoc]; simp [-Option.bind_some, stepT, hx]
        refine .some (.inl ⟨rfl, k - 1, by omega, Nat.le_trans hgl len1, fun q hq => (bel1 q (by omega)).trans (hgq q hq), _, _, _, _, _, _, _, i + 1, rfl, by omega, ?_, ?_, ?_, ?_⟩)
        · rw [htk, hke, List.map_append]; exact ow1
        · rw [htk, hte]; exact hy
        · rw [htk, hte]; exact hasc
        · rw [htk, hte]; omega
      | some nm =>
        obtain ⟨d', e1, hd'⟩ := s59 (talE ps hs now (es.take i)) y ev.a0 nm ev.ls.length g hy (by omega) hasc
        have hll := ev.hll
        simp only [Option.isSome_some, dIf_bool, if_true, f0, l0, Option.getD_some, bs]
        have f4' : ∀ {β : Type} (k : D → Option β), ((dFieldAddr tab ty31 4 (.fptr (evr ev))).bind fun q => (dLoad tab g ty28 q).bind k) = k ev.ld := fun k => by
          rw [← Option.bind_assoc, f4]; rfl
        rw [f4']
        simp only [lens28 ev.hld, bs, e1, toEnd_nrm, unblk_nrm, nth_zero, nth_succ, dBin_add, hw]
        have hke : keptE ps hs now (es.take i ++ [ev]) = keptE ps hs now (es.take i) := by simp [-Option.bind_some, keptE, hx]
        have hte : talE ps hs now (es.take i ++ [ev]) = addT (talE ps hs now (es.take i)) ev.a0 nm ev.ls.length := by rw [talE_snoc]; simp [-Option.bind_some, stepT, hx]
        refine .some (.inl ⟨rfl, k - 1, by omega, hgl, hgq, _, _, _, _, _, _, _, i + 1, rfl, by omega, ?_, ?_, ?_, ?_⟩)
        · rw [htk, hke]; exact ow
        · rw [htk, hte]; exact hd'
        · rw [htk, hte]; exact addT_asc hasc _ _ _
        · rw [htk, hte]; have := addT_len (talE ps hs now (es.take i)) ev.a0 nm ev.ls.length; omega
    · intro h0
      have h0 : i = es.length := by have : ¬ (i : Int) < es.length := by simpa [-Option.bind_some] using h0
                                    omega
      subst h0
      rw [List.take_length] at ow hy hasc hlen
      exact .some (.inr ⟨by simp [-Option.bind_some], rfl, hgl, hgq, ow, hy, hasc, hlen⟩)
  · rintro ⟨ex, ds, g⟩ ⟨q1, hgl, hgq, ow, hy, hasc, hlen⟩
    simp only at q1 hgl hgq ow hy
    subst q1
    simp only [unblk_self, toEnd_nrm, nth_zero, nth_succ, bs, mkRes_two] at hy ⊢
    have hsl := own_sl (n0 := h.length) (n := 2) ow (Nat.le_refl _) (fun a _ => evr_frz _ g 1 a)
    rw [scope_eq (d' := .tup [frz h.length g 3 (nth 0 ds), nth 0 (tlD ds)]) (by simp [-Option.bind_some, talr_frz' hy]; rfl) (by
      refine .tup _ fun d hd => ?_
      simp [-Option.bind_some] at hd
      rcases hd with rfl | rfl
      · exact slof_ok hsl fun a _ => evr_ok _ a
      · exact slof_ok hy fun a _ => talr_ok _ a) hgl hgq]
    exact .some ⟨rfl, _, _, rfl, hsl, hy, hasc, hlen⟩
/-- All of the first occur in the second, in order. -/
def gr : List Ev → List Ev → Bool
  | [], _ => true
  | _ :: _, [] => false
  | x :: a, y :: b => if sameE x y = true then gr a b else gr (x :: a) b
theorem s29r (l : List Ev) (da db : D) (h : Hp) (ha : SlOf 10 evr l da) (hb : SlOf 10 evr l db) (hl : l.length ≤ 1000000) : R fn29 [da, db] h = some (.bool true, h) := by
  suffices Wp (R fn29 [da, db] h) (fun p => p = (.bool true, h)) by
    obtain ⟨p, h1, rfl⟩ := this
    exact h1
  rw [e29]
  simp only [F29, bs, Option.bind_assoc, lens40 ha, lens40 hb, dBin_neq, ne_eq, not_true, decide_false, dIf_bool, Bool.false_eq_true, if_false]
  refine Wp.loop (fun n ds g => g = h ∧ ∃ x y z, ∃ i : Nat, ds = [x, .int .i64 i, y, z] ∧ n + i = l.length)
    (fun r => r.1 = .ext 0 ∧ r.2.2 = h) l.length ⟨rfl, _, _, _, 0, rfl, rfl⟩ ?_ ?_
  · rintro n ds g ⟨rfl, x, y, z, i, rfl, hi⟩
    simp only [F29_L0, nth_zero, nth_succ, bs, Option.bind_assoc, lens40 ha, dBin_lss]
    refine Wp.dif ?_ ?_
    · intro h0
      have h0 : i < l.length := by have : (i : Int) < l.length := by simpa [-Option.bind_some] using h0
                                   omega
      have hg : l[i]? = some l[i] := List.getElem?_eq_getElem h0
      generalize l[i] = u at hg
      have ia : dIndexAddr tab ty40 da (.int .i64 i) = some (.fptr (evr u)) := by rw [ixs40 ha]; simp [-Option.bind_some, hg]
      have ib : dIndexAddr tab ty40 db (.int .i64 i) = some (.fptr (evr u)) := by rw [ixs40 hb]; simp [-Option.bind_some, hg]
      have hw : IntKind.wrap .i64 ((i : Int) + 1) = ((i + 1 : Nat) : Int) := by
        rw [wrap_i64 (by omega) (by omega)]; omega
      simp only [ia, ib, evL, s61, sameE_refl, bs, dUn_not, Bool.not_true, dIf_bool, Bool.false_eq_true, if_false, dBin_add, hw]
      exact .some (.inl ⟨rfl, n - 1, by omega, rfl, _, _, _, i + 1, rfl, by omega⟩)
    · intro _
      exact .some (.inr ⟨by simp [-Option.bind_some], rfl, rfl⟩)
  · rintro ⟨ex, ds, g⟩ ⟨q1, q2⟩
    simp only at q1 q2
    subst q1; subst q2
    simp only [unblk_self, toEnd_nrm, bs, mkRes_one]
    exact .some rfl
theorem kept_len (ps : List Pol) (hs : List Hld) (now : Int) (es : List Ev) : (keptE ps hs now es).length ≤ es.length := List.length_filter_le _ _
def klB (x : Tal) (hst : Int) (rule : Str) : Bool := decide (x.h < hst) || (decide (x.h = hst) && Op.bytesLess x.r rule)
theorem klB_lt (x : Tal) (hst : Int) (rule : Str) : klB x hst rule = true ↔ cmpT x ⟨hst, rule, 0⟩ < 0 := by
  rw [cmpT_lt]
  simp [-Option.bind_some, klB, kl]
theorem kT_at (key : Tal) : ∀ (l : List Tal) (x : Tal), l[kT key l]? = some x → ¬ cmpT x key < 0
  | y :: r, x, hx => by
    unfold kT at hx
    split at hx
    · exact kT_at key r x (by simpa [-Option.bind_some] using hx)
    · rename_i hc
      simp [-Option.bind_some] at hx
      subst hx
      exact hc
theorem b60 (l : List Tal) (d : D) (hst : Int) (rule : Str) (h : Hp) (hd : SlOf 3 talr l d) (i : Nat) (x : Tal) (hi : l[i]? = some x) (hl : l.length ≤ 1000000) (a : D) :
    F60_L0 d (.int .i64 hst) (.str rule) [.int .i64 i, a] h = if klB x hst rule = true then some (.nrm, [.int .i64 ((i + 1 : Nat) : Int), .bool true], h) else some (.ext 0, [.int .i64 i, .bool false], h) := by
  have hlt : i < l.length := (List.getElem?_eq_some_iff.1 hi).1
  have hlt' : (i : Int) < l.length := by omega
  have hw : IntKind.wrap .i64 ((i : Int) + 1) = ((i + 1 : Nat) : Int) := by
    rw [wrap_i64 (by omega) (by omega)]; omega
  have hix : dIndexAddr tab ty58 d (.int .i64 i) = some (.fptr (talr x)) := by rw [ixs58 hd]; simp [-Option.bind_some, hi]
  by_cases h0 : x.h < hst
  · simp [-Option.bind_some, F60_L0, lens58 hd, hlt', hix, talr, klB, h0, hw]
  · by_cases h1 : x.h = hst
    · cases h2 : Op.bytesLess x.r rule
      · simp [-Option.bind_some, F60_L0, lens58 hd, hlt', hix, talr, klB, h0, h1, h2, hw]
      · simp [-Option.bind_some, F60_L0, lens58 hd, hlt', hix, talr, klB, h0, h1, h2, hw]
    · simp [-Option.bind_some, F60_L0, lens58 hd, hlt', hix, talr, klB, h0, h1, hw]
theorem l60 (l : List Tal) (d : D) (hst : Int) (rule : Str) (h : Hp) (hd : SlOf 3 talr l d) (hl : l.length ≤ 1000000) {β : Type} {K : Out → Option β} {Q : β → Prop} (a : D)
    (cont : ∀ b, Wp (K (.ext 0, [.int .i64 (kT ⟨hst, rule, 0⟩ l : Nat), b], h)) Q) : Wp ((loopW (F60_L0 d (.int .i64 hst) (.str rule)) [.int .i64 0, a] h).bind K) Q := by
  have hk := kT_le ⟨hst, rule, 0⟩ l
  have k1 := kT_lt ⟨hst, rule, 0⟩ l
  have k2 := kT_at ⟨hst, rule, 0⟩ l
  generalize kT ⟨hst, rule, 0⟩ l = k at hk k1 k2 cont
  refine Wp.loop (fun n ds g => g = h ∧ ∃ a, ∃ i : Nat, ds = [.int .i64 i, a] ∧ n + i = k) (fun r => ∃ b, r = (.ext 0, [.int .i64 (k : Nat), b], h)) k ⟨rfl, _, 0, rfl, rfl⟩ ?_ ?_
  · rintro n ds g ⟨rfl, a, i, rfl, hi⟩
    by_cases hil : i < l.length
    · have hg : l[i]? = some l[i] := List.getElem?_eq_getElem hil
      generalize l[i] = x at hg
      rw [b60 l d hst rule g hd i x hg hl]
      by_cases hc : klB x hst rule = true
      · rw [if_pos hc]
        have : i ≠ k := fun hh => by subst hh; exact k2 x hg ((klB_lt _ _ _).1 hc)
        exact .some (.inl ⟨rfl, n - 1, by omega, rfl, _, i + 1, rfl, by omega⟩)
      · rw [if_neg hc]
        have : i = k := by
          rcases Nat.lt_or_ge i k with hh | hh
          · exact absurd ((klB_lt _ _ _).2 (k1 i x hg hh)) hc
          · omega
        subst this
        exact .some (.inr ⟨by simp [-Option.bind_some], _, rfl⟩)
    · have : i = k := by omega
      subst this
      have hn : ¬ (i : Int) < l.length := by omega
      have e : F60_L0 d (.int .i64 hst) (.str rule) [.int .i64 i, a] g = some (.ext 0, [.int .i64 i, .bool false], g) := by
        simp [-Option.bind_some, F60_L0, lens58 hd, hn]
      rw [e]
      exact .some (.inr ⟨by simp [-Option.bind_some], _, rfl⟩)
  · rintro _ ⟨b, rfl⟩
    exact cont b
theorem app_t (h : Hp) (rows : List (List D)) (r : List D) (b : Bool) (hl : rows.length ≤ 1000000) : dAppend tab h ty58 ty58 (.sl 3 true rows) (.sl 3 b [r]) = some (.msl 3 h.length 0 (rows.length + 1), dNew h ty106 3 (rows ++ [r])) := by
  have e1 : tab ty58 = some ti58 := rfl
  have e2 : ti58.td = .sl ty106 := rfl
  have e3 : tab ty106 = some ti106 := rfl
  have e4 : ti106.sz = 3 := rfl
  have hlim : lim (rows.length + 1) ti106.by_ = true := lim106 (by omega)
  have e5 : Nat.blt 0 3 = true := rfl
  simp [-Option.bind_some, dAppend, dSrc, dRowsOf, e1, e2, e3, e4, e5, hlim]
theorem app_n (h : Hp) (r : List D) (b : Bool) : dAppend tab h ty58 ty58 .nils (.sl 3 b [r]) = some (.msl 3 h.length 0 1, dNew h ty106 3 [r]) := by
  have e1 : tab ty58 = some ti58 := rfl
  have e2 : ti58.td = .sl ty106 := rfl
  have e3 : tab ty106 = some ti106 := rfl
  have e4 : ti106.sz = 3 := rfl
  have hlim : lim 1 ti106.by_ = true := lim106 (by omega)
  have e5 : Nat.blt 0 3 = true := rfl
  simp [-Option.bind_some, dAppend, dSrc, dRowsOf, e1, e2, e3, e4, e5, hlim]
/-- A part of a copy, with one more. -/
theorem cut_t {h : Hp} {n0 : Nat} {rows : List (List D)} {x : D} (ow : Own h n0 ty106 3 rows x) (hl : rows.length ≤ 1000000) (i : Nat) (hi : i ≤ rows.length) (r : List D) (b : Bool) (hn0 : n0 ≤ h.length) :
    ∃ y h1, dCut tab h ty58 false true [x, .int .i64 i, .int .i64 i] = some (y, h1) ∧ h.length ≤ h1.length ∧ (∀ q, q < n0 → h1[q]? = h[q]?) ∧ ∃ z h2, dAppend tab h1 ty58 ty58 y (.sl 3 b [r]) = some (z, h2) ∧ Own h2 n0 ty106 3 (rows.take i ++ [r]) z ∧ h.length ≤ h2.length ∧ ∀ q, q < n0 → h2[q]? = h[q]? := by
  have e1 : tab ty58 = some ti58 := rfl
  have e2 : ti58.td = .sl ty106 := rfl
  have e3 : tab ty106 = some ti106 := rfl
  have e4 : ti106.sz = 3 := rfl
  have fin : ∀ (y : D) (h1 : Hp), h.length ≤ h1.length → (∀ q, q < n0 → h1[q]? = h[q]?) → dAppend tab h1 ty58 ty58 y (.sl 3 b [r]) = some (.msl 3 h1.length 0 ((rows.take i).length + 1), dNew h1 ty106 3 (rows.take i ++ [r])) →
      ∃ z h2, dAppend tab h1 ty58 ty58 y (.sl 3 b [r]) = some (z, h2) ∧ Own h2 n0 ty106 3 (rows.take i ++ [r]) z ∧ h.length ≤ h2.length ∧ ∀ q, q < n0 → h2[q]? = h[q]? := fun y h1 hl1 hb1 e =>
    ⟨_, _, e, .inr ⟨h1.length, by omega, by simp [-Option.bind_some], dNew_get _ _ _ _⟩, by simp [-Option.bind_some, dNew]; omega, fun q hq => by rw [dNew_old _ _ _ _ (by omega)]; exact hb1 q hq⟩
  rcases ow with ⟨rfl, rfl⟩ | ⟨ob, hob, rfl, ho⟩
  · have hi0 : i = 0 := by simpa [-Option.bind_some] using hi
    subst hi0
    refine ⟨.nils, h, by simp [-Option.bind_some, dCut, dSliceAt, dInt?, dSlice3, e1, e2, e3], Nat.le_refl _, fun _ _ => rfl, fin _ _ (Nat.le_refl _) (fun _ _ => rfl) (by simpa [-Option.bind_some] using app_n h r b)⟩
  · by_cases hi0 : i = 0
    · subst hi0
      refine ⟨.sl 3 true [], h, by simp [-Option.bind_some, dCut, dSliceAt, dInt?, dSlice3, e1, e2, e3, e4], Nat.le_refl _, fun _ _ => rfl, fin _ _ (Nat.le_refl _) (fun _ _ => rfl) (by simpa [-Option.bind_some] using app_t h [] r b (by simp [-Option.bind_some]))⟩
    · have hlt := (List.getElem?_eq_some_iff.1 ho).1
      have hir : (i : Int) ≤ (rows.length : Int) := by omega
      have hi1 : ¬ (i : Int) = 0 := by omega
      refine ⟨.sl 3 true (rows.take i), h.set ob .dead, ?_, by simp [-Option.bind_some], fun q hq => by rw [List.getElem?_set_ne (by omega)], fin _ _ (by simp [-Option.bind_some]) (fun q hq => by rw [List.getElem?_set_ne (by omega)]) (app_t _ _ r b (by simp [-Option.bind_some]; omega))⟩
      have hs : dSliceAt tab ty58 false true true [.msl 3 ob 0 rows.length, .int .i64 i, .int .i64 i] = none := by
        simp [-Option.bind_some, dSliceAt, dInt?, dSlice3, e1, e2, e3, e4, hi1]
        intro _; exact hi0
      simp only [dCut, hs, ho, e1, e2, e3, e4, true_and, Int.natCast_nonneg, hir, Nat.le_refl, and_self, if_true, Int.toNat_natCast]
theorem s60 (l : List Tal) (d : D) (hst : Int) (rule : Str) (n : Int) (h : Hp) (hd : SlOf 3 talr l d) (hl : l.length ≤ 1000000) (hn1 : n ≤ 9223372036854775807) :
    ∃ d', R fn60 [d, .int .i64 hst, .str rule, .int .i64 n] h = some (d', h) ∧ SlOf 3 talr (addT l hst rule n) d' := by
  suffices Wp (R fn60 [d, .int .i64 hst, .str rule, .int .i64 n] h) (fun p => p.2 = h ∧ SlOf 3 talr (addT l hst rule n) p.1) by
    obtain ⟨⟨x, h'⟩, h1, rfl, h2⟩ := this
    exact ⟨x, h1, h2⟩
  rw [e60]
  simp only [F60, bs, dBin_leq]
  refine Wp.dif (fun hn => ?_) (fun hn => ?_)
  · have hn : n ≤ 0 := by simpa [-Option.bind_some] using hn
    have hn' : n < 1 := by omega
    have ha : addT l hst rule n = l := by simp [-Option.bind_some, addT, hn']
    rw [ha]
    simp only [bs, mkRes_one]
    rw [scope_eq (d' := d) (talr_frz' hd _ _ _) (slof_ok hd fun a _ => talr_ok _ a) (Nat.le_refl _) fun _ _ => rfl]
    exact .some ⟨rfl, hd⟩
  · have hn : ¬ n ≤ 0 := by simpa [-Option.bind_some] using hn
    have hn' : ¬ n < 1 := by omega
    have ha : addT l hst rule n = addK l hst rule n (kT ⟨hst, rule, 0⟩ l) := by simp [-Option.bind_some, addT, hn']
    rw [ha]
    simp only [bs, Option.bind_assoc]
    refine l60 l d hst rule h hd hl _ fun b0 => ?_
    have hk := kT_le ⟨hst, rule, 0⟩ l
    generalize kT ⟨hst, rule, 0⟩ l = k at hk
    have hw0 : IntKind.wrap .i64 n = n := wrap_i64 (by omega) hn1
    simp only [unblk_self, toEnd_nrm, nth_zero, bs, Option.bind_assoc]
    refine wap58 (n0 := h.length) (Nat.le_refl _) (Own.nils _ _ _ _) (slof_rows _ hd) (by simp [-Option.bind_some]; omega) fun x1 h1 ow1 len1 bel1 _ _ => ?_
    rw [List.nil_append] at ow1
    simp only [bs, lens58 hd, dBin_lss]
    have insert : addK l hst rule n k = l.take k ++ [⟨hst, rule, n⟩] ++ l.drop k →
        Wp ((dCut tab h1 ty58 false true [x1, .int .i64 (k : Nat), .int .i64 (k : Nat)]).bind fun p84 => (dBuild tab ty106 [0, 1, 2] [.int .i64 hst, .str rule, .int .i64 n]).bind fun t88 => (pLitF tab ty58 1 [0] [t88]).bind fun t89 =>
          (dAppend tab p84.2 ty58 ty58 p84.1 t89).bind fun p90 => (dSliceAt tab ty58 true false false [d, .int .i64 (k : Nat)]).bind fun t94 => (dAppend tab p90.2 ty58 ty58 p90.1 t94).bind fun p95 => scope h p95.2 (mkRes [p95.1])) (fun p => p.2 = h ∧ SlOf 3 talr (addK l hst rule n k) p.1) := fun hadd => by
      rw [hadd]
      obtain ⟨y, h2, ec, hl2, hb2, z, h3, ea, ow3, hl3, hb3⟩ := cut_t ow1 (by simpa [-Option.bind_some] using hl) k (by simpa [-Option.bind_some] using hk) [.int .i64 hst, .str rule, .int .i64 n] true len1
      obtain ⟨y2, hs2, hy2⟩ := slof_lo (T := tab) (t := ty58) (i := ti58) (j := ti106) (id rfl) (id rfl) (id rfl) (id rfl) hd (k := .i64) (n := (k : Nat)) (by omega) (by omega)
      rw [Int.toNat_natCast] at hy2
      simp only [ec, bs, bd106_0_1_2, bs58_1, ea, hs2]
      refine wap58 (n0 := h.length) (by omega) ow3 (slof_rows _ hy2) (by simp [-Option.bind_some]; omega) fun x4 h4 ow4 len4 bel4 _ _ => ?_
      have hrows : (l.map talr).take k ++ [[.int .i64 hst, .str rule, .int .i64 n]] ++ (l.drop k).map talr = (l.take k ++ [(⟨hst, rule, n⟩ : Tal)] ++ l.drop k).map talr := by
        rw [List.map_append, List.map_append, List.map_take]; rfl
      rw [hrows] at ow4
      have hsl := own_sl (n0 := h.length) (n := 3) ow4 (Nat.le_refl _) (fun a _ => talr_frz _ h4 _ a)
      simp only [mkRes_one]
      rw [scope_eq rfl (slof_ok hsl fun a _ => talr_ok _ a) (by omega) (fun q hq => ((bel4 q hq).trans (hb3 q hq)).trans (bel1 q hq))]
      exact .some ⟨rfl, hsl⟩
    by_cases hkl : k < l.length
    · have hg : l[k]? = some l[k] := List.getElem?_eq_getElem hkl
      generalize l[k] = x at hg
      have hkl' : (k : Int) < l.length := by omega
      have hix : dIndexAddr tab ty58 d (.int .i64 (k : Nat)) = some (.fptr (talr x)) := by rw [ixs58 hd]; simp [-Option.bind_some, hg]
      have f0 : dFieldAddr tab ty106 0 (.fptr (talr x)) = some (.fptr (talr x)) := id rfl
      have l0 : dLoad tab h1 ty3 (.fptr (talr x)) = some (.int .i64 x.h) := id rfl
      have f1 : dFieldAddr tab ty106 1 (.fptr (talr x)) = some (.fptr [.str x.r, .int .i64 x.n]) := id rfl
      have l1 : dLoad tab h1 ty9 (.fptr [.str x.r, .int .i64 x.n]) = some (.str x.r) := id rfl
      simp only [hkl', decide_true, gd_bool, if_true, bs, hix, f0, l0, dBin_eql, dPick_bool]
      by_cases hh : x.h = hst
      · by_cases hr : x.r = rule
        · have hadd : addK l hst rule n k = l.set k ⟨x.h, x.r, IntKind.wrap .i64 (x.n + n)⟩ := by
            have hc : cmpT x ⟨hst, rule, 0⟩ = 0 := (cmpT_eq _ _).2 ⟨hh, hr⟩
            simp [-Option.bind_some, addK, hg, hc]
          have hrb : (x.r == rule) = true := by simpa [-Option.bind_some] using hr
          simp only [hh, decide_true, if_true, hix, f1, l1, bs, dBin_seql, hrb, dPick_bool, dIf_bool, gd_bool]
          obtain ⟨ob, hob, hxe, ho⟩ := own_ix ow1 (i := k) (by simpa [-Option.bind_some] using hkl)
          rw [List.length_map] at hxe
          subst hxe
          have hkl2 : (0 : Int) ≤ (k : Int) ∧ (k : Int) < (l.length : Int) := by omega
          have hrr : (l.map talr)[k]? = some (talr x) := by rw [List.getElem?_map, hg]; rfl
          simp only [ixm58, hkl2, and_self, if_true, fap106_2, Int.toNat_natCast, Nat.zero_add, ldp3, row_of ho, hrr, bs]
          simp only [talr, List.drop_succ_cons, List.drop_zero, List.head?_cons, bs, dBin_add]
          refine wst3 (off := 2) (v := .int .i64 (IntKind.wrap .i64 (x.n + n))) ho hrr rfl (by simp [-Option.bind_some, talr]) rfl fun h3 q3 s3 => ?_
          have hset : (l.map talr).set k (spl (talr x) 2 (cells1 (.int .i64 (IntKind.wrap .i64 (x.n + n))))) = (addK l hst rule n k).map talr := by
            rw [hadd, List.map_set]; rfl
          rw [hset] at q3
          have hlen : (addK l hst rule n k).length = l.length := by rw [hadd]; simp [-Option.bind_some]
          have ow : Own h3 h.length ty106 3 ((addK l hst rule n k).map talr) (.msl 3 ob 0 l.length) := .inr ⟨ob, hob, by simp [-Option.bind_some, hlen], q3⟩
          have hsl := own_sl (n0 := h.length) (n := 3) ow (Nat.le_refl _) (fun a _ => talr_frz _ h3 _ a)
          simp only [bs, mkRes_one]
          rw [scope_eq rfl (slof_ok hsl fun a _ => talr_ok _ a) (by have := s3.1; omega) (fun q hq => (s3.2 q (by omega)).trans (bel1 q hq))]
          exact .some ⟨rfl, hsl⟩
        · have hadd : addK l hst rule n k = l.take k ++ [⟨hst, rule, n⟩] ++ l.drop k := by
            have hc : ¬ cmpT x ⟨hst, rule, 0⟩ = 0 := fun h0 => hr ((cmpT_eq _ _).1 h0).2
            simp [-Option.bind_some, addK, hg, hc, hw0]
          have hrb : (x.r == rule) = false := by simpa [-Option.bind_some] using hr
          simp only [hh, decide_true, if_true, hix, f1, l1, bs, dBin_seql, hrb, dPick_bool, dIf_bool, gd_bool, Bool.false_eq_true, if_false]
          exact insert hadd
      · have hadd : addK l hst rule n k = l.take k ++ [⟨hst, rule, n⟩] ++ l.drop k := by
          have hc : ¬ cmpT x ⟨hst, rule, 0⟩ = 0 := fun h0 => hh ((cmpT_eq _ _).1 h0).1
          simp [-Option.bind_some, addK, hg, hc, hw0]
        simp only [hh, decide_false, gd_bool, Bool.false_eq_true, if_false, bs, dPick_bool, dIf_bool, gd_und]
        exact insert hadd
    · have hg : l[k]? = none := List.getElem?_eq_none (by omega)
      have hkl' : ¬ (k : Int) < l.length := by omega
      have hadd : addK l hst rule n k = l.take k ++ [⟨hst, rule, n⟩] ++ l.drop k := by simp [-Option.bind_some, addK, hg, hw0]
      simp only [hkl', decide_false, gd_bool, Bool.false_eq_true, if_false, bs, dPick_bool, dIf_bool, gd_und]
      exact insert hadd
/-- A sum over tallies. -/
def sm (f : Tal → Int) : List Tal → Int
  | [] => 0
  | t :: r => f t + sm f r
theorem sm_app (f : Tal → Int) : ∀ a b : List Tal, sm f (a ++ b) = sm f a + sm f b
  | [], b => by simp [-Option.bind_some, sm]
  | t :: a, b => by rw [List.cons_append, sm, sm, sm_app f a b]; omega
theorem sm_set (f : Tal → Int) : ∀ (l : List Tal) (k : Nat) (x y : Tal), l[k]? = some x → sm f (l.set k y) = sm f l - f x + f y
  | t :: r, 0, x, y, h => by simp [-Option.bind_some] at h; subst h; simp [-Option.bind_some, sm]; omega
  | t :: r, k + 1, x, y, h => by
    have := sm_set f r k x y (by simpa [-Option.bind_some] using h)
    simp only [List.set_cons_succ, sm, this]
    omega
theorem sm_ins (f : Tal → Int) (l : List Tal) (k : Nat) (y : Tal) : sm f (l.take k ++ [y] ++ l.drop k) = sm f l + f y := by
  rw [sm_app, sm_app]
  have : sm f l = sm f (l.take k) + sm f (l.drop k) := by rw [← sm_app, List.take_append_drop]
  rw [this]
  simp [-Option.bind_some, sm]
  omega
def nH (host : Int) (t : Tal) : Int := if t.h = host then t.n else 0
def nA (t : Tal) : Int := t.n
/-- Right numbers of lines, not more than some. -/
def TB (l : List Tal) (m : Int) : Prop := (∀ t ∈ l, 0 ≤ t.n) ∧ sm nA l ≤ m
theorem TB.le {l : List Tal} {m : Int} (h : TB l m) : (0 ≤ sm nA l) ∧ ∀ t ∈ l, t.n ≤ sm nA l := by
  replace h := h.1
  induction l with
  | nil => simp [-Option.bind_some, sm]
  | cons t r ih =>
    have i := ih fun x hx => h x (by simp [-Option.bind_some, hx])
    have h0 := h t (by simp [-Option.bind_some])
    simp only [sm, nA]
    refine ⟨by have := i.1; omega, fun x hx => ?_⟩
    rcases List.mem_cons.1 hx with rfl | hx
    · have := i.1; omega
    · have := i.2 x hx; omega
theorem sm_nH (host : Int) : ∀ {l : List Tal}, (∀ t ∈ l, 0 ≤ t.n) → 0 ≤ sm (nH host) l ∧ sm (nH host) l ≤ sm nA l
  | [], _ => by simp [-Option.bind_some, sm]
  | t :: r, h => by
    have i := sm_nH host (l := r) fun x hx => h x (by simp [-Option.bind_some, hx])
    have h0 := h t (by simp [-Option.bind_some])
    simp only [sm, nA]
    unfold nH at i ⊢
    split <;> omega
theorem addT_sm {l : List Tal} {m : Int} (h : TB l m) (hst : Int) (rule : Str) (n : Int) (hn : 1 ≤ n) (hm : m + n ≤ 1000000000) (f : Tal → Int) (c : Int) (hf : ∀ t : Tal, t.h = hst → f t = c * t.n) : sm f (addT l hst rule n) = sm f l + c * n := by
  have hn' : ¬ n < 1 := by omega
  have hk := kT_le ⟨hst, rule, 0⟩ l
  simp only [addT, if_neg hn']
  generalize kT ⟨hst, rule, 0⟩ l = k at hk
  have h0 : IntKind.wrap .i64 (0 + n) = n := by rw [Int.zero_add]; have := h.le.1; have := h.2; exact wrap_i64 (by omega) (by omega)
  unfold addK
  cases hg : l[k]? with
  | none => simp only; rw [sm_ins, h0, hf _ rfl]
  | some x =>
    simp only
    split
    · rename_i hc
      have hx := (cmpT_eq _ _).1 hc
      have hb := h.le.2 x (List.mem_of_getElem? hg)
      have hx0 := h.1 x (List.mem_of_getElem? hg)
      have hm' := h.2
      rw [sm_set f l k x _ hg, wrap_i64 (by omega) (by omega), hf x hx.1, hf ⟨x.h, x.r, x.n + n⟩ hx.1]
      show _ + c * (x.n + n) = _
      rw [Int.mul_add]
      omega
    · rw [sm_ins, h0, hf _ rfl]
theorem addT_nonneg {l : List Tal} {m : Int} (h : TB l m) (hst : Int) (rule : Str) (n : Int) (hn : 1 ≤ n) (hm : m + n ≤ 1000000000) : ∀ t ∈ addT l hst rule n, 0 ≤ t.n := by
  have hn' : ¬ n < 1 := by omega
  simp only [addT, if_neg hn']
  generalize kT ⟨hst, rule, 0⟩ l = k
  have h0 : IntKind.wrap .i64 (0 + n) = n := by rw [Int.zero_add]; have := h.le.1; have := h.2; exact wrap_i64 (by omega) (by omega)
  have hins : ∀ t ∈ l.take k ++ [(⟨hst, rule, IntKind.wrap .i64 (0 + n)⟩ : Tal)] ++ l.drop k, 0 ≤ t.n := fun t ht => by
    simp only [List.append_assoc, List.mem_append, List.mem_singleton] at ht
    rcases ht with ht | rfl | ht
    · exact h.1 t (List.mem_of_mem_take ht)
    · show 0 ≤ IntKind.wrap .i64 (0 + n)
      omega
    · exact h.1 t (List.mem_of_mem_drop ht)
  unfold addK
  cases hg : l[k]? with
  | none => exact hins
  | some x =>
    simp only
    split
    · intro t ht
      have hb := h.le.2 x (List.mem_of_getElem? hg)
      have hx0 := h.1 x (List.mem_of_getElem? hg)
      have hm' := h.2
      rcases List.mem_or_eq_of_mem_set ht with ht | rfl
      · exact h.1 t ht
      · show 0 ≤ IntKind.wrap .i64 (x.n + n)
        rw [wrap_i64 (by omega) (by omega)]
        omega
    · exact hins
theorem addT_TB {l : List Tal} {m : Int} (h : TB l m) (hst : Int) (rule : Str) (n : Int) (hn : 1 ≤ n) (hm : m + n ≤ 1000000000) : TB (addT l hst rule n) (m + n) := by
  refine ⟨addT_nonneg h hst rule n hn hm, ?_⟩
  rw [addT_sm h hst rule n hn hm nA 1 (fun t _ => by simp [-Option.bind_some, nA])]
  have := h.2
  omega
theorem addT_nH {l : List Tal} {m : Int} (h : TB l m) (hst : Int) (rule : Str) (n : Int) (hn : 1 ≤ n) (hm : m + n ≤ 1000000000) (host : Int) : sm (nH host) (addT l hst rule n) = sm (nH host) l + if hst = host then n else 0 := by
  rw [addT_sm h hst rule n hn hm (nH host) (if hst = host then 1 else 0) (fun t ht => by subst ht; unfold nH; split <;> simp [-Option.bind_some])]
  split <;> simp [-Option.bind_some]
/-- How many lines of a host. -/
def cnt (host : Int) : List Ev → Int
  | [] => 0
  | e :: r => (if e.a0 = host then (e.ls.length : Int) else 0) + cnt host r
theorem cnt_split (host : Int) (p : Ev → Bool) : ∀ es : List Ev, cnt host (es.filter fun e => !p e) + cnt host (es.filter p) = cnt host es
  | [] => rfl
  | e :: r => by
    have ih := cnt_split host p r
    cases hp : p e <;> simp [-Option.bind_some, List.filter_cons, hp, cnt] <;> omega
def stepL (t : List Tal) (e : Ev) : List Tal := addT t e.a0 [] e.ls.length
def linesT (es : List Ev) : List Tal := es.foldl stepL []
theorem lines_sum (host : Int) : ∀ (es : List Ev) (t : List Tal) (m : Int), TB t m → m + 3 * es.length ≤ 1000000 → (∀ e ∈ es, 1 ≤ e.ls.length ∧ e.ls.length ≤ 3) → TB (es.foldl stepL t) (m + 3 * es.length) ∧ sm (nH host) (es.foldl stepL t) = sm (nH host) t + cnt host es
  | [], t, m, h, _, _ => by simp [-Option.bind_some, cnt, h]
  | e :: r, t, m, h, hm, he => by
    have he1 := he e (by simp [-Option.bind_some])
    simp only [List.length_cons] at hm
    have h1 := addT_TB h e.a0 [] e.ls.length (by omega) (by omega)
    have h1' : TB (stepL t e) (m + 3) := ⟨h1.1, by have := h1.2; show sm nA (addT t e.a0 [] e.ls.length) ≤ _; omega⟩
    obtain ⟨i1, i2⟩ := lines_sum host r (stepL t e) (m + 3) h1' (by omega) (fun x hx => he x (by simp [-Option.bind_some, hx]))
    rw [List.foldl_cons]
    refine ⟨⟨i1.1, by have := i1.2; simp only [List.length_cons]; omega⟩, ?_⟩
    rw [i2]
    show sm (nH host) (addT t e.a0 [] e.ls.length) + _ = _
    rw [addT_nH h e.a0 [] e.ls.length (by omega) (by omega)]
    simp only [cnt]
    omega
theorem tal_sum (ps : List Pol) (hs : List Hld) (now : Int) (host : Int) : ∀ (es : List Ev) (t : List Tal) (m : Int), TB t m → m + 3 * es.length ≤ 1000000 → (∀ e ∈ es, 1 ≤ e.ls.length ∧ e.ls.length ≤ 3) → TB (es.foldl (stepT ps hs now) t) (m + 3 * es.length) ∧ sm (nH host) (es.foldl (stepT ps hs now) t) = sm (nH host) t + cnt host (es.filter fun e => (expi ps hs now e).isSome)
  | [], t, m, h, _, _ => by simp [-Option.bind_some, cnt, h]
  | e :: r, t, m, h, hm, he => by
    have he1 := he e (by simp [-Option.bind_some])
    simp only [List.length_cons] at hm
    rw [List.foldl_cons, List.filter_cons]
    cases hx : expi ps hs now e with
    | none =>
      have hst : stepT ps hs now t e = t := by simp [-Option.bind_some, stepT, hx]
      rw [hst]
      obtain ⟨i1, i2⟩ := tal_sum ps hs now host r t m h (by omega) (fun x hx => he x (by simp [-Option.bind_some, hx]))
      exact ⟨⟨i1.1, by have := i1.2; simp only [List.length_cons]; omega⟩, by simpa [-Option.bind_some] using i2⟩
    | some nm =>
      have hst : stepT ps hs now t e = addT t e.a0 nm e.ls.length := by simp [-Option.bind_some, stepT, hx]
      rw [hst]
      have h1 := addT_TB h e.a0 nm e.ls.length (by omega) (by omega)
      have h1' : TB (addT t e.a0 nm e.ls.length) (m + 3) := ⟨h1.1, by have := h1.2; omega⟩
      obtain ⟨i1, i2⟩ := tal_sum ps hs now host r _ (m + 3) h1' (by omega) (fun x hx => he x (by simp [-Option.bind_some, hx]))
      refine ⟨⟨i1.1, by have := i1.2; simp only [List.length_cons]; omega⟩, ?_⟩
      rw [i2, addT_nH h e.a0 nm e.ls.length (by omega) (by omega)]
      simp only [Option.isSome_some, if_true, cnt]
      omega
theorem nil_TB : TB [] 0 := ⟨by simp [-Option.bind_some], by simp [-Option.bind_some, sm]⟩
/-- What is kept and what is told of the others add up. -/
theorem conserved (ps : List Pol) (hs : List Hld) (now : Int) (host : Int) (es : List Ev) (hl : es.length ≤ 1000) (he : ∀ e ∈ es, 1 ≤ e.ls.length ∧ e.ls.length ≤ 3) :
    sm (nH host) (linesT (keptE ps hs now es)) + sm (nH host) (talE ps hs now es) = sm (nH host) (linesT es) := by
  have hk := kept_len ps hs now es
  have h1 := (lines_sum host es [] 0 nil_TB (by omega) he).2
  have h2 := (lines_sum host (keptE ps hs now es) [] 0 nil_TB (by omega) (fun e hm => he e (List.mem_filter.1 hm).1)).2
  have h3 := (tal_sum ps hs now host es [] 0 nil_TB (by omega) he).2
  have h4 := cnt_split host (fun e => (expi ps hs now e).isSome) es
  have h5 : keptE ps hs now es = es.filter fun e => !(expi ps hs now e).isSome := by
    unfold keptE
    refine List.filter_congr fun x _ => ?_
    cases expi ps hs now x <;> rfl
  unfold linesT talE
  rw [h1, h2, h3, h5]
  simp only [sm]
  omega
end Go.Proofs.Ytdoppnhopjdhmaa
