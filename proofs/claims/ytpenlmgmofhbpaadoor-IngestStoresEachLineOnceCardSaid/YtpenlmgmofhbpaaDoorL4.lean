/- Laws, on plain data, about functions that the statement reaches. -/
import Derived.Test.YtpenlmgmofhbpaaDoorL3
set_option linter.unusedSimpArgs false
set_option linter.unusedVariables false
set_option linter.unnecessarySimpa false
set_option maxRecDepth 100000
namespace Go.Proofs.YtpenlmgmofhbpaaDoor
open Go.Eng Go.Pi
theorem kT_le (key : Tal) : ∀ l, kT key l ≤ l.length
  | [] => Nat.le_refl _
  | x :: r => by
    unfold kT
    split
    · have := kT_le key r; simp [-Option.bind_some]; omega
    · simp [-Option.bind_some]
theorem kT_lt (key : Tal) : ∀ (l : List Tal) (i : Nat) (x : Tal), l[i]? = some x → i < kT key l → cmpT x key < 0
  | y :: r, 0, x, hx, hi => by
    unfold kT at hi
    simp [-Option.bind_some] at hx
    subst hx
    split at hi
    · assumption
    · omega
  | y :: r, i + 1, x, hx, hi => by
    unfold kT at hi
    simp [-Option.bind_some] at hx
    split at hi
    · exact kT_lt key r i x hx (by omega)
    · omega
theorem kT_ge (key : Tal) : ∀ (l : List Tal), TAsc l → ∀ (i : Nat) (x : Tal), l[i]? = some x → kT key l ≤ i → 0 ≤ cmpT x key
  | y :: r, hs, i, x, hx, hi => by
    unfold kT at hi
    have hs' := List.pairwise_cons.1 hs
    split at hi
    · cases i with
      | zero => omega
      | succ i => exact kT_ge key r hs'.2 i x (by simpa [-Option.bind_some] using hx) (by omega)
    · rename_i hc
      rcases Int.lt_or_le (cmpT x key) 0 with h1 | h1
      · exfalso
        cases i with
        | zero => simp [-Option.bind_some] at hx; subst hx; exact hc h1
        | succ i =>
          have hx' : r[i]? = some x := by simpa [-Option.bind_some] using hx
          exact hc ((cmpT_lt _ _).2 (kl_tr (hs'.1 x (List.mem_of_getElem? hx')) ((cmpT_lt _ _).1 h1)))
      · exact h1
/-- The tallies with some lines more. -/
def addK (l : List Tal) (hst : Int) (rule : Str) (n : Int) (k : Nat) : List Tal := match l[k]? with
  | some x => if cmpT x ⟨hst, rule, 0⟩ = 0 then l.set k ⟨x.h, x.r, IntKind.wrap .i64 (x.n + n)⟩ else l.take k ++ [⟨hst, rule, IntKind.wrap .i64 (0 + n)⟩] ++ l.drop k
  | none => l.take k ++ [⟨hst, rule, IntKind.wrap .i64 (0 + n)⟩] ++ l.drop k
def addT (l : List Tal) (hst : Int) (rule : Str) (n : Int) : List Tal := if n < 1 then l else addK l hst rule n (kT ⟨hst, rule, 0⟩ l)
theorem u79 (l : List Tal) (d : D) (h : Hp) (hd : SlOf 3 talr l d) (hl : l.length ≤ 1000000) : ∃ d' h', R fn79 [d] h = some (d', h') ∧ h.length ≤ h'.length ∧ (∀ q, q < h.length → h'[q]? = h[q]?) ∧
    ((l = [] ∧ (d' = .nils ∨ d' = .sl 3 true [])) ∨ ∃ ob, h.length ≤ ob ∧ d' = .msl 3 ob 0 l.length ∧ h'[ob]? = some (.row ty106 3 (l.map talr))) := by
  rw [e79]
  rcases hd with ⟨rfl, rfl⟩ | ⟨b, rfl⟩
  · exact ⟨.nils, h, by
      have hne : dBin tab .eql ty58 .nils .nils = some (.bool true) := id rfl
      simp [-Option.bind_some, F79, hne], Nat.le_refl _, fun _ _ => rfl, .inl ⟨rfl, .inl rfl⟩⟩
  · obtain ⟨x', h', e, hl', hq, ho⟩ := app_full (T := tab) (t := ty58) (i := ti58) (j := ti106) (h := h) (id rfl) (id rfl) (id rfl) (by decide) (y := .sl 3 b (l.map talr)) (rowsOf_sl _ _ _ _) (lim_ok (by have : ti106.by_ = 32 := rfl; rw [this, List.length_map]; omega) (by rw [List.length_map]; omega))
    have e' : dAppend tab h ty58 ty58 (.sl 3 true []) (.sl 3 b (l.map talr)) = some (x', h') := e
    have hne : dBin tab .eql ty58 (.sl 3 b (l.map talr)) .nils = some (.bool false) := id rfl
    refine ⟨x', h', ?_, hl', hq, ?_⟩
    · simp only [F79, bs, hne, dIf_bool, Bool.false_eq_true, if_false, bs58_0, e', mkRes_one]
    · rcases ho with ⟨rfl, hn⟩ | ⟨rfl, hn⟩ | ⟨ob, h1, rfl, h2⟩
      · have : l = [] := by simpa [-Option.bind_some] using hn
        exact .inl ⟨this, .inr rfl⟩
      · have : l = [] := by simpa [-Option.bind_some] using hn
        exact .inl ⟨this, .inl rfl⟩
      · exact .inr ⟨ob, h1, by rw [List.length_map]; rfl, h2⟩
theorem lim106 {n : Nat} (hn : n ≤ 1000001) : lim n ti106.by_ = true := lim_ok (by have : ti106.by_ = 32 := rfl; rw [this]; omega) (by omega)
theorem addT_len (l : List Tal) (hst : Int) (rule : Str) (n : Int) : (addT l hst rule n).length ≤ l.length + 1 := by
  unfold addT
  split
  · omega
  · have hk := kT_le ⟨hst, rule, 0⟩ l
    generalize kT ⟨hst, rule, 0⟩ l = k at hk
    unfold addK
    split
    · split
      · simp [-Option.bind_some]
      · simp [-Option.bind_some]; omega
    · simp [-Option.bind_some]; omega
theorem addT_asc {l : List Tal} (hs : TAsc l) (hst : Int) (rule : Str) (n : Int) : TAsc (addT l hst rule n) := by
  unfold addT
  split
  · exact hs
  · have hk := kT_le ⟨hst, rule, 0⟩ l
    have h1 := kT_lt ⟨hst, rule, 0⟩ l
    have h2 := kT_ge ⟨hst, rule, 0⟩ l hs
    generalize kT ⟨hst, rule, 0⟩ l = k at hk h1 h2
    have hins : (∀ x, l[k]? = some x → ¬ cmpT x ⟨hst, rule, 0⟩ = 0) → TAsc (l.take k ++ [⟨hst, rule, IntKind.wrap .i64 (0 + n)⟩] ++ l.drop k) := fun hne => by
      have hpre : ∀ x ∈ l.take k, kl x ⟨hst, rule, 0⟩ := fun x hx => by
        obtain ⟨i, hi⟩ := List.mem_iff_getElem?.1 hx
        rw [List.getElem?_take] at hi
        split at hi
        · exact (cmpT_lt _ _).1 (h1 i x hi (by assumption))
        · cases hi
      have hpost : ∀ x ∈ l.drop k, kl ⟨hst, rule, 0⟩ x := fun x hx => by
        obtain ⟨i, hi⟩ := List.mem_iff_getElem?.1 hx
        rw [List.getElem?_drop] at hi
        have hge := h2 (k + i) x hi (by omega)
        refine kl_tot (fun hh => ?_) fun hh => ?_
        · have := (cmpT_lt _ _).2 hh; omega
        · have h0 := (cmpT_eq x ⟨hst, rule, 0⟩).2 hh
          cases i with
          | zero => exact hne x hi h0
          | succ i =>
            have hlt := (List.getElem?_eq_some_iff.1 hi).1
            have hg : l[k]? = some (l[k]'(by omega)) := List.getElem?_eq_getElem (by omega)
            generalize l[k]'(by omega) = y at hg
            have hky : kl y x := by
              have := List.pairwise_iff_getElem.1 hs k (k + (i + 1)) (by omega) hlt (by omega)
              rw [List.getElem?_eq_getElem (by omega)] at hg hi
              injection hg with hg
              injection hi with hi
              rwa [hg, hi] at this
            have := h2 k y hg (Nat.le_refl _)
            have h3 : cmpT y ⟨hst, rule, 0⟩ < 0 := by
              rw [cmpT_lt]
              unfold kl at hky ⊢
              rw [hh.1, hh.2] at hky
              exact hky
            omega
      unfold TAsc
      rw [List.append_assoc, List.pairwise_append]
      refine ⟨hs.sublist (List.take_sublist _ _), ?_, fun a ha b hb => ?_⟩
      · rw [List.singleton_append, List.pairwise_cons]
        exact ⟨fun b hb => hpost b hb, hs.sublist (List.drop_sublist _ _)⟩
      · rw [List.singleton_append, List.mem_cons] at hb
        rcases hb with rfl | hb
        · exact hpre a ha
        · exact kl_tr (hpre a ha) (hpost b hb)
    unfold addK
    cases hg : l[k]? with
    | none => exact hins fun x hx => by rw [hg] at hx; cases hx
    | some y =>
      simp only
      split
      · have hkl := (List.getElem?_eq_some_iff.1 hg).1
        unfold TAsc at hs ⊢
        rw [List.pairwise_iff_getElem] at hs ⊢
        have hval : l[k] = y := (List.getElem?_eq_some_iff.1 hg).2
        intro i j hi hj hij
        have q := hs i j (by simpa [-Option.bind_some] using hi) (by simpa [-Option.bind_some] using hj) hij
        simp only [List.getElem_set]
        by_cases hki : k = i
        · subst hki
          have hkj : ¬ k = j := by omega
          simp only [if_true, hkj, if_false]
          rw [hval] at q
          exact q
        · by_cases hkj : k = j
          · subst hkj
            simp only [hki, if_false, if_true]
            rw [hval] at q
            exact q
          · simp only [hki, hkj, if_false]
            exact q
      · rename_i hne
        exact hins fun x hx => by
          rw [hg] at hx
          injection hx with hx
          subst hx
          exact hne
/-- All of the first occur in the second, in order. -/
def gr : List Ev → List Ev → Bool
  | [], _ => true
  | _ :: _, [] => false
  | x :: a, y :: b => if sameE x y = true then gr a b else gr (x :: a) b
/-- A sum over tallies. -/
def sm (f : Tal → Int) : List Tal → Int
  | [] => 0
  | t :: r => f t + sm f r
theorem s30r (l : List Tal) (da db : D) (h : Hp) (ha : SlOf 3 talr l da) (hb : SlOf 3 talr l db) (hl : l.length ≤ 1000000) : R fn30 [da, db] h = some (.bool true, h) := by
  suffices Wp (R fn30 [da, db] h) (fun p => p = (.bool true, h)) by
    obtain ⟨p, h1, rfl⟩ := this
    exact h1
  rw [e30]
  simp only [F30, bs, Option.bind_assoc, lens58 ha, lens58 hb, dBin_neq, ne_eq, not_true, decide_false, dIf_bool, Bool.false_eq_true, if_false]
  refine Wp.loop (fun n ds g => g = h ∧ ∃ x y z, ∃ i : Nat, ds = [x, .int .i64 i, y, z] ∧ n + i = l.length)
    (fun r => r.1 = .ext 0 ∧ r.2.2 = h) l.length ⟨rfl, _, _, _, 0, rfl, rfl⟩ ?_ ?_
  · rintro n ds g ⟨rfl, x, y, z, i, rfl, hi⟩
    simp only [F30_L0, nth_zero, nth_succ, bs, Option.bind_assoc, lens58 ha, dBin_lss]
    refine Wp.dif ?_ ?_
    · intro h0
      have h0 : i < l.length := by have : (i : Int) < l.length := by simpa [-Option.bind_some] using h0
                                   omega
      have hg : l[i]? = some l[i] := List.getElem?_eq_getElem h0
      generalize l[i] = u at hg
      have ia : dIndexAddr tab ty58 da (.int .i64 i) = some (.fptr (talr u)) := by rw [ixs58 ha]; simp [-Option.bind_some, hg]
      have ib : dIndexAddr tab ty58 db (.int .i64 i) = some (.fptr (talr u)) := by rw [ixs58 hb]; simp [-Option.bind_some, hg]
      have hw : IntKind.wrap .i64 ((i : Int) + 1) = ((i + 1 : Nat) : Int) := by
        rw [wrap_i64 (by omega) (by omega)]; omega
      have hn : dBin tab .neq ty106 (.agg (talr u)) (.agg (talr u)) = some (.bool false) := by
        have := bneq106 u.h u.h u.r u.r u.n u.n
        simpa [-Option.bind_some, talr] using this
      simp only [ia, ib, talr_ld, hn, bs, dIf_bool, Bool.false_eq_true, if_false, dBin_add, hw]
      exact .some (.inl ⟨rfl, n - 1, by omega, rfl, _, _, _, i + 1, rfl, by omega⟩)
    · intro _
      exact .some (.inr ⟨by simp [-Option.bind_some], rfl, rfl⟩)
  · rintro ⟨ex, ds, g⟩ ⟨q1, q2⟩
    simp only at q1 q2
    subst q1; subst q2
    simp only [unblk_self, toEnd_nrm, bs, mkRes_one]
    exact .some rfl
/-- The order of marks. -/
def ml (a b : Mrk) : Prop := a.h < b.h ∨ (a.h = b.h ∧ a.f < b.f)
theorem cmpM_lt (a b : Mrk) : cmpM a b < 0 ↔ ml a b := by
  unfold cmpM orI orI orI cmpI ml
  by_cases h1 : a.h < b.h
  · simp [-Option.bind_some, h1]
  · by_cases h2 : b.h < a.h
    · have h3 : ¬ a.h = b.h := by omega
      simp [-Option.bind_some, h1, h2, h3]
    · have h3 : a.h = b.h := by omega
      by_cases h4 : a.f < b.f
      · simp [-Option.bind_some, h3, h4]
      · by_cases h5 : b.f < a.f <;> simp [-Option.bind_some, h3, h4, h5]
theorem cmpM_eq (a b : Mrk) : cmpM a b = 0 ↔ a.h = b.h ∧ a.f = b.f := by
  unfold cmpM orI orI orI cmpI
  by_cases h1 : a.h < b.h
  · have h3 : ¬ a.h = b.h := by omega
    simp [-Option.bind_some, h1, h3]
  · by_cases h2 : b.h < a.h
    · have h3 : ¬ a.h = b.h := by omega
      simp [-Option.bind_some, h1, h2, h3]
    · have h3 : a.h = b.h := by omega
      by_cases h4 : a.f < b.f
      · have : ¬ a.f = b.f := by omega
        simp [-Option.bind_some, h3, h4, this]
      · by_cases h5 : b.f < a.f
        · have : ¬ a.f = b.f := by omega
          simp [-Option.bind_some, h3, h4, h5, this]
        · have : a.f = b.f := by omega
          simp [-Option.bind_some, h3, this]
def MAsc (l : List Mrk) : Prop := l.Pairwise ml
/-- Where a mark stands, or would. -/
def kM (key : Mrk) : List Mrk → Nat
  | [] => 0
  | x :: r => if cmpM x key < 0 then kM key r + 1 else 0
theorem kM_le (key : Mrk) : ∀ l, kM key l ≤ l.length
  | [] => Nat.le_refl _
  | x :: r => by
    unfold kM
    split
    · have := kM_le key r; simp [-Option.bind_some]; omega
    · simp [-Option.bind_some]
theorem kM_lt (key : Mrk) : ∀ (l : List Mrk) (i : Nat) (x : Mrk), l[i]? = some x → i < kM key l → cmpM x key < 0
  | y :: r, 0, x, hx, hi => by
    unfold kM at hi
    simp [-Option.bind_some] at hx
    subst hx
    split at hi
    · assumption
    · omega
  | y :: r, i + 1, x, hx, hi => by
    unfold kM at hi
    simp [-Option.bind_some] at hx
    split at hi
    · exact kM_lt key r i x hx (by omega)
    · omega
theorem kM_at (key : Mrk) : ∀ (l : List Mrk) (x : Mrk), l[kM key l]? = some x → ¬ cmpM x key < 0
  | y :: r, x, hx => by
    unfold kM at hx
    split at hx
    · exact kM_at key r x (by simpa [-Option.bind_some] using hx)
    · rename_i hc
      simp [-Option.bind_some] at hx
      subst hx
      exact hc
theorem ml_tr {a b c : Mrk} (h : ml a b) (k : ml b c) : ml a c := by
  unfold ml at *
  omega
theorem kM_ge (key : Mrk) : ∀ (l : List Mrk), MAsc l → ∀ (i : Nat) (x : Mrk), l[i]? = some x → kM key l ≤ i → 0 ≤ cmpM x key
  | y :: r, hs, i, x, hx, hi => by
    unfold kM at hi
    have hs' := List.pairwise_cons.1 hs
    split at hi
    · cases i with
      | zero => omega
      | succ i => exact kM_ge key r hs'.2 i x (by simpa [-Option.bind_some] using hx) (by omega)
    · rename_i hc
      rcases Int.lt_or_le (cmpM x key) 0 with h1 | h1
      · exfalso
        cases i with
        | zero => simp [-Option.bind_some] at hx; subst hx; exact hc h1
        | succ i =>
          have hx' : r[i]? = some x := by simpa [-Option.bind_some] using hx
          exact hc ((cmpM_lt _ _).2 (ml_tr (hs'.1 x (List.mem_of_getElem? hx')) ((cmpM_lt _ _).1 h1)))
      · exact h1
def fndM (l : List Mrk) (key : Mrk) : Bool := match l[kM key l]? with
  | some x => decide (cmpM x key = 0)
  | none => false
def markOf (l : List Mrk) (hst fil : Int) : Int := match l[kM ⟨hst, fil, 0⟩ l]? with
  | some x => if cmpM x ⟨hst, fil, 0⟩ = 0 then x.o else 0
  | none => 0
theorem s1005 (l : List Mrk) (d dt : D) (hst fil : Int) (h : Hp) (hd : SlOf 3 mrkr l d) (hl : l.length ≤ 1000000) (hs : MAsc l) : R fn1005 [.agg [d, dt], .int .i64 hst, .int .i64 fil] h = some (.int .i64 (markOf l hst fil), h) := by
  have hk := kM_le ⟨hst, fil, 0⟩ l
  have h13 := s1013 l d hst fil h hd hl (kM ⟨hst, fil, 0⟩ l) hk (kM_lt _ l) (kM_ge _ l hs)
  rw [e1005]
  unfold markOf
  generalize kM ⟨hst, fil, 0⟩ l = k at hk h13
  simp only [F1005, pBoxF_agg, bs, fa1009_0, ld1007, h13, dExtract_tup, List.getElem?_cons_zero, List.getElem?_cons_succ]
  cases hg : l[k]? with
  | none => simp [-Option.bind_some]
  | some x =>
    have hix : dIndexAddr tab ty1007 d (.int .i64 (k : Nat)) = some (.fptr (mrkr x)) := by rw [ixs1007 hd]; simp [-Option.bind_some, hg]
    by_cases hc : cmpM x ⟨hst, fil, 0⟩ = 0
    · simp [-Option.bind_some, hc, hix, mrkr]
    · simp [-Option.bind_some, hc]
def countT (l : List Tal) (hst : Int) (rule : Str) : Int := match l[kT ⟨hst, rule, 0⟩ l]? with
  | some x => if cmpT x ⟨hst, rule, 0⟩ = 0 then x.n else 0
  | none => 0
theorem s1078 (l : List Tal) (d dm : D) (hst : Int) (rule : Str) (h : Hp) (hd : SlOf 3 talr l d) (hl : l.length ≤ 1000000) (hs : TAsc l) : R fn1078 [.agg [dm, d], .int .i64 hst, .str rule] h = some (.int .i64 (countT l hst rule), h) := by
  have hk := kT_le ⟨hst, rule, 0⟩ l
  have h80 := s80 l d hst rule h (.inl hd) hl (kT ⟨hst, rule, 0⟩ l) hk (kT_lt _ l) (kT_ge _ l hs)
  rw [e1078]
  unfold countT
  generalize kT ⟨hst, rule, 0⟩ l = k at hk h80
  simp only [F1078, pBoxF_agg, bs, fa1009_1, ld58, h80, dExtract_tup, List.getElem?_cons_zero, List.getElem?_cons_succ]
  cases hg : l[k]? with
  | none => simp [-Option.bind_some]
  | some x =>
    have hix : dIndexAddr tab ty58 d (.int .i64 (k : Nat)) = some (.fptr (talr x)) := by rw [ixs58 hd]; simp [-Option.bind_some, hg]
    by_cases hc : cmpT x ⟨hst, rule, 0⟩ = 0
    · simp [-Option.bind_some, hc, hix, talr]
    · simp [-Option.bind_some, hc]
theorem mrkr_frz (n0 : Nat) (h : Hp) (n : Nat) (p : Mrk) : ∀ d ∈ mrkr p, frz n0 h n d = d := by simp [-Option.bind_some, mrkr]
theorem mrkr_ok (n : Nat) (p : Mrk) : ∀ d ∈ mrkr p, Ok n d := by
  intro d hd
  simp [-Option.bind_some, mrkr] at hd
  rcases hd with rfl | rfl | rfl <;> constructor
theorem sorted_ext {α : Type} {lt : α → α → Prop} (irr : ∀ a, ¬ lt a a) (tr : ∀ a b c, lt a b → lt b c → lt a c) : ∀ {l r : List α}, l.Pairwise lt → r.Pairwise lt → (∀ x, x ∈ l ↔ x ∈ r) → l = r
  | [], [], _, _, _ => rfl
  | [], y :: r, _, _, h => by have := (h y).2 (by simp [-Option.bind_some]); cases this
  | x :: l, [], _, _, h => by have := (h x).1 (by simp [-Option.bind_some]); cases this
  | x :: l, y :: r, hl, hr, h => by
    have hl' := List.pairwise_cons.1 hl
    have hr' := List.pairwise_cons.1 hr
    have hxy : x = y := by
      rcases List.mem_cons.1 ((h x).1 (by simp [-Option.bind_some])) with h1 | h1
      · exact h1
      · rcases List.mem_cons.1 ((h y).2 (by simp [-Option.bind_some])) with h2 | h2
        · exact h2.symm
        · exact absurd (tr _ _ _ (hl'.1 y h2) (hr'.1 x h1)) (irr _)
    subst hxy
    rw [sorted_ext irr tr hl'.2 hr'.2 fun z => ⟨fun hz => ?_, fun hz => ?_⟩]
    · rcases List.mem_cons.1 ((h z).1 (by simp [-Option.bind_some, hz])) with h1 | h1
      · subst h1; exact absurd (hl'.1 z hz) (irr _)
      · exact h1
    · rcases List.mem_cons.1 ((h z).2 (by simp [-Option.bind_some, hz])) with h1 | h1
      · subst h1; exact absurd (hr'.1 z hz) (irr _)
      · exact h1
theorem ml_irr (a : Mrk) : ¬ ml a a := by unfold ml; omega
theorem kl_irr (a : Tal) : ¬ kl a a := by
  unfold kl
  rintro (h | ⟨_, h⟩)
  · omega
  · rw [bL_irr] at h; cases h
theorem masc_ext {l r : List Mrk} (hl : MAsc l) (hr : MAsc r) (h : ∀ x, x ∈ l ↔ x ∈ r) : l = r := sorted_ext ml_irr (fun _ _ _ => ml_tr) hl hr h
theorem tasc_ext {l r : List Tal} (hl : TAsc l) (hr : TAsc r) (h : ∀ x, x ∈ l ↔ x ∈ r) : l = r := sorted_ext kl_irr (fun _ _ _ => kl_tr) hl hr h
/-- The marks with the mark of a file set. -/
def setM (l : List Mrk) (m : Mrk) : List Mrk := if fndM l m = true then l.set (kM m l) m else l.take (kM m l) ++ [m] ++ l.drop (kM m l)
theorem kM_key (a b : Mrk) (h1 : a.h = b.h) (h2 : a.f = b.f) : ∀ l, kM a l = kM b l
  | [] => rfl
  | x :: r => by
    have : cmpM x a = cmpM x b := by unfold cmpM; rw [h1, h2]
    unfold kM
    rw [this, kM_key a b h1 h2 r]
theorem cmpM_key (x a b : Mrk) (h1 : a.h = b.h) (h2 : a.f = b.f) : cmpM x a = cmpM x b := by unfold cmpM; rw [h1, h2]
/-- In order, the same key is the same mark. -/
theorem masc_key : ∀ {l : List Mrk}, MAsc l → ∀ {x y : Mrk}, x ∈ l → y ∈ l → x.h = y.h → x.f = y.f → x = y
  | z :: r, h, x, y, hx, hy, h1, h2 => by
    have h' := List.pairwise_cons.1 h
    rcases List.mem_cons.1 hx with e1 | k1
    · rcases List.mem_cons.1 hy with e2 | k2
      · rw [e1, e2]
      · have := h'.1 y k2
        rw [← e1] at this
        unfold ml at this; omega
    · rcases List.mem_cons.1 hy with e2 | k2
      · have := h'.1 x k1
        rw [← e2] at this
        unfold ml at this; omega
      · exact masc_key h'.2 k1 k2 h1 h2
theorem tasc_key : ∀ {l : List Tal}, TAsc l → ∀ {x y : Tal}, x ∈ l → y ∈ l → x.h = y.h → x.r = y.r → x = y
  | z :: r, h, x, y, hx, hy, h1, h2 => by
    have h' := List.pairwise_cons.1 h
    have no : ∀ a b : Tal, kl a b → a.h = b.h → a.r = b.r → False := fun a b hk e1 e2 => by
      have := (cmpT_lt a b).2 hk
      have := (cmpT_eq a b).2 ⟨e1, e2⟩
      omega
    rcases List.mem_cons.1 hx with e1 | k1
    · rcases List.mem_cons.1 hy with e2 | k2
      · rw [e1, e2]
      · have := h'.1 y k2
        rw [← e1] at this
        exact (no _ _ this h1 h2).elim
    · rcases List.mem_cons.1 hy with e2 | k2
      · have := h'.1 x k1
        rw [← e2] at this
        exact (no _ _ this h1.symm h2.symm).elim
      · exact tasc_key h'.2 k1 k2 h1 h2
/-- Parts of an ordered list around a key. -/
theorem kM_take (m : Mrk) (l : List Mrk) : ∀ x ∈ l.take (kM m l), ml x m := by
  intro x hx
  obtain ⟨i, hi⟩ := List.getElem?_of_mem hx
  have hlt := (List.getElem?_eq_some_iff.1 hi).1
  rw [List.length_take] at hlt
  rw [List.getElem?_take, if_pos (by omega)] at hi
  exact (cmpM_lt _ _).1 (kM_lt m l i x hi (by omega))
theorem kM_drop (m : Mrk) (l : List Mrk) (hs : MAsc l) : ∀ x ∈ l.drop (kM m l), ¬ ml x m := by
  intro x hx
  obtain ⟨i, hi⟩ := List.getElem?_of_mem hx
  rw [List.getElem?_drop] at hi
  have := kM_ge m l hs _ x hi (by omega)
  intro h
  have := (cmpM_lt _ _).2 h
  omega
theorem ml_tot {a b : Mrk} (h : ¬ ml a b) (k : ¬ (a.h = b.h ∧ a.f = b.f)) : ml b a := by
  unfold ml at *
  omega
theorem fndM_iff (l : List Mrk) (m : Mrk) (hs : MAsc l) : fndM l m = true ↔ ∃ x ∈ l, x.h = m.h ∧ x.f = m.f := by
  unfold fndM
  constructor
  · intro h
    cases hg : l[kM m l]? with
    | none => rw [hg] at h; cases h
    | some x =>
      rw [hg] at h
      have h : cmpM x m = 0 := by simpa [-Option.bind_some] using h
      exact ⟨x, List.mem_of_getElem? hg, (cmpM_eq _ _).1 h⟩
  · rintro ⟨x, hx, h1, h2⟩
    have hx' : x ∈ l.drop (kM m l) := by
      rw [← List.take_append_drop (kM m l) l] at hx
      rcases List.mem_append.1 hx with h | h
      · have := kM_take m l x h; unfold ml at this; omega
      · exact h
    obtain ⟨i, hi⟩ := List.getElem?_of_mem hx'
    rw [List.getElem?_drop] at hi
    cases hg : l[kM m l]? with
    | none =>
      have := List.getElem?_eq_none_iff.1 hg
      have := (List.getElem?_eq_some_iff.1 hi).1
      omega
    | some y =>
      have hc : cmpM y m = 0 := by
        have hy := kM_at m l y hg
        rcases Nat.eq_zero_or_pos i with rfl | hi0
        · rw [Nat.add_zero, hg] at hi
          injection hi with hi
          subst hi
          exact (cmpM_eq _ _).2 ⟨h1, h2⟩
        · exfalso
          have hlt : ml y x := by
            obtain ⟨g1, g2⟩ := List.getElem?_eq_some_iff.1 hg
            obtain ⟨g3, g4⟩ := List.getElem?_eq_some_iff.1 hi
            have := List.pairwise_iff_getElem.1 hs _ _ g1 g3 (by omega)
            rw [g2, g4] at this
            exact this
          exact hy ((cmpM_lt _ _).2 (by unfold ml at hlt ⊢; omega))
      simp [-Option.bind_some, hc]
theorem setM_mem (l : List Mrk) (m : Mrk) (hs : MAsc l) (x : Mrk) : x ∈ setM l m ↔ x = m ∨ (x ∈ l ∧ ¬ (x.h = m.h ∧ x.f = m.f)) := by
  unfold setM
  by_cases hf : fndM l m = true
  · rw [if_pos hf]
    unfold fndM at hf
    cases hg : l[kM m l]? with
    | none => rw [hg] at hf; cases hf
    | some y =>
      rw [hg] at hf
      have hy : cmpM y m = 0 := by simpa [-Option.bind_some] using hf
      have hy := (cmpM_eq _ _).1 hy
      have hk : kM m l < l.length := (List.getElem?_eq_some_iff.1 hg).1
      constructor
      · intro hx
        obtain ⟨i, hi⟩ := List.getElem?_of_mem hx
        rw [List.getElem?_set] at hi
        split at hi
        · rename_i heq
          left
          subst heq
          simp [-Option.bind_some, hk] at hi
          exact hi.symm
        · rename_i hne
          by_cases hkey : x.h = m.h ∧ x.f = m.f
          · exfalso
            obtain ⟨g1, g2⟩ := List.getElem?_eq_some_iff.1 hg
            obtain ⟨g3, g4⟩ := List.getElem?_eq_some_iff.1 hi
            rcases Nat.lt_or_gt_of_ne hne with hlt | hlt
            · have := List.pairwise_iff_getElem.1 hs _ _ g1 g3 hlt
              rw [g2, g4] at this; unfold ml at this; omega
            · have := List.pairwise_iff_getElem.1 hs _ _ g3 g1 hlt
              rw [g2, g4] at this; unfold ml at this; omega
          · exact .inr ⟨List.mem_of_getElem? hi, hkey⟩
      · rintro (rfl | ⟨hx, hkey⟩)
        · exact List.mem_iff_getElem?.2 ⟨kM x l, by rw [List.getElem?_set_self hk]⟩
        · obtain ⟨i, hi⟩ := List.getElem?_of_mem hx
          refine List.mem_iff_getElem?.2 ⟨i, ?_⟩
          rw [List.getElem?_set_ne]
          · exact hi
          · rintro rfl
            rw [hg] at hi
            injection hi with hi
            subst hi
            exact hkey hy
  · rw [if_neg hf]
    have hn : ∀ y ∈ l, ¬ (y.h = m.h ∧ y.f = m.f) := fun y hy hk => hf ((fndM_iff l m hs).2 ⟨y, hy, hk⟩)
    constructor
    · intro hx
      simp only [List.mem_append, List.mem_singleton] at hx
      rcases hx with (hx | hx) | hx
      · have := List.mem_of_mem_take hx
        exact .inr ⟨this, hn x this⟩
      · exact .inl hx
      · have := List.mem_of_mem_drop hx
        exact .inr ⟨this, hn x this⟩
    · rintro (rfl | ⟨hx, _⟩)
      · simp [-Option.bind_some]
      · rw [← List.take_append_drop (kM m l) l] at hx
        rcases List.mem_append.1 hx with h | h
        · simp [-Option.bind_some, h]
        · simp [-Option.bind_some, h]
theorem setM_asc (l : List Mrk) (m : Mrk) (hs : MAsc l) : MAsc (setM l m) := by
  unfold setM
  by_cases hf : fndM l m = true
  · rw [if_pos hf]
    unfold fndM at hf
    cases hg : l[kM m l]? with
    | none => rw [hg] at hf; cases hf
    | some y =>
      rw [hg] at hf
      have hy : cmpM y m = 0 := by simpa [-Option.bind_some] using hf
      have hy := (cmpM_eq _ _).1 hy
      unfold MAsc at *
      rw [List.pairwise_iff_getElem] at hs ⊢
      obtain ⟨g1, g2⟩ := List.getElem?_eq_some_iff.1 hg
      intro i j hi hj hij
      simp only [List.length_set] at hi hj
      have := hs i j hi hj hij
      simp only [List.getElem_set]
      split <;> split
      · omega
      · rename_i h1 h2; subst h1; rw [g2] at this; unfold ml at this ⊢; omega
      · rename_i h1 h2; subst h2; rw [g2] at this; unfold ml at this ⊢; omega
      · exact this
  · rw [if_neg hf]
    unfold MAsc at *
    have h1 := kM_take m l
    have h2 := kM_drop m l hs
    have hn : ∀ y ∈ l, ¬ (y.h = m.h ∧ y.f = m.f) := fun y hy hk => hf ((fndM_iff l m hs).2 ⟨y, hy, hk⟩)
    have h3 : ∀ x ∈ l.drop (kM m l), ml m x := fun x hx => ml_tot (h2 x hx) (hn x (List.mem_of_mem_drop hx))
    rw [List.append_assoc, List.pairwise_append]
    refine ⟨hs.sublist (List.take_sublist _ _), List.pairwise_cons.2 ⟨h3, hs.sublist (List.drop_sublist _ _)⟩, fun a ha b hb => ?_⟩
    rcases List.mem_cons.1 hb with rfl | hb
    · exact h1 a ha
    · exact ml_tr (h1 a ha) (h3 b hb)
theorem setM_len (l : List Mrk) (m : Mrk) : (setM l m).length ≤ l.length + 1 := by
  have := kM_le m l
  unfold setM
  split <;> simp [-Option.bind_some] <;> omega
theorem markOf_eq (l : List Mrk) (hs : MAsc l) (h f : Int) : (∃ x ∈ l, x.h = h ∧ x.f = f ∧ markOf l h f = x.o) ∨ ((∀ x ∈ l, ¬ (x.h = h ∧ x.f = f)) ∧ markOf l h f = 0) := by
  by_cases hf : fndM l ⟨h, f, 0⟩ = true
  · left
    unfold fndM at hf
    unfold markOf
    cases hg : l[kM ⟨h, f, 0⟩ l]? with
    | none => rw [hg] at hf; cases hf
    | some y =>
      rw [hg] at hf
      have hy : cmpM y ⟨h, f, 0⟩ = 0 := by simpa [-Option.bind_some] using hf
      have hk := (cmpM_eq _ _).1 hy
      exact ⟨y, List.mem_of_getElem? hg, hk.1, hk.2, by simp [-Option.bind_some, hy]⟩
  · right
    refine ⟨fun x hx hk => hf ((fndM_iff l _ hs).2 ⟨x, hx, hk⟩), ?_⟩
    unfold fndM at hf
    unfold markOf
    cases hg : l[kM ⟨h, f, 0⟩ l]? with
    | none => rfl
    | some y =>
      rw [hg] at hf
      have hy : ¬ cmpM y ⟨h, f, 0⟩ = 0 := by simpa [-Option.bind_some] using hf
      simp [-Option.bind_some, hy]
theorem markOf_setM (l : List Mrk) (hs : MAsc l) (m : Mrk) (h f : Int) : markOf (setM l m) h f = if m.h = h ∧ m.f = f then m.o else markOf l h f := by
  have ha := setM_asc l m hs
  rcases markOf_eq _ ha h f with ⟨x, hx, h1, h2, h3⟩ | ⟨h1, h2⟩
  · rw [h3]
    rcases (setM_mem l m hs x).1 hx with rfl | ⟨hx, hn⟩
    · rw [if_pos ⟨h1, h2⟩]
    · rw [if_neg (by rw [← h1, ← h2]; exact fun hh => hn ⟨hh.1.symm, hh.2.symm⟩)]
      rcases markOf_eq l hs h f with ⟨y, hy, k1, k2, k3⟩ | ⟨k1, k2⟩
      · rw [k3, masc_key hs hx hy (by omega) (by omega)]
      · exact absurd ⟨h1, h2⟩ (k1 x hx)
  · rw [h2]
    have hm : ¬ (m.h = h ∧ m.f = f) := h1 m ((setM_mem l m hs m).2 (.inl rfl))
    rw [if_neg hm]
    rcases markOf_eq l hs h f with ⟨y, hy, k1, k2, k3⟩ | ⟨k1, k2⟩
    · exact absurd ⟨k1, k2⟩ (h1 y ((setM_mem l m hs y).2 (.inr ⟨hy, fun hh => hm ⟨by omega, by omega⟩⟩)))
    · exact k2.symm
theorem it_good {hst fil fr : Int} {i : It} (hi : ItOK hst fil fr i) (h0 : 0 ≤ hst) (h9 : hst ≤ 999) (f0 : 0 ≤ fil) (f9 : fil ≤ 1000) (r0 : 0 ≤ fr) (r9 : fr ≤ 50000) : (i.r = [] ∧ EvGood i.e) ∨ SkGood i := by
  have c1 := chain_le _ _ _ hi.ch
  have hn3 := hi.n3
  have hn1 := hi.n1
  have pl : PlOK i.e := ⟨by rw [hi.host]; exact h0, by rw [hi.host]; exact h9, by rw [hi.file]; exact f0, by rw [hi.file]; omega, by rw [hi.fr]; omega, by rw [hi.fr]; omega, by omega⟩
  have ch : chain i.e.a2 i.e.ls i.e.a3 := by rw [hi.fr]; exact hi.ch
  by_cases hr : i.r = []
  · left
    obtain ⟨e1, e2, e3, e4, e5, e6, e7, e8⟩ := hi.ev hr
    have hfl : i.e.fs.length ≤ 4 := by
      have := e7.1.length_le
      simpa [-Option.bind_some] using this
    exact ⟨hr, pl, e1, e2, e3, e4, hi.wt hr, hn1, by omega, ch, (show ∀ s ∈ lt98_5, s.length ≤ 32 by decide) _ e5, (show ∀ s ∈ lt98_6, s.length ≤ 32 by decide) _ e6, by omega, fn_of e7.1, asc_of e7.1, fun p hp => by have := e7.2 p hp; omega⟩
  · right
    obtain ⟨e1, e2, e3, e4, e5, e6, e7⟩ := hi.sk hr
    exact ⟨hr, (show ∀ s ∈ lt98_4, s.length ≤ 32 by decide) _ e1, pl, hn1, by omega, ch, e2, e3, e4, e5, e6, e7⟩
/-- What an item of a batch that is drawn looks like. -/
structure BIt (hst : Int) (i : It) : Prop where
  host : i.e.a0 = hst
  f5 : 5 ≤ i.e.a1
  f7 : i.e.a1 ≤ 7
  r0 : 0 ≤ i.e.a2
  r9 : i.e.a2 ≤ 50000
  ch : chain i.e.a2 i.e.ls i.e.a3
  n1 : 1 ≤ i.e.ls.length
  n6 : i.e.ls.length ≤ 6
  rule : i.r = [] ∨ i.r ∈ lt98_4
  fs : i.e.fs.length ≤ 4
  good : (i.r = [] ∧ EvGood i.e) ∨ SkGood i
theorem bit_of {hst fil fr : Int} {i : It} (hi : ItOK hst fil fr i) (h0 : 0 ≤ hst) (h9 : hst ≤ 999) (f5 : 5 ≤ fil) (f7 : fil ≤ 7) (r0 : 0 ≤ fr) (r9 : fr ≤ 50000) : BIt hst i := by
  have hn3 := hi.n3
  refine ⟨hi.host, by rw [hi.file]; exact f5, by rw [hi.file]; exact f7, by rw [hi.fr]; exact r0, by rw [hi.fr]; exact r9, by rw [hi.fr]; exact hi.ch, hi.n1, by omega, ?_, ?_, it_good hi h0 h9 (by omega) (by omega) r0 r9⟩
  · by_cases hr : i.r = []
    · exact .inl hr
    · exact .inr (hi.sk hr).1
  · by_cases hr : i.r = []
    · have := (hi.ev hr).2.2.2.2.2.2.1.1.length_le
      simpa [-Option.bind_some] using this
    · rw [(hi.sk hr).2.2.2.2.2.1]; simp [-Option.bind_some]
/-- Two items in one. -/
structure TogOf (a b j : It) : Prop where
  r : j.r = b.r
  a0 : j.e.a0 = b.e.a0
  a1 : j.e.a1 = b.e.a1
  a2 : j.e.a2 = a.e.a2
  a3 : j.e.a3 = b.e.a3
  a5 : j.e.a5 = b.e.a5
  a6 : j.e.a6 = b.e.a6
  s7 : j.e.s7 = b.e.s7
  s8 : j.e.s8 = b.e.s8
  ls : j.e.ls = if b.r = [] then a.e.ls ++ b.e.ls else (a.e.ls ++ b.e.ls).map blank
  fs : j.e.fs = b.e.fs
theorem chain_app : ∀ (ls rs : List Lin) (a b c : Int), chain a ls b → chain b rs c → chain a (ls ++ rs) c
  | [], rs, a, b, c, h, k => by simp only [chain] at h; subst h; exact k
  | x :: ls, rs, a, b, c, h, k => ⟨h.1, h.2.1, h.2.2.1, h.2.2.2.1, chain_app ls rs _ b c h.2.2.2.2 k⟩
theorem bit_tog {hst fil fr fb : Int} {a b j : It} (ha : ItOK hst fil fr a) (hb : ItOK hst fil fb b) (hab : a.e.a3 = fb) (h0 : 0 ≤ hst) (h9 : hst ≤ 999) (f5 : 5 ≤ fil) (f7 : fil ≤ 7) (r0 : 0 ≤ fr) (r9 : fr ≤ 40000) (hj : TogOf a b j) : BIt hst j := by
  have na1 := ha.n1
  have na3 := ha.n3
  have nb1 := hb.n1
  have nb3 := hb.n3
  have ca := chain_le _ _ _ ha.ch
  have cb := chain_le _ _ _ hb.ch
  have hll : j.e.ls.length = a.e.ls.length + b.e.ls.length := by
    rw [hj.ls]; split <;> simp [-Option.bind_some]
  have ch0 : chain a.e.a2 (a.e.ls ++ b.e.ls) b.e.a3 := by
    rw [ha.fr]
    exact chain_app _ _ _ _ _ ha.ch (by rw [hab]; exact hb.ch)
  have ch : chain j.e.a2 j.e.ls j.e.a3 := by
    rw [hj.a2, hj.a3, hj.ls]
    split
    · exact ch0
    · exact chain_blank _ _ _ ch0
  have pl : PlOK j.e := ⟨by rw [hj.a0, hb.host]; exact h0, by rw [hj.a0, hb.host]; exact h9, by rw [hj.a1, hb.file]; omega, by rw [hj.a1, hb.file]; omega, by rw [hj.a2, ha.fr]; omega, by rw [hj.a2, hj.a3, ha.fr]; omega, by rw [hj.a3]; omega⟩
  have hbb := bit_of hb h0 h9 f5 f7 (by omega) (by omega)
  refine ⟨by rw [hj.a0, hb.host], by rw [hj.a1, hb.file]; exact f5, by rw [hj.a1, hb.file]; exact f7, by rw [hj.a2, ha.fr]; exact r0, by rw [hj.a2, ha.fr]; omega, ch, by omega, by omega, by rw [hj.r]; exact hbb.rule, by rw [hj.fs]; exact hbb.fs, ?_⟩
  by_cases hr : b.r = []
  · left
    obtain ⟨e1, e2, e3, e4, e5, e6, e7, e8⟩ := hb.ev hr
    have hfl := hbb.fs
    exact ⟨by rw [hj.r, hr], pl, by rw [hj.a5]; exact e1, by rw [hj.a5]; exact e2, by rw [hj.a6]; exact e3, by rw [hj.a6]; exact e4, by rw [hj.a6]; exact hb.wt hr, by omega, by omega, ch, by rw [hj.s7]; exact (show ∀ s ∈ lt98_5, s.length ≤ 32 by decide) _ e5, by rw [hj.s8]; exact (show ∀ s ∈ lt98_6, s.length ≤ 32 by decide) _ e6, by rw [hj.fs]; omega, by rw [hj.fs]; exact fn_of e7.1, by rw [hj.fs]; exact asc_of e7.1, by rw [hj.fs]; exact fun p hp => by have := e7.2 p hp; omega⟩
  · right
    obtain ⟨e1, e2, e3, e4, e5, e6, e7⟩ := hb.sk hr
    exact ⟨by rw [hj.r]; exact hr, by rw [hj.r]; exact (show ∀ s ∈ lt98_4, s.length ≤ 32 by decide) _ e1, pl, by omega, by omega, ch, by rw [hj.a5]; exact e2, by rw [hj.a6]; exact e3, by rw [hj.s7]; exact e4, by rw [hj.s8]; exact e5, by rw [hj.fs]; exact e6, by
      rw [hj.ls, if_neg hr]
      intro l hl
      obtain ⟨x, _, rfl⟩ := List.mem_map.1 hl
      rfl⟩
theorem items_get (hst fil : Int) : ∀ (l : List It) (a b : Int), items hst fil a l b → ∀ (k : Nat) (i : It), l[k]? = some i → ∃ f, ItOK hst fil f i ∧ a ≤ f ∧ f ≤ a + 108 * k ∧ ∀ j, l[k + 1]? = some j → ItOK hst fil i.e.a3 j
  | [], _, _, _, k, i, hi => by simp [-Option.bind_some] at hi
  | x :: r, a, b, h, 0, i, hi => by
    simp [-Option.bind_some] at hi
    subst hi
    refine ⟨a, h.1, by omega, by omega, fun j hj => ?_⟩
    cases r with
    | nil => simp [-Option.bind_some] at hj
    | cons y r => simp [-Option.bind_some] at hj; subst hj; exact h.2.1
  | x :: r, a, b, h, k + 1, i, hi => by
    obtain ⟨f, h1, h2, h3, h4⟩ := items_get hst fil r _ b h.2 k i (by simpa [-Option.bind_some] using hi)
    have c := chain_le _ _ _ h.1.ch
    have := h.1.n3
    exact ⟨f, h1, by omega, by push_cast; omega, fun j hj => h4 j (by simpa [-Option.bind_some] using hj)⟩
/-- The lines that an item of two ends with, so far. -/
def togR (b : Bool) (l : List Lin) (k : Nat) : List Lin := if b = true then (l.take k).map blank ++ l.drop k else l
theorem togR_len (b : Bool) (l : List Lin) (k : Nat) (hk : k ≤ l.length) : (togR b l k).length = l.length := by
  unfold togR
  split
  · simp [-Option.bind_some]; omega
  · rfl
theorem s1093 (a b : It) (h : Hp) (hla : a.e.ls.length ≤ 1000) (hlb : b.e.ls.length ≤ 1000) (hn : 1 ≤ a.e.ls.length) : ∃ j, R fn1093 [.agg (itr a), .agg (itr b)] h = some (.agg (itr j), h) ∧ TogOf a b j := by
  suffices Wp (R fn1093 [.agg (itr a), .agg (itr b)] h) (fun p => p.2 = h ∧ ∃ j, p.1 = .agg (itr j) ∧ TogOf a b j) by
    obtain ⟨⟨x, h'⟩, h1, rfl, j, rfl, h2⟩ := this
    exact ⟨j, h1, h2⟩
  rw [e1093]
  have q4 : ∀ i : It, dFieldAddr tab ty31 4 (.fptr (evr i.e)) = some (.fptr [i.e.ld, .int .i64 i.e.a5, .int .i64 i.e.a6, .str i.e.s7, .str i.e.s8, i.e.fd]) := fun i => id rfl
  have q2 : ∀ i : It, dFieldAddr tab ty31 2 (.fptr (evr i.e)) = some (.fptr [.int .i64 i.e.a2, .int .i64 i.e.a3, i.e.ld, .int .i64 i.e.a5, .int .i64 i.e.a6, .str i.e.s7, .str i.e.s8, i.e.fd]) := fun i => id rfl
  generalize hZ : ([.str [], .int .i64 0, .int .i64 0, .int .i64 0, .int .i64 0, .nils, .int .i64 0, .int .i64 0, .str [], .str [], .nils] : List D) = Z
  have hZl : Z.length = 11 := by subst hZ; rfl
  simp only [F1093, bs, pBoxF_agg, ldIt, hZ, Option.bind_assoc, itF1, q2, q4, ld3, ld28]
  have hl0 : (dNew h ty74 11 [Z]).length = h.length + 1 := by simp [-Option.bind_some, dNew]
  have p8 : (dNew (dNew h ty74 11 [Z]) ty74 11 [Z])[h.length]? = some (.row ty74 11 [Z]) := by
    rw [dNew_old _ _ _ _ (by omega)]; exact dNew_get _ _ _ _
  have p9 : (dNew (dNew h ty74 11 [Z]) ty74 11 [Z])[h.length + 1]? = some (.row ty74 11 [Z]) := by
    rw [← hl0]; exact dNew_get _ _ _ _
  have hb : ∀ q, q < h.length → (dNew (dNew h ty74 11 [Z]) ty74 11 [Z])[q]? = h[q]? := fun q hq => by
    rw [dNew_old _ _ _ _ (by omega), dNew_old _ _ _ _ hq]
  have hgl : (dNew (dNew h ty74 11 [Z]) ty74 11 [Z]).length = h.length + 2 := by simp [-Option.bind_some, dNew]
  rw [hl0]
  generalize dNew (dNew h ty74 11 [Z]) ty74 11 [Z] = g0 at p8 p9 hb hgl
  refine wst74 p9 (by rfl) (by rfl) (by rw [hZl]; exact Nat.le_refl _) (by rfl) fun g1 k9 s1 => ?_
  replace k9 : g1[h.length + 1]? = some (.row ty74 11 [itr b]) := by
    rw [k9]; subst hZ; rfl
  simp only [fap74_1, fap31_2, fap31_4, Nat.zero_add, bs]
  refine wst3 k9 (by rfl) (by rfl) (by simp [-Option.bind_some, itr, evr]) (by rfl) fun g2 k9 s2 => ?_
  try simp only [bs]
  refine wst28 k9 (by rfl) (by rfl) (by simp [-Option.bind_some, itr, evr, spl, cells1]) (by rfl) fun g3 k9 s3 => ?_
  replace k9 : g3[h.length + 1]? = some (.row ty74 11 [[.str b.r, .int .i64 b.e.a0, .int .i64 b.e.a1, .int .i64 a.e.a2, .int .i64 b.e.a3, .nils, .int .i64 b.e.a5, .int .i64 b.e.a6, .str b.e.s7, .str b.e.s8, b.e.fd]]) := k9
  have s13 := (s1.trans s2).trans s3
  replace p8 := (s13.2 h.length (by omega)).trans p8
  replace hb : ∀ q, q < h.length → g3[q]? = h[q]? := fun q hq => (s13.2 q (by omega)).trans (hb q hq)
  have hgl3 : g3.length = h.length + 2 := by rw [s13.1, hgl]
  clear s1 s2 s3 s13 p9 hgl
  try simp only [bs]
  refine wap28 (n0 := h.length + 2) (by omega) (Own.nils _ _ _ _) (slof_rows _ a.e.hld) (by simp [-Option.bind_some]; omega) fun x1 g4 ow1 len1 bel1 _ _ => ?_
  rw [List.nil_append] at ow1
  try simp only [bs]
  refine wap28 (n0 := h.length + 2) (by omega) ow1 (slof_rows _ b.e.hld) (by simp [-Option.bind_some]; omega) fun x2 g5 ow2 len2 bel2 _ _ => ?_
  rw [← List.map_append] at ow2
  have hbel : ∀ q, q < h.length + 2 → g5[q]? = g3[q]? := fun q hq => (bel2 q hq).trans (bel1 q hq)
  replace k9 := (hbel _ (by omega)).trans k9
  replace p8 := (hbel _ (by omega)).trans p8
  replace hb : ∀ q, q < h.length → g5[q]? = h[q]? := fun q hq => (hbel q (by omega)).trans (hb q hq)
  have hgl5 : h.length + 2 ≤ g5.length := by omega
  clear hbel bel1 bel2 ow1 len1 len2
  generalize hL : a.e.ls ++ b.e.ls = L at ow2
  have hLl : L.length = a.e.ls.length + b.e.ls.length := by rw [← hL]; simp [-Option.bind_some]
  obtain ⟨ob, hob, rfl, hgo⟩ := own_ix ow2 (i := 0) (by simp [-Option.bind_some]; omega)
  simp only [List.length_map] at *
  refine Wp.chk trivial ?_
  try simp only [bs, Option.bind_assoc]
  generalize hB : (!(b.r == ([] : Str))) = B
  refine Wp.loop (fun n ds g => ∃ (k : Nat) (u v y : D), ds = [.int .i64 k, u, v] ∧ n + k = L.length ∧ h.length + 2 ≤ g.length ∧ (∀ q, q < h.length → g[q]? = h[q]?) ∧ g[h.length]? = some (.row ty74 11 [Z]) ∧
      g[h.length + 1]? = some (.row ty74 11 [[.str b.r, .int .i64 b.e.a0, .int .i64 b.e.a1, .int .i64 a.e.a2, .int .i64 b.e.a3, y, .int .i64 b.e.a5, .int .i64 b.e.a6, .str b.e.s7, .str b.e.s8, b.e.fd]]) ∧
      g[ob]? = some (.row ty78 3 ((togR B L k).map linr)) ∧ Own g (h.length + 2) ty78 3 (((togR B L k).take k).map linr) y ∧ ¬ y.inOb ob)
    (fun r => r.1 = .ext 0 ∧ ∃ y, h.length + 2 ≤ r.2.2.length ∧ (∀ q, q < h.length → r.2.2[q]? = h[q]?) ∧ r.2.2[h.length]? = some (.row ty74 11 [Z]) ∧
      r.2.2[h.length + 1]? = some (.row ty74 11 [[.str b.r, .int .i64 b.e.a0, .int .i64 b.e.a1, .int .i64 a.e.a2, .int .i64 b.e.a3, y, .int .i64 b.e.a5, .int .i64 b.e.a6, .str b.e.s7, .str b.e.s8, b.e.fd]]) ∧
      Own r.2.2 (h.length + 2) ty78 3 ((togR B L L.length).map linr) y) L.length
    ⟨0, _, _, .nils, rfl, rfl, hgl5, hb, p8, k9, by rw [hgo]; unfold togR; split <;> simp [-Option.bind_some], by simpa [-Option.bind_some] using Own.nils _ _ _ _, by rintro ⟨_, _, hh⟩; cases hh⟩ ?_ ?_
  · rintro n ds g ⟨k, u, v, y, rfl, hk, hgl, hb, p8, k9, ho, ow, hny⟩
    have hlen : (togR B L k).length = L.length := togR_len _ _ _ (by omega)
    simp only [F1093_L0, nth_zero, nth_succ, bs, Option.bind_assoc, lenm28, dBin_lss, itF0, itL0, dBin_sneq, hB]
    refine Wp.dif ?_ ?_
    · intro h0
      have h0 : k < L.length := by have : (k : Int) < L.length := by simpa [-Option.bind_some] using h0
                                   omega
      have hkl : (0 : Int) ≤ (k : Int) ∧ (k : Int) < (L.length : Int) := by omega
      have hw : IntKind.wrap .i64 ((k : Int) + 1) = ((k + 1 : Nat) : Int) := by
        rw [wrap_i64 (by omega) (by omega)]; omega
      refine Wp.join (P := fun r => ∃ g', r = (.nrm, [], g') ∧ h.length + 2 ≤ g'.length ∧ (∀ q, q < h.length → g'[q]? = h[q]?) ∧ g'[h.length]? = some (.row ty74 11 [Z]) ∧
        g'[h.length + 1]? = some (.row ty74 11 [[.str b.r, .int .i64 b.e.a0, .int .i64 b.e.a1, .int .i64 a.e.a2, .int .i64 b.e.a3, y, .int .i64 b.e.a5, .int .i64 b.e.a6, .str b.e.s7, .str b.e.s8, b.e.fd]]) ∧
        g'[ob]? = some (.row ty78 3 ((togR B L (k + 1)).map linr)) ∧ Own g' (h.length + 2) ty78 3 (((togR B L k).take k).map linr) y) ?_ ?_ ?_
      · intro hbt
        subst hbt
        have hT : ∀ k, togR true L k = (L.take k).map blank ++ L.drop k := fun k => rfl
        simp only [ixm28, hkl, and_self, if_true, bs, fap78_2, Nat.zero_add, Int.toNat_natCast]
        refine wst9 ho (by rw [hT]; exact get_blank L k h0) (by rfl) (by simp [-Option.bind_some, linr]) (by rfl) fun g' q s => ?_
        have hset : ((togR true L k).map linr).set k (spl (linr L[k]) 2 (cells1 (.str []))) = (togR true L (k + 1)).map linr := by
          rw [hT, hT]; exact set_blank L k h0
        rw [hset] at q
        exact .some ⟨g', rfl, by have := s.1; omega, fun q hq => (s.2 q (by omega)).trans (hb q hq), (s.2 _ (by omega)).trans p8, (s.2 _ (by omega)).trans k9, q, ow.keep fun q hq hin => s.2 q fun hh => hny (hh ▸ hin)⟩
      · intro hbf
        subst hbf
        exact .some ⟨g, rfl, hgl, hb, p8, k9, ho, ow⟩
      rintro _ ⟨g', rfl, hgl, hb, p8, k9, ho, ow⟩
      have hx : (togR B L (k + 1))[k]? = some ((togR B L (k + 1))[k]'(by rw [togR_len _ _ _ (by omega)]; omega)) := List.getElem?_eq_getElem _
      generalize (togR B L (k + 1))[k]'(by rw [togR_len _ _ _ (by omega)]; omega) = x at hx
      have hxr : ((togR B L (k + 1)).map linr)[k]? = some (linr x) := by rw [List.getElem?_map, hx]; rfl
      have hld : dLoad tab g' ty78 (.ptr ob k 0) = some (.agg (linr x)) := by
        rw [ldp78, row_of ho, hxr]; rfl
      have hbs : pLitF tab ty28 1 [0] [.agg (linr x)] = some (.sl 3 true [linr x]) := id rfl
      simp only [toEnd_nrm, fap74_1, fap31_4, Nat.zero_add, ldp28, row_of k9, List.getElem?_cons_zero, bs, List.drop_succ_cons, List.drop_zero, List.head?_cons, ixm28, hkl, and_self, if_true, Int.toNat_natCast, hld, hbs]
      have htl : ((togR B L k).take k).length ≤ 2000 := by simp [-Option.bind_some]; omega
      refine wap28 (n0 := h.length + 2) hgl ow (rowsOf_sl _ _ _ _) (by simp [-Option.bind_some] at htl ⊢; omega) fun y' g'' ow' len' bel' keep' fre' => ?_
      try simp only [bs]
      have oc := one_cells (own_one ow')
      refine wst28 ((bel' (h.length + 1) (by omega)).trans k9) (by rfl) (by rw [oc.1]; rfl) (by simp [-Option.bind_some]) oc.2 fun g3 q3 t3 => ?_
      rw [oc.1] at q3
      have holt := (List.getElem?_eq_some_iff.1 ho).1
      have ho2 : h.length + 2 ≤ ob := hob
      have htk : ((togR B L k).take k).map linr ++ [linr x] = ((togR B L (k + 1)).take (k + 1)).map linr := by
        have e1 : (togR B L k).take k = (togR B L (k + 1)).take k := by
          unfold togR
          split
          · rw [List.take_append_of_le_length (by simp [-Option.bind_some]; omega), List.take_append_of_le_length (by simp [-Option.bind_some]; omega), ← List.map_take, ← List.map_take, List.take_take, List.take_take]
            congr 2; omega
          · rfl
        rw [e1, List.take_add_one, hx]
        simp [-Option.bind_some]
      rw [htk] at ow'
      simp only [bs, dBin_add, hw]
      refine .some (.inl ⟨rfl, n - 1, by omega, k + 1, _, _, y', rfl, by omega, by have := t3.1; show h.length + 2 ≤ g3.length; omega, fun q hq => (t3.2 q (by omega)).trans ((bel' q (by omega)).trans (hb q hq)), (t3.2 _ (by omega)).trans ((bel' _ (by omega)).trans p8), q3, (t3.2 _ (by omega)).trans ((keep' ob holt hny).trans ho), ow'.keep fun q hq _ => t3.2 q (by omega), fun hin => ?_⟩)
      rcases fre' ob hin with hh | hh
      · exact hny hh
      · omega
    · intro h0
      have h0 : k = L.length := by have : ¬ (k : Int) < L.length := by simpa [-Option.bind_some] using h0
                                   omega
      subst h0
      refine .some (.inr ⟨by simp [-Option.bind_some], rfl, y, hgl, hb, p8, k9, ?_⟩)
      rw [List.take_of_length_le (by omega)] at ow
      exact ow
  · rintro ⟨ex, ds, g⟩ ⟨q1, y, hgl, hb, p8, k9, ow⟩
    simp only at q1 hgl hb p8 k9 ow
    subst q1
    simp only [unblk_self, toEnd_nrm, bs]
    have hlen : (togR B L L.length).length = L.length := togR_len _ _ _ (Nat.le_refl _)
    have hsl := own_sl (n0 := h.length) (n := 2) ow (by omega) (fun a _ => linr_frz _ g _ a)
    have hcs : ([.str b.r, .int .i64 b.e.a0, .int .i64 b.e.a1, .int .i64 a.e.a2, .int .i64 b.e.a3, y, .int .i64 b.e.a5, .int .i64 b.e.a6, .str b.e.s7, .str b.e.s8, b.e.fd] : List D).length = 11 := rfl
    simp only [ldob11 k9 hcs, bs]
    have hok : (D.agg [.str b.r, .int .i64 b.e.a0, .int .i64 b.e.a1, .int .i64 a.e.a2, .int .i64 b.e.a3, y, .int .i64 b.e.a5, .int .i64 b.e.a6, .str b.e.s7, .str b.e.s8, b.e.fd]).okv = true := by
      have h1 := own_one ow
      have h2 := slof_one b.e.hfd
      generalize b.e.fd = fd at h2
      cases y <;> first | (cases fd <;> first | rfl | (simp [-Option.bind_some, D.one] at h2)) | (simp [-Option.bind_some, D.one] at h1)
    refine wst74 p8 (by rfl) (by rfl) (by rw [hZl]; exact Nat.le_refl _) hok fun g2 q8 t2 => ?_
    replace q8 : g2[h.length]? = some (.row ty74 11 [[.str b.r, .int .i64 b.e.a0, .int .i64 b.e.a1, .int .i64 a.e.a2, .int .i64 b.e.a3, y, .int .i64 b.e.a5, .int .i64 b.e.a6, .str b.e.s7, .str b.e.s8, b.e.fd]]) := by
      rw [q8]; subst hZ; rfl
    simp only [ldob11 q8 hcs, bs, mkRes_one]
    have ow2 := ow.keep (h' := g2) fun q hq _ => t2.2 q (by omega)
    have hsl := own_sl (n0 := h.length) (n := 2) ow2 (by omega) (fun a _ => linr_frz _ g2 _ a)
    refine ⟨(.agg (itr ⟨b.r, ⟨b.e.a0, b.e.a1, a.e.a2, b.e.a3, togR B L L.length, frz h.length g2 3 y, b.e.a5, b.e.a6, b.e.s7, b.e.s8, b.e.fs, b.e.fd, b.e.hfd, b.e.hl, hsl, by omega⟩⟩), h), scope_eq ?_ (itr_ok _ _) (by have := t2.1; omega) (fun q hq => (t2.2 q (by omega)).trans (hb q hq)), rfl, _, rfl, ⟨rfl, rfl, rfl, rfl, rfl, rfl, rfl, rfl, rfl, ?_, rfl⟩⟩
    · have hf := slof_frz (n0 := h.length) (h := g2) (n := 2) b.e.hfd (fun a _ => fld_frz _ g2 _ a)
      simp only [frz_agg, List.map_cons, List.map_nil, frz_int, frz_str, hf]
      rfl
    · show togR B L L.length = _
      by_cases hr : b.r = []
      · rw [if_pos hr]
        have : B = false := by rw [← hB, hr]; rfl
        subst this
        exact hL.symm
      · rw [if_neg hr]
        have : B = true := by rw [← hB]; simp [-Option.bind_some, hr]
        subst this
        rw [hL]
        simp [-Option.bind_some, togR]
def bRow (host : Int) (p : List It × D × Int) : List D := [.int .i64 host, .int .i64 p.2.2, p.2.1]
def atR (n : Nat) : List D := [.int .i64 (n : Int)]
/-- Batches so far. -/
structure BtI (h : Hp) (o : Nat) (host : Int) (ps : List (List It × D)) (qa : Nat) (g : Hp) (x : D) (bt : List (List It × D × Int)) (ats : List Nat) : Prop where
  len : h.length ≤ g.length
  gr : ∀ q, q < h.length → q ≠ o → g[q]? = h[q]?
  cd : CD g o
  qa0 : h.length ≤ qa
  at_ : g[qa]? = some (.row ty3 1 (ats.map atR))
  al : ats.length = ps.length
  ab : ∀ (f : Nat) (n : Nat) p, ats[f]? = some n → ps[f]? = some p → n ≤ p.1.length
  out : Own g h.length ty1064 3 (bt.map (bRow host)) x
  its : ∀ p ∈ bt, Own g h.length ty74 11 (p.1.map itr) p.2.1 ∧ p.1.length ≤ 3 ∧ ∀ i ∈ p.1, BIt host i
/-- Nothing else reaches behind pb. -/
structure BtL (h : Hp) (o : Nat) (qa pb : Nat) (x : D) (bt : List (List It × D × Int)) : Prop where
  hh : h.length ≤ pb
  ho : o < h.length
  hqa : qa < pb
  hx : ∀ q, x.inOb q → q < pb
  hbs : ∀ p ∈ bt, ∀ q, p.2.1.inOb q → q < pb
theorem BtI.keep {h : Hp} {o : Nat} {host : Int} {ps : List (List It × D)} {qa : Nat} {g g' : Hp} {x : D} {bt : List (List It × D × Int)} {ats : List Nat} {pb : Nat} (B : BtI h o host ps qa g x bt ats) (L : BtL h o qa pb x bt) (hcd : CD g' o) (hlen : g.length ≤ g'.length) (hk : ∀ q, q < pb → q ≠ o → g'[q]? = g[q]?) : BtI h o host ps qa g' x bt ats := by
  have h1 := L.hh
  have h2 := L.ho
  have h3 := L.hqa
  have h4 := B.qa0
  refine ⟨Nat.le_trans B.len hlen, fun q hq hn => (hk q (by omega) hn).trans (B.gr q hq hn), hcd, B.qa0, (hk qa h3 (by omega)).trans B.at_, B.al, B.ab, B.out.keep fun q hq hin => hk q (L.hx q hin) (by omega), fun p hp => ⟨(B.its p hp).1.keep fun q hq hin => hk q (L.hbs p hp q hin) (by omega), (B.its p hp).2⟩⟩
/-- A batch so far. -/
structure BnI (h : Hp) (o : Nat) (host : Int) (ps : List (List It × D)) (qa : Nat) (x : D) (bt : List (List It × D × Int)) (pb : Nat) (nu : Int) (g : Hp) (ats : List Nat) (its : List It) (y : D) : Prop where
  B : BtI h o host ps qa g x bt ats
  pg : pb < g.length
  pr : g[pb]? = some (.row ty1064 3 [[.int .i64 host, .int .i64 nu, y]])
  ow : Own g (pb + 1) ty74 11 (its.map itr) y
  ok : ∀ i ∈ its, BIt host i
section
variable {h : Hp} {o : Nat} {host : Int} {ps : List (List It × D)} {qa : Nat} {x : D} {bt : List (List It × D × Int)} {pb : Nat} {nu : Int}
theorem BnI.keep {g g' : Hp} {ats : List Nat} {its : List It} {y : D} (b : BnI h o host ps qa x bt pb nu g ats its y) (L : BtL h o qa pb x bt) (hcd : CD g' o) (hlen : g.length ≤ g'.length) (hk : ∀ q, q ≤ pb → q ≠ o → g'[q]? = g[q]?) (hy : ∀ q, y.inOb q → g'[q]? = g[q]?) : BnI h o host ps qa x bt pb nu g' ats its y := by
  have := L.hh
  have := L.ho
  exact ⟨b.B.keep L hcd hlen fun q hq hn => hk q (by omega) hn, by have := b.pg; omega, (hk pb (Nat.le_refl _) (by omega)).trans b.pr, b.ow.keep fun q _ hin => hy q hin, b.ok⟩
theorem BnI.next {g g' : Hp} {ats : List Nat} {its : List It} {y : D} (b : BnI h o host ps qa x bt pb nu g ats its y) (L : BtL h o qa pb x bt) (hcd : CD g' o) (hs : Same o g g') : BnI h o host ps qa x bt pb nu g' ats its y :=
  b.keep L hcd (Nat.le_of_eq hs.1.symm) (fun q _ hn => hs.2 q hn) fun q hin => hs.2 q (by have := (b.ow.lt hin).1; have := L.hh; have := L.ho; omega)
theorem BnI.put {g g' : Hp} {ats : List Nat} {its : List It} {y : D} {z : Nat} (b : BnI h o host ps qa x bt pb nu g ats its y) (L : BtL h o qa pb x bt) (hz : pb < z) (hzy : ¬ y.inOb z) (hs : Same z g g') : BnI h o host ps qa x bt pb nu g' ats its y :=
  b.keep L (b.B.cd.keep (hs.2 o (by have := L.hh; have := L.ho; omega))) (Nat.le_of_eq hs.1.symm) (fun q hq _ => hs.2 q (by omega)) fun q hin => hs.2 q fun hh => hzy (hh ▸ hin)
theorem BnI.new {g g' : Hp} {ats : List Nat} {its : List It} {y : D} (b : BnI h o host ps qa x bt pb nu g ats its y) (L : BtL h o qa pb x bt) (hl : g.length ≤ g'.length) (hk : ∀ q, q < g.length → g'[q]? = g[q]?) : BnI h o host ps qa x bt pb nu g' ats its y := by
  have h1 := b.pg
  have h2 := L.hh
  have h3 := L.ho
  exact b.keep L (b.B.cd.keep (hk o (by omega))) hl (fun q hq _ => hk q (by omega)) fun q hin => hk q (b.ow.lt hin).2
theorem ix_at {g : Hp} {ats : List Nat} {n f a : Nat} (hg : g[qa]? = some (.row ty3 1 (ats.map atR))) (hn : ats.length = n) (hf : ats[f]? = some a) : dIndexAddr tab ty82 (.msl 1 qa 0 n) (.int .i64 (f : Int)) = some (.ptr qa f 0) ∧ dLoad tab g ty3 (.ptr qa f 0) = some (.int .i64 a) := by
  have := (List.getElem?_eq_some_iff.1 hf).1
  have hh : (0 : Int) ≤ (f : Int) ∧ (f : Int) < (n : Int) := by omega
  constructor
  · rw [ixm82, if_pos hh]; simp [-Option.bind_some]
  · rw [ldp3, row_of hg, List.getElem?_map, hf]; rfl
end
theorem ldIt0 {g : Hp} {z : Nat} {i : It} (hz : g[z]? = some (.row ty74 11 [itr i])) : dLoad tab g ty74 (.ptr z 0 0) = some (.agg (itr i)) := ldob11 hz rfl
theorem itr_okv (i : It) : (D.agg (itr i)).okv = true := by
  have h1 := slof_one i.e.hld
  have h2 := slof_one i.e.hfd
  have h3 : (D.agg (itr i)) = .agg [.str i.r, .int .i64 i.e.a0, .int .i64 i.e.a1, .int .i64 i.e.a2, .int .i64 i.e.a3, i.e.ld, .int .i64 i.e.a5, .int .i64 i.e.a6, .str i.e.s7, .str i.e.s8, i.e.fd] := rfl
  rw [h3]
  generalize i.e.ld = a at h1
  generalize i.e.fd = b at h2
  cases a <;> first | (cases b <;> first | rfl | (simp [-Option.bind_some, D.one] at h2)) | (simp [-Option.bind_some, D.one] at h1)
theorem put_it {g : Hp} {z : Nat} {row : List D} {i : It} (hz : g[z]? = some (.row ty74 11 [row])) (hr : row.length = 11) {β : Type} {f : Hp → Option β} {Q : β → Prop}
    (k : ∀ g', g'[z]? = some (.row ty74 11 [itr i]) → Same z g g' → Wp (f g') Q) : Wp ((dStore tab g ty74 (.ptr z 0 0) (.agg (itr i))).bind f) Q := by
  refine wst74 hz (by rfl) (by rfl) (by rw [hr]; exact Nat.le_refl _) (itr_okv i) fun g' q s => k g' ?_ s
  have : spl row 0 (cells1 (.agg (itr i))) = itr i := by
    show row.take 0 ++ itr i ++ row.drop (0 + (itr i).length) = itr i
    rw [List.drop_of_length_le (by rw [hr]; exact Nat.le_refl _)]
    simp [-Option.bind_some]
  rw [q, this]
  rfl
/-- An item goes into the batch. -/
theorem app_it {h : Hp} {o : Nat} {host : Int} {ps : List (List It × D)} {qa : Nat} {x : D} {bt : List (List It × D × Int)} {pb : Nat} {nu : Int} {g : Hp} {ats : List Nat} {its : List It} {y : D} {i : It} {z : Nat} {β : Type} {f : Hp → Option β} {Q : β → Prop}
    (b : BnI h o host ps qa x bt pb nu g ats its y) (L : BtL h o qa pb x bt) (hl : its.length ≤ 1000) (hz : g[z]? = some (.row ty74 11 [itr i])) (hi : BIt host i)
    (k : ∀ g' y', BnI h o host ps qa x bt pb nu g' ats (its ++ [i]) y' → Wp (f g') Q) :
    Wp ((dFieldAddr tab ty1064 2 (.ptr pb 0 0)).bind fun t => (dLoad tab g ty113 t).bind fun t103 => (dLoad tab g ty74 (.ptr z 0 0)).bind fun t104 => (pLitF tab ty113 1 [0] [t104]).bind fun t105 => (dAppend tab g ty113 ty113 t103 t105).bind fun p => (dFieldAddr tab ty1064 2 (.ptr pb 0 0)).bind fun t107 => (dStore tab p.2 ty113 t107 p.1).bind f) Q := by
  have h1 := b.pg
  have h2 := L.hh
  have h3 := L.ho
  simp only [fap1064_2, ldp113, row_of b.pr, List.getElem?_cons_zero, bs, List.drop_succ_cons, List.drop_zero, List.head?_cons, Nat.zero_add, ldIt0 hz, bsIt]
  refine wap113 (n0 := pb + 1) h1 b.ow (rowsOf_sl _ _ _ _) (by simp [-Option.bind_some]; omega) fun y' g' ow len bel keep fre => ?_
  simp only [bs]
  have oc := one_cells (own_one ow)
  refine wst113 ((bel pb (by omega)).trans b.pr) (by rfl) (by rw [oc.1]; rfl) (by simp [-Option.bind_some]) oc.2 fun g2 q2 s2 => ?_
  rw [oc.1] at q2
  have h4 := s2.1
  refine k g2 y' ⟨b.B.keep L (b.B.cd.keep ((s2.2 o (by omega)).trans (bel o (by omega)))) (by omega) (fun q hq _ => (s2.2 q (by omega)).trans (bel q (by omega))), by omega, q2, ?_, fun j hj => ?_⟩
  · rw [List.map_append]
    exact ow.keep fun q hq _ => s2.2 q (by omega)
  · rcases List.mem_append.1 hj with hj | hj
    · exact b.ok j hj
    · simp [-Option.bind_some] at hj; subst hj; exact hi
end Go.Proofs.YtpenlmgmofhbpaaDoor
