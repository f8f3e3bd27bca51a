/- Laws, on plain data, about functions that the statement reaches. -/
import Derived.Test.YteglojieneaojaaL3
set_option linter.unusedSimpArgs false
set_option linter.unusedVariables false
set_option linter.unnecessarySimpa false
set_option maxRecDepth 100000
namespace Go.Proofs.Yteglojieneaojaa
open Go.Eng Go.Pi
theorem s1189 (x y : List Str) (dx dy : D) (h : Hp) (hx : SlOf 1 (fun s => [D.str s]) x dx) (hy : SlOf 1 (fun s => [D.str s]) y dy) (hl : x.length ≤ 1000000) (hl2 : y.length ≤ 1000000) : R fn1189 [dx, dy] h = some (.int .i64 (kcmp x y), h) := by
  suffices Wp (R fn1189 [dx, dy] h) (fun p => p = (.int .i64 (kcmp x y), h)) by
    obtain ⟨p, h1, rfl⟩ := this
    exact h1
  rw [e1189]
  simp only [F1189, bs, Option.bind_assoc, lens98 hx]
  generalize hV : kcmp x y = V
  refine Wp.loop (fun k ds g => g = h ∧ ∃ a b c d e f1 f2 f3, ∃ i : Nat, ds = [a, b, c, d, e, .int .i64 i, f1, f2, f3] ∧ k + i = x.length ∧ i ≤ y.length ∧ kcmp (x.drop i) (y.drop i) = V)
    (fun r => r.2.2 = h ∧ ((r.1 = .ret ∧ nth 0 r.2.1 = .int .i64 V) ∨ (r.1 = .ext 0 ∧ x.length ≤ y.length ∧ V = if x.length < y.length then -1 else 0))) x.length ⟨rfl, _, _, _, _, _, _, _, _, 0, rfl, by omega, by omega, hV⟩ ?_ ?_
  · rintro k ds g ⟨rfl, a, b, c, d, e, f1, f2, f3, i, rfl, hk, hi, hV⟩
    simp only [F1189_L0, nth_zero, nth_succ, bs, Option.bind_assoc, dBin_lss]
    refine Wp.dif ?_ ?_
    · intro h0
      have h0 : i < x.length := by have : (i : Int) < x.length := by simpa [-Option.bind_some] using h0
                                   omega
      obtain ⟨u, hu⟩ : ∃ u, x[i]? = some u := ⟨_, List.getElem?_eq_getElem h0⟩
      have hw : IntKind.wrap .i64 ((i : Int) + 1) = ((i + 1 : Nat) : Int) := by rw [wrap_i64 (by omega) (by omega)]; omega
      simp only [ixs98 hx, ixs98 hy, Int.natCast_nonneg, if_true, Int.toNat_natCast, hu, Option.map_some, bs, str_ld, lens98 hy, dBin_geq]
      rw [drop_cons hu] at hV
      by_cases h1 : i < y.length
      · obtain ⟨v, hv⟩ : ∃ v, y[i]? = some v := ⟨_, List.getElem?_eq_getElem h1⟩
        have d1 : decide ((i : Int) ≥ (y.length : Int)) = false := decide_eq_false (by omega)
        rw [drop_cons hv] at hV
        unfold kcmp at hV
        simp only [d1, dIf_bool, Bool.false_eq_true, if_false, hv, Option.map_some, bs, str_ld, s91, dBin_neq]
        by_cases h2 : cmpS u v = 0
        · rw [if_pos h2] at hV
          simp only [h2, ne_eq, not_true, decide_false, dIf_bool, Bool.false_eq_true, if_false, dBin_add, hw, bs]
          exact .some (.inl ⟨rfl, k - 1, by omega, rfl, _, _, _, _, _, _, _, _, i + 1, rfl, by omega, by omega, hV⟩)
        · rw [if_neg h2] at hV
          simp only [h2, ne_eq, not_false_eq_true, decide_true, dIf_bool, if_true]
          exact .some (.inr ⟨by simp [-Option.bind_some], rfl, .inl ⟨rfl, by rw [← hV]; rfl⟩⟩)
      · have d1 : decide ((i : Int) ≥ (y.length : Int)) = true := decide_eq_true (by omega)
        rw [List.drop_of_length_le (show y.length ≤ i by omega)] at hV
        simp only [d1, dIf_bool, if_true]
        exact .some (.inr ⟨by simp [-Option.bind_some], rfl, .inl ⟨rfl, by rw [← hV]; rfl⟩⟩)
    · intro h0
      have h0 : i = x.length := by have : ¬ (i : Int) < x.length := by simpa [-Option.bind_some] using h0
                                   omega
      subst h0
      refine .some (.inr ⟨by simp [-Option.bind_some], rfl, .inr ⟨rfl, hi, ?_⟩⟩)
      rw [List.drop_length] at hV
      rw [← hV]
      by_cases h1 : x.length < y.length
      · obtain ⟨v, hv⟩ : ∃ v, y[x.length]? = some v := ⟨_, List.getElem?_eq_getElem h1⟩
        rw [drop_cons hv, if_pos h1]; rfl
      · rw [List.drop_of_length_le (by omega), if_neg h1]; rfl
  · rintro ⟨ex, ds, g⟩ ⟨h1, h2⟩
    simp only at h1 h2
    subst h1
    rcases h2 with ⟨rfl, hn⟩ | ⟨rfl, hle, hv⟩
    · simp only [unblk_ret, toEnd_ret, exEnd_ret, nth_zero, nth_succ, bs, hn, mkRes_one]
      exact .some rfl
    · simp only [unblk_self, toEnd_nrm, bs, lens98 hx, lens98 hy, dBin_lss]
      subst hv
      by_cases h1 : x.length < y.length
      · have d1 : decide ((x.length : Int) < (y.length : Int)) = true := decide_eq_true (by omega)
        simp only [d1, dIf_bool, if_true, h1, mkRes_one]
        exact .some rfl
      · have d1 : decide ((x.length : Int) < (y.length : Int)) = false := decide_eq_false (by omega)
        simp only [d1, dIf_bool, Bool.false_eq_true, if_false, h1, mkRes_one]
        exact .some rfl
theorem s1183 (x y : List Str) (dx dy : D) (h : Hp) (hx : SlOf 1 (fun s => [D.str s]) x dx) (hy : SlOf 1 (fun s => [D.str s]) y dy) (hl : x.length ≤ 1000000) (hl2 : y.length ≤ 1000000) : R fn1183 [dx, dy] h = some (.int .i64 (kcmp x y), h) := by
  rw [e1183]
  simp only [F1183, bs, s1189 x y dx dy h hx hy hl hl2, mkRes_one]
theorem s1185 (x y : List Str) (dx dy : D) (h : Hp) (hx : SlOf 1 (fun s => [D.str s]) x dx) (hy : SlOf 1 (fun s => [D.str s]) y dy) (hl : x.length ≤ 1000000) (hl2 : y.length ≤ 1000000) : R fn1185 [dx, dy] h = some (.int .i64 (kcmp x y), h) := by
  suffices Wp (R fn1185 [dx, dy] h) (fun p => p = (.int .i64 (kcmp x y), h)) by
    obtain ⟨p, h1, rfl⟩ := this
    exact h1
  rw [e1185]
  simp only [F1185, bs, Option.bind_assoc]
  generalize hV : kcmp x y = V
  refine Wp.loop (fun k ds g => g = h ∧ ∃ a b c d, ∃ i : Nat, ds = [a, .int .i64 i, b, c, d] ∧ k + i = x.length ∧ i ≤ y.length ∧ kcmp (x.drop i) (y.drop i) = V)
    (fun r => r.2.2 = h ∧ ((r.1 = .ret ∧ nth 0 r.2.1 = .int .i64 V) ∨ (r.1 = .ext 0 ∧ V = if x.length < y.length then -1 else if x.length > y.length then 1 else 0))) x.length ⟨rfl, _, _, _, _, 0, rfl, by omega, by omega, hV⟩ ?_ ?_
  · rintro k ds g ⟨rfl, a, b, c, d, i, rfl, hk, hi, hV⟩
    simp only [F1185_L0, nth_zero, nth_succ, bs, Option.bind_assoc, lens98 hx, lens98 hy, dBin_lss]
    by_cases h0 : i < x.length
    · have d0 : decide ((i : Int) < (x.length : Int)) = true := decide_eq_true (by omega)
      obtain ⟨u, hu⟩ : ∃ u, x[i]? = some u := ⟨_, List.getElem?_eq_getElem h0⟩
      have hw : IntKind.wrap .i64 ((i : Int) + 1) = ((i + 1 : Nat) : Int) := by rw [wrap_i64 (by omega) (by omega)]; omega
      rw [drop_cons hu] at hV
      by_cases h1 : i < y.length
      · obtain ⟨v, hv⟩ : ∃ v, y[i]? = some v := ⟨_, List.getElem?_eq_getElem h1⟩
        have d1 : decide ((i : Int) < (y.length : Int)) = true := decide_eq_true (by omega)
        rw [drop_cons hv] at hV
        unfold kcmp at hV
        simp only [d0, gd_bool, if_true, bs, lens98 hx, lens98 hy, dBin_lss, d1, dPick_bool, dIf_bool, ixs98 hx, ixs98 hy, Int.natCast_nonneg, Int.toNat_natCast, hu, hv, Option.map_some, str_ld, dBin_slss, dBin_lss, sgtr]
        by_cases h2 : Op.bytesLess u v = true
        · have hc : cmpS u v = -1 := by simp [-Option.bind_some, cmpS, h2]
          rw [if_neg (by omega), hc] at hV
          simp only [h2, dIf_bool, if_true]
          exact .some (.inr ⟨by simp [-Option.bind_some], rfl, .inl ⟨rfl, by rw [← hV]; rfl⟩⟩)
        · have h2 : Op.bytesLess u v = false := by simpa [-Option.bind_some] using h2
          by_cases h3 : u = v
          · subst h3
            rw [if_pos ((cmpS_zero u u).2 rfl)] at hV
            simp only [h2, dIf_bool, Bool.false_eq_true, if_false, beq_self_eq_true, Bool.or_true, Bool.not_true, dBin_add, hw, bs]
            exact .some (.inl ⟨rfl, k - 1, by omega, rfl, _, _, _, _, i + 1, rfl, by omega, by omega, hV⟩)
          · have hb : (u == v) = false := by simpa [-Option.bind_some] using h3
            have hc : cmpS u v = 1 := by simp [-Option.bind_some, cmpS, h2, h3]
            rw [if_neg (by omega), hc] at hV
            simp only [h2, hb, dIf_bool, Bool.false_eq_true, if_false, Bool.or_self, Bool.not_false, if_true]
            exact .some (.inr ⟨by simp [-Option.bind_some], rfl, .inl ⟨rfl, by rw [← hV]; rfl⟩⟩)
      · have d1 : decide ((i : Int) < (y.length : Int)) = false := decide_eq_false (by omega)
        rw [List.drop_of_length_le (show y.length ≤ i by omega)] at hV
        simp only [d0, gd_bool, if_true, bs, lens98 hx, lens98 hy, dBin_lss, d1, dPick_bool, dIf_bool, Bool.false_eq_true, if_false]
        refine .some (.inr ⟨by simp [-Option.bind_some], rfl, .inr ⟨rfl, ?_⟩⟩)
        rw [← hV, if_neg (by omega), if_pos (by omega)]; rfl
    · have h0 : i = x.length := by omega
      subst h0
      have d0 : decide ((x.length : Int) < (x.length : Int)) = false := decide_eq_false (by omega)
      simp only [d0, gd_bool, reduceCtorEq, if_false, bs, dPick_bool, dIf_bool, Bool.false_eq_true]
      refine .some (.inr ⟨by simp [-Option.bind_some], rfl, .inr ⟨rfl, ?_⟩⟩)
      rw [List.drop_length] at hV
      rw [← hV]
      by_cases h1 : x.length < y.length
      · obtain ⟨v, hv⟩ : ∃ v, y[x.length]? = some v := ⟨_, List.getElem?_eq_getElem h1⟩
        rw [drop_cons hv, if_pos h1]; rfl
      · rw [List.drop_of_length_le (by omega), if_neg h1, if_neg (by omega)]; rfl
  · rintro ⟨ex, ds, g⟩ ⟨h1, h2⟩
    simp only at h1 h2
    subst h1
    rcases h2 with ⟨rfl, hn⟩ | ⟨rfl, hv⟩
    · simp only [unblk_ret, toEnd_ret, exEnd_ret, nth_zero, nth_succ, bs, hn, mkRes_one]
      exact .some rfl
    · simp only [unblk_self, toEnd_nrm, bs, lens98 hx, lens98 hy, dBin_lss, dBin_gtr]
      subst hv
      by_cases h1 : x.length < y.length
      · have d1 : decide ((x.length : Int) < (y.length : Int)) = true := decide_eq_true (by omega)
        simp only [d1, dIf_bool, if_true, h1, mkRes_one]
        exact .some rfl
      · have d1 : decide ((x.length : Int) < (y.length : Int)) = false := decide_eq_false (by omega)
        by_cases h2 : x.length > y.length
        · have d2 : decide ((x.length : Int) > (y.length : Int)) = true := decide_eq_true (by omega)
          simp only [d1, d2, dIf_bool, Bool.false_eq_true, if_false, if_true, h1, h2, mkRes_one]
          exact .some rfl
        · have d2 : decide ((x.length : Int) > (y.length : Int)) = false := decide_eq_false (by omega)
          simp only [d1, d2, dIf_bool, Bool.false_eq_true, if_false, h1, h2, mkRes_one]
          exact .some rfl
/-- The first number of a row. -/
def rnum (r : Rw) : Int := r.n.head?.getD 0
theorem rwF0 (r : Rw) : dFieldAddr tab ty1146 0 (.fptr (rowr r)) = some (.fptr (rowr r)) := id rfl
theorem rwF1 (r : Rw) : dFieldAddr tab ty1146 1 (.fptr (rowr r)) = some (.fptr [r.nd, .int .i64 r.er]) := id rfl
theorem rwF2 (r : Rw) : dFieldAddr tab ty1146 2 (.fptr (rowr r)) = some (.fptr [.int .i64 r.er]) := id rfl
theorem rwL0 (r : Rw) (h : Hp) : dLoad tab h ty98 (.fptr (rowr r)) = some r.kd := by
  have h1 := slof_one r.hk
  show dLoad tab h ty98 (.fptr [r.kd, r.nd, .int .i64 r.er]) = _
  generalize r.kd = a at h1
  cases a <;> first | rfl | (simp [-Option.bind_some, D.one] at h1)
theorem rwL1 (r : Rw) (h : Hp) : dLoad tab h ty82 (.fptr [r.nd, .int .i64 r.er]) = some r.nd := by
  have h1 := slof_one r.hn
  generalize r.nd = a at h1
  cases a <;> first | rfl | (simp [-Option.bind_some, D.one] at h1)
theorem rwL2 (r : Rw) (h : Hp) : dLoad tab h ty3 (.fptr [.int .i64 r.er]) = some (.int .i64 r.er) := id rfl
theorem rwL (r : Rw) (h : Hp) : dLoad tab h ty1146 (.fptr (rowr r)) = some (.agg (rowr r)) := id rfl
theorem rwBox (r : Rw) : pBoxF (.agg (rowr r)) = some (.fptr (rowr r)) := pBoxF_agg _
theorem inr_ld (n : Int) (h : Hp) : dLoad tab h ty3 (.fptr [.int .i64 n]) = some (.int .i64 n) := id rfl
theorem s1182 (r : Rw) (h : Hp) : R fn1182 [.agg (rowr r)] h = some (.int .i64 (rnum r), h) := by
  rw [e1182]
  simp only [F1182, rwBox, bs, rwF1, rwL1, lens82 r.hn, dBin_eql]
  have hn := r.hn
  unfold rnum
  cases hq : r.n with
  | nil => simp only [List.length_nil, Int.natCast_zero, decide_true, dIf_bool, if_true, mkRes_one, List.head?_nil, Option.getD_none]
  | cons z zs =>
    have d0 : decide (((z :: zs).length : Int) = 0) = false := decide_eq_false (by simp [-Option.bind_some]; omega)
    have hi := ixs82 hn 0
    rw [hq] at hi
    simp only [d0, dIf_bool, Bool.false_eq_true, if_false, bs, hi, Int.le_refl, if_true, Int.toNat_zero, List.getElem?_cons_zero, Option.map_some, inr, inr_ld, mkRes_one, List.head?_cons, Option.getD_some]
/-- Which row comes first. -/
def cR (x y : Rw) : Int := if cmpI (rnum y) (rnum x) = 0 then kcmp x.k y.k else cmpI (rnum y) (rnum x)
theorem s1181 (x y : Rw) (h : Hp) : R fn1181 [.agg (rowr x), .agg (rowr y)] h = some (.int .i64 (cR x y), h) := by
  rw [e1181]
  have hs : SlOf 1 inr [cmpI (rnum y) (rnum x), kcmp x.k y.k] (.sl 1 true [[.int .i64 (cmpI (rnum y) (rnum x))], [.int .i64 (kcmp x.k y.k)]]) := .inr ⟨true, rfl⟩
  have ho : orI [cmpI (rnum y) (rnum x), kcmp x.k y.k] = cR x y := by
    unfold orI orI orI cR
    split
    · split
      · rename_i h2; exact h2.symm
      · rfl
    · rfl
  simp only [F1181, rwBox, bs, rwL, s1182, s90, rwF0, rwL0, s1183 x.k y.k x.kd y.kd h x.hk y.hk x.hkl y.hkl, bs82_2, s89 _ _ h hs (by simp [-Option.bind_some]), ho, chk_true, mkRes_one]
theorem c1181 : CmpFR (.fn (.func fn1181) [] []) cR := fun x y g => by rw [callV_some]; exact s1181 x y g
/-- In order. -/
def rS (x y : Rw) : Prop := ¬ cR y x < 0
theorem cmpI_zero (a b : Int) : cmpI a b = 0 ↔ a = b := by
  unfold cmpI
  by_cases h : a < b
  · simp [-Option.bind_some, h]; omega
  · by_cases h2 : b < a
    · simp [-Option.bind_some, h, h2]; omega
    · simp [-Option.bind_some, h, h2]; omega
theorem cmpI_lt (a b : Int) : cmpI a b < 0 ↔ a < b := by
  unfold cmpI
  by_cases h : a < b
  · simp [-Option.bind_some, h]
  · by_cases h2 : b < a
    · simp [-Option.bind_some, h, h2]
    · simp [-Option.bind_some, h, h2]
theorem cR_lt (x y : Rw) : cR x y < 0 ↔ (rnum y < rnum x ∨ (rnum x = rnum y ∧ kcmp x.k y.k < 0)) := by
  unfold cR
  by_cases h : cmpI (rnum y) (rnum x) = 0
  · rw [if_pos h]
    rw [cmpI_zero] at h
    constructor
    · intro h2; exact .inr ⟨h.symm, h2⟩
    · rintro (h2 | ⟨_, h2⟩)
      · omega
      · exact h2
  · rw [if_neg h, cmpI_lt]
    rw [cmpI_zero] at h
    constructor
    · intro h2; exact .inl h2
    · rintro (h2 | ⟨h2, _⟩)
      · exact h2
      · exact absurd h2.symm h
theorem rS_iff (x y : Rw) : rS x y ↔ (rnum y < rnum x ∨ (rnum x = rnum y ∧ kcmp x.k y.k ≤ 0)) := by
  unfold rS
  rw [cR_lt, kcmp_neg]
  omega
theorem kle_tr {x y z : List Str} (h : kcmp x y ≤ 0) (k : kcmp y z ≤ 0) : kcmp x z ≤ 0 := by
  by_cases h1 : kcmp x y = 0
  · rw [kcmp_zero] at h1; subst h1; exact k
  · by_cases k1 : kcmp y z = 0
    · rw [kcmp_zero] at k1; subst k1; exact h
    · exact Int.le_of_lt (kcmp_tr (show kcmp x y < 0 by omega) (show kcmp y z < 0 by omega))
theorem rS_od : SOrd cR rS (fun _ _ => True) where
  tr := fun x y z h k => by
    rw [rS_iff] at *
    rcases h with h | ⟨h, h2⟩
    · rcases k with k | ⟨k, k2⟩
      · left; omega
      · left; omega
    · rcases k with k | ⟨k, k2⟩
      · left; omega
      · right; exact ⟨by omega, kle_tr h2 k2⟩
  lt := fun x y _ h => by
    unfold rS
    rw [cR_lt] at *
    have := kcmp_neg x.k y.k
    omega
  ge := fun x y _ h => h
theorem rS_anti {x y : Rw} (h : rS x y) (k : rS y x) : x.k = y.k := by
  rw [rS_iff] at h k
  rw [kcmp_neg] at k
  rw [← kcmp_zero]
  omega
/-- One order alone, when the keys differ. -/
theorem rS_uniq : ∀ {C E : List Rw}, C.Pairwise rS → E.Pairwise rS → C.Perm E → (C.map Rw.k).Nodup → C = E
  | [], E, _, _, hp, _ => by rw [List.nil_perm.1 hp]
  | x :: C, [], _, _, hp, _ => by cases List.perm_nil.1 hp
  | x :: C, y :: E, hC, hE, hp, hn => by
    rw [List.pairwise_cons] at hC hE
    rw [List.map_cons, List.nodup_cons] at hn
    have hxy : x = y := by
      apply Classical.byContradiction
      intro hne
      have hx : x ∈ E := by
        have : x ∈ y :: E := hp.mem_iff.1 (by simp [-Option.bind_some])
        rcases List.mem_cons.1 this with h | h
        · exact absurd h hne
        · exact h
      have hy : y ∈ C := by
        have : y ∈ x :: C := hp.mem_iff.2 (by simp [-Option.bind_some])
        rcases List.mem_cons.1 this with h | h
        · exact absurd h.symm hne
        · exact h
      have := rS_anti (hC.1 y hy) (hE.1 x hx)
      exact hn.1 (by rw [this]; exact List.mem_map.2 ⟨y, hy, rfl⟩)
    subst hxy
    rw [rS_uniq hC.2 hE.2 ((List.perm_cons x).1 hp) hn.2]
/-- Rows that can be read here. -/
def RdR (h : Hp) (l : List Rw) (d : D) : Prop := SlOf 3 rowr l d ∨ ∃ ob, d = .msl 3 ob 0 l.length ∧ h[ob]? = some (.row ty1146 3 (l.map rowr))
theorem rdR_rows {h : Hp} {l : List Rw} {d : D} (hd : RdR h l d) : dRowsOf h 3 d = some (l.map rowr) := by
  rcases hd with hd | ⟨ob, rfl, ho⟩
  · exact slof_rows h hd
  · have e : (List.take l.length (l.map rowr)) = l.map rowr := List.take_of_length_le (by simp [-Option.bind_some])
    simp [-Option.bind_some, dRowsOf, ho, e]
theorem rdR_len {h : Hp} {l : List Rw} {d : D} (hd : RdR h l d) : dLenT tab ty1144 d = some (.int .i64 l.length) := by
  rcases hd with hd | ⟨ob, rfl, _⟩
  · exact lens1144 hd
  · exact lenm1144 _ _ _ _
theorem RdR.own {h : Hp} {n0 : Nat} {l : List Rw} {d : D} (ow : Own h n0 ty1146 3 (l.map rowr) d) : RdR h l d := by
  rcases ow with ⟨rfl, hn⟩ | ⟨o, _, rfl, hg⟩
  · exact .inl (.inl ⟨rfl, by simpa [-Option.bind_some] using hn⟩)
  · exact .inr ⟨o, by rw [List.length_map], hg⟩
theorem u1179 (l : List Rw) (d : D) (h : Hp) (hd : RdR h l d) (hl : l.length ≤ 1000000) : ∃ d' h', R fn1179 [d] h = some (d', h') ∧ h.length ≤ h'.length ∧ (∀ q, q < h.length → h'[q]? = h[q]?) ∧
    ((l = [] ∧ SlOf 3 rowr [] d') ∨ ∃ ob, h.length ≤ ob ∧ d' = .msl 3 ob 0 l.length ∧ h'[ob]? = some (.row ty1146 3 (l.map rowr))) := by
  rw [e1179]
  have hrow := rdR_rows hd
  by_cases hn : d = .nils
  · subst hn
    have hl0 : l = [] := by
      rcases hd with (⟨_, h2⟩ | ⟨b, h2⟩) | ⟨ob, h2, _⟩
      · simpa [-Option.bind_some] using h2
      · cases h2
      · cases h2
    subst hl0
    exact ⟨.nils, h, by
      have hne : dBin tab .eql ty1144 .nils .nils = some (.bool true) := id rfl
      simp [-Option.bind_some, F1179, hne], Nat.le_refl _, fun _ _ => rfl, .inl ⟨rfl, .nils _ _⟩⟩
  · obtain ⟨x', h', e, hl', hq, ho⟩ := app_full (T := tab) (t := ty1144) (i := ti1144) (j := ti1146) (h := h) (id rfl) (id rfl) (id rfl) (by decide) (y := d) hrow (lim_ok (by have : ti1146.by_ = 56 := rfl; rw [this, List.length_map]; omega) (by rw [List.length_map]; omega))
    have e' : dAppend tab h ty1144 ty1144 (.sl 3 true []) d = some (x', h') := e
    have hne : dBin tab .eql ty1144 d .nils = some (.bool false) := by
      rcases hd with (⟨h2, _⟩ | ⟨b, rfl⟩) | ⟨ob, rfl, _⟩
      · exact absurd h2 hn
      · exact id rfl
      · exact id rfl
    refine ⟨x', h', ?_, hl', hq, ?_⟩
    · simp only [F1179, bs, hne, dIf_bool, Bool.false_eq_true, if_false, bs1144_0, e', mkRes_one]
    · rcases ho with ⟨rfl, hn⟩ | ⟨rfl, hn⟩ | ⟨ob, h1, rfl, h2⟩
      · have : l = [] := by simpa [-Option.bind_some] using hn
        exact .inl ⟨this, .inr ⟨true, rfl⟩⟩
      · have : l = [] := by simpa [-Option.bind_some] using hn
        exact .inl ⟨this, .nils _ _⟩
      · exact .inr ⟨ob, h1, by rw [List.length_map]; rfl, h2⟩
theorem s1180e (d cmp : D) (h : Hp) (hd : SlOf 3 rowr [] d) : ∃ x, R fn1180 [d, cmp] h = some (x, h) := by
  have hl : dLenT tab ty1144 d = some (.int .i64 0) := lens1144 hd
  have h65 : ∃ x, R fn1192 [d, .int .i64 0, .int .i64 0, cmp] h = some (x, h) := by
    rw [e1192]
    refine ⟨mkRes [], ?_⟩
    simp only [F1192, bs, Option.bind_assoc, dBin_add, show IntKind.wrap .i64 ((0 : Int) + 1) = 1 from rfl]
    rw [loopW_eq]
    simp [-Option.bind_some, F1192_L0]
  obtain ⟨x, h65⟩ := h65
  have h63 : ∃ x, R fn1188 [d, .int .i64 0, cmp] h = some (x, h) := by
    rw [e1188]
    refine ⟨mkRes [], ?_⟩
    simp only [F1188, bs, Option.bind_assoc]
    rw [loopW_eq]
    have h20 : ¬ (20 : Int) ≤ 0 := by omega
    have h21 : ¬ (20 : Int) < 0 := by omega
    simp only [F1188_L0, nth_zero, nth_succ, bs, dBin_leq, h20, decide_false, dIf_bool, Bool.false_eq_true, if_false, unblk_self, toEnd_nrm, h65]
    rw [loopW_eq]
    simp only [F1188_L1, nth_zero, nth_succ, bs, dBin_lss, h21, decide_false, dIf_bool, Bool.false_eq_true, if_false, unblk_self, exEnd_nrm]
  obtain ⟨y, h63⟩ := h63
  refine ⟨mkRes [], ?_⟩
  rw [e1180]
  simp only [F1180, bs, hl, h63]
theorem w1180 {cmp : D} (hcmp : CmpFR cmp cR) {o N : Nat} (hN : N ≤ 1000000000) {g : Hp} {l : List Rw} (hl : l.length = N) (ho : g[o]? = some (.row ty1146 3 (l.map rowr))) :
    ∃ d g', ∃ C : List Rw, R fn1180 [.msl 3 o 0 N, cmp] g = some (d, g') ∧ C.Perm l ∧ C.Pairwise rS ∧ g'[o]? = some (.row ty1146 3 (C.map rowr)) ∧ Same o g g' := by
  obtain ⟨⟨d, g'⟩, e, C, q1, q2, q3, q4⟩ := w1188 rS_od hcmp hN hl (List.pairwise_of_forall fun _ _ => trivial) ho
  refine ⟨mkRes [], g', C, ?_, q1, q2, q3, q4⟩
  rw [e1180]
  simp only [F1180, bs, lenm1144, e]
/-- How many of the first. -/
def cutN (n : Int) (k : Nat) : Nat := (min (max n 0) (k : Int)).toNat
theorem cutN_le (n : Int) (k : Nat) : cutN n k ≤ k := by unfold cutN; omega
theorem dMax_i (n : Int) : dMax (.int .i64 n) (.int .i64 0) = some (.int .i64 (max n 0)) := by
  show some (D.int .i64 (if (0 : Int) > n then 0 else n)) = _
  congr 2
  split <;> omega
theorem dMin_i (n : Int) (k : Nat) : dMin (.int .i64 (max n 0)) (.int .i64 (k : Int)) = some (.int .i64 ((cutN n k : Nat) : Int)) := by
  show some (D.int .i64 (if (k : Int) < max n 0 then (k : Int) else max n 0)) = _
  congr 2
  unfold cutN
  split <;> omega
theorem str_frz (n0 : Nat) (h : Hp) (n : Nat) {l : List Str} {d : D} (hd : SlOf 1 (fun s => [D.str s]) l d) : frz n0 h (n + 1) d = d := slof_frz hd fun a _ x hx => by
  simp [-Option.bind_some] at hx; subst hx; exact frz_str _ _ _ _
theorem inr_frz (n0 : Nat) (h : Hp) (n : Nat) {l : List Int} {d : D} (hd : SlOf 1 inr l d) : frz n0 h (n + 1) d = d := slof_frz hd fun a _ x hx => by
  simp [-Option.bind_some, inr] at hx; subst hx; exact frz_int _ _ _ _ _
theorem str_ok (n : Nat) {l : List Str} {d : D} (hd : SlOf 1 (fun s => [D.str s]) l d) : Ok n d := slof_ok hd fun a _ x hx => by
  simp [-Option.bind_some] at hx; subst hx; exact .str _
theorem inr_ok (n : Nat) {l : List Int} {d : D} (hd : SlOf 1 inr l d) : Ok n d := slof_ok hd fun a _ x hx => by
  simp [-Option.bind_some, inr] at hx; subst hx; exact .int _ _
theorem rowr_frz (n0 : Nat) (h : Hp) (n : Nat) (r : Rw) : ∀ d ∈ rowr r, frz n0 h (n + 1) d = d := fun d hd => by
  simp only [rowr, List.mem_cons, List.not_mem_nil, or_false] at hd
  rcases hd with rfl | rfl | rfl
  · exact str_frz _ _ _ r.hk
  · exact inr_frz _ _ _ r.hn
  · exact frz_int _ _ _ _ _
theorem rowr_ok (n : Nat) (r : Rw) : ∀ d ∈ rowr r, Ok n d := fun d hd => by
  simp only [rowr, List.mem_cons, List.not_mem_nil, or_false] at hd
  rcases hd with rfl | rfl | rfl
  · exact str_ok _ r.hk
  · exact inr_ok _ r.hn
  · exact .int _ _
theorem rows_scope {h g : Hp} {o m : Nat} {C : List Rw} (hm : m ≤ C.length) (ho : h.length ≤ o) (hg : g[o]? = some (.row ty1146 3 (C.map rowr))) (hl : h.length ≤ g.length) (hb : ∀ q, q < h.length → g[q]? = h[q]?) :
    scope h g (.msl 3 o 0 m) = some (.sl 3 false ((C.take m).map rowr), h) := by
  refine scope_eq ?_ ?_ hl hb
  · rw [frz_msl ho hg, List.drop_zero, ← List.map_take]
    rw [map_id_of fun row hrow => map_id_of fun d hd => by
      obtain ⟨r, _, rfl⟩ := List.mem_map.1 hrow
      exact rowr_frz _ _ _ r d hd]
  · exact slof_ok (SlOf.mk _ _ _ _) fun r _ => rowr_ok _ r
/-- Exact of package topn. -/
theorem s1172 (l : List Rw) (d : D) (n : Int) (h : Hp) (hd : RdR h l d) (hl : l.length ≤ 1000000) : ∃ C : List Rw, ∃ d', R fn1172 [d, .int .i64 n] h = some (d', h) ∧ C.Perm l ∧ C.Pairwise rS ∧ SlOf 3 rowr (C.take (cutN n l.length)) d' := by
  rw [e1172]
  obtain ⟨d1, h1, e1, hl1, hb1, hd1⟩ := u1179 l d h hd hl
  rcases hd1 with ⟨rfl, hd1⟩ | ⟨ob, hob, rfl, ho⟩
  · obtain ⟨x, hx⟩ := s1180e d1 (.fn (.func fn1181) [] []) h1 hd1
    have hcut : cutN n ([] : List Rw).length = 0 := by have := cutN_le n ([] : List Rw).length; simpa [-Option.bind_some] using this
    obtain ⟨d2, e2, hd2⟩ := slh1144 hd1 (k := .i64) (n := ((0 : Nat) : Int)) (by omega) (by simp [-Option.bind_some])
    have hsc : scope h h1 d2 = some (d2, h) := scope_eq (slof_frz hd2 fun a ha => by simp [-Option.bind_some] at ha) (slof_ok hd2 fun a ha => by simp [-Option.bind_some] at ha) hl1 hb1
    refine ⟨[], d2, ?_, List.Perm.refl _, List.Pairwise.nil, by simpa [-Option.bind_some] using hd2⟩
    have hmin := dMin_i n 0
    rw [show cutN n 0 = 0 from hcut] at hmin
    simp only [F1172, bs, e1, hx, e1184, F1184, dMax_i, lens1144 hd1, List.length_nil, hmin, e2, mkRes_one, hsc]
  · obtain ⟨x, h2, C, q1, q2, q3, q4, q5⟩ := w1180 c1181 (o := ob) (N := l.length) (by omega) rfl ho
    have hmin := dMin_i n l.length
    have hcut := cutN_le n l.length
    have hslice : dSliceAt tab ty1144 false true false [.msl 3 ob 0 l.length, .int .i64 ((cutN n l.length : Nat) : Int)] = some (.msl 3 ob 0 (cutN n l.length)) := msl_hi (T := tab) (t := ty1144) (i := ti1144) (j := ti1146) (id rfl) (id rfl) (id rfl) (id rfl) (by decide) hcut
    have hsc := rows_scope (m := cutN n l.length) (C := C) (by rw [q2.length_eq]; exact hcut) hob q4 (by have := q5.1; omega) (fun q hq => (q5.2 q (by omega)).trans (hb1 q hq))
    refine ⟨C, .sl 3 false ((C.take (cutN n l.length)).map rowr), ?_, q2, q3, .mk _ _ _ _⟩
    simp only [F1172, bs, e1, q1, e1184, F1184, dMax_i, lenm1144, hmin, hslice, mkRes_one, hsc]
theorem list_split {α : Type} [BEq α] [LawfulBEq α] {x y : List α} {i : Nat} {u v : α} (hu : x[i]? = some u) (hv : y[i]? = some v) : (x.drop i == y.drop i) = ((u == v) && (x.drop (i + 1) == y.drop (i + 1))) := by
  rw [drop_cons hu, drop_cons hv]; rfl
theorem s1177 (x y : List Str) (dx dy : D) (h : Hp) (hx : SlOf 1 (fun s => [D.str s]) x dx) (hy : SlOf 1 (fun s => [D.str s]) y dy) (hl : x.length ≤ 1000000) : R fn1177 [dx, dy] h = some (.bool (x == y), h) := by
  suffices Wp (R fn1177 [dx, dy] h) (fun p => p = (.bool (x == y), h)) by
    obtain ⟨p, h1, rfl⟩ := this
    exact h1
  rw [e1177]
  simp only [F1177, bs, Option.bind_assoc, lens98 hx, lens98 hy, dBin_neq]
  by_cases hne : x.length = y.length
  case neg =>
    have d0 : decide ((x.length : Int) ≠ (y.length : Int)) = true := decide_eq_true (by omega)
    have hb : (x == y) = false := by
      cases hq : x == y
      · rfl
      · exact absurd (congrArg List.length (eq_of_beq hq)) hne
    simp only [d0, dIf_bool, if_true, mkRes_one, hb]
    exact .some rfl
  have d0 : decide ((x.length : Int) ≠ (y.length : Int)) = false := decide_eq_false (by omega)
  simp only [d0, dIf_bool, Bool.false_eq_true, if_false]
  generalize hV : (x == y) = V
  refine Wp.loop (fun k ds g => g = h ∧ ∃ a b c, ∃ i : Nat, ds = [a, .int .i64 i, b, c] ∧ k + i = x.length ∧ (x.drop i == y.drop i) = V)
    (fun r => r.2.2 = h ∧ ((r.1 = .ret ∧ nth 0 r.2.1 = .bool false ∧ V = false) ∨ (r.1 = .ext 0 ∧ V = true))) x.length ⟨rfl, _, _, _, 0, rfl, by omega, hV⟩ ?_ ?_
  · rintro k ds g ⟨rfl, a, b, c, i, rfl, hk, hV⟩
    simp only [F1177_L0, nth_zero, nth_succ, bs, Option.bind_assoc, lens98 hx, dBin_lss]
    refine Wp.dif ?_ ?_
    · intro h0
      have h0 : i < x.length := by have : (i : Int) < x.length := by simpa [-Option.bind_some] using h0
                                   omega
      obtain ⟨u, hu⟩ : ∃ u, x[i]? = some u := ⟨_, List.getElem?_eq_getElem h0⟩
      obtain ⟨v, hv⟩ : ∃ v, y[i]? = some v := ⟨_, List.getElem?_eq_getElem (by omega)⟩
      have hw : IntKind.wrap .i64 ((i : Int) + 1) = ((i + 1 : Nat) : Int) := by rw [wrap_i64 (by omega) (by omega)]; omega
      rw [list_split hu hv] at hV
      simp only [ixs98 hx, ixs98 hy, Int.natCast_nonneg, if_true, Int.toNat_natCast, hu, hv, Option.map_some, bs, str_ld, dBin_sneq]
      cases hb : (u == v)
      · rw [hb] at hV
        simp only [Bool.not_false, dIf_bool, if_true]
        exact .some (.inr ⟨by simp [-Option.bind_some], rfl, .inl ⟨rfl, rfl, hV.symm⟩⟩)
      · rw [hb] at hV
        simp only [Bool.not_true, dIf_bool, Bool.false_eq_true, if_false, dBin_add, hw, bs]
        exact .some (.inl ⟨rfl, k - 1, by omega, rfl, _, _, _, i + 1, rfl, by omega, hV⟩)
    · intro h0
      have h0 : x.length ≤ i := by have : ¬ (i : Int) < x.length := by simpa [-Option.bind_some] using h0
                                   omega
      rw [List.drop_of_length_le h0, List.drop_of_length_le (by omega)] at hV
      exact .some (.inr ⟨by simp [-Option.bind_some], rfl, .inr ⟨rfl, hV.symm⟩⟩)
  · rintro ⟨ex, ds, g⟩ ⟨h1, h2⟩
    simp only at h1 h2
    subst h1
    rcases h2 with ⟨rfl, hn, rfl⟩ | ⟨rfl, rfl⟩
    · simp only [unblk_ret, toEnd_ret, exEnd_ret, nth_zero, nth_succ, bs, hn, mkRes_one]
      exact .some rfl
    · simp only [unblk_self, toEnd_nrm, bs, mkRes_one]
      exact .some rfl
theorem s1178 (x y : List Int) (dx dy : D) (h : Hp) (hx : SlOf 1 inr x dx) (hy : SlOf 1 inr y dy) (hl : x.length ≤ 1000000) : R fn1178 [dx, dy] h = some (.bool (x == y), h) := by
  suffices Wp (R fn1178 [dx, dy] h) (fun p => p = (.bool (x == y), h)) by
    obtain ⟨p, h1, rfl⟩ := this
    exact h1
  rw [e1178]
  simp only [F1178, bs, Option.bind_assoc, lens82 hx, lens82 hy, dBin_neq]
  by_cases hne : x.length = y.length
  case neg =>
    have d0 : decide ((x.length : Int) ≠ (y.length : Int)) = true := decide_eq_true (by omega)
    have hb : (x == y) = false := by
      cases hq : x == y
      · rfl
      · exact absurd (congrArg List.length (eq_of_beq hq)) hne
    simp only [d0, dIf_bool, if_true, mkRes_one, hb]
    exact .some rfl
  have d0 : decide ((x.length : Int) ≠ (y.length : Int)) = false := decide_eq_false (by omega)
  simp only [d0, dIf_bool, Bool.false_eq_true, if_false]
  generalize hV : (x == y) = V
  refine Wp.loop (fun k ds g => g = h ∧ ∃ a b c, ∃ i : Nat, ds = [a, .int .i64 i, b, c] ∧ k + i = x.length ∧ (x.drop i == y.drop i) = V)
    (fun r => r.2.2 = h ∧ ((r.1 = .ret ∧ nth 0 r.2.1 = .bool false ∧ V = false) ∨ (r.1 = .ext 0 ∧ V = true))) x.length ⟨rfl, _, _, _, 0, rfl, by omega, hV⟩ ?_ ?_
  · rintro k ds g ⟨rfl, a, b, c, i, rfl, hk, hV⟩
    simp only [F1178_L0, nth_zero, nth_succ, bs, Option.bind_assoc, lens82 hx, dBin_lss]
    refine Wp.dif ?_ ?_
    · intro h0
      have h0 : i < x.length := by have : (i : Int) < x.length := by simpa [-Option.bind_some] using h0
                                   omega
      obtain ⟨u, hu⟩ : ∃ u, x[i]? = some u := ⟨_, List.getElem?_eq_getElem h0⟩
      obtain ⟨v, hv⟩ : ∃ v, y[i]? = some v := ⟨_, List.getElem?_eq_getElem (by omega)⟩
      have hw : IntKind.wrap .i64 ((i : Int) + 1) = ((i + 1 : Nat) : Int) := by rw [wrap_i64 (by omega) (by omega)]; omega
      rw [list_split hu hv] at hV
      simp only [ixs82 hx, ixs82 hy, Int.natCast_nonneg, if_true, Int.toNat_natCast, hu, hv, Option.map_some, bs, inr, inr_ld, dBin_neq]
      by_cases hb : u = v
      · have hb' : (u == v) = true := by simpa [-Option.bind_some] using hb
        rw [hb'] at hV
        simp only [hb, ne_eq, not_true, decide_false, dIf_bool, Bool.false_eq_true, if_false, dBin_add, hw, bs]
        exact .some (.inl ⟨rfl, k - 1, by omega, rfl, _, _, _, i + 1, rfl, by omega, hV⟩)
      · have hb' : (u == v) = false := by simpa [-Option.bind_some] using hb
        rw [hb'] at hV
        simp only [hb, ne_eq, not_false_eq_true, decide_true, dIf_bool, if_true]
        exact .some (.inr ⟨by simp [-Option.bind_some], rfl, .inl ⟨rfl, rfl, hV.symm⟩⟩)
    · intro h0
      have h0 : x.length ≤ i := by have : ¬ (i : Int) < x.length := by simpa [-Option.bind_some] using h0
                                   omega
      rw [List.drop_of_length_le h0, List.drop_of_length_le (by omega)] at hV
      exact .some (.inr ⟨by simp [-Option.bind_some], rfl, .inr ⟨rfl, hV.symm⟩⟩)
  · rintro ⟨ex, ds, g⟩ ⟨h1, h2⟩
    simp only at h1 h2
    subst h1
    rcases h2 with ⟨rfl, hn, rfl⟩ | ⟨rfl, rfl⟩
    · simp only [unblk_ret, toEnd_ret, exEnd_ret, nth_zero, nth_succ, bs, hn, mkRes_one]
      exact .some rfl
    · simp only [unblk_self, toEnd_nrm, bs, mkRes_one]
      exact .some rfl
/-- What a row says. -/
def rcont (r : Rw) : List Str × List Int × Int := (r.k, r.n, r.er)
/-- SameRows, for rows that say the same. -/
theorem s1171 (l m : List Rw) (dl dm : D) (h : Hp) (hd : SlOf 3 rowr l dl) (he : SlOf 3 rowr m dm) (hs : l.map rcont = m.map rcont) (hl : l.length ≤ 1000000) : R fn1171 [dl, dm] h = some (.bool true, h) := by
  suffices Wp (R fn1171 [dl, dm] h) (fun p => p = (.bool true, h)) by
    obtain ⟨p, h1, rfl⟩ := this
    exact h1
  have hlen : l.length = m.length := by simpa [-Option.bind_some] using congrArg List.length hs
  rw [e1171]
  have d0 : decide ((l.length : Int) ≠ (m.length : Int)) = false := decide_eq_false (by omega)
  simp only [F1171, bs, Option.bind_assoc, lens1144 hd, lens1144 he, dBin_neq, d0, dIf_bool, Bool.false_eq_true, if_false]
  refine Wp.loop (fun k ds g => g = h ∧ ∃ a b c, ∃ i : Nat, ds = [a, .int .i64 i, b, c] ∧ k + i = l.length)
    (fun r => r.2.2 = h ∧ r.1 = .ext 0) l.length ⟨rfl, _, _, _, 0, rfl, rfl⟩ ?_ ?_
  · rintro k ds g ⟨rfl, a, b, c, i, rfl, hk⟩
    simp only [F1171_L0, nth_zero, nth_succ, bs, Option.bind_assoc, lens1144 hd, dBin_lss]
    refine Wp.dif ?_ ?_
    · intro h0
      have h0 : i < l.length := by have : (i : Int) < l.length := by simpa [-Option.bind_some] using h0
                                   omega
      obtain ⟨u, hu⟩ : ∃ u, l[i]? = some u := ⟨_, List.getElem?_eq_getElem h0⟩
      obtain ⟨v, hv⟩ : ∃ v, m[i]? = some v := ⟨_, List.getElem?_eq_getElem (by omega)⟩
      have hw : IntKind.wrap .i64 ((i : Int) + 1) = ((i + 1 : Nat) : Int) := by rw [wrap_i64 (by omega) (by omega)]; omega
      have hc : rcont u = rcont v := by
        have := congrArg (fun z : List (List Str × List Int × Int) => z[i]?) hs
        simp only [List.getElem?_map, hu, hv, Option.map_some, Option.some.injEq] at this
        exact this
      simp only [rcont, Prod.mk.injEq] at hc
      obtain ⟨c1, c2, c3⟩ := hc
      have b1 : (u.k == v.k) = true := by rw [c1]; simp [-Option.bind_some]
      have b2 : (u.n == v.n) = true := by rw [c2]; simp [-Option.bind_some]
      simp only [ixs1144 hd, ixs1144 he, Int.natCast_nonneg, if_true, Int.toNat_natCast, hu, hv, Option.map_some, bs, rwF0, rwF1, rwF2, rwL0, rwL1, rwL2, s1177 _ _ _ _ g u.hk v.hk u.hkl, b1, dUn_not, Bool.not_true, gd_bool, gdW_bool, s1178 _ _ _ _ g u.hn v.hn u.hnl, b2, dPick_bool, Bool.false_eq_true, if_false, dBin_neq]
      simp only [c3, ne_eq, not_true, decide_false, dIf_bool, Bool.false_eq_true, if_false, dBin_add, hw, bs]
      exact .some (.inl ⟨rfl, k - 1, by omega, rfl, _, _, _, i + 1, rfl, by omega⟩)
    · intro h0
      exact .some (.inr ⟨by simp [-Option.bind_some], rfl, rfl⟩)
  · rintro ⟨ex, ds, g⟩ ⟨h1, rfl⟩
    simp only at h1
    subst h1
    simp only [unblk_self, toEnd_nrm, bs, mkRes_one]
    exact .some rfl
theorem RdR.keep {h g : Hp} {l : List Rw} {d : D} (hd : RdR h l d) (hk : ∀ q, q < h.length → g[q]? = h[q]?) : RdR g l d := by
  rcases hd with hd | ⟨ob, he, ho⟩
  · exact .inl hd
  · exact .inr ⟨ob, he, by rw [hk ob (List.getElem?_eq_some_iff.1 ho).1]; exact ho⟩
/-- The decimal of a digit. -/
def dig (n : Int) : Str := [UInt8.ofNat (48 + n.toNat)]
theorem s1201 (n : Int) (h : Hp) (h0 : 0 ≤ n) (h9 : n ≤ 9) : R fn1201 [.int .i64 n] h = some (.str (dig n), h) := by
  suffices Wp (R fn1201 [.int .i64 n] h) (fun p => p = (.str (dig n), h)) by
    obtain ⟨p, h1, rfl⟩ := this
    exact h1
  have d0 : decide (n < 0) = false := decide_eq_false (by omega)
  have w1 : IntKind.wrap .u64 n = n := wrap_u64 h0 (by omega)
  have r1 : n.tmod 10 = n := by rw [Int.tmod_eq_emod_of_nonneg h0]; omega
  have q1 : n.tdiv 10 = 0 := by rw [Int.tdiv_eq_ediv_of_nonneg h0]; omega
  have w2 : IntKind.wrap .u64 (48 + n) = 48 + n := wrap_u64 (by omega) (by omega)
  have w3 : IntKind.wrap .u8 (48 + n) = 48 + n := by rw [wrap_u8m]; omega
  have w4 : IntKind.wrap .u64 0 = 0 := wrap_u64 (by omega) (by omega)
  have ap : dAppend tab h ty22 ty22 (.sl 1 true [[.int .u8 (48 + n)]]) .nils = some (.sl 1 true [[.int .u8 (48 + n)]], h) := id rfl
  have ts : dToStr h (.sl 1 true [[.int .u8 (48 + n)]]) = some (.str (dig n)) := by
    have e : (48 + n).toNat = 48 + n.toNat := by omega
    simp [-Option.bind_some, dToStr, dRowsOf, dBytes, dig, e]
  have hsc : scope h h (.str (dig n)) = some (.str (dig n), h) := scope_eq (by simp [-Option.bind_some]) (.str _) (Nat.le_refl _) fun _ _ => rfl
  rw [e1201]
  simp only [F1201, bs, Option.bind_assoc, cv3_1029, w1, dBin_lss, d0, dIf_bool, Bool.false_eq_true, if_false, toEnd_nrm, nth_zero]
  rw [loopW_eq]
  simp only [F1201_L0, nth_zero, nth_succ, bs, dBin_rem, show ¬ (10 : Int) = 0 by omega, if_false, r1, dBin_add, w2, cv1029_5, w3, bs22_1, ap, dBin_quo, q1, w4, dBin_eql, decide_true, dIf_bool, if_true, unblk_self, toEnd_nrm, dBin_lss, d0, Bool.false_eq_true, ts, mkRes_one, hsc]
  exact .some rfl
/-- The value of a name. -/
def valE (e : Ev) (nm : Str) : Str × Bool :=
  if nm = [64, 104, 111, 115, 116] then (dig e.a0, true) else if nm = [64, 116, 114, 97, 99, 101] then (e.s7, true) else if nm = [64, 115, 116, 114, 101, 97, 109] then (e.s8, true) else ((getF e.fs nm).getD [], (getF e.fs nm).isSome)
def nmOK (nm : Str) : Prop := nm ≠ [64, 102, 105, 108, 101] ∧ nm ≠ [64, 116, 105, 109, 101] ∧ nm ≠ [64, 119, 101, 105, 103, 104, 116]
theorem s1197 (e : Ev) (nm : Str) (h : Hp) (h0 : 0 ≤ e.a0) (h9 : e.a0 ≤ 9) (hn : nmOK nm) : R fn1197 [.agg (evr e), .str nm] h = some (.tup [.str (valE e nm).1, .bool (valE e nm).2], h) := by
  have q0 : dFieldAddr tab ty31 0 (.fptr (evr e)) = some (.fptr (evr e)) := id rfl
  have q7 : dFieldAddr tab ty31 7 (.fptr (evr e)) = some (.fptr [.str e.s7, .str e.s8, e.fd]) := id rfl
  have q8 : dFieldAddr tab ty31 8 (.fptr (evr e)) = some (.fptr [.str e.s8, e.fd]) := id rfl
  have q9 : dFieldAddr tab ty31 9 (.fptr (evr e)) = some (.fptr [e.fd]) := id rfl
  have l0 : dLoad tab h ty3 (.fptr (evr e)) = some (.int .i64 e.a0) := id rfl
  have l9 : dLoad tab h ty29 (.fptr [e.fd]) = some e.fd := by
    have h1 := slof_one e.hfd
    generalize e.fd = a at h1
    cases a <;> first | rfl | (simp [-Option.bind_some, D.one] at h1)
  rw [e1197]
  simp only [F1197, pBoxF_agg, bs, dBin_seql, q0, q7, q8, q9, l0]
  unfold valE
  have n1 : (nm == [64, 102, 105, 108, 101]) = false := by simpa [-Option.bind_some] using hn.1
  have n2 : (nm == [64, 116, 105, 109, 101]) = false := by simpa [-Option.bind_some] using hn.2.1
  have n3 : (nm == [64, 119, 101, 105, 103, 104, 116]) = false := by simpa [-Option.bind_some] using hn.2.2
  by_cases c1 : nm = [64, 104, 111, 115, 116]
  · have b1 : (nm == [64, 104, 111, 115, 116]) = true := by simpa [-Option.bind_some] using c1
    rw [if_pos c1]
    simp only [b1, dIf_bool, if_true, s1201 e.a0 h h0 h9, bs, mkRes_two]
  have b1 : (nm == [64, 104, 111, 115, 116]) = false := by simpa [-Option.bind_some] using c1
  by_cases c2 : nm = [64, 116, 114, 97, 99, 101]
  · have b2 : (nm == [64, 116, 114, 97, 99, 101]) = true := by simpa [-Option.bind_some] using c2
    have l7 : dLoad tab h ty9 (.fptr [.str e.s7, .str e.s8, e.fd]) = some (.str e.s7) := id rfl
    rw [if_neg c1, if_pos c2]
    simp only [b1, n1, n2, n3, b2, dIf_bool, Bool.false_eq_true, if_false, if_true, l7, bs, mkRes_two]
  have b2 : (nm == [64, 116, 114, 97, 99, 101]) = false := by simpa [-Option.bind_some] using c2
  by_cases c3 : nm = [64, 115, 116, 114, 101, 97, 109]
  · have b3 : (nm == [64, 115, 116, 114, 101, 97, 109]) = true := by simpa [-Option.bind_some] using c3
    have l8 : dLoad tab h ty9 (.fptr [.str e.s8, e.fd]) = some (.str e.s8) := id rfl
    rw [if_neg c1, if_neg c2, if_pos c3]
    simp only [b1, n1, n2, n3, b2, b3, dIf_bool, Bool.false_eq_true, if_false, if_true, l8, bs, mkRes_two]
  have b3 : (nm == [64, 115, 116, 114, 101, 97, 109]) = false := by simpa [-Option.bind_some] using c3
  rw [if_neg c1, if_neg c2, if_neg c3]
  simp only [b1, n1, n2, n3, b2, b3, dIf_bool, Bool.false_eq_true, if_false, l9, bs, s76 _ _ _ h e.hfd e.hl, getD', dExtract_tup, List.getElem?_cons_zero, List.getElem?_cons_succ, mkRes_two]
theorem getF_none {l : List (Str × Str)} (hl : FsOK l) : getF l [] = none := by
  unfold getF
  have : l.find? (fun p => p.1 == ([] : Str)) = none := by
    rw [List.find?_eq_none]
    intro p hp
    have hm := hl.1.subset (List.mem_map.2 ⟨p, hp, rfl⟩)
    have := (show ∀ s ∈ lt98_9, (s == ([] : Str)) = false by decide) _ hm
    simpa [-Option.bind_some] using this
  rw [this]; rfl
theorem s1196 (e : Ev) (h : Hp) (h0 : 0 ≤ e.a0) (h9 : e.a0 ≤ 9) (hf : FsOK e.fs) : R fn1196 [.agg (evr e), .str []] h = some (.tup [.int .i64 0, .bool false], h) := by
  have hv : valE e [] = ([], false) := by
    unfold valE
    rw [if_neg (by simp [-Option.bind_some]), if_neg (by simp [-Option.bind_some]), if_neg (by simp [-Option.bind_some]), getF_none hf]; rfl
  rw [e1196]
  have hL : dLoad tab h ty31 (.fptr (evr e)) = some (.agg (evr e)) := id rfl
  simp only [F1196, pBoxF_agg, bs, hL, s1197 e [] h h0 h9 (by unfold nmOK; simp [-Option.bind_some]), hv, dExtract_tup, List.getElem?_cons_zero, List.getElem?_cons_succ, dUn_not, Bool.not_false, dIf_bool, if_true, mkRes_two]
/-- The key of an event. -/
def keyE (ns : List Str) (e : Ev) : List Str := ns.map fun n => (valE e n).1
theorem s1195 (ns : List Str) (dn : D) (e : Ev) (h : Hp) (hd : SlOf 1 (fun s => [D.str s]) ns dn) (hl : ns.length ≤ 1000) (h0 : 0 ≤ e.a0) (h9 : e.a0 ≤ 9) (hn : ∀ n ∈ ns, nmOK n) : ∃ d', R fn1195 [dn, .agg (evr e)] h = some (d', h) ∧ SlOf 1 (fun s => [D.str s]) (keyE ns e) d' := by
  suffices Wp (R fn1195 [dn, .agg (evr e)] h) (fun p => p.2 = h ∧ SlOf 1 (fun s => [D.str s]) (keyE ns e) p.1) by
    obtain ⟨⟨x, h'⟩, h1, rfl, h2⟩ := this
    exact ⟨x, h1, h2⟩
  rw [e1195]
  have hL : ∀ g, dLoad tab g ty31 (.fptr (evr e)) = some (.agg (evr e)) := fun g => id rfl
  simp only [F1195, pBoxF_agg, bs, Option.bind_assoc]
  refine Wp.loop (fun k ds g => ∃ x a b, ∃ i : Nat, ds = [x, .int .i64 (i : Int), a, b] ∧ k + i = ns.length ∧ Own g h.length ty9 1 ((keyE (ns.take i) e).map fun s => [D.str s]) x ∧ h.length ≤ g.length ∧ (∀ q, q < h.length → g[q]? = h[q]?))
    (fun r => r.1 = .ext 0 ∧ ∃ x a b c, r.2.1 = [x, a, b, c] ∧ Own r.2.2 h.length ty9 1 ((keyE ns e).map fun s => [D.str s]) x ∧ h.length ≤ r.2.2.length ∧ (∀ q, q < h.length → r.2.2[q]? = h[q]?)) ns.length
    ⟨_, _, _, 0, rfl, rfl, Own.nils _ _ _ _, Nat.le_refl _, fun _ _ => rfl⟩ ?_ ?_
  · rintro k ds g ⟨x, a, b, i, rfl, hk, ow, hlen, hq⟩
    simp only [F1195_L0, nth_zero, nth_succ, bs, Option.bind_assoc, lens98 hd, dBin_lss]
    refine Wp.dif ?_ ?_
    · intro hlt
      have hlt : i < ns.length := by have : (i : Int) < ns.length := by simpa [-Option.bind_some] using hlt
                                     omega
      obtain ⟨u, hu⟩ : ∃ u, ns[i]? = some u := ⟨_, List.getElem?_eq_getElem hlt⟩
      have hw : IntKind.wrap .i64 ((i : Int) + 1) = ((i + 1 : Nat) : Int) := by rw [wrap_i64 (by omega) (by omega)]; omega
      simp only [hL, ixs98 hd, Int.natCast_nonneg, if_true, Int.toNat_natCast, hu, Option.map_some, bs, str_ld, s1197 e u g h0 h9 (hn u (List.mem_of_getElem? hu)), dExtract_tup, List.getElem?_cons_zero, List.getElem?_cons_succ, bs98_1]
      refine wap98 (n0 := h.length) hlen ow (rowsOf_sl _ _ _ _) (by simp [-Option.bind_some, keyE]; omega) fun x9 g2 o2 l2 b2 _ _ => ?_
      simp only [bs, dBin_add, hw]
      refine .some (.inl ⟨rfl, k - 1, by omega, _, _, _, i + 1, rfl, by omega, ?_, by show h.length ≤ g2.length; omega, fun q hq' => by rw [b2 q hq']; exact hq q hq'⟩)
      have : (keyE (ns.take (i + 1)) e).map (fun s => [D.str s]) = (keyE (ns.take i) e).map (fun s => [D.str s]) ++ [[D.str (valE e u).1]] := by
        rw [List.take_add_one, hu]; simp [-Option.bind_some, keyE]
      rw [this]; exact o2
    · intro hge
      have hge : ns.length ≤ i := by have : ¬ (i : Int) < ns.length := by simpa [-Option.bind_some] using hge
                                     omega
      rw [List.take_of_length_le hge] at ow
      exact .some (.inr ⟨by simp [-Option.bind_some], rfl, _, _, _, _, rfl, ow, hlen, hq⟩)
  · rintro ⟨ex, ds, g⟩ ⟨rfl, x, a, b, c, rfl, ow, hlen, hq⟩
    simp only [unblk_self, toEnd_nrm, bs, nth_zero, mkRes_one]
    have hs := own_sl (n0 := h.length) (n := 3) ow (Nat.le_refl _) fun s _ y hy => by simp [-Option.bind_some] at hy; subst hy; exact frz_str _ _ _ _
    have hsc : scope h g x = some (frz h.length g 4 x, h) := scope_eq rfl (str_ok _ hs) hlen hq
    rw [hsc]
    exact .some ⟨rfl, hs⟩
/-- What is known of one key: its total. -/
structure Pt where
  k : List Str
  kd : D
  hk : SlOf 1 (fun s => [D.str s]) k kd
  hkl : k.length ≤ 1000000
  tot : Int
  td : D
  ht : SlOf 1 inr [tot] td
  sd : D
  hs : SlOf 1 (fun b => [D.bool b]) [true] sd
  vd : D
  hv : SlOf 1 (fun d : D => [d]) [.nils] vd
def ptr' (p : Pt) : List D := [p.kd, p.td, p.sd, p.vd]
def aggd : D := .sl 2 true [[.int .i64 0, .str []]]
theorem aggd_len : dLenT tab ty1154 aggd = some (.int .i64 1) := id rfl
theorem aggd_ix : dIndexAddr tab ty1154 aggd (.int .i64 0) = some (.fptr [.int .i64 0, .str []]) := id rfl
theorem agg_ld (h : Hp) : dLoad tab h ty1153 (.fptr [.int .i64 0, .str []]) = some (.agg [.int .i64 0, .str []]) := id rfl
theorem agg_box : boxN 2 (.agg [.int .i64 0, .str []]) = some (.fptr [.int .i64 0, .str []]) := id rfl
theorem agg_f0 : dFieldAddr tab ty1153 0 (.fptr [.int .i64 0, .str []]) = some (.fptr [.int .i64 0, .str []]) := id rfl
theorem agg_f1 : dFieldAddr tab ty1153 1 (.fptr [.int .i64 0, .str []]) = some (.fptr [.str []]) := id rfl
theorem agg_l0 (h : Hp) : dLoad tab h ty3 (.fptr [.int .i64 0, .str []]) = some (.int .i64 0) := id rfl
/-- Three columns of one row each are laid into a variable. -/
theorem put3 {g : Hp} {o n0 : Nat} {kd : D} (ho : g[o]? = some (.row ty1168 4 [[kd, .nils, .nils, .nils]])) (hon : n0 ≤ g.length) (ho0 : o < n0) (tot : Int) (b : Bool) (v : D) (hv : v.one = true) {β : Type} {f : Hp → Option β} {Q : β → Prop}
    (K : ∀ g' x1 x2 x3, g'[o]? = some (.row ty1168 4 [[kd, x1, x2, x3]]) → Own g' n0 ty3 1 [[.int .i64 tot]] x1 → Own g' n0 ty4 1 [[.bool b]] x2 → Own g' n0 ty98 1 [[v]] x3 → g.length ≤ g'.length → (∀ q, q < n0 → q ≠ o → g'[q]? = g[q]?) → Wp (f g') Q) :
    Wp ((dLoad tab g ty82 (.ptr o 0 1)).bind fun t69 => (dAppend tab g ty82 ty82 t69 (.sl 1 true [[.int .i64 tot]])).bind fun p72 => (dLoad tab p72.2 ty1165 (.ptr o 0 2)).bind fun t74 => (dAppend tab p72.2 ty1165 ty1165 t74 (.sl 1 true [[.bool b]])).bind fun p77 =>
      (dLoad tab p77.2 ty1166 (.ptr o 0 3)).bind fun t79 => (dAppend tab p77.2 ty1166 ty1166 t79 (.sl 1 true [[v]])).bind fun p82 => (dStore tab p82.2 ty82 (.ptr o 0 1) p72.1).bind fun p916 => (dStore tab p916 ty1165 (.ptr o 0 2) p77.1).bind fun p918 =>
      chk (dLoad tab g ty1165 (.ptr o 0 2) = some t74) (chk (dLoad tab g ty1166 (.ptr o 0 3) = some t79) (chk (dLoad tab p72.2 ty1166 (.ptr o 0 3) = some t79) ((dStore tab p918 ty1166 (.ptr o 0 3) p82.1).bind f)))) Q := by
  have ld : ∀ (g : Hp), g[o]? = some (.row ty1168 4 [[kd, .nils, .nils, .nils]]) → dLoad tab g ty82 (.ptr o 0 1) = some .nils ∧ dLoad tab g ty1165 (.ptr o 0 2) = some .nils ∧ dLoad tab g ty1166 (.ptr o 0 3) = some .nils := fun g hg => ⟨by rw [ldp82, row_of hg]; rfl, by rw [ldp1165, row_of hg]; rfl, by rw [ldp1166, row_of hg]; rfl⟩
  simp only [(ld g ho).1, bs]
  refine wap82 (n0 := n0) (rows := []) hon (.nils _ _ _ _) (rowsOf_sl _ _ _ _) (by simp [-Option.bind_some]) fun x1 g1 o1 l1 b1 _ i1 => ?_
  rw [List.nil_append] at o1
  have h1 : g1[o]? = some (.row ty1168 4 [[kd, .nils, .nils, .nils]]) := by rw [b1 o ho0]; exact ho
  simp only [(ld g1 h1).2.1, bs]
  refine wap1165 (n0 := n0) (rows := []) (by omega) (.nils _ _ _ _) (rowsOf_sl _ _ _ _) (by simp [-Option.bind_some]) fun x2 g2 o2 l2 b2 e2 i2 => ?_
  rw [List.nil_append] at o2
  have h2 : g2[o]? = some (.row ty1168 4 [[kd, .nils, .nils, .nils]]) := by rw [b2 o ho0]; exact h1
  have o1 : Own g2 n0 ty3 1 [[.int .i64 tot]] x1 := o1.keep fun q hq hx => e2 q ((o1.lt hx).2) (fun hh => by obtain ⟨_, _, hh⟩ := hh; cases hh)
  simp only [(ld g2 h2).2.2, bs]
  refine wap1166 (n0 := n0) (rows := []) (by omega) (.nils _ _ _ _) (rowsOf_sl _ _ _ _) (by simp [-Option.bind_some]) fun x3 g3 o3 l3 b3 e3 i3 => ?_
  rw [List.nil_append] at o3
  have h3 : g3[o]? = some (.row ty1168 4 [[kd, .nils, .nils, .nils]]) := by rw [b3 o ho0]; exact h2
  have o1 : Own g3 n0 ty3 1 [[.int .i64 tot]] x1 := o1.keep fun q hq hx => e3 q ((o1.lt hx).2) (fun hh => by obtain ⟨_, _, hh⟩ := hh; cases hh)
  have o2 : Own g3 n0 ty4 1 [[.bool b]] x2 := o2.keep fun q hq hx => e3 q ((o2.lt hx).2) (fun hh => by obtain ⟨_, _, hh⟩ := hh; cases hh)
  have k1 := one_cells (own_one o1)
  have k2 := one_cells (own_one o2)
  have k3 := one_cells (own_one o3)
  try simp only [bs]
  refine wst82 h3 (by rfl) (by rw [k1.1]; rfl) (by show 1 + 1 ≤ 4; omega) k1.2 fun g4 p4 s4 => ?_
  rw [k1.1] at p4
  have p4 : g4[o]? = some (.row ty1168 4 [[kd, x1, .nils, .nils]]) := p4
  try simp only [bs]
  refine wst1165 p4 (by rfl) (by rw [k2.1]; rfl) (by show 2 + 1 ≤ 4; omega) k2.2 fun g5 p5 s5 => ?_
  rw [k2.1] at p5
  have p5 : g5[o]? = some (.row ty1168 4 [[kd, x1, x2, .nils]]) := p5
  simp only [(ld g ho).2.1, (ld g ho).2.2, (ld g1 h1).2.2, chk_true, bs]
  refine wst1166 p5 (by rfl) (by rw [k3.1]; rfl) (by show 3 + 1 ≤ 4; omega) k3.2 fun g6 p6 s6 => ?_
  rw [k3.1] at p6
  have p6 : g6[o]? = some (.row ty1168 4 [[kd, x1, x2, x3]]) := p6
  have sm : Same o g3 g6 := (s4.trans s5).trans s6
  refine K g6 x1 x2 x3 p6 (o1.same sm ho0) (o2.same sm ho0) (o3.same sm ho0) (by have := sm.1; omega) fun q hq hne => ?_
  rw [sm.2 q hne, b3 q hq, b2 q hq, b1 q hq]
theorem okv4 {a b c d : D} (ha : a.one = true) (hb : b.one = true) (hc : c.one = true) (hd : d.one = true) : (D.agg [a, b, c, d]).okv = true := by simp [-Option.bind_some, D.okv, ha, hb, hc, hd]
/-- A partial that is done in a variable: it is loaded, laid into the result's variable, given back. -/
def FinP (h : Hp) (ks : List Str) (kd : D) (tot : Int) (g : Hp) : Prop := ∃ x1 x2 x3, g[h.length]? = some (.row ty1168 4 [[.nils, .nils, .nils, .nils]]) ∧ g[h.length + 1]? = some (.row ty1168 4 [[kd, x1, x2, x3]]) ∧ Own g (h.length + 2) ty3 1 [[.int .i64 tot]] x1 ∧ Own g (h.length + 2) ty4 1 [[.bool true]] x2 ∧ Own g (h.length + 2) ty98 1 [[.nils]] x3 ∧ ∀ q, q < h.length → g[q]? = h[q]?
theorem fin_end {h g : Hp} {ks : List Str} {kd : D} {tot : Int} (hk : SlOf 1 (fun s => [D.str s]) ks kd) (hkl : ks.length ≤ 1000000) (hf : FinP h ks kd tot g) {Q : D × Hp → Prop} (K : ∀ pt : Pt, pt.k = ks → pt.tot = tot → Q (.agg (ptr' pt), h)) :
    Wp ((dLoad tab g ty1168 (.ptr (h.length + 1) 0 0)).bind fun t86 => (dStore tab g ty1168 (.ptr h.length 0 0) t86).bind fun p901 => (dLoad tab p901 ty1168 (.ptr h.length 0 0)).bind fun d => scope h p901 (mkRes [d])) Q := by
  obtain ⟨x1, x2, x3, a0, a1, o1, o2, o3, hq⟩ := hf
  have e1 : dLoad tab g ty1168 (.ptr (h.length + 1) 0 0) = some (.agg [kd, x1, x2, x3]) := by rw [ldp1168, row_of a1]; rfl
  simp only [e1, bs]
  refine wst1168 (off := 0) (v := .agg [kd, x1, x2, x3]) a0 (by rfl) (by rfl) (by show 0 + 4 ≤ 4; omega) (okv4 (slof_one hk) (own_one o1) (own_one o2) (own_one o3)) fun g2 p2 s2 => ?_
  have p2 : g2[h.length]? = some (.row ty1168 4 [[kd, x1, x2, x3]]) := p2
  have e2 : dLoad tab g2 ty1168 (.ptr h.length 0 0) = some (.agg [kd, x1, x2, x3]) := by rw [ldp1168, row_of p2]; rfl
  have gl := (List.getElem?_eq_some_iff.1 a1).1
  have o1 := o1.same s2 (by omega)
  have o2 := o2.same s2 (by omega)
  have o3 := o3.same s2 (by omega)
  have z1 : SlOf 1 inr [tot] (frz h.length g2 3 x1) := own_sl (n0 := h.length) (n := 2) (f := inr) (l := [tot]) o1 (by omega) fun s _ y hy => by simp [-Option.bind_some, inr] at hy; subst hy; exact frz_int _ _ _ _ _
  have z2 : SlOf 1 (fun b => [D.bool b]) [true] (frz h.length g2 3 x2) := own_sl (n0 := h.length) (n := 2) (f := fun b => [D.bool b]) (l := [true]) o2 (by omega) fun s _ y hy => by simp [-Option.bind_some] at hy; subst hy; exact frz_bool _ _ _ _
  have z3 : SlOf 1 (fun d : D => [d]) [.nils] (frz h.length g2 3 x3) := own_sl (n0 := h.length) (n := 2) (f := fun d : D => [d]) (l := [.nils]) o3 (by omega) fun s hs y hy => by simp [-Option.bind_some] at hs hy; subst hy; subst hs; exact frz_nils _ _ _
  have z0 : frz h.length g2 3 kd = kd := str_frz _ _ 2 hk
  have hsc : scope h g2 (.agg [kd, x1, x2, x3]) = some (.agg [kd, frz h.length g2 3 x1, frz h.length g2 3 x2, frz h.length g2 3 x3], h) := by
    refine scope_eq ?_ ?_ (by have := s2.1; omega) (fun q hq' => by rw [s2.2 q (by omega)]; exact hq q hq')
    · simp only [frz_agg, List.map_cons, List.map_nil, z0]
    · refine .agg _ fun y hy => ?_
      simp only [List.mem_cons, List.not_mem_nil, or_false] at hy
      rcases hy with rfl | rfl | rfl | rfl
      · exact str_ok _ hk
      · exact inr_ok _ z1
      · exact slof_ok z2 fun b _ y hy => by simp [-Option.bind_some] at hy; subst hy; exact .bool _
      · exact slof_ok z3 fun b hb y hy => by simp [-Option.bind_some] at hb hy; subst hy; subst hb; exact .nils
  simp only [e2, bs, mkRes_one, hsc]
  exact .some (K ⟨ks, kd, hk, hkl, tot, _, z1, _, z2, _, z3⟩ rfl rfl)
theorem s1191 (ns : List Str) (dn : D) (e : Ev) (h : Hp) (hd : SlOf 1 (fun s => [D.str s]) ns dn) (hl : ns.length ≤ 1000) (h0 : 0 ≤ e.a0) (h9 : e.a0 ≤ 9) (hn : ∀ n ∈ ns, nmOK n) (hf : FsOK e.fs) : ∃ pt : Pt, R fn1191 [dn, aggd, .agg (evr e)] h = some (.agg (ptr' pt), h) ∧ pt.k = keyE ns e ∧ pt.tot = e.a6 := by
  suffices Wp (R fn1191 [dn, aggd, .agg (evr e)] h) (fun p => p.2 = h ∧ ∃ pt : Pt, p.1 = .agg (ptr' pt) ∧ pt.k = keyE ns e ∧ pt.tot = e.a6) by
    obtain ⟨⟨x, h'⟩, h1, rfl, pt, rfl, h2⟩ := this
    exact ⟨pt, h1, h2⟩
  have hL : ∀ g, dLoad tab g ty31 (.fptr (evr e)) = some (.agg (evr e)) := fun g => id rfl
  rw [e1191]
  simp only [F1191, pBoxF_agg, bs, Option.bind_assoc, hL]
  have a0 : (dNew h ty1168 4 [[.nils, .nils, .nils, .nils]])[h.length]? = some (.row ty1168 4 [[.nils, .nils, .nils, .nils]]) := dNew_get _ _ _ _
  have k0 : ∀ q, q < h.length → (dNew h ty1168 4 [[.nils, .nils, .nils, .nils]])[q]? = h[q]? := fun q hq => dNew_old _ _ _ _ hq
  have n0 : (dNew h ty1168 4 [[.nils, .nils, .nils, .nils]]).length = h.length + 1 := by simp [-Option.bind_some, dNew]
  generalize dNew h ty1168 4 [[.nils, .nils, .nils, .nils]] = g0 at *
  obtain ⟨kd, ek, hk⟩ := s1195 ns dn e g0 hd hl h0 h9 hn
  have hkl : (keyE ns e).length ≤ 1000000 := by simp [-Option.bind_some, keyE]; omega
  simp only [ek, bs, bd1168_0 kd (slof_one hk)]
  have a1 : (dNew g0 ty1168 4 [[.nils, .nils, .nils, .nils]])[h.length + 1]? = some (.row ty1168 4 [[.nils, .nils, .nils, .nils]]) := by rw [← n0]; exact dNew_get _ _ _ _
  have b1 : (dNew g0 ty1168 4 [[.nils, .nils, .nils, .nils]])[h.length]? = some (.row ty1168 4 [[.nils, .nils, .nils, .nils]]) := by rw [dNew_old _ _ _ _ (by omega)]; exact a0
  have k1 : ∀ q, q < h.length → (dNew g0 ty1168 4 [[.nils, .nils, .nils, .nils]])[q]? = h[q]? := fun q hq => by rw [dNew_old _ _ _ _ (by omega)]; exact k0 q hq
  have n1 : (dNew g0 ty1168 4 [[.nils, .nils, .nils, .nils]]).length = h.length + 2 := by simp [-Option.bind_some, dNew, n0]
  rw [n0]
  generalize dNew g0 ty1168 4 [[.nils, .nils, .nils, .nils]] = g1 at *
  refine wst1168 (off := 0) (v := .agg [kd, .nils, .nils, .nils]) a1 (by rfl) (by rfl) (by show 0 + 4 ≤ 4; omega) (okv4 (slof_one hk) rfl rfl rfl) fun g2 p2 s2 => ?_
  have p2 : g2[h.length + 1]? = some (.row ty1168 4 [[kd, .nils, .nils, .nils]]) := p2
  have q2 : g2[h.length]? = some (.row ty1168 4 [[.nils, .nils, .nils, .nils]]) := by rw [s2.2 _ (by omega)]; exact b1
  have k2 : ∀ q, q < h.length → g2[q]? = h[q]? := fun q hq => by rw [s2.2 q (by omega)]; exact k1 q hq
  have n2 : g2.length = h.length + 2 := by rw [s2.1, n1]
  try simp only [bs, Option.bind_assoc]
  refine Wp.loop (fun k ds g => (k = 1 ∧ nth 0 ds = .int .i64 0 ∧ g = g2) ∨ (k = 0 ∧ nth 0 ds = .int .i64 1 ∧ FinP h (keyE ns e) kd e.a6 g))
    (fun r => r.1 = .ext 0 ∧ FinP h (keyE ns e) kd e.a6 r.2.2) 1 (.inl ⟨rfl, rfl, rfl⟩) ?_ ?_
  · rintro k ds g (⟨rfl, hds, rfl⟩ | ⟨rfl, hds, hfin⟩)
    · have d0 : decide ((0 : Int) < 1) = true := by decide
      have q6 : dFieldAddr tab ty31 6 (.fptr (evr e)) = some (.fptr [.int .i64 e.a6, .str e.s7, .str e.s8, e.fd]) := id rfl
      have l6 : ∀ g, dLoad tab g ty3 (.fptr [.int .i64 e.a6, .str e.s7, .str e.s8, e.fd]) = some (.int .i64 e.a6) := fun g => id rfl
      have lse : ∀ g, dLoad tab g ty9 (.fptr [.str []]) = some (.str []) := fun g => id rfl
      simp only [F1191_L0, hds, bs, Option.bind_assoc, aggd_len, dBin_lss, d0, dIf_bool, if_true, aggd_ix, agg_ld, agg_box, hL, agg_f1, lse, s1196 e g h0 h9 hf, dExtract_tup, List.getElem?_cons_zero, List.getElem?_cons_succ, agg_f0, agg_l0, dBin_eql, decide_true, q6, l6, unblk_nrm, toEnd_nrm, nth_zero, nth_succ, fap1168_1, fap1168_2, fap1168_3, bs82_1, bs1165_1, bs1166_1 .nils rfl, Nat.zero_add]
      refine put3 p2 (n0 := h.length + 2) (by omega) (by omega) e.a6 true .nils rfl fun g' x1 x2 x3 r1 r2 r3 r4 r5 r6 => ?_
      have w1 : IntKind.wrap .i64 ((0 : Int) + 1) = 1 := by decide
      simp only [bs, dBin_add, w1]
      exact .some (.inl ⟨rfl, 0, by omega, .inr ⟨rfl, rfl, x1, x2, x3, by rw [r6 _ (by omega) (by omega)]; exact q2, r1, r2, r3, r4, fun q hq => by rw [r6 q (by omega) (by omega)]; exact k2 q hq⟩⟩)
    · have d0 : decide ((1 : Int) < 1) = false := by decide
      simp only [F1191_L0, hds, bs, Option.bind_assoc, aggd_len, dBin_lss, d0, dIf_bool, Bool.false_eq_true, if_false]
      exact .some (.inr ⟨by simp [-Option.bind_some], rfl, hfin⟩)
  · rintro ⟨ex, ds, g⟩ ⟨rfl, hfin⟩
    simp only [unblk_self, toEnd_nrm, bs, Option.bind_assoc]
    exact fin_end hk hkl hfin fun pt p1 p2 => ⟨rfl, pt, rfl, p1, p2⟩
theorem ptF0 (p : Pt) : dFieldAddr tab ty1168 0 (.fptr (ptr' p)) = some (.fptr (ptr' p)) := id rfl
theorem ptF1 (p : Pt) : dFieldAddr tab ty1168 1 (.fptr (ptr' p)) = some (.fptr [p.td, p.sd, p.vd]) := id rfl
theorem ptF2 (p : Pt) : dFieldAddr tab ty1168 2 (.fptr (ptr' p)) = some (.fptr [p.sd, p.vd]) := id rfl
theorem ptL (p : Pt) (h : Hp) : dLoad tab h ty1168 (.fptr (ptr' p)) = some (.agg (ptr' p)) := id rfl
theorem ptL0 (p : Pt) (h : Hp) : dLoad tab h ty98 (.fptr (ptr' p)) = some p.kd := by
  have h1 := slof_one p.hk
  show dLoad tab h ty98 (.fptr [p.kd, p.td, p.sd, p.vd]) = _
  generalize p.kd = a at h1
  cases a <;> first | rfl | (simp [-Option.bind_some, D.one] at h1)
theorem ptL1 (p : Pt) (h : Hp) : dLoad tab h ty82 (.fptr [p.td, p.sd, p.vd]) = some p.td := by
  have h1 := slof_one p.ht
  generalize p.td = a at h1
  cases a <;> first | rfl | (simp [-Option.bind_some, D.one] at h1)
theorem ptL2 (p : Pt) (h : Hp) : dLoad tab h ty1165 (.fptr [p.sd, p.vd]) = some p.sd := by
  have h1 := slof_one p.hs
  generalize p.sd = a at h1
  cases a <;> first | rfl | (simp [-Option.bind_some, D.one] at h1)
theorem ptT (p : Pt) : dIndexAddr tab ty82 p.td (.int .i64 0) = some (.fptr [.int .i64 p.tot]) := by rw [ixs82 p.ht]; rfl
theorem ptS (p : Pt) : dIndexAddr tab ty1165 p.sd (.int .i64 0) = some (.fptr [.bool true]) := by rw [ixs1165 p.hs]; rfl
theorem boo_ld (b : Bool) (h : Hp) : dLoad tab h ty4 (.fptr [.bool b]) = some (.bool b) := id rfl
end Go.Proofs.Yteglojieneaojaa
