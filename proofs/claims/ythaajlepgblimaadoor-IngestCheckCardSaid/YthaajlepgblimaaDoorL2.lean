/- Laws, on plain data, about functions that the statement reaches. -/
import Derived.Test.YthaajlepgblimaaDoorL1
set_option linter.unusedSimpArgs false
set_option linter.unusedVariables false
set_option linter.unnecessarySimpa false
set_option maxRecDepth 100000
namespace Go.Proofs.YthaajlepgblimaaDoor
open Go.Eng Go.Pi
open Option (bind_some)
def nameC (c : UInt8) : Bool := wordc c.toNat || decide ((c.toNat : Int) = 46)
def fnameOK (s : Str) : Bool := match s with
  | [] => false
  | c :: r => decide ((c :: r).length ≤ 32) && (letter c.toNat || decide ((c.toNat : Int) = 95)) && (c :: r).all nameC
theorem sidx (s : Str) (i : Nat) (c : UInt8) (hc : s[i]? = some c) : dIndex tab ty9 (.str s) (.int .i64 i) = some (.int .u8 c.toNat) := by
  show (if (0 : Int) ≤ (i : Int) then (match s[(i : Int).toNat]? with | some c => some (D.int .u8 c.toNat) | none => none) else none) = _
  simp [-bind_some, hc]
theorem l1018 (s : Str) (h : Hp) (hl : s.length ≤ 9223372036854775807) {β : Type} (K : Out → Option β) (X : Bool → Option β)
   (hX : ∀ r, K (.ret, .bool false :: r, h) = X false) (hY : ∀ r, K (.ext 0, r, h) = X true) : ∀ (suf pre : Str), s = pre ++ suf → ∀ a b e,
   (loopW (F1018_L0 (.str s)) [a, .int .i64 pre.length, b, e] h).bind K = X (suf.all nameC) := by
  intro suf
  induction suf with
  | nil =>
    rintro pre rfl a b e
    rw [loopW_eq]
    simp [-bind_some, F1018_L0, hY]
  | cons p suf ih =>
    rintro pre rfl a b e
    have hw : IntKind.wrap .i64 ((pre.length : Int) + 1) = (pre ++ [p]).length := by
      rw [wrap_i64 (by omega) (by simp at hl; omega)]; simp [-bind_some]
    have hlt : (pre.length : Int) < (pre ++ p :: suf).length := by simp; omega
    rw [loopW_eq]
    generalize hL : pre ++ p :: suf = L at *
    have hg : L[pre.length]? = some p := by rw [← hL]; exact get_mid _ _ _
    have hix := sidx L pre.length p hg
    cases hp : wordc p.toNat
    · by_cases h46 : (p.toNat : Int) = 46
      · have := ih (pre ++ [p]) (by simp [-bind_some, ← hL]) a (.bool true) (.bool (decide ((p.toNat : Int) ≠ 46)))
        simp only [← hw] at this
        have h47 : wordc 46 = false := rfl
        simp [-bind_some, F1018_L0, hlt, hix, s1020, hp, nameC, h46, h47]
        simp [-bind_some, h46] at this
        exact this
      · simp [-bind_some, F1018_L0, hlt, hix, s1020, hp, nameC, h46, hX]
    · have := ih (pre ++ [p]) (by simp [-bind_some, ← hL]) a (.bool true) (.bool false)
      simp only [← hw] at this
      simp [-bind_some, F1018_L0, hlt, hix, s1020, hp, nameC]
      exact this
theorem s1018 (s : Str) (h : Hp) (hl : s.length ≤ 9223372036854775807) : R fn1018 [.str s] h = some (.bool (fnameOK s), h) := by
  rw [e1018]
  cases s with
  | nil => simp [-bind_some, F1018, fnameOK]
  | cons c r =>
    have hi0 : dIndex tab ty9 (.str (c :: r)) (.int .i64 0) = some (.int .u8 c.toNat) := sidx (c :: r) 0 c rfl
    have h1 : ¬ ((c :: r).length : Int) < 1 := by simp; omega
    have hlp := l1018 (c :: r) h hl (fun r_1 => (some (unblk 0 r_1.1, [nth 0 r_1.2.1, nth 1 r_1.2.1, nth 2 r_1.2.1, nth 3 r_1.2.1], r_1.2.2)).bind fun r_1 => toEnd r_1.1 (some (.bool true, r_1.2.2)) fun x => exEnd x (some (nth 0 r_1.2.1, r_1.2.2))) (fun b => some (.bool b, h)) (fun r => by simp) (fun r => by simp) (c :: r) [] rfl
    simp only [bs] at hlp
    by_cases h32 : (32 : Int) < ((c :: r).length : Int)
    · have h33 : ¬ (c :: r).length ≤ 32 := by omega
      simp only [F1018, bs, len9, dBin_lss, dBin_gtr, gd_bool, dPick_bool, h32, h1, decide_true, decide_false, gdW_bool, dIf_bool, mkRes_one, if_true, if_false, Bool.false_eq_true, reduceCtorEq, fnameOK, h33, Bool.false_and, gd_und, bs]
    · have h33 : (c :: r).length ≤ 32 := by omega
      cases hq : letter c.toNat
      · by_cases h95 : (c.toNat : Int) = 95
        · simp only [F1018, bs, len9, dBin_lss, dBin_gtr, gd_bool, dPick_bool, h32, h1, decide_true, decide_false, gdW_bool, dIf_bool, mkRes_one, if_true, if_false, Bool.false_eq_true, reduceCtorEq, fnameOK, h33, Bool.false_and, hi0, s1019, hq, show letter 95 = false from rfl, dUn_not, Bool.not_false, dBin_neq, h95, ne_eq, not_true, Option.bind_assoc]
          refine (hlp _ _ _).trans ?_
          simp [-bind_some, nameC]
        · simp only [F1018, bs, len9, dBin_lss, dBin_gtr, gd_bool, dPick_bool, h32, h1, decide_true, decide_false, gdW_bool, dIf_bool, mkRes_one, if_true, if_false, Bool.false_eq_true, reduceCtorEq, fnameOK, h33, Bool.false_and, hi0, s1019, hq, dUn_not, Bool.not_false, dBin_neq, h95, ne_eq, not_true, not_false_eq_true, Bool.or_false, Bool.and_false]
      · simp only [F1018, bs, len9, dBin_lss, dBin_gtr, gd_bool, dPick_bool, h32, h1, decide_true, decide_false, gdW_bool, dIf_bool, mkRes_one, if_true, if_false, Bool.false_eq_true, reduceCtorEq, fnameOK, h33, Bool.false_and, hi0, s1019, hq, dUn_not, Bool.not_true, gd_und, Option.bind_assoc]
        refine (hlp _ _ _).trans ?_
        simp [-bind_some, nameC]
def Asc (l : List (Str × Str)) : Prop := ∀ i p q, l[i]? = some p → l[i + 1]? = some q → Op.bytesLess p.1 q.1 = true ∧ p.1 ≠ q.1
theorem sgtr (t : Nat) (s u : Str) : dBin tab .gtr t (.str s) (.str u) = some (.bool (!(Op.bytesLess s u || s == u))) := id rfl
theorem fld_f0 (p : Str × Str) : (dFieldAddr tab ty109 0 (.fptr (fld p))) = some (.fptr (fld p)) := id rfl
theorem fld_l0 (p : Str × Str) (h : Hp) : dLoad tab h ty9 (.fptr (fld p)) = some (.str p.1) := id rfl
structure PlOK (e : Ev) : Prop where
  h0 : 0 ≤ e.a0
  h9 : e.a0 ≤ 999
  f0 : 0 ≤ e.a1
  f9 : e.a1 ≤ 2147483646
  a0 : 0 ≤ e.a2
  ab : e.a2 < e.a3
  b9 : e.a3 ≤ 60000
structure EvGood (e : Ev) : Prop where
  pl : PlOK e
  t0 : 0 ≤ e.a5
  t9 : e.a5 ≤ 253402300799999
  w1 : 1 ≤ e.a6
  w2 : e.a6 ≤ 5040
  w3 : Int.tmod 5040 e.a6 = 0
  l1 : 1 ≤ e.ls.length
  l4 : e.ls.length ≤ 40
  ch : chain e.a2 e.ls e.a3
  tr : e.s7.length ≤ 32
  st : e.s8.length ≤ 32
  f3 : e.fs.length ≤ 32
  fn : ∀ p ∈ e.fs, fnameOK p.1 = true ∧ p.1.length ≤ 1000
  fa : Asc e.fs
  fv : ∀ p ∈ e.fs, p.2.length ≤ 2000
structure SkGood (i : It) : Prop where
  r0 : i.r ≠ []
  r3 : i.r.length ≤ 32
  pl : PlOK i.e
  l1 : 1 ≤ i.e.ls.length
  l4 : i.e.ls.length ≤ 40
  ch : chain i.e.a2 i.e.ls i.e.a3
  tm : i.e.a5 = 0
  w0 : i.e.a6 = 0
  tr : i.e.s7 = []
  st : i.e.s8 = []
  fs : i.e.fs = []
  tx : ∀ l ∈ i.e.ls, l.txt = []
theorem l1006 (l : List Lin) (d : D) (fn : D) (pr : Lin → Bool) (h : Hp) (hd : SlOf 3 linr l d) (hl : l.length ≤ 9223372036854775807) (hf : ∀ x, callV R fn [.agg (linr x)] h = some (.bool (pr x), h)) {β : Type} (K : Out → Option β) (X : Int → Option β)
   (hX : ∀ v r, K (.ret, .int .i64 v :: r, h) = X v) (hY : ∀ r, K (.ext 0, r, h) = X (-1)) : ∀ (suf pre : List Lin), l = pre ++ suf → ∀ a b e f,
   (loopW (F1006_L0 d fn (.int .i64 l.length)) [a, b, .int .i64 pre.length, e, f] h).bind K = X (idx pr pre.length suf) := by
  intro suf
  induction suf with
  | nil =>
    rintro pre rfl a b e f
    rw [loopW_eq]
    simp [-bind_some, F1006_L0, hY, idx]
  | cons p suf ih =>
    rintro pre rfl a b e f
    have hw : IntKind.wrap .i64 ((pre.length : Int) + 1) = (pre ++ [p]).length := by
      rw [wrap_i64 (by omega) (by simp at hl; omega)]; simp [-bind_some]
    have hlt : (pre.length : Int) < (pre ++ p :: suf).length := by simp; omega
    rw [loopW_eq]
    generalize hL : pre ++ p :: suf = L at *
    have hg : L[pre.length]? = some p := by rw [← hL]; exact get_mid _ _ _
    by_cases hp : pr p = true
    · simp [-bind_some, F1006_L0, ixs28 hd, hlt, hg, linr_ld, hf, hp, hX, idx]
    · have := ih (pre ++ [p]) (by simp [-bind_some, ← hL]) a (.int .i64 pre.length) (.bool true) (.bool (pr p))
      simp only [← hw] at this
      simp [-bind_some, F1006_L0, ixs28 hd, hlt, hg, linr_ld, hf, hp, idx]
      simp [-bind_some, hp] at this
      exact this
theorem s1006 (l : List Lin) (d : D) (fn : D) (pr : Lin → Bool) (h : Hp) (hd : SlOf 3 linr l d) (hl : l.length ≤ 9223372036854775807) (hf : ∀ x, callV R fn [.agg (linr x)] h = some (.bool (pr x), h)) :
   R fn1006 [d, fn] h = some (.int .i64 (idx pr 0 l), h) := by
  rw [e1006]
  simp only [F1006, bs, lens28 hd, Option.bind_assoc]
  rw [show (0 : Int) = (([] : List Lin).length : Int) from rfl, l1006 l d fn pr h hd hl hf _ (fun v => some (.int .i64 v, h)) (fun v r => by simp) (fun r => by simp) l [] rfl]
  rfl
theorem app_full {T : Tab} {t e : Nat} {i j : TI} (ht : T t = Option.some i) (hi : i.td = .sl e) (he : T e = Option.some j) (hz : 0 < j.sz) {h : Hp} {ys : List (List D)} {y : D} (hy : dRowsOf h j.sz y = Option.some ys) (hl : lim ys.length j.by_ = true) :
    ∃ x' h', dAppend T h t t (.sl j.sz true []) y = Option.some (x', h') ∧ h.length ≤ h'.length ∧ (∀ q, q < h.length → h'[q]? = h[q]?) ∧ ((x' = .sl j.sz true [] ∧ ys = []) ∨ Own h' h.length e j.sz ys x') := by
  have hz' : Nat.blt 0 j.sz = true := Nat.ble_eq_true_of_le hz
  have hs : dSrc h i j y = Option.some ys := by simp [-bind_some, dSrc, hi, hy]
  unfold dAppend
  simp only [ht, hi, he, hz', hs]
  cases ys with
  | nil => exact ⟨_, _, rfl, Nat.le_refl _, fun _ _ => rfl, .inl ⟨rfl, rfl⟩⟩
  | cons y1 yr =>
    simp only [List.length_nil, Nat.zero_add, hl, and_self, if_true, List.nil_append, true_and]
    exact ⟨_, _, rfl, by simp [-bind_some, dNew], fun q hq => by simp only [dNew]; rw [List.getElem?_append_left hq], .inr (.inr ⟨h.length, Nat.le_refl _, rfl, by simp [-bind_some, dNew]⟩)⟩
def inr (n : Int) : List D := [.int .i64 n]
def orI : List Int → Int
  | [] => 0
  | x :: r => if x = 0 then orI r else x
theorem l89 (l : List Int) (d : D) (h : Hp) (hd : SlOf 1 inr l d) (hl : l.length ≤ 9223372036854775807) {β : Type} (K : Out → Option β) (X : Int → Option β)
   (hX : ∀ v r, K (.ret, .int .i64 v :: r, h) = X v) (hY : ∀ r, K (.ext 0, r, h) = X 0) : ∀ (suf pre : List Int), l = pre ++ suf → ∀ n : Int, n = pre.length → ∀ a b e f,
   (loopW (F89_L0 (.int .i64 0) d (.int .i64 l.length)) [a, b, .int .i64 n, e, f] h).bind K = X (orI suf) := by
  intro suf
  induction suf with
  | nil =>
    rintro pre rfl n rfl a b e f
    rw [loopW_eq]
    simp [-bind_some, F89_L0, hY, orI]
  | cons p suf ih =>
    rintro pre rfl n rfl a b e f
    have hw : IntKind.wrap .i64 ((pre.length : Int) + 1) = (pre ++ [p]).length := by
      rw [wrap_i64 (by omega) (by simp at hl; omega)]; simp [-bind_some]
    have hlt : (pre.length : Int) < (pre ++ p :: suf).length := by simp; omega
    rw [loopW_eq]
    generalize hL : pre ++ p :: suf = L at *
    have hg : L[pre.length]? = some p := by rw [← hL]; exact get_mid _ _ _
    by_cases hp : p = 0
    · subst hp
      have := ih (pre ++ [0]) (by simp [-bind_some, ← hL]) _ rfl a (.int .i64 0) (.bool true) (.bool false)
      simp only [← hw] at this
      simp [-bind_some, F89_L0, ixs82 hd, hlt, hg, inr, orI]
      exact this
    · simp [-bind_some, F89_L0, ixs82 hd, hlt, hg, inr, hp, hX, orI]
theorem s89 (l : List Int) (d : D) (h : Hp) (hd : SlOf 1 inr l d) (hl : l.length ≤ 9223372036854775807) : R fn89 [d] h = some (.int .i64 (orI l), h) := by
  rw [e89]
  simp only [F89, bs, lens82 hd, Option.bind_assoc]
  rw [l89 l d h hd hl _ (fun v => some (.int .i64 v, h)) (fun v r => by simp) (fun r => by simp) l [] rfl 0 rfl]
structure Mrk where
  h : Int
  f : Int
  o : Int
  deriving DecidableEq
def mrkr (m : Mrk) : List D := [.int .i64 m.h, .int .i64 m.f, .int .i64 m.o]
theorem mrkr_ld (m : Mrk) (h : Hp) : dLoad tab h ty1006 (.fptr (mrkr m)) = some (.agg (mrkr m)) := id rfl
def cmpM (a b : Mrk) : Int := orI [cmpI a.h b.h, cmpI a.f b.f]
theorem s1017 (a b : Mrk) (h : Hp) : R fn1017 [.agg (mrkr a), .agg (mrkr b)] h = some (.int .i64 (cmpM a b), h) := by
  have hb : ∀ n0 n1 : Int, pLitF tab ty82 2 [0, 1] [.int .i64 n0, .int .i64 n1] = some (.sl 1 true ([n0, n1].map inr)) := fun n0 n1 => id rfl
  have h89 := s89 [cmpI a.h b.h, cmpI a.f b.f] (.sl 1 true [inr (cmpI a.h b.h), inr (cmpI a.f b.f)]) h (SlOf.mk 1 inr [cmpI a.h b.h, cmpI a.f b.f] true) (by simp)
  rw [e1017]
  simp [-bind_some, F1017, mrkr, s90, hb, h89, cmpM]
theorem s1016 (l : List Mrk) (d : D) (t : Mrk) (fn : D) (c : Mrk → Int) (h : Hp) (hd : SlOf 3 mrkr l d) (hl : l.length ≤ 1000000) (hf : ∀ x, callV R fn [.agg (mrkr x), .agg (mrkr t)] h = some (.int .i64 (c x), h))
   (k : Nat) (hk : k ≤ l.length) (h1 : ∀ i x, l[i]? = some x → i < k → c x < 0) (h2 : ∀ i x, l[i]? = some x → k ≤ i → 0 ≤ c x) :
   R fn1016 [d, .agg (mrkr t), fn] h = some (.tup [.int .i64 k, .bool (match l[k]? with | some x => decide (c x = 0) | none => false)], h) := by
  suffices Wp (R fn1016 [d, .agg (mrkr t), fn] h) (fun p => p = (.tup [.int .i64 k, .bool (match l[k]? with | some x => decide (c x = 0) | none => false)], h)) by
    obtain ⟨p, h1, rfl⟩ := this
    exact h1
  rw [e1016]
  simp only [F1016, pBoxF_agg, bs, Option.bind_assoc, lens1007 hd]
  refine Wp.loop (fun n ds g => g = h ∧ ∃ a b e, ∃ lo hi : Nat, ds = [.int .i64 lo, .int .i64 hi, a, b, e] ∧ lo ≤ k ∧ k ≤ hi ∧ hi ≤ l.length ∧ n = hi - lo)
      (fun x => x.1 = .ext 0 ∧ x.2.2 = h ∧ nth 0 x.2.1 = .int .i64 k) l.length ⟨rfl, _, _, _, 0, l.length, rfl, by omega, hk, Nat.le_refl _, rfl⟩ ?_ ?_
  · rintro n ds g ⟨rfl, a, b, e, lo, hi, rfl, hlo, hhi, hle, rfl⟩
    simp only [F1016_L0, nth_zero, nth_succ, bs, Option.bind_assoc, dBin_lss]
    refine Wp.dif ?_ ?_
    · intro h0
      have h0 : lo < hi := by have : (lo : Int) < hi := by simpa using h0
                              omega
      have hw : IntKind.wrap .i64 ((lo : Int) + hi) = ((lo + hi : Nat) : Int) := by
        rw [wrap_i64 (by omega) (by omega)]; omega
      have hw2 : IntKind.wrap .u64 ((lo + hi : Nat) : Int) = ((lo + hi : Nat) : Int) := by
        unfold IntKind.wrap
        simp [-bind_some, IntKind.signed, IntKind.bits, IntKind.min, IntKind.max]
        omega
      have hw3 : (((lo + hi : Nat) : Int)).fdiv (2 ^ (min (Int.toNat 1) IntKind.u64.bits)) = (((lo + hi) / 2 : Nat) : Int) := by
        rw [show (2 : Int) ^ (min (Int.toNat 1) IntKind.u64.bits) = 2 by decide]
        rw [Int.fdiv_eq_ediv_of_nonneg _ (by omega)]
        omega
      have hw4 : IntKind.wrap .i64 (((lo + hi) / 2 : Nat) : Int) = (((lo + hi) / 2 : Nat) : Int) := wrap_i64 (by omega) (by omega)
      have hw5 : IntKind.wrap .i64 ((((lo + hi) / 2 : Nat) : Int) + 1) = (((lo + hi) / 2 + 1 : Nat) : Int) := by
        rw [wrap_i64 (by omega) (by omega)]; omega
      have hm : (lo + hi) / 2 < l.length := by omega
      have hm1 : lo ≤ (lo + hi) / 2 := by omega
      have hm2 : (lo + hi) / 2 < hi := by omega
      generalize (lo + hi) / 2 = mid at *
      have hg : l[mid]? = some l[mid] := List.getElem?_eq_getElem hm
      generalize l[mid] = x at hg
      simp only [dBin_add, hw, cv3_134, cv134_3, bs, hw2, dBin_shr, show ¬ (1 : Int) < 0 by omega, if_false, hw3, hw4, ixs1007 hd, Int.natCast_nonneg, if_true, Int.toNat_natCast, hg, Option.map_some, mrkr_ld, hf, dBin_lss]
      by_cases hc : c x < 0
      · have hkm : mid < k := by
          rcases Nat.lt_or_ge mid k with hh | hh
          · exact hh
          · have := h2 mid x hg hh
            omega
        simp only [hc, decide_true, dIf_bool, if_true, bs, hw5, unblk_nrm, nth_zero, nth_succ]
        exact .some (.inl ⟨rfl, hi - (mid + 1), by omega, rfl, _, _, _, mid + 1, hi, rfl, by omega, hhi, hle, rfl⟩)
      · have hkm : k ≤ mid := by
          rcases Nat.lt_or_ge mid k with hh | hh
          · exact absurd (h1 mid x hg hh) hc
          · exact hh
        simp only [hc, decide_false, dIf_bool, Bool.false_eq_true, if_false, bs, unblk_nrm, nth_zero, nth_succ]
        exact .some (.inl ⟨rfl, mid - lo, by omega, rfl, _, _, _, lo, mid, rfl, hlo, hkm, by omega, rfl⟩)
    · intro h0
      have h0 : lo = k := by have : ¬ (lo : Int) < hi := by simpa using h0
                             omega
      subst h0
      exact .some (.inr ⟨by simp, rfl, rfl, rfl⟩)
  · rintro ⟨ex, ds, g⟩ ⟨q1, q2, q3⟩
    simp only at q1 q2 q3
    subst q1; subst q2
    simp only [unblk_self, toEnd_nrm, nth_zero, q3, bs, dBin_lss]
    by_cases hkl : k < l.length
    · have hg : l[k]? = some l[k] := List.getElem?_eq_getElem hkl
      have hlt : (k : Int) < l.length := by omega
      generalize l[k] = x at hg
      simp only [hlt, decide_true, gd_bool, if_true, bs, ixs1007 hd, Int.natCast_nonneg, Int.toNat_natCast, hg, Option.map_some, mrkr_ld, gdW_bool, hf, dBin_eql, dPick_bool, mkRes_two]
      exact .some rfl
    · have hg : l[k]? = none := List.getElem?_eq_none (by omega)
      have hlt : ¬ (k : Int) < l.length := by omega
      simp only [hlt, decide_false, gd_bool, Bool.false_eq_true, if_false, bs, gdW_bool, dPick_bool, mkRes_two, hg]
      exact .some rfl
theorem s1013 (l : List Mrk) (d : D) (hst fil : Int) (h : Hp) (hd : SlOf 3 mrkr l d) (hl : l.length ≤ 1000000)
   (k : Nat) (hk : k ≤ l.length) (h1 : ∀ i x, l[i]? = some x → i < k → cmpM x ⟨hst, fil, 0⟩ < 0) (h2 : ∀ i x, l[i]? = some x → k ≤ i → 0 ≤ cmpM x ⟨hst, fil, 0⟩) :
   R fn1013 [d, .int .i64 hst, .int .i64 fil] h = some (.tup [.int .i64 k, .bool (match l[k]? with | some x => decide (cmpM x ⟨hst, fil, 0⟩ = 0) | none => false)], h) := by
  have hb : dBuild tab ty1006 [0, 1] [.int .i64 hst, .int .i64 fil] = some (.agg (mrkr ⟨hst, fil, 0⟩)) := id rfl
  rw [e1013]
  simp only [F1013, bs, hb, Option.bind_assoc]
  rw [s1016 l d ⟨hst, fil, 0⟩ (.fn (.func fn1017) [] []) (fun x => cmpM x ⟨hst, fil, 0⟩) h hd hl (fun x => by rw [callV_some]; exact s1017 x _ h) k hk h1 h2]
  rfl
theorem s1001 (h : Hp) : R fn1001 [] h = some (.bool true, h) := by
  have h1 : dBuild tab ty1006 [0, 1, 2] [.int .i64 1, .int .i64 2, .int .i64 3] = some (.agg (mrkr ⟨1, 2, 3⟩)) := id rfl
  have h2 : pLitF tab ty1007 1 [0] [.agg (mrkr ⟨1, 2, 3⟩)] = some (.sl 3 true ([(⟨1, 2, 3⟩ : Mrk)].map mrkr)) := id rfl
  have h3 := s1013 [⟨1, 2, 3⟩] (.sl 3 true ([(⟨1, 2, 3⟩ : Mrk)].map mrkr)) 1 2 h (SlOf.mk _ _ _ _) (by simp) 0 (by simp) (fun i x _ hi => by omega) (fun i x hx _ => by
    cases i with
    | zero => simp at hx; subst hx; decide
    | succ i => simp at hx)
  have h4 : (match [(⟨1, 2, 3⟩ : Mrk)][0]? with | some x => decide (cmpM x ⟨1, 2, 0⟩ = 0) | none => false) = true := by decide
  rw [h4] at h3
  have h5 : ∀ d : D, d.one = true → dBuild tab ty1009 [0] [d] = some (.agg [d, .nils]) := fun d h0 => bd1009_0 d h0
  have h6 : ∀ d : D, pBoxF (.agg [d, .nils]) = some (.fptr [d, .nils]) := fun d => id rfl
  have h7 : dLoad tab h ty3 (.fptr [.int .i64 3]) = some (.int .i64 3) := id rfl
  rw [e1001]
  simp only [F1001, bs, h1, h2, h5 _ (show D.one (.sl 3 true ([(⟨1, 2, 3⟩ : Mrk)].map mrkr)) = true from rfl), e1005, F1005, pBoxF_agg, fa1009_0, ld1007, h3, dExtract_tup, List.getElem?_cons_zero, List.getElem?_cons_succ, dIf_bool, if_true, ixs1007 (SlOf.mk 3 mrkr [(⟨1, 2, 3⟩ : Mrk)] true), Option.map_some, mkRes_one, Int.natCast_nonneg, Int.toNat_natCast, Option.bind_assoc]
  simp [-bind_some, mrkr]
theorem asc_of {l : List (Str × Str)} (h : (l.map (·.1)).Sublist lt98_9) : Asc l := by
  have hp : lt98_9.Pairwise fun a b => Op.bytesLess a b = true ∧ a ≠ b := by decide
  have := hp.sublist h
  rw [List.pairwise_iff_getElem] at this
  intro i p q h1 h2
  obtain ⟨g1, h1⟩ := List.getElem?_eq_some_iff.1 h1
  obtain ⟨g2, h2⟩ := List.getElem?_eq_some_iff.1 h2
  have := this i (i + 1) (by simpa using g1) (by simpa using g2) (by omega)
  simpa [-bind_some, h1, h2] using this
theorem fn_of {l : List (Str × Str)} (h : (l.map (·.1)).Sublist lt98_9) : ∀ p ∈ l, fnameOK p.1 = true ∧ p.1.length ≤ 1000 := by
  intro p hp
  have hm : p.1 ∈ lt98_9 := h.subset (List.mem_map.2 ⟨p, hp, rfl⟩)
  exact (show ∀ s ∈ lt98_9, fnameOK s = true ∧ s.length ≤ 1000 by decide) _ hm
theorem new_get (g : Hp) (T z : Nat) (rows : List (List D)) : (dNew g T z rows)[g.length]? = some (.row T z rows) := by simp [-bind_some, dNew]
theorem new_old (g : Hp) (T z : Nat) (rows : List (List D)) {q : Nat} (hq : q < g.length) : (dNew g T z rows)[q]? = g[q]? := by
  simp only [dNew]; rw [List.getElem?_append_left hq]
theorem new_len (g : Hp) (T z : Nat) (rows : List (List D)) : (dNew g T z rows).length = g.length + 1 := by simp [-bind_some, dNew]
theorem s1051 (n lo hi : Int) (h : Hp) : R fn1051 [.int .i64 n, .int .i64 lo, .int .i64 hi] h = some (.bool (decide (lo ≤ n) && decide (n ≤ hi)), h) := by
  rw [e1051]
  by_cases h1 : lo ≤ n <;> simp [-bind_some, F1051, h1]
def plB (e : Ev) : Bool := (decide (0 ≤ e.a0) && decide (e.a0 ≤ 999)) && ((decide (0 ≤ e.a1) && decide (e.a1 ≤ 2147483646)) && (decide (0 ≤ e.a2) && (decide (e.a2 < e.a3) && decide (e.a3 ≤ 60000))))
theorem s1047 (e : Ev) (h : Hp) : R fn1047 [.agg (evr e)] h = some (.bool (plB e), h) := by
  rw [e1047]
  have k2 := s1051 e.a1 0 2147483646 h
  simp only [F1047, bs, pBoxF_agg, evr, fa31_0, fa31_1, fa31_2, fa31_3, ld3, s1051 e.a0, dBin_geq, dBin_gtr, dBin_leq, plB]
  generalize (decide (0 ≤ e.a0) && decide (e.a0 ≤ 999)) = b1
  generalize (decide (0 ≤ e.a1) && decide (e.a1 ≤ 2147483646)) = b2 at k2 ⊢
  generalize h3 : decide (0 ≤ e.a2) = b3
  generalize h4 : decide (e.a2 < e.a3) = b4
  generalize h5 : decide (e.a3 ≤ 60000) = b5
  cases b1 <;> cases b2 <;> cases b3 <;> cases b4 <;> cases b5 <;> simp [-bind_some, k2, h3, h4, h5]
def lnE (to_ most : Int) : Int → List Lin → Int
  | _, [] => 0
  | at_, l :: r => if l.off = at_ ∧ ¬ l.len < 1 ∧ ¬ IntKind.wrap .i64 (to_ - at_) < l.len ∧ ¬ (r = [] ∧ l.len < IntKind.wrap .i64 (to_ - at_)) then (if most < l.txt.length then 3 else lnE to_ most (IntKind.wrap .i64 (at_ + l.len)) r) else 19
def linesE (e : Ev) (most : Int) : Int := if e.ls.length = 0 then 9 else if 40 < e.ls.length then 4 else lnE e.a3 most e.a2 e.ls
theorem s1048 (e : Ev) (m : Int) (h : Hp) : R fn1048 [.agg (evr e), .int .i64 m] h = some (.int .i64 (linesE e m), h) := by
  suffices Wp (R fn1048 [.agg (evr e), .int .i64 m] h) (fun p => p = (.int .i64 (linesE e m), h)) by
    obtain ⟨p, h1, rfl⟩ := this
    exact h1
  have sc : ∀ (g : Hp) (v : Int), h.length ≤ g.length → (∀ q, q < h.length → g[q]? = h[q]?) → scope h g (.int .i64 v) = some (.int .i64 v, h) := fun g v h1 h2 => scope_eq (by simp) (.int _ _) h1 h2
  rw [e1048]
  simp only [F1048, pBoxF_agg, bs, Option.bind_assoc, evr, fa31_4, fa31_2, ld28, ld3, lens28 e.hld, dBin_eql, dBin_gtr, mkRes_one]
  by_cases g0 : e.ls.length = 0
  · have g0' : (e.ls.length : Int) = 0 := by omega
    simp only [g0', decide_true, dIf_bool, if_true, sc h _ (Nat.le_refl _) (fun _ _ => rfl)]
    exact .some (by simp [-bind_some, linesE, g0])
  by_cases g4 : 40 < e.ls.length
  · have g0' : ¬ (e.ls.length : Int) = 0 := by omega
    have g4' : (40 : Int) < (e.ls.length : Int) := by omega
    simp only [g0', g4', decide_true, decide_false, Bool.false_eq_true, if_false, dIf_bool, if_true, sc h _ (Nat.le_refl _) (fun _ _ => rfl)]
    exact .some (by simp [-bind_some, linesE, g0, g4])
  have g0' : ¬ (e.ls.length : Int) = 0 := by omega
  have g4' : ¬ (40 : Int) < (e.ls.length : Int) := by omega
  have hE : linesE e m = lnE e.a3 m e.a2 e.ls := by simp [-bind_some, linesE, g0, g4]
  rw [hE]
  generalize hV : lnE e.a3 m e.a2 e.ls = V
  simp only [g0', g4', decide_true, decide_false, Bool.false_eq_true, if_false, dIf_bool, if_true]
  refine Wp.loop (fun k ds g => h.length ≤ g.length ∧ (∀ q, q < h.length → g[q]? = h[q]?) ∧ ∃ a b c d f u v, ∃ at_ : Int, ∃ i : Nat, ds = [a, .int .i64 at_, b, c, d, .int .i64 i, f, u, v] ∧ k + i = e.ls.length ∧ lnE e.a3 m at_ (e.ls.drop i) = V)
      (fun x => h.length ≤ x.2.2.length ∧ (∀ q, q < h.length → x.2.2[q]? = h[q]?) ∧ ((x.1 = .ext 1 ∧ V = 0) ∨ (x.1 = .ret ∧ nth 0 x.2.1 = .int .i64 V))) e.ls.length ⟨Nat.le_refl _, fun _ _ => rfl, _, _, _, _, _, _, _, _, 0, rfl, rfl, hV⟩ ?_ ?_
  · rintro k ds g ⟨hgl, hgb, a, b, c, d, f, u, v, at_, i, rfl, hk, hch⟩
    simp only [F1048_L0, nth_zero, nth_succ, bs, Option.bind_assoc, fa31_4, fa31_3, ld28, ld3, lens28 e.hld, dBin_lss]
    refine Wp.dif ?_ ?_
    · intro h0
      have h0 : i < e.ls.length := by have : (i : Int) < e.ls.length := by simpa using h0
                                      omega
      have hg : e.ls[i]? = some e.ls[i] := List.getElem?_eq_getElem h0
      have hw : IntKind.wrap .i64 ((i : Int) + 1) = ((i + 1 : Nat) : Int) := by
        rw [wrap_i64 (by omega) (by omega)]; omega
      have hw4 : IntKind.wrap .i64 ((e.ls.length : Int) - 1) = (e.ls.length : Int) - 1 := wrap_i64 (by omega) (by omega)
      have hlast : (e.ls.drop (i + 1) = []) ↔ (i : Int) = (e.ls.length : Int) - 1 := by
        rw [List.drop_eq_nil_iff]; omega
      rw [List.drop_eq_getElem_cons h0] at hch
      generalize e.ls[i] = x at hg hch
      generalize hrest : e.ls.drop (i + 1) = rest at hch hlast
      simp only [ixs28 e.hld, Int.natCast_nonneg, if_true, Int.toNat_natCast, hg, Option.map_some, bs, linr_ld]
      generalize hg2 : dNew g ty78 3 [[.int .i64 0, .int .i64 0, .str []]] = g2
      have p1 : g2[g.length]? = some (.row ty78 3 [[.int .i64 0, .int .i64 0, .str []]]) := by rw [← hg2]; exact new_get _ _ _ _
      have hb2 : ∀ q, q < g.length → g2[q]? = g[q]? := fun q hq => by rw [← hg2]; exact new_old _ _ _ _ hq
      have hl2 : g2.length = g.length + 1 := by rw [← hg2]; exact new_len _ _ _ _
      clear hg2
      refine wst78 p1 (by rfl) (by rfl) (by simp) (by rfl) fun g3 p3 sg => ?_
      replace p3 : g3[g.length]? = some (.row ty78 3 [linr x]) := p3
      have hgl3 : h.length ≤ g3.length := by have := sg.1; omega
      have hgb3 : ∀ q, q < h.length → g3[q]? = h[q]? := fun q hq => ((sg.2 q (by omega)).trans (hb2 q (by omega))).trans (hgb q hq)
      clear p1 hb2 hl2 sg hgb
      have r3 : g3.row g.length 0 = some [.int .i64 x.off, .int .i64 x.len, .str x.txt] := row_of p3
      simp only [bs, fap78_0, fap78_1, fap78_2, Nat.zero_add, ldp3, ldp9, r3, List.drop_succ_cons, List.drop_zero, List.head?_cons, dBin_sub, hw4, dBin_eql, dBin_neq, len9, dBin_gtr, dBin_lss]
      unfold lnE at hch
      by_cases q1 : x.off = at_
      · by_cases q2 : x.len < 1
        · rw [if_neg (fun hh => hh.2.1 q2)] at hch
          simp only [q1, q2, ne_eq, not_true, decide_false, decide_true, gd_bool, if_true, if_false, Bool.false_eq_true, reduceCtorEq, bs, dPick_bool, dIf_bool, fa31_3, ld3, fap78_0, fap78_1, fap78_2, Nat.zero_add, ldp3, ldp9, r3, List.drop_succ_cons, List.drop_zero, List.head?_cons, dBin_sub, hw4, dBin_eql, dBin_neq, len9, dBin_gtr, dBin_lss]
          exact .some (.inr ⟨by simp, hgl3, hgb3, .inr ⟨rfl, by simp [-bind_some, hch]⟩⟩)
        · by_cases q3 : IntKind.wrap .i64 (e.a3 - at_) < x.len
          · rw [if_neg (fun hh => hh.2.2.1 q3)] at hch
            simp only [q1, q2, q3, ne_eq, not_true, decide_false, decide_true, gd_bool, if_true, if_false, Bool.false_eq_true, reduceCtorEq, bs, dPick_bool, dIf_bool, fa31_3, ld3, fap78_0, fap78_1, fap78_2, Nat.zero_add, ldp3, ldp9, r3, List.drop_succ_cons, List.drop_zero, List.head?_cons, dBin_sub, hw4, dBin_eql, dBin_neq, len9, dBin_gtr, dBin_lss]
            exact .some (.inr ⟨by simp, hgl3, hgb3, .inr ⟨rfl, by simp [-bind_some, hch]⟩⟩)
          · by_cases hi : (i : Int) = (e.ls.length : Int) - 1
            · have hid : decide ((i : Int) = (e.ls.length : Int) - 1) = true := by simpa using hi
              by_cases q4 : x.len < IntKind.wrap .i64 (e.a3 - at_)
              · rw [if_neg (fun hh => hh.2.2.2 ⟨hlast.2 hi, q4⟩)] at hch
                simp only [q1, q2, q3, hid, ne_eq, not_true, not_false_eq_true, decide_false, decide_true, gd_bool, gd_und, if_true, if_false, Bool.false_eq_true, reduceCtorEq, bs, dPick_bool, dIf_bool, fa31_3, ld3, fap78_0, fap78_1, fap78_2, Nat.zero_add, ldp3, ldp9, r3, List.drop_succ_cons, List.drop_zero, List.head?_cons, dBin_sub, hw4, dBin_eql, dBin_neq, len9, dBin_gtr, dBin_lss, q4]
                exact .some (.inr ⟨by simp, hgl3, hgb3, .inr ⟨rfl, by simp [-bind_some, hch]⟩⟩)
              · rw [if_pos ⟨q1, q2, q3, fun hh => q4 hh.2⟩] at hch
                by_cases q5 : m < (x.txt.length : Int)
                · rw [if_pos q5] at hch
                  simp only [q1, q2, q3, hid, ne_eq, not_true, not_false_eq_true, decide_false, decide_true, gd_bool, gd_und, if_true, if_false, Bool.false_eq_true, reduceCtorEq, bs, dPick_bool, dIf_bool, fa31_3, ld3, fap78_0, fap78_1, fap78_2, Nat.zero_add, ldp3, ldp9, r3, List.drop_succ_cons, List.drop_zero, List.head?_cons, dBin_sub, hw4, dBin_eql, dBin_neq, len9, dBin_gtr, dBin_lss, q4, q5]
                  exact .some (.inr ⟨by simp, hgl3, hgb3, .inr ⟨rfl, by simp [-bind_some, hch]⟩⟩)
                · rw [if_neg q5] at hch
                  simp only [q1, q2, q3, hid, ne_eq, not_true, not_false_eq_true, decide_false, decide_true, gd_bool, gd_und, if_true, if_false, Bool.false_eq_true, reduceCtorEq, bs, dPick_bool, dIf_bool, fa31_3, ld3, fap78_0, fap78_1, fap78_2, Nat.zero_add, ldp3, ldp9, r3, List.drop_succ_cons, List.drop_zero, List.head?_cons, dBin_sub, hw4, dBin_eql, dBin_neq, len9, dBin_gtr, dBin_lss, q4, q5, dBin_add, hw]
                  exact .some (.inl ⟨rfl, k - 1, by omega, hgl3, hgb3, _, _, _, _, _, _, _, _, i + 1, rfl, by omega, by rw [hrest]; exact hch⟩)
            · rw [if_pos ⟨q1, q2, q3, fun hh => hi (hlast.1 hh.1)⟩] at hch
              have q4 : True := trivial
              by_cases q5 : m < (x.txt.length : Int)
              · rw [if_pos q5] at hch
                simp only [q1, q2, q3, hi, ne_eq, not_true, not_false_eq_true, decide_false, decide_true, gd_bool, gd_und, if_true, if_false, Bool.false_eq_true, reduceCtorEq, bs, dPick_bool, dIf_bool, fa31_3, ld3, fap78_0, fap78_1, fap78_2, Nat.zero_add, ldp3, ldp9, r3, List.drop_succ_cons, List.drop_zero, List.head?_cons, dBin_sub, hw4, dBin_eql, dBin_neq, len9, dBin_gtr, dBin_lss, q4, q5]
                exact .some (.inr ⟨by simp, hgl3, hgb3, .inr ⟨rfl, by simp [-bind_some, hch]⟩⟩)
              · rw [if_neg q5] at hch
                simp only [q1, q2, q3, hi, ne_eq, not_true, not_false_eq_true, decide_false, decide_true, gd_bool, gd_und, if_true, if_false, Bool.false_eq_true, reduceCtorEq, bs, dPick_bool, dIf_bool, fa31_3, ld3, fap78_0, fap78_1, fap78_2, Nat.zero_add, ldp3, ldp9, r3, List.drop_succ_cons, List.drop_zero, List.head?_cons, dBin_sub, hw4, dBin_eql, dBin_neq, len9, dBin_gtr, dBin_lss, q4, q5, dBin_add, hw]
                exact .some (.inl ⟨rfl, k - 1, by omega, hgl3, hgb3, _, _, _, _, _, _, _, _, i + 1, rfl, by omega, by rw [hrest]; exact hch⟩)
      · rw [if_neg (fun hh => q1 hh.1)] at hch
        simp only [q1, ne_eq, not_false_eq_true, decide_false, decide_true, gd_bool, if_true, if_false, Bool.false_eq_true, reduceCtorEq, bs, dPick_bool, dIf_bool, fa31_3, ld3, fap78_0, fap78_1, fap78_2, Nat.zero_add, ldp3, ldp9, r3, List.drop_succ_cons, List.drop_zero, List.head?_cons, dBin_sub, hw4, dBin_eql, dBin_neq, len9, dBin_gtr, dBin_lss]
        exact .some (.inr ⟨by simp, hgl3, hgb3, .inr ⟨rfl, by simp [-bind_some, hch]⟩⟩)
    · intro h0
      have h0 : ¬ i < e.ls.length := by have : ¬ (i : Int) < e.ls.length := by simpa using h0
                                        omega
      rw [List.drop_of_length_le (by omega)] at hch
      exact .some (.inr ⟨by simp, hgl, hgb, .inl ⟨rfl, hch.symm⟩⟩)
  · rintro ⟨ex, ds, g⟩ ⟨h1, h2, hc⟩
    simp only at h1 h2 hc
    rcases hc with ⟨rfl, rfl⟩ | ⟨rfl, hc⟩
    · simp only [unblk_self, toEnd_nrm, bs, mkRes_one, sc g 0 h1 h2]
      exact .some rfl
    · simp only [unblk_ret, toEnd_ret, exEnd_ret, nth_zero, bs, hc, mkRes_one, sc g V h1 h2]
      exact .some rfl
def dn {α : Type} (c : α → α → Int) (a : Nat) : Nat → List α → List α
  | 0, l => l
  | j + 1, l => match l[j + 1]?, l[j]? with
    | some x, some y => if a < j + 1 ∧ c x y < 0 then dn c a j ((l.set (j + 1) y).set j x) else l
    | _, _ => l
theorem dn_len {α : Type} (c : α → α → Int) (a : Nat) : ∀ (j : Nat) (l : List α), (dn c a j l).length = l.length
  | 0, l => rfl
  | j + 1, l => by
    unfold dn
    split
    · split
      · rw [dn_len c a j]; simp [-bind_some]
      · rfl
    · rfl
def isr {α : Type} (c : α → α → Int) (a : Nat) : Nat → Nat → List α → List α
  | _, 0, l => l
  | i, n + 1, l => isr c a (i + 1) n (dn c a i l)
theorem isr_len {α : Type} (c : α → α → Int) (a : Nat) : ∀ (n i : Nat) (l : List α), (isr c a i n l).length = l.length
  | 0, i, l => rfl
  | n + 1, i, l => by
    unfold isr
    rw [isr_len c a n, dn_len]
theorem set_map_row {α : Type} (f : α → List D) (l : List α) (i : Nat) (x : α) : (l.map f).set i (f x) = (l.set i x).map f := by rw [List.map_set]
theorem ldob2 {h : Hp} {q k T z : Nat} {rows : List (List D)} {p : Str × Str} (hq : h[q]? = some (.row T z rows)) (hk : rows[k]? = some (fld p)) : dLoad tab h ty109 (.ptr q k 0) = some (.agg (fld p)) := by
  rw [ldp109, row_of hq, hk]
  rfl
theorem l1065 (c : Str × Str → Str × Str → Int) (cmp : D) (hc : ∀ x y g, callV R cmp [.agg (fld x), .agg (fld y)] g = some (.int .i64 (c x y), g)) (ob N a : Nat) (hN : N ≤ 1000000000) {β : Type} {K : Out → Option β} {Q : β → Prop}
    (l : List (Str × Str)) (hl : l.length = N) (j : Nat) (hj : j < N) (h : Hp) (ho : h[ob]? = some (.row ty109 2 (l.map fld))) (b : D)
    (k : ∀ x y h', h'[ob]? = some (.row ty109 2 ((dn c a j l).map fld)) → Same ob h h' → Wp (K (.ext 2, [x, y], h')) Q) :
    Wp ((loopW (F1065_L1 (.msl 2 ob 0 N) (.int .i64 a) cmp) [.int .i64 j, b] h).bind K) Q := by
  generalize hV : dn c a j l = V at k
  refine Wp.loop (fun n ds g => ∃ b, ∃ j : Nat, ∃ l' : List (Str × Str), n = j ∧ ds = [.int .i64 j, b] ∧ l'.length = N ∧ j < N ∧ g[ob]? = some (.row ty109 2 (l'.map fld)) ∧ Same ob h g ∧ dn c a j l' = V)
    (fun r => r.1 = .ext 2 ∧ (∃ x y, r.2.1 = [x, y]) ∧ r.2.2[ob]? = some (.row ty109 2 (V.map fld)) ∧ Same ob h r.2.2) j ⟨b, j, l, rfl, rfl, hl, hj, ho, .refl _ _, hV⟩ ?_ ?_
  · clear ho hl hj hV l j
    rintro n ds g ⟨b, j, l, rfl, rfl, hl, hj, ho, sm, hV⟩
    simp only [F1065_L1, nth_zero, nth_succ, bs, Option.bind_assoc, dBin_gtr]
    cases n with
    | zero =>
      have hq : ¬ (a : Int) < ((0 : Nat) : Int) := by omega
      have hV : l = V := hV
      subst hV
      simp only [hq, decide_false, gd_bool, gdW_bool, Bool.false_eq_true, if_false, reduceCtorEq, bs, dPick_bool, dIf_bool]
      exact .some (.inr ⟨by simp, rfl, ⟨_, _, rfl⟩, ho, sm⟩)
    | succ j =>
      have g1 : l[j + 1]? = some l[j + 1] := List.getElem?_eq_getElem (by omega)
      have g0 : l[j]? = some l[j] := List.getElem?_eq_getElem (by omega)
      unfold dn at hV
      rw [g1, g0] at hV
      simp only at hV
      generalize l[j + 1] = x at g1 hV
      generalize l[j] = y at g0 hV
      by_cases ha : a < j + 1
      · have ha' : (a : Int) < ((j + 1 : Nat) : Int) := by omega
        have hw : IntKind.wrap .i64 (((j + 1 : Nat) : Int) - 1) = (j : Int) := by
          rw [wrap_i64 (by omega) (by omega)]; omega
        have i1 : (0 : Int) ≤ ((j + 1 : Nat) : Int) ∧ ((j + 1 : Nat) : Int) < (N : Int) := by omega
        have i0 : (0 : Int) ≤ (j : Int) ∧ (j : Int) < (N : Int) := by omega
        have m1 : (l.map fld)[j + 1]? = some (fld x) := by rw [List.getElem?_map, g1]; rfl
        have m0 : (l.map fld)[j]? = some (fld y) := by rw [List.getElem?_map, g0]; rfl
        simp only [ha', decide_true, gd_bool, gdW_bool, if_true, ixm29, i1, i0, and_self, Nat.zero_add, Int.toNat_natCast, dBin_sub, hw, bs, ldob2 ho m1, ldob2 ho m0, hc, dBin_lss, dPick_bool]
        by_cases hlt : c x y < 0
        · rw [if_pos ⟨ha, hlt⟩] at hV
          simp only [hlt, decide_true, dIf_bool, if_true]
          refine wst109 ho m1 (by rfl) (by simp [-bind_some, fld]) (by rfl) fun g2 p2 s2 => ?_
          rw [show spl (fld x) 0 (cells1 (.agg (fld y))) = fld y from id rfl, set_map_row] at p2
          have m2 : ((l.set (j + 1) y).map fld)[j]? = some (fld y) := by
            rw [List.getElem?_map, List.getElem?_set_ne (by omega), g0]; rfl
          try simp only [bs, i0, and_self, if_true, Nat.zero_add, Int.toNat_natCast]
          refine wst109 p2 m2 (by rfl) (by simp [-bind_some, fld]) (by rfl) fun g3 p3 s3 => ?_
          rw [show spl (fld y) 0 (cells1 (.agg (fld x))) = fld x from id rfl, set_map_row] at p3
          try simp only [bs]
          exact .some (.inl ⟨rfl, j, by omega, _, j, _, rfl, rfl, by simpa using hl, by omega, p3, (sm.trans s2).trans s3, hV⟩)
        · rw [if_neg (fun hh => hlt hh.2)] at hV
          subst hV
          simp only [hlt, decide_false, dIf_bool, Bool.false_eq_true, if_false]
          exact .some (.inr ⟨by simp, rfl, ⟨_, _, rfl⟩, ho, sm⟩)
      · rw [if_neg (fun hh => ha hh.1)] at hV
        subst hV
        have ha' : ¬ (a : Int) < ((j + 1 : Nat) : Int) := by omega
        simp only [ha', decide_false, gd_bool, gdW_bool, Bool.false_eq_true, if_false, reduceCtorEq, bs, dPick_bool, dIf_bool]
        exact .some (.inr ⟨by simp, rfl, ⟨_, _, rfl⟩, ho, sm⟩)
  · rintro ⟨x, ds, g⟩ ⟨rfl, ⟨u, v, rfl⟩, h1, h2⟩
    exact k u v g h1 h2
theorem s1065 (c : Str × Str → Str × Str → Int) (cmp : D) (hc : ∀ x y g, callV R cmp [.agg (fld x), .agg (fld y)] g = some (.int .i64 (c x y), g)) (ob N a b : Nat) (hN : N ≤ 1000000000) (hab : a < b ∨ (a = b ∧ b ≤ N)) (hb : b ≤ N)
    (l : List (Str × Str)) (hl : l.length = N) (h : Hp) (ho : h[ob]? = some (.row ty109 2 (l.map fld))) :
    ∃ d h', R fn1065 [.msl 2 ob 0 N, .int .i64 a, .int .i64 b, cmp] h = some (d, h') ∧ h'[ob]? = some (.row ty109 2 ((isr c a (a + 1) (b - (a + 1)) l).map fld)) ∧ Same ob h h' := by
  suffices Wp (R fn1065 [.msl 2 ob 0 N, .int .i64 a, .int .i64 b, cmp] h) (fun p => p.2[ob]? = some (.row ty109 2 ((isr c a (a + 1) (b - (a + 1)) l).map fld)) ∧ Same ob h p.2) by
    obtain ⟨⟨x, h'⟩, h1, h2⟩ := this
    exact ⟨x, h', h1, h2⟩
  rw [e1065]
  have hw : IntKind.wrap .i64 ((a : Int) + 1) = ((a + 1 : Nat) : Int) := by rw [wrap_i64 (by omega) (by omega)]; omega
  simp only [F1065, bs, Option.bind_assoc, dBin_add, hw]
  generalize hV : isr c a (a + 1) (b - (a + 1)) l = V
  refine Wp.loop (fun n ds g => ∃ u v w, ∃ i : Nat, ∃ l' : List (Str × Str), ds = [.int .i64 i, u, v, w] ∧ n = b - i ∧ l'.length = N ∧ g[ob]? = some (.row ty109 2 (l'.map fld)) ∧ Same ob h g ∧ isr c a i (b - i) l' = V)
    (fun r => r.1 = .ext 0 ∧ r.2.2[ob]? = some (.row ty109 2 (V.map fld)) ∧ Same ob h r.2.2) (b - (a + 1)) ⟨_, _, _, a + 1, l, rfl, rfl, hl, ho, .refl _ _, hV⟩ ?_ ?_
  · rintro n ds g ⟨u, v, w, i, l', rfl, rfl, hl', ho', sm, hV⟩
    simp only [F1065_L0, nth_zero, nth_succ, bs, Option.bind_assoc, dBin_lss]
    refine Wp.dif ?_ ?_
    · intro h0
      have h0 : i < b := by have : (i : Int) < (b : Int) := by simpa using h0
                            omega
      have hb1 : b - i = (b - (i + 1)) + 1 := by omega
      rw [hb1] at hV
      unfold isr at hV
      have hw2 : IntKind.wrap .i64 ((i : Int) + 1) = ((i + 1 : Nat) : Int) := by rw [wrap_i64 (by omega) (by omega)]; omega
      refine l1065 c cmp hc ob N a hN l' hl' i (by omega) g ho' _ fun x y g2 p2 s2 => ?_
      simp only [unblk_self, unblk_nrm, toEnd_nrm, bs, nth_zero, dBin_add, hw2]
      exact .some (.inl ⟨rfl, b - (i + 1), by omega, _, _, _, i + 1, _, rfl, rfl, by rw [dn_len]; exact hl', p2, sm.trans s2, hV⟩)
    · intro h0
      have h0 : ¬ i < b := by have : ¬ (i : Int) < (b : Int) := by simpa using h0
                              omega
      rw [show b - i = 0 by omega] at hV
      have hV : l' = V := hV
      subst hV
      exact .some (.inr ⟨by simp, rfl, ho', sm⟩)
  · rintro ⟨x, ds, g⟩ ⟨rfl, h1, h2⟩
    simp only [unblk_self, exEnd_nrm, bs]
    exact .some ⟨h1, h2⟩
theorem cmpB_lt : ∀ (a b : Str), Lib.compareBytes a b < 0 ↔ Op.bytesLess a b = true
  | [], [] => by simp [-bind_some, Lib.compareBytes, Op.bytesLess]
  | [], _ :: _ => by simp [-bind_some, Lib.compareBytes, Op.bytesLess]
  | _ :: _, [] => by simp [-bind_some, Lib.compareBytes, Op.bytesLess]
  | x :: a, y :: b => by
    have ih := cmpB_lt a b
    simp only [Lib.compareBytes, Op.bytesLess]
    by_cases h1 : x < y
    · simp [-bind_some, h1]
    · by_cases h2 : y < x
      · have h3 : ¬ x = y := fun hh => by subst hh; exact h1 h2
        simp [-bind_some, h1, h2, h3]
      · have h3 : x = y := by
          apply UInt8.toNat_inj.1
          have := mt UInt8.lt_iff_toNat_lt.2 h1
          have := mt UInt8.lt_iff_toNat_lt.2 h2
          omega
        subst h3
        simp [-bind_some, h1, ih]
def cF (x y : Str × Str) : Int := Lib.compareBytes x.1 y.1
theorem s1059 (a b : Str) (h : Hp) : R fn1059 [.str a, .str b] h = some (.int .i64 (Lib.compareBytes a b), h) := by
  rw [e1059]
  simp only [F1059, bs, e1064, F1064, xcmp, mkRes_one]
theorem s1058 (x y : Str × Str) (h : Hp) : R fn1058 [.agg (fld x), .agg (fld y)] h = some (.int .i64 (cF x y), h) := by
  rw [e1058]
  simp only [F1058, bs, pBoxF_agg, fld_f0, fld_l0, s1059, mkRes_one, cF]
theorem c1058 (x y : Str × Str) (h : Hp) : callV R (.fn (.func fn1058) [] []) [.agg (fld x), .agg (fld y)] h = some (.int .i64 (cF x y), h) := by
  rw [callV_some]; exact s1058 x y h
theorem s1063 (c : Str × Str → Str × Str → Int) (cmp : D) (hc : ∀ x y g, callV R cmp [.agg (fld x), .agg (fld y)] g = some (.int .i64 (c x y), g)) (ob N : Nat) (hN : N ≤ 20)
    (l : List (Str × Str)) (hl : l.length = N) (h : Hp) (ho : h[ob]? = some (.row ty109 2 (l.map fld))) :
    ∃ d h', R fn1063 [.msl 2 ob 0 N, .int .i64 N, cmp] h = some (d, h') ∧ h'[ob]? = some (.row ty109 2 ((isr c 0 1 (N - 1) l).map fld)) ∧ Same ob h h' := by
  suffices Wp (R fn1063 [.msl 2 ob 0 N, .int .i64 N, cmp] h) (fun p => p.2[ob]? = some (.row ty109 2 ((isr c 0 1 (N - 1) l).map fld)) ∧ Same ob h p.2) by
    obtain ⟨⟨x, h'⟩, h1, h2⟩ := this
    exact ⟨x, h', h1, h2⟩
  rw [e1063]
  simp only [F1063, bs, Option.bind_assoc]
  refine Wp.loop (fun n ds g => (n = 1 ∧ ∃ u, ds = [.int .i64 0, .int .i64 20, u] ∧ g = h) ∨ (n = 0 ∧ N = 20 ∧ ∃ u, ds = [.int .i64 20, .int .i64 40, u] ∧ g[ob]? = some (.row ty109 2 ((isr c 0 1 (N - 1) l).map fld)) ∧ Same ob h g))
    (fun r => r.1 = .ext 0 ∧ ∃ (a : Nat) (u v : D), r.2.1 = [.int .i64 a, u, v] ∧ ((a = 0 ∧ r.2.2 = h) ∨ (a = N ∧ r.2.2[ob]? = some (.row ty109 2 ((isr c 0 1 (N - 1) l).map fld)) ∧ Same ob h r.2.2))) 1 (.inl ⟨rfl, _, rfl, rfl⟩) ?_ ?_
  · rintro n ds g (⟨rfl, u, rfl, rfl⟩ | ⟨rfl, h20, u, rfl, p1, s1⟩)
    · simp only [F1063_L0, nth_zero, nth_succ, bs, Option.bind_assoc, dBin_leq]
      refine Wp.dif ?_ ?_
      · intro h0
        have h0 : N = 20 := by have : (20 : Int) ≤ (N : Int) := by simpa using h0
                               omega
        obtain ⟨d, h', e1, p1, s1⟩ := s1065 c cmp hc ob N 0 20 (by omega) (by omega) (by omega) l hl g ho
        have e1 : R fn1065 [.msl 2 ob 0 N, .int .i64 0, .int .i64 20, cmp] g = some (d, h') := e1
        simp only [e1, bs, dBin_add, show IntKind.wrap .i64 ((20 : Int) + 20) = 40 from rfl]
        exact .some (.inl ⟨rfl, 0, by omega, .inr ⟨rfl, h0, _, rfl, by rw [h0]; exact p1, s1⟩⟩)
      · intro h0
        exact .some (.inr ⟨by simp, rfl, 0, _, _, rfl, .inl ⟨rfl, rfl⟩⟩)
    · have hq : ¬ (40 : Int) ≤ (N : Int) := by omega
      simp only [F1063_L0, nth_zero, nth_succ, bs, Option.bind_assoc, dBin_leq, hq, decide_false, dIf_bool, Bool.false_eq_true, if_false]
      exact .some (.inr ⟨by simp, rfl, 20, _, _, rfl, .inr ⟨h20.symm, p1, s1⟩⟩)
  · rintro ⟨x, ds, g⟩ ⟨rfl, a, u, v, rfl, hg⟩
    simp only [unblk_self, toEnd_nrm, nth_zero, nth_succ, bs]
    have hin : ∃ d h', R fn1065 [.msl 2 ob 0 N, .int .i64 a, .int .i64 N, cmp] g = some (d, h') ∧ h'[ob]? = some (.row ty109 2 ((isr c 0 1 (N - 1) l).map fld)) ∧ Same ob h h' := by
      rcases hg with ⟨rfl, rfl⟩ | ⟨rfl, p1, s1⟩
      · exact s1065 c cmp hc ob N 0 N (by omega) (by omega) (by omega) l hl g ho
      · obtain ⟨d, h', q1, q2, q3⟩ := s1065 c cmp hc ob a a a (by omega) (by omega) (by omega) _ (by rw [isr_len]; exact hl) g p1
        rw [show a - (a + 1) = 0 by omega] at q2
        exact ⟨d, h', q1, q2, s1.trans q3⟩
    obtain ⟨d, h', q1, q2, q3⟩ := hin
    simp only [q1, bs]
    rw [loopW_eq]
    have hq : ¬ (20 : Int) < (N : Int) := by omega
    simp only [F1063_L1, nth_zero, nth_succ, bs, Option.bind_assoc, dBin_lss, hq, decide_false, dIf_bool, Bool.false_eq_true, if_false, unblk_self, exEnd_nrm]
    exact .some ⟨q2, q3⟩
theorem s1057 (c : Str × Str → Str × Str → Int) (cmp : D) (hc : ∀ x y g, callV R cmp [.agg (fld x), .agg (fld y)] g = some (.int .i64 (c x y), g)) (ob N : Nat) (hN : N ≤ 20)
    (l : List (Str × Str)) (hl : l.length = N) (h : Hp) (ho : h[ob]? = some (.row ty109 2 (l.map fld))) :
    ∃ d h', R fn1057 [.msl 2 ob 0 N, cmp] h = some (d, h') ∧ h'[ob]? = some (.row ty109 2 ((isr c 0 1 (N - 1) l).map fld)) ∧ Same ob h h' := by
  obtain ⟨d, h', q1, q2, q3⟩ := s1063 c cmp hc ob N hN l hl h ho
  refine ⟨mkRes [], h', ?_, q2, q3⟩
  rw [e1057]
  simp only [F1057, bs, lenm29, q1]
-- classes of bytes, by the program's table
theorem ixA (cs : List D) (i : Int) (h0 : 0 ≤ i) (h1 : i < 256) (hl : i.toNat < cs.length) : dIndexAddr tab ty1044 (.fptr cs) (.int .u8 i) = some (.fptr (cs.drop i.toNat)) := by
  have := ia_arr (T := tab) (t := ty1044) (n := 256) (z := 1) (i := ti1044) (j := ti5) (id rfl) (id rfl) (id rfl) (id rfl) (by omega) (cs := cs) (k := .u8) h0 h1 (by omega)
  rwa [Nat.mul_one] at this
theorem kinZ_len : kinZ.length = 256 := by decide
theorem kin_len : kin.length = 256 := by simp [-bind_some, kin, kinZ_len]
theorem kin_at (i : Nat) (hi : i < 256) : ∃ z, kin.drop i = .int .u8 z :: kin.drop (i + 1) ∧ kinZ[i]? = some z := by
  have hl := kinZ_len
  have hk := kin_len
  refine ⟨kinZ[i]'(by omega), ?_, List.getElem?_eq_getElem (by omega)⟩
  rw [List.drop_eq_getElem_cons (by omega)]
  simp [-bind_some, kin]
def kletter (z : Int) : Bool := decide (IntKind.wrap .u8 (BitVec.ofInt IntKind.u8.bits z &&& BitVec.ofInt IntKind.u8.bits 2).toNat ≠ 0)
def kword (z : Int) : Bool := decide (IntKind.wrap .u8 (BitVec.ofInt IntKind.u8.bits z &&& BitVec.ofInt IntKind.u8.bits 3).toNat ≠ 0)
theorem k_all : ∀ i : Fin 256, (kinZ[i.val]?).map kletter = some (letter i.val) ∧ (kinZ[i.val]?).map kword = some (digit i.val || letter i.val) := by decide
theorem s1061 (c : UInt8) (h : Hp) : R fn1061 [.int .u8 c.toNat] h = some (.bool (letter c.toNat), h) := by
  have hc : c.toNat < 256 := c.toNat_lt
  obtain ⟨z, hz, hg⟩ := kin_at c.toNat hc
  have hk := (k_all ⟨c.toNat, hc⟩).1
  simp only [hg, Option.map_some, Option.some.injEq] at hk
  have hl := kin_len
  rw [e1061]
  simp only [F1061, bs, ixA kin c.toNat (by omega) (by omega) (by rw [hl]; simpa using hc), Int.toNat_natCast, hz, ld5, dBin_and, dBin_neq, mkRes_one, ← hk, kletter]
theorem s1062 (c : UInt8) (h : Hp) : R fn1062 [.int .u8 c.toNat] h = some (.bool (wordc c.toNat), h) := by
  have hc : c.toNat < 256 := c.toNat_lt
  obtain ⟨z, hz, hg⟩ := kin_at c.toNat hc
  have hk := (k_all ⟨c.toNat, hc⟩).2
  simp only [hg, Option.map_some, Option.some.injEq] at hk
  have hl := kin_len
  rw [e1062]
  simp only [kword] at hk
  simp only [F1062, bs, ixA kin c.toNat (by omega) (by omega) (by rw [hl]; simpa using hc), Int.toNat_natCast, hz, ld5, dBin_and, dBin_neq, dBin_eql, wordc, hk]
  cases hq : (digit c.toNat || letter c.toNat) <;> simp [-bind_some]
theorem l1056 (s : Str) (h : Hp) (ob : Nat) (hob : h[ob]? = some (.row ty5 1 (bytesRows s))) (hl : s.length ≤ 9223372036854775807) {β : Type} (K : Out → Option β) (X : Bool → Option β) (hh : Hp)
   (hX : ∀ r, K (.ret, .bool false :: r, h) = X false) (hY : ∀ r, K (.ext 0, r, h) = X true) : ∀ (suf pre : Str), s = pre ++ suf → ∀ a b e f,
   (loopW (F1056_L0 (.msl 1 ob 0 s.length, hh) (.int .i64 s.length)) [a, b, .int .i64 pre.length, e, f] h).bind K = X (suf.all nameC) := by
  intro suf
  induction suf with
  | nil =>
    rintro pre rfl a b e f
    rw [loopW_eq]
    simp [-bind_some, F1056_L0, hY]
  | cons p suf ih =>
    rintro pre rfl a b e f
    have hw : IntKind.wrap .i64 ((pre.length : Int) + 1) = (pre ++ [p]).length := by
      rw [wrap_i64 (by omega) (by simp at hl; omega)]; simp [-bind_some]
    have hlt : (pre.length : Int) < (pre ++ p :: suf).length := by simp; omega
    rw [loopW_eq]
    generalize hL : pre ++ p :: suf = L at *
    have hg : (bytesRows L)[pre.length]? = some [.int .u8 p.toNat] := by rw [← hL]; simp [-bind_some, bytesRows]
    have hld : dLoad tab h ty5 (.ptr ob pre.length 0) = some (.int .u8 p.toNat) := by
      rw [ldp5, row_of hob, hg]; rfl
    have h0 : (0 : Int) ≤ (pre.length : Int) ∧ (pre.length : Int) < (L.length : Int) := ⟨by omega, hlt⟩
    cases hp : wordc p.toNat
    · by_cases h46 : (p.toNat : Int) = 46
      · have := ih (pre ++ [p]) (by simp [-bind_some, ← hL]) a (.int .u8 p.toNat) (.bool true) (.bool false)
        simp only [← hw] at this
        have h47 : wordc 46 = false := rfl
        have hs := s1062 p h
        rw [hp] at hs
        have hpn : nameC p = true := by simp [-bind_some, nameC, hp, h46]
        have hn : decide ((p.toNat : Int) ≠ 46) = false := by simp [-bind_some, h46]
        simp only [F1056_L0, nth_zero, nth_succ, bs, dBin_lss, hlt, decide_true, dIf_bool, if_true, ixm22, h0, and_self, Nat.zero_add, Int.toNat_natCast, hld, hs, dUn_not, Bool.not_false, gd_bool, dBin_neq, hn, dPick_bool, Bool.false_eq_true, if_false, dBin_add, List.all_cons, hpn, Bool.true_and]
        exact this
      · have hs := s1062 p h
        rw [hp] at hs
        have hpn : nameC p = false := by simp [-bind_some, nameC, hp, h46]
        have hn : decide ((p.toNat : Int) ≠ 46) = true := by simp [-bind_some, h46]
        simp only [F1056_L0, nth_zero, nth_succ, bs, dBin_lss, hlt, decide_true, dIf_bool, if_true, ixm22, h0, and_self, Nat.zero_add, Int.toNat_natCast, hld, hs, dUn_not, Bool.not_false, gd_bool, dBin_neq, hn, dPick_bool, List.all_cons, hpn, Bool.false_and, hX]
    · have := ih (pre ++ [p]) (by simp [-bind_some, ← hL]) a (.int .u8 p.toNat) (.bool true) (.bool false)
      simp only [← hw] at this
      have hs := s1062 p h
      rw [hp] at hs
      have hpn : nameC p = true := by simp [-bind_some, nameC, hp]
      simp only [F1056_L0, nth_zero, nth_succ, bs, dBin_lss, hlt, decide_true, dIf_bool, if_true, ixm22, h0, and_self, Nat.zero_add, Int.toNat_natCast, hld, hs, dUn_not, Bool.not_true, gd_bool, Bool.false_eq_true, if_false, reduceCtorEq, dPick_bool, dBin_add, List.all_cons, hpn, Bool.true_and]
      exact this
theorem s1056 (s : Str) (h : Hp) : R fn1056 [.str s] h = some (.bool (fnameOK s), h) := by
  have sc : ∀ (g : Hp) (v : Bool), h.length ≤ g.length → (∀ q, q < h.length → g[q]? = h[q]?) → scope h g (.bool v) = some (.bool v, h) := fun g v h1 h2 => scope_eq (by simp) (.bool _) h1 h2
  rw [e1056]
  cases s with
  | nil =>
    simp only [F1056, bs, dBin_seql, beq_self_eq_true, gd_bool, gdW_bool, reduceCtorEq, if_false, dPick_bool, if_true, dIf_bool, mkRes_one, Bool.true_eq_false, sc h _ (Nat.le_refl _) (fun _ _ => rfl)]
    rfl
  | cons c r =>
    have hne : ((c :: r : Str) == []) = false := by simp
    by_cases h32 : (32 : Int) < ((c :: r).length : Int)
    · have hf : fnameOK (c :: r) = false := by
        have : ¬ (c :: r).length ≤ 32 := by omega
        simp [-bind_some, fnameOK]
        intro hh; simp at this; omega
      simp only [F1056, bs, dBin_seql, hne, gd_bool, gdW_bool, if_true, len9, dBin_gtr, h32, decide_true, reduceCtorEq, if_false, dPick_bool, dIf_bool, mkRes_one, Bool.true_eq_false, Bool.false_eq_true, gd_und, gdW_und, sc h _ (Nat.le_refl _) (fun _ _ => rfl), hf]
    · have hle : (c :: r).length ≤ 32 := by omega
      have hi0 := sidx (c :: r) 0 c rfl
      have hi0 : dIndex tab ty9 (.str (c :: r)) (.int .i64 0) = some (.int .u8 c.toNat) := hi0
      have hs := s1061 c h
      have hwb : wBytes ty5 h (.str (c :: r)) = some (.msl 1 h.length 0 (c :: r).length, dNew h ty5 1 (bytesRows (c :: r))) := if_pos (lim_ok (by omega) (by omega))
      have p1 := new_get h ty5 1 (bytesRows (c :: r))
      have hsc : ∀ v, scope h (dNew h ty5 1 (bytesRows (c :: r))) (.bool v) = some (.bool v, h) := fun v => sc _ _ (by rw [new_len]; omega) fun q hq => new_old _ _ _ _ hq
      have go : ∀ (b : Bool), (letter c.toNat || decide ((c.toNat : Int) = 95)) = b → fnameOK (c :: r) = (b && (c :: r).all nameC) := fun b hb => by
        simp only [fnameOK, hle, decide_true, Bool.true_and, hb]
      cases hq : letter c.toNat
      · rw [hq] at hs
        by_cases h95 : (c.toNat : Int) = 95
        · have hn95 : decide ((c.toNat : Int) ≠ 95) = false := by simp [-bind_some, h95]
          rw [go true (by simp [-bind_some, hq, h95])]
          simp only [F1056, bs, Option.bind_assoc, dBin_seql, hne, gd_bool, gdW_bool, if_true, len9, dBin_gtr, h32, decide_false, reduceCtorEq, if_false, dPick_bool, dIf_bool, Bool.false_eq_true, hi0, hs, dUn_not, Bool.not_false, dBin_neq, hn95, hwb, lenm22]
          have := l1056 (c :: r) (dNew h ty5 1 (bytesRows (c :: r))) h.length p1 (by omega) (fun r_1 => (some ((unblk 0 r_1.1), [(nth 0 r_1.2.1), (nth 1 r_1.2.1), (nth 2 r_1.2.1), (nth 3 r_1.2.1), (nth 4 r_1.2.1)], r_1.2.2)).bind fun r_2 => toEnd r_2.1 (scope h r_2.2.2 (.bool true)) fun x => exEnd x (scope h r_2.2.2 (mkRes [nth 0 r_2.2.1]))) (fun b => some (.bool b, h)) (dNew h ty5 1 (bytesRows (c :: r))) (fun r => by simp [-bind_some, hsc]) (fun r => by simp [-bind_some, hsc]) (c :: r) [] rfl (.bool false) .any .any .any
          simpa using this
        · have hn95 : decide ((c.toNat : Int) ≠ 95) = true := by simp [-bind_some, h95]
          rw [go false (by simp [-bind_some, hq, h95])]
          simp only [F1056, bs, dBin_seql, hne, gd_bool, gdW_bool, if_true, len9, dBin_gtr, h32, decide_false, reduceCtorEq, if_false, dPick_bool, dIf_bool, Bool.false_eq_true, hi0, hs, dUn_not, Bool.not_false, dBin_neq, hn95, mkRes_one, sc h _ (Nat.le_refl _) (fun _ _ => rfl), Bool.false_and]
      · rw [hq] at hs
        rw [go true (by simp [-bind_some, hq])]
        simp only [F1056, bs, Option.bind_assoc, dBin_seql, hne, gd_bool, gdW_bool, if_true, len9, dBin_gtr, h32, decide_false, reduceCtorEq, if_false, dPick_bool, dIf_bool, Bool.false_eq_true, hi0, hs, dUn_not, Bool.not_true, hwb, lenm22, gd_und]
        have := l1056 (c :: r) (dNew h ty5 1 (bytesRows (c :: r))) h.length p1 (by omega) (fun r_1 => (some ((unblk 0 r_1.1), [(nth 0 r_1.2.1), (nth 1 r_1.2.1), (nth 2 r_1.2.1), (nth 3 r_1.2.1), (nth 4 r_1.2.1)], r_1.2.2)).bind fun r_2 => toEnd r_2.1 (scope h r_2.2.2 (.bool true)) fun x => exEnd x (scope h r_2.2.2 (mkRes [nth 0 r_2.2.1]))) (fun b => some (.bool b, h)) (dNew h ty5 1 (bytesRows (c :: r))) (fun r => by simp [-bind_some, hsc]) (fun r => by simp [-bind_some, hsc]) (c :: r) [] rfl (.bool false) .any .any .any
        simpa using this
def RdF (h : Hp) (l : List (Str × Str)) (d : D) : Prop := SlOf 2 fld l d ∨ ∃ ob, d = .msl 2 ob 0 l.length ∧ h[ob]? = some (.row ty109 2 (l.map fld))
theorem rdF_len {h : Hp} {l : List (Str × Str)} {d : D} (hd : RdF h l d) : dLenT tab ty29 d = some (.int .i64 l.length) := by
  rcases hd with hd | ⟨ob, rfl, _⟩
  · exact lens29 hd
  · exact lenm29 _ _ _ _
theorem rdF_ix {h : Hp} {l : List (Str × Str)} {d : D} (hd : RdF h l d) (i : Nat) (p : Str × Str) (hp : l[i]? = some p) : ∃ q, dIndexAddr tab ty29 d (.int .i64 i) = some q ∧ dLoad tab h ty109 q = some (.agg (fld p)) ∧
    ∃ q0, dFieldAddr tab ty109 0 q = some q0 ∧ dLoad tab h ty9 q0 = some (.str p.1) := by
  have hi := (List.getElem?_eq_some_iff.1 hp).1
  rcases hd with hd | ⟨ob, rfl, ho⟩
  · exact ⟨.fptr (fld p), by rw [ixs29 hd]; simp [-bind_some, hp], fld_ld p h, .fptr (fld p), fld_f0 p, fld_l0 p h⟩
  · have hr : (l.map fld)[i]? = some (fld p) := by rw [List.getElem?_map, hp]; rfl
    have hh : (0 : Int) ≤ (i : Int) ∧ (i : Int) < (l.length : Int) := by omega
    refine ⟨.ptr ob i 0, by rw [ixm29]; simp [-bind_some, hh], ldob2 ho hr, .ptr ob i 0, by rw [fap109_0], ?_⟩
    rw [ldp9, row_of ho, hr]; rfl
theorem RdF.keep {h h' : Hp} {l : List (Str × Str)} {d : D} (hd : RdF h l d) (hk : ∀ (q T z : Nat) (rows : List (List D)), h[q]? = some (Ob.row T z rows) → h'[q]? = h[q]?) : RdF h' l d := by
  rcases hd with hd | ⟨ob, rfl, ho⟩
  · exact .inl hd
  · exact .inr ⟨ob, rfl, by rw [hk ob _ _ _ ho]; exact ho⟩
theorem u1009 (l : List (Str × Str)) (d : D) (h : Hp) (hd : SlOf 2 fld l d) (hl : l.length ≤ 1000000) : ∃ d' h', R fn1009 [d] h = some (d', h') ∧ h.length ≤ h'.length ∧ (∀ q, q < h.length → h'[q]? = h[q]?) ∧
    ((l = [] ∧ SlOf 2 fld [] d') ∨ ∃ ob, h.length ≤ ob ∧ d' = .msl 2 ob 0 l.length ∧ h'[ob]? = some (.row ty109 2 (l.map fld))) := by
  rw [e1009]
  rcases hd with ⟨rfl, rfl⟩ | ⟨b, rfl⟩
  · exact ⟨.nils, h, by
      have hne : dBin tab .eql ty29 .nils .nils = some (.bool true) := id rfl
      simp [-bind_some, F1009, hne], Nat.le_refl _, fun _ _ => rfl, .inl ⟨rfl, .nils _ _⟩⟩
  · obtain ⟨x', h', e, hl', hq, ho⟩ := app_full (T := tab) (t := ty29) (i := ti29) (j := ti109) (h := h) (id rfl) (id rfl) (id rfl) (by decide) (y := .sl 2 b (l.map fld)) (rowsOf_sl _ _ _ _) (lim_ok (by have : ti109.by_ = 32 := rfl; rw [this, List.length_map]; omega) (by rw [List.length_map]; omega))
    have e' : dAppend tab h ty29 ty29 (.sl 2 true []) (.sl 2 b (l.map fld)) = some (x', h') := e
    have hne : dBin tab .eql ty29 (.sl 2 b (l.map fld)) .nils = some (.bool false) := id rfl
    refine ⟨x', h', ?_, hl', hq, ?_⟩
    · simp only [F1009, bs, hne, dIf_bool, Bool.false_eq_true, if_false, bs29_0, e', mkRes_one]
    · rcases ho with ⟨rfl, hn⟩ | ⟨rfl, hn⟩ | ⟨ob, h1, rfl, h2⟩
      · have : l = [] := by simpa using hn
        exact .inl ⟨this, .inr ⟨true, rfl⟩⟩
      · have : l = [] := by simpa using hn
        exact .inl ⟨this, .nils _ _⟩
      · exact .inr ⟨ob, h1, by rw [List.length_map]; rfl, h2⟩
def srt (l : List (Str × Str)) : List (Str × Str) := isr cF 0 1 (l.length - 1) l
theorem srt_len (l : List (Str × Str)) : (srt l).length = l.length := isr_len _ _ _ _ _
def adjB : List (Str × Str) → Bool
  | x :: y :: r => y.1 == x.1 || adjB (y :: r)
  | _ => false
def sortF (l : List (Str × Str)) : Int × List (Str × Str) := if 32 < l.length then (4, []) else if l.all (fun p => fnameOK p.1) = true then (if adjB (srt l) = true then (7, []) else (0, srt l)) else (6, [])
end Go.Proofs.YthaajlepgblimaaDoor
