/- Laws, on plain data, about functions that the statement reaches. -/
import Derived.Test.YtfjbbeleejnbgaaL1
set_option linter.unusedSimpArgs false
set_option linter.unusedVariables false
set_option linter.unnecessarySimpa false
set_option maxRecDepth 100000
namespace Go.Proofs.Ytfjbbeleejnbgaa
open Go.Eng Go.Pi
theorem s60 (l : List Tal) (d : D) (hst : Int) (rule : Str) (n : Int) (h : Hp) (hd : SlOf 3 talr l d) (hl : l.length ≤ 1000000) (hn1 : n ≤ 9223372036854775807) :
    ∃ d', R fn60 [d, .int .i64 hst, .str rule, .int .i64 n] h = some (d', h) ∧ SlOf 3 talr (addT l hst rule n) d' := by
  suffices Wp (R fn60 [d, .int .i64 hst, .str rule, .int .i64 n] h) (fun p => p.2 = h ∧ SlOf 3 talr (addT l hst rule n) p.1) by
    obtain ⟨⟨x, h'⟩, h1, rfl, h2⟩ := this
    exact ⟨x, h1, h2⟩
  rw [e60]
  simp only [F60, bs, dBin_leq]
  refine Wp.dif (fun hn => ?_) (fun hn => ?_)
  · have hn : n ≤ 0 := by simpa [-Option.bind_some] using hn
    have hn' : n < 1 := by omega
    have ha : addT l hst rule n = l := by simp [-Option.bind_some, addT, hn']
    rw [ha]
    simp only [bs, mkRes_one]
    rw [scope_eq (d' := d) (talr_frz' hd _ _ _) (slof_ok hd fun a _ => talr_ok _ a) (Nat.le_refl _) fun _ _ => rfl]
    exact .some ⟨rfl, hd⟩
  · have hn : ¬ n ≤ 0 := by simpa [-Option.bind_some] using hn
    have hn' : ¬ n < 1 := by omega
    have ha : addT l hst rule n = addK l hst rule n (kT ⟨hst, rule, 0⟩ l) := by simp [-Option.bind_some, addT, hn']
    rw [ha]
    simp only [bs, Option.bind_assoc]
    refine l60 l d hst rule h hd hl _ fun b0 => ?_
    have hk := kT_le ⟨hst, rule, 0⟩ l
    generalize kT ⟨hst, rule, 0⟩ l = k at hk
    have hw0 : IntKind.wrap .i64 n = n := wrap_i64 (by omega) hn1
    simp only [unblk_self, toEnd_nrm, nth_zero, bs, Option.bind_assoc]
    refine wap58 (n0 := h.length) (Nat.le_refl _) (Own.nils _ _ _ _) (slof_rows _ hd) (by simp [-Option.bind_some]; omega) fun x1 h1 ow1 len1 bel1 _ _ => ?_
    rw [List.nil_append] at ow1
    simp only [bs, lens58 hd, dBin_lss]
    have insert : addK l hst rule n k = l.take k ++ [⟨hst, rule, n⟩] ++ l.drop k →
        Wp ((dCut tab h1 ty58 false true [x1, .int .i64 (k : Nat), .int .i64 (k : Nat)]).bind fun p84 => (dBuild tab ty106 [0, 1, 2] [.int .i64 hst, .str rule, .int .i64 n]).bind fun t88 => (pLitF tab ty58 1 [0] [t88]).bind fun t89 =>
          (dAppend tab p84.2 ty58 ty58 p84.1 t89).bind fun p90 => (dSliceAt tab ty58 true false false [d, .int .i64 (k : Nat)]).bind fun t94 => (dAppend tab p90.2 ty58 ty58 p90.1 t94).bind fun p95 => scope h p95.2 (mkRes [p95.1])) (fun p => p.2 = h ∧ SlOf 3 talr (addK l hst rule n k) p.1) := fun hadd => by
      rw [hadd]
      obtain ⟨y, h2, ec, hl2, hb2, z, h3, ea, ow3, hl3, hb3⟩ := cut_t ow1 (by simpa [-Option.bind_some] using hl) k (by simpa [-Option.bind_some] using hk) [.int .i64 hst, .str rule, .int .i64 n] true len1
      obtain ⟨y2, hs2, hy2⟩ := slof_lo (T := tab) (t := ty58) (i := ti58) (j := ti106) (id rfl) (id rfl) (id rfl) (id rfl) hd (k := .i64) (n := (k : Nat)) (by omega) (by omega)
      rw [Int.toNat_natCast] at hy2
      simp only [ec, bs, bd106_0_1_2, bs58_1, ea, hs2]
      refine wap58 (n0 := h.length) (by omega) ow3 (slof_rows _ hy2) (by simp [-Option.bind_some]; omega) fun x4 h4 ow4 len4 bel4 _ _ => ?_
      have hrows : (l.map talr).take k ++ [[.int .i64 hst, .str rule, .int .i64 n]] ++ (l.drop k).map talr = (l.take k ++ [(⟨hst, rule, n⟩ : Tal)] ++ l.drop k).map talr := by
        rw [List.map_append, List.map_append, List.map_take]; rfl
      rw [hrows] at ow4
      have hsl := own_sl (n0 := h.length) (n := 3) ow4 (Nat.le_refl _) (fun a _ => talr_frz _ h4 _ a)
      simp only [mkRes_one]
      rw [scope_eq rfl (slof_ok hsl fun a _ => talr_ok _ a) (by omega) (fun q hq => ((bel4 q hq).trans (hb3 q hq)).trans (bel1 q hq))]
      exact .some ⟨rfl, hsl⟩
    by_cases hkl : k < l.length
    · have hg : l[k]? = some l[k] := List.getElem?_eq_getElem hkl
      generalize l[k] = x at hg
      have hkl' : (k : Int) < l.length := by omega
      have hix : dIndexAddr tab ty58 d (.int .i64 (k : Nat)) = some (.fptr (talr x)) := by rw [ixs58 hd]; simp [-Option.bind_some, hg]
      have f0 : dFieldAddr tab ty106 0 (.fptr (talr x)) = some (.fptr (talr x)) := id rfl
      have l0 : dLoad tab h1 ty3 (.fptr (talr x)) = some (.int .i64 x.h) := id rfl
      have f1 : dFieldAddr tab ty106 1 (.fptr (talr x)) = some (.fptr [.str x.r, .int .i64 x.n]) := id rfl
      have l1 : dLoad tab h1 ty9 (.fptr [.str x.r, .int .i64 x.n]) = some (.str x.r) := id rfl
      simp only [hkl', decide_true, gd_bool, if_true, bs, hix, f0, l0, dBin_eql, dPick_bool]
      by_cases hh : x.h = hst
      · by_cases hr : x.r = rule
        · have hadd : addK l hst rule n k = l.set k ⟨x.h, x.r, IntKind.wrap .i64 (x.n + n)⟩ := by
            have hc : cmpT x ⟨hst, rule, 0⟩ = 0 := (cmpT_eq _ _).2 ⟨hh, hr⟩
            simp [-Option.bind_some, addK, hg, hc]
          have hrb : (x.r == rule) = true := by simpa [-Option.bind_some] using hr
          simp only [hh, decide_true, if_true, hix, f1, l1, bs, dBin_seql, hrb, dPick_bool, dIf_bool, gd_bool]
          obtain ⟨ob, hob, hxe, ho⟩ := own_ix ow1 (i := k) (by simpa [-Option.bind_some] using hkl)
          rw [List.length_map] at hxe
          subst hxe
          have hkl2 : (0 : Int) ≤ (k : Int) ∧ (k : Int) < (l.length : Int) := by omega
          have hrr : (l.map talr)[k]? = some (talr x) := by rw [List.getElem?_map, hg]; rfl
          simp only [ixm58, hkl2, and_self, if_true, fap106_2, Int.toNat_natCast, Nat.zero_add, ldp3, row_of ho, hrr, bs]
          simp only [talr, List.drop_succ_cons, List.drop_zero, List.head?_cons, bs, dBin_add]
          refine wst3 (off := 2) (v := .int .i64 (IntKind.wrap .i64 (x.n + n))) ho hrr rfl (by simp [-Option.bind_some, talr]) rfl fun h3 q3 s3 => ?_
          have hset : (l.map talr).set k (spl (talr x) 2 (cells1 (.int .i64 (IntKind.wrap .i64 (x.n + n))))) = (addK l hst rule n k).map talr := by
            rw [hadd, List.map_set]; rfl
          rw [hset] at q3
          have hlen : (addK l hst rule n k).length = l.length := by rw [hadd]; simp [-Option.bind_some]
          have ow : Own h3 h.length ty106 3 ((addK l hst rule n k).map talr) (.msl 3 ob 0 l.length) := .inr ⟨ob, hob, by simp [-Option.bind_some, hlen], q3⟩
          have hsl := own_sl (n0 := h.length) (n := 3) ow (Nat.le_refl _) (fun a _ => talr_frz _ h3 _ a)
          simp only [bs, mkRes_one]
          rw [scope_eq rfl (slof_ok hsl fun a _ => talr_ok _ a) (by have := s3.1; omega) (fun q hq => (s3.2 q (by omega)).trans (bel1 q hq))]
          exact .some ⟨rfl, hsl⟩
        · have hadd : addK l hst rule n k = l.take k ++ [⟨hst, rule, n⟩] ++ l.drop k := by
            have hc : ¬ cmpT x ⟨hst, rule, 0⟩ = 0 := fun h0 => hr ((cmpT_eq _ _).1 h0).2
            simp [-Option.bind_some, addK, hg, hc, hw0]
          have hrb : (x.r == rule) = false := by simpa [-Option.bind_some] using hr
          simp only [hh, decide_true, if_true, hix, f1, l1, bs, dBin_seql, hrb, dPick_bool, dIf_bool, gd_bool, Bool.false_eq_true, if_false]
          exact insert hadd
      · have hadd : addK l hst rule n k = l.take k ++ [⟨hst, rule, n⟩] ++ l.drop k := by
          have hc : ¬ cmpT x ⟨hst, rule, 0⟩ = 0 := fun h0 => hh ((cmpT_eq _ _).1 h0).1
          simp [-Option.bind_some, addK, hg, hc, hw0]
        simp only [hh, decide_false, gd_bool, Bool.false_eq_true, if_false, bs, dPick_bool, dIf_bool, gd_und]
        exact insert hadd
    · have hg : l[k]? = none := List.getElem?_eq_none (by omega)
      have hkl' : ¬ (k : Int) < l.length := by omega
      have hadd : addK l hst rule n k = l.take k ++ [⟨hst, rule, n⟩] ++ l.drop k := by simp [-Option.bind_some, addK, hg, hw0]
      simp only [hkl', decide_false, gd_bool, Bool.false_eq_true, if_false, bs, dPick_bool, dIf_bool, gd_und]
      exact insert hadd
theorem s30r (l : List Tal) (da db : D) (h : Hp) (ha : SlOf 3 talr l da) (hb : SlOf 3 talr l db) (hl : l.length ≤ 1000000) : R fn30 [da, db] h = some (.bool true, h) := by
  suffices Wp (R fn30 [da, db] h) (fun p => p = (.bool true, h)) by
    obtain ⟨p, h1, rfl⟩ := this
    exact h1
  rw [e30]
  simp only [F30, bs, Option.bind_assoc, lens58 ha, lens58 hb, dBin_neq, ne_eq, not_true, decide_false, dIf_bool, Bool.false_eq_true, if_false]
  refine Wp.loop (fun n ds g => g = h ∧ ∃ x y z, ∃ i : Nat, ds = [x, .int .i64 i, y, z] ∧ n + i = l.length)
    (fun r => r.1 = .ext 0 ∧ r.2.2 = h) l.length ⟨rfl, _, _, _, 0, rfl, rfl⟩ ?_ ?_
  · rintro n ds g ⟨rfl, x, y, z, i, rfl, hi⟩
    simp only [F30_L0, nth_zero, nth_succ, bs, Option.bind_assoc, lens58 ha, dBin_lss]
    refine Wp.dif ?_ ?_
    · intro h0
      have h0 : i < l.length := by have : (i : Int) < l.length := by simpa [-Option.bind_some] using h0
                                   omega
      have hg : l[i]? = some l[i] := List.getElem?_eq_getElem h0
      generalize l[i] = u at hg
      have ia : dIndexAddr tab ty58 da (.int .i64 i) = some (.fptr (talr u)) := by rw [ixs58 ha]; simp [-Option.bind_some, hg]
      have ib : dIndexAddr tab ty58 db (.int .i64 i) = some (.fptr (talr u)) := by rw [ixs58 hb]; simp [-Option.bind_some, hg]
      have hw : IntKind.wrap .i64 ((i : Int) + 1) = ((i + 1 : Nat) : Int) := by
        rw [wrap_i64 (by omega) (by omega)]; omega
      have hn : dBin tab .neq ty106 (.agg (talr u)) (.agg (talr u)) = some (.bool false) := by
        have := bneq106 u.h u.h u.r u.r u.n u.n
        simpa [-Option.bind_some, talr] using this
      simp only [ia, ib, talr_ld, hn, bs, dIf_bool, Bool.false_eq_true, if_false, dBin_add, hw]
      exact .some (.inl ⟨rfl, n - 1, by omega, rfl, _, _, _, i + 1, rfl, by omega⟩)
    · intro _
      exact .some (.inr ⟨by simp [-Option.bind_some], rfl, rfl⟩)
  · rintro ⟨ex, ds, g⟩ ⟨q1, q2⟩
    simp only at q1 q2
    subst q1; subst q2
    simp only [unblk_self, toEnd_nrm, bs, mkRes_one]
    exact .some rfl
/-- The order of marks. -/
def ml (a b : Mrk) : Prop := a.h < b.h ∨ (a.h = b.h ∧ a.f < b.f)
theorem cmpM_lt (a b : Mrk) : cmpM a b < 0 ↔ ml a b := by
  unfold cmpM orI orI orI cmpI ml
  by_cases h1 : a.h < b.h
  · simp [-Option.bind_some, h1]
  · by_cases h2 : b.h < a.h
    · have h3 : ¬ a.h = b.h := by omega
      simp [-Option.bind_some, h1, h2, h3]
    · have h3 : a.h = b.h := by omega
      by_cases h4 : a.f < b.f
      · simp [-Option.bind_some, h3, h4]
      · by_cases h5 : b.f < a.f <;> simp [-Option.bind_some, h3, h4, h5]
theorem cmpM_eq (a b : Mrk) : cmpM a b = 0 ↔ a.h = b.h ∧ a.f = b.f := by
  unfold cmpM orI orI orI cmpI
  by_cases h1 : a.h < b.h
  · have h3 : ¬ a.h = b.h := by omega
    simp [-Option.bind_some, h1, h3]
  · by_cases h2 : b.h < a.h
    · have h3 : ¬ a.h = b.h := by omega
      simp [-Option.bind_some, h1, h2, h3]
    · have h3 : a.h = b.h := by omega
      by_cases h4 : a.f < b.f
      · have : ¬ a.f = b.f := by omega
        simp [-Option.bind_some, h3, h4, this]
      · by_cases h5 : b.f < a.f
        · have : ¬ a.f = b.f := by omega
          simp [-Option.bind_some, h3, h4, h5, this]
        · have : a.f = b.f := by omega
          simp [-Option.bind_some, h3, this]
def MAsc (l : List Mrk) : Prop := l.Pairwise ml
/-- Where a mark stands, or would. -/
def kM (key : Mrk) : List Mrk → Nat
  | [] => 0
  | x :: r => if cmpM x key < 0 then kM key r + 1 else 0
theorem kM_le (key : Mrk) : ∀ l, kM key l ≤ l.length
  | [] => Nat.le_refl _
  | x :: r => by
    unfold kM
    split
    · have := kM_le key r; simp [-Option.bind_some]; omega
    · simp [-Option.bind_some]
theorem kM_lt (key : Mrk) : ∀ (l : List Mrk) (i : Nat) (x : Mrk), l[i]? = some x → i < kM key l → cmpM x key < 0
  | y :: r, 0, x, hx, hi => by
    unfold kM at hi
    simp [-Option.bind_some] at hx
    subst hx
    split at hi
    · assumption
    · omega
  | y :: r, i + 1, x, hx, hi => by
    unfold kM at hi
    simp [-Option.bind_some] at hx
    split at hi
    · exact kM_lt key r i x hx (by omega)
    · omega
theorem kM_at (key : Mrk) : ∀ (l : List Mrk) (x : Mrk), l[kM key l]? = some x → ¬ cmpM x key < 0
  | y :: r, x, hx => by
    unfold kM at hx
    split at hx
    · exact kM_at key r x (by simpa [-Option.bind_some] using hx)
    · rename_i hc
      simp [-Option.bind_some] at hx
      subst hx
      exact hc
theorem ml_tr {a b c : Mrk} (h : ml a b) (k : ml b c) : ml a c := by
  unfold ml at *
  omega
theorem kM_ge (key : Mrk) : ∀ (l : List Mrk), MAsc l → ∀ (i : Nat) (x : Mrk), l[i]? = some x → kM key l ≤ i → 0 ≤ cmpM x key
  | y :: r, hs, i, x, hx, hi => by
    unfold kM at hi
    have hs' := List.pairwise_cons.1 hs
    split at hi
    · cases i with
      | zero => omega
      | succ i => exact kM_ge key r hs'.2 i x (by simpa [-Option.bind_some] using hx) (by omega)
    · rename_i hc
      rcases Int.lt_or_le (cmpM x key) 0 with h1 | h1
      · exfalso
        cases i with
        | zero => simp [-Option.bind_some] at hx; subst hx; exact hc h1
        | succ i =>
          have hx' : r[i]? = some x := by simpa [-Option.bind_some] using hx
          exact hc ((cmpM_lt _ _).2 (ml_tr (hs'.1 x (List.mem_of_getElem? hx')) ((cmpM_lt _ _).1 h1)))
      · exact h1
def fndM (l : List Mrk) (key : Mrk) : Bool := match l[kM key l]? with
  | some x => decide (cmpM x key = 0)
  | none => false
def markOf (l : List Mrk) (hst fil : Int) : Int := match l[kM ⟨hst, fil, 0⟩ l]? with
  | some x => if cmpM x ⟨hst, fil, 0⟩ = 0 then x.o else 0
  | none => 0
theorem s1005 (l : List Mrk) (d dt : D) (hst fil : Int) (h : Hp) (hd : SlOf 3 mrkr l d) (hl : l.length ≤ 1000000) (hs : MAsc l) : R fn1005 [.agg [d, dt], .int .i64 hst, .int .i64 fil] h = some (.int .i64 (markOf l hst fil), h) := by
  have hk := kM_le ⟨hst, fil, 0⟩ l
  have h13 := s1013 l d hst fil h hd hl (kM ⟨hst, fil, 0⟩ l) hk (kM_lt _ l) (kM_ge _ l hs)
  rw [e1005]
  unfold markOf
  generalize kM ⟨hst, fil, 0⟩ l = k at hk h13
  simp only [F1005, pBoxF_agg, bs, fa1009_0, ld1007, h13, dExtract_tup, List.getElem?_cons_zero, List.getElem?_cons_succ]
  cases hg : l[k]? with
  | none => simp [-Option.bind_some]
  | some x =>
    have hix : dIndexAddr tab ty1007 d (.int .i64 (k : Nat)) = some (.fptr (mrkr x)) := by rw [ixs1007 hd]; simp [-Option.bind_some, hg]
    by_cases hc : cmpM x ⟨hst, fil, 0⟩ = 0
    · simp [-Option.bind_some, hc, hix, mrkr]
    · simp [-Option.bind_some, hc]
def mlB (x : Mrk) (hst fil : Int) : Bool := decide (x.h < hst) || (decide (x.h = hst) && decide (x.f < fil))
theorem mlB_lt (x : Mrk) (hst fil : Int) : mlB x hst fil = true ↔ cmpM x ⟨hst, fil, 0⟩ < 0 := by
  rw [cmpM_lt]
  simp [-Option.bind_some, mlB, ml]
theorem b1084 (l : List Mrk) (d : D) (hst fil : Int) (h : Hp) (hd : SlOf 3 mrkr l d) (i : Nat) (x : Mrk) (hi : l[i]? = some x) (hl : l.length ≤ 1000000) (a : D) :
    F1084_L0 d (.int .i64 hst) (.int .i64 fil) [.int .i64 i, a] h = if mlB x hst fil = true then some (.nrm, [.int .i64 ((i + 1 : Nat) : Int), .bool true], h) else some (.ext 0, [.int .i64 i, .bool false], h) := by
  have hlt : i < l.length := (List.getElem?_eq_some_iff.1 hi).1
  have hlt' : (i : Int) < l.length := by omega
  have hw : IntKind.wrap .i64 ((i : Int) + 1) = ((i + 1 : Nat) : Int) := by
    rw [wrap_i64 (by omega) (by omega)]; omega
  have hix : dIndexAddr tab ty1007 d (.int .i64 i) = some (.fptr (mrkr x)) := by rw [ixs1007 hd]; simp [-Option.bind_some, hi]
  by_cases h0 : x.h < hst
  · simp [-Option.bind_some, F1084_L0, lens1007 hd, hlt', hix, mrkr, mlB, h0, hw]
  · by_cases h1 : x.h = hst
    · by_cases h2 : x.f < fil
      · simp [-Option.bind_some, F1084_L0, lens1007 hd, hlt', hix, mrkr, mlB, h0, h1, h2, hw]
      · simp [-Option.bind_some, F1084_L0, lens1007 hd, hlt', hix, mrkr, mlB, h0, h1, h2, hw]
    · simp [-Option.bind_some, F1084_L0, lens1007 hd, hlt', hix, mrkr, mlB, h0, h1, hw]
theorem s1084 (l : List Mrk) (d : D) (hst fil : Int) (h : Hp) (hd : SlOf 3 mrkr l d) (hl : l.length ≤ 1000000) : R fn1084 [d, .int .i64 hst, .int .i64 fil] h = some (.tup [.int .i64 (kM ⟨hst, fil, 0⟩ l : Nat), .bool (fndM l ⟨hst, fil, 0⟩)], h) := by
  suffices Wp (R fn1084 [d, .int .i64 hst, .int .i64 fil] h) (fun p => p = (.tup [.int .i64 (kM ⟨hst, fil, 0⟩ l : Nat), .bool (fndM l ⟨hst, fil, 0⟩)], h)) by
    obtain ⟨p, h1, rfl⟩ := this
    exact h1
  rw [e1084]
  simp only [F1084, bs, Option.bind_assoc]
  have hk := kM_le ⟨hst, fil, 0⟩ l
  have k1 := kM_lt ⟨hst, fil, 0⟩ l
  have k2 := kM_at ⟨hst, fil, 0⟩ l
  unfold fndM
  generalize kM ⟨hst, fil, 0⟩ l = k at hk k1 k2
  refine Wp.loop (fun n ds g => g = h ∧ ∃ a, ∃ i : Nat, ds = [.int .i64 i, a] ∧ n + i = k) (fun r => ∃ b, r = (.ext 0, [.int .i64 (k : Nat), b], h)) k ⟨rfl, _, 0, rfl, rfl⟩ ?_ ?_
  · rintro n ds g ⟨rfl, a, i, rfl, hi⟩
    by_cases hil : i < l.length
    · have hg : l[i]? = some l[i] := List.getElem?_eq_getElem hil
      generalize l[i] = x at hg
      rw [b1084 l d hst fil g hd i x hg hl]
      by_cases hc : mlB x hst fil = true
      · rw [if_pos hc]
        have : i ≠ k := fun hh => by subst hh; exact k2 x hg ((mlB_lt _ _ _).1 hc)
        exact .some (.inl ⟨rfl, n - 1, by omega, rfl, _, i + 1, rfl, by omega⟩)
      · rw [if_neg hc]
        have : i = k := by
          rcases Nat.lt_or_ge i k with hh | hh
          · exact absurd ((mlB_lt _ _ _).2 (k1 i x hg hh)) hc
          · omega
        subst this
        exact .some (.inr ⟨by simp [-Option.bind_some], _, rfl⟩)
    · have : i = k := by omega
      subst this
      have hn : ¬ (i : Int) < l.length := by omega
      have e : F1084_L0 d (.int .i64 hst) (.int .i64 fil) [.int .i64 i, a] g = some (.ext 0, [.int .i64 i, .bool false], g) := by
        simp [-Option.bind_some, F1084_L0, lens1007 hd, hn]
      rw [e]
      exact .some (.inr ⟨by simp [-Option.bind_some], _, rfl⟩)
  · rintro _ ⟨b, rfl⟩
    simp only [unblk_self, toEnd_nrm, nth_zero, bs, lens1007 hd, dBin_lss]
    by_cases hkl : k < l.length
    · have hg : l[k]? = some l[k] := List.getElem?_eq_getElem hkl
      generalize l[k] = x at hg
      have hkl' : (k : Int) < l.length := by omega
      have hix : dIndexAddr tab ty1007 d (.int .i64 (k : Nat)) = some (.fptr (mrkr x)) := by rw [ixs1007 hd]; simp [-Option.bind_some, hg]
      have hc := cmpM_eq x ⟨hst, fil, 0⟩
      by_cases h0 : x.h = hst
      · by_cases h1 : x.f = fil
        · have hcc : cmpM x ⟨hst, fil, 0⟩ = 0 := hc.2 ⟨h0, h1⟩
          simp [-Option.bind_some, hkl', hix, mrkr, h0, h1, hg, hcc]
          exact .some rfl
        · have hcc : ¬ cmpM x ⟨hst, fil, 0⟩ = 0 := fun hh => h1 (hc.1 hh).2
          simp [-Option.bind_some, hkl', hix, mrkr, h0, h1, hg, hcc]
          exact .some rfl
      · have hcc : ¬ cmpM x ⟨hst, fil, 0⟩ = 0 := fun hh => h0 (hc.1 hh).1
        simp [-Option.bind_some, hkl', hix, mrkr, h0, hg, hcc]
        exact .some rfl
    · have hg : l[k]? = none := List.getElem?_eq_none (by omega)
      have hkl' : ¬ (k : Int) < l.length := by omega
      simp [-Option.bind_some, hkl', hg]
      exact .some rfl
theorem s1077 (l : List Mrk) (d dt : D) (hst fil : Int) (h : Hp) (hd : SlOf 3 mrkr l d) (hl : l.length ≤ 1000000) : R fn1077 [.agg [d, dt], .int .i64 hst, .int .i64 fil] h = some (.int .i64 (markOf l hst fil), h) := by
  rw [e1077]
  have h84 := s1084 l d hst fil h hd hl
  unfold fndM at h84
  unfold markOf
  generalize kM ⟨hst, fil, 0⟩ l = k at h84
  simp only [F1077, pBoxF_agg, bs, fa1009_0, ld1007, h84, dExtract_tup, List.getElem?_cons_zero, List.getElem?_cons_succ]
  cases hg : l[k]? with
  | none => simp [-Option.bind_some]
  | some x =>
    have hix : dIndexAddr tab ty1007 d (.int .i64 (k : Nat)) = some (.fptr (mrkr x)) := by rw [ixs1007 hd]; simp [-Option.bind_some, hg]
    by_cases hc : cmpM x ⟨hst, fil, 0⟩ = 0
    · simp [-Option.bind_some, hc, hix, mrkr]
    · simp [-Option.bind_some, hc]
def countT (l : List Tal) (hst : Int) (rule : Str) : Int := match l[kT ⟨hst, rule, 0⟩ l]? with
  | some x => if cmpT x ⟨hst, rule, 0⟩ = 0 then x.n else 0
  | none => 0
theorem s1078 (l : List Tal) (d dm : D) (hst : Int) (rule : Str) (h : Hp) (hd : SlOf 3 talr l d) (hl : l.length ≤ 1000000) (hs : TAsc l) : R fn1078 [.agg [dm, d], .int .i64 hst, .str rule] h = some (.int .i64 (countT l hst rule), h) := by
  have hk := kT_le ⟨hst, rule, 0⟩ l
  have h80 := s80 l d hst rule h (.inl hd) hl (kT ⟨hst, rule, 0⟩ l) hk (kT_lt _ l) (kT_ge _ l hs)
  rw [e1078]
  unfold countT
  generalize kT ⟨hst, rule, 0⟩ l = k at hk h80
  simp only [F1078, pBoxF_agg, bs, fa1009_1, ld58, h80, dExtract_tup, List.getElem?_cons_zero, List.getElem?_cons_succ]
  cases hg : l[k]? with
  | none => simp [-Option.bind_some]
  | some x =>
    have hix : dIndexAddr tab ty58 d (.int .i64 (k : Nat)) = some (.fptr (talr x)) := by rw [ixs58 hd]; simp [-Option.bind_some, hg]
    by_cases hc : cmpT x ⟨hst, rule, 0⟩ = 0
    · simp [-Option.bind_some, hc, hix, talr]
    · simp [-Option.bind_some, hc]
def cntL (hst : Int) (rule : Str) : List Tal → Int
  | [] => 0
  | x :: r => if x.h = hst ∧ x.r = rule then x.n else cntL hst rule r
theorem cntL_no (hst : Int) (rule : Str) : ∀ l : List Tal, (∀ y ∈ l, ¬ (y.h = hst ∧ y.r = rule)) → cntL hst rule l = 0
  | [], _ => rfl
  | x :: r, h => by
    rw [cntL, if_neg (h x (by simp [-Option.bind_some]))]
    exact cntL_no hst rule r fun y hy => h y (by simp [-Option.bind_some, hy])
theorem cntL_eq (hst : Int) (rule : Str) : ∀ l : List Tal, TAsc l → cntL hst rule l = countT l hst rule
  | [], _ => rfl
  | x :: r, hs => by
    have hs' := List.pairwise_cons.1 hs
    have ih := cntL_eq hst rule r hs'.2
    unfold countT at ih ⊢
    rw [cntL, kT]
    have hc := cmpT_eq x ⟨hst, rule, 0⟩
    by_cases h1 : cmpT x ⟨hst, rule, 0⟩ < 0
    · have hn : ¬ (x.h = hst ∧ x.r = rule) := fun hh => by have := hc.2 hh; omega
      rw [if_pos h1, if_neg hn, List.getElem?_cons_succ]
      exact ih
    · rw [if_neg h1, List.getElem?_cons_zero]
      by_cases h2 : x.h = hst ∧ x.r = rule
      · rw [if_pos h2]
        simp [-Option.bind_some, hc.2 h2]
      · rw [if_neg h2]
        have h3 : ¬ cmpT x ⟨hst, rule, 0⟩ = 0 := fun hh => h2 (hc.1 hh)
        simp only [h3, if_false]
        refine cntL_no hst rule r fun y hy hh => h1 ((cmpT_lt _ _).2 ?_)
        have := hs'.1 y hy
        unfold kl at this ⊢
        rw [hh.1, hh.2] at this
        exact this
theorem l1079 (l : List Tal) (d dm : D) (hst : Int) (rule : Str) (h : Hp) (hd : SlOf 3 talr l d) (hl : l.length ≤ 1000000) {β : Type} (K : Out → Option β) (X : Int → Option β)
   (hX : ∀ v r, K (.ret, .int .i64 v :: r, h) = X v) (hY : ∀ r, K (.ext 0, r, h) = X 0) : ∀ (suf pre : List Tal), l = pre ++ suf → ∀ a b c,
   (loopW (F1079_L0 (.int .i64 hst) (.str rule) (.fptr [dm, d])) [a, .int .i64 pre.length, b, c] h).bind K = X (cntL hst rule suf) := by
  intro suf
  induction suf with
  | nil =>
    rintro pre rfl a b c
    rw [loopW_eq]
    simp [-Option.bind_some, F1079_L0, lens58 hd, hY, cntL]
  | cons p suf ih =>
    rintro pre rfl a b c
    have hw : IntKind.wrap .i64 ((pre.length : Int) + 1) = (pre ++ [p]).length := by
      rw [wrap_i64 (by omega) (by simp [-Option.bind_some] at hl; omega)]; simp [-Option.bind_some]
    have hlt : (pre.length : Int) < (pre ++ p :: suf).length := by simp [-Option.bind_some]; omega
    rw [loopW_eq]
    generalize hL : pre ++ p :: suf = L at *
    have hg : L[pre.length]? = some p := by rw [← hL]; exact get_mid _ _ _
    have hix : dIndexAddr tab ty58 d (.int .i64 (pre.length : Int)) = some (.fptr (talr p)) := by rw [ixs58 hd]; simp [-Option.bind_some, hg]
    by_cases h0 : p.h = hst
    · by_cases h1 : p.r = rule
      · simp [-Option.bind_some, F1079_L0, lens58 hd, hix, hlt, talr, h0, h1, hX, cntL]
      · have := ih (pre ++ [p]) (by simp [-Option.bind_some, ← hL]) a (.bool true) (.bool (p.r == rule))
        simp only [← hw] at this
        simp [-Option.bind_some, F1079_L0, lens58 hd, hix, hlt, talr, h0, h1, cntL]
        exact this
    · have := ih (pre ++ [p]) (by simp [-Option.bind_some, ← hL]) a (.bool true) (.bool false)
      simp only [← hw] at this
      simp [-Option.bind_some, F1079_L0, lens58 hd, hix, hlt, talr, h0, cntL]
      exact this
theorem s1079 (l : List Tal) (d dm : D) (hst : Int) (rule : Str) (h : Hp) (hd : SlOf 3 talr l d) (hl : l.length ≤ 1000000) (hs : TAsc l) : R fn1079 [.agg [dm, d], .int .i64 hst, .str rule] h = some (.int .i64 (countT l hst rule), h) := by
  rw [e1079, ← cntL_eq hst rule l hs]
  simp only [F1079, pBoxF_agg, bs, Option.bind_assoc]
  rw [show [D.int .i64 0, D.int .i64 0, D.any, D.any] = [D.int .i64 0, D.int .i64 (([] : List Tal).length : Int), D.any, D.any] from rfl, l1079 l d dm hst rule h hd hl _ (fun v => some (.int .i64 v, h)) (fun v r => by simp [-Option.bind_some]) (fun r => by simp [-Option.bind_some]) l [] rfl]
def fmr (p : Int × Int) : List D := [.int .i64 p.1, .int .i64 p.2]
theorem fmr_frz (n0 : Nat) (h : Hp) (n : Nat) (p : Int × Int) : ∀ d ∈ fmr p, frz n0 h n d = d := by simp [-Option.bind_some, fmr]
theorem fmr_ok (n : Nat) (p : Int × Int) : ∀ d ∈ fmr p, Ok n d := by
  intro d hd
  simp [-Option.bind_some, fmr] at hd
  rcases hd with rfl | rfl <;> constructor
/-- The marks of a host. -/
def repL (hst : Int) (l : List Mrk) : List (Int × Int) := (l.filter fun m => decide (m.h = hst)).map fun m => (m.f, m.o)
theorem repL_snoc (hst : Int) (l : List Mrk) (m : Mrk) : repL hst (l ++ [m]) = repL hst l ++ if m.h = hst then [(m.f, m.o)] else [] := by
  by_cases h : m.h = hst <;> simp [-Option.bind_some, repL, h]
theorem repL_len (hst : Int) (l : List Mrk) : (repL hst l).length ≤ l.length := by
  simp only [repL, List.length_map]
  exact List.length_filter_le _ _
/-- What stays while a reply grows. -/
structure RpI (h g : Hp) (hst num : Int) (l : List Mrk) (x : D) : Prop where
  len : h.length + 2 ≤ g.length
  below : ∀ q, q < h.length → g[q]? = h[q]?
  p6 : g[h.length]? = some (.row ty1053 3 [[.int .i64 0, .int .i64 0, .nils]])
  p7 : g[h.length + 1]? = some (.row ty1053 3 [[.int .i64 hst, .int .i64 num, x]])
  own : Own g (h.length + 2) ty1058 2 ((repL hst l).map fmr) x
theorem rp_start {h : Hp} (hst num : Int) {β : Type} {f : Hp → Option β} {Q : β → Prop} (k : ∀ g, RpI h g hst num [] .nils → Wp (f g) Q) :
    Wp ((dStore tab (dNew (dNew h ty1053 3 [[.int .i64 0, .int .i64 0, .nils]]) ty1053 3 [[.int .i64 0, .int .i64 0, .nils]]) ty1053 (.ptr (dNew h ty1053 3 [[.int .i64 0, .int .i64 0, .nils]]).length 0 0) (.agg [.int .i64 hst, .int .i64 num, .nils])).bind f) Q := by
  have hl : (dNew h ty1053 3 [[.int .i64 0, .int .i64 0, .nils]]).length = h.length + 1 := by simp [-Option.bind_some, dNew]
  have hX := dNew_get (dNew h ty1053 3 [[.int .i64 0, .int .i64 0, .nils]]) ty1053 3 [[.int .i64 0, .int .i64 0, .nils]]
  refine wst1053 hX rfl rfl (by simp [-Option.bind_some]) rfl fun g q s => ?_
  rw [hl] at q s
  refine k g ⟨?_, fun p hp => ?_, ?_, q, Own.nils _ _ _ _⟩
  · have := s.1; simp [-Option.bind_some, dNew] at this; omega
  · rw [s.2 p (by omega), dNew_old _ _ _ _ (by omega), dNew_old _ _ _ _ hp]
  · rw [s.2 _ (by omega), dNew_old _ _ _ _ (by omega)]
    exact dNew_get _ _ _ _
theorem rp_grow {h g : Hp} {hst num : Int} {l : List Mrk} {x : D} (R : RpI h g hst num l x) (m : Mrk) (hm : m.h = hst) (hl : l.length ≤ 1000000) {β : Type} {f : D × Hp → Option β} {Q : β → Prop}
    (k : ∀ x' g' , g'[h.length + 1]? = some (.row ty1053 3 [[.int .i64 hst, .int .i64 num, x]]) → (∀ {γ : Type} {f2 : Hp → Option γ} {Q2 : γ → Prop}, (∀ g2, RpI h g2 hst num (l ++ [m]) x' → Wp (f2 g2) Q2) → Wp ((dStore tab g' ty1051 (.ptr (h.length + 1) 0 2) x').bind f2) Q2) → Wp (f (x', g')) Q) :
    Wp ((dAppend tab g ty1051 ty1051 x (.sl 2 true [fmr (m.f, m.o)])).bind f) Q := by
  have hr := repL_len hst l
  refine wap1051 R.len R.own (rowsOf_sl _ _ _ _) (by simp [-Option.bind_some]; omega) fun x' g' ow len bel _ _ => ?_
  refine k x' g' ((bel _ (by omega)).trans R.p7) fun {γ f2 Q2} k2 => ?_
  have oc := one_cells (own_one ow)
  refine wst1051 ((bel (h.length + 1) (by omega)).trans R.p7) rfl (by rw [oc.1]; rfl) (by simp [-Option.bind_some]) oc.2 fun g2 p2 t2 => ?_
  rw [oc.1] at p2
  refine k2 g2 ⟨by have := t2.1; have := R.len; omega, fun q hq => (t2.2 q (by omega)).trans ((bel q (by omega)).trans (R.below q hq)), (t2.2 _ (by omega)).trans ((bel _ (by omega)).trans R.p6), p2, ?_⟩
  rw [repL_snoc, if_pos hm, List.map_append]
  exact ow.keep fun q hq _ => t2.2 q (by omega)
theorem rp_end {h g : Hp} {hst num : Int} {l : List Mrk} {x : D} (R : RpI h g hst num l x) {Q : D × Hp → Prop} (k : ∀ df, SlOf 2 fmr (repL hst l) df → Q (.agg [.int .i64 hst, .int .i64 num, df], h)) :
    Wp ((dLoad tab g ty1053 (.ptr (h.length + 1) 0 0)).bind fun t => (dStore tab g ty1053 (.ptr h.length 0 0) t).bind fun g2 => (dLoad tab g2 ty1053 (.ptr h.length 0 0)).bind fun d => scope h g2 d) Q := by
  have e1 : dLoad tab g ty1053 (.ptr (h.length + 1) 0 0) = some (.agg [.int .i64 hst, .int .i64 num, x]) := by rw [ldp1053, row_of R.p7]; rfl
  have oc := own_one R.own
  refine Wp.step e1 ?_
  refine wst1053 R.p6 rfl rfl (by simp [-Option.bind_some]) (by cases x <;> first | rfl | (simp [-Option.bind_some, D.one] at oc)) fun g2 p2 t2 => ?_
  have e2 : dLoad tab g2 ty1053 (.ptr h.length 0 0) = some (.agg [.int .i64 hst, .int .i64 num, x]) := by rw [ldp1053, row_of p2]; rfl
  refine Wp.step e2 ?_
  have ow2 := R.own.keep (h' := g2) fun q hq _ => t2.2 q (by omega)
  have hsl := own_sl (n0 := h.length) (n := 2) ow2 (by omega) (fun a _ => fmr_frz _ g2 _ a)
  rw [scope_eq (d' := .agg [.int .i64 hst, .int .i64 num, frz h.length g2 3 x]) (by simp [-Option.bind_some]) (.agg _ fun d hd => by
    simp [-Option.bind_some] at hd
    rcases hd with rfl | rfl | rfl
    · constructor
    · constructor
    · exact slof_ok hsl fun a _ => fmr_ok _ a) (by have := t2.1; have := R.len; omega) (fun q hq => (t2.2 q (by omega)).trans (R.below q hq))]
  exact .some (k _ hsl)
theorem s1081 (l : List Mrk) (dm dt : D) (hst num : Int) (h : Hp) (hd : SlOf 3 mrkr l dm) (hl : l.length ≤ 100000) : ∃ df, R fn1081 [.agg [dm, dt], .int .i64 hst, .int .i64 num] h = some (.agg [.int .i64 hst, .int .i64 num, df], h) ∧ SlOf 2 fmr (repL hst l) df := by
  suffices Wp (R fn1081 [.agg [dm, dt], .int .i64 hst, .int .i64 num] h) (fun p => ∃ df, p = (.agg [.int .i64 hst, .int .i64 num, df], h) ∧ SlOf 2 fmr (repL hst l) df) by
    obtain ⟨p, h1, df, rfl, h2⟩ := this
    exact ⟨df, h1, h2⟩
  have hll : (dNew h ty1053 3 [[.int .i64 0, .int .i64 0, .nils]]).length = h.length + 1 := by simp [-Option.bind_some, dNew]
  rw [e1081]
  simp only [F1081, pBoxF_agg, bs, bd1053_0_1, Option.bind_assoc]
  refine rp_start hst num fun g0 R0 => ?_
  simp only [fa1009_0, ld1007, lens1007 hd, bs, hll]
  refine Wp.loop (fun n ds g => ∃ a b c x, ∃ i : Nat, ds = [a, .int .i64 i, b, c] ∧ n + i = l.length ∧ RpI h g hst num (l.take i) x)
    (fun r => r.1 = .ext 0 ∧ ∃ x, RpI h r.2.2 hst num l x) l.length ⟨_, _, _, _, 0, rfl, rfl, R0⟩ ?_ ?_
  · rintro n ds g ⟨a, b, c, x, i, rfl, hi, R⟩
    simp only [F1081_L0, nth_zero, nth_succ, bs, Option.bind_assoc, dBin_lss]
    refine Wp.dif ?_ ?_
    · intro h0
      have h0 : i < l.length := by have : (i : Int) < l.length := by simpa [-Option.bind_some] using h0
                                   omega
      have hg : l[i]? = some l[i] := List.getElem?_eq_getElem h0
      have htk : l.take (i + 1) = l.take i ++ [l[i]] := by rw [List.take_add_one, hg]; rfl
      generalize l[i] = m at hg htk
      have ia : dIndexAddr tab ty1007 dm (.int .i64 i) = some (.fptr (mrkr m)) := by rw [ixs1007 hd]; simp [-Option.bind_some, hg]
      have hbx : boxN 3 (.agg (mrkr m)) = some (.fptr (mrkr m)) := boxN_agg 3 _ rfl
      have hw : IntKind.wrap .i64 ((i : Int) + 1) = ((i + 1 : Nat) : Int) := by
        rw [wrap_i64 (by omega) (by omega)]; omega
      have f0 : dFieldAddr tab ty1006 0 (.fptr (mrkr m)) = some (.fptr (mrkr m)) := id rfl
      have l0 : dLoad tab g ty3 (.fptr (mrkr m)) = some (.int .i64 m.h) := id rfl
      have f1 : dFieldAddr tab ty1006 1 (.fptr (mrkr m)) = some (.fptr [.int .i64 m.f, .int .i64 m.o]) := id rfl
      have l1 : dLoad tab g ty3 (.fptr [.int .i64 m.f, .int .i64 m.o]) = some (.int .i64 m.f) := id rfl
      have f2 : dFieldAddr tab ty1006 2 (.fptr (mrkr m)) = some (.fptr [.int .i64 m.o]) := id rfl
      have l2 : dLoad tab g ty3 (.fptr [.int .i64 m.o]) = some (.int .i64 m.o) := id rfl
      have lx : dLoad tab g ty1051 (.ptr (h.length + 1) 0 (0 + 2)) = some x := by rw [ldp1051, row_of R.p7]; rfl
      simp only [ia, mrkr_ld, hbx, f0, l0, bs, dBin_eql]
      by_cases hh : m.h = hst
      · simp only [hh, decide_true, dIf_bool, if_true, hll, fap1053_2, lx, f1, l1, f2, l2, bs, bd1058_0_1, bs1051_1, Option.bind_assoc]
        refine rp_grow R m hh (by simp [-Option.bind_some]; omega) fun x' g' p7 st => ?_
        simp only [bs, fap1053_2, Nat.zero_add, Option.bind_assoc]
        refine st fun g2 R2 => ?_
        simp only [bs, toEnd_nrm, unblk_nrm, nth_zero, nth_succ, dBin_add, hw]
        exact .some (.inl ⟨rfl, n - 1, by omega, _, _, _, x', i + 1, rfl, by omega, by rw [htk]; exact R2⟩)
      · have hR : RpI h g hst num (l.take (i + 1)) x := ⟨R.len, R.below, R.p6, R.p7, by rw [htk, repL_snoc, if_neg hh, List.append_nil]; exact R.own⟩
        simp only [hh, decide_false, dIf_bool, Bool.false_eq_true, if_false, bs, toEnd_nrm, unblk_nrm, nth_zero, nth_succ, dBin_add, hw]
        exact .some (.inl ⟨rfl, n - 1, by omega, _, _, _, x, i + 1, rfl, by omega, hR⟩)
    · intro h0
      have h0 : i = l.length := by have : ¬ (i : Int) < l.length := by simpa [-Option.bind_some] using h0
                                   omega
      subst h0
      rw [List.take_length] at R
      exact .some (.inr ⟨by simp [-Option.bind_some], rfl, x, R⟩)
  · rintro ⟨ex, ds, g⟩ ⟨q1, x, R⟩
    simp only at q1 R
    subst q1
    simp only [unblk_self, toEnd_nrm, bs, mkRes_one, Option.bind_assoc]
    exact rp_end R fun df hdf => ⟨df, rfl, hdf⟩
theorem s1082 (l : List Mrk) (dm dt : D) (hst num : Int) (h : Hp) (hd : SlOf 3 mrkr l dm) (hl : l.length ≤ 100000) : ∃ df, R fn1082 [.agg [dm, dt], .int .i64 hst, .int .i64 num] h = some (.agg [.int .i64 hst, .int .i64 num, df], h) ∧ SlOf 2 fmr (repL hst l) df := by
  suffices Wp (R fn1082 [.agg [dm, dt], .int .i64 hst, .int .i64 num] h) (fun p => ∃ df, p = (.agg [.int .i64 hst, .int .i64 num, df], h) ∧ SlOf 2 fmr (repL hst l) df) by
    obtain ⟨p, h1, df, rfl, h2⟩ := this
    exact ⟨df, h1, h2⟩
  have hll : (dNew h ty1053 3 [[.int .i64 0, .int .i64 0, .nils]]).length = h.length + 1 := by simp [-Option.bind_some, dNew]
  rw [e1082]
  simp only [F1082, pBoxF_agg, bs, bd1053_0_1, Option.bind_assoc]
  refine rp_start hst num fun g0 R0 => ?_
  simp only [bs, hll]
  refine Wp.loop (fun n ds g => ∃ b c x, ∃ i : Nat, ds = [.int .i64 i, b, c] ∧ n + i = l.length ∧ RpI h g hst num (l.take i) x)
    (fun r => r.1 = .ext 0 ∧ ∃ x, RpI h r.2.2 hst num l x) l.length ⟨_, _, _, 0, rfl, rfl, R0⟩ ?_ ?_
  · rintro n ds g ⟨b, c, x, i, rfl, hi, R⟩
    simp only [F1082_L0, nth_zero, nth_succ, fa1009_0, ld1007, lens1007 hd, bs, Option.bind_assoc, dBin_lss]
    refine Wp.dif ?_ ?_
    · intro h0
      have h0 : i < l.length := by have : (i : Int) < l.length := by simpa [-Option.bind_some] using h0
                                   omega
      have hg : l[i]? = some l[i] := List.getElem?_eq_getElem h0
      have htk : l.take (i + 1) = l.take i ++ [l[i]] := by rw [List.take_add_one, hg]; rfl
      generalize l[i] = m at hg htk
      have ia : dIndexAddr tab ty1007 dm (.int .i64 i) = some (.fptr (mrkr m)) := by rw [ixs1007 hd]; simp [-Option.bind_some, hg]
      have hw : IntKind.wrap .i64 ((i : Int) + 1) = ((i + 1 : Nat) : Int) := by
        rw [wrap_i64 (by omega) (by omega)]; omega
      have f0 : dFieldAddr tab ty1006 0 (.fptr (mrkr m)) = some (.fptr (mrkr m)) := id rfl
      have l0 : dLoad tab g ty3 (.fptr (mrkr m)) = some (.int .i64 m.h) := id rfl
      have f1 : dFieldAddr tab ty1006 1 (.fptr (mrkr m)) = some (.fptr [.int .i64 m.f, .int .i64 m.o]) := id rfl
      have l1 : dLoad tab g ty3 (.fptr [.int .i64 m.f, .int .i64 m.o]) = some (.int .i64 m.f) := id rfl
      have f2 : dFieldAddr tab ty1006 2 (.fptr (mrkr m)) = some (.fptr [.int .i64 m.o]) := id rfl
      have l2 : dLoad tab g ty3 (.fptr [.int .i64 m.o]) = some (.int .i64 m.o) := id rfl
      have lx : dLoad tab g ty1051 (.ptr (h.length + 1) 0 (0 + 2)) = some x := by rw [ldp1051, row_of R.p7]; rfl
      simp only [ia, f0, l0, bs, dBin_eql]
      by_cases hh : m.h = hst
      · simp only [hh, decide_true, dIf_bool, if_true, hll, fap1053_2, lx, ia, f1, l1, f2, l2, fa1009_0, ld1007, bs, bd1058_0_1, bs1051_1, Option.bind_assoc]
        refine rp_grow R m hh (by simp [-Option.bind_some]; omega) fun x' g' p7 st => ?_
        simp only [bs, fap1053_2, Nat.zero_add, Option.bind_assoc]
        refine st fun g2 R2 => ?_
        simp only [bs, toEnd_nrm, unblk_nrm, nth_zero, nth_succ, dBin_add, hw]
        exact .some (.inl ⟨rfl, n - 1, by omega, _, _, x', i + 1, rfl, by omega, by rw [htk]; exact R2⟩)
      · have hR : RpI h g hst num (l.take (i + 1)) x := ⟨R.len, R.below, R.p6, R.p7, by rw [htk, repL_snoc, if_neg hh, List.append_nil]; exact R.own⟩
        simp only [hh, decide_false, dIf_bool, Bool.false_eq_true, if_false, bs, toEnd_nrm, unblk_nrm, nth_zero, nth_succ, dBin_add, hw]
        exact .some (.inl ⟨rfl, n - 1, by omega, _, _, x, i + 1, rfl, by omega, hR⟩)
    · intro h0
      have h0 : i = l.length := by have : ¬ (i : Int) < l.length := by simpa [-Option.bind_some] using h0
                                   omega
      subst h0
      rw [List.take_length] at R
      exact .some (.inr ⟨by simp [-Option.bind_some], rfl, x, R⟩)
  · rintro ⟨ex, ds, g⟩ ⟨q1, x, R⟩
    simp only at q1 R
    subst q1
    simp only [unblk_self, toEnd_nrm, bs, mkRes_one, Option.bind_assoc]
    exact rp_end R fun df hdf => ⟨df, rfl, hdf⟩
theorem s1080 (hst num : Int) (l : List (Int × Int)) (da db : D) (h : Hp) (ha : SlOf 2 fmr l da) (hb : SlOf 2 fmr l db) (hl : l.length ≤ 1000000) : R fn1080 [.agg [.int .i64 hst, .int .i64 num, da], .agg [.int .i64 hst, .int .i64 num, db]] h = some (.bool true, h) := by
  suffices Wp (R fn1080 [.agg [.int .i64 hst, .int .i64 num, da], .agg [.int .i64 hst, .int .i64 num, db]] h) (fun p => p = (.bool true, h)) by
    obtain ⟨p, h1, rfl⟩ := this
    exact h1
  rw [e1080]
  simp only [F1080, pBoxF_agg, bs, fa1053_0, fa1053_1, fa1053_2, ld3, ld1051, dBin_neq, ne_eq, not_true, decide_false, gd_bool, if_true, dPick_bool, Bool.false_eq_true, if_false, lens1051 ha, lens1051 hb, dIf_bool, Option.bind_assoc]
  refine Wp.loop (fun n ds g => g = h ∧ ∃ x y z, ∃ i : Nat, ds = [x, .int .i64 i, y, z] ∧ n + i = l.length)
    (fun r => r.1 = .ext 0 ∧ r.2.2 = h) l.length ⟨rfl, _, _, _, 0, rfl, rfl⟩ ?_ ?_
  · rintro n ds g ⟨rfl, x, y, z, i, rfl, hi⟩
    simp only [F1080_L0, nth_zero, nth_succ, fa1053_2, ld1051, bs, Option.bind_assoc, lens1051 ha, dBin_lss]
    refine Wp.dif ?_ ?_
    · intro h0
      have h0 : i < l.length := by have : (i : Int) < l.length := by simpa [-Option.bind_some] using h0
                                   omega
      have hg : l[i]? = some l[i] := List.getElem?_eq_getElem h0
      generalize l[i] = u at hg
      have ia : dIndexAddr tab ty1051 da (.int .i64 i) = some (.fptr (fmr u)) := by rw [ixs1051 ha]; simp [-Option.bind_some, hg]
      have ib : dIndexAddr tab ty1051 db (.int .i64 i) = some (.fptr (fmr u)) := by rw [ixs1051 hb]; simp [-Option.bind_some, hg]
      have lu : dLoad tab g ty1058 (.fptr (fmr u)) = some (.agg (fmr u)) := id rfl
      have hw : IntKind.wrap .i64 ((i : Int) + 1) = ((i + 1 : Nat) : Int) := by
        rw [wrap_i64 (by omega) (by omega)]; omega
      have hn : dBin tab .neq ty1058 (.agg (fmr u)) (.agg (fmr u)) = some (.bool false) := by
        have := bneq1058 u.1 u.1 u.2 u.2
        simpa [-Option.bind_some, fmr] using this
      simp only [ia, ib, lu, hn, bs, dIf_bool, Bool.false_eq_true, if_false, dBin_add, hw]
      exact .some (.inl ⟨rfl, n - 1, by omega, rfl, _, _, _, i + 1, rfl, by omega⟩)
    · intro _
      exact .some (.inr ⟨by simp [-Option.bind_some], rfl, rfl⟩)
  · rintro ⟨ex, ds, g⟩ ⟨q1, q2⟩
    simp only at q1 q2
    subst q1; subst q2
    simp only [unblk_self, toEnd_nrm, bs, mkRes_one]
    exact .some rfl
theorem d1083 {h : Hp} {o : Nat} (hc : CD h o) : ∃ x h', R fn1083 [.ptr o 0 0] h = some (x, h') ∧ CD h' o ∧ Same o h h' ∧ ∃ l : List Tal, SlOf 3 talr l x ∧ TAsc l ∧ l.length ≤ 5 := by
  suffices Wp (R fn1083 [.ptr o 0 0] h) (fun p => CD p.2 o ∧ Same o h p.2 ∧ ∃ l : List Tal, SlOf 3 talr l p.1 ∧ TAsc l ∧ l.length ≤ 5) by
    obtain ⟨⟨x, h'⟩, h1, h2⟩ := this
    exact ⟨x, h', h1, h2⟩
  rw [e1083]
  simp only [F1083, bs, Option.bind_assoc]
  obtain ⟨v, h1, e1, c1, s1, b0, b1⟩ := next_b hc 5 (by omega) (by omega)
  refine Wp.step e1 ?_
  obtain ⟨k, rfl⟩ := Int.eq_ofNat_of_zero_le b0
  simp only [bs]
  refine Wp.loop (fun n ds g => CD g o ∧ Same o h g ∧ ∃ x y, ∃ i : Nat, ∃ l : List Tal, ds = [x, .int .i64 i, y] ∧ n = i ∧ SlOf 3 talr l x ∧ TAsc l ∧ l.length + i ≤ 4)
    (fun r => r.1 = .ext 0 ∧ CD r.2.2 o ∧ Same o h r.2.2 ∧ ∃ l : List Tal, SlOf 3 talr l (nth 0 r.2.1) ∧ TAsc l ∧ l.length ≤ 5) k ⟨c1, s1, _, _, k, [], rfl, rfl, SlOf.nils _ _, List.Pairwise.nil, by simp [-Option.bind_some]; omega⟩ ?_ ?_
  · rintro n ds g ⟨cg, sg, x, y, i, l, rfl, rfl, hx, hasc, hlen⟩
    simp only [F1083_L0, nth_zero, nth_succ, bs, Option.bind_assoc, dBin_gtr]
    refine Wp.dif ?_ ?_
    · intro h0
      have h0 : 0 < n := by have : (0 : Int) < n := by simpa [-Option.bind_some] using h0
                            omega
      have hw : IntKind.wrap .i64 ((n : Int) - 1) = ((n - 1 : Nat) : Int) := by
        rw [wrap_i64 (by omega) (by omega)]; omega
      obtain ⟨a, h2, e2, c2, s2, a0, a1⟩ := next_b cg 2 (by omega) (by omega)
      refine Wp.step e2 ?_
      simp only [dBin_add, wrap_i64 (n := 1 + a) (by omega) (by omega), bs, lt98_37_ok]
      obtain ⟨b, h3, e3, c3, s3, p0, p1⟩ := next_b c2 4 (by omega) (by omega)
      refine Wp.step e3 ?_
      obtain ⟨s, hs, hg⟩ := pick_of lt98_37 b p0 p1
      simp only [ix98, p0, if_true, List.getElem?_map, hg, Option.map_some, bs, ld9]
      obtain ⟨c, h4, e4, c4, s4, r0, r1⟩ := next_b c3 9 (by omega) (by omega)
      refine Wp.step e4 ?_
      obtain ⟨d', e5, hd'⟩ := s60 l x (1 + a) s (1 + c) h4 hx (by omega) (by omega)
      simp only [dBin_add, wrap_i64 (n := 1 + c) (by omega) (by omega), bs, e5]
      refine Wp.chk trivial ?_
      simp only [bs, dBin_sub, hw]
      have hal := addT_len l (1 + a) s (1 + c)
      exact .some (.inl ⟨rfl, n - 1, by omega, c4, ((sg.trans s2).trans s3).trans s4, _, _, n - 1, addT l (1 + a) s (1 + c), rfl, rfl, hd', addT_asc hasc _ _ _, by omega⟩)
    · intro _
      exact .some (.inr ⟨by simp [-Option.bind_some], rfl, cg, sg, l, hx, hasc, by omega⟩)
  · rintro ⟨ex, ds, g⟩ ⟨q1, q2, q3, l, q4, q5, q6⟩
    simp only at q1 q2 q3 q4
    subst q1
    simp only [unblk_self, toEnd_nrm, bs, mkRes_one]
    exact .some ⟨q2, q3, l, q4, q5, q6⟩
/-- What stays while marks are drawn. -/
structure InI (h g : Hp) (o : Nat) (ms : List Mrk) (x : D) : Prop where
  len : h.length + 2 ≤ g.length
  gr : Grow h.length o h g
  cd : CD g o
  p2 : g[h.length]? = some (.row ty1009 2 [[.nils, .nils]])
  p3 : g[h.length + 1]? = some (.row ty1009 2 [[x, .nils]])
  own : Own g (h.length + 2) ty1006 3 (ms.map mrkr) x
theorem InI.next {h g g' : Hp} {o : Nat} {ms : List Mrk} {x : D} (R : InI h g o ms x) (ho : o < h.length) (hc : CD g' o) (hs : Same o g g') : InI h g' o ms x :=
  ⟨by have := hs.1; have := R.len; omega, R.gr.trans hs.grow, hc, (hs.2 _ (by omega)).trans R.p2, (hs.2 _ (by omega)).trans R.p3, R.own.same hs (by omega)⟩
theorem l1076 {h : Hp} {o : Nat} (ho : o < h.length) (p3 : D × Hp) (hp : p3.1 = .ptr (h.length + 1) 0 0) (ds0 : List D) (hst : Int) (hds : nth 0 ds0 = .int .i64 hst) (g0 : Hp) (ms0 : List Mrk) (x0 : D) (R0 : InI h g0 o ms0 x0) (hlen0 : ms0.length ≤ 100) (hasc0 : MAsc ms0) (hlt0 : ∀ m ∈ ms0, m.h < hst)
    {β : Type} {K : Out → Option β} {Q : β → Prop} (a b : D)
    (cont : ∀ f c e g ms x, InI h g o ms x → ms.length ≤ ms0.length + 3 → MAsc ms → (∀ m ∈ ms, m.h ≤ hst) → Wp (K (.ext 2, [f, c, e], g)) Q) :
    Wp ((loopW (F1076_L1 (.ptr o 0 0) p3 ds0) [.int .i64 5, a, b] g0).bind K) Q := by
  refine Wp.loop (fun n ds g => ∃ y z x, ∃ f : Int, ∃ ms : List Mrk, ds = [.int .i64 f, y, z] ∧ 5 ≤ f ∧ f + n = 8 ∧ InI h g o ms x ∧ (ms.length : Int) ≤ ms0.length + (f - 5) ∧ MAsc ms ∧ (∀ m ∈ ms, m.h < hst ∨ (m.h = hst ∧ m.f < f)))
    (fun r => r.1 = .ext 2 ∧ (∃ f c e, r.2.1 = [f, c, e]) ∧ ∃ ms x, InI h r.2.2 o ms x ∧ ms.length ≤ ms0.length + 3 ∧ MAsc ms ∧ ∀ m ∈ ms, m.h ≤ hst) 3 ⟨_, _, x0, 5, ms0, rfl, by omega, by omega, R0, by omega, hasc0, fun m hm => .inl (hlt0 m hm)⟩ ?_ ?_
  · rintro n ds g ⟨y, z, x, f, ms, rfl, hf, hn, R, hl, hasc, hlt⟩
    simp only [F1076_L1, nth_zero, nth_succ, bs, Option.bind_assoc]
    obtain ⟨v, h1, e1, c1, s1, b0, b1⟩ := next_b R.cd 3 (by omega) (by omega)
    refine Wp.step e1 ?_
    have R1 := R.next ho c1 s1
    simp only [dBin_add, wrap_i64 (n := 5 + v) (by omega) (by omega), bs, dBin_leq]
    refine Wp.dif ?_ ?_
    · intro h0
      have h0 : f ≤ 5 + v := by simpa [-Option.bind_some] using h0
      have hw : IntKind.wrap .i64 (f + 1) = f + 1 := wrap_i64 (by omega) (by omega)
      obtain ⟨u, h2, e2, c2, s2, u0, u1⟩ := next_b c1 2 (by omega) (by omega)
      refine Wp.step e2 ?_
      have R2 := R1.next ho c2 s2
      simp only [dBin_eql, bs]
      refine Wp.join (P := fun r => ∃ g' x' ms', r = (.nrm, [], g') ∧ InI h g' o ms' x' ∧ (ms'.length : Int) ≤ ms0.length + (f + 1 - 5) ∧ MAsc ms' ∧ ∀ m ∈ ms', m.h < hst ∨ (m.h = hst ∧ m.f < f + 1)) ?_ ?_ ?_
      · intro _
        have lx : ∀ {g'' : Hp}, g''[h.length + 1]? = some (.row ty1009 2 [[x, .nils]]) → dLoad tab g'' ty1007 (.ptr (h.length + 1) 0 (0 + 0)) = some x := fun hq => by rw [ldp1007, row_of hq]; rfl
        simp only [hp, fap1009_0, lx R2.p3, bs, hds]
        obtain ⟨w, h3, e3, c3, s3, w0, w1⟩ := next_b c2 60 (by omega) (by omega)
        refine Wp.step e3 ?_
        have R3 := R2.next ho c3 s3
        simp only [bs, bd1006_0_1_2, bs1007_1]
        refine wap1007 R3.len R3.own (rowsOf_sl _ _ _ _) (by simp [-Option.bind_some]; omega) fun x' g' ow len bel _ _ => ?_
        simp only [bs, lx R3.p3]
        refine Wp.chk trivial ?_
        have oc := one_cells (own_one ow)
        refine wst1007 (off := 0 + 0) ((bel (h.length + 1) (by omega)).trans R3.p3) rfl (by rw [oc.1]; rfl) (by simp [-Option.bind_some]) oc.2 fun g2 q2 t2 => ?_
        rw [oc.1] at q2
        have ow2 : Own g2 (h.length + 2) ty1006 3 ((ms ++ [(⟨hst, f, w⟩ : Mrk)]).map mrkr) x' := by
          rw [List.map_append]
          exact ow.keep fun q hq _ => t2.2 q (by omega)
        refine .some ⟨g2, x', ms ++ [⟨hst, f, w⟩], rfl, ⟨by have := t2.1; have := R3.len; omega, R3.gr.trans ⟨by have := t2.1; omega, fun q hq _ => (t2.2 q (by omega)).trans (bel q (by omega))⟩, R3.cd.keep ((t2.2 o (by omega)).trans (bel o (by omega))), (t2.2 _ (by omega)).trans ((bel _ (by omega)).trans R3.p2), q2, ow2⟩, by simp [-Option.bind_some]; omega, ?_, fun m hm => ?_⟩
        · unfold MAsc
          rw [List.pairwise_append]
          refine ⟨hasc, by simp [-Option.bind_some], fun p hp' q hq' => ?_⟩
          simp only [List.mem_singleton] at hq'
          subst hq'
          exact hlt p hp'
        · rcases List.mem_append.1 hm with hm | hm
          · have := hlt m hm; omega
          · simp only [List.mem_singleton] at hm
            subst hm
            right
            exact ⟨rfl, by show f < f + 1; omega⟩
      · intro _
        exact .some ⟨_, x, ms, rfl, R2, by omega, hasc, fun m hm => by have := hlt m hm; omega⟩
      rintro _ ⟨g', x', ms', rfl, R', hl', hasc', hlt'⟩
      simp only [toEnd_nrm, unblk_nrm, bs, hw]
      exact .some (.inl ⟨rfl, n - 1, by omega, _, _, x', f + 1, ms', rfl, by omega, by omega, R', hl', hasc', hlt'⟩)
    · intro _
      exact .some (.inr ⟨by simp [-Option.bind_some], rfl, ⟨_, _, _, rfl⟩, ms, x, R1, by omega, hasc, fun m hm => by have := hlt m hm; omega⟩)
  · rintro ⟨ex, ds, g⟩ ⟨rfl, ⟨f, c, e, rfl⟩, ms, x, R, hl, hasc, hlt⟩
    exact cont f c e g ms x R hl hasc hlt
theorem mrkr_frz (n0 : Nat) (h : Hp) (n : Nat) (p : Mrk) : ∀ d ∈ mrkr p, frz n0 h n d = d := by simp [-Option.bind_some, mrkr]
theorem mrkr_ok (n : Nat) (p : Mrk) : ∀ d ∈ mrkr p, Ok n d := by
  intro d hd
  simp [-Option.bind_some, mrkr] at hd
  rcases hd with rfl | rfl | rfl <;> constructor
theorem d1076 {h : Hp} {o : Nat} (hc : CD h o) : ∃ dm dt h', R fn1076 [.ptr o 0 0] h = some (.agg [dm, dt], h') ∧ CD h' o ∧ Same o h h' ∧ ∃ (ms : List Mrk) (ts : List Tal), SlOf 3 mrkr ms dm ∧ MAsc ms ∧ ms.length ≤ 6 ∧ SlOf 3 talr ts dt ∧ TAsc ts ∧ ts.length ≤ 5 := by
  suffices Wp (R fn1076 [.ptr o 0 0] h) (fun p => ∃ dm dt, p.1 = .agg [dm, dt] ∧ CD p.2 o ∧ Same o h p.2 ∧ ∃ (ms : List Mrk) (ts : List Tal), SlOf 3 mrkr ms dm ∧ MAsc ms ∧ ms.length ≤ 6 ∧ SlOf 3 talr ts dt ∧ TAsc ts ∧ ts.length ≤ 5) by
    obtain ⟨⟨x, h'⟩, h1, dm, dt, rfl, h2⟩ := this
    exact ⟨dm, dt, h', h1, h2⟩
  have ho := hc.lt
  have hll : (dNew h ty1009 2 [[.nils, .nils]]).length = h.length + 1 := by simp [-Option.bind_some, dNew]
  have R0 : InI h (dNew (dNew h ty1009 2 [[.nils, .nils]]) ty1009 2 [[.nils, .nils]]) o [] .nils := by
    have hold : ∀ q, q < h.length → (dNew (dNew h ty1009 2 [[.nils, .nils]]) ty1009 2 [[.nils, .nils]])[q]? = h[q]? := fun q hq => by
      rw [dNew_old _ _ _ _ (by omega), dNew_old _ _ _ _ hq]
    refine ⟨by simp [-Option.bind_some, dNew], ⟨by simp [-Option.bind_some, dNew], fun q hq _ => hold q hq⟩, hc.keep (hold o ho), ?_, ?_, Own.nils _ _ _ _⟩
    · rw [dNew_old _ _ _ _ (by omega)]; exact dNew_get _ _ _ _
    · rw [← hll]; exact dNew_get _ _ _ _
  rw [e1076]
  simp only [F1076, bs, Option.bind_assoc]
  have hp3 : ((D.ptr (dNew h ty1009 2 [[.nils, .nils]]).length 0 0, dNew (dNew h ty1009 2 [[.nils, .nils]]) ty1009 2 [[.nils, .nils]]) : D × Hp).1 = .ptr (h.length + 1) 0 0 := by rw [hll]
  generalize hP : ((D.ptr (dNew h ty1009 2 [[.nils, .nils]]).length 0 0, dNew (dNew h ty1009 2 [[.nils, .nils]]) ty1009 2 [[.nils, .nils]]) : D × Hp) = p3 at hp3
  rw [hll]
  generalize dNew (dNew h ty1009 2 [[.nils, .nils]]) ty1009 2 [[.nils, .nils]] = g0 at R0
  clear hP
  refine Wp.loop (fun n ds g => ∃ a b c e x, ∃ hst : Int, ∃ ms : List Mrk, ds = [.int .i64 hst, a, b, c, e] ∧ 1 ≤ hst ∧ hst + n = 3 ∧ InI h g o ms x ∧ (ms.length : Int) ≤ 3 * (hst - 1) ∧ MAsc ms ∧ ∀ m ∈ ms, m.h < hst)
    (fun r => r.1 = .ext 0 ∧ ∃ ms x, InI h r.2.2 o ms x ∧ ms.length ≤ 6 ∧ MAsc ms) 2 ⟨_, _, _, _, _, 1, [], rfl, by omega, by omega, R0, by simp [-Option.bind_some], List.Pairwise.nil, by simp [-Option.bind_some]⟩ ?_ ?_
  · rintro n ds g ⟨a, b, c, e, x, hst, ms, rfl, h1, hn, R, hl, hasc, hlt⟩
    simp only [F1076_L0, nth_zero, nth_succ, bs, Option.bind_assoc, dBin_leq]
    refine Wp.dif ?_ ?_
    · intro h0
      have h0 : hst ≤ 2 := by simpa [-Option.bind_some] using h0
      have hw : IntKind.wrap .i64 (hst + 1) = hst + 1 := wrap_i64 (by omega) (by omega)
      refine l1076 ho p3 hp3 _ hst rfl g ms x R (by omega) hasc hlt _ _ fun f c e g' ms' x' R' hl' hasc' hlt' => ?_
      simp only [unblk_self, toEnd_nrm, unblk_nrm, nth_zero, nth_succ, bs, dBin_add, hw]
      exact .some (.inl ⟨rfl, n - 1, by omega, _, _, _, _, x', hst + 1, ms', rfl, by omega, by omega, R', by omega, hasc', fun m hm => by have := hlt' m hm; omega⟩)
    · intro _
      exact .some (.inr ⟨by simp [-Option.bind_some], rfl, ms, x, R, by omega, hasc⟩)
  · rintro ⟨ex, ds, g⟩ ⟨q1, ms, x, R, hl, hasc⟩
    simp only at q1 R
    subst q1
    obtain ⟨dt, h1, e1, c1, s1, ts, ht, htasc, htl⟩ := d1083 R.cd
    have R1 := R.next ho c1 s1
    simp only [unblk_self, toEnd_nrm, bs]
    refine Wp.step e1 ?_
    have ot := one_cells (slof_one ht)
    have ox := own_one R1.own
    simp only [hp3, fap1009_1, bs, Option.bind_assoc]
    refine wst58 (off := 0 + 1) R1.p3 rfl (by rw [ot.1]; rfl) (by simp [-Option.bind_some]) ot.2 fun g2 q2 t2 => ?_
    rw [ot.1] at q2
    replace q2 : g2[h.length + 1]? = some (.row ty1009 2 [[x, dt]]) := q2
    have l3 : dLoad tab g2 ty1009 (.ptr (h.length + 1) 0 0) = some (.agg [x, dt]) := by rw [ldp1009, row_of q2]; rfl
    refine Wp.step l3 ?_
    refine wst1009 (off := 0) ((t2.2 _ (by omega)).trans R1.p2) rfl rfl (by simp [-Option.bind_some]) (by
      have ot' := slof_one ht
      clear l3 q2 ot
      cases x <;> first | (cases dt <;> first | rfl | (simp [-Option.bind_some, D.one] at ot')) | (simp [-Option.bind_some, D.one] at ox)) fun g3 q3 t3 => ?_
    replace q3 : g3[h.length]? = some (.row ty1009 2 [[x, dt]]) := q3
    have l4 : dLoad tab g3 ty1009 (.ptr h.length 0 0) = some (.agg [x, dt]) := by rw [ldp1009, row_of q3]; rfl
    refine Wp.step l4 ?_
    simp only [mkRes_one]
    have ow : Own g3 (h.length + 2) ty1006 3 (ms.map mrkr) x := R1.own.keep fun q hq _ => (t3.2 q (by omega)).trans (t2.2 q (by omega))
    have hsl := own_sl (n0 := h.length) (n := 2) ow (by omega) (fun a _ => mrkr_frz _ g3 _ a)
    have S : St h o g3 := ⟨ho, R1.cd.keep ((t3.2 o (by omega)).trans (t2.2 o (by omega))), R1.gr.trans ⟨by have := t2.1; have := t3.1; omega, fun q hq _ => (t3.2 q (by omega)).trans (t2.2 q (by omega))⟩⟩
    obtain ⟨h', hs, hcd, hsm⟩ := S.scope (d := .agg [x, dt]) (d' := .agg [frz h.length g3 3 x, dt]) (by simp [-Option.bind_some, talr_frz' ht]) (.agg _ fun d hd => by
      simp [-Option.bind_some] at hd
      rcases hd with rfl | rfl
      · exact slof_ok hsl fun a _ => mrkr_ok _ a
      · exact slof_ok ht fun a _ => talr_ok _ a)
    rw [hs]
    exact .some ⟨_, _, rfl, hcd, hsm, ms, ts, hsl, hasc, hl, ht, htasc, htl⟩
theorem law1075 (zs : List Int) (d : D) (host file num : Int) (h : Hp) (hd : Given .u8 zs d) (hz : ∀ z ∈ zs, 0 ≤ z ∧ z < 256) : ∃ h', R fn1075 [d, .int .i64 host, .int .i64 file, .int .i64 num] h = some (.bool true, h') := by
  suffices Wp (R fn1075 [d, .int .i64 host, .int .i64 file, .int .i64 num] h) (fun p => p.1 = .bool true) by
    obtain ⟨⟨x, h'⟩, h1, rfl⟩ := this
    exact ⟨h', h1⟩
  rw [e1075]
  simp only [F1075, bs, s1001, dUn_not, dIf_bool, Bool.not_true, Bool.false_eq_true, if_false, Option.bind_assoc]
  obtain ⟨h1, e1, c1, hl1⟩ := d44 zs d 100 h hd (by omega) (by omega) hz
  refine Wp.step e1 ?_
  simp only [bs]
  obtain ⟨dm, dt, h2, e2, c2, s2, ms, ts, hm, hmasc, hml, ht, htasc, htl⟩ := d1076 c1
  refine Wp.step e2 ?_
  have hbx : boxN 2 (.agg [dm, dt]) = some (.fptr [dm, dt]) := boxN_agg 2 _ rfl
  have hL : pLitF tab ty82 3 [0, 1, 2] [.int .i64 host, .int .i64 1, .int .i64 2] = some (.sl 1 true ([host, 1, 2].map inr)) := id rfl
  have hSl : SlOf 1 inr [host, 1, 2] (.sl 1 true ([host, 1, 2].map inr)) := .mk _ _ _ _
  have lI : ∀ g : Hp, dLoad tab g ty1009 (.fptr [dm, dt]) = some (.agg [dm, dt]) := fun g => id rfl
  have f1 : dFieldAddr tab ty1009 1 (.fptr [dm, dt]) = some (.fptr [dt]) := id rfl
  have l1 : ∀ g : Hp, dLoad tab g ty58 (.fptr [dt]) = some dt := fun g => id rfl
  have l3 : ∀ (g : Hp) (x : Int), dLoad tab g ty3 (.fptr [.int .i64 x]) = some (.int .i64 x) := fun g x => id rfl
  simp only [hbx, hL, bs, lens82 hSl]
  generalize (D.sl 1 true ([host, 1, 2].map inr)) = L at hSl
  refine Wp.loop (fun n ds g => CD g h.length ∧ ∃ a b c e f k p q, ∃ i : Nat, ds = [a, b, c, e, f, .int .i64 i, k, p, q] ∧ n + i = 3)
    (fun r => r.1 = .ext 0) 3 ⟨c2, _, _, _, _, _, _, _, _, 0, rfl, rfl⟩ ?_ ?_
  · rintro n ds g ⟨cg, a, b, c, e, f, k, p, q, i, rfl, hi⟩
    simp only [F1075_L0, nth_zero, nth_succ, bs, Option.bind_assoc, dBin_lss]
    refine Wp.dif ?_ ?_
    · intro h0
      have h0 : i < [host, 1, 2].length := by have : (i : Int) < ([host, 1, 2].length : Int) := by simpa [-Option.bind_some] using h0
                                              omega
      have hg : [host, 1, 2][i]? = some [host, 1, 2][i] := List.getElem?_eq_getElem h0
      generalize [host, 1, 2][i] = hst at hg
      have ia : dIndexAddr tab ty82 L (.int .i64 i) = some (.fptr [.int .i64 hst]) := by rw [ixs82 hSl]; simp [-Option.bind_some, hg, inr]
      have h03 : i < 3 := by simpa [-Option.bind_some] using h0
      have hw : IntKind.wrap .i64 ((i : Int) + 1) = ((i + 1 : Nat) : Int) := by
        rw [wrap_i64 (by omega) (by omega)]; omega
      simp only [ia, l3, bs]
      obtain ⟨v, g1, e3, c3, s3, v0, v1⟩ := next_b cg 4 (by omega) (by omega)
      refine Wp.step e3 ?_
      simp only [dBin_add, bs, lt98_36_ok]
      obtain ⟨u, g2, e4, c4, s4, u0, u1⟩ := next_b c3 4 (by omega) (by omega)
      refine Wp.step e4 ?_
      obtain ⟨s, hs, hgs⟩ := pick_of lt98_36 u u0 u1
      simp only [ix98, u0, if_true, List.getElem?_map, hgs, Option.map_some, bs, ld9]
      generalize IntKind.wrap .i64 (5 + v) = fl
      have m1 : ∀ (x : Int) (g : Hp), R fn1005 [.agg [dm, dt], .int .i64 hst, .int .i64 x] g = some (.int .i64 (markOf ms hst x), g) := fun x g => s1005 ms dm dt hst x g hm (by omega) hmasc
      have m2 : ∀ (x : Int) (g : Hp), R fn1077 [.agg [dm, dt], .int .i64 hst, .int .i64 x] g = some (.int .i64 (markOf ms hst x), g) := fun x g => s1077 ms dm dt hst x g hm (by omega)
      have k1 : ∀ (g : Hp), R fn1078 [.agg [dm, dt], .int .i64 hst, .str s] g = some (.int .i64 (countT ts hst s), g) := fun g => s1078 ts dt dm hst s g ht (by omega) htasc
      have k2 : ∀ (g : Hp), R fn1079 [.agg [dm, dt], .int .i64 hst, .str s] g = some (.int .i64 (countT ts hst s), g) := fun g => s1079 ts dt dm hst s g ht (by omega) htasc
      obtain ⟨da, r1, ha⟩ := s1081 ms dm dt hst num g2 hm (by omega)
      obtain ⟨db, r2, hb⟩ := s1082 ms dm dt hst num g2 hm (by omega)
      have hrl := repL_len hst ms
      have r3 := s1080 hst num (repL hst ms) da db g2 ha hb (by omega)
      simp only [lI, m1, m2, k1, k2, r1, r2, r3, bs, dBin_neq, ne_eq, not_true, decide_false, gd_bool, if_true, Bool.false_eq_true, if_false, gdW_bool, dPick_bool, dUn_not, Bool.not_true, dIf_bool]
      refine Wp.chk trivial (Wp.chk trivial (Wp.chk trivial (Wp.chk trivial ?_)))
      obtain ⟨w, g3, e5, c5, s5, w0, w1⟩ := next_b c4 9 (by omega) (by omega)
      refine Wp.step e5 ?_
      have hw2 : IntKind.wrap .i64 (w - 2) = w - 2 := wrap_i64 (by omega) (by omega)
      obtain ⟨d1, q1, hd1⟩ := s59 ts dt hst s (w - 2) g3 ht (by omega) htasc
      obtain ⟨d2, q2, hd2⟩ := s60 ts dt hst s (w - 2) g3 ht (by omega) (by omega)
      have hal := addT_len ts hst s (w - 2)
      have q3 := s30r (addT ts hst s (w - 2)) d1 d2 g3 hd1 hd2 (by omega)
      simp only [dBin_sub, hw2, f1, l1, q1, q2, q3, bs, dUn_not, Bool.not_true, dIf_bool, Bool.false_eq_true, if_false, dBin_add, hw]
      refine Wp.chk trivial ?_
      exact .some (.inl ⟨rfl, n - 1, by omega, c5, _, _, _, _, _, _, _, _, i + 1, rfl, by omega⟩)
    · intro _
      exact .some (.inr ⟨by simp [-Option.bind_some], rfl⟩)
  · rintro ⟨ex, ds, g⟩ q1
    simp only at q1
    subst q1
    simp only [unblk_self, toEnd_nrm, bs, mkRes_one]
    exact .some rfl
end Go.Proofs.Ytfjbbeleejnbgaa
