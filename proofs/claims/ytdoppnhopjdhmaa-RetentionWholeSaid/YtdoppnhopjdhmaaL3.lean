/- Laws, on plain data, about functions that the statement reaches. -/
import Derived.Test.YtdoppnhopjdhmaaL2
set_option linter.unusedSimpArgs false
set_option linter.unusedVariables false
set_option linter.unnecessarySimpa false
set_option maxRecDepth 100000
namespace Go.Proofs.Ytdoppnhopjdhmaa
open Go.Eng Go.Pi
theorem kT_ge (key : Tal) : ∀ (l : List Tal), TAsc l → ∀ (i : Nat) (x : Tal), l[i]? = some x → kT key l ≤ i → 0 ≤ cmpT x key
  | y :: r, hs, i, x, hx, hi => by
    unfold kT at hi
    have hs' := List.pairwise_cons.1 hs
    split at hi
    · cases i with
      | zero => omega
      | succ i => exact kT_ge key r hs'.2 i x (by simpa [-Option.bind_some] using hx) (by omega)
    · rename_i hc
      rcases Int.lt_or_le (cmpT x key) 0 with h1 | h1
      · exfalso
        cases i with
        | zero => simp [-Option.bind_some] at hx; subst hx; exact hc h1
        | succ i =>
          have hx' : r[i]? = some x := by simpa [-Option.bind_some] using hx
          exact hc ((cmpT_lt _ _).2 (kl_tr (hs'.1 x (List.mem_of_getElem? hx')) ((cmpT_lt _ _).1 h1)))
      · exact h1
/-- The tallies with some lines more. -/
def addK (l : List Tal) (hst : Int) (rule : Str) (n : Int) (k : Nat) : List Tal := match l[k]? with
  | some x => if cmpT x ⟨hst, rule, 0⟩ = 0 then l.set k ⟨x.h, x.r, IntKind.wrap .i64 (x.n + n)⟩ else l.take k ++ [⟨hst, rule, IntKind.wrap .i64 (0 + n)⟩] ++ l.drop k
  | none => l.take k ++ [⟨hst, rule, IntKind.wrap .i64 (0 + n)⟩] ++ l.drop k
def addT (l : List Tal) (hst : Int) (rule : Str) (n : Int) : List Tal := if n < 1 then l else addK l hst rule n (kT ⟨hst, rule, 0⟩ l)
theorem u79 (l : List Tal) (d : D) (h : Hp) (hd : SlOf 3 talr l d) (hl : l.length ≤ 1000000) : ∃ d' h', R fn79 [d] h = some (d', h') ∧ h.length ≤ h'.length ∧ (∀ q, q < h.length → h'[q]? = h[q]?) ∧
    ((l = [] ∧ (d' = .nils ∨ d' = .sl 3 true [])) ∨ ∃ ob, h.length ≤ ob ∧ d' = .msl 3 ob 0 l.length ∧ h'[ob]? = some (.row ty106 3 (l.map talr))) := by
  rw [e79]
  rcases hd with ⟨rfl, rfl⟩ | ⟨b, rfl⟩
  · exact ⟨.nils, h, by
      have hne : dBin tab .eql ty58 .nils .nils = some (.bool true) := id rfl
      simp [-Option.bind_some, F79, hne], Nat.le_refl _, fun _ _ => rfl, .inl ⟨rfl, .inl rfl⟩⟩
  · obtain ⟨x', h', e, hl', hq, ho⟩ := app_full (T := tab) (t := ty58) (i := ti58) (j := ti106) (h := h) (id rfl) (id rfl) (id rfl) (by decide) (y := .sl 3 b (l.map talr)) (rowsOf_sl _ _ _ _) (lim_ok (by have : ti106.by_ = 32 := rfl; rw [this, List.length_map]; omega) (by rw [List.length_map]; omega))
    have e' : dAppend tab h ty58 ty58 (.sl 3 true []) (.sl 3 b (l.map talr)) = some (x', h') := e
    have hne : dBin tab .eql ty58 (.sl 3 b (l.map talr)) .nils = some (.bool false) := id rfl
    refine ⟨x', h', ?_, hl', hq, ?_⟩
    · simp only [F79, bs, hne, dIf_bool, Bool.false_eq_true, if_false, bs58_0, e', mkRes_one]
    · rcases ho with ⟨rfl, hn⟩ | ⟨rfl, hn⟩ | ⟨ob, h1, rfl, h2⟩
      · have : l = [] := by simpa [-Option.bind_some] using hn
        exact .inl ⟨this, .inr rfl⟩
      · have : l = [] := by simpa [-Option.bind_some] using hn
        exact .inl ⟨this, .inl rfl⟩
      · exact .inr ⟨ob, h1, by rw [List.length_map]; rfl, h2⟩
theorem lim106 {n : Nat} (hn : n ≤ 1000001) : lim n ti106.by_ = true := lim_ok (by have : ti106.by_ = 32 := rfl; rw [this]; omega) (by omega)
theorem s59 (l : List Tal) (d : D) (hst : Int) (rule : Str) (n : Int) (h : Hp) (hd : SlOf 3 talr l d) (hl : l.length ≤ 1000000) (hs : TAsc l) :
    ∃ d', R fn59 [d, .int .i64 hst, .str rule, .int .i64 n] h = some (d', h) ∧ SlOf 3 talr (addT l hst rule n) d' := by
  suffices Wp (R fn59 [d, .int .i64 hst, .str rule, .int .i64 n] h) (fun p => p.2 = h ∧ SlOf 3 talr (addT l hst rule n) p.1) by
    obtain ⟨⟨x, h'⟩, h1, rfl, h2⟩ := this
    exact ⟨x, h1, h2⟩
  rw [e59]
  obtain ⟨d1, h1, e1, hl1, hb1, hd1⟩ := u79 l d h hd hl
  simp only [F59, bs, e1, dBin_lss]
  refine Wp.dif (fun hn => ?_) (fun hn => ?_)
  · have hn : n < 1 := by simpa [-Option.bind_some] using hn
    have ha : addT l hst rule n = l := by simp [-Option.bind_some, addT, hn]
    rw [ha]
    rcases hd1 with ⟨rfl, rfl | rfl⟩ | ⟨ob, hob, rfl, ho⟩
    · simp only [mkRes_one, bs]
      rw [scope_eq rfl (by simp [-Option.bind_some]; exact .nils) hl1 hb1]
      exact .some ⟨rfl, by simpa [-Option.bind_some] using SlOf.nils _ _⟩
    · have hsl : SlOf 3 talr [] (.sl 3 true []) := .inr ⟨true, rfl⟩
      simp only [mkRes_one, bs]
      rw [scope_eq (d' := .sl 3 true []) rfl (slof_ok hsl fun a _ => talr_ok _ a) hl1 hb1]
      exact .some ⟨rfl, hsl⟩
    · have ow : Own h1 h.length ty106 3 (l.map talr) (.msl 3 ob 0 l.length) := .inr ⟨ob, hob, by simp [-Option.bind_some], ho⟩
      have hsl := own_sl (n0 := h.length) (n := 3) ow (Nat.le_refl _) (fun a _ => talr_frz _ h1 _ a)
      simp only [mkRes_one, bs]
      rw [scope_eq rfl (slof_ok hsl fun a _ => talr_ok _ a) hl1 hb1]
      exact .some ⟨rfl, hsl⟩
  · have hn : ¬ n < 1 := by simpa [-Option.bind_some] using hn
    have ha : addT l hst rule n = addK l hst rule n (kT ⟨hst, rule, 0⟩ l) := by simp [-Option.bind_some, addT, hn]
    rw [ha]
    have hrd : RdT h1 l d1 := by
      rcases hd1 with ⟨rfl, rfl | rfl⟩ | ⟨ob, hob, rfl, ho⟩
      · exact .inl (.nils _ _)
      · exact .inl (.inr ⟨true, rfl⟩)
      · exact .inr ⟨ob, rfl, ho⟩
    have hk := kT_le ⟨hst, rule, 0⟩ l
    have h80 := s80 l d1 hst rule h1 hrd hl (kT ⟨hst, rule, 0⟩ l) hk (kT_lt _ l) (kT_ge _ l hs)
    generalize kT ⟨hst, rule, 0⟩ l = k at hk h80
    simp only [h80, bs, dExtract_tup, List.getElem?_cons_zero, List.getElem?_cons_succ, dUn_not]
    refine Wp.join (P := fun r => ∃ (d2 : D) (h2 : Hp) (ob : Nat) (L : List Tal) (x : Tal), r = (.nrm, [d2], h2) ∧ d2 = .msl 3 ob 0 L.length ∧ h.length ≤ ob ∧ h.length ≤ h2.length ∧ (∀ q, q < h.length → h2[q]? = h[q]?) ∧ h2[ob]? = some (.row ty106 3 (L.map talr)) ∧ L[k]? = some x ∧ L.set k ⟨x.h, x.r, IntKind.wrap .i64 (x.n + n)⟩ = addK l hst rule n k) ?_ ?_ ?_
    · intro hf
      have hadd : addK l hst rule n k = l.take k ++ [⟨hst, rule, IntKind.wrap .i64 (0 + n)⟩] ++ l.drop k := by
        unfold addK
        cases hg : l[k]? with
        | none => rfl
        | some x =>
          rw [hg] at hf
          have : ¬ cmpT x ⟨hst, rule, 0⟩ = 0 := by simpa [-Option.bind_some] using hf
          simp [-Option.bind_some, this]
      have hlt : (l.take k).length = k := by simp [-Option.bind_some]; omega
      have hL : (l.take k ++ [(⟨hst, rule, 0⟩ : Tal)] ++ l.drop k)[k]? = some ⟨hst, rule, 0⟩ := by
        rw [List.append_assoc, List.getElem?_append_right (by omega), hlt]; simp [-Option.bind_some]
      have hset : (l.take k ++ [(⟨hst, rule, 0⟩ : Tal)] ++ l.drop k).set k ⟨hst, rule, IntKind.wrap .i64 (0 + n)⟩ = l.take k ++ [⟨hst, rule, IntKind.wrap .i64 (0 + n)⟩] ++ l.drop k := by
        rw [List.append_assoc, List.set_append_right _ _ (by omega), hlt]; simp [-Option.bind_some]
      have hlen : (l.take k ++ [(⟨hst, rule, 0⟩ : Tal)] ++ l.drop k).length = l.length + 1 := by simp [-Option.bind_some]; omega
      have hmap : (l.take k ++ [(⟨hst, rule, 0⟩ : Tal)] ++ l.drop k).map talr = (l.map talr).take k ++ [[.int .i64 hst, .str rule, .int .i64 0]] ++ (l.map talr).drop k := by
        rw [List.map_append, List.map_append, List.map_take, List.map_drop]; rfl
      have hz : ti106.sz = 3 := rfl
      have hlim : lim (l.length + 1) ti106.by_ = true := lim106 (by omega)
      have hlim1 : lim 1 ti106.by_ = true := lim106 (by omega)
      simp only [bd106_0_1, bs58_1, bs, xins81]
      rcases hd1 with ⟨rfl, hdd⟩ | ⟨ob, hob, rfl, ho⟩
      · have hk0 : k = 0 := by simpa [-Option.bind_some] using hk
        subst hk0
        have hi : dIns ty106 ti106 [d1, .int .i64 ((0 : Nat) : Int), .sl 3 true [[.int .i64 hst, .str rule, .int .i64 0]]] h1 = some (.msl 3 h1.length 0 1, dNew h1 ty106 3 [[.int .i64 hst, .str rule, .int .i64 0]]) := by
          rcases hdd with rfl | rfl <;> simp [-Option.bind_some, dIns, hz, hlim1]
        rw [hi]
        simp only [bs]
        refine .some ⟨_, _, h1.length, [⟨hst, rule, 0⟩], ⟨hst, rule, 0⟩, rfl, rfl, hl1, ?_, fun q hq => ?_, dNew_get _ _ _ _, rfl, ?_⟩
        · simp [-Option.bind_some, dNew]; omega
        · rw [dNew_old _ _ _ _ (by omega)]; exact hb1 q hq
        · rw [hadd]; simp [-Option.bind_some]
      · have hi : dIns ty106 ti106 [.msl 3 ob 0 l.length, .int .i64 (k : Int), .sl 3 true [[.int .i64 hst, .str rule, .int .i64 0]]] h1 = some (.msl 3 h1.length 0 (l.length + 1), dNew (h1.set ob .dead) ty106 3 ((l.map talr).take k ++ [[.int .i64 hst, .str rule, .int .i64 0]] ++ (l.map talr).drop k)) := by
          have hkl : (k : Int) ≤ (l.length : Int) := by omega
          simp [-Option.bind_some, dIns, hz, hlim, ho, hkl]
        rw [hi]
        simp only [bs]
        refine .some ⟨_, _, h1.length, l.take k ++ [⟨hst, rule, 0⟩] ++ l.drop k, ⟨hst, rule, 0⟩, rfl, by rw [hlen], hl1, ?_, fun q hq => ?_, ?_, hL, by rw [hadd]; exact hset⟩
        · simp [-Option.bind_some, dNew]; omega
        · rw [dNew_old _ _ _ _ (by simp [-Option.bind_some]; omega), List.getElem?_set_ne (by omega)]; exact hb1 q hq
        · have := dNew_get (h1.set ob .dead) ty106 3 ((l.take k ++ [(⟨hst, rule, 0⟩ : Tal)] ++ l.drop k).map talr)
          simp only [List.length_set] at this
          rw [hmap] at this ⊢
          exact this
    · intro hf
      cases hg : l[k]? with
      | none => rw [hg] at hf; simp [-Option.bind_some] at hf
      | some x =>
        rw [hg] at hf
        have hc : cmpT x ⟨hst, rule, 0⟩ = 0 := by simpa [-Option.bind_some] using hf
        rcases hd1 with ⟨rfl, hdd⟩ | ⟨ob, hob, rfl, ho⟩
        · simp [-Option.bind_some] at hg
        · refine .some ⟨_, _, ob, l, x, rfl, rfl, hob, hl1, hb1, ho, hg, ?_⟩
          simp [-Option.bind_some, addK, hg, hc]
    · rintro _ ⟨d2, h2, ob, L, x, rfl, rfl, hob, hl2, hb2, ho, hx, hfin⟩
      have hkL : k < L.length := (List.getElem?_eq_some_iff.1 hx).1
      have hkl2 : (0 : Int) ≤ (k : Int) ∧ (k : Int) < (L.length : Int) := by omega
      have hr : (L.map talr)[k]? = some (talr x) := by rw [List.getElem?_map, hx]; rfl
      simp only [toEnd_nrm, nth_zero, bs, ixm58, hkl2, and_self, if_true, fap106_2, Int.toNat_natCast, Nat.zero_add, ldp3, row_of ho, hr]
      simp only [talr, List.drop_succ_cons, List.drop_zero, List.head?_cons, bs, dBin_add]
      simp only [Option.bind_assoc, bs]
      refine wst3 (off := 2) (v := .int .i64 (IntKind.wrap .i64 (x.n + n))) ho hr rfl (by simp [-Option.bind_some, talr]) rfl fun h3 q3 s3 => ?_
      have hset : (L.map talr).set k (spl (talr x) 2 (cells1 (.int .i64 (IntKind.wrap .i64 (x.n + n))))) = (addK l hst rule n k).map talr := by
        rw [← hfin, List.map_set]; rfl
      rw [hset] at q3
      simp only [bs, mkRes_one]
      have hlen : (addK l hst rule n k).length = L.length := by rw [← hfin]; simp [-Option.bind_some]
      have ow : Own h3 h.length ty106 3 ((addK l hst rule n k).map talr) (.msl 3 ob 0 L.length) := .inr ⟨ob, hob, by simp [-Option.bind_some, hlen], q3⟩
      have hsl := own_sl (n0 := h.length) (n := 3) ow (Nat.le_refl _) (fun a _ => talr_frz _ h3 _ a)
      rw [scope_eq rfl (slof_ok hsl fun a _ => talr_ok _ a) (by have := s3.1; omega) (fun q hq => (s3.2 q (by omega)).trans (hb2 q hq))]
      exact .some ⟨rfl, hsl⟩
theorem addT_len (l : List Tal) (hst : Int) (rule : Str) (n : Int) : (addT l hst rule n).length ≤ l.length + 1 := by
  unfold addT
  split
  · omega
  · have hk := kT_le ⟨hst, rule, 0⟩ l
    generalize kT ⟨hst, rule, 0⟩ l = k at hk
    unfold addK
    split
    · split
      · simp [-Option.bind_some]
      · simp [-Option.bind_some]; omega
    · simp [-Option.bind_some]; omega
theorem addT_asc {l : List Tal} (hs : TAsc l) (hst : Int) (rule : Str) (n : Int) : TAsc (addT l hst rule n) := by
  unfold addT
  split
  · exact hs
  · have hk := kT_le ⟨hst, rule, 0⟩ l
    have h1 := kT_lt ⟨hst, rule, 0⟩ l
    have h2 := kT_ge ⟨hst, rule, 0⟩ l hs
    generalize kT ⟨hst, rule, 0⟩ l = k at hk h1 h2
    have hins : (∀ x, l[k]? = some x → ¬ cmpT x ⟨hst, rule, 0⟩ = 0) → TAsc (l.take k ++ [⟨hst, rule, IntKind.wrap .i64 (0 + n)⟩] ++ l.drop k) := fun hne => by
      have hpre : ∀ x ∈ l.take k, kl x ⟨hst, rule, 0⟩ := fun x hx => by
        obtain ⟨i, hi⟩ := List.mem_iff_getElem?.1 hx
        rw [List.getElem?_take] at hi
        split at hi
        · exact (cmpT_lt _ _).1 (h1 i x hi (by assumption))
        · cases hi
      have hpost : ∀ x ∈ l.drop k, kl ⟨hst, rule, 0⟩ x := fun x hx => by
        obtain ⟨i, hi⟩ := List.mem_iff_getElem?.1 hx
        rw [List.getElem?_drop] at hi
        have hge := h2 (k + i) x hi (by omega)
        refine kl_tot (fun hh => ?_) fun hh => ?_
        · have := (cmpT_lt _ _).2 hh; omega
        · have h0 := (cmpT_eq x ⟨hst, rule, 0⟩).2 hh
          cases i with
          | zero => exact hne x hi h0
          | succ i =>
            have hlt := (List.getElem?_eq_some_iff.1 hi).1
            have hg : l[k]? = some (l[k]'(by omega)) := List.getElem?_eq_getElem (by omega)
            generalize l[k]'(by omega) = y at hg
            have hky : kl y x := by
              have := List.pairwise_iff_getElem.1 hs k (k + (i + 1)) (by omega) hlt (by omega)
              rw [List.getElem?_eq_getElem (by omega)] at hg hi
              injection hg with hg
              injection hi with hi
              rwa [hg, hi] at this
            have := h2 k y hg (Nat.le_refl _)
            have h3 : cmpT y ⟨hst, rule, 0⟩ < 0 := by
              rw [cmpT_lt]
              unfold kl at hky ⊢
              rw [hh.1, hh.2] at hky
              exact hky
            omega
      unfold TAsc
      rw [List.append_assoc, List.pairwise_append]
      refine ⟨hs.sublist (List.take_sublist _ _), ?_, fun a ha b hb => ?_⟩
      · rw [List.singleton_append, List.pairwise_cons]
        exact ⟨fun b hb => hpost b hb, hs.sublist (List.drop_sublist _ _)⟩
      · rw [List.singleton_append, List.mem_cons] at hb
        rcases hb with rfl | hb
        · exact hpre a ha
        · exact kl_tr (hpre a ha) (hpost b hb)
    unfold addK
    cases hg : l[k]? with
    | none => exact hins fun x hx => by rw [hg] at hx; cases hx
    | some y =>
      simp only
      split
      · have hkl := (List.getElem?_eq_some_iff.1 hg).1
        unfold TAsc at hs ⊢
        rw [List.pairwise_iff_getElem] at hs ⊢
        have hval : l[k] = y := (List.getElem?_eq_some_iff.1 hg).2
        intro i j hi hj hij
        have q := hs i j (by simpa [-Option.bind_some] using hi) (by simpa [-Option.bind_some] using hj) hij
        simp only [List.getElem_set]
        by_cases hki : k = i
        · subst hki
          have hkj : ¬ k = j := by omega
          simp only [if_true, hkj, if_false]
          rw [hval] at q
          exact q
        · by_cases hkj : k = j
          · subst hkj
            simp only [hki, if_false, if_true]
            rw [hval] at q
            exact q
          · simp only [hki, hkj, if_false]
            exact q
      · rename_i hne
        exact hins fun x hx => by
          rw [hg] at hx
          injection hx with hx
          subst hx
          exact hne
def keptE (ps : List Pol) (hs : List Hld) (now : Int) (es : List Ev) : List Ev := es.filter fun e => (expi ps hs now e).isNone
def stepT (ps : List Pol) (hs : List Hld) (now : Int) (t : List Tal) (e : Ev) : List Tal := match expi ps hs now e with
  | some nm => addT t e.a0 nm e.ls.length
  | none => t
def talE (ps : List Pol) (hs : List Hld) (now : Int) (es : List Ev) : List Tal := es.foldl (stepT ps hs now) []
theorem talE_snoc (ps : List Pol) (hs : List Hld) (now : Int) (es : List Ev) (e : Ev) : talE ps hs now (es ++ [e]) = stepT ps hs now (talE ps hs now es) e := by
  simp [-Option.bind_some, talE]
theorem talr_frz' {l : List Tal} {d : D} (hd : SlOf 3 talr l d) (n0 : Nat) (h : Hp) (n : Nat) : frz n0 h n d = d := by
  cases n with
  | zero => rfl
  | succ n =>
    rcases hd with ⟨rfl, _⟩ | ⟨b, rfl⟩
    · simp [-Option.bind_some]
    · refine frz_sl_id fun row hrow => ?_
      obtain ⟨a, _, rfl⟩ := List.mem_map.1 hrow
      exact talr_frz _ _ _ a
theorem s27 (ps : List Pol) (dp : D) (hs : List Hld) (dh : D) (now : Int) (es : List Ev) (de : D) (h : Hp) (hdp : SlOf 4 polr ps dp) (hlp : ps.length ≤ 1000000000) (hdh : SlOf 5 hldr hs dh) (hlh : hs.length ≤ 1000000000) (he : SlOf 10 evr es de) (hel : es.length ≤ 100000) :
    ∃ dk dt, R fn27 [dp, dh, .int .i64 now, de] h = some (.tup [dk, dt], h) ∧ SlOf 10 evr (keptE ps hs now es) dk ∧ SlOf 3 talr (talE ps hs now es) dt ∧ TAsc (talE ps hs now es) ∧ (talE ps hs now es).length ≤ es.length := by
  suffices Wp (R fn27 [dp, dh, .int .i64 now, de] h) (fun p => p.2 = h ∧ ∃ dk dt, p.1 = .tup [dk, dt] ∧ SlOf 10 evr (keptE ps hs now es) dk ∧ SlOf 3 talr (talE ps hs now es) dt ∧ TAsc (talE ps hs now es) ∧ (talE ps hs now es).length ≤ es.length) by
    obtain ⟨⟨x, h'⟩, h1, rfl, dk, dt, rfl, h2⟩ := this
    exact ⟨dk, dt, h1, h2⟩
  rw [e27]
  simp only [F27, bs, Option.bind_assoc, lens40 he]
  refine Wp.loop (fun k ds g => h.length ≤ g.length ∧ (∀ q, q < h.length → g[q]? = h[q]?) ∧ ∃ x y a b c e f, ∃ i : Nat, ds = [x, y, a, b, c, .int .i64 i, e, f] ∧ k + i = es.length ∧ Own g h.length ty31 10 ((keptE ps hs now (es.take i)).map evr) x
        ∧ SlOf 3 talr (talE ps hs now (es.take i)) y ∧ TAsc (talE ps hs now (es.take i)) ∧ (talE ps hs now (es.take i)).length ≤ i)
      (fun r => r.1 = .ext 0 ∧ h.length ≤ r.2.2.length ∧ (∀ q, q < h.length → r.2.2[q]? = h[q]?) ∧ Own r.2.2 h.length ty31 10 ((keptE ps hs now es).map evr) (nth 0 r.2.1)
        ∧ SlOf 3 talr (talE ps hs now es) (nth 1 r.2.1) ∧ TAsc (talE ps hs now es) ∧ (talE ps hs now es).length ≤ es.length)
      es.length ⟨Nat.le_refl _, fun _ _ => rfl, _, _, _, _, _, _, _, 0, rfl, rfl, Own.nils _ _ _ _, SlOf.nils _ _, List.Pairwise.nil, Nat.le_refl _⟩ ?_ ?_
  · rintro k ds g ⟨hgl, hgq, x, y, a, b, c, e, f, i, rfl, hk, ow, hy, hasc, hlen⟩
    simp only [F27_L0, nth_zero, nth_succ, bs, Option.bind_assoc, dBin_lss]
    refine Wp.dif ?_ ?_
    · intro h0
      have h0 : i < es.length := by have : (i : Int) < es.length := by simpa [-Option.bind_some] using h0
                                    omega
      have hg : es[i]? = some es[i] := List.getElem?_eq_getElem h0
      have hw : IntKind.wrap .i64 ((i : Int) + 1) = ((i + 1 : Nat) : Int) := by
        rw [wrap_i64 (by omega) (by omega)]; omega
      have htk : es.take (i + 1) = es.take i ++ [es[i]] := by rw [List.take_add_one, hg]; rfl
      have hfl : (keptE ps hs now (es.take i)).length ≤ i := Nat.le_trans (List.length_filter_le _ _) (by simp [-Option.bind_some]; omega)
      generalize es[i] = ev at hg htk
      have hbx : boxN 10 (.agg (evr ev)) = some (.fptr (evr ev)) := boxN_agg 10 _ rfl
      have hix : dIndexAddr tab ty40 de (.int .i64 i) = some (.fptr (evr ev)) := by rw [ixs40 he]; simp [-Option.bind_some, hg]
      have f0 : dFieldAddr tab ty31 0 (.fptr (evr ev)) = some (.fptr (evr ev)) := id rfl
      have l0 : dLoad tab g ty3 (.fptr (evr ev)) = some (.int .i64 ev.a0) := id rfl
      have f4 : (dFieldAddr tab ty31 4 (.fptr (evr ev))).bind (fun q => dLoad tab g ty28 q) = some ev.ld := id rfl
      have hll := ev.hll
      simp only [hix, evL, hbx, bs, s16 ps dp hs dh now ev g hdp (by omega) hdh (by omega), expD, dExtract_tup, List.getElem?_cons_zero, List.getElem?_cons_succ]
      cases hx : expi ps hs now ev with
      | none =>
        have hb : pLitF tab ty40 1 [0] [.agg (evr ev)] = some (.sl 10 true [evr ev]) := by simp [-Option.bind_some, evr]
        simp only [Option.isSome_none, dIf_bool, Bool.false_eq_true, if_false, hb, bs, Option.bind_assoc]
        refine wap40 hgl ow (rowsOf_sl _ _ _ _) (by simp [-Option.bind_some]; omega) fun x1 g1 ow1 len1 bel1 _ _ => ?_
        simp only [bs, toEnd_nrm, unblk_nrm, nth_zero, nth_succ, dBin_add, hw]
        have hke : keptE ps hs now (es.take i ++ [ev]) = keptE ps hs now (es.take i) ++ [ev] := by simp [-Option.bind_some, keptE, hx]
        have hte : talE ps hs now (es.take i ++ [ev]) = talE ps hs now (es.take i) := by rw [talE_snoc]; simp [-Option.bind_some, stepT, hx]
        refine .some (.inl ⟨rfl, k - 1, by omega, Nat.le_trans hgl len1, fun q hq => (bel1 q (by omega)).trans (hgq q hq), _, _, _, _, _, _, _, i + 1, rfl, by omega, ?_, ?_, ?_, ?_⟩)
        · rw [htk, hke, List.map_append]; exact ow1
        · rw [htk, hte]; exact hy
        · rw [htk, hte]; exact hasc
        · rw [htk, hte]; omega
      | some nm =>
        obtain ⟨d', e1, hd'⟩ := s59 (talE ps hs now (es.take i)) y ev.a0 nm ev.ls.length g hy (by omega) hasc
        have hll := ev.hll
        simp only [Option.isSome_some, dIf_bool, if_true, f0, l0, Option.getD_some, bs]
        have f4' : ∀ {β : Type} (k : D → Option β), ((dFieldAddr tab ty31 4 (.fptr (evr ev))).bind fun q => (dLoad tab g ty28 q).bind k) = k ev.ld := fun k => by
          rw [← Option.bind_assoc, f4]; rfl
        rw [f4']
        simp only [lens28 ev.hld, bs, e1, toEnd_nrm, unblk_nrm, nth_zero, nth_succ, dBin_add, hw]
        have hke : keptE ps hs now (es.take i ++ [ev]) = keptE ps hs now (es.take i) := by simp [-Option.bind_some, keptE, hx]
        have hte : talE ps hs now (es.take i ++ [ev]) = addT (talE ps hs now (es.take i)) ev.a0 nm ev.ls.length := by rw [talE_snoc]; simp [-Option.bind_some, stepT, hx]
        refine .some (.inl ⟨rfl, k - 1, by omega, hgl, hgq, _, _, _, _, _, _, _, i + 1, rfl, by omega, ?_, ?_, ?_, ?_⟩)
        · rw [htk, hke]; exact ow
        · rw [htk, hte]; exact hd'
        · rw [htk, hte]; exact addT_asc hasc _ _ _
        · rw [htk, hte]; have := addT_len (talE ps hs now (es.take i)) ev.a0 nm ev.ls.length; omega
    · intro h0
      have h0 : i = es.length := by have : ¬ (i : Int) < es.length := by simpa [-Option.bind_some] using h0
                                    omega
      subst h0
      rw [List.take_length] at ow hy hasc hlen
      exact .some (.inr ⟨by simp [-Option.bind_some], rfl, hgl, hgq, ow, hy, hasc, hlen⟩)
  · rintro ⟨ex, ds, g⟩ ⟨q1, hgl, hgq, ow, hy, hasc, hlen⟩
    simp only at q1 hgl hgq ow hy
    subst q1
    simp only [unblk_self, toEnd_nrm, nth_zero, nth_succ, bs, mkRes_two] at hy ⊢
    have hsl := own_sl (n0 := h.length) (n := 2) ow (Nat.le_refl _) (fun a _ => evr_frz _ g 1 a)
    rw [scope_eq (d' := .tup [frz h.length g 3 (nth 0 ds), nth 0 (tlD ds)]) (by simp [-Option.bind_some, talr_frz' hy]; rfl) (by
      refine .tup _ fun d hd => ?_
      simp [-Option.bind_some] at hd
      rcases hd with rfl | rfl
      · exact slof_ok hsl fun a _ => evr_ok _ a
      · exact slof_ok hy fun a _ => talr_ok _ a) hgl hgq]
    exact .some ⟨rfl, _, _, rfl, hsl, hy, hasc, hlen⟩
theorem wholeP_pol (now : Int) (s : Sg) (e : Ev) (he : e.a5 ≤ s.hi) : ∀ (l : List Pol) (k : Nat), wholeP now s l = true → ∃ (j : Nat) (p : Pol), l[j]? = some p ∧ idx (fun p => app p.f p.v e) k l = ((k + j : Nat) : Int) ∧ ¬ IntKind.wrap .i64 (now - p.age) ≤ e.a5
  | [], _, h => by simp [-Option.bind_some, wholeP] at h
  | x :: r, k, h => by
    unfold wholeP at h
    split at h
    · cases h
    · rename_i hy
      have hy' : ¬ IntKind.wrap .i64 (now - x.age) ≤ s.hi := by simpa [-Option.bind_some, young] using hy
      by_cases ha : app x.f x.v e = true
      · exact ⟨0, x, rfl, by simp [-Option.bind_some, idx, ha], by omega⟩
      · split at h
        · rename_i hf
          have : x.f = [] := by simpa [-Option.bind_some, allP] using hf
          exact absurd (by simp [-Option.bind_some, app, this]) ha
        · obtain ⟨j, p, h1, h2, h3⟩ := wholeP_pol now s e he r (k + 1) h
          refine ⟨j + 1, p, by simpa [-Option.bind_some] using h1, ?_, h3⟩
          simp only [idx, ha, Bool.false_eq_true, if_false, h2]
          omega
theorem whole_expi {ps : List Pol} {hs : List Hld} {now : Int} {s : Sg} (hw : whole ps hs now s = true) (e : Ev) (h0 : s.lo ≤ e.a5) (h1 : e.a5 ≤ s.hi) : (expi ps hs now e).isSome = true := by
  simp only [whole, Bool.and_eq_true, decide_eq_true_eq, Bool.not_eq_true'] at hw
  obtain ⟨⟨hn, hh⟩, hp⟩ := hw
  obtain ⟨j, p, g1, g2, g3⟩ := wholeP_pol now s e h1 ps 0 hp
  have hi : polI ps e = (j : Int) := by rw [show polI ps e = _ from g2]; simp [-Option.bind_some]
  have hheld : held hs e = false := by
    unfold held
    rw [List.any_eq_false] at hh ⊢
    intro x hx hb
    refine hh x hx ?_
    simp only [holds, Bool.and_eq_true, decide_eq_true_eq] at hb
    simp only [heldS, Bool.and_eq_true, decide_eq_true_eq]
    omega
  unfold expi
  simp [-Option.bind_some, hi, g1, hn, g3, hheld]
theorem whole_kept {ps : List Pol} {hs : List Hld} {now : Int} {s : Sg} (hw : whole ps hs now s = true) (es : List Ev) (h0 : ∀ e ∈ es, s.lo ≤ e.a5 ∧ e.a5 ≤ s.hi) : keptE ps hs now es = [] := by
  unfold keptE
  rw [List.filter_eq_nil_iff]
  intro e he hb
  have := whole_expi hw e (h0 e he).1 (h0 e he).2
  cases hx : expi ps hs now e <;> rw [hx] at hb this <;> simp [-Option.bind_some] at hb this
theorem law8 (zs : List Int) (d : D) (s : Sg) (hd : Given .u8 zs d) (hz : ∀ z ∈ zs, 0 ≤ z ∧ z < 256) : ∃ h', R fn8 [d, .agg (sgr s)] [] = some (.bool true, h') := by
  obtain ⟨h, hh⟩ : ∃ h : Hp, h = [] := ⟨_, rfl⟩
  rw [← hh]
  have hlen0 : h.length = 0 := by rw [hh]; rfl
  clear hh
  suffices Wp (R fn8 [d, .agg (sgr s)] h) (fun p => p.1 = .bool true) by
    obtain ⟨⟨x, h'⟩, h1, rfl⟩ := this
    exact ⟨h', h1⟩
  have fin : ∀ g : Hp, scope h g (.bool true) = some (.bool true, h) := fun g => scope_eq (by simp [-Option.bind_some]) (.bool _) (by omega) fun q hq => by omega
  rw [e8]
  simp only [F8, pBoxF_agg, bs, s14, dUn_not, dIf_bool, Bool.not_true, Bool.false_eq_true, if_false]
  obtain ⟨dp, dh, de, now, h1, ps, hs, es, e1, c1, hl1, hp, hpl, hpb, hh, hhl, he, heo, hel, hn0, hn1⟩ := s15s zs d h hd hz
  refine Wp.step e1 ?_
  simp only [bs, dExtract_tup, List.getElem?_cons_zero, List.getElem?_cons_succ, Option.bind_assoc]
  obtain ⟨tm, h2, e2, c2, s2, t0, t1⟩ := d35 c1
  refine Wp.step e2 ?_
  have ho2 := c2.lt
  simp only [bs, bd69_4]
  have hX : (dNew h2 ty69 7 [[.int .i64 0, .int .i64 0, .int .i64 0, .int .i64 0, .int .i64 0, .int .i64 0, .int .i64 0]])[h2.length]? = some (.row ty69 7 [[.int .i64 0, .int .i64 0, .int .i64 0, .int .i64 0, .int .i64 0, .int .i64 0, .int .i64 0]]) := dNew_get _ _ _ _
  have c3 : CD (dNew h2 ty69 7 [[.int .i64 0, .int .i64 0, .int .i64 0, .int .i64 0, .int .i64 0, .int .i64 0, .int .i64 0]]) h.length := c2.keep (dNew_old _ _ _ _ ho2)
  generalize dNew h2 ty69 7 [[.int .i64 0, .int .i64 0, .int .i64 0, .int .i64 0, .int .i64 0, .int .i64 0, .int .i64 0]] = g3 at hX c3
  generalize hXn : h2.length = X at hX
  refine wst69 (off := 0) hX rfl rfl (by simp [-Option.bind_some]) rfl fun g4 q4 s4 => ?_
  have r4 : g4[X]? = some (.row ty69 7 [sgr ⟨0, 0, 0, 0, tm, 0, 0⟩]) := q4
  have c4 : CD g4 h.length := c3.keep (s4.2 _ (by omega))
  have f4 : dFieldAddr tab ty69 4 (.ptr X 0 0) = some (.ptr X 0 4) := id rfl
  have f5 : dFieldAddr tab ty69 5 (.ptr X 0 0) = some (.ptr X 0 5) := id rfl
  have ld4 : ∀ (g : Hp) (x : Sg), g[X]? = some (.row ty69 7 [sgr x]) → dLoad tab g ty3 (.ptr X 0 4) = some (.int .i64 x.lo) := fun g x hx => by rw [ldp3, row_of hx]; rfl
  have ldA : ∀ (g : Hp) (x : Sg), g[X]? = some (.row ty69 7 [sgr x]) → dLoad tab g ty69 (.ptr X 0 0) = some (.agg (sgr x)) := fun g x hx => by rw [ldp69, row_of hx]; rfl
  have ldS : ∀ g : Hp, dLoad tab g ty69 (.fptr (sgr s)) = some (.agg (sgr s)) := fun g => id rfl
  simp only [bs, f4, ld4 g4 _ r4]
  obtain ⟨v, g5, e5, c5, s5, v0, v1⟩ := next_b c4 100 (by omega) (by omega)
  refine Wp.step e5 ?_
  have r5 : g5[X]? = some (.row ty69 7 [sgr ⟨0, 0, 0, 0, tm, 0, 0⟩]) := (s5.2 _ (by omega)).trans r4
  simp only [dBin_add, bs]
  refine Wp.chk (ld4 g5 _ r5) ?_
  simp only [f5, bs, Option.bind_assoc]
  refine wst3 (off := 5) r5 rfl rfl (by simp [-Option.bind_some, sgr]) rfl fun g6 q6 s6 => ?_
  obtain ⟨x6, hx6⟩ : ∃ x6 : Sg, sgr x6 = spl (sgr ⟨0, 0, 0, 0, tm, 0, 0⟩) 5 (cells1 (.int .i64 (IntKind.wrap .i64 (tm + v)))) := ⟨⟨0, 0, 0, 0, tm, IntKind.wrap .i64 (tm + v), 0⟩, rfl⟩
  have r6 : g6[X]? = some (.row ty69 7 [sgr x6]) := by rw [hx6]; exact q6
  have k36 : ∀ (x : Sg) (g : Hp), R fn36 [dp, dh, .int .i64 now, .agg (sgr x)] g = some (.bool (whole ps hs now x), g) := fun x g => s36 ps dp hs dh now x g hp (by omega) hh (by omega)
  have k37 : ∀ (x : Sg) (g : Hp), R fn37 [dp, dh, .int .i64 now, .agg (sgr x)] g = some (.bool (whole ps hs now x), g) := fun x g => s37 ps dp hs dh now x g hp (by omega) hh (by omega)
  simp only [bs, ldS, k36, k37, bneq4, beq_self_eq_true, Bool.not_true, gd_bool, Bool.false_eq_true, if_false, if_true, ldA g6 _ r6, gdW_bool, dPick_bool]
  refine Wp.chk trivial (Wp.chk trivial ?_)
  simp only [lens40 he, bs, dIf_bool, Bool.false_eq_true, if_false, dBin_eql]
  by_cases hl : (es.length : Int) = 0
  · have hd : decide ((es.length : Int) = 0) = true := by simpa [-Option.bind_some] using hl
    simp only [hd, if_true, bs, mkRes_one, fin]
    exact .some rfl
  · have hd : decide ((es.length : Int) = 0) = false := by simpa [-Option.bind_some] using hl
    simp only [hd, Bool.false_eq_true, if_false]
    have hl0 : 0 < es.length := by omega
    have hw1 : IntKind.wrap .i64 ((es.length : Int) - 1) = ((es.length - 1 : Nat) : Int) := by
      rw [wrap_i64 (by omega) (by omega)]; omega
    have hg0 : es[0]? = some es[0] := List.getElem?_eq_getElem hl0
    have hgn : es[es.length - 1]? = some (es[es.length - 1]'(by omega)) := List.getElem?_eq_getElem (by omega)
    have hsrt : ∀ e ∈ es, es[0].a5 ≤ e.a5 ∧ e.a5 ≤ (es[es.length - 1]'(by omega)).a5 := fun e hm => by
      obtain ⟨i, hi⟩ := List.mem_iff_getElem?.1 hm
      have hil := (List.getElem?_eq_some_iff.1 hi).1
      rw [List.getElem?_eq_getElem hil] at hi
      injection hi with hi
      subst hi
      have hpw := List.pairwise_iff_getElem.1 heo.2
      refine ⟨?_, ?_⟩
      · by_cases h0 : i = 0
        · subst h0; exact Int.le_refl _
        · exact hpw 0 i hl0 hil (by omega)
      · by_cases h0 : i = es.length - 1
        · subst h0; exact Int.le_refl _
        · exact hpw i (es.length - 1) hil (by omega) (by omega)
    generalize es[0] = ea at hg0 hsrt
    generalize es[es.length - 1]'(by omega) = eb at hgn hsrt
    have i0 : dIndexAddr tab ty40 de (.int .i64 0) = some (.fptr (evr ea)) := by
      have := ixs40 he (0 : Int)
      rw [this]; simp [-Option.bind_some, hg0]
    have in' : dIndexAddr tab ty40 de (.int .i64 ((es.length - 1 : Nat) : Int)) = some (.fptr (evr eb)) := by
      rw [ixs40 he]; simp [-Option.bind_some, hgn]
    have l5 : ∀ (g : Hp) (e : Ev), dLoad tab g ty3 (.fptr [.int .i64 e.a5, .int .i64 e.a6, .str e.s7, .str e.s8, e.fd]) = some (.int .i64 e.a5) := fun g e => id rfl
    simp only [i0, ev5, l5, bs, dBin_sub, hw1, in', f4, Option.bind_assoc]
    refine wst3 (off := 4) r6 rfl rfl (by simp [-Option.bind_some, sgr]) rfl fun g7 q7 s7 => ?_
    obtain ⟨x7, hx7, hx7l⟩ : ∃ x7 : Sg, sgr x7 = spl (sgr x6) 4 (cells1 (.int .i64 ea.a5)) ∧ x7.lo = ea.a5 := ⟨{ x6 with lo := ea.a5 }, rfl, rfl⟩
    have r7 : g7[X]? = some (.row ty69 7 [sgr x7]) := by rw [hx7]; exact q7
    refine Wp.chk trivial ?_
    refine wst3 (off := 5) r7 rfl rfl (by simp [-Option.bind_some, sgr]) rfl fun g8 q8 s8 => ?_
    obtain ⟨x8, hx8, hx8h, hx8l⟩ : ∃ x8 : Sg, sgr x8 = spl (sgr x7) 5 (cells1 (.int .i64 eb.a5)) ∧ x8.hi = eb.a5 ∧ x8.lo = x7.lo := ⟨{ x7 with hi := eb.a5 }, rfl, rfl, rfl⟩
    have r8 : g8[X]? = some (.row ty69 7 [sgr x8]) := by rw [hx8]; exact q8
    obtain ⟨dk, dt, e9, hdk, hdt, _, _⟩ := s27 ps dp hs dh now es de g8 hp (by omega) hh (by omega) he (by omega)
    refine Wp.step e9 ?_
    simp only [bs, dExtract_tup, List.getElem?_cons_zero, List.getElem?_cons_succ, ldA g8 _ r8, k36, dUn_not]
    have hgoal : whole ps hs now x8 = true → keptE ps hs now es = [] := fun hw => whole_kept hw es fun e hm => by rw [hx8h, hx8l, hx7l]; exact hsrt e hm
    cases hw : whole ps hs now x8
    · simp only [Bool.not_false, gd_bool, Bool.true_eq_false, Bool.false_eq_true, if_false, if_true, bs, dPick_bool, mkRes_one, fin, gd_und]
      exact .some rfl
    · have hk := hgoal hw
      rw [hk] at hdk
      simp only [Bool.not_true, gd_bool, Bool.true_eq_false, Bool.false_eq_true, if_false, if_true, bs, dPick_bool, mkRes_one, lens40 hdk, dBin_eql, List.length_nil, Int.natCast_zero, decide_true, fin]
      exact .some rfl
end Go.Proofs.Ytdoppnhopjdhmaa
