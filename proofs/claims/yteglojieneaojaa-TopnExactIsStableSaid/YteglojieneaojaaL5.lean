/- Laws, on plain data, about functions that the statement reaches. -/
import Derived.Test.YteglojieneaojaaL4
set_option linter.unusedSimpArgs false
set_option linter.unusedVariables false
set_option linter.unnecessarySimpa false
set_option maxRecDepth 100000
namespace Go.Proofs.Yteglojieneaojaa
open Go.Eng Go.Pi
theorem s1194 (a b : Pt) (h : Hp) : ∃ pt : Pt, R fn1194 [aggd, .agg (ptr' a), .agg (ptr' b)] h = some (.agg (ptr' pt), h) ∧ pt.k = a.k ∧ pt.tot = IntKind.wrap .i64 (a.tot + b.tot) := by
  suffices Wp (R fn1194 [aggd, .agg (ptr' a), .agg (ptr' b)] h) (fun p => p.2 = h ∧ ∃ pt : Pt, p.1 = .agg (ptr' pt) ∧ pt.k = a.k ∧ pt.tot = IntKind.wrap .i64 (a.tot + b.tot)) by
    obtain ⟨⟨x, h'⟩, h1, rfl, pt, rfl, h2⟩ := this
    exact ⟨pt, h1, h2⟩
  rw [e1194]
  simp only [F1194, pBoxF_agg, bs, Option.bind_assoc, ptF0, ptL0, bd1168_0 a.kd (slof_one a.hk)]
  have a0 : (dNew h ty1168 4 [[.nils, .nils, .nils, .nils]])[h.length]? = some (.row ty1168 4 [[.nils, .nils, .nils, .nils]]) := dNew_get _ _ _ _
  have k0 : ∀ q, q < h.length → (dNew h ty1168 4 [[.nils, .nils, .nils, .nils]])[q]? = h[q]? := fun q hq => dNew_old _ _ _ _ hq
  have n0 : (dNew h ty1168 4 [[.nils, .nils, .nils, .nils]]).length = h.length + 1 := by simp [-Option.bind_some, dNew]
  generalize dNew h ty1168 4 [[.nils, .nils, .nils, .nils]] = g0 at *
  have a1 : (dNew g0 ty1168 4 [[.nils, .nils, .nils, .nils]])[h.length + 1]? = some (.row ty1168 4 [[.nils, .nils, .nils, .nils]]) := by rw [← n0]; exact dNew_get _ _ _ _
  have b1 : (dNew g0 ty1168 4 [[.nils, .nils, .nils, .nils]])[h.length]? = some (.row ty1168 4 [[.nils, .nils, .nils, .nils]]) := by rw [dNew_old _ _ _ _ (by omega)]; exact a0
  have k1 : ∀ q, q < h.length → (dNew g0 ty1168 4 [[.nils, .nils, .nils, .nils]])[q]? = h[q]? := fun q hq => by rw [dNew_old _ _ _ _ (by omega)]; exact k0 q hq
  have n1 : (dNew g0 ty1168 4 [[.nils, .nils, .nils, .nils]]).length = h.length + 2 := by simp [-Option.bind_some, dNew, n0]
  rw [n0]
  generalize dNew g0 ty1168 4 [[.nils, .nils, .nils, .nils]] = g1 at *
  refine wst1168 (off := 0) (v := .agg [a.kd, .nils, .nils, .nils]) a1 (by rfl) (by rfl) (by show 0 + 4 ≤ 4; omega) (okv4 (slof_one a.hk) rfl rfl rfl) fun g2 p2 s2 => ?_
  have p2 : g2[h.length + 1]? = some (.row ty1168 4 [[a.kd, .nils, .nils, .nils]]) := p2
  have q2 : g2[h.length]? = some (.row ty1168 4 [[.nils, .nils, .nils, .nils]]) := by rw [s2.2 _ (by omega)]; exact b1
  have k2 : ∀ q, q < h.length → g2[q]? = h[q]? := fun q hq => by rw [s2.2 q (by omega)]; exact k1 q hq
  have n2 : g2.length = h.length + 2 := by rw [s2.1, n1]
  try simp only [bs, Option.bind_assoc]
  refine Wp.loop (fun k ds g => (k = 1 ∧ nth 0 ds = .int .i64 0 ∧ g = g2) ∨ (k = 0 ∧ nth 0 ds = .int .i64 1 ∧ FinP h a.k a.kd (IntKind.wrap .i64 (a.tot + b.tot)) g))
    (fun r => r.1 = .ext 0 ∧ FinP h a.k a.kd (IntKind.wrap .i64 (a.tot + b.tot)) r.2.2) 1 (.inl ⟨rfl, rfl, rfl⟩) ?_ ?_
  · rintro k ds g (⟨rfl, hds, rfl⟩ | ⟨rfl, hds, hfin⟩)
    · have d0 : decide ((0 : Int) < 1) = true := by decide
      simp only [F1194_L0, hds, bs, Option.bind_assoc, aggd_len, dBin_lss, d0, dIf_bool, if_true, ptF1, ptL1, ptT, inr_ld, ptF2, ptL2, ptS, boo_ld, gd_bool, Bool.true_eq_false, reduceCtorEq, if_false, dPick_bool, aggd_ix, agg_f0, agg_l0, dBin_eql, decide_true, toEnd_nrm, nth_zero, nth_succ, dBin_add, unblk_nrm, fap1168_1, fap1168_2, fap1168_3, bs82_1, bs1165_1, bs1166_1 .nils rfl, Nat.zero_add]
      refine put3 p2 (n0 := h.length + 2) (by omega) (by omega) _ true .nils rfl fun g' x1 x2 x3 r1 r2 r3 r4 r5 r6 => ?_
      have w1 : IntKind.wrap .i64 ((0 : Int) + 1) = 1 := by decide
      simp only [bs, dBin_add, w1]
      exact .some (.inl ⟨rfl, 0, by omega, .inr ⟨rfl, rfl, x1, x2, x3, by rw [r6 _ (by omega) (by omega)]; exact q2, r1, r2, r3, r4, fun q hq => by rw [r6 q (by omega) (by omega)]; exact k2 q hq⟩⟩)
    · have d0 : decide ((1 : Int) < 1) = false := by decide
      simp only [F1194_L0, hds, bs, Option.bind_assoc, aggd_len, dBin_lss, d0, dIf_bool, Bool.false_eq_true, if_false]
      exact .some (.inr ⟨by simp [-Option.bind_some], rfl, hfin⟩)
  · rintro ⟨ex, ds, g⟩ ⟨rfl, hfin⟩
    simp only [unblk_self, toEnd_nrm, bs, Option.bind_assoc]
    exact fin_end a.hk a.hkl hfin fun pt p1 p2 => ⟨rfl, pt, rfl, p1, p2⟩
/-- What is appended to nothing and put away. -/
theorem aft_own {α : Type} {f : α → List D} {l : List α} {h' : Hp} {n0 e z : Nat} {x' : D} (ow : Own h' n0 e z (l.map f) x') (hf : ∀ a ∈ l, ∀ (n0 : Nat) (h : Hp), ∀ d ∈ f a, frz n0 h 2 d = d) : SlOf z f l (aftW (x', h')).1 ∧ h'.length ≤ (aftW (x', h')).2.length ∧ ∀ q, q < n0 → (aftW (x', h')).2[q]? = h'[q]? := by
  rcases ow with ⟨rfl, hn⟩ | ⟨o, ho, rfl, hg⟩
  · exact ⟨.inl ⟨rfl, by simpa [-Option.bind_some] using hn⟩, Nat.le_refl _, fun _ _ => rfl⟩
  · have e : aftW (.msl z o 0 (l.map f).length, h') = (frz o h' 3 (.msl z o 0 (l.map f).length), offFrom o h') := rfl
    rw [e]
    have ow2 : Own h' o _ z (l.map f) (.msl z o 0 (l.map f).length) := .inr ⟨o, Nat.le_refl _, rfl, hg⟩
    have hlt := (List.getElem?_eq_some_iff.1 hg).1
    refine ⟨own_sl ow2 (Nat.le_refl _) fun a ha d hd => hf a ha _ _ d hd, by simp [-Option.bind_some, offFrom]; omega, fun q hq => ?_⟩
    unfold offFrom
    rw [List.getElem?_append_left (by simp [-Option.bind_some]; omega), List.getElem?_take, if_pos (by omega)]
/-- What a partial says. -/
def pc (p : Pt) : List Str × Int := (p.k, p.tot)
/-- One count is merged into counts in order. -/
def mgP : List (List Str × Int) → List Str × Int → List (List Str × Int)
  | [], x => [x]
  | y :: r, x => if kcmp y.1 x.1 < 0 then y :: mgP r x else if kcmp y.1 x.1 > 0 then x :: y :: r else (y.1, IntKind.wrap .i64 (y.2 + x.2)) :: r
theorem mgP_len : ∀ (l : List (List Str × Int)) (x : List Str × Int), (mgP l x).length ≤ l.length + 1
  | [], x => by simp [-Option.bind_some, mgP]
  | y :: r, x => by
    have := mgP_len r x
    unfold mgP
    split
    · simp [-Option.bind_some]; exact this
    · split <;> simp [-Option.bind_some]
theorem ptr_frz (n0 : Nat) (h : Hp) (n : Nat) (p : Pt) : ∀ d ∈ ptr' p, frz n0 h (n + 1) d = d := fun d hd => by
  simp only [ptr', List.mem_cons, List.not_mem_nil, or_false] at hd
  rcases hd with rfl | rfl | rfl | rfl
  · exact str_frz _ _ _ p.hk
  · exact inr_frz _ _ _ p.ht
  · exact slof_frz p.hs fun a _ x hx => by simp [-Option.bind_some] at hx; subst hx; exact frz_bool _ _ _ _
  · exact slof_frz p.hv fun a ha x hx => by simp [-Option.bind_some] at ha hx; subst hx; subst ha; exact frz_nils _ _ _
theorem ptr_okd (n : Nat) (p : Pt) : ∀ d ∈ ptr' p, Ok n d := fun d hd => by
  simp only [ptr', List.mem_cons, List.not_mem_nil, or_false] at hd
  rcases hd with rfl | rfl | rfl | rfl
  · exact str_ok _ p.hk
  · exact inr_ok _ p.ht
  · exact slof_ok p.hs fun a _ x hx => by simp [-Option.bind_some] at hx; subst hx; exact .bool _
  · exact slof_ok p.hv fun a ha x hx => by simp [-Option.bind_some] at ha hx; subst hx; subst ha; exact .nils
theorem pt_lit (p : Pt) : pLitF tab ty1156 1 [0] [.agg (ptr' p)] = some (.sl 4 true [ptr' p]) := bs1156_1 _ _ _ _
/-- Merge, with one that is new. -/
theorem s1190 (A : List Pt) (x : Pt) (da dx : D) (h : Hp) (hA : SlOf 4 ptr' A da) (hx : SlOf 4 ptr' [x] dx) (hl : A.length ≤ 100000) : ∃ (P : List Pt) (d' : D), R fn1190 [aggd, da, dx] h = some (d', h) ∧ SlOf 4 ptr' P d' ∧ P.map pc = mgP (A.map pc) (pc x) := by
  suffices Wp (R fn1190 [aggd, da, dx] h) (fun p => p.2 = h ∧ ∃ P : List Pt, SlOf 4 ptr' P p.1 ∧ P.map pc = mgP (A.map pc) (pc x)) by
    obtain ⟨⟨y, h'⟩, h1, rfl, P, h2, h3⟩ := this
    exact ⟨P, y, h1, h2, h3⟩
  rw [e1190]
  simp only [F1190, bs, Option.bind_assoc]
  obtain ⟨V, hV⟩ : ∃ V, V = mgP (A.map pc) (pc x) := ⟨_, rfl⟩
  rw [← hV]
  have hVl : V.length ≤ A.length + 1 := by rw [hV]; have := mgP_len (A.map pc) (pc x); simpa [-Option.bind_some] using this
  refine Wp.loop (fun n ds g => ∃ d0 c3 c4 c5 c6 c7 c8, ∃ (i k : Nat) (O : List Pt), ds = [d0, .int .i64 (i : Int), .int .i64 (k : Int), c3, c4, c5, c6, c7, c8] ∧ n + i + k = A.length + 1 ∧ i ≤ A.length ∧ Own g h.length ty1168 4 (O.map ptr') d0 ∧ h.length ≤ g.length ∧ (∀ q, q < h.length → g[q]? = h[q]?) ∧ O.length ≤ i + k ∧
      ((k = 0 ∧ V = O.map pc ++ mgP ((A.drop i).map pc) (pc x)) ∨ (k = 1 ∧ V = O.map pc ++ (A.drop i).map pc)))
    (fun r => r.1 = .ext 0 ∧ ∃ d0, nth 0 r.2.1 = d0 ∧ ∃ O : List Pt, Own r.2.2 h.length ty1168 4 (O.map ptr') d0 ∧ h.length ≤ r.2.2.length ∧ (∀ q, q < h.length → r.2.2[q]? = h[q]?) ∧ V = O.map pc) (A.length + 1)
    ⟨_, _, _, _, _, _, _, 0, 0, [], rfl, by omega, by omega, Own.nils _ _ _ _, Nat.le_refl _, fun _ _ => rfl, by simp [-Option.bind_some], .inl ⟨rfl, by simpa [-Option.bind_some] using hV⟩⟩ ?_ ?_
  · rintro n ds g ⟨d0, c3, c4, c5, c6, c7, c8, i, k, O, rfl, hn, hi, ow, hlen, hq, hO, hst⟩
    have hxlen : ([x] : List Pt).length = 1 := rfl
    have add1 : ∀ m : Nat, m ≤ 200000 → IntKind.wrap .i64 ((m : Int) + 1) = ((m + 1 : Nat) : Int) := fun m hm => by rw [wrap_i64 (by omega) (by omega)]; omega
    have app : ∀ (y : Pt) (g1 : Hp) (_ : g1 = g) (f : D × Hp → Option Out) (Q : Out → Prop), (∀ x9 g2, Own g2 h.length ty1168 4 ((O ++ [y]).map ptr') x9 → h.length ≤ g2.length → (∀ q, q < h.length → g2[q]? = h[q]?) → Wp (f (x9, g2)) Q) → Wp ((dAppend tab g1 ty1156 ty1156 d0 (.sl 4 true [ptr' y])).bind f) Q := fun y g1 hg1 f Q K => by
      subst hg1
      refine wap1156 (n0 := h.length) hlen ow (rowsOf_sl _ _ _ _) (by simp only [List.length_map, List.length_cons, List.length_nil]; omega) fun x9 g2 o2 l2 b2 _ _ => ?_
      exact K x9 g2 (by rw [List.map_append]; exact o2) (by omega) fun q hq' => by rw [b2 q hq']; exact hq q hq'
    have xix : dIndexAddr tab ty1156 dx (.int .i64 ((0 : Nat) : Int)) = some (.fptr (ptr' x)) := by rw [ixs1156 hx]; rfl
    simp only [F1190_L0, nth_zero, nth_succ, bs, Option.bind_assoc, lens1156 hA, lens1156 hx, dBin_lss, hxlen]
    rcases hst with ⟨rfl, hst⟩ | ⟨rfl, hst⟩
    · by_cases hia : i < A.length
      · have d1 : decide ((i : Int) < (A.length : Int)) = true := decide_eq_true (by omega)
        have d3 : decide (((0 : Nat) : Int) = ((1 : Nat) : Int)) = false := by decide
        have d4 : decide ((i : Int) = (A.length : Int)) = false := decide_eq_false (by omega)
        obtain ⟨u, hu⟩ : ∃ u, A[i]? = some u := ⟨_, List.getElem?_eq_getElem hia⟩
        have uix : dIndexAddr tab ty1156 da (.int .i64 (i : Int)) = some (.fptr (ptr' u)) := by rw [ixs1156 hA]; simp [-Option.bind_some, hu]
        rw [drop_cons hu, List.map_cons] at hst
        unfold mgP at hst
        simp only [d1, gd_bool, Bool.true_eq_false, reduceCtorEq, if_false, bs, dPick_bool, if_true, dIf_bool, lens1156 hx, hxlen, dBin_eql, d3, Bool.false_eq_true, lens1156 hA, d4, uix, ptF0, ptL0, xix, s1185 u.k x.k u.kd x.kd g u.hk x.hk u.hkl x.hkl, unblk_nrm, toEnd_nrm, nth_zero, nth_succ, dBin_lss, dBin_gtr]
        by_cases c1 : kcmp u.k x.k < 0
        · rw [if_pos (show kcmp (pc u).1 (pc x).1 < 0 from c1)] at hst
          simp only [c1, decide_true, if_true, uix, ptL, pt_lit, bs]
          try simp only [Option.bind_assoc]
          refine app u g rfl _ _ fun x9 g2 o2 l2 b2 => ?_
          simp only [bs, dBin_add, add1 i (by omega), unblk_nrm, nth_zero, nth_succ]
          exact .some (.inl ⟨rfl, n - 1, by omega, _, _, _, _, _, _, _, i + 1, 0, O ++ [u], rfl, by omega, by omega, o2, l2, b2, by simp [-Option.bind_some]; omega, .inl ⟨rfl, by rw [hst]; simp [-Option.bind_some]⟩⟩)
        · rw [if_neg (show ¬ kcmp (pc u).1 (pc x).1 < 0 from c1)] at hst
          by_cases c2 : kcmp u.k x.k > 0
          · rw [if_pos (show kcmp (pc u).1 (pc x).1 > 0 from c2)] at hst
            simp only [c1, c2, decide_true, decide_false, Bool.false_eq_true, if_false, if_true, xix, ptL, pt_lit, bs]
            try simp only [Option.bind_assoc]
            refine app x g rfl _ _ fun x9 g2 o2 l2 b2 => ?_
            simp only [bs, dBin_add, add1 0 (by omega), unblk_nrm, nth_zero, nth_succ]
            exact .some (.inl ⟨rfl, n - 1, by omega, _, _, _, _, _, _, _, i, 1, O ++ [x], rfl, by omega, by omega, o2, l2, b2, by simp [-Option.bind_some]; omega, .inr ⟨rfl, by rw [hst, drop_cons hu]; simp [-Option.bind_some]⟩⟩)
          · rw [if_neg (show ¬ kcmp (pc u).1 (pc x).1 > 0 from c2)] at hst
            obtain ⟨pt, e1, p1, p2⟩ := s1194 u x g
            simp only [c1, c2, decide_false, Bool.false_eq_true, if_false, uix, xix, ptL, e1, pt_lit, bs]
            try simp only [Option.bind_assoc]
            refine app pt g rfl _ _ fun x9 g2 o2 l2 b2 => ?_
            simp only [bs, dBin_add, add1 0 (by omega), add1 i (by omega), unblk_nrm, nth_zero, nth_succ]
            exact .some (.inl ⟨rfl, n - 2, by omega, _, _, _, _, _, _, _, i + 1, 1, O ++ [pt], rfl, by omega, by omega, o2, l2, b2, by simp [-Option.bind_some]; omega, .inr ⟨rfl, by rw [hst]; simp [-Option.bind_some, pc, p1, p2]⟩⟩)
      · have hia : i = A.length := by omega
        subst hia
        have d1 : decide ((A.length : Int) < (A.length : Int)) = false := decide_eq_false (by omega)
        have d2 : decide (((0 : Nat) : Int) < ((1 : Nat) : Int)) = true := by decide
        have d3 : decide (((0 : Nat) : Int) = ((1 : Nat) : Int)) = false := by decide
        have d4 : decide ((A.length : Int) = (A.length : Int)) = true := decide_eq_true rfl
        have d5 : decide ((1 : Int) < 0) = false := by decide
        have d6 : decide ((1 : Int) > 0) = true := by decide
        rw [List.drop_length] at hst
        have hst : V = O.map pc ++ [pc x] := hst
        simp only [d1, gd_bool, if_true, bs, lens1156 hx, hxlen, dBin_lss, d2, dPick_bool, Bool.false_eq_true, if_false, dIf_bool, dBin_eql, d3, lens1156 hA, d4, decide_true, unblk_nrm, toEnd_nrm, nth_zero, nth_succ, d5, dBin_gtr, d6, xix, ptL, pt_lit]
        try simp only [Option.bind_assoc]
        refine app x g rfl _ _ fun x9 g2 o2 l2 b2 => ?_
        simp only [bs, dBin_add, add1 0 (by omega), unblk_nrm, nth_zero, nth_succ]
        exact .some (.inl ⟨rfl, n - 1, by omega, _, _, _, _, _, _, _, A.length, 1, O ++ [x], rfl, by omega, by omega, o2, l2, b2, by simp [-Option.bind_some]; omega, .inr ⟨rfl, by rw [hst]; simp [-Option.bind_some]⟩⟩)
    · by_cases hia : i < A.length
      · have d1 : decide ((i : Int) < (A.length : Int)) = true := decide_eq_true (by omega)
        have d3 : decide (((1 : Nat) : Int) = ((1 : Nat) : Int)) = true := by decide
        have d5 : decide ((-1 : Int) < 0) = true := by decide
        obtain ⟨u, hu⟩ : ∃ u, A[i]? = some u := ⟨_, List.getElem?_eq_getElem hia⟩
        have uix : dIndexAddr tab ty1156 da (.int .i64 (i : Int)) = some (.fptr (ptr' u)) := by rw [ixs1156 hA]; simp [-Option.bind_some, hu]
        rw [drop_cons hu, List.map_cons] at hst
        simp only [d1, gd_bool, Bool.true_eq_false, reduceCtorEq, if_false, bs, dPick_bool, if_true, dIf_bool, lens1156 hx, hxlen, dBin_eql, d3, decide_true, unblk_nrm, toEnd_nrm, nth_zero, nth_succ, dBin_lss, d5, uix, ptL, pt_lit]
        try simp only [Option.bind_assoc]
        refine app u g rfl _ _ fun x9 g2 o2 l2 b2 => ?_
        simp only [bs, dBin_add, add1 i (by omega), unblk_nrm, nth_zero, nth_succ]
        exact .some (.inl ⟨rfl, n - 1, by omega, _, _, _, _, _, _, _, i + 1, 1, O ++ [u], rfl, by omega, by omega, o2, l2, b2, by simp [-Option.bind_some]; omega, .inr ⟨rfl, by rw [hst]; simp [-Option.bind_some]⟩⟩)
      · have hia : i = A.length := by omega
        subst hia
        have d1 : decide ((A.length : Int) < (A.length : Int)) = false := decide_eq_false (by omega)
        have d2 : decide (((1 : Nat) : Int) < ((1 : Nat) : Int)) = false := by decide
        rw [List.drop_length] at hst
        simp only [d1, gd_bool, if_true, bs, lens1156 hx, hxlen, dBin_lss, d2, dPick_bool, Bool.false_eq_true, if_false, dIf_bool]
        exact .some (.inr ⟨by simp [-Option.bind_some], rfl, _, rfl, O, ow, hlen, hq, by simpa [-Option.bind_some] using hst⟩)
  · rintro ⟨ex, ds, g⟩ ⟨rfl, d0, hd0, O, ow, hlen, hq, hst⟩
    replace hd0 : nth 0 ds = d0 := hd0
    simp only [unblk_self, toEnd_nrm, bs, nth_zero, hd0, mkRes_one]
    have hs := own_sl (n0 := h.length) (n := 3) ow (Nat.le_refl _) fun p _ => ptr_frz _ _ _ p
    have hsc : scope h g d0 = some (frz h.length g 4 d0, h) := scope_eq rfl (slof_ok hs fun p _ => ptr_okd _ p) hlen hq
    rw [hsc]
    exact .some ⟨rfl, O, hs, hst.symm⟩
/-- The counts of events, one after the other. -/
def cntE (ns : List Str) : List Ev → List (List Str × Int)
  | l => l.foldl (fun c e => mgP c (keyE ns e, e.a6)) []
structure CtOK (ns : List Str) (dn : D) : Prop where
  hd : SlOf 1 (fun s => [D.str s]) ns dn
  hl : ns.length ≤ 1000
  hn : ∀ n ∈ ns, nmOK n
theorem s1187 {ns : List Str} {dn : D} (C : CtOK ns dn) (A : List Pt) (da : D) (e : Ev) (h : Hp) (hA : SlOf 4 ptr' A da) (hl : A.length ≤ 100000) (h0 : 0 ≤ e.a0) (h9 : e.a0 ≤ 9) (hf : FsOK e.fs) : ∃ (P : List Pt) (d' : D), R fn1187 [da, dn, aggd, .agg (evr e)] h = some (d', h) ∧ SlOf 4 ptr' P d' ∧ P.map pc = mgP (A.map pc) (keyE ns e, e.a6) := by
  have hL : ∀ g, dLoad tab g ty31 (.fptr (evr e)) = some (.agg (evr e)) := fun g => id rfl
  obtain ⟨pt, e1, p1, p2⟩ := s1191 ns dn e h C.hd C.hl h0 h9 C.hn hf
  obtain ⟨P, d', e2, h2, h3⟩ := s1190 A pt da (.sl 4 true [ptr' pt]) h hA (.inr ⟨true, rfl⟩) hl
  refine ⟨P, d', ?_, h2, by rw [h3]; simp [-Option.bind_some, pc, p1, p2]⟩
  rw [e1187]
  simp only [F1187, pBoxF_agg, bs, hL, e1, pt_lit, e2, mkRes_one]
theorem s1176 {ns : List Str} {dn : D} (C : CtOK ns dn) (l : List Ev) (dl : D) (h : Hp) (hd : SlOf 10 evr l dl) (hl : l.length ≤ 1000) (he : ∀ e ∈ l, 0 ≤ e.a0 ∧ e.a0 ≤ 9 ∧ FsOK e.fs) : ∃ (P : List Pt) (d' : D), R fn1176 [dn, aggd, dl] h = some (d', h) ∧ SlOf 4 ptr' P d' ∧ P.map pc = cntE ns l ∧ P.length ≤ l.length := by
  suffices Wp (R fn1176 [dn, aggd, dl] h) (fun p => p.2 = h ∧ ∃ P : List Pt, SlOf 4 ptr' P p.1 ∧ P.map pc = cntE ns l ∧ P.length ≤ l.length) by
    obtain ⟨⟨y, h'⟩, h1, rfl, P, h2, h3⟩ := this
    exact ⟨P, y, h1, h2, h3⟩
  rw [e1176]
  simp only [F1176, bs, Option.bind_assoc]
  refine Wp.loop (fun n ds g => g = h ∧ ∃ d0 c, ∃ (i : Nat) (P : List Pt), ds = [d0, .int .i64 (i : Int), c] ∧ n + i = l.length ∧ SlOf 4 ptr' P d0 ∧ P.map pc = cntE ns (l.take i) ∧ P.length ≤ i)
    (fun r => r.1 = .ext 0 ∧ r.2.2 = h ∧ ∃ P : List Pt, SlOf 4 ptr' P (nth 0 r.2.1) ∧ P.map pc = cntE ns l ∧ P.length ≤ l.length) l.length ⟨rfl, _, _, 0, [], rfl, rfl, .nils _ _, by simp [-Option.bind_some, cntE], by simp [-Option.bind_some]⟩ ?_ ?_
  · rintro n ds g ⟨rfl, d0, c, i, P, rfl, hn, hP, hc, hPl⟩
    simp only [F1176_L0, nth_zero, nth_succ, bs, Option.bind_assoc, lens40 hd, dBin_lss]
    refine Wp.dif ?_ ?_
    · intro h0
      have h0 : i < l.length := by have : (i : Int) < l.length := by simpa [-Option.bind_some] using h0
                                   omega
      obtain ⟨u, hu⟩ : ∃ u, l[i]? = some u := ⟨_, List.getElem?_eq_getElem h0⟩
      obtain ⟨a1, a2, a3⟩ := he u (List.mem_of_getElem? hu)
      have hw : IntKind.wrap .i64 ((i : Int) + 1) = ((i + 1 : Nat) : Int) := by rw [wrap_i64 (by omega) (by omega)]; omega
      have hix : dIndexAddr tab ty40 dl (.int .i64 (i : Int)) = some (.fptr (evr u)) := by rw [ixs40 hd]; simp [-Option.bind_some, hu]
      have hL : dLoad tab g ty31 (.fptr (evr u)) = some (.agg (evr u)) := id rfl
      obtain ⟨P2, d2, e2, h2, h3⟩ := s1187 C P d0 u g hP (by omega) a1 a2 a3
      have hlen2 : P2.length ≤ i + 1 := by
        have h4 := mgP_len (P.map pc) (keyE ns u, u.a6)
        rw [← h3] at h4
        simp [-Option.bind_some] at h4; omega
      simp only [hix, hL, e2, bs, dBin_add, hw]
      refine .some (.inl ⟨rfl, n - 1, by omega, rfl, _, _, i + 1, P2, rfl, by omega, h2, ?_, hlen2⟩)
      rw [h3, hc, List.take_add_one, hu]
      simp [-Option.bind_some, cntE]
    · intro h0
      have h0 : l.length ≤ i := by have : ¬ (i : Int) < l.length := by simpa [-Option.bind_some] using h0
                                   omega
      rw [List.take_of_length_le h0] at hc
      exact .some (.inr ⟨by simp [-Option.bind_some], rfl, rfl, P, hP, hc, by omega⟩)
  · rintro ⟨ex, ds, g⟩ ⟨rfl, h2, P, hP, hc, hPl⟩
    simp only at h2
    subst h2
    simp only [unblk_self, toEnd_nrm, bs, nth_zero, mkRes_one]
    exact .some ⟨rfl, P, hP, hc, hPl⟩
/-- What the row of a count says. -/
def rowC (c : List Str × Int) : List Str × List Int × Int := (c.1, [c.2], 0)
theorem s1175 (P : List Pt) (da dp : D) (h : Hp) (hP : SlOf 4 ptr' P dp) (hl : P.length ≤ 1000) : ∃ (L : List Rw) (d' : D), R fn1175 [da, dp] h = some (d', h) ∧ SlOf 3 rowr L d' ∧ L.map rcont = (P.map pc).map rowC := by
  suffices Wp (R fn1175 [da, dp] h) (fun p => p.2 = h ∧ ∃ L : List Rw, SlOf 3 rowr L p.1 ∧ L.map rcont = (P.map pc).map rowC) by
    obtain ⟨⟨y, h'⟩, h1, rfl, L, h2, h3⟩ := this
    exact ⟨L, y, h1, h2, h3⟩
  rw [e1175]
  simp only [F1175, bs, Option.bind_assoc]
  refine Wp.loop (fun n ds g => ∃ d0 c, ∃ (i : Nat) (L : List Rw), ds = [d0, .int .i64 (i : Int), c] ∧ n + i = P.length ∧ Own g h.length ty1146 3 (L.map rowr) d0 ∧ h.length ≤ g.length ∧ (∀ q, q < h.length → g[q]? = h[q]?) ∧ L.map rcont = ((P.take i).map pc).map rowC)
    (fun r => r.1 = .ext 0 ∧ ∃ d0, nth 0 r.2.1 = d0 ∧ ∃ L : List Rw, Own r.2.2 h.length ty1146 3 (L.map rowr) d0 ∧ h.length ≤ r.2.2.length ∧ (∀ q, q < h.length → r.2.2[q]? = h[q]?) ∧ L.map rcont = (P.map pc).map rowC) P.length ⟨_, _, 0, [], rfl, rfl, Own.nils _ _ _ _, Nat.le_refl _, fun _ _ => rfl, by simp [-Option.bind_some]⟩ ?_ ?_
  · rintro n ds g ⟨d0, c, i, L, rfl, hn, ow, hlen, hq, hL⟩
    simp only [F1175_L0, nth_zero, nth_succ, bs, Option.bind_assoc, lens1156 hP, dBin_lss]
    refine Wp.dif ?_ ?_
    · intro h0
      have h0 : i < P.length := by have : (i : Int) < P.length := by simpa [-Option.bind_some] using h0
                                   omega
      obtain ⟨u, hu⟩ : ∃ u, P[i]? = some u := ⟨_, List.getElem?_eq_getElem h0⟩
      have hw : IntKind.wrap .i64 ((i : Int) + 1) = ((i + 1 : Nat) : Int) := by rw [wrap_i64 (by omega) (by omega)]; omega
      have uix : dIndexAddr tab ty1156 dp (.int .i64 (i : Int)) = some (.fptr (ptr' u)) := by rw [ixs1156 hP]; simp [-Option.bind_some, hu]
      have hukl := u.hkl
      simp only [uix, ptF0, ptL0, bs]
      refine wap98 (n0 := g.length) (rows := []) (Nat.le_refl _) (.nils _ _ _ _) (slof_rows _ u.hk) (by simp only [List.length_map, List.length_nil]; omega) fun x1 g1 o1 l1 b1 _ _ => ?_
      rw [List.nil_append] at o1
      obtain ⟨s1, m1, c1⟩ := aft_own (f := fun s => [D.str s]) o1 fun a _ n0 h d hd => by simp [-Option.bind_some] at hd; subst hd; exact frz_str _ _ _ _
      generalize aftW (x1, g1) = p1 at s1 m1 c1 ⊢
      obtain ⟨x1, g1'⟩ := p1
      simp only at s1 m1 c1 ⊢
      have k1 : ∀ q, q < g.length → g1'[q]? = g[q]? := fun q hq' => by rw [c1 q hq', b1 q hq']
      try simp only [ptF1, ptL1, bs]
      refine wap82 (n0 := g1'.length) (rows := []) (Nat.le_refl _) (.nils _ _ _ _) (slof_rows _ u.ht) (by simp [-Option.bind_some]) fun x2 g2 o2 l2 b2 _ _ => ?_
      rw [List.nil_append] at o2
      obtain ⟨s2, m2, c2⟩ := aft_own (f := inr) o2 fun a _ n0 h d hd => by simp [-Option.bind_some, inr] at hd; subst hd; exact frz_int _ _ _ _ _
      generalize aftW (x2, g2) = p2 at s2 m2 c2 ⊢
      obtain ⟨x2, g2'⟩ := p2
      simp only at s2 m2 c2 ⊢
      have k2 : ∀ q, q < g.length → g2'[q]? = g[q]? := fun q hq' => by rw [c2 q (by omega), b2 q (by omega), k1 q hq']
      have hb : dBuild tab ty1146 [0, 1] [x1, x2] = some (.agg [x1, x2, .int .i64 0]) := bd1146_0_1 x1 x2 (slof_one s1) (slof_one s2)
      have hlit : pLitF tab ty1144 1 [0] [.agg [x1, x2, .int .i64 0]] = some (.sl 3 true [[x1, x2, .int .i64 0]]) := bs1144_1 _ _ _
      have ow2 : Own g2' h.length ty1146 3 (L.map rowr) d0 := ow.keep fun q hq' hx => k2 q (ow.lt hx).2
      have hLl : L.length ≤ i := by
        have h4 := congrArg List.length hL
        simp [-Option.bind_some] at h4; omega
      try simp only [hb, hlit, bs, Option.bind_assoc]
      refine wap1144 (n0 := h.length) (by omega) ow2 (rowsOf_sl _ _ _ _) (by simp only [List.length_map, List.length_cons, List.length_nil]; omega) fun x3 g3 o3 l3 b3 _ _ => ?_
      have hr : L.map rowr ++ [[x1, x2, .int .i64 0]] = (L ++ [(⟨u.k, x1, s1, u.hkl, [u.tot], x2, s2, by simp [-Option.bind_some], 0⟩ : Rw)]).map rowr := by simp [-Option.bind_some, rowr]
      rw [hr] at o3
      simp only [chk_true, bs, dBin_add, hw]
      refine .some (.inl ⟨rfl, n - 1, by omega, _, _, i + 1, _, rfl, by omega, o3, by show h.length ≤ g3.length; omega, fun q hq' => by rw [b3 q hq', k2 q (by omega)]; exact hq q hq', ?_⟩)
      rw [List.map_append, hL, List.take_add_one, hu]
      simp [-Option.bind_some, rcont, rowC, pc]
    · intro h0
      have h0 : P.length ≤ i := by have : ¬ (i : Int) < P.length := by simpa [-Option.bind_some] using h0
                                   omega
      rw [List.take_of_length_le h0] at hL
      exact .some (.inr ⟨by simp [-Option.bind_some], rfl, _, rfl, L, ow, hlen, hq, hL⟩)
  · rintro ⟨ex, ds, g⟩ ⟨rfl, d0, hd0, L, ow, hlen, hq, hL⟩
    replace hd0 : nth 0 ds = d0 := hd0
    simp only [unblk_self, toEnd_nrm, bs, nth_zero, hd0, mkRes_one]
    have hs := own_sl (n0 := h.length) (n := 3) ow (Nat.le_refl _) fun p _ => rowr_frz _ _ _ p
    have hsc : scope h g d0 = some (frz h.length g 4 d0, h) := scope_eq rfl (slof_ok hs fun p _ => rowr_ok _ p) hlen hq
    rw [hsc]
    exact .some ⟨rfl, L, hs, hL⟩
theorem s1170 {ns : List Str} {dn : D} (C : CtOK ns dn) (l : List Ev) (dl : D) (h : Hp) (hd : SlOf 10 evr l dl) (hl : l.length ≤ 1000) (he : ∀ e ∈ l, 0 ≤ e.a0 ∧ e.a0 ≤ 9 ∧ FsOK e.fs) : ∃ (L : List Rw) (d' : D), R fn1170 [dn, dl] h = some (d', h) ∧ SlOf 3 rowr L d' ∧ L.map rcont = (cntE ns l).map rowC ∧ L.length ≤ l.length := by
  obtain ⟨P, dp, e1, h1, h2, h3⟩ := s1176 C l dl h hd hl he
  obtain ⟨L, d', e2, h4, h5⟩ := s1175 P aggd dp h h1 (by omega)
  refine ⟨L, d', ?_, h4, by rw [h5, h2], ?_⟩
  · have hag : (D.sl 2 true [[.int .i64 0, .str []]]) = aggd := rfl
    rw [e1170]
    simp only [F1170, bs, bd1153_, bs1154_1, hag, e1, e2, mkRes_one]
  · have h6 := congrArg List.length h5
    simp [-Option.bind_some] at h6; omega
theorem app_lit {T : Tab} {t e : Nat} {i j : TI} (ht : T t = Option.some i) (hi : i.td = .sl e) (he : T e = Option.some j) (hz : 0 < j.sz) {h : Hp} {rows ys : List (List D)} {y : D} (hy : dRowsOf h j.sz y = Option.some ys) (hl : lim (rows.length + ys.length) j.by_ = true) (hne : ys ≠ []) :
    ∃ x' h', dAppend T h t t (.sl j.sz true rows) y = Option.some (x', h') ∧ h.length ≤ h'.length ∧ (∀ q, q < h.length → h'[q]? = h[q]?) ∧ Own h' h.length e j.sz (rows ++ ys) x' := by
  have hz' : Nat.blt 0 j.sz = true := Nat.ble_eq_true_of_le hz
  have hs : dSrc h i j y = Option.some ys := by simp [-Option.bind_some, dSrc, hi, hy]
  unfold dAppend
  simp only [ht, hi, he, hz', hs]
  cases ys with
  | nil => exact absurd rfl hne
  | cons y1 yr =>
    simp only [hl, and_self, if_true, true_and]
    exact ⟨_, _, rfl, by simp [-Option.bind_some, dNew], fun q hq => by simp only [dNew]; rw [List.getElem?_append_left hq], .inr ⟨h.length, Nat.le_refl _, by simp [-Option.bind_some], by simp [-Option.bind_some, dNew]⟩⟩
theorem d1186 {h : Hp} {o : Nat} (hc : CD h o) : ∃ s h', R fn1186 [.ptr o 0 0] h = some (.str s, h') ∧ CD h' o ∧ Same o h h' ∧ s ∈ lt98_46 := by
  obtain ⟨v, h', h1, h2, h3, h4, h5⟩ := next_b hc 4 (by omega) (by omega)
  obtain ⟨s, hs, hg⟩ := pick_of lt98_46 v h4 h5
  refine ⟨s, h', ?_, h2, h3, hs⟩
  rw [e1186]; simp [-Option.bind_some, F1186, h1, h4, hg]
/-- The names of a table. -/
theorem d1174 {h : Hp} {o : Nat} (hc : CD h o) : ∃ ns dn h', R fn1174 [.ptr o 0 0] h = some (dn, h') ∧ CD h' o ∧ Same o h h' ∧ CtOK ns dn := by
  suffices Wp (R fn1174 [.ptr o 0 0] h) (fun p => CD p.2 o ∧ Same o h p.2 ∧ ∃ ns, CtOK ns p.1) by
    obtain ⟨⟨x, h'⟩, h1, h2, h3, ns, h4⟩ := this
    exact ⟨ns, x, h', h1, h2, h3, h4⟩
  have ok45 : ∀ s ∈ lt98_45, nmOK s := by unfold nmOK; decide
  have ok46 : ∀ s ∈ lt98_46, nmOK s := by unfold nmOK; decide
  rw [e1174]
  simp only [F1174, bs, Option.bind_assoc, lt98_45_ok]
  obtain ⟨v, h1, e1, c1, s1, v0, v1⟩ := next_b hc 5 (by omega) (by omega)
  obtain ⟨s, hs, hg⟩ := pick_of lt98_45 v v0 v1
  have S1 : St h o h1 := (St.refl hc).next c1 s1
  refine Wp.step e1 ?_
  simp only [bs, Option.bind_assoc]
  have hix : dIndexAddr tab ty98 (.sl 1 true (lt98_45.map fun s => [D.str s])) (.int .i64 v) = some (.fptr [.str s]) := by
    have := ixs98 (SlOf.mk 1 (fun s => [D.str s]) lt98_45 true) v
    rw [this, if_pos v0, hg]; rfl
  simp only [hix, str_ld, bs98_1, bs, Option.bind_assoc]
  obtain ⟨w, h2, e2, c2, s2, w0, w1⟩ := next_b S1.cd 2 (by omega) (by omega)
  have S2 := S1.next c2 s2
  refine Wp.step e2 ?_
  simp only [dBin_eql, bs]
  refine Wp.join (P := fun r => ∃ x g, ∃ ns : List Str, r = (.nrm, [x], g) ∧ St h o g ∧ (SlOf 1 (fun s => [D.str s]) ns x ∨ Own g h.length ty9 1 (ns.map fun s => [D.str s]) x) ∧ ns.length ≤ 2 ∧ ∀ n ∈ ns, nmOK n) ?_ ?_ ?_
  · intro _
    obtain ⟨u, h3, e3, c3, s3, hu⟩ := d1186 S2.cd
    have S3 := S2.next c3 s3
    refine Wp.step e3 ?_
    simp only [bs98_1, bs, Option.bind_assoc]
    obtain ⟨x', g, e4, l4, q4, o4⟩ := app_lit (T := tab) (t := ty98) (i := ti98) (j := ti9) (id rfl) (id rfl) (id rfl) (by decide) (h := h3) (rows := [[.str s]]) (y := .sl 1 true [[.str u]]) (ys := [[.str u]]) (rowsOf_sl _ _ _ _) (by rfl) (by simp [-Option.bind_some])
    have e4 : dAppend tab h3 ty98 ty98 (.sl 1 true [[.str s]]) (.sl 1 true [[.str u]]) = some (x', g) := e4
    simp only [e4, bs]
    refine .some ⟨x', g, [s, u], rfl, S3.app l4 fun q hq => q4 q (by have := S3.le; omega), .inr (o4.from S3.le), by simp [-Option.bind_some], fun n hn => ?_⟩
    simp [-Option.bind_some] at hn
    rcases hn with rfl | rfl
    · exact ok45 _ hs
    · exact ok46 _ hu
  · intro _
    exact .some ⟨_, _, [s], rfl, S2, .inl (.inr ⟨true, rfl⟩), by simp [-Option.bind_some], fun n hn => by simp [-Option.bind_some] at hn; subst hn; exact ok45 _ hs⟩
  · rintro r ⟨x, g, ns, rfl, S, hx, hl, hn⟩
    simp only [toEnd_nrm, bs, nth_zero, mkRes_one]
    have hs4 : SlOf 1 (fun s => [D.str s]) ns (frz h.length g 4 x) := by
      rcases hx with hx | hx
      · rw [str_frz _ _ 3 hx]; exact hx
      · exact own_sl hx (Nat.le_refl _) fun a _ y hy => by simp [-Option.bind_some] at hy; subst hy; exact frz_str _ _ _ _
    obtain ⟨h', e, cd, sm⟩ := S.scope (d := x) rfl (str_ok _ hs4)
    rw [e]
    exact .some ⟨cd, sm, ns, hs4, by omega, hn⟩
/-- What is drawn: names, events, a size, the codes. -/
theorem s1169 (zs : List Int) (d : D) (h : Hp) (hd : Given .u8 zs d) (hz : ∀ z ∈ zs, 0 ≤ z ∧ z < 256) : ∃ (ns : List Str) (l : List Ev) (dn dl : D) (sz : Int) (o : Nat) (h' : Hp), R fn1169 [d] h = some (.tup [dn, dl, .int .i64 sz, .ptr o 0 0], h') ∧ CD h' o ∧ CtOK ns dn ∧ SlOf 10 evr l dl ∧ EvsOK l ∧ l.length ≤ 600 ∧ 1 ≤ sz ∧ sz ≤ 5 := by
  obtain ⟨h0, e0, c0, l0⟩ := d44 zs d 500 h hd (by omega) (by omega) hz
  obtain ⟨ns, dn, h1, e1, c1, s1, C⟩ := d1174 c0
  obtain ⟨dl, h2, e2, c2, s2, l, hl, hok, hll⟩ := d48 c1 7 (by omega) (by omega)
  obtain ⟨v, h3, e3, c3, s3, v0, v1⟩ := next_b c2 5 (by omega) (by omega)
  have w : IntKind.wrap .i64 (1 + v) = 1 + v := wrap_i64 (by omega) (by omega)
  refine ⟨ns, l, dn, dl, 1 + v, h.length, h3, ?_, c3, C, hl, hok, hll, by omega, by omega⟩
  rw [e1169]
  simp only [F1169, bs, e0, e1, e2, e3, dBin_add, w]
  rfl
/-- Keys in order are different. -/
def KAsc (l : List (List Str × Int)) : Prop := l.Pairwise fun a b => kcmp a.1 b.1 < 0
theorem mgP_mem : ∀ (l : List (List Str × Int)) (x z : List Str × Int), z ∈ mgP l x → z.1 = x.1 ∨ ∃ y ∈ l, z.1 = y.1
  | [], x, z, h => by simp [-Option.bind_some, mgP] at h; subst h; exact .inl rfl
  | y :: r, x, z, h => by
    unfold mgP at h
    split at h
    · rcases List.mem_cons.1 h with rfl | h
      · exact .inr ⟨z, by simp [-Option.bind_some], rfl⟩
      · rcases mgP_mem r x z h with h | ⟨w, hw, h⟩
        · exact .inl h
        · exact .inr ⟨w, by simp [-Option.bind_some, hw], h⟩
    · split at h
      · rcases List.mem_cons.1 h with rfl | h
        · exact .inl rfl
        · exact .inr ⟨z, h, rfl⟩
      · rcases List.mem_cons.1 h with rfl | h
        · exact .inr ⟨y, by simp [-Option.bind_some], rfl⟩
        · exact .inr ⟨z, by simp [-Option.bind_some, h], rfl⟩
theorem mgP_asc : ∀ (l : List (List Str × Int)) (x : List Str × Int), KAsc l → KAsc (mgP l x)
  | [], x, _ => by simp [-Option.bind_some, mgP, KAsc]
  | y :: r, x, h => by
    have hr := List.pairwise_cons.1 h
    have ih := mgP_asc r x hr.2
    unfold mgP
    split
    · rename_i h1
      refine List.pairwise_cons.2 ⟨fun z hz => ?_, ih⟩
      rcases mgP_mem r x z hz with e | ⟨w, hw, e⟩
      · rw [e]; exact h1
      · rw [e]; exact hr.1 w hw
    · split
      · rename_i h1 h2
        have hxy : kcmp x.1 y.1 < 0 := by rw [kcmp_neg] ; omega
        refine List.pairwise_cons.2 ⟨fun z hz => ?_, h⟩
        rcases List.mem_cons.1 hz with rfl | hz
        · exact hxy
        · exact kcmp_tr hxy (hr.1 z hz)
      · exact List.pairwise_cons.2 ⟨fun z hz => hr.1 z hz, hr.2⟩
theorem cntE_asc (ns : List Str) (l : List Ev) : KAsc (cntE ns l) := by
  have : ∀ (l : List Ev) (c : List (List Str × Int)), KAsc c → KAsc (l.foldl (fun c e => mgP c (keyE ns e, e.a6)) c) := by
    intro l
    induction l with
    | nil => intro c h; exact h
    | cons e l ih => intro c h; exact ih _ (mgP_asc _ _ h)
  exact this l [] List.Pairwise.nil
theorem KAsc.nodup {l : List (List Str × Int)} (h : KAsc l) : (l.map Prod.fst).Nodup := by
  rw [List.Nodup, List.pairwise_map]
  exact h.imp fun {a b} hab he => by
    rw [he] at hab
    have := (kcmp_zero b.1 b.1).2 rfl
    omega
/-- The rows of counts. -/
theorem rows_facts {ns : List Str} {l : List Ev} {L : List Rw} (h : L.map rcont = (cntE ns l).map rowC) : (L.map Rw.k).Nodup ∧ ∀ r ∈ L, r.n ≠ [] := by
  constructor
  · have e : L.map Rw.k = (cntE ns l).map Prod.fst := by
      have := congrArg (List.map Prod.fst) h
      simpa [-Option.bind_some, rcont, rowC, Function.comp_def] using this
    rw [e]; exact (cntE_asc ns l).nodup
  · intro r hr
    have : rcont r ∈ (cntE ns l).map rowC := by rw [← h]; exact List.mem_map.2 ⟨r, hr, rfl⟩
    obtain ⟨c, _, hc⟩ := List.mem_map.1 this
    have : r.n = [c.2] := by
      have := congrArg (fun z : List Str × List Int × Int => z.2.1) hc
      exact this.symm
    rw [this]; simp [-Option.bind_some]
theorem ev_small {l : List Ev} (h : EvsOK l) : ∀ e ∈ l, 0 ≤ e.a0 ∧ e.a0 ≤ 9 ∧ FsOK e.fs := fun e he => by
  obtain ⟨h1, h2, h3, _⟩ := h.1 e he
  obtain ⟨_, _, _, _, _, _, h4, _⟩ := h1.ev rfl
  exact ⟨by omega, by omega, h4⟩
def rwa : Rw := ⟨[], .nils, .nils _ _, by simp [-Option.bind_some], [1], .sl 1 true [[.int .i64 1]], .inr ⟨true, rfl⟩, by simp [-Option.bind_some], 0⟩
def rwb : Rw := ⟨[[98]], .sl 1 true [[.str [98]]], .inr ⟨true, rfl⟩, by simp [-Option.bind_some], [2], .sl 1 true [[.int .i64 2]], .inr ⟨true, rfl⟩, by simp [-Option.bind_some], 0⟩
theorem s1168 (h : Hp) : R fn1168 [] h = some (.bool true, h) := by
  obtain ⟨C, d', e, hp, hs, hd⟩ := s1172 [rwa, rwb] (.sl 3 true [rowr rwa, rowr rwb]) 1 h (.inl (.inr ⟨true, rfl⟩)) (by simp [-Option.bind_some])
  have hE : [rwb, rwa].Pairwise rS := by
    refine List.pairwise_cons.2 ⟨fun x hx => ?_, by simp [-Option.bind_some]⟩
    simp [-Option.bind_some] at hx
    subst hx
    rw [rS_iff]
    left
    decide
  have hC : C = [rwb, rwa] := rS_uniq hs hE (hp.trans (List.Perm.swap _ _ _)) (by
    have := (hp.map Rw.k).nodup_iff
    rw [this]
    simp [-Option.bind_some, rwa, rwb])
  subst hC
  have hcut : cutN 1 ([rwa, rwb] : List Rw).length = 1 := by decide
  rw [hcut] at hd
  have hd : SlOf 3 rowr [rwb] d' := hd
  have hb1 : dBuild tab ty1146 [1] [.sl 1 true [[.int .i64 1]]] = some (.agg (rowr rwa)) := id rfl
  have hb2 : dBuild tab ty1146 [0, 1] [.sl 1 true [[.str [98]]], .sl 1 true [[.int .i64 2]]] = some (.agg (rowr rwb)) := id rfl
  have hl : pLitF tab ty1144 2 [0, 1] [.agg (rowr rwa), .agg (rowr rwb)] = some (.sl 3 true [rowr rwa, rowr rwb]) := bs1144_2 _ _ _ _ _ _
  have h1 : pLitF tab ty82 1 [0] [.int .i64 1] = some (.sl 1 true [[.int .i64 1]]) := id rfl
  have h2 : pLitF tab ty82 1 [0] [.int .i64 2] = some (.sl 1 true [[.int .i64 2]]) := id rfl
  have h3 : pLitF tab ty98 1 [0] [.str [98]] = some (.sl 1 true [[.str [98]]]) := id rfl
  have hix : dIndexAddr tab ty1144 d' (.int .i64 0) = some (.fptr (rowr rwb)) := by rw [ixs1144 hd]; rfl
  have hn : dLenT tab ty82 rwb.nd = some (.int .i64 1) := id rfl
  have hi : dIndexAddr tab ty82 rwb.nd (.int .i64 0) = some (.fptr [.int .i64 2]) := id rfl
  rw [e1168]
  simp only [F1168, bs, h1, h2, h3, hb1, hb2, hl, e, lens1144 hd, List.length_singleton, Int.natCast_one, dBin_eql, decide_true, gd_bool, if_true, hix, rwF1, rwL1, hn, dPick_bool, hi, inr_ld, mkRes_one]
/-- Both answers say the same. -/
theorem exact_same {l : List Rw} {C E : List Rw} (hn : (l.map Rw.k).Nodup) (c1 : C.Perm l) (c2 : C.Pairwise rS) (e1 : E.Perm l) (e2 : E.Pairwise rS) : C = E :=
  rS_uniq c2 e2 (c1.trans e1.symm) ((c1.map Rw.k).nodup_iff.2 hn)
theorem rnum_ix {h : Hp} (r : Rw) (hr : r.n ≠ []) : ∃ z, dIndexAddr tab ty82 r.nd (.int .i64 0) = some (.fptr [.int .i64 z]) ∧ z = rnum r := by
  cases hq : r.n with
  | nil => exact absurd hq hr
  | cons z zs => exact ⟨z, by rw [ixs82 r.hn, hq]; rfl, by unfold rnum; rw [hq]; rfl⟩
theorem take_cut {α : Type} (C : List α) (k : Int) (h0 : 0 ≤ k) : (C.take (cutN k C.length)).length = cutN k C.length ∧ ((cutN k C.length : Nat) : Int) = (if k ≤ (C.length : Int) then k else (C.length : Int)) := by
  have := cutN_le k C.length
  refine ⟨by rw [List.length_take]; omega, ?_⟩
  unfold cutN
  split <;> omega
theorem law1167 (zs : List Int) (d : D) (n : Int) (hd : Given .u8 zs d) (hz : ∀ z ∈ zs, 0 ≤ z ∧ z < 256) (hn0 : 0 ≤ n) (hn9 : n < 256) : ∃ h', R fn1167 [d, .int .u8 n] [] = some (.bool true, h') := by
  suffices Wp (R fn1167 [d, .int .u8 n] []) (fun p => p.1 = .bool true) by
    obtain ⟨⟨x, h'⟩, h1, rfl⟩ := this
    exact ⟨h', h1⟩
  have fin : ∀ (g : Hp), scope [] g (.bool true) = some (.bool true, []) := fun g => scope_eq (by simp [-Option.bind_some]) (.bool _) (by simp [-Option.bind_some]) (fun q hq => by cases hq)
  rw [e1167]
  simp only [F1167, bs, s1168, dUn_not, Bool.not_true, dIf_bool, Bool.false_eq_true, if_false, Option.bind_assoc]
  obtain ⟨ns, l, dn, dl, sz, o, g0, e0, c0, C, hl, hok, hll, _, _⟩ := s1169 zs d [] hd hz
  have ho := c0.lt
  simp only [e0, bs, dExtract_tup, List.getElem?_cons_zero, List.getElem?_cons_succ, Option.bind_assoc]
  obtain ⟨M, dM, e1, m1, m2, m3⟩ := s1170 C l dl g0 hl (by omega) (ev_small hok)
  obtain ⟨mn, mk⟩ := rows_facts m2
  refine Wp.step e1 ?_
  simp only [bs, Option.bind_assoc]
  refine wap1144 (n0 := g0.length) (rows := []) (Nat.le_refl _) (.nils _ _ _ _) (slof_rows _ m1) (by simp only [List.length_map, List.length_nil]; omega) fun x g1 o1 l1 b1 _ _ => ?_
  rw [List.nil_append] at o1
  have c1 : CD g1 o := c0.keep (b1 o ho)
  have hlen1 : dLenT tab ty1144 x = some (.int .i64 M.length) := rdR_len (RdR.own o1)
  have w0 : IntKind.wrap .i64 ((M.length : Int) - 1) = (M.length : Int) - 1 := wrap_i64 (by omega) (by omega)
  simp only [hlen1, bs, dBin_sub, w0, Option.bind_assoc]
  refine Wp.loop (fun k ds g => ∃ a b, ∃ (i : Int) (L : List Rw), ds = [.int .i64 i, a, b] ∧ -1 ≤ i ∧ i < M.length ∧ k = i.toNat ∧ CD g o ∧ g0.length ≤ g.length ∧ Own g g0.length ty1146 3 (L.map rowr) x ∧ L.Perm M)
    (fun r => r.1 = .ext 0 ∧ ∃ L : List Rw, CD r.2.2 o ∧ g0.length ≤ r.2.2.length ∧ Own r.2.2 g0.length ty1146 3 (L.map rowr) x ∧ L.Perm M) ((M.length : Int) - 1).toNat
    ⟨_, _, _, M, rfl, by omega, by omega, rfl, c1, l1, o1, List.Perm.refl _⟩ ?_ ?_
  · rintro k ds g ⟨a, b, i, L, rfl, h1, h2, rfl, cd, hg, ow, hp⟩
    have hLl := hp.length_eq
    simp only [F1167_L0, nth_zero, nth_succ, bs, Option.bind_assoc, dBin_gtr]
    refine Wp.dif ?_ ?_
    · intro h0
      have h0 : 0 < i := by simpa [-Option.bind_some] using h0
      obtain ⟨m, rfl⟩ : ∃ m : Nat, i = m := ⟨i.toNat, by omega⟩
      have w1 : IntKind.wrap .i64 ((m : Int) + 1) = (m : Int) + 1 := wrap_i64 (by omega) (by omega)
      have w2 : IntKind.wrap .i64 ((m : Int) - 1) = (m : Int) - 1 := wrap_i64 (by omega) (by omega)
      try simp only [dBin_add, w1, bs]
      obtain ⟨v, g2, e2, c2, s2, v0, v1⟩ := next_b cd ((m : Int) + 1) (by omega) (by omega)
      obtain ⟨q, rfl⟩ : ∃ q : Nat, v = q := ⟨v.toNat, by omega⟩
      refine Wp.step e2 ?_
      have ow2 := ow.same s2 ho
      obtain ⟨ob, hob, rfl, hg2⟩ := own_ix ow2 (i := m) (by simp [-Option.bind_some]; omega)
      have hm : m < L.length := by omega
      have hq : q < L.length := by omega
      have iq : dIndexAddr tab ty1144 (.msl 3 ob 0 (L.map rowr).length) (.int .i64 (q : Int)) = some (.ptr ob q 0) := by rw [ixm1144, if_pos (by simp [-Option.bind_some]; omega)]; simp [-Option.bind_some]
      have im : dIndexAddr tab ty1144 (.msl 3 ob 0 (L.map rowr).length) (.int .i64 (m : Int)) = some (.ptr ob m 0) := by rw [ixm1144, if_pos (by simp [-Option.bind_some]; omega)]; simp [-Option.bind_some]
      have rq : (L.map rowr)[q]? = some (rowr L[q]) := by rw [List.getElem?_map, List.getElem?_eq_getElem hq]; rfl
      have rm : (L.map rowr)[m]? = some (rowr L[m]) := by rw [List.getElem?_map, List.getElem?_eq_getElem hm]; rfl
      have lq : dLoad tab g2 ty1146 (.ptr ob q 0) = some (.agg (rowr L[q])) := by rw [ldp1146, row_of hg2, rq]; rfl
      have lm : dLoad tab g2 ty1146 (.ptr ob m 0) = some (.agg (rowr L[m])) := by rw [ldp1146, row_of hg2, rm]; rfl
      try simp only [iq, im, lq, lm, bs, Option.bind_assoc]
      have sp : ∀ a b : Rw, spl (rowr a) 0 (cells1 (.agg (rowr b))) = rowr b := fun a b => id rfl
      refine wst1146 (off := 0) hg2 rm (by rfl) (by exact Nat.le_refl _) (rowr_okv _) fun g3 p3 s3 => ?_
      rw [sp, ← List.map_set] at p3
      have rq3 : ((L.set m L[q]).map rowr)[q]? = some (rowr ((L.set m L[q])[q]'(by simp [-Option.bind_some]; exact hq))) := by rw [List.getElem?_map, List.getElem?_eq_getElem (by simp [-Option.bind_some]; exact hq)]; rfl
      try simp only [bs, Option.bind_assoc]
      refine wst1146 (off := 0) p3 rq3 (by rfl) (by exact Nat.le_refl _) (rowr_okv _) fun g4 p4 s4 => ?_
      rw [sp, ← List.map_set] at p4
      simp only [bs, dBin_sub, w2]
      have hpm : ((L.set m L[q]).set q L[m]).Perm L := List.set_set_perm hm hq
      refine .some (.inl ⟨rfl, ((m : Int) - 1).toNat, by omega, _, _, _, (L.set m L[q]).set q L[m], rfl, by omega, by omega, rfl, ?_, ?_, .inr ⟨ob, hob, by simp [-Option.bind_some], p4⟩, hpm.trans hp⟩)
      · exact (c2.keep (s3.2 o (by omega))).keep (s4.2 o (by omega))
      · show g0.length ≤ g4.length
        have := s4.1; have := s3.1; have := s2.1; omega
    · intro h0
      exact .some (.inr ⟨by simp [-Option.bind_some], rfl, L, cd, hg, ow, hp⟩)
  · rintro ⟨ex, ds, g⟩ ⟨rfl, L, cd, hg, ow, hp⟩
    have hLl := hp.length_eq
    obtain ⟨k, hk, k0, k7⟩ : ∃ k : Int, n.tmod 8 = k ∧ 0 ≤ k ∧ k ≤ 7 := ⟨_, rfl, by rw [Int.tmod_eq_emod_of_nonneg hn0]; omega, by rw [Int.tmod_eq_emod_of_nonneg hn0]; omega⟩
    have wn : IntKind.wrap .i64 n = n := wrap_i64 (by omega) (by omega)
    have wk : IntKind.wrap .i64 (k + 1) = k + 1 := wrap_i64 (by omega) (by omega)
    simp only [unblk_self, toEnd_nrm, bs, cv5_3, wn, dBin_rem, show ¬ (8 : Int) = 0 by omega, if_false, hk, Option.bind_assoc]
    obtain ⟨C1, a, f1, p1, q1, r1⟩ := s1172 L x k g (RdR.own ow) (by omega)
    obtain ⟨C2, b, f2, p2, q2, r2⟩ := s1172 M dM (k + 1) g (.inl m1) (by omega)
    obtain ⟨C3, c, f3, p3, q3, r3⟩ := s1172 M dM k g (.inl m1) (by omega)
    have e12 := exact_same mn (p1.trans hp) q1 p2 q2
    have e13 := exact_same mn (p1.trans hp) q1 p3 q3
    subst e12 e13
    have hCl := p2.length_eq
    rw [hLl, ← hCl] at r1
    rw [← hCl] at r2 r3
    obtain ⟨t1, t2⟩ := take_cut C1 k k0
    obtain ⟨t3, t4⟩ := take_cut C1 (k + 1) (by omega)
    have hla := lens1144 r1
    have hlb := lens1144 r2
    rw [t1, t2] at hla
    rw [t3, t4] at hlb
    have hlM : dLenT tab ty1144 dM = some (.int .i64 (C1.length : Int)) := by rw [lens1144 m1, hCl]
    have hle : cutN k C1.length ≤ cutN (k + 1) C1.length := by unfold cutN; omega
    obtain ⟨b', f4, r4⟩ := slh1144 r2 (k := .i64) (n := ((cutN k C1.length : Nat) : Int)) (by omega) (by rw [t3]; omega)
    rw [Int.toNat_natCast, List.take_take, Nat.min_eq_left hle] at r4
    have h5 := s1171 _ _ a b' g r1 r4 rfl (by rw [t1]; have := cutN_le k C1.length; omega)
    have h6 := s1171 _ _ a c g r1 r3 rfl (by rw [t1]; have := cutN_le k C1.length; omega)
    rw [← t2] at hla
    simp only [f1, bs, dBin_add, wk, f2, hla, hlM, dMin_int, ← t2, dBin_neq, ne_eq, not_true, decide_false, gd_bool, if_true, hlb, ← t4, dPick_bool, Bool.false_eq_true, if_false, f4, h5, dUn_not, Bool.not_true, gdW_bool, f3, h6, dIf_bool, Option.bind_assoc]
    have hCn : ∀ r ∈ C1, r.n ≠ [] := fun r hr => mk r (p2.mem_iff.1 hr)
    have hlb' : dLenT tab ty1144 b = some (.int .i64 ((cutN (k + 1) C1.length : Nat) : Int)) := by rw [lens1144 r2, t3]
    refine Wp.loop (fun j ds g' => g' = g ∧ ∃ a b c, ∃ i : Nat, ds = [a, .int .i64 (i : Int), b, c] ∧ 1 ≤ i ∧ j + i = 1 + C1.length + 1) (fun r => r.1 = .ext 2 ∧ r.2.2 = g) (C1.length + 1) ⟨rfl, _, _, _, 1, rfl, by omega, by omega⟩ ?_ ?_
    · rintro j ds g' ⟨rfl, a1, b1, c1, i, rfl, hi1, hj⟩
      have hcl := cutN_le (k + 1) C1.length
      simp only [F1167_L1, nth_zero, nth_succ, bs, Option.bind_assoc, hlb', dBin_lss]
      refine Wp.dif ?_ ?_
      · intro h0
        have h0 : i < cutN (k + 1) C1.length := by have : (i : Int) < ((cutN (k + 1) C1.length : Nat) : Int) := by simpa [-Option.bind_some] using h0
                                                   omega
        have w3 : IntKind.wrap .i64 ((i : Int) - 1) = ((i - 1 : Nat) : Int) := by rw [wrap_i64 (by omega) (by omega)]; omega
        have w4 : IntKind.wrap .i64 ((i : Int) + 1) = ((i + 1 : Nat) : Int) := by rw [wrap_i64 (by omega) (by omega)]; omega
        obtain ⟨u, hu⟩ : ∃ u, C1[i]? = some u := ⟨_, List.getElem?_eq_getElem (by omega)⟩
        obtain ⟨v, hv⟩ : ∃ v, C1[i - 1]? = some v := ⟨_, List.getElem?_eq_getElem (by omega)⟩
        have iu : dIndexAddr tab ty1144 b (.int .i64 (i : Int)) = some (.fptr (rowr u)) := by rw [ixs1144 r2, if_pos (by omega), Int.toNat_natCast, List.getElem?_take, if_pos h0, hu]; rfl
        have iv : dIndexAddr tab ty1144 b (.int .i64 ((i - 1 : Nat) : Int)) = some (.fptr (rowr v)) := by rw [ixs1144 r2, if_pos (by omega), Int.toNat_natCast, List.getElem?_take, if_pos (by omega), hv]; rfl
        obtain ⟨zu, xu, yu⟩ := rnum_ix (h := g') u (hCn u (List.mem_of_getElem? hu))
        obtain ⟨zv, xv, yv⟩ := rnum_ix (h := g') v (hCn v (List.mem_of_getElem? hv))
        have hS : rS v u := by
          obtain ⟨hi', hu'⟩ := List.getElem?_eq_some_iff.1 hu
          obtain ⟨hv1, hv'⟩ := List.getElem?_eq_some_iff.1 hv
          have := List.pairwise_iff_getElem.1 q2 (i - 1) i hv1 hi' (by omega)
          rw [hu', hv'] at this
          exact this
        rw [rS_iff] at hS
        have hlt : decide (zu > zv) = false := decide_eq_false (by omega)
        simp only [iu, iv, rwF1, rwL1, xu, xv, inr_ld, dBin_sub, w3, dBin_gtr, hlt, dIf_bool, Bool.false_eq_true, if_false, dBin_add, w4, bs]
        exact .some (.inl ⟨rfl, j - 1, by omega, rfl, _, _, _, i + 1, rfl, by omega, by omega⟩)
      · intro h0
        exact .some (.inr ⟨by simp [-Option.bind_some], rfl, rfl⟩)
    · rintro ⟨ex, ds, g'⟩ ⟨rfl, h2⟩
      simp only at h2
      subst h2
      simp only [unblk_self, toEnd_nrm, bs, mkRes_one, fin]
      exact .some rfl
end Go.Proofs.Yteglojieneaojaa
