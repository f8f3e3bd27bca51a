/- Laws, on plain data, about functions that the statement reaches. -/
import Derived.Test.YtdoppnhopjdhmaaT9
set_option linter.unusedSimpArgs false
set_option linter.unusedVariables false
set_option linter.unnecessarySimpa false
set_option maxRecDepth 100000
namespace Go.Proofs.Ytdoppnhopjdhmaa
open Go.Eng Go.Pi
abbrev Str := List UInt8
def fld (p : Str × Str) : List D := [.str p.1, .str p.2]
/-- A line. -/
structure Lin where
  off : Int
  len : Int
  txt : Str
  deriving DecidableEq
def linr (l : Lin) : List D := [.int .i64 l.off, .int .i64 l.len, .str l.txt]
/-- An event. -/
structure Ev where
  a0 : Int
  a1 : Int
  a2 : Int
  a3 : Int
  ls : List Lin
  ld : D
  a5 : Int
  a6 : Int
  s7 : Str
  s8 : Str
  fs : List (Str × Str)
  fd : D
  hfd : SlOf 2 fld fs fd
  hl : fs.length ≤ 9223372036854775807
  hld : SlOf 3 linr ls ld
  hll : ls.length ≤ 9223372036854775807
def evr (e : Ev) : List D := [.int .i64 e.a0, .int .i64 e.a1, .int .i64 e.a2, .int .i64 e.a3, e.ld, .int .i64 e.a5, .int .i64 e.a6, .str e.s7, .str e.s8, e.fd]
structure It where
  r : Str
  e : Ev
def itr (i : It) : List D := .str i.r :: evr i.e
structure Pol where
  n : Str
  f : Str
  v : Str
  age : Int
def polr (p : Pol) : List D := [.str p.n, .str p.f, .str p.v, .int .i64 p.age]
structure Hld where
  n : Str
  f : Str
  v : Str
  fr : Int
  to : Int
def hldr (p : Hld) : List D := [.str p.n, .str p.f, .str p.v, .int .i64 p.fr, .int .i64 p.to]
theorem polr_frz (n0 : Nat) (h : Hp) (n : Nat) (p : Pol) : ∀ d ∈ polr p, frz n0 h n d = d := by simp [-Option.bind_some, polr]
theorem polr_ok (n : Nat) (p : Pol) : ∀ d ∈ polr p, Ok n d := by
  intro d hd
  simp [-Option.bind_some, polr] at hd
  rcases hd with rfl | rfl | rfl | rfl <;> constructor
theorem hldr_frz (n0 : Nat) (h : Hp) (n : Nat) (p : Hld) : ∀ d ∈ hldr p, frz n0 h n d = d := by simp [-Option.bind_some, hldr]
theorem hldr_ok (n : Nat) (p : Hld) : ∀ d ∈ hldr p, Ok n d := by
  intro d hd
  simp [-Option.bind_some, hldr] at hd
  rcases hd with rfl | rfl | rfl | rfl | rfl <;> constructor
theorem fld_frz (n0 : Nat) (h : Hp) (n : Nat) (p : Str × Str) : ∀ d ∈ fld p, frz n0 h n d = d := by simp [-Option.bind_some, fld]
theorem fld_ok (n : Nat) (p : Str × Str) : ∀ d ∈ fld p, Ok n d := by
  intro d hd
  simp [-Option.bind_some, fld] at hd
  rcases hd with rfl | rfl <;> constructor
theorem linr_frz (n0 : Nat) (h : Hp) (n : Nat) (p : Lin) : ∀ d ∈ linr p, frz n0 h n d = d := by simp [-Option.bind_some, linr]
theorem linr_ok (n : Nat) (p : Lin) : ∀ d ∈ linr p, Ok n d := by
  intro d hd
  simp [-Option.bind_some, linr] at hd
  rcases hd with rfl | rfl | rfl <;> constructor
theorem evr_frz (n0 : Nat) (h : Hp) (n : Nat) (e : Ev) : ∀ d ∈ evr e, frz n0 h (n + 1) d = d := by
  intro d hd
  simp [-Option.bind_some, evr] at hd
  rcases hd with rfl | rfl | rfl | rfl | rfl | rfl | rfl | rfl | rfl | rfl
  all_goals first | exact slof_frz e.hld (fun a _ => linr_frz _ _ _ a) | exact slof_frz e.hfd (fun a _ => fld_frz _ _ _ a) | simp [-Option.bind_some]
theorem evr_ok (n : Nat) (e : Ev) : ∀ d ∈ evr e, Ok n d := by
  intro d hd
  simp [-Option.bind_some, evr] at hd
  rcases hd with rfl | rfl | rfl | rfl | rfl | rfl | rfl | rfl | rfl | rfl
  all_goals first | exact slof_ok e.hld (fun a _ => linr_ok _ a) | exact slof_ok e.hfd (fun a _ => fld_ok _ a) | constructor
theorem itr_ok (n : Nat) (i : It) : Ok n (.agg (itr i)) := by
  refine .agg _ fun d hd => ?_
  simp [-Option.bind_some, itr, evr] at hd
  rcases hd with rfl | rfl | rfl | rfl | rfl | rfl | rfl | rfl | rfl | rfl | rfl
  all_goals first | exact slof_ok i.e.hld (fun a _ => linr_ok _ a) | exact slof_ok i.e.hfd (fun a _ => fld_ok _ a) | constructor
theorem itr_frz (n0 : Nat) (h : Hp) (n : Nat) (i : It) : ∀ d ∈ itr i, frz n0 h (n + 1) d = d := by
  intro d hd
  rcases List.mem_cons.1 hd with rfl | hd
  · simp [-Option.bind_some]
  · exact evr_frz n0 h n i.e d hd
theorem itr_oks (n : Nat) (i : It) : ∀ d ∈ itr i, Ok n d := by
  intro d hd
  rcases List.mem_cons.1 hd with rfl | hd
  · exact .str _
  · exact evr_ok n i.e d hd
theorem evL (e : Ev) (h : Hp) : dLoad tab h ty31 (.fptr (evr e)) = some (.agg (evr e)) := id rfl
theorem ev5 (e : Ev) : dFieldAddr tab ty31 5 (.fptr (evr e)) = some (.fptr [.int .i64 e.a5, .int .i64 e.a6, .str e.s7, .str e.s8, e.fd]) := id rfl
theorem itF1 (i : It) : dFieldAddr tab ty74 1 (.fptr (itr i)) = some (.fptr (evr i.e)) := id rfl
theorem itF0 (i : It) : dFieldAddr tab ty74 0 (.fptr (itr i)) = some (.fptr (itr i)) := id rfl
theorem itL0 (i : It) (h : Hp) : dLoad tab h ty9 (.fptr (itr i)) = some (.str i.r) := id rfl
theorem ldIt (i : It) (h : Hp) : dLoad tab h ty74 (.fptr (itr i)) = some (.agg (itr i)) := id rfl
theorem boxIt (i : It) : boxN 11 (.agg (itr i)) = some (.fptr (itr i)) := boxN_agg 11 _ rfl
theorem bsIt (i : It) : pLitF tab ty113 1 [0] [.agg (itr i)] = some (.sl 11 true [itr i]) := id rfl
theorem toIt (i : It) (h : Hp) : ((dFieldAddr tab ty74 1 (.fptr (itr i))).bind fun p => (dFieldAddr tab ty31 3 p).bind fun q => dLoad tab h ty3 q) = some (.int .i64 i.e.a3) := by simp [-Option.bind_some, itr, evr]
theorem own_dis {h : Hp} {n e z n' e' z' q : Nat} {rows rows' : List (List D)} {d d' : D} (a : Own h n e z rows d) (b : Own h n' e' z' rows' d') (hne : e ≠ e') (hd : d.inOb q) : ¬ d'.inOb q := by
  rintro ⟨z2, m2, rfl⟩
  obtain ⟨z1, m1, rfl⟩ := hd
  rcases a with ⟨ha, _⟩ | ⟨o1, _, ha, ga⟩
  · cases ha
  rcases b with ⟨hb, _⟩ | ⟨o2, _, hb, gb⟩
  · cases hb
  injection ha with _ ha
  injection hb with _ hb
  subst ha; subst hb
  rw [ga] at gb
  injection gb with gb
  injection gb with gb
  exact hne gb
theorem linr_ld (l : Lin) (h : Hp) : dLoad tab h ty78 (.fptr (linr l)) = some (.agg (linr l)) := id rfl
theorem fld_ld (l : Str × Str) (h : Hp) : dLoad tab h ty109 (.fptr (fld l)) = some (.agg (fld l)) := id rfl
theorem lin_neq (a b : Lin) : dBin tab .neq ty78 (.agg (linr a)) (.agg (linr b)) = some (.bool (decide (a ≠ b))) := by
  obtain ⟨a0, a1, a2⟩ := a
  obtain ⟨b0, b1, b2⟩ := b
  simp [-Option.bind_some, linr]
  by_cases h0 : a0 = b0 <;> by_cases h1 : a1 = b1 <;> by_cases h2 : a2 = b2 <;> simp [-Option.bind_some, h0, h1, h2]
theorem fld_neq (a b : Str × Str) : dBin tab .neq ty109 (.agg (fld a)) (.agg (fld b)) = some (.bool (decide (a ≠ b))) := by
  obtain ⟨a0, a1⟩ := a
  obtain ⟨b0, b1⟩ := b
  simp [-Option.bind_some, fld]
  by_cases h0 : a0 = b0 <;> by_cases h1 : a1 = b1 <;> simp [-Option.bind_some, h0, h1]

theorem s94 (l r : List Lin) (d e : D) (h : Hp) (hd : SlOf 3 linr l d) (he : SlOf 3 linr r e) (hl : l.length ≤ 9223372036854775807) : R fn94 [d, e] h = some (.bool (decide (l = r)), h) := by
  suffices Wp (R fn94 [d, e] h) (fun p => p = (.bool (decide (l = r)), h)) by
    obtain ⟨p, h1, rfl⟩ := this
    exact h1
  rw [e94]
  simp only [F94, bs, Option.bind_assoc, lens28 hd, lens28 he, dBin_neq]
  refine Wp.dif ?_ ?_
  · intro hn
    have hn : l.length ≠ r.length := by have : ¬ (l.length : Int) = r.length := by simpa [-Option.bind_some] using hn
                                        omega
    have hne : l ≠ r := fun hh => hn (by rw [hh])
    simp only [bs, mkRes_one]
    exact .some (by simp [-Option.bind_some, hne])
  · intro hn
    have hn : l.length = r.length := by have : (l.length : Int) = r.length := by simpa [-Option.bind_some] using hn
                                        omega
    refine Wp.loop (fun k ds g => g = h ∧ ∃ a b c, ∃ i : Nat, ds = [a, .int .i64 i, b, c] ∧ k + i = l.length ∧ l.take i = r.take i)
      (fun x => x.2.2 = h ∧ ((x.1 = .ret ∧ nth 0 x.2.1 = .bool false ∧ l ≠ r) ∨ (x.1 = .ext 0 ∧ l = r))) l.length ⟨rfl, _, _, _, 0, rfl, rfl, rfl⟩ ?_ ?_
    · rintro k ds g ⟨rfl, a, b, c, i, rfl, hk, hi⟩
      simp only [F94_L0, nth_zero, nth_succ, bs, Option.bind_assoc, lens28 hd, dBin_lss]
      refine Wp.dif ?_ ?_
      · intro h0
        have h0 : i < l.length := by have : (i : Int) < l.length := by simpa [-Option.bind_some] using h0
                                     omega
        have hg : l[i]? = some l[i] := List.getElem?_eq_getElem h0
        have hg2 : r[i]? = some (r[i]'(by omega)) := List.getElem?_eq_getElem (by omega)
        have hw : IntKind.wrap .i64 ((i : Int) + 1) = ((i + 1 : Nat) : Int) := by
          rw [wrap_i64 (by omega) (by omega)]; omega
        generalize l[i] = x at hg
        generalize r[i]'(by omega) = y at hg2
        simp only [ixs28 hd, ixs28 he, Int.natCast_nonneg, if_true, Int.toNat_natCast, hg, hg2, Option.map_some, bs, linr_ld, lin_neq]
        refine Wp.dif ?_ ?_
        · intro hxy
          have hxy : x ≠ y := by simpa [-Option.bind_some] using hxy
          try simp only [bs]
          refine .some (.inr ⟨by simp [-Option.bind_some], rfl, .inl ⟨rfl, rfl, fun hh => ?_⟩⟩)
          subst hh
          rw [hg] at hg2
          injection hg2 with hg2
          exact hxy hg2
        · intro hxy
          have hxy : x = y := by simpa [-Option.bind_some] using hxy
          subst hxy
          simp only [dBin_add, bs, hw]
          refine .some (.inl ⟨rfl, k - 1, by omega, rfl, _, _, _, i + 1, rfl, by omega, ?_⟩)
          rw [List.take_add_one, List.take_add_one, hi, hg, hg2]
      · intro h0
        have h0 : i = l.length := by have : ¬ (i : Int) < l.length := by simpa [-Option.bind_some] using h0
                                     omega
        refine .some (.inr ⟨by simp [-Option.bind_some], rfl, .inr ⟨rfl, ?_⟩⟩)
        have h1 : l.take i = l := List.take_of_length_le (by omega)
        have h2 : r.take i = r := List.take_of_length_le (by omega)
        rw [← h1, ← h2, hi]
    · rintro ⟨x, ds, g⟩ ⟨rfl, ⟨rfl, hx, hne⟩ | ⟨rfl, hll⟩⟩
      · replace hx : nth 0 ds = .bool false := hx
        simp only [unblk_ret, toEnd_ret, exEnd_ret, nth_zero, bs, hx, mkRes_one]
        exact .some (by simp [-Option.bind_some, hne])
      · simp only [unblk_self, toEnd_nrm, bs, mkRes_one]
        exact .some (by simp [-Option.bind_some, hll])

theorem s95 (l r : List (Str × Str)) (d e : D) (h : Hp) (hd : SlOf 2 fld l d) (he : SlOf 2 fld r e) (hl : l.length ≤ 9223372036854775807) : R fn95 [d, e] h = some (.bool (decide (l = r)), h) := by
  suffices Wp (R fn95 [d, e] h) (fun p => p = (.bool (decide (l = r)), h)) by
    obtain ⟨p, h1, rfl⟩ := this
    exact h1
  rw [e95]
  simp only [F95, bs, Option.bind_assoc, lens29 hd, lens29 he, dBin_neq]
  refine Wp.dif ?_ ?_
  · intro hn
    have hn : l.length ≠ r.length := by have : ¬ (l.length : Int) = r.length := by simpa [-Option.bind_some] using hn
                                        omega
    have hne : l ≠ r := fun hh => hn (by rw [hh])
    simp only [bs, mkRes_one]
    exact .some (by simp [-Option.bind_some, hne])
  · intro hn
    have hn : l.length = r.length := by have : (l.length : Int) = r.length := by simpa [-Option.bind_some] using hn
                                        omega
    refine Wp.loop (fun k ds g => g = h ∧ ∃ a b c, ∃ i : Nat, ds = [a, .int .i64 i, b, c] ∧ k + i = l.length ∧ l.take i = r.take i)
      (fun x => x.2.2 = h ∧ ((x.1 = .ret ∧ nth 0 x.2.1 = .bool false ∧ l ≠ r) ∨ (x.1 = .ext 0 ∧ l = r))) l.length ⟨rfl, _, _, _, 0, rfl, rfl, rfl⟩ ?_ ?_
    · rintro k ds g ⟨rfl, a, b, c, i, rfl, hk, hi⟩
      simp only [F95_L0, nth_zero, nth_succ, bs, Option.bind_assoc, lens29 hd, dBin_lss]
      refine Wp.dif ?_ ?_
      · intro h0
        have h0 : i < l.length := by have : (i : Int) < l.length := by simpa [-Option.bind_some] using h0
                                     omega
        have hg : l[i]? = some l[i] := List.getElem?_eq_getElem h0
        have hg2 : r[i]? = some (r[i]'(by omega)) := List.getElem?_eq_getElem (by omega)
        have hw : IntKind.wrap .i64 ((i : Int) + 1) = ((i + 1 : Nat) : Int) := by
          rw [wrap_i64 (by omega) (by omega)]; omega
        generalize l[i] = x at hg
        generalize r[i]'(by omega) = y at hg2
        simp only [ixs29 hd, ixs29 he, Int.natCast_nonneg, if_true, Int.toNat_natCast, hg, hg2, Option.map_some, bs, fld_ld, fld_neq]
        refine Wp.dif ?_ ?_
        · intro hxy
          have hxy : x ≠ y := by simpa [-Option.bind_some] using hxy
          try simp only [bs]
          refine .some (.inr ⟨by simp [-Option.bind_some], rfl, .inl ⟨rfl, rfl, fun hh => ?_⟩⟩)
          subst hh
          rw [hg] at hg2
          injection hg2 with hg2
          exact hxy hg2
        · intro hxy
          have hxy : x = y := by simpa [-Option.bind_some] using hxy
          subst hxy
          simp only [dBin_add, bs, hw]
          refine .some (.inl ⟨rfl, k - 1, by omega, rfl, _, _, _, i + 1, rfl, by omega, ?_⟩)
          rw [List.take_add_one, List.take_add_one, hi, hg, hg2]
      · intro h0
        have h0 : i = l.length := by have : ¬ (i : Int) < l.length := by simpa [-Option.bind_some] using h0
                                     omega
        refine .some (.inr ⟨by simp [-Option.bind_some], rfl, .inr ⟨rfl, ?_⟩⟩)
        have h1 : l.take i = l := List.take_of_length_le (by omega)
        have h2 : r.take i = r := List.take_of_length_le (by omega)
        rw [← h1, ← h2, hi]
    · rintro ⟨x, ds, g⟩ ⟨rfl, ⟨rfl, hx, hne⟩ | ⟨rfl, hll⟩⟩
      · replace hx : nth 0 ds = .bool false := hx
        simp only [unblk_ret, toEnd_ret, exEnd_ret, nth_zero, bs, hx, mkRes_one]
        exact .some (by simp [-Option.bind_some, hne])
      · simp only [unblk_self, toEnd_nrm, bs, mkRes_one]
        exact .some (by simp [-Option.bind_some, hll])
def sameE (a b : Ev) : Bool := decide (a.a0 = b.a0) && (decide (a.a1 = b.a1) && (decide (a.a2 = b.a2) && (decide (a.a3 = b.a3) && (decide (a.a5 = b.a5) && (decide (a.a6 = b.a6) && (decide (a.s7 = b.s7) && (decide (a.s8 = b.s8) && (decide (a.ls = b.ls) && decide (a.fs = b.fs)))))))))
def sameI (i j : It) : Bool := decide (i.r = j.r) && sameE i.e j.e
theorem sameE_refl (a : Ev) : sameE a a = true := by simp [-Option.bind_some, sameE]
theorem s82 (i j : It) (h : Hp) : R fn82 [.agg (itr i), .agg (itr j)] h = some (.bool (sameI i j), h) := by
  suffices Wp (R fn82 [.agg (itr i), .agg (itr j)] h) (fun p => p = (.bool (sameI i j), h)) by
    obtain ⟨p, h1, rfl⟩ := this
    exact h1
  rw [e82]
  simp only [F82, pBoxF_agg, bs, Option.bind_assoc, itF1, itF0, itL0, evL]
  generalize hg0 : dNew h ty31 10 [[.int .i64 0, .int .i64 0, .int .i64 0, .int .i64 0, .nils, .int .i64 0, .int .i64 0, .str [], .str [], .nils]] = g0
  have hgl : g0.length = h.length + 1 := by simp [-Option.bind_some, ← hg0, dNew]
  have hb : ∀ q, q < h.length → g0[q]? = h[q]? := fun q hq => by simp only [← hg0, dNew]; rw [List.getElem?_append_left hq]
  have p8 : g0[h.length]? = some (.row ty31 10 [[.int .i64 0, .int .i64 0, .int .i64 0, .int .i64 0, .nils, .int .i64 0, .int .i64 0, .str [], .str [], .nils]]) := by simp [-Option.bind_some, ← hg0, dNew]
  clear hg0
  refine wst31 p8 (by rfl) (by rfl) (by simp [-Option.bind_some]) (by rfl) fun g1 q8 s1 => ?_
  replace q8 : g1[h.length]? = some (.row ty31 10 [evr i.e]) := q8
  have hl1 : g1.length = h.length + 1 := by rw [s1.1, hgl]
  try simp only [chk_true]
  rw [hl1]
  generalize hg1 : dNew g1 ty31 10 [[.int .i64 0, .int .i64 0, .int .i64 0, .int .i64 0, .nils, .int .i64 0, .int .i64 0, .str [], .str [], .nils]] = g3
  have hgl3 : h.length ≤ g3.length := by simp [-Option.bind_some, ← hg1, dNew]; omega
  have hb3 : ∀ q, q < h.length + 1 → g3[q]? = g1[q]? := fun q hq => by simp only [← hg1, dNew]; rw [List.getElem?_append_left (by omega)]
  have p9 : g3[h.length + 1]? = some (.row ty31 10 [[.int .i64 0, .int .i64 0, .int .i64 0, .int .i64 0, .nils, .int .i64 0, .int .i64 0, .str [], .str [], .nils]]) := by
    simp only [← hg1, dNew]; rw [← hl1, List.getElem?_append_right (Nat.le_refl _)]; simp [-Option.bind_some]
  replace q8 := (hb3 h.length (by omega)).trans q8
  clear hg1
  refine wst31 p9 (by rfl) (by rfl) (by simp [-Option.bind_some]) (by rfl) fun g2 q9 s2 => ?_
  replace q9 : g2[h.length + 1]? = some (.row ty31 10 [evr j.e]) := q9
  replace q8 := (s2.2 h.length (by omega)).trans q8
  have hb2 : ∀ q, q < h.length → g2[q]? = h[q]? := fun q hq => (((s2.2 q (by omega)).trans (hb3 q (by omega))).trans (s1.2 q (by omega))).trans (hb q hq)
  have hl2 : h.length ≤ g2.length := by have := s2.1; omega
  have r8 : g2.row h.length 0 = some (evr i.e) := row_of q8
  have r9 : g2.row (h.length + 1) 0 = some (evr j.e) := row_of q9
  have hsc : ∀ b : Bool, scope h g2 (.bool b) = some (.bool b, h) := fun b => scope_eq (by simp [-Option.bind_some]) (.bool b) hl2 hb2
  obtain ⟨ri, ei⟩ := i
  obtain ⟨rj, ej⟩ := j
  by_cases h0 : ri = rj
  case neg => exact ⟨_, by simp [-Option.bind_some, h0, hsc, sameI], rfl⟩
  by_cases h1 : ei.a0 = ej.a0
  case neg => exact ⟨_, by simp [-Option.bind_some, h0, h1, hsc, sameI, sameE, r8, r9, evr], rfl⟩
  by_cases h2 : ei.a1 = ej.a1
  case neg => exact ⟨_, by simp [-Option.bind_some, h0, h1, h2, hsc, sameI, sameE, r8, r9, evr], rfl⟩
  by_cases h3 : ei.a2 = ej.a2
  case neg => exact ⟨_, by simp [-Option.bind_some, h0, h1, h2, h3, hsc, sameI, sameE, r8, r9, evr], rfl⟩
  by_cases h4 : ei.a3 = ej.a3
  case neg => exact ⟨_, by simp [-Option.bind_some, h0, h1, h2, h3, h4, hsc, sameI, sameE, r8, r9, evr], rfl⟩
  by_cases h5 : ei.a5 = ej.a5
  case neg => exact ⟨_, by simp [-Option.bind_some, h0, h1, h2, h3, h4, h5, hsc, sameI, sameE, r8, r9, evr], rfl⟩
  by_cases h6 : ei.a6 = ej.a6
  case neg => exact ⟨_, by simp [-Option.bind_some, h0, h1, h2, h3, h4, h5, h6, hsc, sameI, sameE, r8, r9, evr], rfl⟩
  by_cases h7 : ei.s7 = ej.s7
  case neg => exact ⟨_, by simp [-Option.bind_some, h0, h1, h2, h3, h4, h5, h6, h7, hsc, sameI, sameE, r8, r9, evr], rfl⟩
  by_cases h8 : ei.s8 = ej.s8
  case neg => exact ⟨_, by simp [-Option.bind_some, h0, h1, h2, h3, h4, h5, h6, h7, h8, hsc, sameI, sameE, r8, r9, evr], rfl⟩
  have sl := s94 ei.ls ej.ls ei.ld ej.ld g2 ei.hld ej.hld ei.hll
  have sf := s95 ei.fs ej.fs ei.fd ej.fd g2 ei.hfd ej.hfd ei.hl
  by_cases h9 : ei.ls = ej.ls
  case neg => exact ⟨_, by simp [-Option.bind_some, h0, h1, h2, h3, h4, h5, h6, h7, h8, h9, hsc, sameI, sameE, r8, r9, evr, sl], rfl⟩
  by_cases h10 : ei.fs = ej.fs
  case neg => exact ⟨_, by simp [-Option.bind_some, h0, h1, h2, h3, h4, h5, h6, h7, h8, h9, h10, hsc, sameI, sameE, r8, r9, evr, sl, sf], rfl⟩
  exact ⟨_, by simp [-Option.bind_some, h0, h1, h2, h3, h4, h5, h6, h7, h8, h9, h10, hsc, sameI, sameE, r8, r9, evr, sl, sf], rfl⟩
theorem s61 (a b : Ev) (h : Hp) : R fn61 [.agg (evr a), .agg (evr b)] h = some (.bool (sameE a b), h) := by
  rw [e61]
  have h1 : ∀ e : Ev, dBuild tab ty74 [1] [.agg (evr e)] = some (.agg (itr ⟨[], e⟩)) := fun e => id rfl
  simp [-Option.bind_some, F61, evL, h1, s82, sameI]
/-- The value of the first field of a name. -/
def getF (l : List (Str × Str)) (n : Str) : Option Str := (l.find? fun p => p.1 == n).map (·.2)
def getD' (l : List (Str × Str)) (n : Str) : D := .tup [.str ((getF l n).getD []), .bool (getF l n).isSome]
theorem l70 (l : List (Str × Str)) (d : D) (n : Str) (h : Hp) (hd : SlOf 2 fld l d) (hl : l.length ≤ 9223372036854775807) {β : Type} (K : Out → Option β) (X : Str → Option β) (Y : Option β)
   (hX : ∀ v r, K (.ret, .str v :: .bool true :: r, h) = X v) (hY : ∀ r, K (.ext 0, r, h) = Y) : ∀ (suf pre : List (Str × Str)), l = pre ++ suf → ∀ a b c e f,
   (loopW (F70_L0 (.str n) d (.int .i64 l.length)) [a, b, c, .int .i64 pre.length, e, f] h).bind K = match getF suf n with | some v => X v | none => Y := by
  intro suf
  induction suf with
  | nil =>
    rintro pre rfl a b c e f
    rw [loopW_eq]
    simp [-Option.bind_some, F70_L0, hY, getF]
  | cons p suf ih =>
    rintro pre rfl a b c e f
    have hw : IntKind.wrap .i64 ((pre.length : Int) + 1) = (pre ++ [p]).length := by
      rw [wrap_i64 (by omega) (by simp [-Option.bind_some] at hl; omega)]; simp [-Option.bind_some]
    have hlt : (pre.length : Int) < (pre ++ p :: suf).length := by simp [-Option.bind_some]; omega
    rw [loopW_eq]
    generalize hL : pre ++ p :: suf = L at *
    have hg : L[pre.length]? = some p := by rw [← hL]; exact get_mid _ _ _
    by_cases hp : p.1 = n
    · simp [-Option.bind_some, F70_L0, ixs29 hd, hlt, hg, fld, hp, hX, getF]
    · have := ih (pre ++ [p]) (by simp [-Option.bind_some, ← hL]) a b (.fptr (fld p)) (.bool true) (.bool (p.1 == n))
      simp only [← hw] at this
      simp [-Option.bind_some, F70_L0, ixs29 hd, hlt, hg, fld, hp, getF]
      simp [-Option.bind_some, fld, getF] at this
      exact this
theorem s70 (l : List (Str × Str)) (d : D) (n : Str) (h : Hp) (hd : SlOf 2 fld l d) (hl : l.length ≤ 9223372036854775807) : R fn70 [d, .str n] h = some (getD' l n, h) := by
  rw [e70]
  simp only [F70, bs, lens29 hd, Option.bind_assoc]
  rw [show (0 : Int) = (([] : List (Str × Str)).length : Int) from rfl, l70 l d n h hd hl _ (fun v => some (.tup [.str v, .bool true], h)) (some (.tup [.str [], .bool false], h)) (fun v r => by simp [-Option.bind_some]) (fun r => by simp [-Option.bind_some]) l [] rfl]
  unfold getD'
  cases getF l n <;> rfl
theorem l76 (l : List (Str × Str)) (d : D) (n : Str) (h : Hp) (hd : SlOf 2 fld l d) (hl : l.length ≤ 9223372036854775807) {β : Type} (K : Out → Option β) (X : Str → Option β) (Y : Option β)
   (hX : ∀ v r, K (.ret, .str v :: .bool true :: r, h) = X v) (hY : ∀ r, K (.ext 0, r, h) = Y) : ∀ (suf pre : List (Str × Str)), l = pre ++ suf → ∀ a b e f,
   (loopW (F76_L0 d (.str n)) [a, b, .int .i64 pre.length, e, f] h).bind K = match getF suf n with | some v => X v | none => Y := by
  intro suf
  induction suf with
  | nil =>
    rintro pre rfl a b e f
    rw [loopW_eq]
    simp [-Option.bind_some, F76_L0, lens29 hd, hY, getF]
  | cons p suf ih =>
    rintro pre rfl a b e f
    have hw : IntKind.wrap .i64 ((pre.length : Int) + 1) = (pre ++ [p]).length := by
      rw [wrap_i64 (by omega) (by simp [-Option.bind_some] at hl; omega)]; simp [-Option.bind_some]
    have hlt : (pre.length : Int) < (pre ++ p :: suf).length := by simp [-Option.bind_some]; omega
    rw [loopW_eq]
    generalize hL : pre ++ p :: suf = L at *
    have hg : L[pre.length]? = some p := by rw [← hL]; exact get_mid _ _ _
    by_cases hp : p.1 = n
    · simp [-Option.bind_some, F76_L0, lens29 hd, ixs29 hd, hlt, hg, fld, hp, hX, getF]
    · have := ih (pre ++ [p]) (by simp [-Option.bind_some, ← hL]) a b (.bool true) (.bool (p.1 == n))
      simp only [← hw] at this
      simp [-Option.bind_some, F76_L0, lens29 hd, ixs29 hd, hlt, hg, fld, hp, getF]
      simp [-Option.bind_some, fld, getF] at this
      exact this
theorem s76 (l : List (Str × Str)) (d : D) (n : Str) (h : Hp) (hd : SlOf 2 fld l d) (hl : l.length ≤ 9223372036854775807) : R fn76 [d, .str n] h = some (getD' l n, h) := by
  rw [e76]
  simp only [F76, bs, lens29 hd, Option.bind_assoc]
  rw [show (0 : Int) = (([] : List (Str × Str)).length : Int) from rfl, l76 l d n h hd hl _ (fun v => some (.tup [.str v, .bool true], h)) (some (.tup [.str [], .bool false], h)) (fun v r => by simp [-Option.bind_some]) (fun r => by simp [-Option.bind_some]) l [] rfl]
  unfold getD'
  cases getF l n <;> rfl
/-- Does a field of this value apply? -/
def app (f v : Str) (e : Ev) : Bool := f == [] || getF e.fs f == some v
theorem s53 (f v : Str) (e : Ev) (h : Hp) : R fn53 [.str f, .str v, .agg (evr e)] h = some (.bool (app f v e), h) := by
  rw [e53]
  simp [-Option.bind_some, F53, evr, s76 _ _ _ _ e.hfd e.hl, getD', app]
  by_cases h0 : f = []
  · simp [-Option.bind_some, h0]
  · cases hg : getF e.fs f <;> simp [-Option.bind_some, h0]
theorem s75 (n : Str) (e : Ev) (h : Hp) : R fn75 [.agg (evr e), .str n] h = some (getD' e.fs n, h) := by
  rw [e75]
  simp [-Option.bind_some, F75, evr, s70 _ _ _ _ e.hfd e.hl, getD']
def appFn (f v : Str) : D := if f = [] then .fn (.func fn73) [] [] else .fn (.func fn74) [] [.fptr [.str f], .fptr [.str v]]
theorem s52 (f v : Str) (h : Hp) : R fn52 [.str f, .str v] h = some (appFn f v, h) := by
  rw [e52]
  simp [-Option.bind_some, F52, appFn]
  by_cases h0 : f = [] <;> simp [-Option.bind_some, h0]
theorem sApp (f v : Str) (e : Ev) (h : Hp) : callV R (appFn f v) [.agg (evr e)] h = some (.bool (app f v e), h) := by
  unfold appFn app
  by_cases h0 : f = []
  · simp [-Option.bind_some, h0, e73, F73]
  · simp [-Option.bind_some, h0, e74, F74]
    have hld : dLoad tab h ty31 (.fptr (evr e)) = some (.agg (evr e)) := by simp [-Option.bind_some, evr]
    rw [hld]
    simp [-Option.bind_some, s75, getD']
    cases hg : getF e.fs f <;> simp [-Option.bind_some, h0]
/-- The first place, or -1. -/
def idx {α : Type} (pr : α → Bool) : Nat → List α → Int
  | _, [] => -1
  | k, x :: r => if pr x = true then k else idx pr (k + 1) r
theorem l50 (l : List Pol) (d : D) (fn : D) (pr : Pol → Bool) (h : Hp) (hd : SlOf 4 polr l d) (hl : l.length ≤ 9223372036854775807) (hf : ∀ x, callV R fn [.agg (polr x)] h = some (.bool (pr x), h)) {β : Type} (K : Out → Option β) (X : Int → Option β)
   (hX : ∀ v r, K (.ret, .int .i64 v :: r, h) = X v) (hY : ∀ r, K (.ext 0, r, h) = X (-1)) : ∀ (suf pre : List Pol), l = pre ++ suf → ∀ a b e f,
   (loopW (F50_L0 d fn (.int .i64 l.length)) [a, b, .int .i64 pre.length, e, f] h).bind K = X (idx pr pre.length suf) := by
  intro suf
  induction suf with
  | nil =>
    rintro pre rfl a b e f
    rw [loopW_eq]
    simp [-Option.bind_some, F50_L0, lens38 hd, hY, idx]
  | cons p suf ih =>
    rintro pre rfl a b e f
    have hw : IntKind.wrap .i64 ((pre.length : Int) + 1) = (pre ++ [p]).length := by
      rw [wrap_i64 (by omega) (by simp [-Option.bind_some] at hl; omega)]; simp [-Option.bind_some]
    have hlt : (pre.length : Int) < (pre ++ p :: suf).length := by simp [-Option.bind_some]; omega
    rw [loopW_eq]
    generalize hL : pre ++ p :: suf = L at *
    have hg : L[pre.length]? = some p := by rw [← hL]; exact get_mid _ _ _
    have hld : dLoad tab h ty53 (.fptr (polr p)) = some (.agg (polr p)) := by simp [-Option.bind_some, polr]
    by_cases hp : pr p = true
    · simp [-Option.bind_some, F50_L0, ixs38 hd, hlt, hg, hld, hf, hp, hX, idx]
    · have := ih (pre ++ [p]) (by simp [-Option.bind_some, ← hL]) a (.int .i64 pre.length) (.bool true) (.bool (pr p))
      simp only [← hw] at this
      simp [-Option.bind_some, F50_L0, ixs38 hd, hlt, hg, hld, hf, hp, idx]
      simp [-Option.bind_some, hp] at this
      exact this
theorem s50 (l : List Pol) (d : D) (fn : D) (pr : Pol → Bool) (h : Hp) (hd : SlOf 4 polr l d) (hl : l.length ≤ 9223372036854775807) (hf : ∀ x, callV R fn [.agg (polr x)] h = some (.bool (pr x), h)) :
   R fn50 [d, fn] h = some (.int .i64 (idx pr 0 l), h) := by
  rw [e50]
  simp only [F50, bs, lens38 hd, Option.bind_assoc]
  rw [show (0 : Int) = (([] : List Pol).length : Int) from rfl, l50 l d fn pr h hd hl hf _ (fun v => some (.int .i64 v, h)) (fun v r => by simp [-Option.bind_some]) (fun r => by simp [-Option.bind_some]) l [] rfl]
  rfl
def polI (l : List Pol) (e : Ev) : Int := idx (fun p => app p.f p.v e) 0 l
theorem s18 (l : List Pol) (d : D) (e : Ev) (h : Hp) (hd : SlOf 4 polr l d) (hl : l.length ≤ 9223372036854775807) : R fn18 [d, .agg (evr e)] h = some (.int .i64 (polI l e), h) := by
  rw [e18]
  simp only [F18, pBoxF_agg, bs]
  rw [s50 l d _ (fun p => app p.f p.v e) h hd hl (fun x => by
    have hld : dLoad tab h ty31 (.fptr (evr e)) = some (.agg (evr e)) := by simp [-Option.bind_some, evr]
    simp [-Option.bind_some, e51, F51, polr, s52, sApp, hld])]
  rfl
theorem l19 (l : List Pol) (d : D) (e : Ev) (h : Hp) (hd : SlOf 4 polr l d) (hl : l.length ≤ 9223372036854775807) {β : Type} (K : Out → Option β) (X : Int → Option β)
   (hX : ∀ v r, K (.ret, .int .i64 v :: r, h) = X v) (hY : ∀ r, K (.ext 0, r, h) = X (-1)) : ∀ (suf pre : List Pol), l = pre ++ suf → ∀ a b c,
   (loopW (F19_L0 d (.fptr (evr e))) [a, .int .i64 pre.length, b, c] h).bind K = X (idx (fun p => app p.f p.v e) pre.length suf) := by
  intro suf
  have hle : dLoad tab h ty31 (.fptr (evr e)) = some (.agg (evr e)) := by simp [-Option.bind_some, evr]
  induction suf with
  | nil =>
    rintro pre rfl a b c
    rw [loopW_eq]
    simp [-Option.bind_some, F19_L0, lens38 hd, hY, idx]
  | cons p suf ih =>
    rintro pre rfl a b c
    have hw : IntKind.wrap .i64 ((pre.length : Int) + 1) = (pre ++ [p]).length := by
      rw [wrap_i64 (by omega) (by simp [-Option.bind_some] at hl; omega)]; simp [-Option.bind_some]
    have hlt : (pre.length : Int) < (pre ++ p :: suf).length := by simp [-Option.bind_some]; omega
    rw [loopW_eq]
    generalize hL : pre ++ p :: suf = L at *
    have hg : L[pre.length]? = some p := by rw [← hL]; exact get_mid _ _ _
    by_cases hp : app p.f p.v e = true
    · simp [-Option.bind_some, F19_L0, lens38 hd, ixs38 hd, hlt, hg, hle, polr, s53, hp, hX, idx]
    · have := ih (pre ++ [p]) (by simp [-Option.bind_some, ← hL]) a (.bool true) (.bool (app p.f p.v e))
      simp only [← hw] at this
      simp [-Option.bind_some, F19_L0, lens38 hd, ixs38 hd, hlt, hg, hle, polr, s53, hp, idx]
      simp [-Option.bind_some, hp] at this
      exact this
theorem s19 (l : List Pol) (d : D) (e : Ev) (h : Hp) (hd : SlOf 4 polr l d) (hl : l.length ≤ 9223372036854775807) : R fn19 [d, .agg (evr e)] h = some (.int .i64 (polI l e), h) := by
  rw [e19]
  simp only [F19, pBoxF_agg, bs, Option.bind_assoc]
  rw [show D.int .i64 0 = .int .i64 (([] : List Pol).length : Int) from rfl, l19 l d e h hd hl _ (fun v => some (.int .i64 v, h)) (fun v r => by simp [-Option.bind_some]) (fun r => by simp [-Option.bind_some]) l [] rfl]
  rfl
def holds (e : Ev) (p : Hld) : Bool := decide (p.fr ≤ e.a5) && decide (e.a5 < p.to) && app p.f p.v e
theorem l77 (l : List Hld) (d : D) (fn : D) (pr : Hld → Bool) (h : Hp) (hd : SlOf 5 hldr l d) (hl : l.length ≤ 9223372036854775807) (hf : ∀ x, callV R fn [.agg (hldr x)] h = some (.bool (pr x), h)) {β : Type} (K : Out → Option β) (X : Int → Option β)
   (hX : ∀ v r, K (.ret, .int .i64 v :: r, h) = X v) (hY : ∀ r, K (.ext 0, r, h) = X (-1)) : ∀ (suf pre : List Hld), l = pre ++ suf → ∀ a b e f,
   (loopW (F77_L0 d fn (.int .i64 l.length)) [a, b, .int .i64 pre.length, e, f] h).bind K = X (idx pr pre.length suf) := by
  intro suf
  induction suf with
  | nil =>
    rintro pre rfl a b e f
    rw [loopW_eq]
    simp [-Option.bind_some, F77_L0, lens39 hd, hY, idx]
  | cons p suf ih =>
    rintro pre rfl a b e f
    have hw : IntKind.wrap .i64 ((pre.length : Int) + 1) = (pre ++ [p]).length := by
      rw [wrap_i64 (by omega) (by simp [-Option.bind_some] at hl; omega)]; simp [-Option.bind_some]
    have hlt : (pre.length : Int) < (pre ++ p :: suf).length := by simp [-Option.bind_some]; omega
    rw [loopW_eq]
    generalize hL : pre ++ p :: suf = L at *
    have hg : L[pre.length]? = some p := by rw [← hL]; exact get_mid _ _ _
    have hld : dLoad tab h ty56 (.fptr (hldr p)) = some (.agg (hldr p)) := by simp [-Option.bind_some, hldr]
    by_cases hp : pr p = true
    · simp [-Option.bind_some, F77_L0, ixs39 hd, hlt, hg, hld, hf, hp, hX, idx]
    · have := ih (pre ++ [p]) (by simp [-Option.bind_some, ← hL]) a (.int .i64 pre.length) (.bool true) (.bool (pr p))
      simp only [← hw] at this
      simp [-Option.bind_some, F77_L0, ixs39 hd, hlt, hg, hld, hf, hp, idx]
      simp [-Option.bind_some, hp] at this
      exact this
theorem s77 (l : List Hld) (d : D) (fn : D) (pr : Hld → Bool) (h : Hp) (hd : SlOf 5 hldr l d) (hl : l.length ≤ 9223372036854775807) (hf : ∀ x, callV R fn [.agg (hldr x)] h = some (.bool (pr x), h)) :
   R fn77 [d, fn] h = some (.int .i64 (idx pr 0 l), h) := by
  rw [e77]
  simp only [F77, bs, lens39 hd, Option.bind_assoc]
  rw [show (0 : Int) = (([] : List Hld).length : Int) from rfl, l77 l d fn pr h hd hl hf _ (fun v => some (.int .i64 v, h)) (fun v r => by simp [-Option.bind_some]) (fun r => by simp [-Option.bind_some]) l [] rfl]
  rfl
theorem idx_any {α : Type} (pr : α → Bool) : ∀ (l : List α) (k : Nat), decide (0 ≤ idx pr k l) = l.any pr
  | [], k => by simp [-Option.bind_some, idx]
  | x :: r, k => by
    unfold idx
    by_cases h : pr x = true
    · simp [-Option.bind_some, h]
    · simp [-Option.bind_some, h, idx_any pr r]
theorem sHold (p : Hld) (e : Ev) (h : Hp) : R fn55 [.agg (hldr p), .fptr (evr e)] h = some (.bool (holds e p), h) := by
  rw [e55]
  by_cases h1 : p.fr ≤ e.a5
  · by_cases h2 : e.a5 < p.to
    · simp [-Option.bind_some, F55, hldr, evL, ev5, s52, sApp, holds, h1, h2]
    · simp [-Option.bind_some, F55, hldr, evL, ev5, s52, sApp, holds, h1, h2]
  · simp [-Option.bind_some, F55, hldr, evL, ev5, s52, sApp, holds, h1]
def held (l : List Hld) (e : Ev) : Bool := l.any (holds e)
theorem s20 (l : List Hld) (d : D) (e : Ev) (h : Hp) (hd : SlOf 5 hldr l d) (hl : l.length ≤ 9223372036854775807) : R fn20 [d, .agg (evr e)] h = some (.bool (held l e), h) := by
  rw [e20]
  simp only [F20, pBoxF_agg, bs]
  rw [e54]
  simp only [F54, bs]
  rw [s77 l d _ (holds e) h hd hl (fun x => by simp [-Option.bind_some, sHold])]
  simp [-Option.bind_some, held, idx_any]
theorem l21 (l : List Hld) (d : D) (e : Ev) (h : Hp) (hd : SlOf 5 hldr l d) (hl : l.length ≤ 9223372036854775807) {β : Type} (K : Out → Option β) (X : Bool → Option β)
   (hX : ∀ r, K (.ret, .bool true :: r, h) = X true) (hY : ∀ r, K (.ext 0, r, h) = X false) : ∀ (suf pre : List Hld), l = pre ++ suf → ∀ a b c,
   (loopW (F21_L0 d (.fptr (evr e))) [a, .int .i64 pre.length, b, c] h).bind K = X (suf.any (holds e)) := by
  intro suf
  induction suf with
  | nil =>
    rintro pre rfl a b c
    rw [loopW_eq]
    simp [-Option.bind_some, F21_L0, lens39 hd, hY]
  | cons p suf ih =>
    rintro pre rfl a b c
    have hw : IntKind.wrap .i64 ((pre.length : Int) + 1) = (pre ++ [p]).length := by
      rw [wrap_i64 (by omega) (by simp [-Option.bind_some] at hl; omega)]; simp [-Option.bind_some]
    have hlt : (pre.length : Int) < (pre ++ p :: suf).length := by simp [-Option.bind_some]; omega
    rw [loopW_eq]
    generalize hL : pre ++ p :: suf = L at *
    have hg : L[pre.length]? = some p := by rw [← hL]; exact get_mid _ _ _
    have step : ∀ q, q = holds e p → F21_L0 d (.fptr (evr e)) [a, .int .i64 pre.length, b, c] h = if q = true then some (.ret, [.bool true, .int .i64 pre.length, .bool true, .bool q], h) else some (.nrm, [a, .int .i64 ((pre ++ [p]).length : Int), .bool true, .bool q], h) := by
      rintro q rfl
      rw [← hw]
      by_cases ha : app p.f p.v e = true <;> by_cases h1 : p.fr ≤ e.a5 <;> by_cases h2 : e.a5 < p.to <;>
        simp [-Option.bind_some, F21_L0, lens39 hd, ixs39 hd, hlt, hg, evL, ev5, hldr, s53, holds, ha, h1, h2]
    rw [step _ rfl]
    by_cases hp : holds e p = true
    · simp [-Option.bind_some, hp, hX]
    · have := ih (pre ++ [p]) (by simp [-Option.bind_some, ← hL]) a (.bool true) (.bool (holds e p))
      simp only [hp, Bool.false_eq_true, if_false, bs, List.any_cons, Bool.false_or] at this ⊢
      simpa [-Option.bind_some, hp] using this
theorem s21 (l : List Hld) (d : D) (e : Ev) (h : Hp) (hd : SlOf 5 hldr l d) (hl : l.length ≤ 9223372036854775807) : R fn21 [d, .agg (evr e)] h = some (.bool (held l e), h) := by
  rw [e21]
  simp only [F21, pBoxF_agg, bs, Option.bind_assoc]
  rw [show D.int .i64 0 = .int .i64 (([] : List Hld).length : Int) from rfl, l21 l d e h hd hl _ (fun v => some (.bool v, h)) (fun r => by simp [-Option.bind_some]) (fun r => by simp [-Option.bind_some]) l [] rfl]
  rfl
theorem s49 (n : Int) (h : Hp) : R fn49 [.int .i64 n] h = some (.bool (decide (0 ≤ n ∧ n ≤ 253402300799999)), h) := by
  rw [e49]; simp [-Option.bind_some, F49]
  by_cases h0 : 0 ≤ n <;> simp [-Option.bind_some, h0]
theorem idx_get {α : Type} (pr : α → Bool) : ∀ (l : List α) (k : Nat), idx pr k l = -1 ∨ ∃ j, j < l.length ∧ idx pr k l = ((k + j : Nat) : Int)
  | [], k => .inl rfl
  | x :: r, k => by
    unfold idx
    by_cases h : pr x = true
    · right; exact ⟨0, by simp [-Option.bind_some], by simp [-Option.bind_some, h]⟩
    · rcases idx_get pr r (k + 1) with h1 | ⟨j, h1, h2⟩
      · left; simp [-Option.bind_some, h, h1]
      · right; exact ⟨j + 1, by simp [-Option.bind_some]; omega, by simp [-Option.bind_some, h, h2]; omega⟩
/-- What expires. -/
def expi (ps : List Pol) (hs : List Hld) (now : Int) (e : Ev) : Option Str := match ps[(polI ps e).toNat]? with
  | some p => if 0 ≤ polI ps e ∧ 0 ≤ now ∧ now ≤ 253402300799999 ∧ ¬ (IntKind.wrap .i64 (now - p.age) ≤ e.a5) ∧ held hs e = false then some p.n else none
  | none => none
def expD (o : Option Str) : D := .tup [.str (o.getD []), .bool o.isSome]
theorem s16 (ps : List Pol) (dp : D) (hs : List Hld) (dh : D) (now : Int) (e : Ev) (h : Hp) (hdp : SlOf 4 polr ps dp) (hlp : ps.length ≤ 9223372036854775807) (hdh : SlOf 5 hldr hs dh) (hlh : hs.length ≤ 9223372036854775807) :
    R fn16 [dp, dh, .int .i64 now, .agg (evr e)] h = some (expD (expi ps hs now e), h) := by
  rw [e16]
  rcases idx_get (fun p => app p.f p.v e) ps 0 with hi | ⟨j, hj, hi⟩
  · replace hi : polI ps e = -1 := hi
    simp [-Option.bind_some, F16, evL, s18 ps dp e h hdp hlp, hi, expi, expD]
    cases ps[0]? <;> simp [-Option.bind_some]
  · replace hi : polI ps e = ((j : Nat) : Int) := by rw [show polI ps e = _ from hi]; simp [-Option.bind_some]
    have hg : ps[j]? = some ps[j] := List.getElem?_eq_getElem hj
    generalize ps[j] = p at hg
    have hn : ¬ ((j : Int) < 0) := by omega
    by_cases h0 : 0 ≤ now <;> by_cases h1 : now ≤ 253402300799999 <;> by_cases h2 : IntKind.wrap .i64 (now - p.age) ≤ e.a5 <;> cases h3 : held hs e <;>
      simp [-Option.bind_some, F16, evL, ev5, s18 ps dp e h hdp hlp, s49, s20 hs dh e h hdh hlh, ixs38 hdp, hi, hg, polr, expi, expD, h0, h1, h2, h3, hn]
theorem s17 (ps : List Pol) (dp : D) (hs : List Hld) (dh : D) (now : Int) (e : Ev) (h : Hp) (hdp : SlOf 4 polr ps dp) (hlp : ps.length ≤ 9223372036854775807) (hdh : SlOf 5 hldr hs dh) (hlh : hs.length ≤ 9223372036854775807) :
    R fn17 [dp, dh, .int .i64 now, .agg (evr e)] h = some (expD (expi ps hs now e), h) := by
  rw [e17]
  rcases idx_get (fun p => app p.f p.v e) ps 0 with hi | ⟨j, hj, hi⟩
  · replace hi : polI ps e = -1 := hi
    by_cases h0 : now < 0 <;> by_cases h1 : 253402300799999 < now <;>
      simp [-Option.bind_some, F17, evL, s19 ps dp e h hdp hlp, hi, expi, expD, h0, h1] <;> cases ps[0]? <;> simp [-Option.bind_some]
  · replace hi : polI ps e = ((j : Nat) : Int) := by rw [show polI ps e = _ from hi]; simp [-Option.bind_some]
    have hg : ps[j]? = some ps[j] := List.getElem?_eq_getElem hj
    generalize ps[j] = p at hg
    have hn : ¬ ((j : Int) < 0) := by omega
    by_cases h0 : now < 0
    · have h0' : ¬ 0 ≤ now := by omega
      simp [-Option.bind_some, F17, evL, ev5, s19 ps dp e h hdp hlp, s21 hs dh e h hdh hlh, ixs38 hdp, hi, hg, polr, expi, expD, h0, h0', hn]
    · have h0' : 0 ≤ now := by omega
      by_cases h1 : now ≤ 253402300799999
      · have h1' : ¬ 253402300799999 < now := by omega
        by_cases h2 : IntKind.wrap .i64 (now - p.age) ≤ e.a5 <;> cases h3 : held hs e <;>
          simp [-Option.bind_some, F17, evL, ev5, s19 ps dp e h hdp hlp, s21 hs dh e h hdh hlh, ixs38 hdp, hi, hg, polr, expi, expD, h0, h0', h1, h1', h2, h3, hn]
      · have h1' : 253402300799999 < now := by omega
        simp [-Option.bind_some, F17, evL, ev5, s19 ps dp e h hdp hlp, s21 hs dh e h hdh hlh, ixs38 hdp, hi, hg, polr, expi, expD, h0, h0', h1, h1', hn]
def badP (p : Pol) : Bool := ! decide (0 ≤ p.age ∧ p.age ≤ 253402300799999)
theorem given_len {zs : List Int} {d : D} (hd : Given .u8 zs d) : dLenT tab ty22 d = some (.int .i64 zs.length) := by
  rcases hd with ⟨rfl, rfl⟩ | rfl
  · rfl
  · simp [-Option.bind_some, ints]
theorem s57 (o pos : Nat) (zs : List Int) (d : D) (h : Hp) (ho : h[o]? = some (.row ty101 2 [[d, .int .i64 pos]])) (hd : Given .u8 zs d) : R fn57 [.ptr o 0 0] h = some (.bool (decide (pos < zs.length)), h) := by
  rw [e57]
  simp [-Option.bind_some, F57, Hp.row, ho, given_len hd]
theorem given_ix {zs : List Int} {d : D} (hd : Given .u8 zs d) (i : Nat) (z : Int) (hz : zs[i]? = some z) : dIndexAddr tab ty22 d (.int .i64 i) = some (.fptr [.int .u8 z]) := by
  rcases hd with ⟨rfl, rfl⟩ | rfl
  · cases hz
  · simp [-Option.bind_some, ints, hz]
theorem store_ptr3 (h : Hp) (o k f : Nat) (v : D) : dStore tab h ty3 (.ptr o k f) v = pSt 1 h (.ptr o k f) v := rfl
theorem s24 (o pos : Nat) (zs : List Int) (d : D) (n z : Int) (h : Hp) (ho : h[o]? = some (.row ty101 2 [[d, .int .i64 pos]])) (hd : Given .u8 zs d) (hn : 1 ≤ n) (hn2 : n ≤ 1000000000) (hz : zs[pos]? = some z) (hz0 : 0 ≤ z) (hz1 : z < 256) (hl : zs.length ≤ 400) :
    R fn24 [.ptr o 0 0, .int .i64 n] h = some (.int .i64 (z * n / 256), h.set o (.row ty101 2 [[d, .int .i64 ((pos + 1 : Nat) : Int)]])) := by
  have hp : pos < zs.length := (List.getElem?_eq_some_iff.1 hz).1
  have hn' : ¬ n < 1 := by omega
  have hw : IntKind.wrap .i64 ((pos : Int) + 1) = (pos : Int) + 1 := wrap_i64 (by omega) (by omega)
  have hzw : IntKind.wrap .i64 z = z := wrap_i64 (by omega) (by omega)
  rw [e24]
  simp [-Option.bind_some, F24, s57 o pos zs d h ho hd, hp, hn', Hp.row, ho, given_ix hd pos z hz, hw, hzw, store_ptr3, pSt, D.okv, cells1, D.one, spl]
  have h0 : 0 ≤ z * n := Int.mul_nonneg hz0 (by omega)
  have h1 : z * n ≤ 255 * 1000000000 := Int.mul_le_mul (by omega) hn2 (by omega) (by omega)
  have e1 : IntKind.wrap .i64 (z * n) = z * n := wrap_i64 (by omega) (by omega)
  rw [e1, Int.tdiv_eq_ediv_of_nonneg h0, wrap_i64 (by omega) (by omega)]
/-- An object holds codes; these are left. -/
def CO (h : Hp) (o : Nat) (rest : List Int) : Prop := ∃ (d : D) (zs : List Int) (pos : Nat), h[o]? = some (.row ty101 2 [[d, .int .i64 pos]]) ∧ Given .u8 zs d ∧ zs.length ≤ 400 ∧ rest = zs.drop pos ∧ ∀ z ∈ zs, 0 ≤ z ∧ z < 256
def nx (n : Int) : List Int → Int × List Int
  | [] => (0, [])
  | z :: r => if n < 1 then (0, z :: r) else (z * n / 256, r)
theorem left_ok {h : Hp} {o : Nat} {rest : List Int} (hc : CO h o rest) : R fn57 [.ptr o 0 0] h = some (.bool (decide (rest ≠ [])), h) := by
  obtain ⟨d, zs, pos, ho, hd, hl, rfl, hz⟩ := hc
  rw [s57 o pos zs d h ho hd]
  have : (pos < zs.length) ↔ zs.drop pos ≠ [] := by
    rw [ne_eq, List.drop_eq_nil_iff]; omega
  congr 3
  exact decide_eq_decide.2 this
theorem next_ok {h : Hp} {o : Nat} {rest : List Int} (hc : CO h o rest) (n : Int) (hn2 : n ≤ 1000000000) : ∃ h', R fn24 [.ptr o 0 0, .int .i64 n] h = some (.int .i64 (nx n rest).1, h') ∧ CO h' o (nx n rest).2 ∧ Same o h h' := by
  have hl := left_ok hc
  cases hr : rest with
  | nil =>
    subst hr
    refine ⟨h, ?_, hc, .refl _ _⟩
    rw [e24]
    simp [-Option.bind_some, F24, hl, nx]
  | cons z r =>
    by_cases hn : n < 1
    · refine ⟨h, ?_, by simpa [-Option.bind_some, nx, hn, hr] using hc, .refl _ _⟩
      rw [e24]
      simp [-Option.bind_some, F24, hl, nx, hn, hr]
    · obtain ⟨d, zs, pos, ho, hd, hl4, hrest, hz⟩ := hc
      have hzp : zs[pos]? = some z := by
        have : (zs.drop pos)[0]? = some z := by rw [← hrest, hr]; rfl
        simpa [-Option.bind_some] using this
      have hm := hz z (List.mem_of_getElem? hzp)
      have holt : o < h.length := (List.getElem?_eq_some_iff.1 ho).1
      refine ⟨_, (s24 o pos zs d n z h ho hd (by omega) hn2 hzp hm.1 hm.2 hl4).trans (by rw [show (nx n (z :: r)).1 = z * n / 256 by simp [-Option.bind_some, nx, hn]]), ?_, ?_⟩
      · refine ⟨d, zs, pos + 1, by simp [-Option.bind_some, holt], hd, hl4, ?_, hz⟩
        have : (zs.drop pos).drop 1 = r := by rw [← hrest, hr]; rfl
        simpa [-Option.bind_some, nx, hn] using this.symm
      · exact ⟨by simp [-Option.bind_some], fun q hq => by rw [List.getElem?_set_ne (by omega)]⟩
theorem nx_bound (n : Int) (rest : List Int) (h : ∀ z ∈ rest, 0 ≤ z ∧ z < 256) : 0 ≤ (nx n rest).1 ∧ (1 ≤ n → (nx n rest).1 < n) := by
  cases rest with
  | nil => simp [-Option.bind_some, nx]; omega
  | cons z r =>
    have := h z (by simp [-Option.bind_some])
    unfold nx
    by_cases hn : n < 1
    · simp [-Option.bind_some, hn]; omega
    · simp only [hn, if_false]
      have h0 : 0 ≤ z * n := Int.mul_nonneg this.1 (by omega)
      have h1 : z * n ≤ 255 * n := Int.mul_le_mul_of_nonneg_right (by omega) (by omega)
      constructor
      · omega
      · intro _; omega
/-- An object holds codes. -/
def CD (h : Hp) (o : Nat) : Prop := ∃ rest, CO h o rest
theorem CD.keep {h h' : Hp} {o : Nat} (hc : CD h o) (he : h'[o]? = h[o]?) : CD h' o := by
  obtain ⟨rest, d, zs, pos, ho, hr⟩ := hc
  exact ⟨rest, d, zs, pos, by rw [he]; exact ho, hr⟩
theorem CD.lt {h : Hp} {o : Nat} (hc : CD h o) : o < h.length := by
  obtain ⟨rest, d, zs, pos, ho, hr⟩ := hc
  exact (List.getElem?_eq_some_iff.1 ho).1
theorem CD.ok {h : Hp} {o : Nat} (hc : CD h o) (n : Nat) : ∀ T sz rows, h[o]? = some (.row T sz rows) → ∀ row ∈ rows, ∀ d ∈ row, Ok n d := by
  obtain ⟨rest, d, zs, pos, ho, hd, _⟩ := hc
  intro T sz rows hr row hrow x hx
  rw [ho] at hr
  injection hr with hr
  injection hr with _ _ hr
  subst hr
  simp [-Option.bind_some] at hrow
  subst hrow
  simp [-Option.bind_some] at hx
  rcases hx with rfl | rfl
  · exact given_okd hd n
  · exact .int _ _
theorem next_b {h : Hp} {o : Nat} (hc : CD h o) (n : Int) (hn : 1 ≤ n) (hn2 : n ≤ 1000000000) : ∃ v h', R fn24 [.ptr o 0 0, .int .i64 n] h = some (.int .i64 v, h') ∧ CD h' o ∧ Same o h h' ∧ 0 ≤ v ∧ v < n := by
  obtain ⟨rest, hc⟩ := hc
  obtain ⟨h', h1, h2, h3⟩ := next_ok hc n hn2
  have hb : ∀ z ∈ rest, 0 ≤ z ∧ z < 256 := by
    obtain ⟨d, zs, pos, ho, hd, hl, rfl, hz⟩ := hc
    exact fun z hz' => hz z (List.mem_of_mem_drop hz')
  exact ⟨_, h', h1, ⟨_, h2⟩, h3, (nx_bound n rest hb).1, (nx_bound n rest hb).2 hn⟩
theorem d102 {h : Hp} {o : Nat} (hc : CD h o) : ∃ s h', R fn102 [.ptr o 0 0] h = some (.str s, h') ∧ CD h' o ∧ Same o h h' ∧ s.length ≤ 7 := by
  obtain ⟨v, h', h1, h2, h3, h4, h5⟩ := next_b hc 14 (by omega) (by omega)
  obtain ⟨s, hs, hg⟩ := pick_of lt98_10 v h4 h5
  refine ⟨s, h', ?_, h2, h3, ?_⟩
  · rw [e102]; simp [-Option.bind_some, F102, h1, h4, hg]
  · exact (show ∀ s ∈ lt98_10, s.length ≤ 7 by decide) s hs
theorem d33 {h : Hp} {o : Nat} (hc : CD h o) : ∃ s h', R fn33 [.ptr o 0 0] h = some (.str s, h') ∧ CD h' o ∧ Same o h h' ∧ s.length ≤ 19 := by
  obtain ⟨v, h', h1, h2, h3, h4, h5⟩ := next_b hc 11 (by omega) (by omega)
  obtain ⟨s, hs, hg⟩ := pick_of lt98_1 v h4 h5
  refine ⟨s, h', ?_, h2, h3, ?_⟩
  · rw [e33]; simp [-Option.bind_some, F33, h1, h4, hg]
  · exact (show ∀ s ∈ lt98_1, s.length ≤ 19 by decide) s hs
theorem d97 {h : Hp} {o : Nat} (hc : CD h o) : ∃ n h', R fn97 [.ptr o 0 0] h = some (.int .i64 n, h') ∧ CD h' o ∧ Same o h h' ∧ 1 ≤ n ∧ n ≤ 5040 ∧ Int.tmod 5040 n = 0 := by
  obtain ⟨v, h', h1, h2, h3, h4, h5⟩ := next_b hc 6 (by omega) (by omega)
  obtain ⟨s, hs, hg⟩ := pick_of lt82_8 v h4 h5
  refine ⟨s, h', ?_, h2, h3, ?_⟩
  · rw [e97]; simp [-Option.bind_some, F97, h1, h4, hg]
  · exact (show ∀ s ∈ lt82_8, 1 ≤ s ∧ s ≤ 5040 ∧ Int.tmod 5040 s = 0 by decide) s hs
theorem d35 {h : Hp} {o : Nat} (hc : CD h o) : ∃ n h', R fn35 [.ptr o 0 0] h = some (.int .i64 n, h') ∧ CD h' o ∧ Same o h h' ∧ 0 ≤ n ∧ n ≤ 253402300799999 := by
  obtain ⟨v, h', h1, h2, h3, h4, h5⟩ := next_b hc 4 (by omega) (by omega)
  rw [e35]
  by_cases v0 : v = 0
  · obtain ⟨u, g', g1, g2, g3, g4, g5⟩ := next_b h2 40 (by omega) (by omega)
    refine ⟨u * 86400000, g', ?_, g2, h3.trans g3, by omega, by omega⟩
    simp [-Option.bind_some, F35, h1, v0, g1, wrap_i64 (n := u * 86400000) (by omega) (by omega)]
  · by_cases v1 : v = 1
    · obtain ⟨u, g', g1, g2, g3, g4, g5⟩ := next_b h2 3 (by omega) (by omega)
      refine ⟨253402300799999 - u * 86400000, g', ?_, g2, h3.trans g3, by omega, by omega⟩
      simp [-Option.bind_some, F35, h1, v0, v1, g1, wrap_i64 (n := u * 86400000) (by omega) (by omega), wrap_i64 (n := 253402300799999 - u * 86400000) (by omega) (by omega)]
    · obtain ⟨u, g', g1, g2, g3, g4, g5⟩ := next_b h2 60 (by omega) (by omega)
      refine ⟨1000 + u, g', ?_, g2, h3.trans g3, by omega, by omega⟩
      simp [-Option.bind_some, F35, h1, v0, v1, g1, wrap_i64 (n := 1000 + u) (by omega) (by omega)]
/-- What a function that draws has done so far. -/
structure St (h0 : Hp) (o : Nat) (g : Hp) : Prop where
  lt : o < h0.length
  cd : CD g o
  gr : Grow h0.length o h0 g
theorem St.refl {h : Hp} {o : Nat} (hc : CD h o) : St h o h := ⟨hc.lt, hc, .refl _ _ _⟩
theorem St.next {h0 g g' : Hp} {o : Nat} (s : St h0 o g) (hc : CD g' o) (hs : Same o g g') : St h0 o g' := ⟨s.lt, hc, s.gr.trans hs.grow⟩
theorem St.app {h0 g g' : Hp} {o : Nat} (s : St h0 o g) (hl : g.length ≤ g'.length) (hb : ∀ q, q < h0.length → g'[q]? = g[q]?) : St h0 o g' := ⟨s.lt, s.cd.keep (hb o s.lt), s.gr.trans ⟨hl, fun q hq _ => hb q hq⟩⟩
theorem St.le {h0 g : Hp} {o : Nat} (s : St h0 o g) : h0.length ≤ g.length := s.gr.1
theorem St.scope {h0 g : Hp} {o : Nat} (s : St h0 o g) {d d' : D} (hd : frz h0.length g 4 d = d') (hok : Ok h0.length d') : ∃ h', scope h0 g d = some (d', h') ∧ CD h' o ∧ Same o h0 h' := by
  obtain ⟨h1, h2, h3⟩ := scope_same hd hok s.gr (s.cd.ok h0.length)
  exact ⟨_, h1, s.cd.keep (h3 o s.lt), h2⟩
theorem d44 (zs : List Int) (d : D) (n : Int) (h : Hp) (hd : Given .u8 zs d) (hn : 0 ≤ n) (hn2 : n ≤ 400) (hz : ∀ z ∈ zs, 0 ≤ z ∧ z < 256) : ∃ h', R fn44 [d, .int .i64 n] h = some (.ptr h.length 0 0, h') ∧ CD h' h.length ∧ h'.length = h.length + 1 := by
  rw [e44]
  have hm : ∃ m : Int, dMin (.int .i64 zs.length) (.int .i64 n) = some (.int .i64 m) ∧ 0 ≤ m ∧ m ≤ zs.length ∧ m ≤ 400 := by
    rw [dMin_int]
    split
    · exact ⟨_, rfl, by omega, by omega, by omega⟩
    · exact ⟨_, rfl, by omega, by omega, by omega⟩
  obtain ⟨m, hm, h0, h1, h2⟩ := hm
  obtain ⟨d', hs, hg⟩ := given_hi (T := tab) (t := ty22) (i := ti22) (j := ti5) (id rfl) (id rfl) (id rfl) (id rfl) hd (k2 := .i64) h0 h1
  simp only [F44, bs, given_len hd, hm, hs, bd101_0 d' (given_one hg)]
  rw [wBox_agg ty101 2 h [d', .int .i64 0] rfl (by omega)]
  refine ⟨_, rfl, ⟨_, d', zs.take m.toNat, 0, by simp [-Option.bind_some, dNew], hg, ?_, rfl, fun z hz' => hz z (List.mem_of_mem_take hz')⟩, by simp [-Option.bind_some, dNew]⟩
  simp [-Option.bind_some]; omega
theorem d47 {h : Hp} {o : Nat} (hc : CD h o) : ∃ n h', R fn47 [.ptr o 0 0] h = some (.int .i64 n, h') ∧ CD h' o ∧ Same o h h' ∧ -9223372036854775808 ≤ n ∧ n ≤ 9223372036854775807 := by
  obtain ⟨v, h', h1, h2, h3, h4, h5⟩ := next_b hc 16 (by omega) (by omega)
  rw [e47]
  by_cases v0 : v = 15
  · obtain ⟨u, g', g1, g2, g3, g4, g5⟩ := next_b h2 6 (by omega) (by omega)
    obtain ⟨s, hs, hg⟩ := pick_of lt82_3 u g4 g5
    have := (show ∀ s ∈ lt82_3, -9223372036854775808 ≤ s ∧ s ≤ 9223372036854775807 by decide) s hs
    refine ⟨s, g', ?_, g2, h3.trans g3, this.1, this.2⟩
    simp [-Option.bind_some, F47, h1, v0, g1, g4, hg]
  · obtain ⟨u, g', g1, g2, g3, g4, g5⟩ := next_b h2 256 (by omega) (by omega)
    obtain ⟨w, k', k1, k2, k3, k4, k5⟩ := next_b g2 6 (by omega) (by omega)
    have hq : ¬ w < 0 := by omega
    generalize hp : (2 ^ (min w.toNat IntKind.i64.bits) : Int) = p
    have hpp : 0 < p := by rw [← hp]; exact Int.pow_pos (by omega)
    have hf : 0 ≤ u.fdiv p ∧ u.fdiv p ≤ u := by
      rw [Int.fdiv_eq_ediv_of_nonneg _ (by omega)]
      exact ⟨Int.ediv_nonneg g4 (by omega), Int.ediv_le_self _ g4⟩
    have ht : 0 ≤ v.tdiv 8 ∧ v.tdiv 8 ≤ 1 := by
      rw [Int.tdiv_eq_ediv_of_nonneg h4]; omega
    refine ⟨u.fdiv p - v.tdiv 8, k', ?_, k2, (h3.trans g3).trans k3, by omega, by omega⟩
    simp [-Option.bind_some, F47, h1, v0, g1, k1, hq, hp, wrap_i64 (n := v.tdiv 8) (by omega) (by omega), wrap_i64 (n := u.fdiv p - v.tdiv 8) (by omega) (by omega)]
theorem d46 {h : Hp} {o : Nat} (hc : CD h o) : ∃ x h', R fn46 [.ptr o 0 0] h = some (x, h') ∧ CD h' o ∧ Same o h h' ∧ ∃ l : List Hld, SlOf 5 hldr l x ∧ l.length ≤ 2 := by
  suffices Wp (R fn46 [.ptr o 0 0] h) (fun p => CD p.2 o ∧ Same o h p.2 ∧ ∃ l : List Hld, SlOf 5 hldr l p.1 ∧ l.length ≤ 2) by
    obtain ⟨⟨x, h'⟩, h1, h2⟩ := this
    exact ⟨x, h', h1, h2⟩
  rw [e46]
  simp only [F46, bs]
  obtain ⟨v, h1, e1, c1, s1, b0, b1⟩ := next_b hc 3 (by omega) (by omega)
  have S1 := (St.refl hc).next c1 s1
  refine Wp.step e1 ?_
  simp only [dBin_eql, bs]
  refine Wp.join (P := fun r => ∃ x g, ∃ l : List Hld, r = (.nrm, [x], g) ∧ St h o g ∧ Own g h.length ty56 5 (l.map hldr) x ∧ l.length ≤ 1) ?_ ?_ ?_
  · intro _
    obtain ⟨v, h2, e2, c2, s2, _⟩ := d33 S1.cd
    have S2 := S1.next c2 s2
    refine Wp.step e2 ?_
    simp only [bs, bd56_0_1_2_3_4, bs39_1]
    refine wap39 S2.le (Own.nils h2 h.length ty56 5) (rowsOf_sl _ _ _ _) (by simp [-Option.bind_some]) fun x' g' ow len bel _ _ => ?_
    simp only [bs]
    exact .some ⟨x', g', [⟨_, _, _, _, _⟩], rfl, S2.app len bel, ow, by simp [-Option.bind_some]⟩
  · intro _
    exact .some ⟨_, _, [], rfl, S1, Own.nils _ _ _ _, by simp [-Option.bind_some]⟩
  rintro _ ⟨x, g, l, rfl, S, ow, hl⟩
  simp only [toEnd_nrm, nth_zero]
  obtain ⟨v, h1, e1, c1, s1, b0, b1⟩ := next_b S.cd 3 (by omega) (by omega)
  have S1 := S.next c1 s1
  replace ow := ow.same s1 hc.lt
  refine Wp.step e1 ?_
  simp only [dBin_eql, bs]
  refine Wp.join (P := fun r => ∃ x y g, ∃ l : List Hld, r = (.nrm, [x, y], g) ∧ St h o g ∧ Own g h.length ty56 5 (l.map hldr) x ∧ l.length ≤ 2) ?_ ?_ ?_
  · intro _
    obtain ⟨v, h2, e2, c2, s2, b0, b1⟩ := next_b S1.cd 30 (by omega) (by omega)
    have S2 := S1.next c2 s2
    replace ow := ow.same s2 hc.lt
    refine Wp.step e2 ?_
    simp only [dBin_mul, bs]
    obtain ⟨v, h3, e3, c3, s3, b0, b1⟩ := next_b S2.cd 10 (by omega) (by omega)
    have S3 := S2.next c3 s3
    replace ow := ow.same s3 hc.lt
    refine Wp.step e3 ?_
    simp only [dBin_mul, dBin_add, bs, bd56_0_3_4, bs39_1]
    refine wap39 S3.le ow (rowsOf_sl _ _ _ _) (by simp [-Option.bind_some]; omega) fun x' g' ow len bel _ _ => ?_
    simp only [bs]
    exact .some ⟨x', _, g', l ++ [⟨_, _, _, _, _⟩], rfl, S3.app len bel, by rw [List.map_append]; exact ow, by simp [-Option.bind_some]; omega⟩
  · intro _
    exact .some ⟨_, _, _, l, rfl, S1, ow, by omega⟩
  clear S hl e1 S1 ow
  rintro _ ⟨x, y, g, l, rfl, S, ow, hl⟩
  simp only [toEnd_nrm, nth_zero, bs, mkRes_one]
  have hsl := own_sl (n := 3) ow (Nat.le_refl _) (fun a _ => hldr_frz _ g _ a)
  obtain ⟨h', hs, hcd, hsm⟩ := S.scope rfl (slof_ok hsl fun a _ => hldr_ok _ a)
  exact ⟨_, hs, hcd, hsm, l, hsl, hl⟩
theorem d96 {h : Hp} {o : Nat} (hc : CD h o) : ∃ s h', R fn96 [.ptr o 0 0] h = some (.str s, h') ∧ CD h' o ∧ Same o h h' ∧ s.length ≤ 34 := by
  suffices Wp (R fn96 [.ptr o 0 0] h) (fun p => ∃ s, p.1 = .str s ∧ CD p.2 o ∧ Same o h p.2 ∧ s.length ≤ 34) by
    obtain ⟨⟨x, h'⟩, h1, s, rfl, h2⟩ := this
    exact ⟨s, h', h1, h2⟩
  rw [e96]
  simp only [F96, bs, Option.bind_assoc]
  obtain ⟨s, h1, e1, c1, s1, b1⟩ := d102 hc
  refine Wp.step e1 ?_
  simp only [bs]
  obtain ⟨v, h2, e2, c2, s2, v0, v1⟩ := next_b c1 4 (by omega) (by omega)
  refine Wp.step e2 ?_
  simp only [bs]
  refine Wp.loop (fun k ds g => ∃ s a, ds = [.str s, .int .i64 k, a] ∧ CD g o ∧ Same o h g ∧ k ≤ 3 ∧ s.length + 9 * k ≤ 34) (fun r => r.1 = .ext 0 ∧ ∃ s a b, r.2.1 = [.str s, a, b] ∧ CD r.2.2 o ∧ Same o h r.2.2 ∧ s.length ≤ 34) v.toNat ⟨s, .any, by rw [Int.toNat_of_nonneg v0], c2, s1.trans s2, by omega, by omega⟩ ?_ ?_
  · rintro k ds g ⟨s, a, rfl, cg, sg, hk, hs⟩
    simp only [F96_L0, nth_zero, nth_succ, bs, dBin_gtr]
    refine Wp.dif ?_ ?_
    · intro h0
      have h0 : 0 < (k : Int) := by simpa [-Option.bind_some] using h0
      simp only [lt98_7_ok, bs]
      obtain ⟨v, h2, e2, c2, s2, v0, v1⟩ := next_b cg 5 (by omega) (by omega)
      obtain ⟨u, hu, hg⟩ := pick_of lt98_7 v v0 v1
      have hul := (show ∀ s ∈ lt98_7, s.length ≤ 2 by decide) u hu
      refine Wp.step e2 ?_
      simp only [ix98, v0, if_true, List.getElem?_map, hg, Option.map_some, bs, ld9]
      obtain ⟨w, h3, e3, c3, s3, b3⟩ := d102 c2
      refine Wp.step e3 ?_
      rw [dBin_sadd _ _ _ _ (by omega)]
      simp only [bs]
      rw [dBin_sadd _ _ _ _ (by simp [-Option.bind_some]; omega)]
      have hk1 : IntKind.wrap .i64 ((k : Int) - 1) = ((k - 1 : Nat) : Int) := by
        rw [wrap_i64 (by omega) (by omega)]; omega
      simp only [bs, dBin_sub, chk_true, hk1]
      exact .some (.inl ⟨rfl, k - 1, by omega, s ++ (u ++ w), _, rfl, c3, (sg.trans s2).trans s3, by omega, by simp [-Option.bind_some]; omega⟩)
    · intro _
      exact .some (.inr ⟨by simp [-Option.bind_some], rfl, s, _, _, rfl, cg, sg, by omega⟩)
  · rintro ⟨x, ds, g⟩ ⟨rfl, s, a, b, rfl, cg, sg, hs⟩
    simp only [unblk_self, toEnd_nrm, nth_zero, bs, mkRes_one]
    exact .some ⟨s, rfl, cg, sg, hs⟩
/-- Fields in ascending order, each with a short value. -/
def FsOK (l : List (Str × Str)) : Prop := (l.map (·.1)).Sublist lt98_9 ∧ ∀ p ∈ l, p.2.length ≤ 19
theorem d98 {h : Hp} {o : Nat} (hc : CD h o) : ∃ x h', R fn98 [.ptr o 0 0] h = some (x, h') ∧ CD h' o ∧ Same o h h' ∧ ∃ l, SlOf 2 fld l x ∧ FsOK l := by
  suffices Wp (R fn98 [.ptr o 0 0] h) (fun p => CD p.2 o ∧ Same o h p.2 ∧ ∃ l, SlOf 2 fld l p.1 ∧ FsOK l) by
    obtain ⟨⟨x, h'⟩, h1, h2⟩ := this
    exact ⟨x, h', h1, h2⟩
  rw [e98]
  simp only [F98, bs, Option.bind_assoc, lt98_9_ok]
  refine Wp.loop (fun k ds g => ∃ x a b, ∃ (i : Nat) (l : List (Str × Str)), ds = [x, .int .i64 i, a, b] ∧ St h o g ∧ k + i = 4 ∧ Own g h.length ty109 2 (l.map fld) x ∧ (l.map (·.1)).Sublist (lt98_9.take i) ∧ ∀ p ∈ l, p.2.length ≤ 19)
    (fun r => r.1 = .ext 0 ∧ ∃ x a b c l, r.2.1 = [x, a, b, c] ∧ St h o r.2.2 ∧ Own r.2.2 h.length ty109 2 (l.map fld) x ∧ FsOK l) 4 ⟨.nils, .any, .any, 0, [], rfl, .refl hc, rfl, Own.nils _ _ _ _, by simp [-Option.bind_some], by simp [-Option.bind_some]⟩ ?_ ?_
  · rintro k ds g ⟨x, a, b, i, l, rfl, S, hk, ow, hsub, hv⟩
    have hw : IntKind.wrap .i64 ((i : Int) + 1) = (i + 1 : Nat) := by
      rw [wrap_i64 (by omega) (by omega)]; omega
    simp only [F98_L0, nth_zero, nth_succ, bs, len98, List.length_map, lt98_9_len, dBin_lss]
    refine Wp.dif ?_ ?_
    · intro h0
      have h0 : i < 4 := by have : (i : Int) < 4 := by simpa [-Option.bind_some] using h0
                            omega
      obtain ⟨v, h1, e1, c1, s1, v0, v1⟩ := next_b S.cd 3 (by omega) (by omega)
      have S1 := S.next c1 s1
      replace ow := ow.same s1 hc.lt
      refine Wp.step e1 ?_
      simp only [dBin_eql, bs]
      refine Wp.join (P := fun r => ∃ x g, ∃ l : List (Str × Str), r = (.nrm, [x], g) ∧ St h o g ∧ Own g h.length ty109 2 (l.map fld) x ∧ (l.map (·.1)).Sublist (lt98_9.take (i + 1)) ∧ ∀ p ∈ l, p.2.length ≤ 19) ?_ ?_ ?_
      · intro _
        have hg : lt98_9[i]? = some lt98_9[i] := List.getElem?_eq_getElem h0
        simp only [ix98, Int.natCast_nonneg, if_true, Int.toNat_natCast, List.getElem?_map, hg, Option.map_some, bs, ld9]
        obtain ⟨u, h2, e2, c2, s2, hu⟩ := d33 S1.cd
        have S2 := S1.next c2 s2
        replace ow := ow.same s2 hc.lt
        refine Wp.step e2 ?_
        simp only [bs, bd109_0_1, bs29_1]
        have hll : l.length ≤ 4 := by
          have := hsub.length_le
          simp [-Option.bind_some] at this
          omega
        refine wap29 S2.le ow (rowsOf_sl _ _ _ _) (by simp [-Option.bind_some]; omega) fun x' g' ow len bel _ _ => ?_
        simp only [bs, chk_true]
        refine .some ⟨x', g', l ++ [(lt98_9[i], u)], rfl, S2.app len bel, by rw [List.map_append]; exact ow, ?_, ?_⟩
        · rw [List.take_add_one, hg, List.map_append]
          exact hsub.append (List.Sublist.refl _)
        · intro p hp
          rcases List.mem_append.1 hp with hp | hp
          · exact hv p hp
          · simp [-Option.bind_some] at hp; subst hp; exact hu
      · intro _
        refine .some ⟨_, _, l, rfl, S1, ow, hsub.trans ?_, hv⟩
        rw [List.take_add_one]
        exact List.sublist_append_left _ _
      · rintro _ ⟨x, g, l, rfl, S, ow, hsub, hv⟩
        simp only [unblk_nrm, toEnd_nrm, nth_zero, dBin_add, bs, hw]
        exact .some (.inl ⟨rfl, k - 1, by omega, x, _, _, i + 1, l, rfl, S, by omega, ow, hsub, hv⟩)
    · intro h0
      have h0 : ¬ i < 4 := by have : ¬ (i : Int) < 4 := by simpa [-Option.bind_some] using h0
                              omega
      refine .some (.inr ⟨by simp [-Option.bind_some], rfl, x, _, _, _, l, rfl, S, ow, hsub.trans (List.take_sublist _ _), hv⟩)
  · rintro ⟨x, ds, g⟩ ⟨rfl, x, a, b, c, l, rfl, S, ow, hl⟩
    simp only [unblk_self, toEnd_nrm, nth_zero, bs, mkRes_one]
    have hsl := own_sl (n := 3) ow (Nat.le_refl _) (fun a _ => fld_frz _ g _ a)
    obtain ⟨h', hs, hcd, hsm⟩ := S.scope rfl (slof_ok hsl fun a _ => fld_ok _ a)
    exact ⟨_, hs, hcd, hsm, l, hsl, hl⟩
/-- Lines that follow each other. -/
def chain : Int → List Lin → Int → Prop
  | a, [], b => a = b
  | a, l :: r, b => l.off = a ∧ 1 ≤ l.len ∧ l.len ≤ 36 ∧ l.txt.length + 1 ≤ l.len ∧ chain (a + l.len) r b
theorem chain_snoc : ∀ (ls : List Lin) (a b : Int) (l : Lin), chain a ls b → l.off = b → 1 ≤ l.len → l.len ≤ 36 → l.txt.length + 1 ≤ l.len → chain a (ls ++ [l]) (b + l.len)
  | [], a, b, l, h, h1, h2, h3, h4 => by
    simp only [chain] at h
    subst h
    exact ⟨h1, h2, h3, h4, rfl⟩
  | x :: r, a, b, l, h, h1, h2, h3, h4 => ⟨h.1, h.2.1, h.2.2.1, h.2.2.2.1, chain_snoc r _ b l h.2.2.2.2 h1 h2 h3 h4⟩
def blank (l : Lin) : Lin := { l with txt := [] }
theorem chain_blank : ∀ (ls : List Lin) (a b : Int), chain a ls b → chain a (ls.map blank) b
  | [], a, b, h => h
  | x :: r, a, b, h => ⟨h.1, h.2.1, h.2.2.1, by simp [-Option.bind_some, blank]; exact h.2.1, chain_blank r _ b h.2.2.2.2⟩
theorem chain_le : ∀ (ls : List Lin) (a b : Int), chain a ls b → a + ls.length ≤ b ∧ b ≤ a + 36 * ls.length
  | [], a, b, h => by simp [-Option.bind_some, chain] at h; simp [-Option.bind_some]; omega
  | x :: r, a, b, h => by
    have := chain_le r _ b h.2.2.2.2
    have := h.2.1
    have := h.2.2.1
    simp only [List.length_cons]
    omega
/-- What an item that is drawn looks like. -/
structure ItOK (hst fil frm : Int) (i : It) : Prop where
  host : i.e.a0 = hst
  file : i.e.a1 = fil
  fr : i.e.a2 = frm
  ch : chain frm i.e.ls i.e.a3
  n1 : 1 ≤ i.e.ls.length
  n3 : i.e.ls.length ≤ 3
  ev : i.r = [] → 0 ≤ i.e.a5 ∧ i.e.a5 ≤ 253402300799999 ∧ 1 ≤ i.e.a6 ∧ i.e.a6 ≤ 5040 ∧ i.e.s7 ∈ lt98_5 ∧ i.e.s8 ∈ lt98_6 ∧ FsOK i.e.fs ∧ ∀ l ∈ i.e.ls, l.len ≤ l.txt.length + 2
  wt : i.r = [] → Int.tmod 5040 i.e.a6 = 0
  sk : i.r ≠ [] → i.r ∈ lt98_4 ∧ i.e.a5 = 0 ∧ i.e.a6 = 0 ∧ i.e.s7 = [] ∧ i.e.s8 = [] ∧ i.e.fs = [] ∧ ∀ l ∈ i.e.ls, l.txt = []
theorem set_blank (ls : List Lin) (i : Nat) (hi : i < ls.length) : (((ls.take i).map blank ++ ls.drop i).map linr).set i (linr (blank ls[i])) = ((ls.take (i + 1)).map blank ++ ls.drop (i + 1)).map linr := by
  rw [List.drop_eq_getElem_cons hi, List.take_add_one, List.getElem?_eq_getElem hi]
  simp only [List.map_append, List.map_cons, Option.toList_some, List.map_nil]
  rw [List.set_append_right _ _ (by simp [-Option.bind_some]; omega)]
  simp [-Option.bind_some, Nat.min_eq_left (Nat.le_of_lt hi)]
theorem get_blank (ls : List Lin) (i : Nat) (hi : i < ls.length) : (((ls.take i).map blank ++ ls.drop i).map linr)[i]? = some (linr ls[i]) := by
  rw [List.drop_eq_getElem_cons hi, List.getElem?_map, List.getElem?_append_right (by simp [-Option.bind_some]; omega)]
  simp [-Option.bind_some, Nat.min_eq_left (Nat.le_of_lt hi)]
  exact ⟨_, List.getElem?_eq_getElem hi, rfl⟩
end Go.Proofs.Ytdoppnhopjdhmaa
