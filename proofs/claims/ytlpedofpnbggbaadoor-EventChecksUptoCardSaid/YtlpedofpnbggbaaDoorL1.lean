/- Laws, on plain data, about functions that the statement reaches. -/
import Derived.Test.YtlpedofpnbggbaaDoorT9
set_option linter.unusedSimpArgs false
set_option linter.unusedVariables false
set_option linter.unnecessarySimpa false
set_option maxRecDepth 100000
namespace Go.Proofs.YtlpedofpnbggbaaDoor
open Go.Eng Go.Pi
open Option (bind_some)
abbrev Str := List UInt8
def fld (p : Str × Str) : List D := [.str p.1, .str p.2]
structure Lin where
  off : Int
  len : Int
  txt : Str
  deriving DecidableEq
def linr (l : Lin) : List D := [.int .i64 l.off, .int .i64 l.len, .str l.txt]
structure Ev where
  a0 : Int
  a1 : Int
  a2 : Int
  a3 : Int
  ls : List Lin
  ld : D
  a5 : Int
  a6 : Int
  s7 : Str
  s8 : Str
  fs : List (Str × Str)
  fd : D
  hfd : SlOf 2 fld fs fd
  hl : fs.length ≤ 9223372036854775807
  hld : SlOf 3 linr ls ld
  hll : ls.length ≤ 9223372036854775807
def evr (e : Ev) : List D := [.int .i64 e.a0, .int .i64 e.a1, .int .i64 e.a2, .int .i64 e.a3, e.ld, .int .i64 e.a5, .int .i64 e.a6, .str e.s7, .str e.s8, e.fd]
structure It where
  r : Str
  e : Ev
def itr (i : It) : List D := .str i.r :: evr i.e
theorem fld_frz (n0 : Nat) (h : Hp) (n : Nat) (p : Str × Str) : ∀ d ∈ fld p, frz n0 h n d = d := by simp [-bind_some, fld]
theorem fld_ok (n : Nat) (p : Str × Str) : ∀ d ∈ fld p, Ok n d := by
  intro d hd
  simp [-bind_some, fld] at hd
  rcases hd with rfl | rfl <;> constructor
theorem linr_frz (n0 : Nat) (h : Hp) (n : Nat) (p : Lin) : ∀ d ∈ linr p, frz n0 h n d = d := by simp [-bind_some, linr]
theorem linr_ok (n : Nat) (p : Lin) : ∀ d ∈ linr p, Ok n d := by
  intro d hd
  simp [-bind_some, linr] at hd
  rcases hd with rfl | rfl | rfl <;> constructor
theorem evr_frz (n0 : Nat) (h : Hp) (n : Nat) (e : Ev) : ∀ d ∈ evr e, frz n0 h (n + 1) d = d := by
  intro d hd
  simp [-bind_some, evr] at hd
  rcases hd with rfl | rfl | rfl | rfl | rfl | rfl | rfl | rfl | rfl | rfl
  all_goals first | exact slof_frz e.hld (fun a _ => linr_frz _ _ _ a) | exact slof_frz e.hfd (fun a _ => fld_frz _ _ _ a) | simp [-bind_some]
theorem evr_ok (n : Nat) (e : Ev) : ∀ d ∈ evr e, Ok n d := by
  intro d hd
  simp [-bind_some, evr] at hd
  rcases hd with rfl | rfl | rfl | rfl | rfl | rfl | rfl | rfl | rfl | rfl
  all_goals first | exact slof_ok e.hld (fun a _ => linr_ok _ a) | exact slof_ok e.hfd (fun a _ => fld_ok _ a) | constructor
theorem itr_ok (n : Nat) (i : It) : Ok n (.agg (itr i)) := by
  refine .agg _ fun d hd => ?_
  simp [-bind_some, itr, evr] at hd
  rcases hd with rfl | rfl | rfl | rfl | rfl | rfl | rfl | rfl | rfl | rfl | rfl
  all_goals first | exact slof_ok i.e.hld (fun a _ => linr_ok _ a) | exact slof_ok i.e.hfd (fun a _ => fld_ok _ a) | constructor
theorem itr_frz (n0 : Nat) (h : Hp) (n : Nat) (i : It) : ∀ d ∈ itr i, frz n0 h (n + 1) d = d := by
  intro d hd
  rcases List.mem_cons.1 hd with rfl | hd
  · simp [-bind_some]
  · exact evr_frz n0 h n i.e d hd
theorem evL (e : Ev) (h : Hp) : dLoad tab h ty31 (.fptr (evr e)) = some (.agg (evr e)) := id rfl
theorem itF1 (i : It) : dFieldAddr tab ty74 1 (.fptr (itr i)) = some (.fptr (evr i.e)) := id rfl
theorem itF0 (i : It) : dFieldAddr tab ty74 0 (.fptr (itr i)) = some (.fptr (itr i)) := id rfl
theorem itL0 (i : It) (h : Hp) : dLoad tab h ty9 (.fptr (itr i)) = some (.str i.r) := id rfl
theorem ldIt (i : It) (h : Hp) : dLoad tab h ty74 (.fptr (itr i)) = some (.agg (itr i)) := id rfl
theorem linr_ld (l : Lin) (h : Hp) : dLoad tab h ty78 (.fptr (linr l)) = some (.agg (linr l)) := id rfl
theorem fld_ld (l : Str × Str) (h : Hp) : dLoad tab h ty109 (.fptr (fld l)) = some (.agg (fld l)) := id rfl
theorem lin_neq (a b : Lin) : dBin tab .neq ty78 (.agg (linr a)) (.agg (linr b)) = some (.bool (decide (a ≠ b))) := by
  obtain ⟨a0, a1, a2⟩ := a
  obtain ⟨b0, b1, b2⟩ := b
  simp [-bind_some, linr]
  by_cases h0 : a0 = b0 <;> by_cases h1 : a1 = b1 <;> by_cases h2 : a2 = b2 <;> simp [-bind_some, h0, h1, h2]
theorem fld_neq (a b : Str × Str) : dBin tab .neq ty109 (.agg (fld a)) (.agg (fld b)) = some (.bool (decide (a ≠ b))) := by
  obtain ⟨a0, a1⟩ := a
  obtain ⟨b0, b1⟩ := b
  simp [-bind_some, fld]
  by_cases h0 : a0 = b0 <;> by_cases h1 : a1 = b1 <;> simp [-bind_some, h0, h1]

theorem wrap_u64 {n : Int} (h0 : 0 ≤ n) (h1 : n < 18446744073709551616) : IntKind.wrap .u64 n = n := by
  unfold IntKind.wrap
  simp [-bind_some, IntKind.signed, IntKind.bits, IntKind.min, IntKind.max]
  omega
theorem own_rows {h : Hp} {n0 e z : Nat} {rows : List (List D)} {d : D} (hd : Own h n0 e z rows d) : dRowsOf h z d = some rows := by
  rcases hd with ⟨rfl, rfl⟩ | ⟨o, _, rfl, hg⟩
  · rfl
  · simp [-bind_some, dRowsOf, hg]
theorem s94 (l r : List Lin) (d e : D) (h : Hp) (hd : SlOf 3 linr l d) (he : SlOf 3 linr r e) (hl : l.length ≤ 9223372036854775807) : R fn94 [d, e] h = some (.bool (decide (l = r)), h) := by
  suffices Wp (R fn94 [d, e] h) (fun p => p = (.bool (decide (l = r)), h)) by
    obtain ⟨p, h1, rfl⟩ := this
    exact h1
  rw [e94]
  simp only [F94, bs, Option.bind_assoc, lens28 hd, lens28 he, dBin_neq]
  refine Wp.dif ?_ ?_
  · intro hn
    have hn : l.length ≠ r.length := by have : ¬ (l.length : Int) = r.length := by simpa using hn
                                        omega
    have hne : l ≠ r := fun hh => hn (by rw [hh])
    simp only [bs, mkRes_one]
    exact .some (by simp [-bind_some, hne])
  · intro hn
    have hn : l.length = r.length := by have : (l.length : Int) = r.length := by simpa using hn
                                        omega
    refine Wp.loop (fun k ds g => g = h ∧ ∃ a b c, ∃ i : Nat, ds = [a, .int .i64 i, b, c] ∧ k + i = l.length ∧ l.take i = r.take i)
      (fun x => x.2.2 = h ∧ ((x.1 = .ret ∧ nth 0 x.2.1 = .bool false ∧ l ≠ r) ∨ (x.1 = .ext 0 ∧ l = r))) l.length ⟨rfl, _, _, _, 0, rfl, rfl, rfl⟩ ?_ ?_
    · rintro k ds g ⟨rfl, a, b, c, i, rfl, hk, hi⟩
      simp only [F94_L0, nth_zero, nth_succ, bs, Option.bind_assoc, lens28 hd, dBin_lss]
      refine Wp.dif ?_ ?_
      · intro h0
        have h0 : i < l.length := by have : (i : Int) < l.length := by simpa using h0
                                     omega
        have hg : l[i]? = some l[i] := List.getElem?_eq_getElem h0
        have hg2 : r[i]? = some (r[i]'(by omega)) := List.getElem?_eq_getElem (by omega)
        have hw : IntKind.wrap .i64 ((i : Int) + 1) = ((i + 1 : Nat) : Int) := by
          rw [wrap_i64 (by omega) (by omega)]; omega
        generalize l[i] = x at hg
        generalize r[i]'(by omega) = y at hg2
        simp only [ixs28 hd, ixs28 he, Int.natCast_nonneg, if_true, Int.toNat_natCast, hg, hg2, Option.map_some, bs, linr_ld, lin_neq]
        refine Wp.dif ?_ ?_
        · intro hxy
          have hxy : x ≠ y := by simpa using hxy
          try simp only [bs]
          refine .some (.inr ⟨by simp, rfl, .inl ⟨rfl, rfl, fun hh => ?_⟩⟩)
          subst hh
          rw [hg] at hg2
          injection hg2 with hg2
          exact hxy hg2
        · intro hxy
          have hxy : x = y := by simpa using hxy
          subst hxy
          simp only [dBin_add, bs, hw]
          refine .some (.inl ⟨rfl, k - 1, by omega, rfl, _, _, _, i + 1, rfl, by omega, ?_⟩)
          rw [List.take_add_one, List.take_add_one, hi, hg, hg2]
      · intro h0
        have h0 : i = l.length := by have : ¬ (i : Int) < l.length := by simpa using h0
                                     omega
        refine .some (.inr ⟨by simp, rfl, .inr ⟨rfl, ?_⟩⟩)
        have h1 : l.take i = l := List.take_of_length_le (by omega)
        have h2 : r.take i = r := List.take_of_length_le (by omega)
        rw [← h1, ← h2, hi]
    · rintro ⟨x, ds, g⟩ ⟨rfl, ⟨rfl, hx, hne⟩ | ⟨rfl, hll⟩⟩
      · replace hx : nth 0 ds = .bool false := hx
        simp only [unblk_ret, toEnd_ret, exEnd_ret, nth_zero, bs, hx, mkRes_one]
        exact .some (by simp [-bind_some, hne])
      · simp only [unblk_self, toEnd_nrm, bs, mkRes_one]
        exact .some (by simp [-bind_some, hll])

theorem s95 (l r : List (Str × Str)) (d e : D) (h : Hp) (hd : SlOf 2 fld l d) (he : SlOf 2 fld r e) (hl : l.length ≤ 9223372036854775807) : R fn95 [d, e] h = some (.bool (decide (l = r)), h) := by
  suffices Wp (R fn95 [d, e] h) (fun p => p = (.bool (decide (l = r)), h)) by
    obtain ⟨p, h1, rfl⟩ := this
    exact h1
  rw [e95]
  simp only [F95, bs, Option.bind_assoc, lens29 hd, lens29 he, dBin_neq]
  refine Wp.dif ?_ ?_
  · intro hn
    have hn : l.length ≠ r.length := by have : ¬ (l.length : Int) = r.length := by simpa using hn
                                        omega
    have hne : l ≠ r := fun hh => hn (by rw [hh])
    simp only [bs, mkRes_one]
    exact .some (by simp [-bind_some, hne])
  · intro hn
    have hn : l.length = r.length := by have : (l.length : Int) = r.length := by simpa using hn
                                        omega
    refine Wp.loop (fun k ds g => g = h ∧ ∃ a b c, ∃ i : Nat, ds = [a, .int .i64 i, b, c] ∧ k + i = l.length ∧ l.take i = r.take i)
      (fun x => x.2.2 = h ∧ ((x.1 = .ret ∧ nth 0 x.2.1 = .bool false ∧ l ≠ r) ∨ (x.1 = .ext 0 ∧ l = r))) l.length ⟨rfl, _, _, _, 0, rfl, rfl, rfl⟩ ?_ ?_
    · rintro k ds g ⟨rfl, a, b, c, i, rfl, hk, hi⟩
      simp only [F95_L0, nth_zero, nth_succ, bs, Option.bind_assoc, lens29 hd, dBin_lss]
      refine Wp.dif ?_ ?_
      · intro h0
        have h0 : i < l.length := by have : (i : Int) < l.length := by simpa using h0
                                     omega
        have hg : l[i]? = some l[i] := List.getElem?_eq_getElem h0
        have hg2 : r[i]? = some (r[i]'(by omega)) := List.getElem?_eq_getElem (by omega)
        have hw : IntKind.wrap .i64 ((i : Int) + 1) = ((i + 1 : Nat) : Int) := by
          rw [wrap_i64 (by omega) (by omega)]; omega
        generalize l[i] = x at hg
        generalize r[i]'(by omega) = y at hg2
        simp only [ixs29 hd, ixs29 he, Int.natCast_nonneg, if_true, Int.toNat_natCast, hg, hg2, Option.map_some, bs, fld_ld, fld_neq]
        refine Wp.dif ?_ ?_
        · intro hxy
          have hxy : x ≠ y := by simpa using hxy
          try simp only [bs]
          refine .some (.inr ⟨by simp, rfl, .inl ⟨rfl, rfl, fun hh => ?_⟩⟩)
          subst hh
          rw [hg] at hg2
          injection hg2 with hg2
          exact hxy hg2
        · intro hxy
          have hxy : x = y := by simpa using hxy
          subst hxy
          simp only [dBin_add, bs, hw]
          refine .some (.inl ⟨rfl, k - 1, by omega, rfl, _, _, _, i + 1, rfl, by omega, ?_⟩)
          rw [List.take_add_one, List.take_add_one, hi, hg, hg2]
      · intro h0
        have h0 : i = l.length := by have : ¬ (i : Int) < l.length := by simpa using h0
                                     omega
        refine .some (.inr ⟨by simp, rfl, .inr ⟨rfl, ?_⟩⟩)
        have h1 : l.take i = l := List.take_of_length_le (by omega)
        have h2 : r.take i = r := List.take_of_length_le (by omega)
        rw [← h1, ← h2, hi]
    · rintro ⟨x, ds, g⟩ ⟨rfl, ⟨rfl, hx, hne⟩ | ⟨rfl, hll⟩⟩
      · replace hx : nth 0 ds = .bool false := hx
        simp only [unblk_ret, toEnd_ret, exEnd_ret, nth_zero, bs, hx, mkRes_one]
        exact .some (by simp [-bind_some, hne])
      · simp only [unblk_self, toEnd_nrm, bs, mkRes_one]
        exact .some (by simp [-bind_some, hll])
def sameE (a b : Ev) : Bool := decide (a.a0 = b.a0) && (decide (a.a1 = b.a1) && (decide (a.a2 = b.a2) && (decide (a.a3 = b.a3) && (decide (a.a5 = b.a5) && (decide (a.a6 = b.a6) && (decide (a.s7 = b.s7) && (decide (a.s8 = b.s8) && (decide (a.ls = b.ls) && decide (a.fs = b.fs)))))))))
def sameI (i j : It) : Bool := decide (i.r = j.r) && sameE i.e j.e
theorem sameE_refl (a : Ev) : sameE a a = true := by simp [-bind_some, sameE]
theorem sameI_refl (a : It) : sameI a a = true := by simp [-bind_some, sameI, sameE_refl]
theorem s82 (i j : It) (h : Hp) : R fn82 [.agg (itr i), .agg (itr j)] h = some (.bool (sameI i j), h) := by
  suffices Wp (R fn82 [.agg (itr i), .agg (itr j)] h) (fun p => p = (.bool (sameI i j), h)) by
    obtain ⟨p, h1, rfl⟩ := this
    exact h1
  rw [e82]
  simp only [F82, pBoxF_agg, bs, Option.bind_assoc, itF1, itF0, itL0, evL]
  generalize hg0 : dNew h ty31 10 [[.int .i64 0, .int .i64 0, .int .i64 0, .int .i64 0, .nils, .int .i64 0, .int .i64 0, .str [], .str [], .nils]] = g0
  have hgl : g0.length = h.length + 1 := by simp [-bind_some, ← hg0, dNew]
  have hb : ∀ q, q < h.length → g0[q]? = h[q]? := fun q hq => by simp only [← hg0, dNew]; rw [List.getElem?_append_left hq]
  have p8 : g0[h.length]? = some (.row ty31 10 [[.int .i64 0, .int .i64 0, .int .i64 0, .int .i64 0, .nils, .int .i64 0, .int .i64 0, .str [], .str [], .nils]]) := by simp [-bind_some, ← hg0, dNew]
  clear hg0
  refine wst31 p8 (by rfl) (by rfl) (by simp) (by rfl) fun g1 q8 s1 => ?_
  replace q8 : g1[h.length]? = some (.row ty31 10 [evr i.e]) := q8
  have hl1 : g1.length = h.length + 1 := by rw [s1.1, hgl]
  try simp only [chk_true]
  rw [hl1]
  generalize hg1 : dNew g1 ty31 10 [[.int .i64 0, .int .i64 0, .int .i64 0, .int .i64 0, .nils, .int .i64 0, .int .i64 0, .str [], .str [], .nils]] = g3
  have hgl3 : h.length ≤ g3.length := by simp [-bind_some, ← hg1, dNew]; omega
  have hb3 : ∀ q, q < h.length + 1 → g3[q]? = g1[q]? := fun q hq => by simp only [← hg1, dNew]; rw [List.getElem?_append_left (by omega)]
  have p9 : g3[h.length + 1]? = some (.row ty31 10 [[.int .i64 0, .int .i64 0, .int .i64 0, .int .i64 0, .nils, .int .i64 0, .int .i64 0, .str [], .str [], .nils]]) := by
    simp only [← hg1, dNew]; rw [← hl1, List.getElem?_append_right (Nat.le_refl _)]; simp [-bind_some]
  replace q8 := (hb3 h.length (by omega)).trans q8
  clear hg1
  refine wst31 p9 (by rfl) (by rfl) (by simp) (by rfl) fun g2 q9 s2 => ?_
  replace q9 : g2[h.length + 1]? = some (.row ty31 10 [evr j.e]) := q9
  replace q8 := (s2.2 h.length (by omega)).trans q8
  have hb2 : ∀ q, q < h.length → g2[q]? = h[q]? := fun q hq => (((s2.2 q (by omega)).trans (hb3 q (by omega))).trans (s1.2 q (by omega))).trans (hb q hq)
  have hl2 : h.length ≤ g2.length := by have := s2.1; omega
  have r8 : g2.row h.length 0 = some (evr i.e) := row_of q8
  have r9 : g2.row (h.length + 1) 0 = some (evr j.e) := row_of q9
  have hsc : ∀ b : Bool, scope h g2 (.bool b) = some (.bool b, h) := fun b => scope_eq (by simp) (.bool b) hl2 hb2
  obtain ⟨ri, ei⟩ := i
  obtain ⟨rj, ej⟩ := j
  by_cases h0 : ri = rj
  case neg => exact ⟨_, by simp [-bind_some, h0, hsc, sameI], rfl⟩
  by_cases h1 : ei.a0 = ej.a0
  case neg => exact ⟨_, by simp [-bind_some, h0, h1, hsc, sameI, sameE, r8, r9, evr], rfl⟩
  by_cases h2 : ei.a1 = ej.a1
  case neg => exact ⟨_, by simp [-bind_some, h0, h1, h2, hsc, sameI, sameE, r8, r9, evr], rfl⟩
  by_cases h3 : ei.a2 = ej.a2
  case neg => exact ⟨_, by simp [-bind_some, h0, h1, h2, h3, hsc, sameI, sameE, r8, r9, evr], rfl⟩
  by_cases h4 : ei.a3 = ej.a3
  case neg => exact ⟨_, by simp [-bind_some, h0, h1, h2, h3, h4, hsc, sameI, sameE, r8, r9, evr], rfl⟩
  by_cases h5 : ei.a5 = ej.a5
  case neg => exact ⟨_, by simp [-bind_some, h0, h1, h2, h3, h4, h5, hsc, sameI, sameE, r8, r9, evr], rfl⟩
  by_cases h6 : ei.a6 = ej.a6
  case neg => exact ⟨_, by simp [-bind_some, h0, h1, h2, h3, h4, h5, h6, hsc, sameI, sameE, r8, r9, evr], rfl⟩
  by_cases h7 : ei.s7 = ej.s7
  case neg => exact ⟨_, by simp [-bind_some, h0, h1, h2, h3, h4, h5, h6, h7, hsc, sameI, sameE, r8, r9, evr], rfl⟩
  by_cases h8 : ei.s8 = ej.s8
  case neg => exact ⟨_, by simp [-bind_some, h0, h1, h2, h3, h4, h5, h6, h7, h8, hsc, sameI, sameE, r8, r9, evr], rfl⟩
  have sl := s94 ei.ls ej.ls ei.ld ej.ld g2 ei.hld ej.hld ei.hll
  have sf := s95 ei.fs ej.fs ei.fd ej.fd g2 ei.hfd ej.hfd ei.hl
  by_cases h9 : ei.ls = ej.ls
  case neg => exact ⟨_, by simp [-bind_some, h0, h1, h2, h3, h4, h5, h6, h7, h8, h9, hsc, sameI, sameE, r8, r9, evr, sl], rfl⟩
  by_cases h10 : ei.fs = ej.fs
  case neg => exact ⟨_, by simp [-bind_some, h0, h1, h2, h3, h4, h5, h6, h7, h8, h9, h10, hsc, sameI, sameE, r8, r9, evr, sl, sf], rfl⟩
  exact ⟨_, by simp [-bind_some, h0, h1, h2, h3, h4, h5, h6, h7, h8, h9, h10, hsc, sameI, sameE, r8, r9, evr, sl, sf], rfl⟩
def getF (l : List (Str × Str)) (n : Str) : Option Str := (l.find? fun p => p.1 == n).map (·.2)
def getD' (l : List (Str × Str)) (n : Str) : D := .tup [.str ((getF l n).getD []), .bool (getF l n).isSome]
theorem l70 (l : List (Str × Str)) (d : D) (n : Str) (h : Hp) (hd : SlOf 2 fld l d) (hl : l.length ≤ 9223372036854775807) {β : Type} (K : Out → Option β) (X : Str → Option β) (Y : Option β)
   (hX : ∀ v r, K (.ret, .str v :: .bool true :: r, h) = X v) (hY : ∀ r, K (.ext 0, r, h) = Y) : ∀ (suf pre : List (Str × Str)), l = pre ++ suf → ∀ a b c e f,
   (loopW (F70_L0 (.str n) d (.int .i64 l.length)) [a, b, c, .int .i64 pre.length, e, f] h).bind K = match getF suf n with | some v => X v | none => Y := by
  intro suf
  induction suf with
  | nil =>
    rintro pre rfl a b c e f
    rw [loopW_eq]
    simp [-bind_some, F70_L0, hY, getF]
  | cons p suf ih =>
    rintro pre rfl a b c e f
    have hw : IntKind.wrap .i64 ((pre.length : Int) + 1) = (pre ++ [p]).length := by
      rw [wrap_i64 (by omega) (by simp at hl; omega)]; simp [-bind_some]
    have hlt : (pre.length : Int) < (pre ++ p :: suf).length := by simp; omega
    rw [loopW_eq]
    generalize hL : pre ++ p :: suf = L at *
    have hg : L[pre.length]? = some p := by rw [← hL]; exact get_mid _ _ _
    by_cases hp : p.1 = n
    · simp [-bind_some, F70_L0, ixs29 hd, hlt, hg, fld, hp, hX, getF]
    · have := ih (pre ++ [p]) (by simp [-bind_some, ← hL]) a b (.fptr (fld p)) (.bool true) (.bool (p.1 == n))
      simp only [← hw] at this
      simp [-bind_some, F70_L0, ixs29 hd, hlt, hg, fld, hp, getF]
      simp [-bind_some, fld, getF] at this
      exact this
theorem s70 (l : List (Str × Str)) (d : D) (n : Str) (h : Hp) (hd : SlOf 2 fld l d) (hl : l.length ≤ 9223372036854775807) : R fn70 [d, .str n] h = some (getD' l n, h) := by
  rw [e70]
  simp only [F70, bs, lens29 hd, Option.bind_assoc]
  rw [show (0 : Int) = (([] : List (Str × Str)).length : Int) from rfl, l70 l d n h hd hl _ (fun v => some (.tup [.str v, .bool true], h)) (some (.tup [.str [], .bool false], h)) (fun v r => by simp) (fun r => by simp) l [] rfl]
  unfold getD'
  cases getF l n <;> rfl
theorem l76 (l : List (Str × Str)) (d : D) (n : Str) (h : Hp) (hd : SlOf 2 fld l d) (hl : l.length ≤ 9223372036854775807) {β : Type} (K : Out → Option β) (X : Str → Option β) (Y : Option β)
   (hX : ∀ v r, K (.ret, .str v :: .bool true :: r, h) = X v) (hY : ∀ r, K (.ext 0, r, h) = Y) : ∀ (suf pre : List (Str × Str)), l = pre ++ suf → ∀ a b e f,
   (loopW (F76_L0 d (.str n)) [a, b, .int .i64 pre.length, e, f] h).bind K = match getF suf n with | some v => X v | none => Y := by
  intro suf
  induction suf with
  | nil =>
    rintro pre rfl a b e f
    rw [loopW_eq]
    simp [-bind_some, F76_L0, lens29 hd, hY, getF]
  | cons p suf ih =>
    rintro pre rfl a b e f
    have hw : IntKind.wrap .i64 ((pre.length : Int) + 1) = (pre ++ [p]).length := by
      rw [wrap_i64 (by omega) (by simp at hl; omega)]; simp [-bind_some]
    have hlt : (pre.length : Int) < (pre ++ p :: suf).length := by simp; omega
    rw [loopW_eq]
    generalize hL : pre ++ p :: suf = L at *
    have hg : L[pre.length]? = some p := by rw [← hL]; exact get_mid _ _ _
    by_cases hp : p.1 = n
    · simp [-bind_some, F76_L0, lens29 hd, ixs29 hd, hlt, hg, fld, hp, hX, getF]
    · have := ih (pre ++ [p]) (by simp [-bind_some, ← hL]) a b (.bool true) (.bool (p.1 == n))
      simp only [← hw] at this
      simp [-bind_some, F76_L0, lens29 hd, ixs29 hd, hlt, hg, fld, hp, getF]
      simp [-bind_some, fld, getF] at this
      exact this
theorem s76 (l : List (Str × Str)) (d : D) (n : Str) (h : Hp) (hd : SlOf 2 fld l d) (hl : l.length ≤ 9223372036854775807) : R fn76 [d, .str n] h = some (getD' l n, h) := by
  rw [e76]
  simp only [F76, bs, lens29 hd, Option.bind_assoc]
  rw [show (0 : Int) = (([] : List (Str × Str)).length : Int) from rfl, l76 l d n h hd hl _ (fun v => some (.tup [.str v, .bool true], h)) (some (.tup [.str [], .bool false], h)) (fun v r => by simp) (fun r => by simp) l [] rfl]
  unfold getD'
  cases getF l n <;> rfl
theorem s75 (n : Str) (e : Ev) (h : Hp) : R fn75 [.agg (evr e), .str n] h = some (getD' e.fs n, h) := by
  rw [e75]
  simp [-bind_some, F75, evr, s70 _ _ _ _ e.hfd e.hl, getD']
def idx {α : Type} (pr : α → Bool) : Nat → List α → Int
  | _, [] => -1
  | k, x :: r => if pr x = true then k else idx pr (k + 1) r
theorem idx_any {α : Type} (pr : α → Bool) : ∀ (l : List α) (k : Nat), decide (0 ≤ idx pr k l) = l.any pr
  | [], k => by simp [-bind_some, idx]
  | x :: r, k => by
    unfold idx
    by_cases h : pr x = true
    · simp [-bind_some, h]
    · simp [-bind_some, h, idx_any pr r]
theorem given_len {zs : List Int} {d : D} (hd : Given .u8 zs d) : dLenT tab ty22 d = some (.int .i64 zs.length) := by
  rcases hd with ⟨rfl, rfl⟩ | rfl
  · rfl
  · simp [-bind_some, ints]
theorem given_ix {zs : List Int} {d : D} (hd : Given .u8 zs d) (i : Nat) (z : Int) (hz : zs[i]? = some z) : dIndexAddr tab ty22 d (.int .i64 i) = some (.fptr [.int .u8 z]) := by
  rcases hd with ⟨rfl, rfl⟩ | rfl
  · cases hz
  · simp [-bind_some, ints, hz]
theorem store_ptr3 (h : Hp) (o k f : Nat) (v : D) : dStore tab h ty3 (.ptr o k f) v = pSt 1 h (.ptr o k f) v := rfl
def blank (l : Lin) : Lin := { l with txt := [] }
theorem ldob {h : Hp} {q T z : Nat} {cs : List D} (hq : h[q]? = some (.row T z [cs])) (hl : cs.length = 10) : dLoad tab h ty31 (.ptr q 0 0) = some (.agg cs) := by
  rw [ldp31, row_of hq]
  simp [-bind_some, takeN, hl]
  exact List.take_of_length_le (by omega)
theorem ldob11 {h : Hp} {q T z : Nat} {cs : List D} (hq : h[q]? = some (.row T z [cs])) (hl : cs.length = 11) : dLoad tab h ty74 (.ptr q 0 0) = some (.agg cs) := by
  rw [ldp74, row_of hq]
  simp [-bind_some, takeN, hl]
  exact List.take_of_length_le (by omega)
def lessE (a b : Ev) : Bool := if a.a5 = b.a5 then (if a.a0 = b.a0 then (if a.a1 = b.a1 then decide (a.a2 < b.a2) else decide (a.a1 < b.a1)) else decide (a.a0 < b.a0)) else decide (a.a5 < b.a5)
theorem s85 (a b : Ev) (h : Hp) : R fn85 [.agg (evr a), .agg (evr b)] h = some (.bool (lessE a b), h) := by
  rw [e85]
  by_cases h5 : a.a5 = b.a5
  · by_cases h0 : a.a0 = b.a0
    · by_cases h1 : a.a1 = b.a1
      · simp [-bind_some, F85, evr, lessE, h5, h0, h1]
      · simp [-bind_some, F85, evr, lessE, h5, h0, h1]
    · simp [-bind_some, F85, evr, lessE, h5, h0]
  · simp [-bind_some, F85, evr, lessE, h5]
theorem s99 (n : Int) (h : Hp) : R fn99 [.int .i64 n] h = some (.bool false, h) := by
  rw [e99]
  simp [-bind_some, F99]
def cmpI (a b : Int) : Int := if a < b then -1 else if b < a then 1 else 0
theorem s90 (a b : Int) (h : Hp) : R fn90 [.int .i64 a, .int .i64 b] h = some (.int .i64 (cmpI a b), h) := by
  rw [e90]
  simp [-bind_some, F90, s99, cmpI]
  by_cases h0 : a < b
  · simp [-bind_some, h0]
  · by_cases h1 : b < a <;> simp [-bind_some, h0, h1]
def letter (c : Int) : Bool := (decide (97 ≤ c) && decide (c ≤ 122)) || (decide (65 ≤ c) && decide (c ≤ 90))
def digit (c : Int) : Bool := decide (48 ≤ c) && decide (c ≤ 57)
def wordc (c : Int) : Bool := (digit c || letter c) || decide (c = 95)
theorem s1019 (c : Int) (h : Hp) : R fn1019 [.int .u8 c] h = some (.bool (letter c), h) := by
  rw [e1019]
  simp [-bind_some, F1019, letter]
  by_cases h0 : 97 ≤ c <;> by_cases h1 : c ≤ 122 <;> by_cases h2 : 65 ≤ c <;> by_cases h3 : c ≤ 90 <;> simp [-bind_some, h0, h1, h2, h3]
theorem s1021 (c : Int) (h : Hp) : R fn1021 [.int .u8 c] h = some (.bool (digit c), h) := by
  rw [e1021]
  simp [-bind_some, F1021, digit]
  by_cases h0 : 48 ≤ c <;> by_cases h1 : c ≤ 57 <;> simp [-bind_some, h0, h1]
theorem s1020 (c : Int) (h : Hp) : R fn1020 [.int .u8 c] h = some (.bool (wordc c), h) := by
  rw [e1020]
  cases hd : digit c <;> cases hl : letter c <;> simp [-bind_some, F1020, s1021, s1019, wordc, hd, hl]
def nameC (c : UInt8) : Bool := wordc c.toNat || decide ((c.toNat : Int) = 46)
def fnameOK (s : Str) : Bool := match s with
  | [] => false
  | c :: r => decide ((c :: r).length ≤ 32) && (letter c.toNat || decide ((c.toNat : Int) = 95)) && (c :: r).all nameC
theorem sidx (s : Str) (i : Nat) (c : UInt8) (hc : s[i]? = some c) : dIndex tab ty9 (.str s) (.int .i64 i) = some (.int .u8 c.toNat) := by
  show (if (0 : Int) ≤ (i : Int) then (match s[(i : Int).toNat]? with | some c => some (D.int .u8 c.toNat) | none => none) else none) = _
  simp [-bind_some, hc]
theorem l1018 (s : Str) (h : Hp) (hl : s.length ≤ 9223372036854775807) {β : Type} (K : Out → Option β) (X : Bool → Option β)
   (hX : ∀ r, K (.ret, .bool false :: r, h) = X false) (hY : ∀ r, K (.ext 0, r, h) = X true) : ∀ (suf pre : Str), s = pre ++ suf → ∀ a b e,
   (loopW (F1018_L0 (.str s)) [a, .int .i64 pre.length, b, e] h).bind K = X (suf.all nameC) := by
  intro suf
  induction suf with
  | nil =>
    rintro pre rfl a b e
    rw [loopW_eq]
    simp [-bind_some, F1018_L0, hY]
  | cons p suf ih =>
    rintro pre rfl a b e
    have hw : IntKind.wrap .i64 ((pre.length : Int) + 1) = (pre ++ [p]).length := by
      rw [wrap_i64 (by omega) (by simp at hl; omega)]; simp [-bind_some]
    have hlt : (pre.length : Int) < (pre ++ p :: suf).length := by simp; omega
    rw [loopW_eq]
    generalize hL : pre ++ p :: suf = L at *
    have hg : L[pre.length]? = some p := by rw [← hL]; exact get_mid _ _ _
    have hix := sidx L pre.length p hg
    cases hp : wordc p.toNat
    · by_cases h46 : (p.toNat : Int) = 46
      · have := ih (pre ++ [p]) (by simp [-bind_some, ← hL]) a (.bool true) (.bool (decide ((p.toNat : Int) ≠ 46)))
        simp only [← hw] at this
        have h47 : wordc 46 = false := rfl
        simp [-bind_some, F1018_L0, hlt, hix, s1020, hp, nameC, h46, h47]
        simp [-bind_some, h46] at this
        exact this
      · simp [-bind_some, F1018_L0, hlt, hix, s1020, hp, nameC, h46, hX]
    · have := ih (pre ++ [p]) (by simp [-bind_some, ← hL]) a (.bool true) (.bool false)
      simp only [← hw] at this
      simp [-bind_some, F1018_L0, hlt, hix, s1020, hp, nameC]
      exact this
theorem s1018 (s : Str) (h : Hp) (hl : s.length ≤ 9223372036854775807) : R fn1018 [.str s] h = some (.bool (fnameOK s), h) := by
  rw [e1018]
  cases s with
  | nil => simp [-bind_some, F1018, fnameOK]
  | cons c r =>
    have hi0 : dIndex tab ty9 (.str (c :: r)) (.int .i64 0) = some (.int .u8 c.toNat) := sidx (c :: r) 0 c rfl
    have h1 : ¬ ((c :: r).length : Int) < 1 := by simp; omega
    have hlp := l1018 (c :: r) h hl (fun r_1 => (some (unblk 0 r_1.1, [nth 0 r_1.2.1, nth 1 r_1.2.1, nth 2 r_1.2.1, nth 3 r_1.2.1], r_1.2.2)).bind fun r_1 => toEnd r_1.1 (some (.bool true, r_1.2.2)) fun x => exEnd x (some (nth 0 r_1.2.1, r_1.2.2))) (fun b => some (.bool b, h)) (fun r => by simp) (fun r => by simp) (c :: r) [] rfl
    simp only [bs] at hlp
    by_cases h32 : (32 : Int) < ((c :: r).length : Int)
    · have h33 : ¬ (c :: r).length ≤ 32 := by omega
      simp only [F1018, bs, len9, dBin_lss, dBin_gtr, gd_bool, dPick_bool, h32, h1, decide_true, decide_false, gdW_bool, dIf_bool, mkRes_one, if_true, if_false, Bool.false_eq_true, reduceCtorEq, fnameOK, h33, Bool.false_and, gd_und, bs]
    · have h33 : (c :: r).length ≤ 32 := by omega
      cases hq : letter c.toNat
      · by_cases h95 : (c.toNat : Int) = 95
        · simp only [F1018, bs, len9, dBin_lss, dBin_gtr, gd_bool, dPick_bool, h32, h1, decide_true, decide_false, gdW_bool, dIf_bool, mkRes_one, if_true, if_false, Bool.false_eq_true, reduceCtorEq, fnameOK, h33, Bool.false_and, hi0, s1019, hq, show letter 95 = false from rfl, dUn_not, Bool.not_false, dBin_neq, h95, ne_eq, not_true, Option.bind_assoc]
          refine (hlp _ _ _).trans ?_
          simp [-bind_some, nameC]
        · simp only [F1018, bs, len9, dBin_lss, dBin_gtr, gd_bool, dPick_bool, h32, h1, decide_true, decide_false, gdW_bool, dIf_bool, mkRes_one, if_true, if_false, Bool.false_eq_true, reduceCtorEq, fnameOK, h33, Bool.false_and, hi0, s1019, hq, dUn_not, Bool.not_false, dBin_neq, h95, ne_eq, not_true, not_false_eq_true, Bool.or_false, Bool.and_false]
      · simp only [F1018, bs, len9, dBin_lss, dBin_gtr, gd_bool, dPick_bool, h32, h1, decide_true, decide_false, gdW_bool, dIf_bool, mkRes_one, if_true, if_false, Bool.false_eq_true, reduceCtorEq, fnameOK, h33, Bool.false_and, hi0, s1019, hq, dUn_not, Bool.not_true, gd_und, Option.bind_assoc]
        refine (hlp _ _ _).trans ?_
        simp [-bind_some, nameC]
def Asc (l : List (Str × Str)) : Prop := ∀ i p q, l[i]? = some p → l[i + 1]? = some q → Op.bytesLess p.1 q.1 = true ∧ p.1 ≠ q.1
theorem sgtr (t : Nat) (s u : Str) : dBin tab .gtr t (.str s) (.str u) = some (.bool (!(Op.bytesLess s u || s == u))) := id rfl
theorem fld_f0 (p : Str × Str) : (dFieldAddr tab ty109 0 (.fptr (fld p))) = some (.fptr (fld p)) := id rfl
theorem fld_l0 (p : Str × Str) (h : Hp) : dLoad tab h ty9 (.fptr (fld p)) = some (.str p.1) := id rfl
theorem l1006 (l : List Lin) (d : D) (fn : D) (pr : Lin → Bool) (h : Hp) (hd : SlOf 3 linr l d) (hl : l.length ≤ 9223372036854775807) (hf : ∀ x, callV R fn [.agg (linr x)] h = some (.bool (pr x), h)) {β : Type} (K : Out → Option β) (X : Int → Option β)
   (hX : ∀ v r, K (.ret, .int .i64 v :: r, h) = X v) (hY : ∀ r, K (.ext 0, r, h) = X (-1)) : ∀ (suf pre : List Lin), l = pre ++ suf → ∀ a b e f,
   (loopW (F1006_L0 d fn (.int .i64 l.length)) [a, b, .int .i64 pre.length, e, f] h).bind K = X (idx pr pre.length suf) := by
  intro suf
  induction suf with
  | nil =>
    rintro pre rfl a b e f
    rw [loopW_eq]
    simp [-bind_some, F1006_L0, hY, idx]
  | cons p suf ih =>
    rintro pre rfl a b e f
    have hw : IntKind.wrap .i64 ((pre.length : Int) + 1) = (pre ++ [p]).length := by
      rw [wrap_i64 (by omega) (by simp at hl; omega)]; simp [-bind_some]
    have hlt : (pre.length : Int) < (pre ++ p :: suf).length := by simp; omega
    rw [loopW_eq]
    generalize hL : pre ++ p :: suf = L at *
    have hg : L[pre.length]? = some p := by rw [← hL]; exact get_mid _ _ _
    by_cases hp : pr p = true
    · simp [-bind_some, F1006_L0, ixs28 hd, hlt, hg, linr_ld, hf, hp, hX, idx]
    · have := ih (pre ++ [p]) (by simp [-bind_some, ← hL]) a (.int .i64 pre.length) (.bool true) (.bool (pr p))
      simp only [← hw] at this
      simp [-bind_some, F1006_L0, ixs28 hd, hlt, hg, linr_ld, hf, hp, idx]
      simp [-bind_some, hp] at this
      exact this
theorem s1006 (l : List Lin) (d : D) (fn : D) (pr : Lin → Bool) (h : Hp) (hd : SlOf 3 linr l d) (hl : l.length ≤ 9223372036854775807) (hf : ∀ x, callV R fn [.agg (linr x)] h = some (.bool (pr x), h)) :
   R fn1006 [d, fn] h = some (.int .i64 (idx pr 0 l), h) := by
  rw [e1006]
  simp only [F1006, bs, lens28 hd, Option.bind_assoc]
  rw [show (0 : Int) = (([] : List Lin).length : Int) from rfl, l1006 l d fn pr h hd hl hf _ (fun v => some (.int .i64 v, h)) (fun v r => by simp) (fun r => by simp) l [] rfl]
  rfl
theorem app_full {T : Tab} {t e : Nat} {i j : TI} (ht : T t = Option.some i) (hi : i.td = .sl e) (he : T e = Option.some j) (hz : 0 < j.sz) {h : Hp} {ys : List (List D)} {y : D} (hy : dRowsOf h j.sz y = Option.some ys) (hl : lim ys.length j.by_ = true) :
    ∃ x' h', dAppend T h t t (.sl j.sz true []) y = Option.some (x', h') ∧ h.length ≤ h'.length ∧ (∀ q, q < h.length → h'[q]? = h[q]?) ∧ ((x' = .sl j.sz true [] ∧ ys = []) ∨ Own h' h.length e j.sz ys x') := by
  have hz' : Nat.blt 0 j.sz = true := Nat.ble_eq_true_of_le hz
  have hs : dSrc h i j y = Option.some ys := by simp [-bind_some, dSrc, hi, hy]
  unfold dAppend
  simp only [ht, hi, he, hz', hs]
  cases ys with
  | nil => exact ⟨_, _, rfl, Nat.le_refl _, fun _ _ => rfl, .inl ⟨rfl, rfl⟩⟩
  | cons y1 yr =>
    simp only [List.length_nil, Nat.zero_add, hl, and_self, if_true, List.nil_append, true_and]
    exact ⟨_, _, rfl, by simp [-bind_some, dNew], fun q hq => by simp only [dNew]; rw [List.getElem?_append_left hq], .inr (.inr ⟨h.length, Nat.le_refl _, rfl, by simp [-bind_some, dNew]⟩)⟩
def it0 : It := ⟨[], ⟨0, 0, 0, 0, [], .nils, 0, 0, [], [], [], .nils, SlOf.nils _ _, by simp, SlOf.nils _ _, by simp⟩⟩
def inr (n : Int) : List D := [.int .i64 n]
def orI : List Int → Int
  | [] => 0
  | x :: r => if x = 0 then orI r else x
theorem l89 (l : List Int) (d : D) (h : Hp) (hd : SlOf 1 inr l d) (hl : l.length ≤ 9223372036854775807) {β : Type} (K : Out → Option β) (X : Int → Option β)
   (hX : ∀ v r, K (.ret, .int .i64 v :: r, h) = X v) (hY : ∀ r, K (.ext 0, r, h) = X 0) : ∀ (suf pre : List Int), l = pre ++ suf → ∀ n : Int, n = pre.length → ∀ a b e f,
   (loopW (F89_L0 (.int .i64 0) d (.int .i64 l.length)) [a, b, .int .i64 n, e, f] h).bind K = X (orI suf) := by
  intro suf
  induction suf with
  | nil =>
    rintro pre rfl n rfl a b e f
    rw [loopW_eq]
    simp [-bind_some, F89_L0, hY, orI]
  | cons p suf ih =>
    rintro pre rfl n rfl a b e f
    have hw : IntKind.wrap .i64 ((pre.length : Int) + 1) = (pre ++ [p]).length := by
      rw [wrap_i64 (by omega) (by simp at hl; omega)]; simp [-bind_some]
    have hlt : (pre.length : Int) < (pre ++ p :: suf).length := by simp; omega
    rw [loopW_eq]
    generalize hL : pre ++ p :: suf = L at *
    have hg : L[pre.length]? = some p := by rw [← hL]; exact get_mid _ _ _
    by_cases hp : p = 0
    · subst hp
      have := ih (pre ++ [0]) (by simp [-bind_some, ← hL]) _ rfl a (.int .i64 0) (.bool true) (.bool false)
      simp only [← hw] at this
      simp [-bind_some, F89_L0, ixs82 hd, hlt, hg, inr, orI]
      exact this
    · simp [-bind_some, F89_L0, ixs82 hd, hlt, hg, inr, hp, hX, orI]
theorem s89 (l : List Int) (d : D) (h : Hp) (hd : SlOf 1 inr l d) (hl : l.length ≤ 9223372036854775807) : R fn89 [d] h = some (.int .i64 (orI l), h) := by
  rw [e89]
  simp only [F89, bs, lens82 hd, Option.bind_assoc]
  rw [l89 l d h hd hl _ (fun v => some (.int .i64 v, h)) (fun v r => by simp) (fun r => by simp) l [] rfl 0 rfl]
theorem n66 (o pos : Nat) (zs : List Int) (d : D) (h : Hp) (ho : h[o]? = some (.row ty80 2 [[d, .int .i64 pos]])) (hd : Given .u8 zs d) : R fn66 [.ptr o 0 0] h = some (.bool (decide (pos < zs.length)), h) := by
  rw [e66]
  simp [-bind_some, F66, Hp.row, ho, given_len hd]
def CM (h : Hp) (o : Nat) : Prop := ∃ (d : D) (zs : List Int) (pos : Nat), h[o]? = some (.row ty80 2 [[d, .int .i64 pos]]) ∧ Given .u8 zs d ∧ zs.length ≤ 400 ∧ pos ≤ 400 ∧ ∀ z ∈ zs, 0 ≤ z ∧ z < 256
theorem CM.keep {h h' : Hp} {o : Nat} (hc : CM h o) (he : h'[o]? = h[o]?) : CM h' o := by
  obtain ⟨d, zs, pos, ho, hr⟩ := hc
  exact ⟨d, zs, pos, by rw [he]; exact ho, hr⟩
theorem CM.lt {h : Hp} {o : Nat} (hc : CM h o) : o < h.length := by
  obtain ⟨d, zs, pos, ho, hr⟩ := hc
  exact (List.getElem?_eq_some_iff.1 ho).1
theorem CM.ok {h : Hp} {o : Nat} (hc : CM h o) (n : Nat) : ∀ T sz rows, h[o]? = some (.row T sz rows) → ∀ row ∈ rows, ∀ d ∈ row, Ok n d := by
  obtain ⟨d, zs, pos, ho, hd, _⟩ := hc
  intro T sz rows hr row hrow x hx
  rw [ho] at hr
  injection hr with hr
  injection hr with _ _ hr
  subst hr
  simp at hrow
  subst hrow
  simp at hx
  rcases hx with rfl | rfl
  · exact given_okd hd n
  · exact .int _ _
theorem m39 {h : Hp} {o : Nat} (hc : CM h o) (n : Int) (hn : 1 ≤ n) (hn2 : n ≤ 1000000000) : ∃ v h', R fn39 [.ptr o 0 0, .int .i64 n] h = some (.int .i64 v, h') ∧ CM h' o ∧ Same o h h' ∧ 0 ≤ v ∧ v < n := by
  obtain ⟨d, zs, pos, ho, hd, hl, hp4, hz⟩ := hc
  have hn' : ¬ n < 1 := by omega
  have hn0 : ¬ n = 0 := by omega
  by_cases hp : pos < zs.length
  · have hg : zs[pos]? = some zs[pos] := List.getElem?_eq_getElem hp
    have hm := hz zs[pos] (List.getElem_mem _)
    generalize zs[pos] = z at hg hm
    have hw : IntKind.wrap .i64 ((pos : Int) + 1) = (pos : Int) + 1 := wrap_i64 (by omega) (by omega)
    have hw2 : IntKind.wrap .i64 ((pos : Int) + 1 - 1) = (pos : Int) := by rw [wrap_i64 (by omega) (by omega)]; omega
    have hw3 : IntKind.wrap .i64 (pos : Int) = (pos : Int) := wrap_i64 (by omega) (by omega)
    have hzw : IntKind.wrap .i64 z = z := wrap_i64 (by omega) (by omega)
    have holt : o < h.length := (List.getElem?_eq_some_iff.1 ho).1
    have hs : ∀ X, (h.set o X)[o]? = some X := fun X => List.getElem?_set_self holt
    have h1 := Int.tmod_nonneg n hm.1
    have h2 := Int.tmod_lt_of_pos z (show 0 < n by omega)
    refine ⟨z.tmod n, h.set o (.row ty80 2 [[d, .int .i64 ((pos + 1 : Nat) : Int)]]), ?_, ⟨d, zs, pos + 1, by simp [-bind_some, holt], hd, hl, by omega, hz⟩, ⟨by simp, fun q hq => by rw [List.getElem?_set_ne (by omega)]⟩, h1, h2⟩
    rw [e39]
    simp [-bind_some, F39, n66 o pos zs d h ho hd, hp, hn', hn0, Hp.row, ho, store_ptr3, pSt, D.okv, cells1, D.one, spl, hw, hw2, hw3, given_ix hd pos z hg, hzw, hs]
  · refine ⟨0, h, ?_, ⟨d, zs, pos, ho, hd, hl, hp4, hz⟩, .refl _ _, by omega, by omega⟩
    rw [e39]
    simp [-bind_some, F39, n66 o pos zs d h ho hd, hp]
theorem m40 {h : Hp} {o : Nat} (hc : CM h o) (l : List Str) (d : D) (hd : SlOf 1 (fun s => [.str s]) l d) (h1 : 1 ≤ l.length) (h2 : l.length ≤ 1000) : ∃ s h', R fn40 [.ptr o 0 0, d] h = some (.str s, h') ∧ CM h' o ∧ Same o h h' ∧ s ∈ l := by
  obtain ⟨v, h', e1, c1, s1, v0, v1⟩ := m39 hc l.length (by omega) (by omega)
  obtain ⟨s, hs, hg⟩ := pick_of l v v0 v1
  refine ⟨s, h', ?_, c1, s1, hs⟩
  rw [e40]
  simp [-bind_some, F40, lens98 hd, e1, ixs98 hd, v0, hg]
theorem pick_wp {h : Hp} {o : Nat} (hc : CM h o) (l : List Str) (m : Nat) (hm : ∀ s ∈ l, s.length ≤ m) (h1 : 1 ≤ l.length) (h2 : l.length ≤ 1000) {β : Type} {f : D × Hp → Option β} {Q : β → Prop}
    (k : ∀ s h', CM h' o → Same o h h' → s ∈ l → s.length ≤ m → Wp (f (.str s, h')) Q) : Wp ((R fn40 [.ptr o 0 0, .sl 1 true (l.map fun s => [.str s])] h).bind f) Q := by
  obtain ⟨s, h', e1, c1, s1, hs⟩ := m40 hc l _ (.mk _ _ _ _) h1 h2
  rw [e1]
  exact k s h' c1 s1 hs (hm s hs)
theorem add_wp (t : Nat) {s u : Str} (hs : s.length ≤ 1000000000) (hu : u.length ≤ 1000000000) {β : Type} {f : D → Option β} {Q : β → Prop} (k : ∀ v : Str, v.length = s.length + u.length → Wp (f (.str v)) Q) : Wp ((dBin tab .add t (.str s) (.str u)).bind f) Q := by
  rw [dBin_sadd _ _ _ _ (by omega)]
  exact k _ (by simp)
theorem m83 {h : Hp} {o : Nat} (hc : CM h o) (most : Int) (hm0 : 0 ≤ most) (hm1 : most ≤ 20) : ∃ s h', R fn83 [.ptr o 0 0, .int .i64 most] h = some (.str s, h') ∧ CM h' o ∧ Same o h h' ∧ s.length ≤ 80 := by
  suffices Wp (R fn83 [.ptr o 0 0, .int .i64 most] h) (fun p => ∃ s, p.1 = .str s ∧ CM p.2 o ∧ Same o h p.2 ∧ s.length ≤ 80) by
    obtain ⟨⟨x, h'⟩, h1, s, rfl, h2⟩ := this
    exact ⟨s, h', h1, h2⟩
  rw [e83]
  have hw := wrap_i64 (n := most + 1) (by omega) (by omega)
  simp only [F83, bs, Option.bind_assoc, dBin_add, hw]
  obtain ⟨v, h1, e1, c1, s1, v0, v1⟩ := m39 hc (most + 1) (by omega) (by omega)
  refine Wp.step e1 ?_
  simp only [bs]
  refine Wp.loop (fun k ds g => ∃ s a, ds = [.str s, .int .i64 k, a] ∧ CM g o ∧ Same o h g ∧ k ≤ 20 ∧ s.length + 4 * k ≤ 80) (fun r => r.1 = .ext 0 ∧ ∃ s a b, r.2.1 = [.str s, a, b] ∧ CM r.2.2 o ∧ Same o h r.2.2 ∧ s.length ≤ 80) v.toNat ⟨[], .any, by rw [Int.toNat_of_nonneg v0], c1, s1, by omega, by simp; omega⟩ ?_ ?_
  · rintro k ds g ⟨s, a, rfl, cg, sg, hk, hs⟩
    simp only [F83_L0, nth_zero, nth_succ, bs, dBin_gtr]
    refine Wp.dif ?_ ?_
    · intro h0
      have h0 : 0 < (k : Int) := by simpa using h0
      simp only [lt98_33_ok, bs]
      refine pick_wp cg lt98_33 4 (by decide) (by decide) (by decide) fun u g1 c1 q1 _ hu => ?_
      simp only [bs]
      refine add_wp _ (by omega) (by omega) fun w hw => ?_
      have hk1 : IntKind.wrap .i64 ((k : Int) - 1) = ((k - 1 : Nat) : Int) := by
        rw [wrap_i64 (by omega) (by omega)]; omega
      simp only [bs, dBin_sub, hk1]
      exact .some (.inl ⟨rfl, k - 1, by omega, w, _, rfl, c1, sg.trans q1, by omega, by omega⟩)
    · intro _
      exact .some (.inr ⟨by simp, rfl, s, _, _, rfl, cg, sg, by omega⟩)
  · rintro ⟨x, ds, g⟩ ⟨rfl, s, a, b, rfl, cg, sg, hs⟩
    simp only [unblk_self, toEnd_nrm, nth_zero, bs, mkRes_one]
    exact .some ⟨s, rfl, cg, sg, hs⟩
theorem m67 {h : Hp} {o : Nat} (hc : CM h o) : ∃ s h', R fn67 [.ptr o 0 0] h = some (.str s, h') ∧ CM h' o ∧ Same o h h' ∧ s.length ≤ 200 := by
  suffices Wp (R fn67 [.ptr o 0 0] h) (fun p => ∃ s, p.1 = .str s ∧ CM p.2 o ∧ Same o h p.2 ∧ s.length ≤ 200) by
    obtain ⟨⟨x, h'⟩, h1, s, rfl, h2⟩ := this
    exact ⟨s, h', h1, h2⟩
  rw [e67]
  simp only [F67, bs, Option.bind_assoc, lt98_19_ok, lt98_20_ok, lt98_21_ok, lt98_22_ok, lt98_23_ok, lt98_24_ok, lt98_25_ok, lt98_26_ok, lt98_27_ok, lt98_28_ok, lt98_29_ok, lt98_30_ok, lt98_31_ok, lt98_32_ok]
  obtain ⟨v, h1, e1, c1, s1, v0, v1⟩ := m39 hc 8 (by omega) (by omega)
  refine Wp.step e1 ?_
  clear e1
  simp only [dBin_eql, bs]
  have fin : ∀ (s : Str) (g : Hp), CM g o → Same o h g → s.length ≤ 200 → Wp (some ((.str s : D), g)) (fun p => ∃ s, p.1 = .str s ∧ CM p.2 o ∧ Same o h p.2 ∧ s.length ≤ 200) := fun s g a b c => .some ⟨s, rfl, a, b, c⟩
  refine Wp.dif (fun _ => ?_) (fun _ => ?_)
  · repeat first
      | (refine pick_wp (by assumption) _ 8 (by decide) (by decide) (by decide) fun u g c1 q1 _ hu => ?_
         replace s1 := s1.trans q1
         clear q1
         try simp only [bs])
      | (refine add_wp _ (by first | omega | (simp [-bind_some]; omega) | simp [-bind_some]) (by first | omega | (simp [-bind_some]; omega) | simp [-bind_some]) fun w hw => ?_
         try simp only [List.length_cons, List.length_nil] at hw
         try simp only [bs])
    try simp only [mkRes_one]
    exact fin _ _ (by assumption) s1 (by omega)
  refine Wp.dif (fun _ => ?_) (fun _ => ?_)
  · repeat first
      | (refine pick_wp (by assumption) _ 8 (by decide) (by decide) (by decide) fun u g c1 q1 _ hu => ?_
         replace s1 := s1.trans q1
         clear q1
         try simp only [bs])
      | (refine add_wp _ (by first | omega | (simp [-bind_some]; omega) | simp [-bind_some]) (by first | omega | (simp [-bind_some]; omega) | simp [-bind_some]) fun w hw => ?_
         try simp only [List.length_cons, List.length_nil] at hw
         try simp only [bs])
    try simp only [mkRes_one]
    exact fin _ _ (by assumption) s1 (by omega)
  refine Wp.dif (fun _ => ?_) (fun _ => ?_)
  · repeat first
      | (refine pick_wp (by assumption) _ 8 (by decide) (by decide) (by decide) fun u g c1 q1 _ hu => ?_
         replace s1 := s1.trans q1
         clear q1
         try simp only [bs])
      | (refine add_wp _ (by first | omega | (simp [-bind_some]; omega) | simp [-bind_some]) (by first | omega | (simp [-bind_some]; omega) | simp [-bind_some]) fun w hw => ?_
         try simp only [List.length_cons, List.length_nil] at hw
         try simp only [bs])
    try simp only [mkRes_one]
    exact fin _ _ (by assumption) s1 (by omega)
  refine Wp.dif (fun _ => ?_) (fun _ => ?_)
  · repeat first
      | (refine pick_wp (by assumption) _ 8 (by decide) (by decide) (by decide) fun u g c1 q1 _ hu => ?_
         replace s1 := s1.trans q1
         clear q1
         try simp only [bs])
      | (refine add_wp _ (by first | omega | (simp [-bind_some]; omega) | simp [-bind_some]) (by first | omega | (simp [-bind_some]; omega) | simp [-bind_some]) fun w hw => ?_
         try simp only [List.length_cons, List.length_nil] at hw
         try simp only [bs])
    try simp only [mkRes_one]
    exact fin _ _ (by assumption) s1 (by omega)
  refine Wp.dif (fun _ => ?_) (fun _ => ?_)
  · repeat first
      | (refine pick_wp (by assumption) _ 8 (by decide) (by decide) (by decide) fun u g c1 q1 _ hu => ?_
         replace s1 := s1.trans q1
         clear q1
         try simp only [bs])
      | (refine add_wp _ (by first | omega | (simp [-bind_some]; omega) | simp [-bind_some]) (by first | omega | (simp [-bind_some]; omega) | simp [-bind_some]) fun w hw => ?_
         try simp only [List.length_cons, List.length_nil] at hw
         try simp only [bs])
    try simp only [mkRes_one]
    exact fin _ _ (by assumption) s1 (by omega)
  refine Wp.dif (fun _ => ?_) (fun _ => ?_)
  · repeat first
      | (refine pick_wp (by assumption) _ 8 (by decide) (by decide) (by decide) fun u g c1 q1 _ hu => ?_
         replace s1 := s1.trans q1
         clear q1
         try simp only [bs])
      | (refine add_wp _ (by first | omega | (simp [-bind_some]; omega) | simp [-bind_some]) (by first | omega | (simp [-bind_some]; omega) | simp [-bind_some]) fun w hw => ?_
         try simp only [List.length_cons, List.length_nil] at hw
         try simp only [bs])
    try simp only [mkRes_one]
    exact fin _ _ (by assumption) s1 (by omega)
  obtain ⟨s, g, e2, c2, s2, hs⟩ := m83 c1 6 (by omega) (by omega)
  simp only [e2, bs, mkRes_one]
  exact fin _ _ c2 (s1.trans s2) (by omega)
structure Sm (h0 : Hp) (o : Nat) (g : Hp) : Prop where
  lt : o < h0.length
  cd : CM g o
  gr : Grow h0.length o h0 g
theorem Sm.refl {h : Hp} {o : Nat} (hc : CM h o) : Sm h o h := ⟨hc.lt, hc, .refl _ _ _⟩
theorem Sm.next {h0 g g' : Hp} {o : Nat} (s : Sm h0 o g) (hc : CM g' o) (hs : Same o g g') : Sm h0 o g' := ⟨s.lt, hc, s.gr.trans hs.grow⟩
theorem Sm.app {h0 g g' : Hp} {o : Nat} (s : Sm h0 o g) (hl : g.length ≤ g'.length) (hb : ∀ q, q < h0.length → g'[q]? = g[q]?) : Sm h0 o g' := ⟨s.lt, s.cd.keep (hb o s.lt), s.gr.trans ⟨hl, fun q hq _ => hb q hq⟩⟩
theorem Sm.le {h0 g : Hp} {o : Nat} (s : Sm h0 o g) : h0.length ≤ g.length := s.gr.1
theorem Sm.scope {h0 g : Hp} {o : Nat} (s : Sm h0 o g) {d d' : D} (hd : frz h0.length g 4 d = d') (hok : Ok h0.length d') : ∃ h', scope h0 g d = some (d', h') ∧ CM h' o ∧ Same o h0 h' := by
  obtain ⟨h1, h2, h3⟩ := scope_same hd hok s.gr (s.cd.ok h0.length)
  exact ⟨_, h1, s.cd.keep (h3 o s.lt), h2⟩
def mch : Int → List Lin → Int → Prop
  | a, [], b => a = b
  | a, l :: r, b => l.off = a ∧ 1 ≤ l.len ∧ l.len ≤ 20 ∧ l.txt.length ≤ 200 ∧ mch (a + l.len) r b
theorem mch_snoc : ∀ (ls : List Lin) (a b : Int) (l : Lin), mch a ls b → l.off = b → 1 ≤ l.len → l.len ≤ 20 → l.txt.length ≤ 200 → mch a (ls ++ [l]) (b + l.len)
  | [], a, b, l, h, h1, h2, h3, h4 => by
    simp only [mch] at h
    subst h
    exact ⟨h1, h2, h3, h4, rfl⟩
  | x :: r, a, b, l, h, h1, h2, h3, h4 => ⟨h.1, h.2.1, h.2.2.1, h.2.2.2.1, mch_snoc r _ b l h.2.2.2.2 h1 h2 h3 h4⟩
theorem mch_le : ∀ (ls : List Lin) (a b : Int), mch a ls b → a + ls.length ≤ b ∧ b ≤ a + 20 * ls.length
  | [], a, b, h => by simp [-bind_some, mch] at h; simp [-bind_some]; omega
  | x :: r, a, b, h => by
    have := mch_le r _ b h.2.2.2.2
    have := h.2.1
    have := h.2.2.1
    simp only [List.length_cons]
    omega
theorem ldob3 {h : Hp} {q T z : Nat} {cs : List D} (hq : h[q]? = some (.row T z [cs])) (hl : cs.length = 3) : dLoad tab h ty78 (.ptr q 0 0) = some (.agg cs) := by
  rw [ldp78, row_of hq]
  simp [-bind_some, takeN, hl]
  exact List.take_of_length_le (by omega)
theorem new_get (g : Hp) (T z : Nat) (rows : List (List D)) : (dNew g T z rows)[g.length]? = some (.row T z rows) := by simp [-bind_some, dNew]
theorem new_old (g : Hp) (T z : Nat) (rows : List (List D)) {q : Nat} (hq : q < g.length) : (dNew g T z rows)[q]? = g[q]? := by
  simp only [dNew]; rw [List.getElem?_append_left hq]
theorem new_len (g : Hp) (T z : Nat) (rows : List (List D)) : (dNew g T z rows).length = g.length + 1 := by simp [-bind_some, dNew]
theorem m42 {h : Hp} {o : Nat} (hc : CM h o) (fr : Int) (hf0 : 0 ≤ fr) (hf1 : fr ≤ 1000000) (most : Int) (hm0 : 1 ≤ most) (hm1 : most ≤ 10) : ∃ x h', R fn42 [.ptr o 0 0, .int .i64 fr, .int .i64 most, .bool true] h = some (x, h') ∧ CM h' o ∧ Same o h h' ∧ ∃ ls e, SlOf 3 linr ls x ∧ mch fr ls e ∧ 1 ≤ ls.length ∧ ls.length ≤ most.toNat := by
  suffices Wp (R fn42 [.ptr o 0 0, .int .i64 fr, .int .i64 most, .bool true] h) (fun p => CM p.2 o ∧ Same o h p.2 ∧ ∃ ls e, SlOf 3 linr ls p.1 ∧ mch fr ls e ∧ 1 ≤ ls.length ∧ ls.length ≤ most.toNat) by
    obtain ⟨⟨x, h'⟩, h1, h2⟩ := this
    exact ⟨x, h', h1, h2⟩
  rw [e42]
  simp only [F42, bs, Option.bind_assoc]
  obtain ⟨v, h1, e1, c1, s1, v0, v1⟩ := m39 hc most (by omega) (by omega)
  have S1 := (Sm.refl hc).next c1 s1
  refine Wp.step e1 ?_
  clear e1
  have hw := wrap_i64 (n := 1 + v) (by omega) (by omega)
  simp only [dBin_add, hw, bs]
  refine Wp.loop (fun k ds g => ∃ (po : Int) (x a b c : D) (ls : List Lin), ds = [.int .i64 po, x, .int .i64 k, a, b, c] ∧ Sm h o g ∧ Own g h.length ty78 3 (ls.map linr) x ∧ mch fr ls po ∧ ls.length + k = (1 + v).toNat)
    (fun r => r.1 = .ext 0 ∧ ∃ (a x b c d e : D) (po : Int) (ls : List Lin), r.2.1 = [a, x, b, c, d, e] ∧ Sm h o r.2.2 ∧ Own r.2.2 h.length ty78 3 (ls.map linr) x ∧ mch fr ls po ∧ ls.length = (1 + v).toNat)
    (1 + v).toNat ⟨fr, .nils, .any, .any, .any, [], by rw [Int.toNat_of_nonneg (by omega)], S1, Own.nils _ _ _ _, rfl, by simp⟩ ?_ ?_
  · rintro k ds g ⟨po, x, a, b, c, ls, rfl, S, ow, hch, hk⟩
    simp only [F42_L0, nth_zero, nth_succ, bs, dBin_gtr]
    refine Wp.dif ?_ ?_
    · intro h0
      have h0 : 0 < (k : Int) := by simpa using h0
      have hcl := mch_le _ _ _ hch
      obtain ⟨u, g1, e1, c1, s1, u0, u1⟩ := m39 S.cd 20 (by omega) (by omega)
      have S1 := S.next c1 s1
      replace ow := ow.same s1 S.lt
      refine Wp.step e1 ?_
      clear e1
      have hw1 := wrap_i64 (n := 1 + u) (by omega) (by omega)
      have hx : ∀ q, x.inOb q → q < g1.length := fun q hq => (ow.lt hq).2
      simp only [dBin_add, hw1, bs, Option.bind_assoc, bd78_0_1, bs28_1]
      generalize hg2 : dNew g1 ty78 3 [[.int .i64 0, .int .i64 0, .str []]] = g2
      have p1 : g2[g1.length]? = some (.row ty78 3 [[.int .i64 0, .int .i64 0, .str []]]) := by rw [← hg2]; exact new_get _ _ _ _
      have hb2 : ∀ q, q < g1.length → g2[q]? = g1[q]? := fun q hq => by rw [← hg2]; exact new_old _ _ _ _ hq
      have hl2 : g2.length = g1.length + 1 := by rw [← hg2]; exact new_len _ _ _ _
      clear hg2
      have hle := S1.le
      refine wst78 p1 (by rfl) (by rfl) (by simp) (by rfl) fun g3 p3 sg => ?_
      replace p3 : g3[g1.length]? = some (.row ty78 3 [[.int .i64 po, .int .i64 (1 + u), .str []]]) := p3
      have hb3 : ∀ q, q < g1.length → g3[q]? = g1[q]? := fun q hq => (sg.2 q (by omega)).trans (hb2 q hq)
      have hl3 : g3.length = g1.length + 1 := sg.1.trans hl2
      have S3 := S1.app (by omega) fun q hq => hb3 q (by omega)
      replace ow : Own g3 h.length ty78 3 (ls.map linr) x := ow.keep fun q _ hq => hb3 q (hx q hq)
      clear p1 hb2 hl2 sg
      simp only [dIf_bool, if_true, Option.bind_assoc, bs]
      obtain ⟨tx, g4, e4, c4, s4, ht⟩ := m67 S3.cd
      have S4 := S3.next c4 s4
      replace ow := ow.same s4 S.lt
      have hno : o ≠ g1.length := fun hh => by have := S1.lt; omega
      replace p3 := (s4.2 g1.length (Ne.symm hno)).trans p3
      have hl4 : g4.length = g1.length + 1 := s4.1.trans hl3
      refine Wp.step e4 ?_
      clear e4
      simp only [bs, fap78_2, Nat.zero_add]
      refine wst9 p3 (by rfl) (by rfl) (by simp) (by rfl) fun g5 p5 sg => ?_
      replace p5 : g5[g1.length]? = some (.row ty78 3 [linr ⟨po, 1 + u, tx⟩]) := p5
      have hl5 : g5.length = g1.length + 1 := sg.1.trans hl4
      have S5 := S4.app (by omega) fun q hq => sg.2 q (by omega)
      replace ow : Own g5 h.length ty78 3 (ls.map linr) x := ow.keep fun q _ hq => sg.2 q (by have := hx q hq; omega)
      clear p3 sg
      simp only [bs, toEnd_nrm, ldob3 p5 rfl]
      rw [show pLitF tab ty28 1 [0] [.agg (linr ⟨po, 1 + u, tx⟩)] = some (.sl 3 true [linr ⟨po, 1 + u, tx⟩]) from id rfl]
      simp only [bs]
      refine wap28 (by omega) ow (rowsOf_sl _ _ _ _) (by simp; omega) fun x' g6 ow6 len bel keep _ => ?_
      have S6 := S5.app len bel
      have p6 := (keep g1.length (by omega) (fun hh => by have := hx _ hh; omega)).trans p5
      have r6 : g6.row g1.length 0 = some (linr ⟨po, 1 + u, tx⟩) := row_of p6
      have hw2 := wrap_i64 (n := po + (1 + u)) (by omega) (by omega)
      have hk1 : IntKind.wrap .i64 ((k : Int) - 1) = ((k - 1 : Nat) : Int) := by
        rw [wrap_i64 (by omega) (by omega)]; omega
      simp only [bs, fap78_1, Nat.zero_add, ldp3, r6, linr, List.drop_succ_cons, List.drop_zero, List.head?_cons, dBin_add, hw2, dBin_sub, hk1]
      exact .some (.inl ⟨rfl, k - 1, by omega, po + (1 + u), x', _, _, _, ls ++ [⟨po, 1 + u, tx⟩], rfl, S6, by rw [List.map_append]; exact ow6, mch_snoc _ _ _ _ hch rfl (by simp; omega) (by simp; omega) (by simpa using ht), by simp; omega⟩)
    · intro h0
      have h0 : ¬ 0 < (k : Int) := by simpa using h0
      exact .some (.inr ⟨by simp, rfl, _, x, _, _, _, _, po, ls, rfl, S, ow, hch, by omega⟩)
  · rintro ⟨ex, ds, g⟩ ⟨rfl, a, x, b, c, d, e, po, ls, rfl, S, ow, hch, hl⟩
    simp only [unblk_self, toEnd_nrm, nth_zero, nth_succ, bs, mkRes_one]
    have hsl := own_sl (n := 3) ow (Nat.le_refl _) (fun a _ => linr_frz _ g _ a)
    obtain ⟨h', hs, hcd, hsm⟩ := S.scope rfl (slof_ok hsl fun a _ => linr_ok _ a)
    rw [hs]
    exact .some ⟨hcd, hsm, ls, po, hsl, hch, by omega, by omega⟩
def MF (l : List (Str × Str)) : Prop := (l.map (·.1)).Sublist lt98_17 ∧ ∀ p ∈ l, p.2 ∈ lt98_18
theorem m41 {h : Hp} {o : Nat} (hc : CM h o) : ∃ x h', R fn41 [.ptr o 0 0] h = some (x, h') ∧ CM h' o ∧ Same o h h' ∧ ∃ l, SlOf 2 fld l x ∧ MF l := by
  suffices Wp (R fn41 [.ptr o 0 0] h) (fun p => CM p.2 o ∧ Same o h p.2 ∧ ∃ l, SlOf 2 fld l p.1 ∧ MF l) by
    obtain ⟨⟨x, h'⟩, h1, h2⟩ := this
    exact ⟨x, h', h1, h2⟩
  rw [e41]
  simp only [F41, bs, Option.bind_assoc, lt98_17_ok, len98, List.length_map, lt98_17_len]
  refine Wp.loop (fun k ds g => ∃ x a b c, ∃ (i : Nat) (l : List (Str × Str)), ds = [x, a, .int .i64 i, b, c] ∧ Sm h o g ∧ k + i = 4 ∧ Own g h.length ty109 2 (l.map fld) x ∧ (l.map (·.1)).Sublist (lt98_17.take i) ∧ ∀ p ∈ l, p.2 ∈ lt98_18)
    (fun r => r.1 = .ext 0 ∧ ∃ x a b c d l, r.2.1 = [x, a, b, c, d] ∧ Sm h o r.2.2 ∧ Own r.2.2 h.length ty109 2 (l.map fld) x ∧ MF l) 4 ⟨.nils, .any, .any, .any, 0, [], rfl, .refl hc, rfl, Own.nils _ _ _ _, by simp, by simp⟩ ?_ ?_
  · rintro k ds g ⟨x, a, b, c, i, l, rfl, S, hk, ow, hsub, hv⟩
    have hw : IntKind.wrap .i64 ((i : Int) + 1) = (i + 1 : Nat) := by
      rw [wrap_i64 (by omega) (by omega)]; omega
    simp only [F41_L0, nth_zero, nth_succ, bs, Option.bind_assoc, dBin_lss]
    refine Wp.dif ?_ ?_
    · intro h0
      have h0 : i < 4 := by have : (i : Int) < 4 := by simpa using h0
                            omega
      have hg : lt98_17[i]? = some lt98_17[i] := List.getElem?_eq_getElem h0
      simp only [ix98, Int.natCast_nonneg, if_true, Int.toNat_natCast, List.getElem?_map, hg, Option.map_some, bs, ld9]
      obtain ⟨v, h1, e1, c1, s1, v0, v1⟩ := m39 S.cd 3 (by omega) (by omega)
      have S1 := S.next c1 s1
      replace ow := ow.same s1 hc.lt
      refine Wp.step e1 ?_
      simp only [dBin_gtr, bs]
      refine Wp.join (P := fun r => ∃ x g, ∃ l : List (Str × Str), r = (.nrm, [x], g) ∧ Sm h o g ∧ Own g h.length ty109 2 (l.map fld) x ∧ (l.map (·.1)).Sublist (lt98_17.take (i + 1)) ∧ ∀ p ∈ l, p.2 ∈ lt98_18) ?_ ?_ ?_
      · intro _
        simp only [lt98_18_ok, bs]
        refine pick_wp S1.cd lt98_18 8 (by decide) (by decide) (by decide) fun u g2 c2 s2 hu _ => ?_
        have S2 := S1.next c2 s2
        replace ow := ow.same s2 hc.lt
        simp only [bs, bd109_0_1, bs29_1]
        have hll : l.length ≤ 4 := by
          have := hsub.length_le
          simp at this
          omega
        refine wap29 S2.le ow (rowsOf_sl _ _ _ _) (by simp; omega) fun x' g' ow len bel _ _ => ?_
        simp only [bs]
        refine .some ⟨x', g', l ++ [(lt98_17[i], u)], rfl, S2.app len bel, by rw [List.map_append]; exact ow, ?_, ?_⟩
        · rw [List.take_add_one, hg, List.map_append]
          exact hsub.append (List.Sublist.refl _)
        · intro p hp
          rcases List.mem_append.1 hp with hp | hp
          · exact hv p hp
          · simp at hp; subst hp; exact hu
      · intro _
        refine .some ⟨_, _, l, rfl, S1, ow, hsub.trans ?_, hv⟩
        rw [List.take_add_one]
        exact List.sublist_append_left _ _
      · rintro _ ⟨x, g, l, rfl, S, ow, hsub, hv⟩
        simp only [unblk_nrm, toEnd_nrm, nth_zero, dBin_add, bs, hw]
        exact .some (.inl ⟨rfl, k - 1, by omega, x, _, _, _, i + 1, l, rfl, S, by omega, ow, hsub, hv⟩)
    · intro h0
      have h0 : ¬ i < 4 := by have : ¬ (i : Int) < 4 := by simpa using h0
                              omega
      refine .some (.inr ⟨by simp, rfl, x, _, _, _, _, l, rfl, S, ow, hsub.trans (List.take_sublist _ _), hv⟩)
  · rintro ⟨x, ds, g⟩ ⟨rfl, x, a, b, c, d, l, rfl, S, ow, hl⟩
    simp only [unblk_self, toEnd_nrm, nth_zero, bs, mkRes_one]
    have hsl := own_sl (n := 3) ow (Nat.le_refl _) (fun a _ => fld_frz _ g _ a)
    obtain ⟨h', hs, hcd, hsm⟩ := S.scope rfl (slof_ok hsl fun a _ => fld_ok _ a)
    exact ⟨_, hs, hcd, hsm, l, hsl, hl⟩
structure EvM (e : Ev) : Prop where
  h0 : 0 ≤ e.a0
  h2 : e.a0 ≤ 2
  f0 : 0 ≤ e.a1
  f2 : e.a1 ≤ 2
  a0 : 0 ≤ e.a2
  a9 : e.a2 ≤ 100
  ch : mch e.a2 e.ls e.a3
  l1 : 1 ≤ e.ls.length
  l3 : e.ls.length ≤ 3
  t0 : 0 ≤ e.a5
  t9 : e.a5 ≤ 255000
  wt : e.a6 ∈ lt82_14
  tr : e.s7 ∈ lt98_15
  st : e.s8 ∈ lt98_16
  fs : MF e.fs
theorem m12 {h : Hp} {o : Nat} (hc : CM h o) : ∃ e h', R fn12 [.ptr o 0 0] h = some (.agg (evr e), h') ∧ CM h' o ∧ Same o h h' ∧ EvM e := by
  suffices Wp (R fn12 [.ptr o 0 0] h) (fun p => ∃ e, p.1 = .agg (evr e) ∧ CM p.2 o ∧ Same o h p.2 ∧ EvM e) by
    obtain ⟨⟨x, h'⟩, h1, e, rfl, h2⟩ := this
    exact ⟨e, h', h1, h2⟩
  have ho := hc.lt
  rw [e12]
  simp only [F12, bs, Option.bind_assoc, lt82_14_ok, lt98_15_ok, lt98_16_ok]
  generalize hg0 : dNew h ty31 10 [[.int .i64 0, .int .i64 0, .int .i64 0, .int .i64 0, .nils, .int .i64 0, .int .i64 0, .str [], .str [], .nils]] = g0
  have p0 : g0[h.length]? = some (.row ty31 10 [[.int .i64 0, .int .i64 0, .int .i64 0, .int .i64 0, .nils, .int .i64 0, .int .i64 0, .str [], .str [], .nils]]) := by rw [← hg0]; exact new_get _ _ _ _
  have S0 : Sm h o g0 := (Sm.refl hc).app (by rw [← hg0, new_len]; omega) fun q hq => by rw [← hg0]; exact new_old _ _ _ _ hq
  have hl0 : g0.length = h.length + 1 := by rw [← hg0]; exact new_len _ _ _ _
  clear hg0
  obtain ⟨v1, g1, e1, c1, s1, a1, b1⟩ := m39 S0.cd 3 (by omega) (by omega)
  refine Wp.step e1 ?_; clear e1; simp only [bs]
  obtain ⟨v2, g2, e2, c2, s2, a2, b2⟩ := m39 c1 3 (by omega) (by omega)
  refine Wp.step e2 ?_; clear e2; simp only [bs]
  obtain ⟨v3, g3, e3, c3, s3, a3, b3⟩ := m39 c2 6 (by omega) (by omega)
  refine Wp.step e3 ?_; clear e3
  simp only [bs, dBin_mul, wrap_i64 (n := 10 * v3) (by omega) (by omega)]
  obtain ⟨v4, g4, e4, c4, s4, a4, b4⟩ := m39 c3 256 (by omega) (by omega)
  refine Wp.step e4 ?_; clear e4
  simp only [bs, dBin_mul, wrap_i64 (n := 1000 * v4) (by omega) (by omega)]
  obtain ⟨v5, g5, e5, c5, s5, a5, b5⟩ := m39 c4 4 (by omega) (by omega)
  obtain ⟨wt, hwt, hg5⟩ := pick_of lt82_14 v5 a5 b5
  refine Wp.step e5 ?_; clear e5
  simp only [bs, ix82, a5, if_true, List.getElem?_map, hg5, Option.map_some, ld3]
  refine pick_wp c5 lt98_15 8 (by decide) (by decide) (by decide) fun tr g6 c6 s6 htr _ => ?_
  simp only [bs]
  refine pick_wp c6 lt98_16 8 (by decide) (by decide) (by decide) fun sm g7 c7 s7 hsm _ => ?_
  simp only [bs]
  obtain ⟨y, g8, e8, c8, s8, fs, hy, hfs⟩ := m41 c7
  refine Wp.step e8 ?_; clear e8
  have hy1 := slof_one hy
  simp only [bs, bd31_0_1_2_5_6_7_8_9 _ _ _ _ _ _ _ y hy1, chk_true]
  have sa := ((((((s1.trans s2).trans s3).trans s4).trans s5).trans s6).trans s7).trans s8
  have S8 := S0.next c8 sa
  replace p0 := (sa.2 h.length (by omega)).trans p0
  have hl8 : g8.length = h.length + 1 := sa.1.trans hl0
  clear S0 c1 c2 c3 c4 c5 c6 c7 s1 s2 s3 s4 s5 s6 s7 s8 sa
  generalize hg9 : dNew g8 ty31 10 [[.int .i64 0, .int .i64 0, .int .i64 0, .int .i64 0, .nils, .int .i64 0, .int .i64 0, .str [], .str [], .nils]] = g9
  have p9 : g9[g8.length]? = some (.row ty31 10 [[.int .i64 0, .int .i64 0, .int .i64 0, .int .i64 0, .nils, .int .i64 0, .int .i64 0, .str [], .str [], .nils]]) := by rw [← hg9]; exact new_get _ _ _ _
  have hb9 : ∀ q, q < g8.length → g9[q]? = g8[q]? := fun q hq => by rw [← hg9]; exact new_old _ _ _ _ hq
  have hl9 : g9.length = g8.length + 1 := by rw [← hg9]; exact new_len _ _ _ _
  clear hg9
  refine wst31 p9 (by rfl) (by rfl) (by simp) (by rfl) fun g10 p10 sg => ?_
  replace p10 : g10[g8.length]? = some (.row ty31 10 [[.int .i64 v1, .int .i64 v2, .int .i64 (10 * v3), .int .i64 0, .nils, .int .i64 (1000 * v4), .int .i64 wt, .str tr, .str sm, y]]) := p10
  have hb10 : ∀ q, q < g8.length → g10[q]? = g8[q]? := fun q hq => (sg.2 q (by omega)).trans (hb9 q hq)
  have hl10 : g10.length = h.length + 2 := by have := sg.1; omega
  have S10 := S8.app (by omega) fun q hq => hb10 q (by omega)
  replace p0 := (hb10 h.length (by omega)).trans p0
  rw [hl8] at p10 ⊢
  clear p9 hb9 hl9 sg hb10 S8 c8 hl8
  have r10 : g10.row (h.length + 1) 0 = some [.int .i64 v1, .int .i64 v2, .int .i64 (10 * v3), .int .i64 0, .nils, .int .i64 (1000 * v4), .int .i64 wt, .str tr, .str sm, y] := row_of p10
  simp only [bs, fap31_2, Nat.zero_add, ldp3, r10, List.drop_succ_cons, List.drop_zero, List.head?_cons]
  obtain ⟨z, g11, e11, c11, s11, ls, b, hz, hch, hl1, hl3⟩ := m42 S10.cd (10 * v3) (by omega) (by omega) 3 (by omega) (by omega)
  refine Wp.step e11 ?_; clear e11 r10
  have S11 := S10.next c11 s11
  replace p10 := (s11.2 (h.length + 1) (by omega)).trans p10
  replace p0 := (s11.2 h.length (by omega)).trans p0
  have hl11 : g11.length = h.length + 2 := s11.1.trans hl10
  have oz := one_cells (slof_one hz)
  simp only [bs, fap31_4, Nat.zero_add]
  refine wst28 p10 (by rfl) (by rw [oz.1]; rfl) (by simp) oz.2 fun g12 p12 sg => ?_
  rw [oz.1] at p12
  replace p12 : g12[h.length + 1]? = some (.row ty31 10 [[.int .i64 v1, .int .i64 v2, .int .i64 (10 * v3), .int .i64 0, z, .int .i64 (1000 * v4), .int .i64 wt, .str tr, .str sm, y]]) := p12
  have S12 := S11.app (Nat.le_of_eq sg.1.symm) fun q hq => sg.2 q (by omega)
  replace p0 := (sg.2 h.length (by omega)).trans p0
  have hl12 : g12.length = h.length + 2 := sg.1.trans hl11
  clear S10 S11 p10 sg s11 c11 hl11 hl10
  have r12 : g12.row (h.length + 1) 0 = some [.int .i64 v1, .int .i64 v2, .int .i64 (10 * v3), .int .i64 0, z, .int .i64 (1000 * v4), .int .i64 wt, .str tr, .str sm, y] := row_of p12
  have hcl := mch_le _ _ _ hch
  have hls : ∃ l, ls[((ls.length : Int) - 1).toNat]? = some l ∧ l.off + l.len = b := by
    clear hcl hz
    have key : ∀ (ls : List Lin) (a b : Int), mch a ls b → 1 ≤ ls.length → ∃ l, ls[ls.length - 1]? = some l ∧ l.off + l.len = b := by
      intro ls
      induction ls with
      | nil => intro a b _ hh; simp at hh
      | cons x r ih =>
        intro a b hm _
        cases r with
        | nil =>
          have h5 : a + x.len = b := hm.2.2.2.2
          exact ⟨x, rfl, by rw [hm.1]; exact h5⟩
        | cons x2 r =>
          obtain ⟨l, h1, h2⟩ := ih _ b hm.2.2.2.2 (by simp)
          exact ⟨l, by simpa using h1, h2⟩
    obtain ⟨l, h1, h2⟩ := key ls _ b hch hl1
    exact ⟨l, by rw [show ((ls.length : Int) - 1).toNat = ls.length - 1 by omega]; exact h1, h2⟩
  obtain ⟨l, hgl, hlb⟩ := hls
  have hw1 := wrap_i64 (n := (ls.length : Int) - 1) (by omega) (by omega)
  have hw2 := wrap_i64 (n := b) (by omega) (by omega)
  have hnn : (0 : Int) ≤ (ls.length : Int) - 1 := by omega
  have hbx : boxN 3 (.agg (linr l)) = some (.fptr (linr l)) := boxN_agg 3 _ rfl
  simp only [bs, ldp28, r12, List.drop_succ_cons, List.drop_zero, List.head?_cons, lens28 hz, dBin_sub, hw1, ixs28 hz, hnn, if_true, hgl, Option.map_some, linr_ld, hbx]
  simp only [linr, fa78_0, fa78_1, ld3, bs, dBin_add, hlb, hw2, fap31_3, Nat.zero_add]
  refine wst3 p12 (by rfl) (by rfl) (by simp) (by rfl) fun g13 p13 sg => ?_
  replace p13 : g13[h.length + 1]? = some (.row ty31 10 [[.int .i64 v1, .int .i64 v2, .int .i64 (10 * v3), .int .i64 b, z, .int .i64 (1000 * v4), .int .i64 wt, .str tr, .str sm, y]]) := p13
  have S13 := S12.app (Nat.le_of_eq sg.1.symm) fun q hq => sg.2 q (by omega)
  replace p0 := (sg.2 h.length (by omega)).trans p0
  clear p12 sg S12
  simp only [bs, ldob p13 rfl]
  refine wst31 p0 (by rfl) (by rfl) (by simp) (by rfl) fun g14 p14 sg => ?_
  replace p14 : g14[h.length]? = some (.row ty31 10 [[.int .i64 v1, .int .i64 v2, .int .i64 (10 * v3), .int .i64 b, z, .int .i64 (1000 * v4), .int .i64 wt, .str tr, .str sm, y]]) := p14
  have S14 := S13.app (Nat.le_of_eq sg.1.symm) fun q hq => sg.2 q (by omega)
  simp only [bs, ldob p14 rfl, mkRes_one]
  have hfl : fs.length ≤ 4 := by
    have := hfs.1.length_le
    simpa using this
  generalize hE : (⟨v1, v2, 10 * v3, b, ls, z, 1000 * v4, wt, tr, sm, fs, y, hy, by omega, hz, by omega⟩ : Ev) = E
  have hEr : evr E = [.int .i64 v1, .int .i64 v2, .int .i64 (10 * v3), .int .i64 b, z, .int .i64 (1000 * v4), .int .i64 wt, .str tr, .str sm, y] := by rw [← hE]; rfl
  have hEM : EvM E := by rw [← hE]; exact ⟨a1, by show v1 ≤ 2; omega, a2, by show v2 ≤ 2; omega, by show 0 ≤ 10 * v3; omega, by show 10 * v3 ≤ 100; omega, hch, hl1, hl3, by show 0 ≤ 1000 * v4; omega, by show 1000 * v4 ≤ 255000; omega, hwt, htr, hsm, hfs⟩
  rw [← hEr]
  obtain ⟨h', hsc, hcd, hsm2⟩ := S14.scope (d := .agg (evr E)) (d' := .agg (evr E)) (by
    rw [frz_agg, map_id_of fun d hd => evr_frz h.length g14 2 E d hd]) (.agg _ fun d hd => evr_ok _ E d hd)
  rw [hsc]
  exact .some ⟨E, rfl, hcd, hsm2, hEM⟩
theorem s1051 (n lo hi : Int) (h : Hp) : R fn1051 [.int .i64 n, .int .i64 lo, .int .i64 hi] h = some (.bool (decide (lo ≤ n) && decide (n ≤ hi)), h) := by
  rw [e1051]
  by_cases h1 : lo ≤ n <;> simp [-bind_some, F1051, h1]
def plB (e : Ev) : Bool := (decide (0 ≤ e.a0) && decide (e.a0 ≤ 999)) && ((decide (0 ≤ e.a1) && decide (e.a1 ≤ 2147483646)) && (decide (0 ≤ e.a2) && (decide (e.a2 < e.a3) && decide (e.a3 ≤ 60000))))
theorem s1047 (e : Ev) (h : Hp) : R fn1047 [.agg (evr e)] h = some (.bool (plB e), h) := by
  rw [e1047]
  have k2 := s1051 e.a1 0 2147483646 h
  simp only [F1047, bs, pBoxF_agg, evr, fa31_0, fa31_1, fa31_2, fa31_3, ld3, s1051 e.a0, dBin_geq, dBin_gtr, dBin_leq, plB]
  generalize (decide (0 ≤ e.a0) && decide (e.a0 ≤ 999)) = b1
  generalize (decide (0 ≤ e.a1) && decide (e.a1 ≤ 2147483646)) = b2 at k2 ⊢
  generalize h3 : decide (0 ≤ e.a2) = b3
  generalize h4 : decide (e.a2 < e.a3) = b4
  generalize h5 : decide (e.a3 ≤ 60000) = b5
  cases b1 <;> cases b2 <;> cases b3 <;> cases b4 <;> cases b5 <;> simp [-bind_some, k2, h3, h4, h5]
def lnE (to_ most : Int) : Int → List Lin → Int
  | _, [] => 0
  | at_, l :: r => if l.off = at_ ∧ ¬ l.len < 1 ∧ ¬ IntKind.wrap .i64 (to_ - at_) < l.len ∧ ¬ (r = [] ∧ l.len < IntKind.wrap .i64 (to_ - at_)) then (if most < l.txt.length then 3 else lnE to_ most (IntKind.wrap .i64 (at_ + l.len)) r) else 19
def linesE (e : Ev) (most : Int) : Int := if e.ls.length = 0 then 9 else if 40 < e.ls.length then 4 else lnE e.a3 most e.a2 e.ls
theorem s1048 (e : Ev) (m : Int) (h : Hp) : R fn1048 [.agg (evr e), .int .i64 m] h = some (.int .i64 (linesE e m), h) := by
  suffices Wp (R fn1048 [.agg (evr e), .int .i64 m] h) (fun p => p = (.int .i64 (linesE e m), h)) by
    obtain ⟨p, h1, rfl⟩ := this
    exact h1
  have sc : ∀ (g : Hp) (v : Int), h.length ≤ g.length → (∀ q, q < h.length → g[q]? = h[q]?) → scope h g (.int .i64 v) = some (.int .i64 v, h) := fun g v h1 h2 => scope_eq (by simp) (.int _ _) h1 h2
  rw [e1048]
  simp only [F1048, pBoxF_agg, bs, Option.bind_assoc, evr, fa31_4, fa31_2, ld28, ld3, lens28 e.hld, dBin_eql, dBin_gtr, mkRes_one]
  by_cases g0 : e.ls.length = 0
  · have g0' : (e.ls.length : Int) = 0 := by omega
    simp only [g0', decide_true, dIf_bool, if_true, sc h _ (Nat.le_refl _) (fun _ _ => rfl)]
    exact .some (by simp [-bind_some, linesE, g0])
  by_cases g4 : 40 < e.ls.length
  · have g0' : ¬ (e.ls.length : Int) = 0 := by omega
    have g4' : (40 : Int) < (e.ls.length : Int) := by omega
    simp only [g0', g4', decide_true, decide_false, Bool.false_eq_true, if_false, dIf_bool, if_true, sc h _ (Nat.le_refl _) (fun _ _ => rfl)]
    exact .some (by simp [-bind_some, linesE, g0, g4])
  have g0' : ¬ (e.ls.length : Int) = 0 := by omega
  have g4' : ¬ (40 : Int) < (e.ls.length : Int) := by omega
  have hE : linesE e m = lnE e.a3 m e.a2 e.ls := by simp [-bind_some, linesE, g0, g4]
  rw [hE]
  generalize hV : lnE e.a3 m e.a2 e.ls = V
  simp only [g0', g4', decide_true, decide_false, Bool.false_eq_true, if_false, dIf_bool, if_true]
  refine Wp.loop (fun k ds g => h.length ≤ g.length ∧ (∀ q, q < h.length → g[q]? = h[q]?) ∧ ∃ a b c d f u v, ∃ at_ : Int, ∃ i : Nat, ds = [a, .int .i64 at_, b, c, d, .int .i64 i, f, u, v] ∧ k + i = e.ls.length ∧ lnE e.a3 m at_ (e.ls.drop i) = V)
      (fun x => h.length ≤ x.2.2.length ∧ (∀ q, q < h.length → x.2.2[q]? = h[q]?) ∧ ((x.1 = .ext 1 ∧ V = 0) ∨ (x.1 = .ret ∧ nth 0 x.2.1 = .int .i64 V))) e.ls.length ⟨Nat.le_refl _, fun _ _ => rfl, _, _, _, _, _, _, _, _, 0, rfl, rfl, hV⟩ ?_ ?_
  · rintro k ds g ⟨hgl, hgb, a, b, c, d, f, u, v, at_, i, rfl, hk, hch⟩
    simp only [F1048_L0, nth_zero, nth_succ, bs, Option.bind_assoc, fa31_4, fa31_3, ld28, ld3, lens28 e.hld, dBin_lss]
    refine Wp.dif ?_ ?_
    · intro h0
      have h0 : i < e.ls.length := by have : (i : Int) < e.ls.length := by simpa using h0
                                      omega
      have hg : e.ls[i]? = some e.ls[i] := List.getElem?_eq_getElem h0
      have hw : IntKind.wrap .i64 ((i : Int) + 1) = ((i + 1 : Nat) : Int) := by
        rw [wrap_i64 (by omega) (by omega)]; omega
      have hw4 : IntKind.wrap .i64 ((e.ls.length : Int) - 1) = (e.ls.length : Int) - 1 := wrap_i64 (by omega) (by omega)
      have hlast : (e.ls.drop (i + 1) = []) ↔ (i : Int) = (e.ls.length : Int) - 1 := by
        rw [List.drop_eq_nil_iff]; omega
      rw [List.drop_eq_getElem_cons h0] at hch
      generalize e.ls[i] = x at hg hch
      generalize hrest : e.ls.drop (i + 1) = rest at hch hlast
      simp only [ixs28 e.hld, Int.natCast_nonneg, if_true, Int.toNat_natCast, hg, Option.map_some, bs, linr_ld]
      generalize hg2 : dNew g ty78 3 [[.int .i64 0, .int .i64 0, .str []]] = g2
      have p1 : g2[g.length]? = some (.row ty78 3 [[.int .i64 0, .int .i64 0, .str []]]) := by rw [← hg2]; exact new_get _ _ _ _
      have hb2 : ∀ q, q < g.length → g2[q]? = g[q]? := fun q hq => by rw [← hg2]; exact new_old _ _ _ _ hq
      have hl2 : g2.length = g.length + 1 := by rw [← hg2]; exact new_len _ _ _ _
      clear hg2
      refine wst78 p1 (by rfl) (by rfl) (by simp) (by rfl) fun g3 p3 sg => ?_
      replace p3 : g3[g.length]? = some (.row ty78 3 [linr x]) := p3
      have hgl3 : h.length ≤ g3.length := by have := sg.1; omega
      have hgb3 : ∀ q, q < h.length → g3[q]? = h[q]? := fun q hq => ((sg.2 q (by omega)).trans (hb2 q (by omega))).trans (hgb q hq)
      clear p1 hb2 hl2 sg hgb
      have r3 : g3.row g.length 0 = some [.int .i64 x.off, .int .i64 x.len, .str x.txt] := row_of p3
      simp only [bs, fap78_0, fap78_1, fap78_2, Nat.zero_add, ldp3, ldp9, r3, List.drop_succ_cons, List.drop_zero, List.head?_cons, dBin_sub, hw4, dBin_eql, dBin_neq, len9, dBin_gtr, dBin_lss]
      unfold lnE at hch
      by_cases q1 : x.off = at_
      · by_cases q2 : x.len < 1
        · rw [if_neg (fun hh => hh.2.1 q2)] at hch
          simp only [q1, q2, ne_eq, not_true, decide_false, decide_true, gd_bool, if_true, if_false, Bool.false_eq_true, reduceCtorEq, bs, dPick_bool, dIf_bool, fa31_3, ld3, fap78_0, fap78_1, fap78_2, Nat.zero_add, ldp3, ldp9, r3, List.drop_succ_cons, List.drop_zero, List.head?_cons, dBin_sub, hw4, dBin_eql, dBin_neq, len9, dBin_gtr, dBin_lss]
          exact .some (.inr ⟨by simp, hgl3, hgb3, .inr ⟨rfl, by simp [-bind_some, hch]⟩⟩)
        · by_cases q3 : IntKind.wrap .i64 (e.a3 - at_) < x.len
          · rw [if_neg (fun hh => hh.2.2.1 q3)] at hch
            simp only [q1, q2, q3, ne_eq, not_true, decide_false, decide_true, gd_bool, if_true, if_false, Bool.false_eq_true, reduceCtorEq, bs, dPick_bool, dIf_bool, fa31_3, ld3, fap78_0, fap78_1, fap78_2, Nat.zero_add, ldp3, ldp9, r3, List.drop_succ_cons, List.drop_zero, List.head?_cons, dBin_sub, hw4, dBin_eql, dBin_neq, len9, dBin_gtr, dBin_lss]
            exact .some (.inr ⟨by simp, hgl3, hgb3, .inr ⟨rfl, by simp [-bind_some, hch]⟩⟩)
          · by_cases hi : (i : Int) = (e.ls.length : Int) - 1
            · have hid : decide ((i : Int) = (e.ls.length : Int) - 1) = true := by simpa using hi
              by_cases q4 : x.len < IntKind.wrap .i64 (e.a3 - at_)
              · rw [if_neg (fun hh => hh.2.2.2 ⟨hlast.2 hi, q4⟩)] at hch
                simp only [q1, q2, q3, hid, ne_eq, not_true, not_false_eq_true, decide_false, decide_true, gd_bool, gd_und, if_true, if_false, Bool.false_eq_true, reduceCtorEq, bs, dPick_bool, dIf_bool, fa31_3, ld3, fap78_0, fap78_1, fap78_2, Nat.zero_add, ldp3, ldp9, r3, List.drop_succ_cons, List.drop_zero, List.head?_cons, dBin_sub, hw4, dBin_eql, dBin_neq, len9, dBin_gtr, dBin_lss, q4]
                exact .some (.inr ⟨by simp, hgl3, hgb3, .inr ⟨rfl, by simp [-bind_some, hch]⟩⟩)
              · rw [if_pos ⟨q1, q2, q3, fun hh => q4 hh.2⟩] at hch
                by_cases q5 : m < (x.txt.length : Int)
                · rw [if_pos q5] at hch
                  simp only [q1, q2, q3, hid, ne_eq, not_true, not_false_eq_true, decide_false, decide_true, gd_bool, gd_und, if_true, if_false, Bool.false_eq_true, reduceCtorEq, bs, dPick_bool, dIf_bool, fa31_3, ld3, fap78_0, fap78_1, fap78_2, Nat.zero_add, ldp3, ldp9, r3, List.drop_succ_cons, List.drop_zero, List.head?_cons, dBin_sub, hw4, dBin_eql, dBin_neq, len9, dBin_gtr, dBin_lss, q4, q5]
                  exact .some (.inr ⟨by simp, hgl3, hgb3, .inr ⟨rfl, by simp [-bind_some, hch]⟩⟩)
                · rw [if_neg q5] at hch
                  simp only [q1, q2, q3, hid, ne_eq, not_true, not_false_eq_true, decide_false, decide_true, gd_bool, gd_und, if_true, if_false, Bool.false_eq_true, reduceCtorEq, bs, dPick_bool, dIf_bool, fa31_3, ld3, fap78_0, fap78_1, fap78_2, Nat.zero_add, ldp3, ldp9, r3, List.drop_succ_cons, List.drop_zero, List.head?_cons, dBin_sub, hw4, dBin_eql, dBin_neq, len9, dBin_gtr, dBin_lss, q4, q5, dBin_add, hw]
                  exact .some (.inl ⟨rfl, k - 1, by omega, hgl3, hgb3, _, _, _, _, _, _, _, _, i + 1, rfl, by omega, by rw [hrest]; exact hch⟩)
            · rw [if_pos ⟨q1, q2, q3, fun hh => hi (hlast.1 hh.1)⟩] at hch
              have q4 : True := trivial
              by_cases q5 : m < (x.txt.length : Int)
              · rw [if_pos q5] at hch
                simp only [q1, q2, q3, hi, ne_eq, not_true, not_false_eq_true, decide_false, decide_true, gd_bool, gd_und, if_true, if_false, Bool.false_eq_true, reduceCtorEq, bs, dPick_bool, dIf_bool, fa31_3, ld3, fap78_0, fap78_1, fap78_2, Nat.zero_add, ldp3, ldp9, r3, List.drop_succ_cons, List.drop_zero, List.head?_cons, dBin_sub, hw4, dBin_eql, dBin_neq, len9, dBin_gtr, dBin_lss, q4, q5]
                exact .some (.inr ⟨by simp, hgl3, hgb3, .inr ⟨rfl, by simp [-bind_some, hch]⟩⟩)
              · rw [if_neg q5] at hch
                simp only [q1, q2, q3, hi, ne_eq, not_true, not_false_eq_true, decide_false, decide_true, gd_bool, gd_und, if_true, if_false, Bool.false_eq_true, reduceCtorEq, bs, dPick_bool, dIf_bool, fa31_3, ld3, fap78_0, fap78_1, fap78_2, Nat.zero_add, ldp3, ldp9, r3, List.drop_succ_cons, List.drop_zero, List.head?_cons, dBin_sub, hw4, dBin_eql, dBin_neq, len9, dBin_gtr, dBin_lss, q4, q5, dBin_add, hw]
                exact .some (.inl ⟨rfl, k - 1, by omega, hgl3, hgb3, _, _, _, _, _, _, _, _, i + 1, rfl, by omega, by rw [hrest]; exact hch⟩)
      · rw [if_neg (fun hh => q1 hh.1)] at hch
        simp only [q1, ne_eq, not_false_eq_true, decide_false, decide_true, gd_bool, if_true, if_false, Bool.false_eq_true, reduceCtorEq, bs, dPick_bool, dIf_bool, fa31_3, ld3, fap78_0, fap78_1, fap78_2, Nat.zero_add, ldp3, ldp9, r3, List.drop_succ_cons, List.drop_zero, List.head?_cons, dBin_sub, hw4, dBin_eql, dBin_neq, len9, dBin_gtr, dBin_lss]
        exact .some (.inr ⟨by simp, hgl3, hgb3, .inr ⟨rfl, by simp [-bind_some, hch]⟩⟩)
    · intro h0
      have h0 : ¬ i < e.ls.length := by have : ¬ (i : Int) < e.ls.length := by simpa using h0
                                        omega
      rw [List.drop_of_length_le (by omega)] at hch
      exact .some (.inr ⟨by simp, hgl, hgb, .inl ⟨rfl, hch.symm⟩⟩)
  · rintro ⟨ex, ds, g⟩ ⟨h1, h2, hc⟩
    simp only at h1 h2 hc
    rcases hc with ⟨rfl, rfl⟩ | ⟨rfl, hc⟩
    · simp only [unblk_self, toEnd_nrm, bs, mkRes_one, sc g 0 h1 h2]
      exact .some rfl
    · simp only [unblk_ret, toEnd_ret, exEnd_ret, nth_zero, bs, hc, mkRes_one, sc g V h1 h2]
      exact .some rfl
def dn {α : Type} (c : α → α → Int) (a : Nat) : Nat → List α → List α
  | 0, l => l
  | j + 1, l => match l[j + 1]?, l[j]? with
    | some x, some y => if a < j + 1 ∧ c x y < 0 then dn c a j ((l.set (j + 1) y).set j x) else l
    | _, _ => l
theorem dn_len {α : Type} (c : α → α → Int) (a : Nat) : ∀ (j : Nat) (l : List α), (dn c a j l).length = l.length
  | 0, l => rfl
  | j + 1, l => by
    unfold dn
    split
    · split
      · rw [dn_len c a j]; simp [-bind_some]
      · rfl
    · rfl
def isr {α : Type} (c : α → α → Int) (a : Nat) : Nat → Nat → List α → List α
  | _, 0, l => l
  | i, n + 1, l => isr c a (i + 1) n (dn c a i l)
theorem isr_len {α : Type} (c : α → α → Int) (a : Nat) : ∀ (n i : Nat) (l : List α), (isr c a i n l).length = l.length
  | 0, i, l => rfl
  | n + 1, i, l => by
    unfold isr
    rw [isr_len c a n, dn_len]
theorem set_map_row {α : Type} (f : α → List D) (l : List α) (i : Nat) (x : α) : (l.map f).set i (f x) = (l.set i x).map f := by rw [List.map_set]
theorem ldob2 {h : Hp} {q k T z : Nat} {rows : List (List D)} {p : Str × Str} (hq : h[q]? = some (.row T z rows)) (hk : rows[k]? = some (fld p)) : dLoad tab h ty109 (.ptr q k 0) = some (.agg (fld p)) := by
  rw [ldp109, row_of hq, hk]
  rfl
theorem l1065 (c : Str × Str → Str × Str → Int) (cmp : D) (hc : ∀ x y g, callV R cmp [.agg (fld x), .agg (fld y)] g = some (.int .i64 (c x y), g)) (ob N a : Nat) (hN : N ≤ 1000000000) {β : Type} {K : Out → Option β} {Q : β → Prop}
    (l : List (Str × Str)) (hl : l.length = N) (j : Nat) (hj : j < N) (h : Hp) (ho : h[ob]? = some (.row ty109 2 (l.map fld))) (b : D)
    (k : ∀ x y h', h'[ob]? = some (.row ty109 2 ((dn c a j l).map fld)) → Same ob h h' → Wp (K (.ext 2, [x, y], h')) Q) :
    Wp ((loopW (F1065_L1 (.msl 2 ob 0 N) (.int .i64 a) cmp) [.int .i64 j, b] h).bind K) Q := by
  generalize hV : dn c a j l = V at k
  refine Wp.loop (fun n ds g => ∃ b, ∃ j : Nat, ∃ l' : List (Str × Str), n = j ∧ ds = [.int .i64 j, b] ∧ l'.length = N ∧ j < N ∧ g[ob]? = some (.row ty109 2 (l'.map fld)) ∧ Same ob h g ∧ dn c a j l' = V)
    (fun r => r.1 = .ext 2 ∧ (∃ x y, r.2.1 = [x, y]) ∧ r.2.2[ob]? = some (.row ty109 2 (V.map fld)) ∧ Same ob h r.2.2) j ⟨b, j, l, rfl, rfl, hl, hj, ho, .refl _ _, hV⟩ ?_ ?_
  · clear ho hl hj hV l j
    rintro n ds g ⟨b, j, l, rfl, rfl, hl, hj, ho, sm, hV⟩
    simp only [F1065_L1, nth_zero, nth_succ, bs, Option.bind_assoc, dBin_gtr]
    cases n with
    | zero =>
      have hq : ¬ (a : Int) < ((0 : Nat) : Int) := by omega
      have hV : l = V := hV
      subst hV
      simp only [hq, decide_false, gd_bool, gdW_bool, Bool.false_eq_true, if_false, reduceCtorEq, bs, dPick_bool, dIf_bool]
      exact .some (.inr ⟨by simp, rfl, ⟨_, _, rfl⟩, ho, sm⟩)
    | succ j =>
      have g1 : l[j + 1]? = some l[j + 1] := List.getElem?_eq_getElem (by omega)
      have g0 : l[j]? = some l[j] := List.getElem?_eq_getElem (by omega)
      unfold dn at hV
      rw [g1, g0] at hV
      simp only at hV
      generalize l[j + 1] = x at g1 hV
      generalize l[j] = y at g0 hV
      by_cases ha : a < j + 1
      · have ha' : (a : Int) < ((j + 1 : Nat) : Int) := by omega
        have hw : IntKind.wrap .i64 (((j + 1 : Nat) : Int) - 1) = (j : Int) := by
          rw [wrap_i64 (by omega) (by omega)]; omega
        have i1 : (0 : Int) ≤ ((j + 1 : Nat) : Int) ∧ ((j + 1 : Nat) : Int) < (N : Int) := by omega
        have i0 : (0 : Int) ≤ (j : Int) ∧ (j : Int) < (N : Int) := by omega
        have m1 : (l.map fld)[j + 1]? = some (fld x) := by rw [List.getElem?_map, g1]; rfl
        have m0 : (l.map fld)[j]? = some (fld y) := by rw [List.getElem?_map, g0]; rfl
        simp only [ha', decide_true, gd_bool, gdW_bool, if_true, ixm29, i1, i0, and_self, Nat.zero_add, Int.toNat_natCast, dBin_sub, hw, bs, ldob2 ho m1, ldob2 ho m0, hc, dBin_lss, dPick_bool]
        by_cases hlt : c x y < 0
        · rw [if_pos ⟨ha, hlt⟩] at hV
          simp only [hlt, decide_true, dIf_bool, if_true]
          refine wst109 ho m1 (by rfl) (by simp [-bind_some, fld]) (by rfl) fun g2 p2 s2 => ?_
          rw [show spl (fld x) 0 (cells1 (.agg (fld y))) = fld y from id rfl, set_map_row] at p2
          have m2 : ((l.set (j + 1) y).map fld)[j]? = some (fld y) := by
            rw [List.getElem?_map, List.getElem?_set_ne (by omega), g0]; rfl
          try simp only [bs, i0, and_self, if_true, Nat.zero_add, Int.toNat_natCast]
          refine wst109 p2 m2 (by rfl) (by simp [-bind_some, fld]) (by rfl) fun g3 p3 s3 => ?_
          rw [show spl (fld y) 0 (cells1 (.agg (fld x))) = fld x from id rfl, set_map_row] at p3
          try simp only [bs]
          exact .some (.inl ⟨rfl, j, by omega, _, j, _, rfl, rfl, by simpa using hl, by omega, p3, (sm.trans s2).trans s3, hV⟩)
        · rw [if_neg (fun hh => hlt hh.2)] at hV
          subst hV
          simp only [hlt, decide_false, dIf_bool, Bool.false_eq_true, if_false]
          exact .some (.inr ⟨by simp, rfl, ⟨_, _, rfl⟩, ho, sm⟩)
      · rw [if_neg (fun hh => ha hh.1)] at hV
        subst hV
        have ha' : ¬ (a : Int) < ((j + 1 : Nat) : Int) := by omega
        simp only [ha', decide_false, gd_bool, gdW_bool, Bool.false_eq_true, if_false, reduceCtorEq, bs, dPick_bool, dIf_bool]
        exact .some (.inr ⟨by simp, rfl, ⟨_, _, rfl⟩, ho, sm⟩)
  · rintro ⟨x, ds, g⟩ ⟨rfl, ⟨u, v, rfl⟩, h1, h2⟩
    exact k u v g h1 h2
theorem s1065 (c : Str × Str → Str × Str → Int) (cmp : D) (hc : ∀ x y g, callV R cmp [.agg (fld x), .agg (fld y)] g = some (.int .i64 (c x y), g)) (ob N a b : Nat) (hN : N ≤ 1000000000) (hab : a < b ∨ (a = b ∧ b ≤ N)) (hb : b ≤ N)
    (l : List (Str × Str)) (hl : l.length = N) (h : Hp) (ho : h[ob]? = some (.row ty109 2 (l.map fld))) :
    ∃ d h', R fn1065 [.msl 2 ob 0 N, .int .i64 a, .int .i64 b, cmp] h = some (d, h') ∧ h'[ob]? = some (.row ty109 2 ((isr c a (a + 1) (b - (a + 1)) l).map fld)) ∧ Same ob h h' := by
  suffices Wp (R fn1065 [.msl 2 ob 0 N, .int .i64 a, .int .i64 b, cmp] h) (fun p => p.2[ob]? = some (.row ty109 2 ((isr c a (a + 1) (b - (a + 1)) l).map fld)) ∧ Same ob h p.2) by
    obtain ⟨⟨x, h'⟩, h1, h2⟩ := this
    exact ⟨x, h', h1, h2⟩
  rw [e1065]
  have hw : IntKind.wrap .i64 ((a : Int) + 1) = ((a + 1 : Nat) : Int) := by rw [wrap_i64 (by omega) (by omega)]; omega
  simp only [F1065, bs, Option.bind_assoc, dBin_add, hw]
  generalize hV : isr c a (a + 1) (b - (a + 1)) l = V
  refine Wp.loop (fun n ds g => ∃ u v w, ∃ i : Nat, ∃ l' : List (Str × Str), ds = [.int .i64 i, u, v, w] ∧ n = b - i ∧ l'.length = N ∧ g[ob]? = some (.row ty109 2 (l'.map fld)) ∧ Same ob h g ∧ isr c a i (b - i) l' = V)
    (fun r => r.1 = .ext 0 ∧ r.2.2[ob]? = some (.row ty109 2 (V.map fld)) ∧ Same ob h r.2.2) (b - (a + 1)) ⟨_, _, _, a + 1, l, rfl, rfl, hl, ho, .refl _ _, hV⟩ ?_ ?_
  · rintro n ds g ⟨u, v, w, i, l', rfl, rfl, hl', ho', sm, hV⟩
    simp only [F1065_L0, nth_zero, nth_succ, bs, Option.bind_assoc, dBin_lss]
    refine Wp.dif ?_ ?_
    · intro h0
      have h0 : i < b := by have : (i : Int) < (b : Int) := by simpa using h0
                            omega
      have hb1 : b - i = (b - (i + 1)) + 1 := by omega
      rw [hb1] at hV
      unfold isr at hV
      have hw2 : IntKind.wrap .i64 ((i : Int) + 1) = ((i + 1 : Nat) : Int) := by rw [wrap_i64 (by omega) (by omega)]; omega
      refine l1065 c cmp hc ob N a hN l' hl' i (by omega) g ho' _ fun x y g2 p2 s2 => ?_
      simp only [unblk_self, unblk_nrm, toEnd_nrm, bs, nth_zero, dBin_add, hw2]
      exact .some (.inl ⟨rfl, b - (i + 1), by omega, _, _, _, i + 1, _, rfl, rfl, by rw [dn_len]; exact hl', p2, sm.trans s2, hV⟩)
    · intro h0
      have h0 : ¬ i < b := by have : ¬ (i : Int) < (b : Int) := by simpa using h0
                              omega
      rw [show b - i = 0 by omega] at hV
      have hV : l' = V := hV
      subst hV
      exact .some (.inr ⟨by simp, rfl, ho', sm⟩)
  · rintro ⟨x, ds, g⟩ ⟨rfl, h1, h2⟩
    simp only [unblk_self, exEnd_nrm, bs]
    exact .some ⟨h1, h2⟩
theorem cmpB_lt : ∀ (a b : Str), Lib.compareBytes a b < 0 ↔ Op.bytesLess a b = true
  | [], [] => by simp [-bind_some, Lib.compareBytes, Op.bytesLess]
  | [], _ :: _ => by simp [-bind_some, Lib.compareBytes, Op.bytesLess]
  | _ :: _, [] => by simp [-bind_some, Lib.compareBytes, Op.bytesLess]
  | x :: a, y :: b => by
    have ih := cmpB_lt a b
    simp only [Lib.compareBytes, Op.bytesLess]
    by_cases h1 : x < y
    · simp [-bind_some, h1]
    · by_cases h2 : y < x
      · have h3 : ¬ x = y := fun hh => by subst hh; exact h1 h2
        simp [-bind_some, h1, h2, h3]
      · have h3 : x = y := by
          apply UInt8.toNat_inj.1
          have := mt UInt8.lt_iff_toNat_lt.2 h1
          have := mt UInt8.lt_iff_toNat_lt.2 h2
          omega
        subst h3
        simp [-bind_some, h1, ih]
def cF (x y : Str × Str) : Int := Lib.compareBytes x.1 y.1
theorem s1059 (a b : Str) (h : Hp) : R fn1059 [.str a, .str b] h = some (.int .i64 (Lib.compareBytes a b), h) := by
  rw [e1059]
  simp only [F1059, bs, e1064, F1064, xcmp, mkRes_one]
theorem s1058 (x y : Str × Str) (h : Hp) : R fn1058 [.agg (fld x), .agg (fld y)] h = some (.int .i64 (cF x y), h) := by
  rw [e1058]
  simp only [F1058, bs, pBoxF_agg, fld_f0, fld_l0, s1059, mkRes_one, cF]
theorem c1058 (x y : Str × Str) (h : Hp) : callV R (.fn (.func fn1058) [] []) [.agg (fld x), .agg (fld y)] h = some (.int .i64 (cF x y), h) := by
  rw [callV_some]; exact s1058 x y h
theorem s1063 (c : Str × Str → Str × Str → Int) (cmp : D) (hc : ∀ x y g, callV R cmp [.agg (fld x), .agg (fld y)] g = some (.int .i64 (c x y), g)) (ob N : Nat) (hN : N ≤ 20)
    (l : List (Str × Str)) (hl : l.length = N) (h : Hp) (ho : h[ob]? = some (.row ty109 2 (l.map fld))) :
    ∃ d h', R fn1063 [.msl 2 ob 0 N, .int .i64 N, cmp] h = some (d, h') ∧ h'[ob]? = some (.row ty109 2 ((isr c 0 1 (N - 1) l).map fld)) ∧ Same ob h h' := by
  suffices Wp (R fn1063 [.msl 2 ob 0 N, .int .i64 N, cmp] h) (fun p => p.2[ob]? = some (.row ty109 2 ((isr c 0 1 (N - 1) l).map fld)) ∧ Same ob h p.2) by
    obtain ⟨⟨x, h'⟩, h1, h2⟩ := this
    exact ⟨x, h', h1, h2⟩
  rw [e1063]
  simp only [F1063, bs, Option.bind_assoc]
  refine Wp.loop (fun n ds g => (n = 1 ∧ ∃ u, ds = [.int .i64 0, .int .i64 20, u] ∧ g = h) ∨ (n = 0 ∧ N = 20 ∧ ∃ u, ds = [.int .i64 20, .int .i64 40, u] ∧ g[ob]? = some (.row ty109 2 ((isr c 0 1 (N - 1) l).map fld)) ∧ Same ob h g))
    (fun r => r.1 = .ext 0 ∧ ∃ (a : Nat) (u v : D), r.2.1 = [.int .i64 a, u, v] ∧ ((a = 0 ∧ r.2.2 = h) ∨ (a = N ∧ r.2.2[ob]? = some (.row ty109 2 ((isr c 0 1 (N - 1) l).map fld)) ∧ Same ob h r.2.2))) 1 (.inl ⟨rfl, _, rfl, rfl⟩) ?_ ?_
  · rintro n ds g (⟨rfl, u, rfl, rfl⟩ | ⟨rfl, h20, u, rfl, p1, s1⟩)
    · simp only [F1063_L0, nth_zero, nth_succ, bs, Option.bind_assoc, dBin_leq]
      refine Wp.dif ?_ ?_
      · intro h0
        have h0 : N = 20 := by have : (20 : Int) ≤ (N : Int) := by simpa using h0
                               omega
        obtain ⟨d, h', e1, p1, s1⟩ := s1065 c cmp hc ob N 0 20 (by omega) (by omega) (by omega) l hl g ho
        have e1 : R fn1065 [.msl 2 ob 0 N, .int .i64 0, .int .i64 20, cmp] g = some (d, h') := e1
        simp only [e1, bs, dBin_add, show IntKind.wrap .i64 ((20 : Int) + 20) = 40 from rfl]
        exact .some (.inl ⟨rfl, 0, by omega, .inr ⟨rfl, h0, _, rfl, by rw [h0]; exact p1, s1⟩⟩)
      · intro h0
        exact .some (.inr ⟨by simp, rfl, 0, _, _, rfl, .inl ⟨rfl, rfl⟩⟩)
    · have hq : ¬ (40 : Int) ≤ (N : Int) := by omega
      simp only [F1063_L0, nth_zero, nth_succ, bs, Option.bind_assoc, dBin_leq, hq, decide_false, dIf_bool, Bool.false_eq_true, if_false]
      exact .some (.inr ⟨by simp, rfl, 20, _, _, rfl, .inr ⟨h20.symm, p1, s1⟩⟩)
  · rintro ⟨x, ds, g⟩ ⟨rfl, a, u, v, rfl, hg⟩
    simp only [unblk_self, toEnd_nrm, nth_zero, nth_succ, bs]
    have hin : ∃ d h', R fn1065 [.msl 2 ob 0 N, .int .i64 a, .int .i64 N, cmp] g = some (d, h') ∧ h'[ob]? = some (.row ty109 2 ((isr c 0 1 (N - 1) l).map fld)) ∧ Same ob h h' := by
      rcases hg with ⟨rfl, rfl⟩ | ⟨rfl, p1, s1⟩
      · exact s1065 c cmp hc ob N 0 N (by omega) (by omega) (by omega) l hl g ho
      · obtain ⟨d, h', q1, q2, q3⟩ := s1065 c cmp hc ob a a a (by omega) (by omega) (by omega) _ (by rw [isr_len]; exact hl) g p1
        rw [show a - (a + 1) = 0 by omega] at q2
        exact ⟨d, h', q1, q2, s1.trans q3⟩
    obtain ⟨d, h', q1, q2, q3⟩ := hin
    simp only [q1, bs]
    rw [loopW_eq]
    have hq : ¬ (20 : Int) < (N : Int) := by omega
    simp only [F1063_L1, nth_zero, nth_succ, bs, Option.bind_assoc, dBin_lss, hq, decide_false, dIf_bool, Bool.false_eq_true, if_false, unblk_self, exEnd_nrm]
    exact .some ⟨q2, q3⟩
theorem s1057 (c : Str × Str → Str × Str → Int) (cmp : D) (hc : ∀ x y g, callV R cmp [.agg (fld x), .agg (fld y)] g = some (.int .i64 (c x y), g)) (ob N : Nat) (hN : N ≤ 20)
    (l : List (Str × Str)) (hl : l.length = N) (h : Hp) (ho : h[ob]? = some (.row ty109 2 (l.map fld))) :
    ∃ d h', R fn1057 [.msl 2 ob 0 N, cmp] h = some (d, h') ∧ h'[ob]? = some (.row ty109 2 ((isr c 0 1 (N - 1) l).map fld)) ∧ Same ob h h' := by
  obtain ⟨d, h', q1, q2, q3⟩ := s1063 c cmp hc ob N hN l hl h ho
  refine ⟨mkRes [], h', ?_, q2, q3⟩
  rw [e1057]
  simp only [F1057, bs, lenm29, q1]
-- classes of bytes, by the program's table
theorem ixA (cs : List D) (i : Int) (h0 : 0 ≤ i) (h1 : i < 256) (hl : i.toNat < cs.length) : dIndexAddr tab ty1044 (.fptr cs) (.int .u8 i) = some (.fptr (cs.drop i.toNat)) := by
  have := ia_arr (T := tab) (t := ty1044) (n := 256) (z := 1) (i := ti1044) (j := ti5) (id rfl) (id rfl) (id rfl) (id rfl) (by omega) (cs := cs) (k := .u8) h0 h1 (by omega)
  rwa [Nat.mul_one] at this
theorem kinZ_len : kinZ.length = 256 := by decide
theorem kin_len : kin.length = 256 := by simp [-bind_some, kin, kinZ_len]
theorem kin_at (i : Nat) (hi : i < 256) : ∃ z, kin.drop i = .int .u8 z :: kin.drop (i + 1) ∧ kinZ[i]? = some z := by
  have hl := kinZ_len
  have hk := kin_len
  refine ⟨kinZ[i]'(by omega), ?_, List.getElem?_eq_getElem (by omega)⟩
  rw [List.drop_eq_getElem_cons (by omega)]
  simp [-bind_some, kin]
def kletter (z : Int) : Bool := decide (IntKind.wrap .u8 (BitVec.ofInt IntKind.u8.bits z &&& BitVec.ofInt IntKind.u8.bits 2).toNat ≠ 0)
def kword (z : Int) : Bool := decide (IntKind.wrap .u8 (BitVec.ofInt IntKind.u8.bits z &&& BitVec.ofInt IntKind.u8.bits 3).toNat ≠ 0)
theorem k_all : ∀ i : Fin 256, (kinZ[i.val]?).map kletter = some (letter i.val) ∧ (kinZ[i.val]?).map kword = some (digit i.val || letter i.val) := by decide
theorem s1061 (c : UInt8) (h : Hp) : R fn1061 [.int .u8 c.toNat] h = some (.bool (letter c.toNat), h) := by
  have hc : c.toNat < 256 := c.toNat_lt
  obtain ⟨z, hz, hg⟩ := kin_at c.toNat hc
  have hk := (k_all ⟨c.toNat, hc⟩).1
  simp only [hg, Option.map_some, Option.some.injEq] at hk
  have hl := kin_len
  rw [e1061]
  simp only [F1061, bs, ixA kin c.toNat (by omega) (by omega) (by rw [hl]; simpa using hc), Int.toNat_natCast, hz, ld5, dBin_and, dBin_neq, mkRes_one, ← hk, kletter]
theorem s1062 (c : UInt8) (h : Hp) : R fn1062 [.int .u8 c.toNat] h = some (.bool (wordc c.toNat), h) := by
  have hc : c.toNat < 256 := c.toNat_lt
  obtain ⟨z, hz, hg⟩ := kin_at c.toNat hc
  have hk := (k_all ⟨c.toNat, hc⟩).2
  simp only [hg, Option.map_some, Option.some.injEq] at hk
  have hl := kin_len
  rw [e1062]
  simp only [kword] at hk
  simp only [F1062, bs, ixA kin c.toNat (by omega) (by omega) (by rw [hl]; simpa using hc), Int.toNat_natCast, hz, ld5, dBin_and, dBin_neq, dBin_eql, wordc, hk]
  cases hq : (digit c.toNat || letter c.toNat) <;> simp [-bind_some]
theorem l1056 (s : Str) (h : Hp) (ob : Nat) (hob : h[ob]? = some (.row ty5 1 (bytesRows s))) (hl : s.length ≤ 9223372036854775807) {β : Type} (K : Out → Option β) (X : Bool → Option β) (hh : Hp)
   (hX : ∀ r, K (.ret, .bool false :: r, h) = X false) (hY : ∀ r, K (.ext 0, r, h) = X true) : ∀ (suf pre : Str), s = pre ++ suf → ∀ a b e f,
   (loopW (F1056_L0 (.msl 1 ob 0 s.length, hh) (.int .i64 s.length)) [a, b, .int .i64 pre.length, e, f] h).bind K = X (suf.all nameC) := by
  intro suf
  induction suf with
  | nil =>
    rintro pre rfl a b e f
    rw [loopW_eq]
    simp [-bind_some, F1056_L0, hY]
  | cons p suf ih =>
    rintro pre rfl a b e f
    have hw : IntKind.wrap .i64 ((pre.length : Int) + 1) = (pre ++ [p]).length := by
      rw [wrap_i64 (by omega) (by simp at hl; omega)]; simp [-bind_some]
    have hlt : (pre.length : Int) < (pre ++ p :: suf).length := by simp; omega
    rw [loopW_eq]
    generalize hL : pre ++ p :: suf = L at *
    have hg : (bytesRows L)[pre.length]? = some [.int .u8 p.toNat] := by rw [← hL]; simp [-bind_some, bytesRows]
    have hld : dLoad tab h ty5 (.ptr ob pre.length 0) = some (.int .u8 p.toNat) := by
      rw [ldp5, row_of hob, hg]; rfl
    have h0 : (0 : Int) ≤ (pre.length : Int) ∧ (pre.length : Int) < (L.length : Int) := ⟨by omega, hlt⟩
    cases hp : wordc p.toNat
    · by_cases h46 : (p.toNat : Int) = 46
      · have := ih (pre ++ [p]) (by simp [-bind_some, ← hL]) a (.int .u8 p.toNat) (.bool true) (.bool false)
        simp only [← hw] at this
        have h47 : wordc 46 = false := rfl
        have hs := s1062 p h
        rw [hp] at hs
        have hpn : nameC p = true := by simp [-bind_some, nameC, hp, h46]
        have hn : decide ((p.toNat : Int) ≠ 46) = false := by simp [-bind_some, h46]
        simp only [F1056_L0, nth_zero, nth_succ, bs, dBin_lss, hlt, decide_true, dIf_bool, if_true, ixm22, h0, and_self, Nat.zero_add, Int.toNat_natCast, hld, hs, dUn_not, Bool.not_false, gd_bool, dBin_neq, hn, dPick_bool, Bool.false_eq_true, if_false, dBin_add, List.all_cons, hpn, Bool.true_and]
        exact this
      · have hs := s1062 p h
        rw [hp] at hs
        have hpn : nameC p = false := by simp [-bind_some, nameC, hp, h46]
        have hn : decide ((p.toNat : Int) ≠ 46) = true := by simp [-bind_some, h46]
        simp only [F1056_L0, nth_zero, nth_succ, bs, dBin_lss, hlt, decide_true, dIf_bool, if_true, ixm22, h0, and_self, Nat.zero_add, Int.toNat_natCast, hld, hs, dUn_not, Bool.not_false, gd_bool, dBin_neq, hn, dPick_bool, List.all_cons, hpn, Bool.false_and, hX]
    · have := ih (pre ++ [p]) (by simp [-bind_some, ← hL]) a (.int .u8 p.toNat) (.bool true) (.bool false)
      simp only [← hw] at this
      have hs := s1062 p h
      rw [hp] at hs
      have hpn : nameC p = true := by simp [-bind_some, nameC, hp]
      simp only [F1056_L0, nth_zero, nth_succ, bs, dBin_lss, hlt, decide_true, dIf_bool, if_true, ixm22, h0, and_self, Nat.zero_add, Int.toNat_natCast, hld, hs, dUn_not, Bool.not_true, gd_bool, Bool.false_eq_true, if_false, reduceCtorEq, dPick_bool, dBin_add, List.all_cons, hpn, Bool.true_and]
      exact this
theorem s1056 (s : Str) (h : Hp) : R fn1056 [.str s] h = some (.bool (fnameOK s), h) := by
  have sc : ∀ (g : Hp) (v : Bool), h.length ≤ g.length → (∀ q, q < h.length → g[q]? = h[q]?) → scope h g (.bool v) = some (.bool v, h) := fun g v h1 h2 => scope_eq (by simp) (.bool _) h1 h2
  rw [e1056]
  cases s with
  | nil =>
    simp only [F1056, bs, dBin_seql, beq_self_eq_true, gd_bool, gdW_bool, reduceCtorEq, if_false, dPick_bool, if_true, dIf_bool, mkRes_one, Bool.true_eq_false, sc h _ (Nat.le_refl _) (fun _ _ => rfl)]
    rfl
  | cons c r =>
    have hne : ((c :: r : Str) == []) = false := by simp
    by_cases h32 : (32 : Int) < ((c :: r).length : Int)
    · have hf : fnameOK (c :: r) = false := by
        have : ¬ (c :: r).length ≤ 32 := by omega
        simp [-bind_some, fnameOK]
        intro hh; simp at this; omega
      simp only [F1056, bs, dBin_seql, hne, gd_bool, gdW_bool, if_true, len9, dBin_gtr, h32, decide_true, reduceCtorEq, if_false, dPick_bool, dIf_bool, mkRes_one, Bool.true_eq_false, Bool.false_eq_true, gd_und, gdW_und, sc h _ (Nat.le_refl _) (fun _ _ => rfl), hf]
    · have hle : (c :: r).length ≤ 32 := by omega
      have hi0 := sidx (c :: r) 0 c rfl
      have hi0 : dIndex tab ty9 (.str (c :: r)) (.int .i64 0) = some (.int .u8 c.toNat) := hi0
      have hs := s1061 c h
      have hwb : wBytes ty5 h (.str (c :: r)) = some (.msl 1 h.length 0 (c :: r).length, dNew h ty5 1 (bytesRows (c :: r))) := if_pos (lim_ok (by omega) (by omega))
      have p1 := new_get h ty5 1 (bytesRows (c :: r))
      have hsc : ∀ v, scope h (dNew h ty5 1 (bytesRows (c :: r))) (.bool v) = some (.bool v, h) := fun v => sc _ _ (by rw [new_len]; omega) fun q hq => new_old _ _ _ _ hq
      have go : ∀ (b : Bool), (letter c.toNat || decide ((c.toNat : Int) = 95)) = b → fnameOK (c :: r) = (b && (c :: r).all nameC) := fun b hb => by
        simp only [fnameOK, hle, decide_true, Bool.true_and, hb]
      cases hq : letter c.toNat
      · rw [hq] at hs
        by_cases h95 : (c.toNat : Int) = 95
        · have hn95 : decide ((c.toNat : Int) ≠ 95) = false := by simp [-bind_some, h95]
          rw [go true (by simp [-bind_some, hq, h95])]
          simp only [F1056, bs, Option.bind_assoc, dBin_seql, hne, gd_bool, gdW_bool, if_true, len9, dBin_gtr, h32, decide_false, reduceCtorEq, if_false, dPick_bool, dIf_bool, Bool.false_eq_true, hi0, hs, dUn_not, Bool.not_false, dBin_neq, hn95, hwb, lenm22]
          have := l1056 (c :: r) (dNew h ty5 1 (bytesRows (c :: r))) h.length p1 (by omega) (fun r_1 => (some ((unblk 0 r_1.1), [(nth 0 r_1.2.1), (nth 1 r_1.2.1), (nth 2 r_1.2.1), (nth 3 r_1.2.1), (nth 4 r_1.2.1)], r_1.2.2)).bind fun r_2 => toEnd r_2.1 (scope h r_2.2.2 (.bool true)) fun x => exEnd x (scope h r_2.2.2 (mkRes [nth 0 r_2.2.1]))) (fun b => some (.bool b, h)) (dNew h ty5 1 (bytesRows (c :: r))) (fun r => by simp [-bind_some, hsc]) (fun r => by simp [-bind_some, hsc]) (c :: r) [] rfl (.bool false) .any .any .any
          simpa using this
        · have hn95 : decide ((c.toNat : Int) ≠ 95) = true := by simp [-bind_some, h95]
          rw [go false (by simp [-bind_some, hq, h95])]
          simp only [F1056, bs, dBin_seql, hne, gd_bool, gdW_bool, if_true, len9, dBin_gtr, h32, decide_false, reduceCtorEq, if_false, dPick_bool, dIf_bool, Bool.false_eq_true, hi0, hs, dUn_not, Bool.not_false, dBin_neq, hn95, mkRes_one, sc h _ (Nat.le_refl _) (fun _ _ => rfl), Bool.false_and]
      · rw [hq] at hs
        rw [go true (by simp [-bind_some, hq])]
        simp only [F1056, bs, Option.bind_assoc, dBin_seql, hne, gd_bool, gdW_bool, if_true, len9, dBin_gtr, h32, decide_false, reduceCtorEq, if_false, dPick_bool, dIf_bool, Bool.false_eq_true, hi0, hs, dUn_not, Bool.not_true, hwb, lenm22, gd_und]
        have := l1056 (c :: r) (dNew h ty5 1 (bytesRows (c :: r))) h.length p1 (by omega) (fun r_1 => (some ((unblk 0 r_1.1), [(nth 0 r_1.2.1), (nth 1 r_1.2.1), (nth 2 r_1.2.1), (nth 3 r_1.2.1), (nth 4 r_1.2.1)], r_1.2.2)).bind fun r_2 => toEnd r_2.1 (scope h r_2.2.2 (.bool true)) fun x => exEnd x (scope h r_2.2.2 (mkRes [nth 0 r_2.2.1]))) (fun b => some (.bool b, h)) (dNew h ty5 1 (bytesRows (c :: r))) (fun r => by simp [-bind_some, hsc]) (fun r => by simp [-bind_some, hsc]) (c :: r) [] rfl (.bool false) .any .any .any
        simpa using this
def RdF (h : Hp) (l : List (Str × Str)) (d : D) : Prop := SlOf 2 fld l d ∨ ∃ ob, d = .msl 2 ob 0 l.length ∧ h[ob]? = some (.row ty109 2 (l.map fld))
theorem rdF_len {h : Hp} {l : List (Str × Str)} {d : D} (hd : RdF h l d) : dLenT tab ty29 d = some (.int .i64 l.length) := by
  rcases hd with hd | ⟨ob, rfl, _⟩
  · exact lens29 hd
  · exact lenm29 _ _ _ _
theorem rdF_ix {h : Hp} {l : List (Str × Str)} {d : D} (hd : RdF h l d) (i : Nat) (p : Str × Str) (hp : l[i]? = some p) : ∃ q, dIndexAddr tab ty29 d (.int .i64 i) = some q ∧ dLoad tab h ty109 q = some (.agg (fld p)) ∧
    ∃ q0, dFieldAddr tab ty109 0 q = some q0 ∧ dLoad tab h ty9 q0 = some (.str p.1) := by
  have hi := (List.getElem?_eq_some_iff.1 hp).1
  rcases hd with hd | ⟨ob, rfl, ho⟩
  · exact ⟨.fptr (fld p), by rw [ixs29 hd]; simp [-bind_some, hp], fld_ld p h, .fptr (fld p), fld_f0 p, fld_l0 p h⟩
  · have hr : (l.map fld)[i]? = some (fld p) := by rw [List.getElem?_map, hp]; rfl
    have hh : (0 : Int) ≤ (i : Int) ∧ (i : Int) < (l.length : Int) := by omega
    refine ⟨.ptr ob i 0, by rw [ixm29]; simp [-bind_some, hh], ldob2 ho hr, .ptr ob i 0, by rw [fap109_0], ?_⟩
    rw [ldp9, row_of ho, hr]; rfl
theorem RdF.keep {h h' : Hp} {l : List (Str × Str)} {d : D} (hd : RdF h l d) (hk : ∀ (q T z : Nat) (rows : List (List D)), h[q]? = some (Ob.row T z rows) → h'[q]? = h[q]?) : RdF h' l d := by
  rcases hd with hd | ⟨ob, rfl, ho⟩
  · exact .inl hd
  · exact .inr ⟨ob, rfl, by rw [hk ob _ _ _ ho]; exact ho⟩
theorem u1009 (l : List (Str × Str)) (d : D) (h : Hp) (hd : SlOf 2 fld l d) (hl : l.length ≤ 1000000) : ∃ d' h', R fn1009 [d] h = some (d', h') ∧ h.length ≤ h'.length ∧ (∀ q, q < h.length → h'[q]? = h[q]?) ∧
    ((l = [] ∧ SlOf 2 fld [] d') ∨ ∃ ob, h.length ≤ ob ∧ d' = .msl 2 ob 0 l.length ∧ h'[ob]? = some (.row ty109 2 (l.map fld))) := by
  rw [e1009]
  rcases hd with ⟨rfl, rfl⟩ | ⟨b, rfl⟩
  · exact ⟨.nils, h, by
      have hne : dBin tab .eql ty29 .nils .nils = some (.bool true) := id rfl
      simp [-bind_some, F1009, hne], Nat.le_refl _, fun _ _ => rfl, .inl ⟨rfl, .nils _ _⟩⟩
  · obtain ⟨x', h', e, hl', hq, ho⟩ := app_full (T := tab) (t := ty29) (i := ti29) (j := ti109) (h := h) (id rfl) (id rfl) (id rfl) (by decide) (y := .sl 2 b (l.map fld)) (rowsOf_sl _ _ _ _) (lim_ok (by have : ti109.by_ = 32 := rfl; rw [this, List.length_map]; omega) (by rw [List.length_map]; omega))
    have e' : dAppend tab h ty29 ty29 (.sl 2 true []) (.sl 2 b (l.map fld)) = some (x', h') := e
    have hne : dBin tab .eql ty29 (.sl 2 b (l.map fld)) .nils = some (.bool false) := id rfl
    refine ⟨x', h', ?_, hl', hq, ?_⟩
    · simp only [F1009, bs, hne, dIf_bool, Bool.false_eq_true, if_false, bs29_0, e', mkRes_one]
    · rcases ho with ⟨rfl, hn⟩ | ⟨rfl, hn⟩ | ⟨ob, h1, rfl, h2⟩
      · have : l = [] := by simpa using hn
        exact .inl ⟨this, .inr ⟨true, rfl⟩⟩
      · have : l = [] := by simpa using hn
        exact .inl ⟨this, .nils _ _⟩
      · exact .inr ⟨ob, h1, by rw [List.length_map]; rfl, h2⟩
def srt (l : List (Str × Str)) : List (Str × Str) := isr cF 0 1 (l.length - 1) l
theorem srt_len (l : List (Str × Str)) : (srt l).length = l.length := isr_len _ _ _ _ _
def adjB : List (Str × Str) → Bool
  | x :: y :: r => y.1 == x.1 || adjB (y :: r)
  | _ => false
def sortF (l : List (Str × Str)) : Int × List (Str × Str) := if 32 < l.length then (4, []) else if l.all (fun p => fnameOK p.1) = true then (if adjB (srt l) = true then (7, []) else (0, srt l)) else (6, [])
theorem l1052a (l : List (Str × Str)) (d : D) (h : Hp) (hd : SlOf 2 fld l d) (hl : l.length ≤ 1000) {β : Type} {K : Out → Option β} {Q : β → Prop} (a b c e f : D)
    (k1 : l.all (fun p => fnameOK p.1) = true → ∀ x y z w, Wp (K (.ext 0, [a, b, x, y, z, w], h)) Q) (k2 : ¬ l.all (fun p => fnameOK p.1) = true → ∀ x y z w, Wp (K (.ret, [.nils, .int .i64 6, x, y, z, w], h)) Q) :
    Wp ((loopW (F1052_L0 d (.int .i64 l.length)) [a, b, c, .int .i64 0, e, f] h).bind K) Q := by
  generalize hV : l.all (fun p => fnameOK p.1) = V at k1 k2
  refine Wp.loop (fun k ds g => g = h ∧ ∃ c e f, ∃ i : Nat, ds = [a, b, c, .int .i64 i, e, f] ∧ k + i = l.length ∧ (l.drop i).all (fun p => fnameOK p.1) = V)
      (fun x => x.2.2 = h ∧ ((x.1 = .ext 0 ∧ V = true ∧ ∃ p q r s, x.2.1 = [a, b, p, q, r, s]) ∨ (x.1 = .ret ∧ V = false ∧ ∃ p q r s, x.2.1 = [.nils, .int .i64 6, p, q, r, s]))) l.length ⟨rfl, _, _, _, 0, rfl, rfl, hV⟩ ?_ ?_
  · rintro k ds g ⟨rfl, c, e, f, i, rfl, hk, hch⟩
    simp only [F1052_L0, nth_zero, nth_succ, bs, Option.bind_assoc, dBin_lss]
    refine Wp.dif ?_ ?_
    · intro h0
      have h0 : i < l.length := by have : (i : Int) < l.length := by simpa using h0
                                   omega
      have hg : l[i]? = some l[i] := List.getElem?_eq_getElem h0
      have hw : IntKind.wrap .i64 ((i : Int) + 1) = ((i + 1 : Nat) : Int) := by
        rw [wrap_i64 (by omega) (by omega)]; omega
      rw [List.drop_eq_getElem_cons h0] at hch
      generalize l[i] = x at hg hch
      have hbx : boxN 2 (.agg (fld x)) = some (.fptr (fld x)) := boxN_agg 2 _ rfl
      simp only [ixs29 hd, Int.natCast_nonneg, if_true, Int.toNat_natCast, hg, Option.map_some, bs, fld_ld, hbx, fld_f0 x, fld_l0, s1056, dUn_not]
      simp only [List.all_cons] at hch
      cases hf : fnameOK x.1
      · rw [hf] at hch
        simp only [Bool.not_false, dIf_bool, if_true]
        exact .some (.inr ⟨by simp, rfl, .inr ⟨rfl, hch.symm, _, _, _, _, rfl⟩⟩)
      · rw [hf] at hch
        simp only [Bool.not_true, dIf_bool, Bool.false_eq_true, if_false, dBin_add, bs, hw]
        exact .some (.inl ⟨rfl, k - 1, by omega, rfl, _, _, _, i + 1, rfl, by omega, hch⟩)
    · intro h0
      have h0 : l.length ≤ i := by have : ¬ (i : Int) < l.length := by simpa using h0
                                   omega
      rw [List.drop_of_length_le h0] at hch
      exact .some (.inr ⟨by simp, rfl, .inl ⟨rfl, hch.symm, _, _, _, _, rfl⟩⟩)
  · rintro ⟨x, ds, g⟩ ⟨h2, h3⟩
    simp only at h2 h3
    subst h2
    rcases h3 with ⟨rfl, hv, p, q, r, s, rfl⟩ | ⟨rfl, hv, p, q, r, s, rfl⟩
    · exact k1 hv _ _ _ _
    · exact k2 (by rw [hv]; simp [-bind_some]) _ _ _ _
theorem l1052b (l : List (Str × Str)) (d : D) (h : Hp) (hd : RdF h l d) (hl : l.length ≤ 1000) {β : Type} {K : Out → Option β} {Q : β → Prop} (a b c e : D)
    (k1 : adjB l = false → ∀ x y z, Wp (K (.ext 2, [a, b, x, y, z], h)) Q) (k2 : adjB l = true → ∀ x y z, Wp (K (.ret, [.nils, .int .i64 7, x, y, z], h)) Q) :
    Wp ((loopW (F1052_L1 d) [a, b, .int .i64 1, c, e] h).bind K) Q := by
  generalize hV : adjB l = V at k1 k2
  refine Wp.loop (fun k ds g => g = h ∧ ∃ c e, ∃ i : Nat, ds = [a, b, .int .i64 ((i + 1 : Nat) : Int), c, e] ∧ k = l.length - i ∧ adjB (l.drop i) = V)
      (fun x => x.2.2 = h ∧ ((x.1 = .ext 2 ∧ V = false ∧ ∃ p q r, x.2.1 = [a, b, p, q, r]) ∨ (x.1 = .ret ∧ V = true ∧ ∃ p q r, x.2.1 = [.nils, .int .i64 7, p, q, r]))) l.length ⟨rfl, _, _, 0, rfl, rfl, hV⟩ ?_ ?_
  · rintro k ds g ⟨rfl, c, e, i, rfl, hk, hch⟩
    simp only [F1052_L1, nth_zero, nth_succ, bs, Option.bind_assoc, rdF_len hd, dBin_lss]
    refine Wp.dif ?_ ?_
    · intro h0
      have h0 : i + 1 < l.length := by have : ((i + 1 : Nat) : Int) < l.length := by simpa using h0
                                       omega
      have g1 : l[i + 1]? = some l[i + 1] := List.getElem?_eq_getElem h0
      have g0 : l[i]? = some l[i] := List.getElem?_eq_getElem (by omega)
      have hw : IntKind.wrap .i64 (((i + 1 : Nat) : Int) + 1) = ((i + 1 + 1 : Nat) : Int) := by
        rw [wrap_i64 (by omega) (by omega)]; omega
      have hw2 : IntKind.wrap .i64 (((i + 1 : Nat) : Int) - 1) = (i : Int) := by
        rw [wrap_i64 (by omega) (by omega)]; omega
      rw [List.drop_eq_getElem_cons (show i < l.length by omega), List.drop_eq_getElem_cons h0] at hch
      unfold adjB at hch
      rw [← List.drop_eq_getElem_cons h0] at hch
      generalize l[i + 1] = x at g1 hch
      generalize l[i] = y at g0 hch
      obtain ⟨q1, a1, _, r1, b1, c1⟩ := rdF_ix hd (i + 1) x g1
      obtain ⟨q0, a0, _, r0, b0, c0⟩ := rdF_ix hd i y g0
      simp only [a1, a0, b1, b0, c1, c0, bs, dBin_sub, hw2, dBin_seql]
      cases hf : (x.1 == y.1)
      · rw [hf] at hch
        simp only [dIf_bool, Bool.false_eq_true, if_false, dBin_add, bs, hw]
        exact .some (.inl ⟨rfl, l.length - (i + 1), by omega, rfl, _, _, i + 1, rfl, rfl, hch⟩)
      · rw [hf] at hch
        simp only [dIf_bool, if_true]
        exact .some (.inr ⟨by simp, rfl, .inr ⟨rfl, hch.symm, _, _, _, rfl⟩⟩)
    · intro h0
      have h0 : l.length ≤ i + 1 := by have : ¬ ((i + 1 : Nat) : Int) < l.length := by simpa using h0
                                       omega
      have hv : V = false := by
        rw [← hch]
        have : (l.drop i).length ≤ 1 := by simp; omega
        match l.drop i, this with
        | [], _ => rfl
        | [x], _ => rfl
      exact .some (.inr ⟨by simp, rfl, .inl ⟨rfl, hv, _, _, _, rfl⟩⟩)
  · rintro ⟨x, ds, g⟩ ⟨h2, h3⟩
    simp only at h2 h3
    subst h2
    rcases h3 with ⟨rfl, hv, p, q, r, rfl⟩ | ⟨rfl, hv, p, q, r, rfl⟩
    · exact k1 hv _ _ _
    · exact k2 hv _ _ _
theorem s1057e (d cmp : D) (h : Hp) (hd : SlOf 2 fld [] d) : ∃ x, R fn1057 [d, cmp] h = some (x, h) := by
  have hl : dLenT tab ty29 d = some (.int .i64 0) := lens29 hd
  have h65 : ∃ x, R fn1065 [d, .int .i64 0, .int .i64 0, cmp] h = some (x, h) := by
    rw [e1065]
    refine ⟨mkRes [], ?_⟩
    simp only [F1065, bs, Option.bind_assoc, dBin_add, show IntKind.wrap .i64 ((0 : Int) + 1) = 1 from rfl]
    rw [loopW_eq]
    simp [-bind_some, F1065_L0]
  obtain ⟨x, h65⟩ := h65
  have h63 : ∃ x, R fn1063 [d, .int .i64 0, cmp] h = some (x, h) := by
    rw [e1063]
    refine ⟨mkRes [], ?_⟩
    simp only [F1063, bs, Option.bind_assoc]
    rw [loopW_eq]
    have h20 : ¬ (20 : Int) ≤ 0 := by omega
    have h21 : ¬ (20 : Int) < 0 := by omega
    simp only [F1063_L0, nth_zero, nth_succ, bs, dBin_leq, h20, decide_false, dIf_bool, Bool.false_eq_true, if_false, unblk_self, toEnd_nrm, h65]
    rw [loopW_eq]
    simp only [F1063_L1, nth_zero, nth_succ, bs, dBin_lss, h21, decide_false, dIf_bool, Bool.false_eq_true, if_false, unblk_self, exEnd_nrm]
  obtain ⟨y, h63⟩ := h63
  refine ⟨mkRes [], ?_⟩
  rw [e1057]
  simp only [F1057, bs, hl, h63]
theorem s1052 (l : List (Str × Str)) (d : D) (h : Hp) (hd : SlOf 2 fld l d) (hl : l.length ≤ 20) : ∃ d' h', R fn1052 [d] h = some (.tup [d', .int .i64 (sortF l).1], h') ∧ h.length ≤ h'.length ∧ (∀ q, q < h.length → h'[q]? = h[q]?) ∧ ((sortF l).1 = 0 → RdF h' (sortF l).2 d') := by
  suffices Wp (R fn1052 [d] h) (fun p => ∃ d', p.1 = .tup [d', .int .i64 (sortF l).1] ∧ h.length ≤ p.2.length ∧ (∀ q, q < h.length → p.2[q]? = h[q]?) ∧ ((sortF l).1 = 0 → RdF p.2 (sortF l).2 d')) by
    obtain ⟨⟨x, h'⟩, h1, d', rfl, h2⟩ := this
    exact ⟨d', h', h1, h2⟩
  rw [e1052]
  have h32 : ¬ (32 : Int) < (l.length : Int) := by omega
  have h32n : ¬ 32 < l.length := by omega
  simp only [F1052, bs, Option.bind_assoc, lens29 hd, dBin_gtr, h32, decide_false, dIf_bool, Bool.false_eq_true, if_false]
  refine l1052a l d h hd (by omega) _ _ _ _ _ (fun hv x y z w => ?_) (fun hv x y z w => ?_)
  · simp only [unblk_self, toEnd_nrm, nth_zero, nth_succ, bs]
    obtain ⟨d1, h1, e1, hl1, hb1, hd1⟩ := u1009 l d h hd (by omega)
    simp only [e1, bs]
    have hsrt : ∃ x h2, R fn1057 [d1, .fn (.func fn1058) [] []] h1 = some (x, h2) ∧ h.length ≤ h2.length ∧ (∀ q, q < h.length → h2[q]? = h[q]?) ∧ RdF h2 (srt l) d1 := by
      rcases hd1 with ⟨rfl, hd1⟩ | ⟨ob, hob, rfl, ho⟩
      · obtain ⟨x, hx⟩ := s1057e d1 (.fn (.func fn1058) [] []) h1 hd1
        exact ⟨x, h1, hx, hl1, hb1, .inl hd1⟩
      · obtain ⟨x, h2, q1, q2, q3⟩ := s1057 cF (.fn (.func fn1058) [] []) (fun x y g => c1058 x y g) ob l.length hl l rfl h1 ho
        refine ⟨x, h2, q1, by have := q3.1; omega, fun q hq => (q3.2 q (by omega)).trans (hb1 q hq), .inr ⟨ob, by rw [srt_len], q2⟩⟩
    obtain ⟨u, h2, e2, hl2, hb2, hr⟩ := hsrt
    simp only [e2, bs]
    refine l1052b (srt l) d1 h2 hr (by rw [srt_len]; omega) _ _ _ _ (fun ha x y z => ?_) (fun ha x y z => ?_)
    · have hs : sortF l = (0, srt l) := by simp only [sortF, h32n, if_false, hv, if_true, ha, Bool.false_eq_true]
      rw [hs]
      simp only [unblk_self, toEnd_nrm, bs, mkRes_two]
      exact .some ⟨d1, rfl, hl2, hb2, fun _ => hr⟩
    · have hs : sortF l = (7, []) := by simp only [sortF, h32n, if_false, hv, if_true, ha]
      rw [hs]
      simp only [unblk_ret, toEnd_ret, exEnd_ret, nth_zero, nth_succ, bs, mkRes_two]
      exact .some ⟨.nils, rfl, hl2, hb2, fun hh => by cases hh⟩
  · have hs : sortF l = (6, []) := by simp only [sortF, h32n, if_false, hv]; rfl
    rw [hs]
    simp only [unblk_ret, toEnd_ret, exEnd_ret, nth_zero, nth_succ, bs, mkRes_two]
    exact .some ⟨.nils, rfl, Nat.le_refl _, fun _ _ => rfl, fun hh => by cases hh⟩
theorem s1053 (l r : List (Str × Str)) (d e : D) (h : Hp) (hd : RdF h l d) (he : RdF h r e) (hl : l.length ≤ 1000) : R fn1053 [d, e] h = some (.bool (decide (l = r)), h) := by
  suffices Wp (R fn1053 [d, e] h) (fun p => p = (.bool (decide (l = r)), h)) by
    obtain ⟨p, h1, rfl⟩ := this
    exact h1
  rw [e1053]
  simp only [F1053, bs, Option.bind_assoc, rdF_len hd, rdF_len he, dBin_neq]
  by_cases hlen : (l.length : Int) = (r.length : Int)
  · have hlen' : l.length = r.length := by omega
    simp only [hlen, ne_eq, not_true, decide_false, dIf_bool, Bool.false_eq_true, if_false]
    generalize hV : decide (l = r) = V
    refine Wp.loop (fun k ds g => g = h ∧ ∃ a b c f, ∃ i : Nat, ds = [a, b, .int .i64 i, c, f] ∧ k + i = r.length ∧ decide (l.drop i = r.drop i) = V)
      (fun x => x.2.2 = h ∧ ((x.1 = .ext 0 ∧ V = true) ∨ (x.1 = .ret ∧ V = false ∧ nth 0 x.2.1 = .bool false))) r.length ⟨rfl, _, _, _, _, 0, rfl, rfl, hV⟩ ?_ ?_
    · rintro k ds g ⟨rfl, a, b, c, f, i, rfl, hk, hch⟩
      simp only [F1053_L0, nth_zero, nth_succ, bs, Option.bind_assoc, dBin_lss]
      refine Wp.dif ?_ ?_
      · intro h0
        have h0 : i < r.length := by have : (i : Int) < r.length := by simpa using h0
                                     omega
        have gl : l[i]? = some l[i] := List.getElem?_eq_getElem (by omega)
        have gr : r[i]? = some r[i] := List.getElem?_eq_getElem h0
        have hw : IntKind.wrap .i64 ((i : Int) + 1) = ((i + 1 : Nat) : Int) := by
          rw [wrap_i64 (by omega) (by omega)]; omega
        rw [List.drop_eq_getElem_cons (show i < l.length by omega), List.drop_eq_getElem_cons h0] at hch
        generalize l[i] = x at gl hch
        generalize r[i] = y at gr hch
        obtain ⟨q1, a1, b1, _⟩ := rdF_ix hd i x gl
        obtain ⟨q0, a0, b0, _⟩ := rdF_ix he i y gr
        simp only [a1, a0, b1, b0, bs, fld_neq]
        by_cases hxy : x = y
        · subst hxy
          simp only [ne_eq, not_true, decide_false, dIf_bool, Bool.false_eq_true, if_false, dBin_add, bs, hw]
          exact .some (.inl ⟨rfl, k - 1, by omega, rfl, _, _, _, _, i + 1, rfl, by omega, by rw [← hch]; simp [-bind_some]⟩)
        · have hne : decide (x ≠ y) = true := by simpa using hxy
          simp only [hne, dIf_bool, if_true]
          exact .some (.inr ⟨by simp, rfl, .inr ⟨rfl, by rw [← hch]; simp [-bind_some, hxy], rfl⟩⟩)
      · intro h0
        have h0 : r.length ≤ i := by have : ¬ (i : Int) < r.length := by simpa using h0
                                     omega
        rw [List.drop_of_length_le h0, List.drop_of_length_le (by omega)] at hch
        exact .some (.inr ⟨by simp, rfl, .inl ⟨rfl, by rw [← hch]; simp [-bind_some]⟩⟩)
    · rintro ⟨x, ds, g⟩ ⟨h2, h3⟩
      simp only at h2 h3
      subst h2
      rcases h3 with ⟨rfl, hv⟩ | ⟨rfl, hv, hn⟩
      · simp only [unblk_self, toEnd_nrm, bs, mkRes_one, hv]
        exact .some rfl
      · simp only [unblk_ret, toEnd_ret, exEnd_ret, nth_zero, bs, hn, mkRes_one, hv]
        exact .some rfl
  · have hne : decide ((l.length : Int) ≠ (r.length : Int)) = true := by simpa using hlen
    have hlr : decide (l = r) = false := by
      simp [-bind_some]; intro hh; subst hh; exact hlen rfl
    simp only [hne, dIf_bool, if_true, mkRes_one, hlr]
    exact .some rfl
theorem l1060 (l : List (Str × Str)) (d : D) (fn : D) (pr : Str × Str → Bool) (h : Hp) (hd : RdF h l d) (hl : l.length ≤ 9223372036854775807) (hf : ∀ x, callV R fn [.agg (fld x)] h = some (.bool (pr x), h)) {β : Type} (K : Out → Option β) (X : Int → Option β)
   (hX : ∀ v r, K (.ret, .int .i64 v :: r, h) = X v) (hY : ∀ r, K (.ext 0, r, h) = X (-1)) : ∀ (suf pre : List (Str × Str)), l = pre ++ suf → ∀ a b e f,
   (loopW (F1060_L0 d fn (.int .i64 l.length)) [a, b, .int .i64 pre.length, e, f] h).bind K = X (idx pr pre.length suf) := by
  intro suf
  induction suf with
  | nil =>
    rintro pre rfl a b e f
    rw [loopW_eq]
    simp [-bind_some, F1060_L0, hY, idx]
  | cons p suf ih =>
    rintro pre rfl a b e f
    have hw : IntKind.wrap .i64 ((pre.length : Int) + 1) = (pre ++ [p]).length := by
      rw [wrap_i64 (by omega) (by simp at hl; omega)]; simp [-bind_some]
    have hlt : (pre.length : Int) < (pre ++ p :: suf).length := by simp; omega
    rw [loopW_eq]
    generalize hL : pre ++ p :: suf = L at *
    have hg : L[pre.length]? = some p := by rw [← hL]; exact get_mid _ _ _
    obtain ⟨q, a1, b1, _⟩ := rdF_ix hd _ _ hg
    by_cases hp : pr p = true
    · simp [-bind_some, F1060_L0, a1, b1, hlt, hf, hp, hX, idx]
    · have := ih (pre ++ [p]) (by simp [-bind_some, ← hL]) a (.int .i64 pre.length) (.bool true) (.bool (pr p))
      simp only [← hw] at this
      simp [-bind_some, F1060_L0, a1, b1, hlt, hf, hp, idx]
      simp [-bind_some, hp] at this
      exact this
theorem s1060 (l : List (Str × Str)) (d : D) (fn : D) (pr : Str × Str → Bool) (h : Hp) (hd : RdF h l d) (hl : l.length ≤ 9223372036854775807) (hf : ∀ x, callV R fn [.agg (fld x)] h = some (.bool (pr x), h)) :
   R fn1060 [d, fn] h = some (.int .i64 (idx pr 0 l), h) := by
  rw [e1060]
  simp only [F1060, bs, rdF_len hd, Option.bind_assoc]
  rw [show (0 : Int) = (([] : List (Str × Str)).length : Int) from rfl, l1060 l d fn pr h hd hl hf _ (fun v => some (.int .i64 v, h)) (fun v r => by simp) (fun r => by simp) l [] rfl]
  rfl
theorem s1055 (p : Str × Str) (h : Hp) : R fn1055 [.agg (fld p)] h = some (.bool (decide (2000 < p.2.length)), h) := by
  rw [e1055]
  simp [-bind_some, F1055, fld]
  omega
theorem s1054 (l : List (Str × Str)) (d : D) (h : Hp) (hd : RdF h l d) (hl : l.length ≤ 9223372036854775807) : R fn1054 [d, .fn (.func fn1055) [] []] h = some (.bool (l.any fun p => decide (2000 < p.2.length)), h) := by
  rw [e1054]
  simp only [F1054, bs, s1060 l d (.fn (.func fn1055) [] []) (fun p => decide (2000 < p.2.length)) h hd hl (fun x => by rw [callV_some]; exact s1055 x h), dBin_geq, mkRes_one]
  rw [idx_any]
theorem s1050 (l : Lin) (h : Hp) : R fn1050 [.agg (linr l)] h = some (.bool (!(l.txt == [])), h) := by
  rw [e1050]
  simp [-bind_some, F1050, linr]
theorem s1049 (l : List Lin) (d : D) (h : Hp) (hd : SlOf 3 linr l d) (hl : l.length ≤ 9223372036854775807) : R fn1049 [d, .fn (.func fn1050) [] []] h = some (.bool (l.any fun p => !(p.txt == [])), h) := by
  rw [e1049]
  simp only [F1049, bs, s1006 l d (.fn (.func fn1050) [] []) (fun p => !(p.txt == [])) h hd hl (fun x => by rw [callV_some]; exact s1050 x h), dBin_geq, mkRes_one]
  rw [idx_any]
def evE (e : Ev) : Int :=
  if (!plB e || !(decide (0 ≤ e.a5) && decide (e.a5 ≤ 253402300799999))) = true then 2
  else if e.a6 < 1 ∨ Int.tmod 5040 e.a6 ≠ 0 then 21
  else if linesE e 2000 ≠ 0 then linesE e 2000
  else if 32 < e.s7.length ∨ 32 < e.s8.length then 3
  else if (sortF e.fs).1 ≠ 0 then (sortF e.fs).1
  else if (sortF e.fs).2 ≠ e.fs then 19
  else if ((sortF e.fs).2.any fun p => decide (2000 < p.2.length)) = true then 3 else 0
theorem sortF_len (l : List (Str × Str)) : (sortF l).2.length ≤ l.length := by
  unfold sortF
  split
  · simp [-bind_some]
  · split
    · split
      · simp [-bind_some]
      · simp [-bind_some, srt_len]
    · simp [-bind_some]
theorem sortF_32 (l : List (Str × Str)) : (sortF l).2.length ≤ 32 := by
  by_cases h : 32 < l.length
  · simp [-bind_some, sortF, h]
  · have := sortF_len l
    omega
theorem s1043g (e : Ev) (h : Hp) (hsrt : ∀ p : Hp, ∃ d' h', R fn1052 [e.fd] p = some (.tup [d', .int .i64 (sortF e.fs).1], h') ∧ p.length ≤ h'.length ∧ (∀ q, q < p.length → h'[q]? = p[q]?) ∧ ((sortF e.fs).1 = 0 → RdF h' (sortF e.fs).2 d')) : R fn1043 [.agg (evr e)] h = some (.int .i64 (evE e), h) := by
  suffices Wp (R fn1043 [.agg (evr e)] h) (fun p => p = (.int .i64 (evE e), h)) by
    obtain ⟨p, h1, rfl⟩ := this
    exact h1
  have sc : ∀ (g : Hp) (v : Int), h.length ≤ g.length → (∀ q, q < h.length → g[q]? = h[q]?) → scope h g (.int .i64 v) = some (.int .i64 v, h) := fun g v h1 h2 => scope_eq (by simp) (.int _ _) h1 h2
  have k1 := s1051 e.a5 0 253402300799999 h
  rw [e1043]
  simp only [F1043, pBoxF_agg, bs, Option.bind_assoc, evL, s1047, mkRes_one]
  have q5 : dFieldAddr tab ty31 5 (.fptr (evr e)) = some (.fptr [.int .i64 e.a5, .int .i64 e.a6, .str e.s7, .str e.s8, e.fd]) := id rfl
  have q6 : dFieldAddr tab ty31 6 (.fptr (evr e)) = some (.fptr [.int .i64 e.a6, .str e.s7, .str e.s8, e.fd]) := id rfl
  have q7 : dFieldAddr tab ty31 7 (.fptr (evr e)) = some (.fptr [.str e.s7, .str e.s8, e.fd]) := id rfl
  have q8 : dFieldAddr tab ty31 8 (.fptr (evr e)) = some (.fptr [.str e.s8, e.fd]) := id rfl
  have q9 : dFieldAddr tab ty31 9 (.fptr (evr e)) = some (.fptr [e.fd]) := id rfl
  unfold evE
  generalize hb1 : plB e = b1
  generalize hb2 : (decide (0 ≤ e.a5) && decide (e.a5 ≤ 253402300799999)) = b2 at k1 ⊢
  have first : ∀ {β : Type} (f : D → D × Hp → D → Option β) (Q : β → Prop), (∀ x p t, p.2 = h → t = .bool (!b1 || !b2) → Wp (f x p t) Q) → Wp ((dUn .not (.bool b1)).bind fun t9 => (gd t9 false (some (.fptr [.int .i64 e.a5, .int .i64 e.a6, .str e.s7, .str e.s8, e.fd]))).bind fun t11 => (gd t9 false (dLoad tab h ty3 t11)).bind fun t12 => (gdW t9 false h (R fn1051 [t12, .int .i64 0, .int .i64 253402300799999] h)).bind fun p13 => (gd t9 false (dUn .not p13.1)).bind fun t14 => (dPick t9 (.bool true) t14).bind fun t15 => f t9 p13 t15) Q := fun f Q hk => by
    cases b1
    · simp only [dUn_not, Bool.not_false, bs, gd_bool, gdW_bool, reduceCtorEq, if_false, dPick_bool, if_true]
      exact hk _ _ _ rfl rfl
    · simp only [dUn_not, Bool.not_true, bs, gd_bool, gdW_bool, if_true, ld3, k1, dPick_bool, Bool.false_eq_true, if_false]
      exact hk _ _ _ rfl (by simp)
  simp only [q5, q6, q7, q8, q9]
  refine first _ _ fun x p t hp ht => ?_
  subst ht
  obtain ⟨px, p⟩ := p
  simp only at hp
  subst hp
  clear first
  simp only [dIf_bool]
  by_cases c1 : (!b1 || !b2) = true
  · simp only [c1, if_true, sc _ _ (Nat.le_refl _) (fun _ _ => rfl)]
    exact .some rfl
  simp only [c1, if_false, Bool.false_eq_true, ld3, ld9, ld29, bs, dBin_lss, len9, dBin_gtr, dBin_rem, dBin_neq]
  by_cases c2 : e.a6 < 1
  · simp only [c2, true_or, decide_true, if_true, gd_bool, reduceCtorEq, if_false, Bool.true_eq_false, bs, dPick_bool, dIf_bool, sc _ _ (Nat.le_refl _) (fun _ _ => rfl)]
    exact .some rfl
  have c20 : ¬ e.a6 = 0 := by omega
  by_cases c3n : ¬ Int.tmod 5040 e.a6 = 0
  · have c3 := c3n
    simp only [c2, c20, c3, ne_eq, not_false_eq_true, or_true, decide_true, decide_false, if_true, gd_bool, if_false, Bool.false_eq_true, bs, dPick_bool, dIf_bool, ld3, dBin_rem, dBin_neq, sc _ _ (Nat.le_refl _) (fun _ _ => rfl)]
    exact .some rfl
  have c3 : Int.tmod 5040 e.a6 = 0 := Decidable.not_not.1 c3n
  simp only [c2, c20, c3, ne_eq, not_true, or_self, decide_false, if_true, gd_bool, if_false, Bool.false_eq_true, bs, dPick_bool, dIf_bool, ld3, dBin_rem, dBin_neq, s1048]
  generalize hL : linesE e 2000 = L
  by_cases c4n : ¬ L = 0
  · have c4 := c4n
    simp only [c4, ne_eq, not_false_eq_true, decide_true, if_true, sc _ _ (Nat.le_refl _) (fun _ _ => rfl)]
    exact .some rfl
  have c4 : L = 0 := Decidable.not_not.1 c4n
  subst c4
  simp only [ne_eq, not_true, decide_false, Bool.false_eq_true, if_false, if_true]
  by_cases c5 : 32 < e.s7.length
  · have c5' : (32 : Int) < (e.s7.length : Int) := by omega
    simp only [c5, c5', true_or, decide_true, if_true, gd_bool, reduceCtorEq, if_false, Bool.true_eq_false, bs, dPick_bool, dIf_bool, sc _ _ (Nat.le_refl _) (fun _ _ => rfl)]
    exact .some rfl
  have c5' : ¬ (32 : Int) < (e.s7.length : Int) := by omega
  by_cases c6 : 32 < e.s8.length
  · have c6' : (32 : Int) < (e.s8.length : Int) := by omega
    simp only [c5, c5', c6, c6', or_true, decide_true, decide_false, if_true, gd_bool, if_false, Bool.false_eq_true, bs, ld9, len9, dBin_gtr, dPick_bool, sc _ _ (Nat.le_refl _) (fun _ _ => rfl)]
    exact .some rfl
  have c6' : ¬ (32 : Int) < (e.s8.length : Int) := by omega
  obtain ⟨d', h', hs, hl', hb', hr'⟩ := hsrt p
  simp only [c5, c5', c6, c6', or_self, decide_false, if_true, gd_bool, if_false, Bool.false_eq_true, bs, ld9, len9, dBin_gtr, dPick_bool, dIf_bool, hs, dExtract_tup, List.getElem?_cons_zero, List.getElem?_cons_succ]
  have hsl := sortF_32 e.fs
  generalize hS : sortF e.fs = S at hs hr' hsl
  obtain ⟨v, s⟩ := S
  simp only at hr' hsl ⊢
  by_cases c7n : ¬ v = 0
  · have c7 := c7n
    simp only [c7, ne_eq, not_false_eq_true, decide_true, if_true, sc _ _ hl' hb', dIf_bool, dBin_neq, bs]
    exact .some rfl
  have c7 : v = 0 := Decidable.not_not.1 c7n
  subst c7
  have hr := hr' rfl
  have hfd : RdF h' e.fs e.fd := .inl e.hfd
  simp only [ne_eq, not_true, decide_false, Bool.false_eq_true, if_false, dIf_bool, dBin_neq, s1053 s e.fs d' e.fd h' hr hfd (by omega), bs, dUn_not, s1054 s d' h' hr (by omega)]
  by_cases c8n : ¬ s = e.fs
  · have c8 := c8n
    simp only [c8, not_false_eq_true, decide_false, Bool.not_false, if_true, sc _ _ hl' hb', dIf_bool, dBin_neq, bs]
    exact .some rfl
  have c8 : s = e.fs := Decidable.not_not.1 c8n
  subst c8
  simp only [not_true, decide_true, Bool.not_true, if_false, Bool.false_eq_true, sc _ _ hl' hb', dIf_bool, dBin_neq, bs]
  split
  · exact .some rfl
  · exact .some rfl
theorem s1043 (e : Ev) (h : Hp) (hf : e.fs.length ≤ 20) : R fn1043 [.agg (evr e)] h = some (.int .i64 (evE e), h) := s1043g e h fun p => s1052 e.fs e.fd p e.hfd hf
def itE (i : It) : Int :=
  if i.r = [] then evE i.e
  else if 32 < i.r.length then 3
  else if plB i.e = false then 2
  else if linesE i.e 60000 = 9 ∨ linesE i.e 60000 = 4 ∨ linesE i.e 60000 = 19 then linesE i.e 60000
  else if i.e.a5 ≠ 0 ∨ i.e.a6 ≠ 0 ∨ i.e.s7 ≠ [] ∨ i.e.s8 ≠ [] ∨ i.e.fs.length ≠ 0 ∨ (i.e.ls.any fun p => !(p.txt == [])) = true then 19 else 0
theorem s1042g (i : It) (h : Hp) (hc : R fn1043 [.agg (evr i.e)] h = some (.int .i64 (evE i.e), h)) : R fn1042 [.agg (itr i)] h = some (.int .i64 (itE i), h) := by
  have hbx : boxN 10 (.agg (evr i.e)) = some (.fptr (evr i.e)) := boxN_agg 10 _ rfl
  have q4 : dFieldAddr tab ty31 4 (.fptr (evr i.e)) = some (.fptr [i.e.ld, .int .i64 i.e.a5, .int .i64 i.e.a6, .str i.e.s7, .str i.e.s8, i.e.fd]) := id rfl
  have q5 : dFieldAddr tab ty31 5 (.fptr (evr i.e)) = some (.fptr [.int .i64 i.e.a5, .int .i64 i.e.a6, .str i.e.s7, .str i.e.s8, i.e.fd]) := id rfl
  have q6 : dFieldAddr tab ty31 6 (.fptr (evr i.e)) = some (.fptr [.int .i64 i.e.a6, .str i.e.s7, .str i.e.s8, i.e.fd]) := id rfl
  have q7 : dFieldAddr tab ty31 7 (.fptr (evr i.e)) = some (.fptr [.str i.e.s7, .str i.e.s8, i.e.fd]) := id rfl
  have q8 : dFieldAddr tab ty31 8 (.fptr (evr i.e)) = some (.fptr [.str i.e.s8, i.e.fd]) := id rfl
  have q9 : dFieldAddr tab ty31 9 (.fptr (evr i.e)) = some (.fptr [i.e.fd]) := id rfl
  rw [e1042]
  simp only [F1042, pBoxF_agg, bs, itF0, itF1, itL0, evL, hbx, dBin_seql, mkRes_one]
  unfold itE
  by_cases c0 : i.r = []
  · simp only [c0, beq_self_eq_true, dIf_bool, if_true, hc, bs]
  have c0' : (i.r == []) = false := by simpa using c0
  simp only [c0, c0', dIf_bool, Bool.false_eq_true, if_false, len9, bs, dBin_gtr]
  by_cases c1 : 32 < i.r.length
  · have c1' : (32 : Int) < (i.r.length : Int) := by omega
    simp only [c1, c1', decide_true, if_true]
  have c1' : ¬ (32 : Int) < (i.r.length : Int) := by omega
  simp only [c1, c1', decide_false, Bool.false_eq_true, if_false, s1047, bs, dUn_not]
  cases hb : plB i.e
  · simp only [Bool.not_false, dIf_bool, if_true]
  simp only [Bool.not_true, dIf_bool, Bool.false_eq_true, Bool.true_eq_false, if_false, s1048, bs, dBin_eql]
  generalize linesE i.e 60000 = L
  by_cases c2 : L = 9
  · subst c2
    simp [-bind_some]
  by_cases c3 : L = 4
  · subst c3
    simp [-bind_some]
  by_cases c4 : L = 19
  · subst c4
    simp [-bind_some]
  simp only [c2, c3, c4, or_self, decide_false, gd_bool, if_true, bs, dPick_bool, dIf_bool, Bool.false_eq_true, if_false, q5, q6, q7, q8, q9, q4, ld3, ld9, ld29, ld28, dBin_neq]
  have hfl : (i.e.fs.length : Int) = 0 ↔ i.e.fs.length = 0 := by omega
  have h49 := s1049 i.e.ls i.e.ld h i.e.hld i.e.hll
  generalize (i.e.ls.any fun p => !(p.txt == [])) = bb at h49 ⊢
  by_cases d1n : ¬ i.e.a5 = 0
  · simp only [c2, c3, c4, dBin_eql, d1n, ne_eq, not_true, not_false_eq_true, true_or, or_true, false_or, or_false, decide_true, decide_false, gd_bool, gdW_bool, gd_und, gdW_und, reduceCtorEq, if_true, if_false, Bool.false_eq_true, Bool.true_eq_false, bs, dPick_bool, dIf_bool, ld3, ld9, ld29, ld28, dBin_neq, dBin_sneq, lens29 i.e.hfd, hfl, h49, beq_self_eq_true, Bool.not_true, Bool.not_false, or_self]
  have d1 : i.e.a5 = 0 := Decidable.not_not.1 d1n
  by_cases d2n : ¬ i.e.a6 = 0
  · simp only [c2, c3, c4, dBin_eql, d1, d2n, ne_eq, not_true, not_false_eq_true, true_or, or_true, false_or, or_false, decide_true, decide_false, gd_bool, gdW_bool, gd_und, gdW_und, reduceCtorEq, if_true, if_false, Bool.false_eq_true, Bool.true_eq_false, bs, dPick_bool, dIf_bool, ld3, ld9, ld29, ld28, dBin_neq, dBin_sneq, lens29 i.e.hfd, hfl, h49, beq_self_eq_true, Bool.not_true, Bool.not_false, or_self]
  have d2 : i.e.a6 = 0 := Decidable.not_not.1 d2n
  by_cases d3n : ¬ i.e.s7 = []
  · have d3b : (i.e.s7 == []) = false := by simpa using d3n
    simp only [c2, c3, c4, dBin_eql, d1, d2, d3n, d3b, ne_eq, not_true, not_false_eq_true, true_or, or_true, false_or, or_false, decide_true, decide_false, gd_bool, gdW_bool, gd_und, gdW_und, reduceCtorEq, if_true, if_false, Bool.false_eq_true, Bool.true_eq_false, bs, dPick_bool, dIf_bool, ld3, ld9, ld29, ld28, dBin_neq, dBin_sneq, lens29 i.e.hfd, hfl, h49, beq_self_eq_true, Bool.not_true, Bool.not_false, or_self]
  have d3 : i.e.s7 = [] := Decidable.not_not.1 d3n
  by_cases d4n : ¬ i.e.s8 = []
  · have d4b : (i.e.s8 == []) = false := by simpa using d4n
    simp only [c2, c3, c4, dBin_eql, d1, d2, d3, d4n, d4b, ne_eq, not_true, not_false_eq_true, true_or, or_true, false_or, or_false, decide_true, decide_false, gd_bool, gdW_bool, gd_und, gdW_und, reduceCtorEq, if_true, if_false, Bool.false_eq_true, Bool.true_eq_false, bs, dPick_bool, dIf_bool, ld3, ld9, ld29, ld28, dBin_neq, dBin_sneq, lens29 i.e.hfd, hfl, h49, beq_self_eq_true, Bool.not_true, Bool.not_false, or_self]
  have d4 : i.e.s8 = [] := Decidable.not_not.1 d4n
  by_cases d5n : ¬ i.e.fs.length = 0
  · simp only [c2, c3, c4, dBin_eql, d1, d2, d3, d4, d5n, ne_eq, not_true, not_false_eq_true, true_or, or_true, false_or, or_false, decide_true, decide_false, gd_bool, gdW_bool, gd_und, gdW_und, reduceCtorEq, if_true, if_false, Bool.false_eq_true, Bool.true_eq_false, bs, dPick_bool, dIf_bool, ld3, ld9, ld29, ld28, dBin_neq, dBin_sneq, lens29 i.e.hfd, hfl, h49, beq_self_eq_true, Bool.not_true, Bool.not_false, or_self]
  have d5 : i.e.fs.length = 0 := Decidable.not_not.1 d5n
  simp only [c2, c3, c4, dBin_eql, d1, d2, d3, d4, d5, ne_eq, not_true, not_false_eq_true, true_or, or_true, false_or, or_false, decide_true, decide_false, gd_bool, gdW_bool, gd_und, gdW_und, reduceCtorEq, if_true, if_false, Bool.false_eq_true, Bool.true_eq_false, bs, dPick_bool, dIf_bool, ld3, ld9, ld29, ld28, dBin_neq, dBin_sneq, lens29 i.e.hfd, hfl, h49, beq_self_eq_true, Bool.not_true, Bool.not_false, or_self]
  cases bb <;> simp [-bind_some, h49]
theorem less_or (a b : Ev) : decide (orI [cmpI a.a5 b.a5, cmpI a.a0 b.a0, cmpI a.a1 b.a1, cmpI a.a2 b.a2] < 0) = lessE a b := by
  have key : ∀ x y : Int, (cmpI x y = 0 ↔ x = y) ∧ (cmpI x y < 0 ↔ x < y) := fun x y => by
    unfold cmpI
    split
    · constructor <;> constructor <;> intro h <;> omega
    · split
      · constructor <;> constructor <;> intro h <;> omega
      · constructor <;> constructor <;> intro h <;> omega
  simp only [orI, key, lessE]
  by_cases h5 : a.a5 = b.a5
  · by_cases h0 : a.a0 = b.a0
    · by_cases h1 : a.a1 = b.a1
      · by_cases h2 : a.a2 = b.a2
        · simp [-bind_some, h5, h0, h1, h2]
        · simp [-bind_some, h5, h0, h1, h2, key]
      · simp [-bind_some, h5, h0, h1, key]
    · simp [-bind_some, h5, h0, key]
  · simp [-bind_some, h5, key]
theorem s1037 (a b : Ev) (h : Hp) : R fn1037 [.agg (evr a), .agg (evr b)] h = some (.bool (lessE a b), h) := by
  have s4 : SlOf 1 inr [cmpI a.a5 b.a5, cmpI a.a0 b.a0, cmpI a.a1 b.a1, cmpI a.a2 b.a2] (.sl 1 true [[.int .i64 (cmpI a.a5 b.a5)], [.int .i64 (cmpI a.a0 b.a0)], [.int .i64 (cmpI a.a1 b.a1)], [.int .i64 (cmpI a.a2 b.a2)]]) := .inr ⟨true, rfl⟩
  rw [e1037]
  simp only [F1037, bs, pBoxF_agg, evr, fa31_0, fa31_1, fa31_2, fa31_5, ld3, s90, bs82_4, s89 _ _ h s4 (by simp), dBin_lss, chk_true, mkRes_one, less_or]
def RdL (h : Hp) (l : List Lin) (d : D) : Prop := SlOf 3 linr l d ∨ ∃ ob, d = .msl 3 ob 0 l.length ∧ h[ob]? = some (Ob.row ty78 3 (l.map linr))
theorem rdL_len {h : Hp} {l : List Lin} {d : D} (hd : RdL h l d) : dLenT tab ty28 d = some (.int .i64 l.length) := by
  rcases hd with hd | ⟨ob, rfl, _⟩
  · exact lens28 hd
  · exact lenm28 _ _ _ _
theorem ldobL {h : Hp} {q k T z : Nat} {rows : List (List D)} {p : Lin} (hq : h[q]? = some (Ob.row T z rows)) (hk : rows[k]? = some (linr p)) : dLoad tab h ty78 (.ptr q k 0) = some (.agg (linr p)) := by
  rw [ldp78, row_of hq, hk]
  rfl
theorem rdL_ix {h : Hp} {l : List Lin} {d : D} (hd : RdL h l d) (i : Nat) (p : Lin) (hp : l[i]? = some p) : ∃ q, dIndexAddr tab ty28 d (.int .i64 i) = some q ∧ dLoad tab h ty78 q = some (.agg (linr p)) := by
  have hi := (List.getElem?_eq_some_iff.1 hp).1
  rcases hd with hd | ⟨ob, rfl, ho⟩
  · exact ⟨.fptr (linr p), by rw [ixs28 hd]; simp [-bind_some, hp], linr_ld p h⟩
  · have hr : (l.map linr)[i]? = some (linr p) := by rw [List.getElem?_map, hp]; rfl
    have hh : (0 : Int) ≤ (i : Int) ∧ (i : Int) < (l.length : Int) := by omega
    exact ⟨.ptr ob i 0, by rw [ixm28]; simp [-bind_some, hh], ldobL ho hr⟩
theorem lr1006 (l : List Lin) (d : D) (fn : D) (pr : Lin → Bool) (h : Hp) (hd : RdL h l d) (hl : l.length ≤ 9223372036854775807) (hf : ∀ x, callV R fn [.agg (linr x)] h = some (.bool (pr x), h)) {β : Type} (K : Out → Option β) (X : Int → Option β)
   (hX : ∀ v r, K (.ret, .int .i64 v :: r, h) = X v) (hY : ∀ r, K (.ext 0, r, h) = X (-1)) : ∀ (suf pre : List Lin), l = pre ++ suf → ∀ a b e f,
   (loopW (F1006_L0 d fn (.int .i64 l.length)) [a, b, .int .i64 pre.length, e, f] h).bind K = X (idx pr pre.length suf) := by
  intro suf
  induction suf with
  | nil =>
    rintro pre rfl a b e f
    rw [loopW_eq]
    simp [-bind_some, F1006_L0, hY, idx]
  | cons p suf ih =>
    rintro pre rfl a b e f
    have hw : IntKind.wrap .i64 ((pre.length : Int) + 1) = (pre ++ [p]).length := by
      rw [wrap_i64 (by omega) (by simp at hl; omega)]; simp [-bind_some]
    have hlt : (pre.length : Int) < (pre ++ p :: suf).length := by simp; omega
    rw [loopW_eq]
    generalize hL : pre ++ p :: suf = L at *
    have hg : L[pre.length]? = some p := by rw [← hL]; exact get_mid _ _ _
    obtain ⟨q, a1, b1⟩ := rdL_ix hd _ _ hg
    by_cases hp : pr p = true
    · simp [-bind_some, F1006_L0, a1, b1, hlt, hf, hp, hX, idx]
    · have := ih (pre ++ [p]) (by simp [-bind_some, ← hL]) a (.int .i64 pre.length) (.bool true) (.bool (pr p))
      simp only [← hw] at this
      simp [-bind_some, F1006_L0, a1, b1, hlt, hf, hp, idx]
      simp [-bind_some, hp] at this
      exact this
theorem r1006 (l : List Lin) (d : D) (fn : D) (pr : Lin → Bool) (h : Hp) (hd : RdL h l d) (hl : l.length ≤ 9223372036854775807) (hf : ∀ x, callV R fn [.agg (linr x)] h = some (.bool (pr x), h)) :
   R fn1006 [d, fn] h = some (.int .i64 (idx pr 0 l), h) := by
  rw [e1006]
  simp only [F1006, bs, rdL_len hd, Option.bind_assoc]
  rw [show (0 : Int) = (([] : List Lin).length : Int) from rfl, lr1006 l d fn pr h hd hl hf _ (fun v => some (.int .i64 v, h)) (fun v r => by simp) (fun r => by simp) l [] rfl]
  rfl
theorem u1008 (l : List Lin) (d : D) (h : Hp) (hd : SlOf 3 linr l d) (hl : l.length ≤ 1000000) : ∃ d' h', R fn1008 [d] h = some (d', h') ∧ h.length ≤ h'.length ∧ (∀ q, q < h.length → h'[q]? = h[q]?) ∧
    ((l = [] ∧ SlOf 3 linr [] d') ∨ ∃ ob, h.length ≤ ob ∧ d' = .msl 3 ob 0 l.length ∧ h'[ob]? = some (Ob.row ty78 3 (l.map linr))) := by
  rw [e1008]
  rcases hd with ⟨rfl, rfl⟩ | ⟨b, rfl⟩
  · exact ⟨.nils, h, by
      have hne : dBin tab .eql ty28 .nils .nils = some (.bool true) := id rfl
      simp [-bind_some, F1008, hne], Nat.le_refl _, fun _ _ => rfl, .inl ⟨rfl, .nils _ _⟩⟩
  · obtain ⟨x', h', e, hl', hq, ho⟩ := app_full (T := tab) (t := ty28) (i := ti28) (j := ti78) (h := h) (id rfl) (id rfl) (id rfl) (by decide) (y := .sl 3 b (l.map linr)) (rowsOf_sl _ _ _ _) (lim_ok (by have : ti78.by_ = 32 := rfl; rw [this, List.length_map]; omega) (by rw [List.length_map]; omega))
    have e' : dAppend tab h ty28 ty28 (.sl 3 true []) (.sl 3 b (l.map linr)) = some (x', h') := e
    have hne : dBin tab .eql ty28 (.sl 3 b (l.map linr)) .nils = some (.bool false) := id rfl
    refine ⟨x', h', ?_, hl', hq, ?_⟩
    · simp only [F1008, bs, hne, dIf_bool, Bool.false_eq_true, if_false, bs28_0, e', mkRes_one]
    · rcases ho with ⟨rfl, hn⟩ | ⟨rfl, hn⟩ | ⟨ob, h1, rfl, h2⟩
      · have : l = [] := by simpa using hn
        exact .inl ⟨this, .inr ⟨true, rfl⟩⟩
      · have : l = [] := by simpa using hn
        exact .inl ⟨this, .nils _ _⟩
      · exact .inr ⟨ob, h1, by rw [List.length_map]; rfl, h2⟩
theorem idx_fil {α : Type} (pr : α → Bool) : ∀ (l : List α) (n : Nat), (idx pr n l = -1 ∧ ∀ x ∈ l, pr x = false) ∨ ∃ k, idx pr n l = ((n + k : Nat) : Int) ∧ k < l.length ∧ (l.take (k + 1)).filter (fun x => !pr x) = l.take k ∧ ∃ x ∈ l, pr x = true
  | [], n => .inl ⟨rfl, by simp⟩
  | x :: r, n => by
    by_cases hx : pr x = true
    · exact .inr ⟨0, by simp [-bind_some, idx, hx], by simp, by simp [-bind_some, hx], x, by simp, hx⟩
    · have hx' : pr x = false := by simpa using hx
      have he : idx pr n (x :: r) = idx pr (n + 1) r := by simp [-bind_some, idx, hx]
      rcases idx_fil pr r (n + 1) with ⟨h1, h2⟩ | ⟨k, h1, h2, h3, y, hy, hy2⟩
      · left
        refine ⟨by rw [he]; exact h1, fun y hy => ?_⟩
        rcases List.mem_cons.1 hy with rfl | hy
        · exact hx'
        · exact h2 y hy
      · right
        refine ⟨k + 1, by rw [he, h1]; omega, by simpa using h2, ?_, y, by simp [-bind_some, hy], hy2⟩
        rw [List.take_succ_cons, List.filter_cons, if_pos (by simp [-bind_some, hx']), h3, List.take_succ_cons]
theorem u1045 (l : List Lin) (fn : D) (pr : Lin → Bool) (h : Hp) (ob : Nat) (ho : h[ob]? = some (Ob.row ty78 3 (l.map linr))) (hl : l.length ≤ 1000000) (hf : ∀ x g, callV R fn [.agg (linr x)] g = some (.bool (pr x), g)) :
    ∃ h' z, R fn1045 [.msl 3 ob 0 l.length, fn] h = some (.msl 3 ob 0 (l.filter fun x => !pr x).length, h') ∧ Same ob h h' ∧ h'[ob]? = some (Ob.row ty78 3 ((l.filter fun x => !pr x).map linr ++ z)) := by
  suffices Wp (R fn1045 [.msl 3 ob 0 l.length, fn] h) (fun p => p.1 = .msl 3 ob 0 (l.filter fun x => !pr x).length ∧ Same ob h p.2 ∧ ∃ z, p.2[ob]? = some (Ob.row ty78 3 ((l.filter fun x => !pr x).map linr ++ z))) by
    obtain ⟨⟨x, h'⟩, h1, rfl, h2, z, h3⟩ := this
    exact ⟨h', z, h1, h2, h3⟩
  have hlt := (List.getElem?_eq_some_iff.1 ho).1
  have sc : ∀ (g : Hp) (d : D), Same ob h g → True := fun _ _ _ => trivial
  rw [e1045]
  simp only [F1045, bs, Option.bind_assoc, r1006 l _ fn pr h (.inr ⟨ob, rfl, ho⟩) (by omega) (fun x => hf x h), dBin_eql, mkRes_one]
  rcases idx_fil pr l 0 with ⟨h1, h2⟩ | ⟨k, h1, h2, h3, _⟩
  · have hfl : l.filter (fun x => !pr x) = l := by
      rw [List.filter_eq_self]
      intro x hx; simp [-bind_some, h2 x hx]
    simp only [h1, decide_true, dIf_bool, if_true, hfl]
    exact .some ⟨rfl, .refl _ _, [], by simpa using ho⟩
  · rw [Nat.zero_add] at h1
    have hne : ¬ ((k : Int) = -1) := by omega
    have hw : IntKind.wrap .i64 ((k : Int) + 1) = ((k + 1 : Nat) : Int) := by rw [wrap_i64 (by omega) (by omega)]; omega
    simp only [h1, hne, decide_false, dIf_bool, Bool.false_eq_true, if_false, dBin_add, hw, bs]
    refine Wp.loop (fun n ds g => ∃ (i j : Nat) (a b c : D) (l' : List Lin), n + j = l.length ∧ ds = [.int .i64 i, .int .i64 j, a, b, c] ∧ l'.length = l.length ∧ i < j ∧ g[ob]? = some (Ob.row ty78 3 (l'.map linr)) ∧ Same ob h g ∧ l'.take i = (l.take j).filter (fun x => !pr x) ∧ ∀ q, j ≤ q → l'[q]? = l[q]?)
      (fun r => r.1 = .ext 0 ∧ ∃ (i : Nat) (a b c d : D) (l' : List Lin), r.2.1 = [.int .i64 i, a, b, c, d] ∧ l'.length = l.length ∧ i < l.length ∧ r.2.2[ob]? = some (Ob.row ty78 3 (l'.map linr)) ∧ Same ob h r.2.2 ∧ l'.take i = l.filter (fun x => !pr x))
      (l.length - (k + 1)) ⟨k, k + 1, .any, .any, .any, l, by omega, rfl, rfl, by omega, ho, .refl _ _, h3.symm, fun _ _ => rfl⟩ ?_ ?_
    · rintro n ds g ⟨i, j, a, b, c, l', hn, rfl, hl', hij, hg, sm, htk, hdr⟩
      simp only [F1045_L0, nth_zero, nth_succ, bs, Option.bind_assoc, lenm28, dBin_lss]
      refine Wp.dif ?_ ?_
      · intro h0
        have h0 : j < l.length := by have : (j : Int) < (l.length : Int) := by simpa using h0
                                     omega
        have gj : l[j]? = some l[j] := List.getElem?_eq_getElem h0
        have gj' : l'[j]? = some l[j] := by rw [hdr j (Nat.le_refl _)]; exact gj
        have hw2 : IntKind.wrap .i64 ((j : Int) + 1) = ((j + 1 : Nat) : Int) := by rw [wrap_i64 (by omega) (by omega)]; omega
        have hw3 : IntKind.wrap .i64 ((i : Int) + 1) = ((i + 1 : Nat) : Int) := by rw [wrap_i64 (by omega) (by omega)]; omega
        have hjj : (0 : Int) ≤ (j : Int) ∧ (j : Int) < (l.length : Int) := by omega
        have hii : (0 : Int) ≤ (i : Int) ∧ (i : Int) < (l.length : Int) := by omega
        have hts : (l.take (j + 1)).filter (fun x => !pr x) = (l.take j).filter (fun x => !pr x) ++ [l[j]].filter (fun x => !pr x) := by
          rw [List.take_add_one, gj, List.filter_append]; rfl
        generalize l[j] = x at gj gj' hts
        have mj : (l'.map linr)[j]? = some (linr x) := by rw [List.getElem?_map, gj']; rfl
        have hbx : boxN 3 (.agg (linr x)) = some (.fptr (linr x)) := boxN_agg 3 _ rfl
        simp only [ixm28, hjj, and_self, if_true, Nat.zero_add, Int.toNat_natCast, bs, ldobL hg mj, hbx, linr_ld, hf, dUn_not]
        cases hp : pr x
        · have hlt2 : i < l'.length := by omega
          have mi : (l'.map linr)[i]? = some (linr l'[i]) := by rw [List.getElem?_map, List.getElem?_eq_getElem hlt2]; rfl
          simp only [Bool.not_false, dIf_bool, if_true, hii, and_self, bs, Option.bind_assoc]
          refine wst78 hg mi (by rfl) (by simp [-bind_some, linr]) (by rfl) fun g2 p2 s2 => ?_
          rw [show spl (linr l'[i]) 0 (cells1 (.agg (linr x))) = linr x from id rfl, set_map_row] at p2
          simp only [bs, dBin_add, hw3, hw2, unblk_nrm, toEnd_nrm, nth_zero]
          refine .some (.inl ⟨rfl, n - 1, by omega, i + 1, j + 1, _, _, _, l'.set i x, by omega, rfl, by simpa using hl', by omega, p2, sm.trans s2, ?_, fun q hq => ?_⟩)
          · rw [hts, ← htk, List.take_add_one, List.getElem?_set_self (by omega), List.take_set_of_le (Nat.le_refl _)]
            simp [-bind_some, hp]
          · rw [List.getElem?_set_ne (by omega)]; exact hdr q (by omega)
        · simp only [Bool.not_true, dIf_bool, Bool.false_eq_true, if_false, bs, dBin_add, hw2, unblk_nrm, toEnd_nrm, nth_zero]
          refine .some (.inl ⟨rfl, n - 1, by omega, i, j + 1, _, _, _, l', by omega, rfl, hl', by omega, hg, sm, ?_, fun q hq => hdr q (by omega)⟩)
          rw [hts, ← htk]
          simp [-bind_some, hp]
      · intro h0
        have h0 : ¬ j < l.length := by have : ¬ (j : Int) < (l.length : Int) := by simpa using h0
                                       omega
        refine .some (.inr ⟨by simp, rfl, i, _, _, _, _, l', rfl, hl', by omega, hg, sm, ?_⟩)
        rw [htk, List.take_of_length_le (by omega)]
    · rintro ⟨x, ds, g⟩ ⟨rfl, i, a, b, c, d, l', rfl, hl', hil, hg, sm, htk⟩
      have hK : (l.filter fun x => !pr x).length = i := by rw [← htk]; simp [-bind_some]; omega
      have hs1 : dSliceAt tab ty28 true false false [.msl 3 ob 0 l.length, .int .i64 i] = some (.msl 3 ob i (l.length - i)) :=
        (msl_lo (T := tab) (t := ty28) (e := ty78) (z := 3) (i := ti28) (j := ti78) (id rfl) (id rfl) (id rfl) (id rfl) (by decide) (r := 0) (n := l.length) (m := i) hil (Nat.zero_le _)).trans (by rw [Nat.zero_add])
      have hs2 : dSliceAt tab ty28 false true false [.msl 3 ob 0 l.length, .int .i64 i] = some (.msl 3 ob 0 i) := msl_hi (T := tab) (t := ty28) (e := ty78) (z := 3) (i := ti28) (j := ti78) (id rfl) (id rfl) (id rfl) (id rfl) (by decide) (Nat.le_of_lt hil)
      obtain ⟨z, hz⟩ := clear_msl (T := tab) (t := ty28) (i := ti28) (j := ti78) (h := g) (n := l.length - i) (r := i) (id rfl) (id rfl) (id rfl) (by decide) hg (by omega)
      have hz : dClear tab g ty28 (.msl 3 ob i (l.length - i)) = some (.tup [], g.set ob (Ob.row ty78 3 ((l'.map linr).take i ++ z))) := hz
      have holt : ob < g.length := (List.getElem?_eq_some_iff.1 hg).1
      simp only [unblk_self, toEnd_nrm, nth_zero, nth_succ, bs, hs1, hz, hs2, mkRes_one]
      refine .some ⟨by rw [hK], sm.trans ⟨by simp, fun q hq => List.getElem?_set_ne (Ne.symm hq)⟩, z, ?_⟩
      rw [List.getElem?_set_self holt, ← List.map_take, htk]
structure FltOf (i : It) (m : Int) (j : It) : Prop where
  r : j.r = i.r
  a0 : j.e.a0 = i.e.a0
  a1 : j.e.a1 = i.e.a1
  a3 : j.e.a3 = i.e.a3
  a5 : j.e.a5 = i.e.a5
  a6 : j.e.a6 = i.e.a6
  s7 : j.e.s7 = i.e.s7
  s8 : j.e.s8 = i.e.s8
  ls : j.e.ls = i.e.ls.filter (fun l => decide (m ≤ l.off))
  fs : j.e.fs = i.e.fs
  a2 : ∃ x, (i.e.ls.filter fun l => decide (m ≤ l.off)).head? = some x ∧ j.e.a2 = x.off
def AftOf (i : It) (m : Int) (ok : Bool) (j : It) : Prop :=
  (m ≤ i.e.a2 ∧ ok = true ∧ j = i) ∨ (¬ m ≤ i.e.a2 ∧ (i.e.a3 ≤ m ∨ ∀ l ∈ i.e.ls, l.off < m) ∧ ok = false ∧ j = it0) ∨ (¬ m ≤ i.e.a2 ∧ m < i.e.a3 ∧ (∃ l ∈ i.e.ls, m ≤ l.off) ∧ ok = true ∧ FltOf i m j)
theorem AftOf.same {i j j' : It} {m : Int} {ok ok' : Bool} (h : AftOf i m ok j) (h' : AftOf i m ok' j') : ok = ok' ∧ sameI j j' = true := by
  rcases h with ⟨h1, rfl, rfl⟩ | ⟨h1, h2, rfl, rfl⟩ | ⟨h1, h2, ⟨l, hl, hm⟩, rfl, hf⟩
  · rcases h' with ⟨h1', rfl, rfl⟩ | ⟨h1', _⟩ | ⟨h1', _⟩
    · exact ⟨rfl, sameI_refl _⟩
    · exact absurd h1 h1'
    · exact absurd h1 h1'
  · rcases h' with ⟨h1', _⟩ | ⟨_, _, rfl, rfl⟩ | ⟨_, k2, ⟨l, hl, hm⟩, _⟩
    · exact absurd h1' h1
    · exact ⟨rfl, sameI_refl _⟩
    · rcases h2 with h2 | h2
      · omega
      · have := h2 l hl; omega
  · rcases h' with ⟨h1', _⟩ | ⟨_, k2, rfl, rfl⟩ | ⟨_, _, _, rfl, hf'⟩
    · exact absurd h1' h1
    · rcases k2 with k2 | k2
      · omega
      · have := k2 l hl; omega
    · obtain ⟨x, hx, hx2⟩ := hf.a2
      obtain ⟨y, hy, hy2⟩ := hf'.a2
      rw [hx] at hy
      injection hy with hy
      subst hy
      exact ⟨rfl, by simp [-bind_some, sameI, sameE, hf.r, hf'.r, hf.a0, hf'.a0, hf.a1, hf'.a1, hx2, hy2, hf.a3, hf'.a3, hf.a5, hf'.a5, hf.a6, hf'.a6, hf.s7, hf'.s7, hf.s8, hf'.s8, hf.ls, hf'.ls, hf.fs, hf'.fs]⟩
theorem s1044 (l : Lin) (n : Int) (h : Hp) : R fn1044 [.agg (linr l), .fptr [.int .i64 n]] h = some (.bool (decide (n ≤ l.off)), h) := by
  rw [e1044]
  simp [-bind_some, F1044, linr]
theorem s1046 (l : Lin) (n : Int) (h : Hp) : R fn1046 [.agg (linr l), .fptr [.int .i64 n]] h = some (.bool (decide (l.off < n)), h) := by
  rw [e1046]
  simp [-bind_some, F1046, linr]
theorem ldIt11 {g : Hp} {q T z : Nat} {i : It} (hq : g[q]? = some (Ob.row T z [itr i])) : dLoad tab g ty74 (.ptr q 0 0) = some (.agg (itr i)) := ldob11 hq rfl
theorem end_it {h g : Hp} {j : It} {b : Bool} (hl : h.length ≤ g.length) (hb : ∀ q, q < h.length → g[q]? = h[q]?) : scope h g (.tup [.agg (itr j), .bool b]) = some (.tup [.agg (itr j), .bool b], h) := by
  refine scope_eq ?_ (.tup _ fun d hd => ?_) hl hb
  · simp only [frz_tup, frz_agg, List.map_cons, List.map_nil, frz_bool]
    rw [map_id_of fun d hd => itr_frz h.length g 1 j d hd]
  · simp at hd
    rcases hd with rfl | rfl
    · exact itr_ok _ _
    · constructor
end Go.Proofs.YtlpedofpnbggbaaDoor
