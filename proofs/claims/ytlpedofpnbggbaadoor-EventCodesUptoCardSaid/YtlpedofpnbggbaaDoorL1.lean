/- Laws, on plain data, about functions that the statement reaches. -/
import Derived.Test.YtlpedofpnbggbaaDoorT9
set_option linter.unusedSimpArgs false
set_option linter.unusedVariables false
set_option linter.unnecessarySimpa false
set_option maxRecDepth 100000
namespace Go.Proofs.YtlpedofpnbggbaaDoor
open Go.Eng Go.Pi
open Option (bind_some)
abbrev Str := List UInt8
def fld (p : Str × Str) : List D := [.str p.1, .str p.2]
structure Lin where
  off : Int
  len : Int
  txt : Str
  deriving DecidableEq
def linr (l : Lin) : List D := [.int .i64 l.off, .int .i64 l.len, .str l.txt]
structure Ev where
  a0 : Int
  a1 : Int
  a2 : Int
  a3 : Int
  ls : List Lin
  ld : D
  a5 : Int
  a6 : Int
  s7 : Str
  s8 : Str
  fs : List (Str × Str)
  fd : D
  hfd : SlOf 2 fld fs fd
  hl : fs.length ≤ 9223372036854775807
  hld : SlOf 3 linr ls ld
  hll : ls.length ≤ 9223372036854775807
def evr (e : Ev) : List D := [.int .i64 e.a0, .int .i64 e.a1, .int .i64 e.a2, .int .i64 e.a3, e.ld, .int .i64 e.a5, .int .i64 e.a6, .str e.s7, .str e.s8, e.fd]
structure It where
  r : Str
  e : Ev
def itr (i : It) : List D := .str i.r :: evr i.e
theorem fld_frz (n0 : Nat) (h : Hp) (n : Nat) (p : Str × Str) : ∀ d ∈ fld p, frz n0 h n d = d := by simp [-bind_some, fld]
theorem fld_ok (n : Nat) (p : Str × Str) : ∀ d ∈ fld p, Ok n d := by
  intro d hd
  simp [-bind_some, fld] at hd
  rcases hd with rfl | rfl <;> constructor
theorem linr_frz (n0 : Nat) (h : Hp) (n : Nat) (p : Lin) : ∀ d ∈ linr p, frz n0 h n d = d := by simp [-bind_some, linr]
theorem linr_ok (n : Nat) (p : Lin) : ∀ d ∈ linr p, Ok n d := by
  intro d hd
  simp [-bind_some, linr] at hd
  rcases hd with rfl | rfl | rfl <;> constructor
theorem evr_frz (n0 : Nat) (h : Hp) (n : Nat) (e : Ev) : ∀ d ∈ evr e, frz n0 h (n + 1) d = d := by
  intro d hd
  simp [-bind_some, evr] at hd
  rcases hd with rfl | rfl | rfl | rfl | rfl | rfl | rfl | rfl | rfl | rfl
  all_goals first | exact slof_frz e.hld (fun a _ => linr_frz _ _ _ a) | exact slof_frz e.hfd (fun a _ => fld_frz _ _ _ a) | simp [-bind_some]
theorem evr_ok (n : Nat) (e : Ev) : ∀ d ∈ evr e, Ok n d := by
  intro d hd
  simp [-bind_some, evr] at hd
  rcases hd with rfl | rfl | rfl | rfl | rfl | rfl | rfl | rfl | rfl | rfl
  all_goals first | exact slof_ok e.hld (fun a _ => linr_ok _ a) | exact slof_ok e.hfd (fun a _ => fld_ok _ a) | constructor
theorem itr_ok (n : Nat) (i : It) : Ok n (.agg (itr i)) := by
  refine .agg _ fun d hd => ?_
  simp [-bind_some, itr, evr] at hd
  rcases hd with rfl | rfl | rfl | rfl | rfl | rfl | rfl | rfl | rfl | rfl | rfl
  all_goals first | exact slof_ok i.e.hld (fun a _ => linr_ok _ a) | exact slof_ok i.e.hfd (fun a _ => fld_ok _ a) | constructor
theorem itr_frz (n0 : Nat) (h : Hp) (n : Nat) (i : It) : ∀ d ∈ itr i, frz n0 h (n + 1) d = d := by
  intro d hd
  rcases List.mem_cons.1 hd with rfl | hd
  · simp [-bind_some]
  · exact evr_frz n0 h n i.e d hd
theorem evL (e : Ev) (h : Hp) : dLoad tab h ty31 (.fptr (evr e)) = some (.agg (evr e)) := id rfl
theorem itF1 (i : It) : dFieldAddr tab ty74 1 (.fptr (itr i)) = some (.fptr (evr i.e)) := id rfl
theorem itF0 (i : It) : dFieldAddr tab ty74 0 (.fptr (itr i)) = some (.fptr (itr i)) := id rfl
theorem itL0 (i : It) (h : Hp) : dLoad tab h ty9 (.fptr (itr i)) = some (.str i.r) := id rfl
theorem ldIt (i : It) (h : Hp) : dLoad tab h ty74 (.fptr (itr i)) = some (.agg (itr i)) := id rfl
theorem linr_ld (l : Lin) (h : Hp) : dLoad tab h ty78 (.fptr (linr l)) = some (.agg (linr l)) := id rfl
theorem fld_ld (l : Str × Str) (h : Hp) : dLoad tab h ty109 (.fptr (fld l)) = some (.agg (fld l)) := id rfl
theorem lin_neq (a b : Lin) : dBin tab .neq ty78 (.agg (linr a)) (.agg (linr b)) = some (.bool (decide (a ≠ b))) := by
  obtain ⟨a0, a1, a2⟩ := a
  obtain ⟨b0, b1, b2⟩ := b
  simp [-bind_some, linr]
  by_cases h0 : a0 = b0 <;> by_cases h1 : a1 = b1 <;> by_cases h2 : a2 = b2 <;> simp [-bind_some, h0, h1, h2]
theorem fld_neq (a b : Str × Str) : dBin tab .neq ty109 (.agg (fld a)) (.agg (fld b)) = some (.bool (decide (a ≠ b))) := by
  obtain ⟨a0, a1⟩ := a
  obtain ⟨b0, b1⟩ := b
  simp [-bind_some, fld]
  by_cases h0 : a0 = b0 <;> by_cases h1 : a1 = b1 <;> simp [-bind_some, h0, h1]

def byr (z : Int) : List D := [.int .u8 z]
theorem byr_frz (n0 : Nat) (h : Hp) (n : Nat) (z : Int) : ∀ d ∈ byr z, frz n0 h n d = d := by simp [-bind_some, byr]
theorem byr_ok (n : Nat) (z : Int) : ∀ d ∈ byr z, Ok n d := by
  intro d hd
  simp [-bind_some, byr] at hd
  subst hd
  constructor
theorem byr_ld (z : Int) (h : Hp) : dLoad tab h ty5 (.fptr (byr z)) = some (.int .u8 z) := id rfl
def stp (c : Int) : Int := if c % 2 = 1 then IntKind.wrap .u32 (BitVec.ofInt IntKind.u32.bits (c.fdiv 2) ^^^ BitVec.ofInt IntKind.u32.bits 3988292384).toNat else c.fdiv 2
def U32 (c : Int) : Prop := 0 ≤ c ∧ c < 4294967296
def stps : Nat → Int → Int
  | 0, c => c
  | n + 1, c => stps n (stp c)
def byt (c z : Int) : Int := stps 8 (IntKind.wrap .u32 (BitVec.ofInt IntKind.u32.bits c ^^^ BitVec.ofInt IntKind.u32.bits (IntKind.wrap .u32 z)).toNat)
def crcL : Int → List Int → Int
  | c, [] => c
  | c, z :: r => crcL (byt c z) r
def crc (l : List Int) : Int := IntKind.wrap .u32 (BitVec.ofInt IntKind.u32.bits (if IntKind.u32.signed then -1 else IntKind.u32.max) ^^^ BitVec.ofInt IntKind.u32.bits (crcL 4294967295 l)).toNat
theorem wrap_u64 {n : Int} (h0 : 0 ≤ n) (h1 : n < 18446744073709551616) : IntKind.wrap .u64 n = n := by
  unfold IntKind.wrap
  simp [-bind_some, IntKind.signed, IntKind.bits, IntKind.min, IntKind.max]
  omega
theorem s94 (l r : List Lin) (d e : D) (h : Hp) (hd : SlOf 3 linr l d) (he : SlOf 3 linr r e) (hl : l.length ≤ 9223372036854775807) : R fn94 [d, e] h = some (.bool (decide (l = r)), h) := by
  suffices Wp (R fn94 [d, e] h) (fun p => p = (.bool (decide (l = r)), h)) by
    obtain ⟨p, h1, rfl⟩ := this
    exact h1
  rw [e94]
  simp only [F94, bs, Option.bind_assoc, lens28 hd, lens28 he, dBin_neq]
  refine Wp.dif ?_ ?_
  · intro hn
    have hn : l.length ≠ r.length := by have : ¬ (l.length : Int) = r.length := by simpa using hn
                                        omega
    have hne : l ≠ r := fun hh => hn (by rw [hh])
    simp only [bs, mkRes_one]
    exact .some (by simp [-bind_some, hne])
  · intro hn
    have hn : l.length = r.length := by have : (l.length : Int) = r.length := by simpa using hn
                                        omega
    refine Wp.loop (fun k ds g => g = h ∧ ∃ a b c, ∃ i : Nat, ds = [a, .int .i64 i, b, c] ∧ k + i = l.length ∧ l.take i = r.take i)
      (fun x => x.2.2 = h ∧ ((x.1 = .ret ∧ nth 0 x.2.1 = .bool false ∧ l ≠ r) ∨ (x.1 = .ext 0 ∧ l = r))) l.length ⟨rfl, _, _, _, 0, rfl, rfl, rfl⟩ ?_ ?_
    · rintro k ds g ⟨rfl, a, b, c, i, rfl, hk, hi⟩
      simp only [F94_L0, nth_zero, nth_succ, bs, Option.bind_assoc, lens28 hd, dBin_lss]
      refine Wp.dif ?_ ?_
      · intro h0
        have h0 : i < l.length := by have : (i : Int) < l.length := by simpa using h0
                                     omega
        have hg : l[i]? = some l[i] := List.getElem?_eq_getElem h0
        have hg2 : r[i]? = some (r[i]'(by omega)) := List.getElem?_eq_getElem (by omega)
        have hw : IntKind.wrap .i64 ((i : Int) + 1) = ((i + 1 : Nat) : Int) := by
          rw [wrap_i64 (by omega) (by omega)]; omega
        generalize l[i] = x at hg
        generalize r[i]'(by omega) = y at hg2
        simp only [ixs28 hd, ixs28 he, Int.natCast_nonneg, if_true, Int.toNat_natCast, hg, hg2, Option.map_some, bs, linr_ld, lin_neq]
        refine Wp.dif ?_ ?_
        · intro hxy
          have hxy : x ≠ y := by simpa using hxy
          try simp only [bs]
          refine .some (.inr ⟨by simp, rfl, .inl ⟨rfl, rfl, fun hh => ?_⟩⟩)
          subst hh
          rw [hg] at hg2
          injection hg2 with hg2
          exact hxy hg2
        · intro hxy
          have hxy : x = y := by simpa using hxy
          subst hxy
          simp only [dBin_add, bs, hw]
          refine .some (.inl ⟨rfl, k - 1, by omega, rfl, _, _, _, i + 1, rfl, by omega, ?_⟩)
          rw [List.take_add_one, List.take_add_one, hi, hg, hg2]
      · intro h0
        have h0 : i = l.length := by have : ¬ (i : Int) < l.length := by simpa using h0
                                     omega
        refine .some (.inr ⟨by simp, rfl, .inr ⟨rfl, ?_⟩⟩)
        have h1 : l.take i = l := List.take_of_length_le (by omega)
        have h2 : r.take i = r := List.take_of_length_le (by omega)
        rw [← h1, ← h2, hi]
    · rintro ⟨x, ds, g⟩ ⟨rfl, ⟨rfl, hx, hne⟩ | ⟨rfl, hll⟩⟩
      · replace hx : nth 0 ds = .bool false := hx
        simp only [unblk_ret, toEnd_ret, exEnd_ret, nth_zero, bs, hx, mkRes_one]
        exact .some (by simp [-bind_some, hne])
      · simp only [unblk_self, toEnd_nrm, bs, mkRes_one]
        exact .some (by simp [-bind_some, hll])

theorem s95 (l r : List (Str × Str)) (d e : D) (h : Hp) (hd : SlOf 2 fld l d) (he : SlOf 2 fld r e) (hl : l.length ≤ 9223372036854775807) : R fn95 [d, e] h = some (.bool (decide (l = r)), h) := by
  suffices Wp (R fn95 [d, e] h) (fun p => p = (.bool (decide (l = r)), h)) by
    obtain ⟨p, h1, rfl⟩ := this
    exact h1
  rw [e95]
  simp only [F95, bs, Option.bind_assoc, lens29 hd, lens29 he, dBin_neq]
  refine Wp.dif ?_ ?_
  · intro hn
    have hn : l.length ≠ r.length := by have : ¬ (l.length : Int) = r.length := by simpa using hn
                                        omega
    have hne : l ≠ r := fun hh => hn (by rw [hh])
    simp only [bs, mkRes_one]
    exact .some (by simp [-bind_some, hne])
  · intro hn
    have hn : l.length = r.length := by have : (l.length : Int) = r.length := by simpa using hn
                                        omega
    refine Wp.loop (fun k ds g => g = h ∧ ∃ a b c, ∃ i : Nat, ds = [a, .int .i64 i, b, c] ∧ k + i = l.length ∧ l.take i = r.take i)
      (fun x => x.2.2 = h ∧ ((x.1 = .ret ∧ nth 0 x.2.1 = .bool false ∧ l ≠ r) ∨ (x.1 = .ext 0 ∧ l = r))) l.length ⟨rfl, _, _, _, 0, rfl, rfl, rfl⟩ ?_ ?_
    · rintro k ds g ⟨rfl, a, b, c, i, rfl, hk, hi⟩
      simp only [F95_L0, nth_zero, nth_succ, bs, Option.bind_assoc, lens29 hd, dBin_lss]
      refine Wp.dif ?_ ?_
      · intro h0
        have h0 : i < l.length := by have : (i : Int) < l.length := by simpa using h0
                                     omega
        have hg : l[i]? = some l[i] := List.getElem?_eq_getElem h0
        have hg2 : r[i]? = some (r[i]'(by omega)) := List.getElem?_eq_getElem (by omega)
        have hw : IntKind.wrap .i64 ((i : Int) + 1) = ((i + 1 : Nat) : Int) := by
          rw [wrap_i64 (by omega) (by omega)]; omega
        generalize l[i] = x at hg
        generalize r[i]'(by omega) = y at hg2
        simp only [ixs29 hd, ixs29 he, Int.natCast_nonneg, if_true, Int.toNat_natCast, hg, hg2, Option.map_some, bs, fld_ld, fld_neq]
        refine Wp.dif ?_ ?_
        · intro hxy
          have hxy : x ≠ y := by simpa using hxy
          try simp only [bs]
          refine .some (.inr ⟨by simp, rfl, .inl ⟨rfl, rfl, fun hh => ?_⟩⟩)
          subst hh
          rw [hg] at hg2
          injection hg2 with hg2
          exact hxy hg2
        · intro hxy
          have hxy : x = y := by simpa using hxy
          subst hxy
          simp only [dBin_add, bs, hw]
          refine .some (.inl ⟨rfl, k - 1, by omega, rfl, _, _, _, i + 1, rfl, by omega, ?_⟩)
          rw [List.take_add_one, List.take_add_one, hi, hg, hg2]
      · intro h0
        have h0 : i = l.length := by have : ¬ (i : Int) < l.length := by simpa using h0
                                     omega
        refine .some (.inr ⟨by simp, rfl, .inr ⟨rfl, ?_⟩⟩)
        have h1 : l.take i = l := List.take_of_length_le (by omega)
        have h2 : r.take i = r := List.take_of_length_le (by omega)
        rw [← h1, ← h2, hi]
    · rintro ⟨x, ds, g⟩ ⟨rfl, ⟨rfl, hx, hne⟩ | ⟨rfl, hll⟩⟩
      · replace hx : nth 0 ds = .bool false := hx
        simp only [unblk_ret, toEnd_ret, exEnd_ret, nth_zero, bs, hx, mkRes_one]
        exact .some (by simp [-bind_some, hne])
      · simp only [unblk_self, toEnd_nrm, bs, mkRes_one]
        exact .some (by simp [-bind_some, hll])
def sameE (a b : Ev) : Bool := decide (a.a0 = b.a0) && (decide (a.a1 = b.a1) && (decide (a.a2 = b.a2) && (decide (a.a3 = b.a3) && (decide (a.a5 = b.a5) && (decide (a.a6 = b.a6) && (decide (a.s7 = b.s7) && (decide (a.s8 = b.s8) && (decide (a.ls = b.ls) && decide (a.fs = b.fs)))))))))
def sameI (i j : It) : Bool := decide (i.r = j.r) && sameE i.e j.e
theorem sameE_refl (a : Ev) : sameE a a = true := by simp [-bind_some, sameE]
theorem sameI_refl (a : It) : sameI a a = true := by simp [-bind_some, sameI, sameE_refl]
theorem s82 (i j : It) (h : Hp) : R fn82 [.agg (itr i), .agg (itr j)] h = some (.bool (sameI i j), h) := by
  suffices Wp (R fn82 [.agg (itr i), .agg (itr j)] h) (fun p => p = (.bool (sameI i j), h)) by
    obtain ⟨p, h1, rfl⟩ := this
    exact h1
  rw [e82]
  simp only [F82, pBoxF_agg, bs, Option.bind_assoc, itF1, itF0, itL0, evL]
  generalize hg0 : dNew h ty31 10 [[.int .i64 0, .int .i64 0, .int .i64 0, .int .i64 0, .nils, .int .i64 0, .int .i64 0, .str [], .str [], .nils]] = g0
  have hgl : g0.length = h.length + 1 := by simp [-bind_some, ← hg0, dNew]
  have hb : ∀ q, q < h.length → g0[q]? = h[q]? := fun q hq => by simp only [← hg0, dNew]; rw [List.getElem?_append_left hq]
  have p8 : g0[h.length]? = some (.row ty31 10 [[.int .i64 0, .int .i64 0, .int .i64 0, .int .i64 0, .nils, .int .i64 0, .int .i64 0, .str [], .str [], .nils]]) := by simp [-bind_some, ← hg0, dNew]
  clear hg0
  refine wst31 p8 (by rfl) (by rfl) (by simp) (by rfl) fun g1 q8 s1 => ?_
  replace q8 : g1[h.length]? = some (.row ty31 10 [evr i.e]) := q8
  have hl1 : g1.length = h.length + 1 := by rw [s1.1, hgl]
  try simp only [chk_true]
  rw [hl1]
  generalize hg1 : dNew g1 ty31 10 [[.int .i64 0, .int .i64 0, .int .i64 0, .int .i64 0, .nils, .int .i64 0, .int .i64 0, .str [], .str [], .nils]] = g3
  have hgl3 : h.length ≤ g3.length := by simp [-bind_some, ← hg1, dNew]; omega
  have hb3 : ∀ q, q < h.length + 1 → g3[q]? = g1[q]? := fun q hq => by simp only [← hg1, dNew]; rw [List.getElem?_append_left (by omega)]
  have p9 : g3[h.length + 1]? = some (.row ty31 10 [[.int .i64 0, .int .i64 0, .int .i64 0, .int .i64 0, .nils, .int .i64 0, .int .i64 0, .str [], .str [], .nils]]) := by
    simp only [← hg1, dNew]; rw [← hl1, List.getElem?_append_right (Nat.le_refl _)]; simp [-bind_some]
  replace q8 := (hb3 h.length (by omega)).trans q8
  clear hg1
  refine wst31 p9 (by rfl) (by rfl) (by simp) (by rfl) fun g2 q9 s2 => ?_
  replace q9 : g2[h.length + 1]? = some (.row ty31 10 [evr j.e]) := q9
  replace q8 := (s2.2 h.length (by omega)).trans q8
  have hb2 : ∀ q, q < h.length → g2[q]? = h[q]? := fun q hq => (((s2.2 q (by omega)).trans (hb3 q (by omega))).trans (s1.2 q (by omega))).trans (hb q hq)
  have hl2 : h.length ≤ g2.length := by have := s2.1; omega
  have r8 : g2.row h.length 0 = some (evr i.e) := row_of q8
  have r9 : g2.row (h.length + 1) 0 = some (evr j.e) := row_of q9
  have hsc : ∀ b : Bool, scope h g2 (.bool b) = some (.bool b, h) := fun b => scope_eq (by simp) (.bool b) hl2 hb2
  obtain ⟨ri, ei⟩ := i
  obtain ⟨rj, ej⟩ := j
  by_cases h0 : ri = rj
  case neg => exact ⟨_, by simp [-bind_some, h0, hsc, sameI], rfl⟩
  by_cases h1 : ei.a0 = ej.a0
  case neg => exact ⟨_, by simp [-bind_some, h0, h1, hsc, sameI, sameE, r8, r9, evr], rfl⟩
  by_cases h2 : ei.a1 = ej.a1
  case neg => exact ⟨_, by simp [-bind_some, h0, h1, h2, hsc, sameI, sameE, r8, r9, evr], rfl⟩
  by_cases h3 : ei.a2 = ej.a2
  case neg => exact ⟨_, by simp [-bind_some, h0, h1, h2, h3, hsc, sameI, sameE, r8, r9, evr], rfl⟩
  by_cases h4 : ei.a3 = ej.a3
  case neg => exact ⟨_, by simp [-bind_some, h0, h1, h2, h3, h4, hsc, sameI, sameE, r8, r9, evr], rfl⟩
  by_cases h5 : ei.a5 = ej.a5
  case neg => exact ⟨_, by simp [-bind_some, h0, h1, h2, h3, h4, h5, hsc, sameI, sameE, r8, r9, evr], rfl⟩
  by_cases h6 : ei.a6 = ej.a6
  case neg => exact ⟨_, by simp [-bind_some, h0, h1, h2, h3, h4, h5, h6, hsc, sameI, sameE, r8, r9, evr], rfl⟩
  by_cases h7 : ei.s7 = ej.s7
  case neg => exact ⟨_, by simp [-bind_some, h0, h1, h2, h3, h4, h5, h6, h7, hsc, sameI, sameE, r8, r9, evr], rfl⟩
  by_cases h8 : ei.s8 = ej.s8
  case neg => exact ⟨_, by simp [-bind_some, h0, h1, h2, h3, h4, h5, h6, h7, h8, hsc, sameI, sameE, r8, r9, evr], rfl⟩
  have sl := s94 ei.ls ej.ls ei.ld ej.ld g2 ei.hld ej.hld ei.hll
  have sf := s95 ei.fs ej.fs ei.fd ej.fd g2 ei.hfd ej.hfd ei.hl
  by_cases h9 : ei.ls = ej.ls
  case neg => exact ⟨_, by simp [-bind_some, h0, h1, h2, h3, h4, h5, h6, h7, h8, h9, hsc, sameI, sameE, r8, r9, evr, sl], rfl⟩
  by_cases h10 : ei.fs = ej.fs
  case neg => exact ⟨_, by simp [-bind_some, h0, h1, h2, h3, h4, h5, h6, h7, h8, h9, h10, hsc, sameI, sameE, r8, r9, evr, sl, sf], rfl⟩
  exact ⟨_, by simp [-bind_some, h0, h1, h2, h3, h4, h5, h6, h7, h8, h9, h10, hsc, sameI, sameE, r8, r9, evr, sl, sf], rfl⟩
def idx {α : Type} (pr : α → Bool) : Nat → List α → Int
  | _, [] => -1
  | k, x :: r => if pr x = true then k else idx pr (k + 1) r
theorem idx_any {α : Type} (pr : α → Bool) : ∀ (l : List α) (k : Nat), decide (0 ≤ idx pr k l) = l.any pr
  | [], k => by simp [-bind_some, idx]
  | x :: r, k => by
    unfold idx
    by_cases h : pr x = true
    · simp [-bind_some, h]
    · simp [-bind_some, h, idx_any pr r]
theorem given_len {zs : List Int} {d : D} (hd : Given .u8 zs d) : dLenT tab ty22 d = some (.int .i64 zs.length) := by
  rcases hd with ⟨rfl, rfl⟩ | rfl
  · rfl
  · simp [-bind_some, ints]
theorem given_ix {zs : List Int} {d : D} (hd : Given .u8 zs d) (i : Nat) (z : Int) (hz : zs[i]? = some z) : dIndexAddr tab ty22 d (.int .i64 i) = some (.fptr [.int .u8 z]) := by
  rcases hd with ⟨rfl, rfl⟩ | rfl
  · cases hz
  · simp [-bind_some, ints, hz]
theorem store_ptr3 (h : Hp) (o k f : Nat) (v : D) : dStore tab h ty3 (.ptr o k f) v = pSt 1 h (.ptr o k f) v := rfl
def blank (l : Lin) : Lin := { l with txt := [] }
theorem ldob {h : Hp} {q T z : Nat} {cs : List D} (hq : h[q]? = some (.row T z [cs])) (hl : cs.length = 10) : dLoad tab h ty31 (.ptr q 0 0) = some (.agg cs) := by
  rw [ldp31, row_of hq]
  simp [-bind_some, takeN, hl]
  exact List.take_of_length_le (by omega)
theorem ldob11 {h : Hp} {q T z : Nat} {cs : List D} (hq : h[q]? = some (.row T z [cs])) (hl : cs.length = 11) : dLoad tab h ty74 (.ptr q 0 0) = some (.agg cs) := by
  rw [ldp74, row_of hq]
  simp [-bind_some, takeN, hl]
  exact List.take_of_length_le (by omega)
def letter (c : Int) : Bool := (decide (97 ≤ c) && decide (c ≤ 122)) || (decide (65 ≤ c) && decide (c ≤ 90))
def digit (c : Int) : Bool := decide (48 ≤ c) && decide (c ≤ 57)
def wordc (c : Int) : Bool := (digit c || letter c) || decide (c = 95)
theorem s1019 (c : Int) (h : Hp) : R fn1019 [.int .u8 c] h = some (.bool (letter c), h) := by
  rw [e1019]
  simp [-bind_some, F1019, letter]
  by_cases h0 : 97 ≤ c <;> by_cases h1 : c ≤ 122 <;> by_cases h2 : 65 ≤ c <;> by_cases h3 : c ≤ 90 <;> simp [-bind_some, h0, h1, h2, h3]
theorem s1021 (c : Int) (h : Hp) : R fn1021 [.int .u8 c] h = some (.bool (digit c), h) := by
  rw [e1021]
  simp [-bind_some, F1021, digit]
  by_cases h0 : 48 ≤ c <;> by_cases h1 : c ≤ 57 <;> simp [-bind_some, h0, h1]
theorem s1020 (c : Int) (h : Hp) : R fn1020 [.int .u8 c] h = some (.bool (wordc c), h) := by
  rw [e1020]
  cases hd : digit c <;> cases hl : letter c <;> simp [-bind_some, F1020, s1021, s1019, wordc, hd, hl]
def nameC (c : UInt8) : Bool := wordc c.toNat || decide ((c.toNat : Int) = 46)
def fnameOK (s : Str) : Bool := match s with
  | [] => false
  | c :: r => decide ((c :: r).length ≤ 32) && (letter c.toNat || decide ((c.toNat : Int) = 95)) && (c :: r).all nameC
theorem sidx (s : Str) (i : Nat) (c : UInt8) (hc : s[i]? = some c) : dIndex tab ty9 (.str s) (.int .i64 i) = some (.int .u8 c.toNat) := by
  show (if (0 : Int) ≤ (i : Int) then (match s[(i : Int).toNat]? with | some c => some (D.int .u8 c.toNat) | none => none) else none) = _
  simp [-bind_some, hc]
theorem l1018 (s : Str) (h : Hp) (hl : s.length ≤ 9223372036854775807) {β : Type} (K : Out → Option β) (X : Bool → Option β)
   (hX : ∀ r, K (.ret, .bool false :: r, h) = X false) (hY : ∀ r, K (.ext 0, r, h) = X true) : ∀ (suf pre : Str), s = pre ++ suf → ∀ a b e,
   (loopW (F1018_L0 (.str s)) [a, .int .i64 pre.length, b, e] h).bind K = X (suf.all nameC) := by
  intro suf
  induction suf with
  | nil =>
    rintro pre rfl a b e
    rw [loopW_eq]
    simp [-bind_some, F1018_L0, hY]
  | cons p suf ih =>
    rintro pre rfl a b e
    have hw : IntKind.wrap .i64 ((pre.length : Int) + 1) = (pre ++ [p]).length := by
      rw [wrap_i64 (by omega) (by simp at hl; omega)]; simp [-bind_some]
    have hlt : (pre.length : Int) < (pre ++ p :: suf).length := by simp; omega
    rw [loopW_eq]
    generalize hL : pre ++ p :: suf = L at *
    have hg : L[pre.length]? = some p := by rw [← hL]; exact get_mid _ _ _
    have hix := sidx L pre.length p hg
    cases hp : wordc p.toNat
    · by_cases h46 : (p.toNat : Int) = 46
      · have := ih (pre ++ [p]) (by simp [-bind_some, ← hL]) a (.bool true) (.bool (decide ((p.toNat : Int) ≠ 46)))
        simp only [← hw] at this
        have h47 : wordc 46 = false := rfl
        simp [-bind_some, F1018_L0, hlt, hix, s1020, hp, nameC, h46, h47]
        simp [-bind_some, h46] at this
        exact this
      · simp [-bind_some, F1018_L0, hlt, hix, s1020, hp, nameC, h46, hX]
    · have := ih (pre ++ [p]) (by simp [-bind_some, ← hL]) a (.bool true) (.bool false)
      simp only [← hw] at this
      simp [-bind_some, F1018_L0, hlt, hix, s1020, hp, nameC]
      exact this
theorem s1018 (s : Str) (h : Hp) (hl : s.length ≤ 9223372036854775807) : R fn1018 [.str s] h = some (.bool (fnameOK s), h) := by
  rw [e1018]
  cases s with
  | nil => simp [-bind_some, F1018, fnameOK]
  | cons c r =>
    have hi0 : dIndex tab ty9 (.str (c :: r)) (.int .i64 0) = some (.int .u8 c.toNat) := sidx (c :: r) 0 c rfl
    have h1 : ¬ ((c :: r).length : Int) < 1 := by simp; omega
    have hlp := l1018 (c :: r) h hl (fun r_1 => (some (unblk 0 r_1.1, [nth 0 r_1.2.1, nth 1 r_1.2.1, nth 2 r_1.2.1, nth 3 r_1.2.1], r_1.2.2)).bind fun r_1 => toEnd r_1.1 (some (.bool true, r_1.2.2)) fun x => exEnd x (some (nth 0 r_1.2.1, r_1.2.2))) (fun b => some (.bool b, h)) (fun r => by simp) (fun r => by simp) (c :: r) [] rfl
    simp only [bs] at hlp
    by_cases h32 : (32 : Int) < ((c :: r).length : Int)
    · have h33 : ¬ (c :: r).length ≤ 32 := by omega
      simp only [F1018, bs, len9, dBin_lss, dBin_gtr, gd_bool, dPick_bool, h32, h1, decide_true, decide_false, gdW_bool, dIf_bool, mkRes_one, if_true, if_false, Bool.false_eq_true, reduceCtorEq, fnameOK, h33, Bool.false_and, gd_und, bs]
    · have h33 : (c :: r).length ≤ 32 := by omega
      cases hq : letter c.toNat
      · by_cases h95 : (c.toNat : Int) = 95
        · simp only [F1018, bs, len9, dBin_lss, dBin_gtr, gd_bool, dPick_bool, h32, h1, decide_true, decide_false, gdW_bool, dIf_bool, mkRes_one, if_true, if_false, Bool.false_eq_true, reduceCtorEq, fnameOK, h33, Bool.false_and, hi0, s1019, hq, show letter 95 = false from rfl, dUn_not, Bool.not_false, dBin_neq, h95, ne_eq, not_true, Option.bind_assoc]
          refine (hlp _ _ _).trans ?_
          simp [-bind_some, nameC]
        · simp only [F1018, bs, len9, dBin_lss, dBin_gtr, gd_bool, dPick_bool, h32, h1, decide_true, decide_false, gdW_bool, dIf_bool, mkRes_one, if_true, if_false, Bool.false_eq_true, reduceCtorEq, fnameOK, h33, Bool.false_and, hi0, s1019, hq, dUn_not, Bool.not_false, dBin_neq, h95, ne_eq, not_true, not_false_eq_true, Bool.or_false, Bool.and_false]
      · simp only [F1018, bs, len9, dBin_lss, dBin_gtr, gd_bool, dPick_bool, h32, h1, decide_true, decide_false, gdW_bool, dIf_bool, mkRes_one, if_true, if_false, Bool.false_eq_true, reduceCtorEq, fnameOK, h33, Bool.false_and, hi0, s1019, hq, dUn_not, Bool.not_true, gd_und, Option.bind_assoc]
        refine (hlp _ _ _).trans ?_
        simp [-bind_some, nameC]
def Asc (l : List (Str × Str)) : Prop := ∀ i p q, l[i]? = some p → l[i + 1]? = some q → Op.bytesLess p.1 q.1 = true ∧ p.1 ≠ q.1
theorem sgtr (t : Nat) (s u : Str) : dBin tab .gtr t (.str s) (.str u) = some (.bool (!(Op.bytesLess s u || s == u))) := id rfl
theorem fld_f0 (p : Str × Str) : (dFieldAddr tab ty109 0 (.fptr (fld p))) = some (.fptr (fld p)) := id rfl
theorem fld_l0 (p : Str × Str) (h : Hp) : dLoad tab h ty9 (.fptr (fld p)) = some (.str p.1) := id rfl
theorem l1006 (l : List Lin) (d : D) (fn : D) (pr : Lin → Bool) (h : Hp) (hd : SlOf 3 linr l d) (hl : l.length ≤ 9223372036854775807) (hf : ∀ x, callV R fn [.agg (linr x)] h = some (.bool (pr x), h)) {β : Type} (K : Out → Option β) (X : Int → Option β)
   (hX : ∀ v r, K (.ret, .int .i64 v :: r, h) = X v) (hY : ∀ r, K (.ext 0, r, h) = X (-1)) : ∀ (suf pre : List Lin), l = pre ++ suf → ∀ a b e f,
   (loopW (F1006_L0 d fn (.int .i64 l.length)) [a, b, .int .i64 pre.length, e, f] h).bind K = X (idx pr pre.length suf) := by
  intro suf
  induction suf with
  | nil =>
    rintro pre rfl a b e f
    rw [loopW_eq]
    simp [-bind_some, F1006_L0, hY, idx]
  | cons p suf ih =>
    rintro pre rfl a b e f
    have hw : IntKind.wrap .i64 ((pre.length : Int) + 1) = (pre ++ [p]).length := by
      rw [wrap_i64 (by omega) (by simp at hl; omega)]; simp [-bind_some]
    have hlt : (pre.length : Int) < (pre ++ p :: suf).length := by simp; omega
    rw [loopW_eq]
    generalize hL : pre ++ p :: suf = L at *
    have hg : L[pre.length]? = some p := by rw [← hL]; exact get_mid _ _ _
    by_cases hp : pr p = true
    · simp [-bind_some, F1006_L0, ixs28 hd, hlt, hg, linr_ld, hf, hp, hX, idx]
    · have := ih (pre ++ [p]) (by simp [-bind_some, ← hL]) a (.int .i64 pre.length) (.bool true) (.bool (pr p))
      simp only [← hw] at this
      simp [-bind_some, F1006_L0, ixs28 hd, hlt, hg, linr_ld, hf, hp, idx]
      simp [-bind_some, hp] at this
      exact this
theorem s1006 (l : List Lin) (d : D) (fn : D) (pr : Lin → Bool) (h : Hp) (hd : SlOf 3 linr l d) (hl : l.length ≤ 9223372036854775807) (hf : ∀ x, callV R fn [.agg (linr x)] h = some (.bool (pr x), h)) :
   R fn1006 [d, fn] h = some (.int .i64 (idx pr 0 l), h) := by
  rw [e1006]
  simp only [F1006, bs, lens28 hd, Option.bind_assoc]
  rw [show (0 : Int) = (([] : List Lin).length : Int) from rfl, l1006 l d fn pr h hd hl hf _ (fun v => some (.int .i64 v, h)) (fun v r => by simp) (fun r => by simp) l [] rfl]
  rfl
theorem app_full {T : Tab} {t e : Nat} {i j : TI} (ht : T t = Option.some i) (hi : i.td = .sl e) (he : T e = Option.some j) (hz : 0 < j.sz) {h : Hp} {ys : List (List D)} {y : D} (hy : dRowsOf h j.sz y = Option.some ys) (hl : lim ys.length j.by_ = true) :
    ∃ x' h', dAppend T h t t (.sl j.sz true []) y = Option.some (x', h') ∧ h.length ≤ h'.length ∧ (∀ q, q < h.length → h'[q]? = h[q]?) ∧ ((x' = .sl j.sz true [] ∧ ys = []) ∨ Own h' h.length e j.sz ys x') := by
  have hz' : Nat.blt 0 j.sz = true := Nat.ble_eq_true_of_le hz
  have hs : dSrc h i j y = Option.some ys := by simp [-bind_some, dSrc, hi, hy]
  unfold dAppend
  simp only [ht, hi, he, hz', hs]
  cases ys with
  | nil => exact ⟨_, _, rfl, Nat.le_refl _, fun _ _ => rfl, .inl ⟨rfl, rfl⟩⟩
  | cons y1 yr =>
    simp only [List.length_nil, Nat.zero_add, hl, and_self, if_true, List.nil_append, true_and]
    exact ⟨_, _, rfl, by simp [-bind_some, dNew], fun q hq => by simp only [dNew]; rw [List.getElem?_append_left hq], .inr (.inr ⟨h.length, Nat.le_refl _, rfl, by simp [-bind_some, dNew]⟩)⟩
def it0 : It := ⟨[], ⟨0, 0, 0, 0, [], .nils, 0, 0, [], [], [], .nils, SlOf.nils _ _, by simp, SlOf.nils _ _, by simp⟩⟩
def inr (n : Int) : List D := [.int .i64 n]
theorem n66 (o pos : Nat) (zs : List Int) (d : D) (h : Hp) (ho : h[o]? = some (.row ty80 2 [[d, .int .i64 pos]])) (hd : Given .u8 zs d) : R fn66 [.ptr o 0 0] h = some (.bool (decide (pos < zs.length)), h) := by
  rw [e66]
  simp [-bind_some, F66, Hp.row, ho, given_len hd]
def CM (h : Hp) (o : Nat) : Prop := ∃ (d : D) (zs : List Int) (pos : Nat), h[o]? = some (.row ty80 2 [[d, .int .i64 pos]]) ∧ Given .u8 zs d ∧ zs.length ≤ 400 ∧ pos ≤ 400 ∧ ∀ z ∈ zs, 0 ≤ z ∧ z < 256
theorem CM.keep {h h' : Hp} {o : Nat} (hc : CM h o) (he : h'[o]? = h[o]?) : CM h' o := by
  obtain ⟨d, zs, pos, ho, hr⟩ := hc
  exact ⟨d, zs, pos, by rw [he]; exact ho, hr⟩
theorem CM.lt {h : Hp} {o : Nat} (hc : CM h o) : o < h.length := by
  obtain ⟨d, zs, pos, ho, hr⟩ := hc
  exact (List.getElem?_eq_some_iff.1 ho).1
theorem CM.ok {h : Hp} {o : Nat} (hc : CM h o) (n : Nat) : ∀ T sz rows, h[o]? = some (.row T sz rows) → ∀ row ∈ rows, ∀ d ∈ row, Ok n d := by
  obtain ⟨d, zs, pos, ho, hd, _⟩ := hc
  intro T sz rows hr row hrow x hx
  rw [ho] at hr
  injection hr with hr
  injection hr with _ _ hr
  subst hr
  simp at hrow
  subst hrow
  simp at hx
  rcases hx with rfl | rfl
  · exact given_okd hd n
  · exact .int _ _
theorem m39 {h : Hp} {o : Nat} (hc : CM h o) (n : Int) (hn : 1 ≤ n) (hn2 : n ≤ 1000000000) : ∃ v h', R fn39 [.ptr o 0 0, .int .i64 n] h = some (.int .i64 v, h') ∧ CM h' o ∧ Same o h h' ∧ 0 ≤ v ∧ v < n := by
  obtain ⟨d, zs, pos, ho, hd, hl, hp4, hz⟩ := hc
  have hn' : ¬ n < 1 := by omega
  have hn0 : ¬ n = 0 := by omega
  by_cases hp : pos < zs.length
  · have hg : zs[pos]? = some zs[pos] := List.getElem?_eq_getElem hp
    have hm := hz zs[pos] (List.getElem_mem _)
    generalize zs[pos] = z at hg hm
    have hw : IntKind.wrap .i64 ((pos : Int) + 1) = (pos : Int) + 1 := wrap_i64 (by omega) (by omega)
    have hw2 : IntKind.wrap .i64 ((pos : Int) + 1 - 1) = (pos : Int) := by rw [wrap_i64 (by omega) (by omega)]; omega
    have hw3 : IntKind.wrap .i64 (pos : Int) = (pos : Int) := wrap_i64 (by omega) (by omega)
    have hzw : IntKind.wrap .i64 z = z := wrap_i64 (by omega) (by omega)
    have holt : o < h.length := (List.getElem?_eq_some_iff.1 ho).1
    have hs : ∀ X, (h.set o X)[o]? = some X := fun X => List.getElem?_set_self holt
    have h1 := Int.tmod_nonneg n hm.1
    have h2 := Int.tmod_lt_of_pos z (show 0 < n by omega)
    refine ⟨z.tmod n, h.set o (.row ty80 2 [[d, .int .i64 ((pos + 1 : Nat) : Int)]]), ?_, ⟨d, zs, pos + 1, by simp [-bind_some, holt], hd, hl, by omega, hz⟩, ⟨by simp, fun q hq => by rw [List.getElem?_set_ne (by omega)]⟩, h1, h2⟩
    rw [e39]
    simp [-bind_some, F39, n66 o pos zs d h ho hd, hp, hn', hn0, Hp.row, ho, store_ptr3, pSt, D.okv, cells1, D.one, spl, hw, hw2, hw3, given_ix hd pos z hg, hzw, hs]
  · refine ⟨0, h, ?_, ⟨d, zs, pos, ho, hd, hl, hp4, hz⟩, .refl _ _, by omega, by omega⟩
    rw [e39]
    simp [-bind_some, F39, n66 o pos zs d h ho hd, hp]
theorem m40 {h : Hp} {o : Nat} (hc : CM h o) (l : List Str) (d : D) (hd : SlOf 1 (fun s => [.str s]) l d) (h1 : 1 ≤ l.length) (h2 : l.length ≤ 1000) : ∃ s h', R fn40 [.ptr o 0 0, d] h = some (.str s, h') ∧ CM h' o ∧ Same o h h' ∧ s ∈ l := by
  obtain ⟨v, h', e1, c1, s1, v0, v1⟩ := m39 hc l.length (by omega) (by omega)
  obtain ⟨s, hs, hg⟩ := pick_of l v v0 v1
  refine ⟨s, h', ?_, c1, s1, hs⟩
  rw [e40]
  simp [-bind_some, F40, lens98 hd, e1, ixs98 hd, v0, hg]
theorem pick_wp {h : Hp} {o : Nat} (hc : CM h o) (l : List Str) (m : Nat) (hm : ∀ s ∈ l, s.length ≤ m) (h1 : 1 ≤ l.length) (h2 : l.length ≤ 1000) {β : Type} {f : D × Hp → Option β} {Q : β → Prop}
    (k : ∀ s h', CM h' o → Same o h h' → s ∈ l → s.length ≤ m → Wp (f (.str s, h')) Q) : Wp ((R fn40 [.ptr o 0 0, .sl 1 true (l.map fun s => [.str s])] h).bind f) Q := by
  obtain ⟨s, h', e1, c1, s1, hs⟩ := m40 hc l _ (.mk _ _ _ _) h1 h2
  rw [e1]
  exact k s h' c1 s1 hs (hm s hs)
theorem add_wp (t : Nat) {s u : Str} (hs : s.length ≤ 1000000000) (hu : u.length ≤ 1000000000) {β : Type} {f : D → Option β} {Q : β → Prop} (k : ∀ v : Str, v.length = s.length + u.length → Wp (f (.str v)) Q) : Wp ((dBin tab .add t (.str s) (.str u)).bind f) Q := by
  rw [dBin_sadd _ _ _ _ (by omega)]
  exact k _ (by simp)
theorem m83 {h : Hp} {o : Nat} (hc : CM h o) (most : Int) (hm0 : 0 ≤ most) (hm1 : most ≤ 20) : ∃ s h', R fn83 [.ptr o 0 0, .int .i64 most] h = some (.str s, h') ∧ CM h' o ∧ Same o h h' ∧ s.length ≤ 80 := by
  suffices Wp (R fn83 [.ptr o 0 0, .int .i64 most] h) (fun p => ∃ s, p.1 = .str s ∧ CM p.2 o ∧ Same o h p.2 ∧ s.length ≤ 80) by
    obtain ⟨⟨x, h'⟩, h1, s, rfl, h2⟩ := this
    exact ⟨s, h', h1, h2⟩
  rw [e83]
  have hw := wrap_i64 (n := most + 1) (by omega) (by omega)
  simp only [F83, bs, Option.bind_assoc, dBin_add, hw]
  obtain ⟨v, h1, e1, c1, s1, v0, v1⟩ := m39 hc (most + 1) (by omega) (by omega)
  refine Wp.step e1 ?_
  simp only [bs]
  refine Wp.loop (fun k ds g => ∃ s a, ds = [.str s, .int .i64 k, a] ∧ CM g o ∧ Same o h g ∧ k ≤ 20 ∧ s.length + 4 * k ≤ 80) (fun r => r.1 = .ext 0 ∧ ∃ s a b, r.2.1 = [.str s, a, b] ∧ CM r.2.2 o ∧ Same o h r.2.2 ∧ s.length ≤ 80) v.toNat ⟨[], .any, by rw [Int.toNat_of_nonneg v0], c1, s1, by omega, by simp; omega⟩ ?_ ?_
  · rintro k ds g ⟨s, a, rfl, cg, sg, hk, hs⟩
    simp only [F83_L0, nth_zero, nth_succ, bs, dBin_gtr]
    refine Wp.dif ?_ ?_
    · intro h0
      have h0 : 0 < (k : Int) := by simpa using h0
      simp only [lt98_33_ok, bs]
      refine pick_wp cg lt98_33 4 (by decide) (by decide) (by decide) fun u g1 c1 q1 _ hu => ?_
      simp only [bs]
      refine add_wp _ (by omega) (by omega) fun w hw => ?_
      have hk1 : IntKind.wrap .i64 ((k : Int) - 1) = ((k - 1 : Nat) : Int) := by
        rw [wrap_i64 (by omega) (by omega)]; omega
      simp only [bs, dBin_sub, hk1]
      exact .some (.inl ⟨rfl, k - 1, by omega, w, _, rfl, c1, sg.trans q1, by omega, by omega⟩)
    · intro _
      exact .some (.inr ⟨by simp, rfl, s, _, _, rfl, cg, sg, by omega⟩)
  · rintro ⟨x, ds, g⟩ ⟨rfl, s, a, b, rfl, cg, sg, hs⟩
    simp only [unblk_self, toEnd_nrm, nth_zero, bs, mkRes_one]
    exact .some ⟨s, rfl, cg, sg, hs⟩
theorem m67 {h : Hp} {o : Nat} (hc : CM h o) : ∃ s h', R fn67 [.ptr o 0 0] h = some (.str s, h') ∧ CM h' o ∧ Same o h h' ∧ s.length ≤ 200 := by
  suffices Wp (R fn67 [.ptr o 0 0] h) (fun p => ∃ s, p.1 = .str s ∧ CM p.2 o ∧ Same o h p.2 ∧ s.length ≤ 200) by
    obtain ⟨⟨x, h'⟩, h1, s, rfl, h2⟩ := this
    exact ⟨s, h', h1, h2⟩
  rw [e67]
  simp only [F67, bs, Option.bind_assoc, lt98_19_ok, lt98_20_ok, lt98_21_ok, lt98_22_ok, lt98_23_ok, lt98_24_ok, lt98_25_ok, lt98_26_ok, lt98_27_ok, lt98_28_ok, lt98_29_ok, lt98_30_ok, lt98_31_ok, lt98_32_ok]
  obtain ⟨v, h1, e1, c1, s1, v0, v1⟩ := m39 hc 8 (by omega) (by omega)
  refine Wp.step e1 ?_
  clear e1
  simp only [dBin_eql, bs]
  have fin : ∀ (s : Str) (g : Hp), CM g o → Same o h g → s.length ≤ 200 → Wp (some ((.str s : D), g)) (fun p => ∃ s, p.1 = .str s ∧ CM p.2 o ∧ Same o h p.2 ∧ s.length ≤ 200) := fun s g a b c => .some ⟨s, rfl, a, b, c⟩
  refine Wp.dif (fun _ => ?_) (fun _ => ?_)
  · repeat first
      | (refine pick_wp (by assumption) _ 8 (by decide) (by decide) (by decide) fun u g c1 q1 _ hu => ?_
         replace s1 := s1.trans q1
         clear q1
         try simp only [bs])
      | (refine add_wp _ (by first | omega | (simp [-bind_some]; omega) | simp [-bind_some]) (by first | omega | (simp [-bind_some]; omega) | simp [-bind_some]) fun w hw => ?_
         try simp only [List.length_cons, List.length_nil] at hw
         try simp only [bs])
    try simp only [mkRes_one]
    exact fin _ _ (by assumption) s1 (by omega)
  refine Wp.dif (fun _ => ?_) (fun _ => ?_)
  · repeat first
      | (refine pick_wp (by assumption) _ 8 (by decide) (by decide) (by decide) fun u g c1 q1 _ hu => ?_
         replace s1 := s1.trans q1
         clear q1
         try simp only [bs])
      | (refine add_wp _ (by first | omega | (simp [-bind_some]; omega) | simp [-bind_some]) (by first | omega | (simp [-bind_some]; omega) | simp [-bind_some]) fun w hw => ?_
         try simp only [List.length_cons, List.length_nil] at hw
         try simp only [bs])
    try simp only [mkRes_one]
    exact fin _ _ (by assumption) s1 (by omega)
  refine Wp.dif (fun _ => ?_) (fun _ => ?_)
  · repeat first
      | (refine pick_wp (by assumption) _ 8 (by decide) (by decide) (by decide) fun u g c1 q1 _ hu => ?_
         replace s1 := s1.trans q1
         clear q1
         try simp only [bs])
      | (refine add_wp _ (by first | omega | (simp [-bind_some]; omega) | simp [-bind_some]) (by first | omega | (simp [-bind_some]; omega) | simp [-bind_some]) fun w hw => ?_
         try simp only [List.length_cons, List.length_nil] at hw
         try simp only [bs])
    try simp only [mkRes_one]
    exact fin _ _ (by assumption) s1 (by omega)
  refine Wp.dif (fun _ => ?_) (fun _ => ?_)
  · repeat first
      | (refine pick_wp (by assumption) _ 8 (by decide) (by decide) (by decide) fun u g c1 q1 _ hu => ?_
         replace s1 := s1.trans q1
         clear q1
         try simp only [bs])
      | (refine add_wp _ (by first | omega | (simp [-bind_some]; omega) | simp [-bind_some]) (by first | omega | (simp [-bind_some]; omega) | simp [-bind_some]) fun w hw => ?_
         try simp only [List.length_cons, List.length_nil] at hw
         try simp only [bs])
    try simp only [mkRes_one]
    exact fin _ _ (by assumption) s1 (by omega)
  refine Wp.dif (fun _ => ?_) (fun _ => ?_)
  · repeat first
      | (refine pick_wp (by assumption) _ 8 (by decide) (by decide) (by decide) fun u g c1 q1 _ hu => ?_
         replace s1 := s1.trans q1
         clear q1
         try simp only [bs])
      | (refine add_wp _ (by first | omega | (simp [-bind_some]; omega) | simp [-bind_some]) (by first | omega | (simp [-bind_some]; omega) | simp [-bind_some]) fun w hw => ?_
         try simp only [List.length_cons, List.length_nil] at hw
         try simp only [bs])
    try simp only [mkRes_one]
    exact fin _ _ (by assumption) s1 (by omega)
  refine Wp.dif (fun _ => ?_) (fun _ => ?_)
  · repeat first
      | (refine pick_wp (by assumption) _ 8 (by decide) (by decide) (by decide) fun u g c1 q1 _ hu => ?_
         replace s1 := s1.trans q1
         clear q1
         try simp only [bs])
      | (refine add_wp _ (by first | omega | (simp [-bind_some]; omega) | simp [-bind_some]) (by first | omega | (simp [-bind_some]; omega) | simp [-bind_some]) fun w hw => ?_
         try simp only [List.length_cons, List.length_nil] at hw
         try simp only [bs])
    try simp only [mkRes_one]
    exact fin _ _ (by assumption) s1 (by omega)
  obtain ⟨s, g, e2, c2, s2, hs⟩ := m83 c1 6 (by omega) (by omega)
  simp only [e2, bs, mkRes_one]
  exact fin _ _ c2 (s1.trans s2) (by omega)
structure Sm (h0 : Hp) (o : Nat) (g : Hp) : Prop where
  lt : o < h0.length
  cd : CM g o
  gr : Grow h0.length o h0 g
theorem Sm.refl {h : Hp} {o : Nat} (hc : CM h o) : Sm h o h := ⟨hc.lt, hc, .refl _ _ _⟩
theorem Sm.next {h0 g g' : Hp} {o : Nat} (s : Sm h0 o g) (hc : CM g' o) (hs : Same o g g') : Sm h0 o g' := ⟨s.lt, hc, s.gr.trans hs.grow⟩
theorem Sm.app {h0 g g' : Hp} {o : Nat} (s : Sm h0 o g) (hl : g.length ≤ g'.length) (hb : ∀ q, q < h0.length → g'[q]? = g[q]?) : Sm h0 o g' := ⟨s.lt, s.cd.keep (hb o s.lt), s.gr.trans ⟨hl, fun q hq _ => hb q hq⟩⟩
theorem Sm.le {h0 g : Hp} {o : Nat} (s : Sm h0 o g) : h0.length ≤ g.length := s.gr.1
theorem Sm.scope {h0 g : Hp} {o : Nat} (s : Sm h0 o g) {d d' : D} (hd : frz h0.length g 4 d = d') (hok : Ok h0.length d') : ∃ h', scope h0 g d = some (d', h') ∧ CM h' o ∧ Same o h0 h' := by
  obtain ⟨h1, h2, h3⟩ := scope_same hd hok s.gr (s.cd.ok h0.length)
  exact ⟨_, h1, s.cd.keep (h3 o s.lt), h2⟩
def mch : Int → List Lin → Int → Prop
  | a, [], b => a = b
  | a, l :: r, b => l.off = a ∧ 1 ≤ l.len ∧ l.len ≤ 20 ∧ l.txt.length ≤ 200 ∧ mch (a + l.len) r b
theorem mch_snoc : ∀ (ls : List Lin) (a b : Int) (l : Lin), mch a ls b → l.off = b → 1 ≤ l.len → l.len ≤ 20 → l.txt.length ≤ 200 → mch a (ls ++ [l]) (b + l.len)
  | [], a, b, l, h, h1, h2, h3, h4 => by
    simp only [mch] at h
    subst h
    exact ⟨h1, h2, h3, h4, rfl⟩
  | x :: r, a, b, l, h, h1, h2, h3, h4 => ⟨h.1, h.2.1, h.2.2.1, h.2.2.2.1, mch_snoc r _ b l h.2.2.2.2 h1 h2 h3 h4⟩
theorem mch_le : ∀ (ls : List Lin) (a b : Int), mch a ls b → a + ls.length ≤ b ∧ b ≤ a + 20 * ls.length
  | [], a, b, h => by simp [-bind_some, mch] at h; simp [-bind_some]; omega
  | x :: r, a, b, h => by
    have := mch_le r _ b h.2.2.2.2
    have := h.2.1
    have := h.2.2.1
    simp only [List.length_cons]
    omega
theorem ldob3 {h : Hp} {q T z : Nat} {cs : List D} (hq : h[q]? = some (.row T z [cs])) (hl : cs.length = 3) : dLoad tab h ty78 (.ptr q 0 0) = some (.agg cs) := by
  rw [ldp78, row_of hq]
  simp [-bind_some, takeN, hl]
  exact List.take_of_length_le (by omega)
theorem new_get (g : Hp) (T z : Nat) (rows : List (List D)) : (dNew g T z rows)[g.length]? = some (.row T z rows) := by simp [-bind_some, dNew]
theorem new_old (g : Hp) (T z : Nat) (rows : List (List D)) {q : Nat} (hq : q < g.length) : (dNew g T z rows)[q]? = g[q]? := by
  simp only [dNew]; rw [List.getElem?_append_left hq]
theorem new_len (g : Hp) (T z : Nat) (rows : List (List D)) : (dNew g T z rows).length = g.length + 1 := by simp [-bind_some, dNew]
theorem m42 {h : Hp} {o : Nat} (hc : CM h o) (fr : Int) (hf0 : 0 ≤ fr) (hf1 : fr ≤ 1000000) (most : Int) (hm0 : 1 ≤ most) (hm1 : most ≤ 10) : ∃ x h', R fn42 [.ptr o 0 0, .int .i64 fr, .int .i64 most, .bool true] h = some (x, h') ∧ CM h' o ∧ Same o h h' ∧ ∃ ls e, SlOf 3 linr ls x ∧ mch fr ls e ∧ 1 ≤ ls.length ∧ ls.length ≤ most.toNat := by
  suffices Wp (R fn42 [.ptr o 0 0, .int .i64 fr, .int .i64 most, .bool true] h) (fun p => CM p.2 o ∧ Same o h p.2 ∧ ∃ ls e, SlOf 3 linr ls p.1 ∧ mch fr ls e ∧ 1 ≤ ls.length ∧ ls.length ≤ most.toNat) by
    obtain ⟨⟨x, h'⟩, h1, h2⟩ := this
    exact ⟨x, h', h1, h2⟩
  rw [e42]
  simp only [F42, bs, Option.bind_assoc]
  obtain ⟨v, h1, e1, c1, s1, v0, v1⟩ := m39 hc most (by omega) (by omega)
  have S1 := (Sm.refl hc).next c1 s1
  refine Wp.step e1 ?_
  clear e1
  have hw := wrap_i64 (n := 1 + v) (by omega) (by omega)
  simp only [dBin_add, hw, bs]
  refine Wp.loop (fun k ds g => ∃ (po : Int) (x a b c : D) (ls : List Lin), ds = [.int .i64 po, x, .int .i64 k, a, b, c] ∧ Sm h o g ∧ Own g h.length ty78 3 (ls.map linr) x ∧ mch fr ls po ∧ ls.length + k = (1 + v).toNat)
    (fun r => r.1 = .ext 0 ∧ ∃ (a x b c d e : D) (po : Int) (ls : List Lin), r.2.1 = [a, x, b, c, d, e] ∧ Sm h o r.2.2 ∧ Own r.2.2 h.length ty78 3 (ls.map linr) x ∧ mch fr ls po ∧ ls.length = (1 + v).toNat)
    (1 + v).toNat ⟨fr, .nils, .any, .any, .any, [], by rw [Int.toNat_of_nonneg (by omega)], S1, Own.nils _ _ _ _, rfl, by simp⟩ ?_ ?_
  · rintro k ds g ⟨po, x, a, b, c, ls, rfl, S, ow, hch, hk⟩
    simp only [F42_L0, nth_zero, nth_succ, bs, dBin_gtr]
    refine Wp.dif ?_ ?_
    · intro h0
      have h0 : 0 < (k : Int) := by simpa using h0
      have hcl := mch_le _ _ _ hch
      obtain ⟨u, g1, e1, c1, s1, u0, u1⟩ := m39 S.cd 20 (by omega) (by omega)
      have S1 := S.next c1 s1
      replace ow := ow.same s1 S.lt
      refine Wp.step e1 ?_
      clear e1
      have hw1 := wrap_i64 (n := 1 + u) (by omega) (by omega)
      have hx : ∀ q, x.inOb q → q < g1.length := fun q hq => (ow.lt hq).2
      simp only [dBin_add, hw1, bs, Option.bind_assoc, bd78_0_1, bs28_1]
      generalize hg2 : dNew g1 ty78 3 [[.int .i64 0, .int .i64 0, .str []]] = g2
      have p1 : g2[g1.length]? = some (.row ty78 3 [[.int .i64 0, .int .i64 0, .str []]]) := by rw [← hg2]; exact new_get _ _ _ _
      have hb2 : ∀ q, q < g1.length → g2[q]? = g1[q]? := fun q hq => by rw [← hg2]; exact new_old _ _ _ _ hq
      have hl2 : g2.length = g1.length + 1 := by rw [← hg2]; exact new_len _ _ _ _
      clear hg2
      have hle := S1.le
      refine wst78 p1 (by rfl) (by rfl) (by simp) (by rfl) fun g3 p3 sg => ?_
      replace p3 : g3[g1.length]? = some (.row ty78 3 [[.int .i64 po, .int .i64 (1 + u), .str []]]) := p3
      have hb3 : ∀ q, q < g1.length → g3[q]? = g1[q]? := fun q hq => (sg.2 q (by omega)).trans (hb2 q hq)
      have hl3 : g3.length = g1.length + 1 := sg.1.trans hl2
      have S3 := S1.app (by omega) fun q hq => hb3 q (by omega)
      replace ow : Own g3 h.length ty78 3 (ls.map linr) x := ow.keep fun q _ hq => hb3 q (hx q hq)
      clear p1 hb2 hl2 sg
      simp only [dIf_bool, if_true, Option.bind_assoc, bs]
      obtain ⟨tx, g4, e4, c4, s4, ht⟩ := m67 S3.cd
      have S4 := S3.next c4 s4
      replace ow := ow.same s4 S.lt
      have hno : o ≠ g1.length := fun hh => by have := S1.lt; omega
      replace p3 := (s4.2 g1.length (Ne.symm hno)).trans p3
      have hl4 : g4.length = g1.length + 1 := s4.1.trans hl3
      refine Wp.step e4 ?_
      clear e4
      simp only [bs, fap78_2, Nat.zero_add]
      refine wst9 p3 (by rfl) (by rfl) (by simp) (by rfl) fun g5 p5 sg => ?_
      replace p5 : g5[g1.length]? = some (.row ty78 3 [linr ⟨po, 1 + u, tx⟩]) := p5
      have hl5 : g5.length = g1.length + 1 := sg.1.trans hl4
      have S5 := S4.app (by omega) fun q hq => sg.2 q (by omega)
      replace ow : Own g5 h.length ty78 3 (ls.map linr) x := ow.keep fun q _ hq => sg.2 q (by have := hx q hq; omega)
      clear p3 sg
      simp only [bs, toEnd_nrm, ldob3 p5 rfl]
      rw [show pLitF tab ty28 1 [0] [.agg (linr ⟨po, 1 + u, tx⟩)] = some (.sl 3 true [linr ⟨po, 1 + u, tx⟩]) from id rfl]
      simp only [bs]
      refine wap28 (by omega) ow (rowsOf_sl _ _ _ _) (by simp; omega) fun x' g6 ow6 len bel keep _ => ?_
      have S6 := S5.app len bel
      have p6 := (keep g1.length (by omega) (fun hh => by have := hx _ hh; omega)).trans p5
      have r6 : g6.row g1.length 0 = some (linr ⟨po, 1 + u, tx⟩) := row_of p6
      have hw2 := wrap_i64 (n := po + (1 + u)) (by omega) (by omega)
      have hk1 : IntKind.wrap .i64 ((k : Int) - 1) = ((k - 1 : Nat) : Int) := by
        rw [wrap_i64 (by omega) (by omega)]; omega
      simp only [bs, fap78_1, Nat.zero_add, ldp3, r6, linr, List.drop_succ_cons, List.drop_zero, List.head?_cons, dBin_add, hw2, dBin_sub, hk1]
      exact .some (.inl ⟨rfl, k - 1, by omega, po + (1 + u), x', _, _, _, ls ++ [⟨po, 1 + u, tx⟩], rfl, S6, by rw [List.map_append]; exact ow6, mch_snoc _ _ _ _ hch rfl (by simp; omega) (by simp; omega) (by simpa using ht), by simp; omega⟩)
    · intro h0
      have h0 : ¬ 0 < (k : Int) := by simpa using h0
      exact .some (.inr ⟨by simp, rfl, _, x, _, _, _, _, po, ls, rfl, S, ow, hch, by omega⟩)
  · rintro ⟨ex, ds, g⟩ ⟨rfl, a, x, b, c, d, e, po, ls, rfl, S, ow, hch, hl⟩
    simp only [unblk_self, toEnd_nrm, nth_zero, nth_succ, bs, mkRes_one]
    have hsl := own_sl (n := 3) ow (Nat.le_refl _) (fun a _ => linr_frz _ g _ a)
    obtain ⟨h', hs, hcd, hsm⟩ := S.scope rfl (slof_ok hsl fun a _ => linr_ok _ a)
    rw [hs]
    exact .some ⟨hcd, hsm, ls, po, hsl, hch, by omega, by omega⟩
def MF (l : List (Str × Str)) : Prop := (l.map (·.1)).Sublist lt98_17 ∧ ∀ p ∈ l, p.2 ∈ lt98_18
theorem m41 {h : Hp} {o : Nat} (hc : CM h o) : ∃ x h', R fn41 [.ptr o 0 0] h = some (x, h') ∧ CM h' o ∧ Same o h h' ∧ ∃ l, SlOf 2 fld l x ∧ MF l := by
  suffices Wp (R fn41 [.ptr o 0 0] h) (fun p => CM p.2 o ∧ Same o h p.2 ∧ ∃ l, SlOf 2 fld l p.1 ∧ MF l) by
    obtain ⟨⟨x, h'⟩, h1, h2⟩ := this
    exact ⟨x, h', h1, h2⟩
  rw [e41]
  simp only [F41, bs, Option.bind_assoc, lt98_17_ok, len98, List.length_map, lt98_17_len]
  refine Wp.loop (fun k ds g => ∃ x a b c, ∃ (i : Nat) (l : List (Str × Str)), ds = [x, a, .int .i64 i, b, c] ∧ Sm h o g ∧ k + i = 4 ∧ Own g h.length ty109 2 (l.map fld) x ∧ (l.map (·.1)).Sublist (lt98_17.take i) ∧ ∀ p ∈ l, p.2 ∈ lt98_18)
    (fun r => r.1 = .ext 0 ∧ ∃ x a b c d l, r.2.1 = [x, a, b, c, d] ∧ Sm h o r.2.2 ∧ Own r.2.2 h.length ty109 2 (l.map fld) x ∧ MF l) 4 ⟨.nils, .any, .any, .any, 0, [], rfl, .refl hc, rfl, Own.nils _ _ _ _, by simp, by simp⟩ ?_ ?_
  · rintro k ds g ⟨x, a, b, c, i, l, rfl, S, hk, ow, hsub, hv⟩
    have hw : IntKind.wrap .i64 ((i : Int) + 1) = (i + 1 : Nat) := by
      rw [wrap_i64 (by omega) (by omega)]; omega
    simp only [F41_L0, nth_zero, nth_succ, bs, Option.bind_assoc, dBin_lss]
    refine Wp.dif ?_ ?_
    · intro h0
      have h0 : i < 4 := by have : (i : Int) < 4 := by simpa using h0
                            omega
      have hg : lt98_17[i]? = some lt98_17[i] := List.getElem?_eq_getElem h0
      simp only [ix98, Int.natCast_nonneg, if_true, Int.toNat_natCast, List.getElem?_map, hg, Option.map_some, bs, ld9]
      obtain ⟨v, h1, e1, c1, s1, v0, v1⟩ := m39 S.cd 3 (by omega) (by omega)
      have S1 := S.next c1 s1
      replace ow := ow.same s1 hc.lt
      refine Wp.step e1 ?_
      simp only [dBin_gtr, bs]
      refine Wp.join (P := fun r => ∃ x g, ∃ l : List (Str × Str), r = (.nrm, [x], g) ∧ Sm h o g ∧ Own g h.length ty109 2 (l.map fld) x ∧ (l.map (·.1)).Sublist (lt98_17.take (i + 1)) ∧ ∀ p ∈ l, p.2 ∈ lt98_18) ?_ ?_ ?_
      · intro _
        simp only [lt98_18_ok, bs]
        refine pick_wp S1.cd lt98_18 8 (by decide) (by decide) (by decide) fun u g2 c2 s2 hu _ => ?_
        have S2 := S1.next c2 s2
        replace ow := ow.same s2 hc.lt
        simp only [bs, bd109_0_1, bs29_1]
        have hll : l.length ≤ 4 := by
          have := hsub.length_le
          simp at this
          omega
        refine wap29 S2.le ow (rowsOf_sl _ _ _ _) (by simp; omega) fun x' g' ow len bel _ _ => ?_
        simp only [bs]
        refine .some ⟨x', g', l ++ [(lt98_17[i], u)], rfl, S2.app len bel, by rw [List.map_append]; exact ow, ?_, ?_⟩
        · rw [List.take_add_one, hg, List.map_append]
          exact hsub.append (List.Sublist.refl _)
        · intro p hp
          rcases List.mem_append.1 hp with hp | hp
          · exact hv p hp
          · simp at hp; subst hp; exact hu
      · intro _
        refine .some ⟨_, _, l, rfl, S1, ow, hsub.trans ?_, hv⟩
        rw [List.take_add_one]
        exact List.sublist_append_left _ _
      · rintro _ ⟨x, g, l, rfl, S, ow, hsub, hv⟩
        simp only [unblk_nrm, toEnd_nrm, nth_zero, dBin_add, bs, hw]
        exact .some (.inl ⟨rfl, k - 1, by omega, x, _, _, _, i + 1, l, rfl, S, by omega, ow, hsub, hv⟩)
    · intro h0
      have h0 : ¬ i < 4 := by have : ¬ (i : Int) < 4 := by simpa using h0
                              omega
      refine .some (.inr ⟨by simp, rfl, x, _, _, _, _, l, rfl, S, ow, hsub.trans (List.take_sublist _ _), hv⟩)
  · rintro ⟨x, ds, g⟩ ⟨rfl, x, a, b, c, d, l, rfl, S, ow, hl⟩
    simp only [unblk_self, toEnd_nrm, nth_zero, bs, mkRes_one]
    have hsl := own_sl (n := 3) ow (Nat.le_refl _) (fun a _ => fld_frz _ g _ a)
    obtain ⟨h', hs, hcd, hsm⟩ := S.scope rfl (slof_ok hsl fun a _ => fld_ok _ a)
    exact ⟨_, hs, hcd, hsm, l, hsl, hl⟩
structure EvM (e : Ev) : Prop where
  h0 : 0 ≤ e.a0
  h2 : e.a0 ≤ 2
  f0 : 0 ≤ e.a1
  f2 : e.a1 ≤ 2
  a0 : 0 ≤ e.a2
  a9 : e.a2 ≤ 100
  ch : mch e.a2 e.ls e.a3
  l1 : 1 ≤ e.ls.length
  l3 : e.ls.length ≤ 3
  t0 : 0 ≤ e.a5
  t9 : e.a5 ≤ 255000
  wt : e.a6 ∈ lt82_14
  tr : e.s7 ∈ lt98_15
  st : e.s8 ∈ lt98_16
  fs : MF e.fs
theorem m12 {h : Hp} {o : Nat} (hc : CM h o) : ∃ e h', R fn12 [.ptr o 0 0] h = some (.agg (evr e), h') ∧ CM h' o ∧ Same o h h' ∧ EvM e := by
  suffices Wp (R fn12 [.ptr o 0 0] h) (fun p => ∃ e, p.1 = .agg (evr e) ∧ CM p.2 o ∧ Same o h p.2 ∧ EvM e) by
    obtain ⟨⟨x, h'⟩, h1, e, rfl, h2⟩ := this
    exact ⟨e, h', h1, h2⟩
  have ho := hc.lt
  rw [e12]
  simp only [F12, bs, Option.bind_assoc, lt82_14_ok, lt98_15_ok, lt98_16_ok]
  generalize hg0 : dNew h ty31 10 [[.int .i64 0, .int .i64 0, .int .i64 0, .int .i64 0, .nils, .int .i64 0, .int .i64 0, .str [], .str [], .nils]] = g0
  have p0 : g0[h.length]? = some (.row ty31 10 [[.int .i64 0, .int .i64 0, .int .i64 0, .int .i64 0, .nils, .int .i64 0, .int .i64 0, .str [], .str [], .nils]]) := by rw [← hg0]; exact new_get _ _ _ _
  have S0 : Sm h o g0 := (Sm.refl hc).app (by rw [← hg0, new_len]; omega) fun q hq => by rw [← hg0]; exact new_old _ _ _ _ hq
  have hl0 : g0.length = h.length + 1 := by rw [← hg0]; exact new_len _ _ _ _
  clear hg0
  obtain ⟨v1, g1, e1, c1, s1, a1, b1⟩ := m39 S0.cd 3 (by omega) (by omega)
  refine Wp.step e1 ?_; clear e1; simp only [bs]
  obtain ⟨v2, g2, e2, c2, s2, a2, b2⟩ := m39 c1 3 (by omega) (by omega)
  refine Wp.step e2 ?_; clear e2; simp only [bs]
  obtain ⟨v3, g3, e3, c3, s3, a3, b3⟩ := m39 c2 6 (by omega) (by omega)
  refine Wp.step e3 ?_; clear e3
  simp only [bs, dBin_mul, wrap_i64 (n := 10 * v3) (by omega) (by omega)]
  obtain ⟨v4, g4, e4, c4, s4, a4, b4⟩ := m39 c3 256 (by omega) (by omega)
  refine Wp.step e4 ?_; clear e4
  simp only [bs, dBin_mul, wrap_i64 (n := 1000 * v4) (by omega) (by omega)]
  obtain ⟨v5, g5, e5, c5, s5, a5, b5⟩ := m39 c4 4 (by omega) (by omega)
  obtain ⟨wt, hwt, hg5⟩ := pick_of lt82_14 v5 a5 b5
  refine Wp.step e5 ?_; clear e5
  simp only [bs, ix82, a5, if_true, List.getElem?_map, hg5, Option.map_some, ld3]
  refine pick_wp c5 lt98_15 8 (by decide) (by decide) (by decide) fun tr g6 c6 s6 htr _ => ?_
  simp only [bs]
  refine pick_wp c6 lt98_16 8 (by decide) (by decide) (by decide) fun sm g7 c7 s7 hsm _ => ?_
  simp only [bs]
  obtain ⟨y, g8, e8, c8, s8, fs, hy, hfs⟩ := m41 c7
  refine Wp.step e8 ?_; clear e8
  have hy1 := slof_one hy
  simp only [bs, bd31_0_1_2_5_6_7_8_9 _ _ _ _ _ _ _ y hy1, chk_true]
  have sa := ((((((s1.trans s2).trans s3).trans s4).trans s5).trans s6).trans s7).trans s8
  have S8 := S0.next c8 sa
  replace p0 := (sa.2 h.length (by omega)).trans p0
  have hl8 : g8.length = h.length + 1 := sa.1.trans hl0
  clear S0 c1 c2 c3 c4 c5 c6 c7 s1 s2 s3 s4 s5 s6 s7 s8 sa
  generalize hg9 : dNew g8 ty31 10 [[.int .i64 0, .int .i64 0, .int .i64 0, .int .i64 0, .nils, .int .i64 0, .int .i64 0, .str [], .str [], .nils]] = g9
  have p9 : g9[g8.length]? = some (.row ty31 10 [[.int .i64 0, .int .i64 0, .int .i64 0, .int .i64 0, .nils, .int .i64 0, .int .i64 0, .str [], .str [], .nils]]) := by rw [← hg9]; exact new_get _ _ _ _
  have hb9 : ∀ q, q < g8.length → g9[q]? = g8[q]? := fun q hq => by rw [← hg9]; exact new_old _ _ _ _ hq
  have hl9 : g9.length = g8.length + 1 := by rw [← hg9]; exact new_len _ _ _ _
  clear hg9
  refine wst31 p9 (by rfl) (by rfl) (by simp) (by rfl) fun g10 p10 sg => ?_
  replace p10 : g10[g8.length]? = some (.row ty31 10 [[.int .i64 v1, .int .i64 v2, .int .i64 (10 * v3), .int .i64 0, .nils, .int .i64 (1000 * v4), .int .i64 wt, .str tr, .str sm, y]]) := p10
  have hb10 : ∀ q, q < g8.length → g10[q]? = g8[q]? := fun q hq => (sg.2 q (by omega)).trans (hb9 q hq)
  have hl10 : g10.length = h.length + 2 := by have := sg.1; omega
  have S10 := S8.app (by omega) fun q hq => hb10 q (by omega)
  replace p0 := (hb10 h.length (by omega)).trans p0
  rw [hl8] at p10 ⊢
  clear p9 hb9 hl9 sg hb10 S8 c8 hl8
  have r10 : g10.row (h.length + 1) 0 = some [.int .i64 v1, .int .i64 v2, .int .i64 (10 * v3), .int .i64 0, .nils, .int .i64 (1000 * v4), .int .i64 wt, .str tr, .str sm, y] := row_of p10
  simp only [bs, fap31_2, Nat.zero_add, ldp3, r10, List.drop_succ_cons, List.drop_zero, List.head?_cons]
  obtain ⟨z, g11, e11, c11, s11, ls, b, hz, hch, hl1, hl3⟩ := m42 S10.cd (10 * v3) (by omega) (by omega) 3 (by omega) (by omega)
  refine Wp.step e11 ?_; clear e11 r10
  have S11 := S10.next c11 s11
  replace p10 := (s11.2 (h.length + 1) (by omega)).trans p10
  replace p0 := (s11.2 h.length (by omega)).trans p0
  have hl11 : g11.length = h.length + 2 := s11.1.trans hl10
  have oz := one_cells (slof_one hz)
  simp only [bs, fap31_4, Nat.zero_add]
  refine wst28 p10 (by rfl) (by rw [oz.1]; rfl) (by simp) oz.2 fun g12 p12 sg => ?_
  rw [oz.1] at p12
  replace p12 : g12[h.length + 1]? = some (.row ty31 10 [[.int .i64 v1, .int .i64 v2, .int .i64 (10 * v3), .int .i64 0, z, .int .i64 (1000 * v4), .int .i64 wt, .str tr, .str sm, y]]) := p12
  have S12 := S11.app (Nat.le_of_eq sg.1.symm) fun q hq => sg.2 q (by omega)
  replace p0 := (sg.2 h.length (by omega)).trans p0
  have hl12 : g12.length = h.length + 2 := sg.1.trans hl11
  clear S10 S11 p10 sg s11 c11 hl11 hl10
  have r12 : g12.row (h.length + 1) 0 = some [.int .i64 v1, .int .i64 v2, .int .i64 (10 * v3), .int .i64 0, z, .int .i64 (1000 * v4), .int .i64 wt, .str tr, .str sm, y] := row_of p12
  have hcl := mch_le _ _ _ hch
  have hls : ∃ l, ls[((ls.length : Int) - 1).toNat]? = some l ∧ l.off + l.len = b := by
    clear hcl hz
    have key : ∀ (ls : List Lin) (a b : Int), mch a ls b → 1 ≤ ls.length → ∃ l, ls[ls.length - 1]? = some l ∧ l.off + l.len = b := by
      intro ls
      induction ls with
      | nil => intro a b _ hh; simp at hh
      | cons x r ih =>
        intro a b hm _
        cases r with
        | nil =>
          have h5 : a + x.len = b := hm.2.2.2.2
          exact ⟨x, rfl, by rw [hm.1]; exact h5⟩
        | cons x2 r =>
          obtain ⟨l, h1, h2⟩ := ih _ b hm.2.2.2.2 (by simp)
          exact ⟨l, by simpa using h1, h2⟩
    obtain ⟨l, h1, h2⟩ := key ls _ b hch hl1
    exact ⟨l, by rw [show ((ls.length : Int) - 1).toNat = ls.length - 1 by omega]; exact h1, h2⟩
  obtain ⟨l, hgl, hlb⟩ := hls
  have hw1 := wrap_i64 (n := (ls.length : Int) - 1) (by omega) (by omega)
  have hw2 := wrap_i64 (n := b) (by omega) (by omega)
  have hnn : (0 : Int) ≤ (ls.length : Int) - 1 := by omega
  have hbx : boxN 3 (.agg (linr l)) = some (.fptr (linr l)) := boxN_agg 3 _ rfl
  simp only [bs, ldp28, r12, List.drop_succ_cons, List.drop_zero, List.head?_cons, lens28 hz, dBin_sub, hw1, ixs28 hz, hnn, if_true, hgl, Option.map_some, linr_ld, hbx]
  simp only [linr, fa78_0, fa78_1, ld3, bs, dBin_add, hlb, hw2, fap31_3, Nat.zero_add]
  refine wst3 p12 (by rfl) (by rfl) (by simp) (by rfl) fun g13 p13 sg => ?_
  replace p13 : g13[h.length + 1]? = some (.row ty31 10 [[.int .i64 v1, .int .i64 v2, .int .i64 (10 * v3), .int .i64 b, z, .int .i64 (1000 * v4), .int .i64 wt, .str tr, .str sm, y]]) := p13
  have S13 := S12.app (Nat.le_of_eq sg.1.symm) fun q hq => sg.2 q (by omega)
  replace p0 := (sg.2 h.length (by omega)).trans p0
  clear p12 sg S12
  simp only [bs, ldob p13 rfl]
  refine wst31 p0 (by rfl) (by rfl) (by simp) (by rfl) fun g14 p14 sg => ?_
  replace p14 : g14[h.length]? = some (.row ty31 10 [[.int .i64 v1, .int .i64 v2, .int .i64 (10 * v3), .int .i64 b, z, .int .i64 (1000 * v4), .int .i64 wt, .str tr, .str sm, y]]) := p14
  have S14 := S13.app (Nat.le_of_eq sg.1.symm) fun q hq => sg.2 q (by omega)
  simp only [bs, ldob p14 rfl, mkRes_one]
  have hfl : fs.length ≤ 4 := by
    have := hfs.1.length_le
    simpa using this
  generalize hE : (⟨v1, v2, 10 * v3, b, ls, z, 1000 * v4, wt, tr, sm, fs, y, hy, by omega, hz, by omega⟩ : Ev) = E
  have hEr : evr E = [.int .i64 v1, .int .i64 v2, .int .i64 (10 * v3), .int .i64 b, z, .int .i64 (1000 * v4), .int .i64 wt, .str tr, .str sm, y] := by rw [← hE]; rfl
  have hEM : EvM E := by rw [← hE]; exact ⟨a1, by show v1 ≤ 2; omega, a2, by show v2 ≤ 2; omega, by show 0 ≤ 10 * v3; omega, by show 10 * v3 ≤ 100; omega, hch, hl1, hl3, by show 0 ≤ 1000 * v4; omega, by show 1000 * v4 ≤ 255000; omega, hwt, htr, hsm, hfs⟩
  rw [← hEr]
  obtain ⟨h', hsc, hcd, hsm2⟩ := S14.scope (d := .agg (evr E)) (d' := .agg (evr E)) (by
    rw [frz_agg, map_id_of fun d hd => evr_frz h.length g14 2 E d hd]) (.agg _ fun d hd => evr_ok _ E d hd)
  rw [hsc]
  exact .some ⟨E, rfl, hcd, hsm2, hEM⟩
theorem s1051 (n lo hi : Int) (h : Hp) : R fn1051 [.int .i64 n, .int .i64 lo, .int .i64 hi] h = some (.bool (decide (lo ≤ n) && decide (n ≤ hi)), h) := by
  rw [e1051]
  by_cases h1 : lo ≤ n <;> simp [-bind_some, F1051, h1]
def plB (e : Ev) : Bool := (decide (0 ≤ e.a0) && decide (e.a0 ≤ 999)) && ((decide (0 ≤ e.a1) && decide (e.a1 ≤ 2147483646)) && (decide (0 ≤ e.a2) && (decide (e.a2 < e.a3) && decide (e.a3 ≤ 60000))))
theorem s1047 (e : Ev) (h : Hp) : R fn1047 [.agg (evr e)] h = some (.bool (plB e), h) := by
  rw [e1047]
  have k2 := s1051 e.a1 0 2147483646 h
  simp only [F1047, bs, pBoxF_agg, evr, fa31_0, fa31_1, fa31_2, fa31_3, ld3, s1051 e.a0, dBin_geq, dBin_gtr, dBin_leq, plB]
  generalize (decide (0 ≤ e.a0) && decide (e.a0 ≤ 999)) = b1
  generalize (decide (0 ≤ e.a1) && decide (e.a1 ≤ 2147483646)) = b2 at k2 ⊢
  generalize h3 : decide (0 ≤ e.a2) = b3
  generalize h4 : decide (e.a2 < e.a3) = b4
  generalize h5 : decide (e.a3 ≤ 60000) = b5
  cases b1 <;> cases b2 <;> cases b3 <;> cases b4 <;> cases b5 <;> simp [-bind_some, k2, h3, h4, h5]
end Go.Proofs.YtlpedofpnbggbaaDoor
