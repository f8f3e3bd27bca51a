/- Laws, on plain data, about functions that the statement reaches. -/
import Derived.Test.YthaajlepgblimaaDoorT9
set_option linter.unusedSimpArgs false
set_option linter.unusedVariables false
set_option linter.unnecessarySimpa false
set_option maxRecDepth 100000
namespace Go.Proofs.YthaajlepgblimaaDoor
open Go.Eng Go.Pi
open Option (bind_some)
abbrev Str := List UInt8
def fld (p : Str × Str) : List D := [.str p.1, .str p.2]
structure Lin where
 off : Int
 len : Int
 txt : Str
 deriving DecidableEq
def linr (l : Lin) : List D := [.int .i64 l.off, .int .i64 l.len, .str l.txt]
structure Ev where
 a0 : Int
 a1 : Int
 a2 : Int
 a3 : Int
 ls : List Lin
 ld : D
 a5 : Int
 a6 : Int
 s7 : Str
 s8 : Str
 fs : List (Str × Str)
 fd : D
 hfd : SlOf 2 fld fs fd
 hl : fs.length ≤ 9223372036854775807
 hld : SlOf 3 linr ls ld
 hll : ls.length ≤ 9223372036854775807
def evr (e : Ev) : List D := [.int .i64 e.a0, .int .i64 e.a1, .int .i64 e.a2, .int .i64 e.a3, e.ld, .int .i64 e.a5, .int .i64 e.a6, .str e.s7, .str e.s8, e.fd]
structure It where
 r : Str
 e : Ev
def itr (i : It) : List D := .str i.r :: evr i.e
theorem fld_frz (n0 : Nat) (h : Hp) (n : Nat) (p : Str × Str) : ∀ d ∈ fld p, frz n0 h n d = d := by simp [-bind_some, fld]
theorem fld_ok (n : Nat) (p : Str × Str) : ∀ d ∈ fld p, Ok n d := by
 intro d hd
 simp [-bind_some, fld] at hd
 rcases hd with rfl | rfl <;> constructor
theorem linr_frz (n0 : Nat) (h : Hp) (n : Nat) (p : Lin) : ∀ d ∈ linr p, frz n0 h n d = d := by simp [-bind_some, linr]
theorem linr_ok (n : Nat) (p : Lin) : ∀ d ∈ linr p, Ok n d := by
 intro d hd
 simp [-bind_some, linr] at hd
 rcases hd with rfl | rfl | rfl <;> constructor
theorem evr_frz (n0 : Nat) (h : Hp) (n : Nat) (e : Ev) : ∀ d ∈ evr e, frz n0 h (n + 1) d = d := by
 intro d hd
 simp [-bind_some, evr] at hd
 rcases hd with rfl | rfl | rfl | rfl | rfl | rfl | rfl | rfl | rfl | rfl
 all_goals first | exact slof_frz e.hld (fun a _ => linr_frz _ _ _ a) | exact slof_frz e.hfd (fun a _ => fld_frz _ _ _ a) | simp [-bind_some]
theorem evr_ok (n : Nat) (e : Ev) : ∀ d ∈ evr e, Ok n d := by
 intro d hd
 simp [-bind_some, evr] at hd
 rcases hd with rfl | rfl | rfl | rfl | rfl | rfl | rfl | rfl | rfl | rfl
 all_goals first | exact slof_ok e.hld (fun a _ => linr_ok _ a) | exact slof_ok e.hfd (fun a _ => fld_ok _ a) | constructor
theorem itr_ok (n : Nat) (i : It) : Ok n (.agg (itr i)) := by
 refine .agg _ fun d hd => ?_
 simp [-bind_some, itr, evr] at hd
 rcases hd with rfl | rfl | rfl | rfl | rfl | rfl | rfl | rfl | rfl | rfl | rfl
 all_goals first | exact slof_ok i.e.hld (fun a _ => linr_ok _ a) | exact slof_ok i.e.hfd (fun a _ => fld_ok _ a) | constructor
theorem itr_frz (n0 : Nat) (h : Hp) (n : Nat) (i : It) : ∀ d ∈ itr i, frz n0 h (n + 1) d = d := by
 intro d hd
 rcases List.mem_cons.1 hd with rfl | hd
 ·simp [-bind_some]
 ·exact evr_frz n0 h n i.e d hd
theorem itr_oks (n : Nat) (i : It) : ∀ d ∈ itr i, Ok n d := by
 intro d hd
 rcases List.mem_cons.1 hd with rfl | hd
 ·exact .str _
 ·exact evr_ok n i.e d hd
theorem evL (e : Ev) (h : Hp) : dLoad tab h ty31 (.fptr (evr e)) = some (.agg (evr e)) := id rfl
theorem itF1 (i : It) : dFieldAddr tab ty74 1 (.fptr (itr i)) = some (.fptr (evr i.e)) := id rfl
theorem itF0 (i : It) : dFieldAddr tab ty74 0 (.fptr (itr i)) = some (.fptr (itr i)) := id rfl
theorem itL0 (i : It) (h : Hp) : dLoad tab h ty9 (.fptr (itr i)) = some (.str i.r) := id rfl
theorem ldIt (i : It) (h : Hp) : dLoad tab h ty74 (.fptr (itr i)) = some (.agg (itr i)) := id rfl
theorem boxIt (i : It) : boxN 11 (.agg (itr i)) = some (.fptr (itr i)) := boxN_agg 11 _ rfl
theorem bsIt (i : It) : pLitF tab ty113 1 [0] [.agg (itr i)] = some (.sl 11 true [itr i]) := id rfl
theorem toIt (i : It) (h : Hp) : ((dFieldAddr tab ty74 1 (.fptr (itr i))).bind fun p => (dFieldAddr tab ty31 3 p).bind fun q => dLoad tab h ty3 q) = some (.int .i64 i.e.a3) := by simp [-bind_some, itr, evr]
theorem own_dis {h : Hp} {n e z n' e' z' q : Nat} {rows rows' : List (List D)} {d d' : D} (a : Own h n e z rows d) (b : Own h n' e' z' rows' d') (hne : e ≠ e') (hd : d.inOb q) : ¬ d'.inOb q := by
 rintro ⟨z2, m2, rfl⟩
 obtain ⟨z1, m1, rfl⟩ := hd
 rcases a with ⟨ha, _⟩ | ⟨o1, _, ha, ga⟩
 ·cases ha
 rcases b with ⟨hb, _⟩ | ⟨o2, _, hb, gb⟩
 ·cases hb
 injection ha with _ ha
 injection hb with _ hb
 subst ha; subst hb
 rw [ga] at gb
 injection gb with gb
 injection gb with gb
 exact hne gb
theorem linr_ld (l : Lin) (h : Hp) : dLoad tab h ty78 (.fptr (linr l)) = some (.agg (linr l)) := id rfl
theorem fld_ld (l : Str × Str) (h : Hp) : dLoad tab h ty109 (.fptr (fld l)) = some (.agg (fld l)) := id rfl
theorem lin_neq (a b : Lin) : dBin tab .neq ty78 (.agg (linr a)) (.agg (linr b)) = some (.bool (decide (a ≠ b))) := by
 obtain ⟨a0, a1, a2⟩ := a
 obtain ⟨b0, b1, b2⟩ := b
 simp [-bind_some, linr]
 by_cases h0 : a0 = b0 <;> by_cases h1 : a1 = b1 <;> by_cases h2 : a2 = b2 <;> simp [-bind_some, h0, h1, h2]
theorem fld_neq (a b : Str × Str) : dBin tab .neq ty109 (.agg (fld a)) (.agg (fld b)) = some (.bool (decide (a ≠ b))) := by
 obtain ⟨a0, a1⟩ := a
 obtain ⟨b0, b1⟩ := b
 simp [-bind_some, fld]
 by_cases h0 : a0 = b0 <;> by_cases h1 : a1 = b1 <;> simp [-bind_some, h0, h1]
theorem wrap_u64 {n : Int} (h0 : 0 ≤ n) (h1 : n < 18446744073709551616) : IntKind.wrap .u64 n = n := by
 unfold IntKind.wrap
 simp [-bind_some, IntKind.signed, IntKind.bits, IntKind.min, IntKind.max]
 omega
theorem s94 (l r : List Lin) (d e : D) (h : Hp) (hd : SlOf 3 linr l d) (he : SlOf 3 linr r e) (hl : l.length ≤ 9223372036854775807) : R fn94 [d, e] h = some (.bool (decide (l = r)), h) := by
 suffices Wp (R fn94 [d, e] h) (fun p => p = (.bool (decide (l = r)), h)) by
  obtain ⟨p, h1, rfl⟩ := this
  exact h1
 rw [e94]
 simp only [F94, bs, Option.bind_assoc, lens28 hd, lens28 he, dBin_neq]
 refine Wp.dif ?_ ?_
 ·intro hn
  have hn : l.length ≠ r.length := by have : ¬ (l.length : Int) = r.length := by simpa using hn
                                      omega
  have hne : l ≠ r := fun hh => hn (by rw [hh])
  simp only [bs, mkRes_one]
  exact .some (by simp [-bind_some, hne])
 ·intro hn
  have hn : l.length = r.length := by have : (l.length : Int) = r.length := by simpa using hn
                                      omega
  refine Wp.loop (fun k ds g => g = h ∧ ∃ a b c, ∃ i : Nat, ds = [a, .int .i64 i, b, c] ∧ k + i = l.length ∧ l.take i = r.take i)
   (fun x => x.2.2 = h ∧ ((x.1 = .ret ∧ nth 0 x.2.1 = .bool false ∧ l ≠ r) ∨ (x.1 = .ext 0 ∧ l = r))) l.length ⟨rfl, _, _, _, 0, rfl, rfl, rfl⟩ ?_ ?_
  ·rintro k ds g ⟨rfl, a, b, c, i, rfl, hk, hi⟩
   simp only [F94_L0, nth_zero, nth_succ, bs, Option.bind_assoc, lens28 hd, dBin_lss]
   refine Wp.dif ?_ ?_
   ·intro h0
    have h0 : i < l.length := by have : (i : Int) < l.length := by simpa using h0
                                 omega
    have hg : l[i]? = some l[i] := List.getElem?_eq_getElem h0
    have hg2 : r[i]? = some (r[i]'(by omega)) := List.getElem?_eq_getElem (by omega)
    have hw : IntKind.wrap .i64 ((i : Int) + 1) = ((i + 1 : Nat) : Int) := by
     rw [wrap_i64 (by omega) (by omega)]; omega
    generalize l[i] = x at hg
    generalize r[i]'(by omega) = y at hg2
    simp only [ixs28 hd, ixs28 he, Int.natCast_nonneg, if_true, Int.toNat_natCast, hg, hg2, Option.map_some, bs, linr_ld, lin_neq]
    refine Wp.dif ?_ ?_
    ·intro hxy
     have hxy : x ≠ y := by simpa using hxy
     try simp only [bs]
     refine .some (.inr ⟨by simp, rfl, .inl ⟨rfl, rfl, fun hh => ?_⟩⟩)
     subst hh
     rw [hg] at hg2
     injection hg2 with hg2
     exact hxy hg2
    ·intro hxy
     have hxy : x = y := by simpa using hxy
     subst hxy
     simp only [dBin_add, bs, hw]
     refine .some (.inl ⟨rfl, k - 1, by omega, rfl, _, _, _, i + 1, rfl, by omega, ?_⟩)
     rw [List.take_add_one, List.take_add_one, hi, hg, hg2]
   ·intro h0
    have h0 : i = l.length := by have : ¬ (i : Int) < l.length := by simpa using h0
                                 omega
    refine .some (.inr ⟨by simp, rfl, .inr ⟨rfl, ?_⟩⟩)
    have h1 : l.take i = l := List.take_of_length_le (by omega)
    have h2 : r.take i = r := List.take_of_length_le (by omega)
    rw [← h1, ← h2, hi]
  ·rintro ⟨x, ds, g⟩ ⟨rfl, ⟨rfl, hx, hne⟩ | ⟨rfl, hll⟩⟩
   ·replace hx : nth 0 ds = .bool false := hx
    simp only [unblk_ret, toEnd_ret, exEnd_ret, nth_zero, bs, hx, mkRes_one]
    exact .some (by simp [-bind_some, hne])
   ·simp only [unblk_self, toEnd_nrm, bs, mkRes_one]
    exact .some (by simp [-bind_some, hll])
theorem s95 (l r : List (Str × Str)) (d e : D) (h : Hp) (hd : SlOf 2 fld l d) (he : SlOf 2 fld r e) (hl : l.length ≤ 9223372036854775807) : R fn95 [d, e] h = some (.bool (decide (l = r)), h) := by
 suffices Wp (R fn95 [d, e] h) (fun p => p = (.bool (decide (l = r)), h)) by
  obtain ⟨p, h1, rfl⟩ := this
  exact h1
 rw [e95]
 simp only [F95, bs, Option.bind_assoc, lens29 hd, lens29 he, dBin_neq]
 refine Wp.dif ?_ ?_
 ·intro hn
  have hn : l.length ≠ r.length := by have : ¬ (l.length : Int) = r.length := by simpa using hn
                                      omega
  have hne : l ≠ r := fun hh => hn (by rw [hh])
  simp only [bs, mkRes_one]
  exact .some (by simp [-bind_some, hne])
 ·intro hn
  have hn : l.length = r.length := by have : (l.length : Int) = r.length := by simpa using hn
                                      omega
  refine Wp.loop (fun k ds g => g = h ∧ ∃ a b c, ∃ i : Nat, ds = [a, .int .i64 i, b, c] ∧ k + i = l.length ∧ l.take i = r.take i)
   (fun x => x.2.2 = h ∧ ((x.1 = .ret ∧ nth 0 x.2.1 = .bool false ∧ l ≠ r) ∨ (x.1 = .ext 0 ∧ l = r))) l.length ⟨rfl, _, _, _, 0, rfl, rfl, rfl⟩ ?_ ?_
  ·rintro k ds g ⟨rfl, a, b, c, i, rfl, hk, hi⟩
   simp only [F95_L0, nth_zero, nth_succ, bs, Option.bind_assoc, lens29 hd, dBin_lss]
   refine Wp.dif ?_ ?_
   ·intro h0
    have h0 : i < l.length := by have : (i : Int) < l.length := by simpa using h0
                                 omega
    have hg : l[i]? = some l[i] := List.getElem?_eq_getElem h0
    have hg2 : r[i]? = some (r[i]'(by omega)) := List.getElem?_eq_getElem (by omega)
    have hw : IntKind.wrap .i64 ((i : Int) + 1) = ((i + 1 : Nat) : Int) := by
     rw [wrap_i64 (by omega) (by omega)]; omega
    generalize l[i] = x at hg
    generalize r[i]'(by omega) = y at hg2
    simp only [ixs29 hd, ixs29 he, Int.natCast_nonneg, if_true, Int.toNat_natCast, hg, hg2, Option.map_some, bs, fld_ld, fld_neq]
    refine Wp.dif ?_ ?_
    ·intro hxy
     have hxy : x ≠ y := by simpa using hxy
     try simp only [bs]
     refine .some (.inr ⟨by simp, rfl, .inl ⟨rfl, rfl, fun hh => ?_⟩⟩)
     subst hh
     rw [hg] at hg2
     injection hg2 with hg2
     exact hxy hg2
    ·intro hxy
     have hxy : x = y := by simpa using hxy
     subst hxy
     simp only [dBin_add, bs, hw]
     refine .some (.inl ⟨rfl, k - 1, by omega, rfl, _, _, _, i + 1, rfl, by omega, ?_⟩)
     rw [List.take_add_one, List.take_add_one, hi, hg, hg2]
   ·intro h0
    have h0 : i = l.length := by have : ¬ (i : Int) < l.length := by simpa using h0
                                 omega
    refine .some (.inr ⟨by simp, rfl, .inr ⟨rfl, ?_⟩⟩)
    have h1 : l.take i = l := List.take_of_length_le (by omega)
    have h2 : r.take i = r := List.take_of_length_le (by omega)
    rw [← h1, ← h2, hi]
  ·rintro ⟨x, ds, g⟩ ⟨rfl, ⟨rfl, hx, hne⟩ | ⟨rfl, hll⟩⟩
   ·replace hx : nth 0 ds = .bool false := hx
    simp only [unblk_ret, toEnd_ret, exEnd_ret, nth_zero, bs, hx, mkRes_one]
    exact .some (by simp [-bind_some, hne])
   ·simp only [unblk_self, toEnd_nrm, bs, mkRes_one]
    exact .some (by simp [-bind_some, hll])
def sameE (a b : Ev) : Bool := decide (a.a0 = b.a0) && (decide (a.a1 = b.a1) && (decide (a.a2 = b.a2) && (decide (a.a3 = b.a3) && (decide (a.a5 = b.a5) && (decide (a.a6 = b.a6) && (decide (a.s7 = b.s7) && (decide (a.s8 = b.s8) && (decide (a.ls = b.ls) && decide (a.fs = b.fs)))))))))
def sameI (i j : It) : Bool := decide (i.r = j.r) && sameE i.e j.e
theorem s82 (i j : It) (h : Hp) : R fn82 [.agg (itr i), .agg (itr j)] h = some (.bool (sameI i j), h) := by
 suffices Wp (R fn82 [.agg (itr i), .agg (itr j)] h) (fun p => p = (.bool (sameI i j), h)) by
  obtain ⟨p, h1, rfl⟩ := this
  exact h1
 rw [e82]
 simp only [F82, pBoxF_agg, bs, Option.bind_assoc, itF1, itF0, itL0, evL]
 generalize hg0 : dNew h ty31 10 [[.int .i64 0, .int .i64 0, .int .i64 0, .int .i64 0, .nils, .int .i64 0, .int .i64 0, .str [], .str [], .nils]] = g0
 have hgl : g0.length = h.length + 1 := by simp [-bind_some, ← hg0, dNew]
 have hb : ∀ q, q < h.length → g0[q]? = h[q]? := fun q hq => by simp only [← hg0, dNew]; rw [List.getElem?_append_left hq]
 have p8 : g0[h.length]? = some (.row ty31 10 [[.int .i64 0, .int .i64 0, .int .i64 0, .int .i64 0, .nils, .int .i64 0, .int .i64 0, .str [], .str [], .nils]]) := by simp [-bind_some, ← hg0, dNew]
 clear hg0
 refine wst31 p8 (by rfl) (by rfl) (by simp) (by rfl) fun g1 q8 s1 => ?_
 replace q8 : g1[h.length]? = some (.row ty31 10 [evr i.e]) := q8
 have hl1 : g1.length = h.length + 1 := by rw [s1.1, hgl]
 try simp only [chk_true]
 rw [hl1]
 generalize hg1 : dNew g1 ty31 10 [[.int .i64 0, .int .i64 0, .int .i64 0, .int .i64 0, .nils, .int .i64 0, .int .i64 0, .str [], .str [], .nils]] = g3
 have hgl3 : h.length ≤ g3.length := by simp [-bind_some, ← hg1, dNew]; omega
 have hb3 : ∀ q, q < h.length + 1 → g3[q]? = g1[q]? := fun q hq => by simp only [← hg1, dNew]; rw [List.getElem?_append_left (by omega)]
 have p9 : g3[h.length + 1]? = some (.row ty31 10 [[.int .i64 0, .int .i64 0, .int .i64 0, .int .i64 0, .nils, .int .i64 0, .int .i64 0, .str [], .str [], .nils]]) := by
  simp only [← hg1, dNew]; rw [← hl1, List.getElem?_append_right (Nat.le_refl _)]; simp [-bind_some]
 replace q8 := (hb3 h.length (by omega)).trans q8
 clear hg1
 refine wst31 p9 (by rfl) (by rfl) (by simp) (by rfl) fun g2 q9 s2 => ?_
 replace q9 : g2[h.length + 1]? = some (.row ty31 10 [evr j.e]) := q9
 replace q8 := (s2.2 h.length (by omega)).trans q8
 have hb2 : ∀ q, q < h.length → g2[q]? = h[q]? := fun q hq => (((s2.2 q (by omega)).trans (hb3 q (by omega))).trans (s1.2 q (by omega))).trans (hb q hq)
 have hl2 : h.length ≤ g2.length := by have := s2.1; omega
 have r8 : g2.row h.length 0 = some (evr i.e) := row_of q8
 have r9 : g2.row (h.length + 1) 0 = some (evr j.e) := row_of q9
 have hsc : ∀ b : Bool, scope h g2 (.bool b) = some (.bool b, h) := fun b => scope_eq (by simp) (.bool b) hl2 hb2
 obtain ⟨ri, ei⟩ := i
 obtain ⟨rj, ej⟩ := j
 by_cases h0 : ri = rj
 case neg => exact ⟨_, by simp [-bind_some, h0, hsc, sameI], rfl⟩
 by_cases h1 : ei.a0 = ej.a0
 case neg => exact ⟨_, by simp [-bind_some, h0, h1, hsc, sameI, sameE, r8, r9, evr], rfl⟩
 by_cases h2 : ei.a1 = ej.a1
 case neg => exact ⟨_, by simp [-bind_some, h0, h1, h2, hsc, sameI, sameE, r8, r9, evr], rfl⟩
 by_cases h3 : ei.a2 = ej.a2
 case neg => exact ⟨_, by simp [-bind_some, h0, h1, h2, h3, hsc, sameI, sameE, r8, r9, evr], rfl⟩
 by_cases h4 : ei.a3 = ej.a3
 case neg => exact ⟨_, by simp [-bind_some, h0, h1, h2, h3, h4, hsc, sameI, sameE, r8, r9, evr], rfl⟩
 by_cases h5 : ei.a5 = ej.a5
 case neg => exact ⟨_, by simp [-bind_some, h0, h1, h2, h3, h4, h5, hsc, sameI, sameE, r8, r9, evr], rfl⟩
 by_cases h6 : ei.a6 = ej.a6
 case neg => exact ⟨_, by simp [-bind_some, h0, h1, h2, h3, h4, h5, h6, hsc, sameI, sameE, r8, r9, evr], rfl⟩
 by_cases h7 : ei.s7 = ej.s7
 case neg => exact ⟨_, by simp [-bind_some, h0, h1, h2, h3, h4, h5, h6, h7, hsc, sameI, sameE, r8, r9, evr], rfl⟩
 by_cases h8 : ei.s8 = ej.s8
 case neg => exact ⟨_, by simp [-bind_some, h0, h1, h2, h3, h4, h5, h6, h7, h8, hsc, sameI, sameE, r8, r9, evr], rfl⟩
 have sl := s94 ei.ls ej.ls ei.ld ej.ld g2 ei.hld ej.hld ei.hll
 have sf := s95 ei.fs ej.fs ei.fd ej.fd g2 ei.hfd ej.hfd ei.hl
 by_cases h9 : ei.ls = ej.ls
 case neg => exact ⟨_, by simp [-bind_some, h0, h1, h2, h3, h4, h5, h6, h7, h8, h9, hsc, sameI, sameE, r8, r9, evr, sl], rfl⟩
 by_cases h10 : ei.fs = ej.fs
 case neg => exact ⟨_, by simp [-bind_some, h0, h1, h2, h3, h4, h5, h6, h7, h8, h9, h10, hsc, sameI, sameE, r8, r9, evr, sl, sf], rfl⟩
 exact ⟨_, by simp [-bind_some, h0, h1, h2, h3, h4, h5, h6, h7, h8, h9, h10, hsc, sameI, sameE, r8, r9, evr, sl, sf], rfl⟩
theorem s61 (a b : Ev) (h : Hp) : R fn61 [.agg (evr a), .agg (evr b)] h = some (.bool (sameE a b), h) := by
 rw [e61]
 have h1 : ∀ e : Ev, dBuild tab ty74 [1] [.agg (evr e)] = some (.agg (itr ⟨[], e⟩)) := fun e => id rfl
 simp [-bind_some, F61, evL, h1, s82, sameI]
def idx {α : Type} (pr : α → Bool) : Nat → List α → Int
 | _, [] => -1
 | k, x :: r => if pr x = true then k else idx pr (k + 1) r
theorem idx_any {α : Type} (pr : α → Bool) : ∀ (l : List α) (k : Nat), decide (0 ≤ idx pr k l) = l.any pr
 | [], k => by simp [-bind_some, idx]
 | x :: r, k => by
  unfold idx
  by_cases h : pr x = true
  ·simp [-bind_some, h]
  ·simp [-bind_some, h, idx_any pr r]
theorem given_len {zs : List Int} {d : D} (hd : Given .u8 zs d) : dLenT tab ty22 d = some (.int .i64 zs.length) := by
 rcases hd with ⟨rfl, rfl⟩ | rfl
 ·rfl
 ·simp [-bind_some, ints]
theorem s57 (o pos : Nat) (zs : List Int) (d : D) (h : Hp) (ho : h[o]? = some (.row ty101 2 [[d, .int .i64 pos]])) (hd : Given .u8 zs d) : R fn57 [.ptr o 0 0] h = some (.bool (decide (pos < zs.length)), h) := by
 rw [e57]
 simp [-bind_some, F57, Hp.row, ho, given_len hd]
theorem given_ix {zs : List Int} {d : D} (hd : Given .u8 zs d) (i : Nat) (z : Int) (hz : zs[i]? = some z) : dIndexAddr tab ty22 d (.int .i64 i) = some (.fptr [.int .u8 z]) := by
 rcases hd with ⟨rfl, rfl⟩ | rfl
 ·cases hz
 ·simp [-bind_some, ints, hz]
theorem store_ptr3 (h : Hp) (o k f : Nat) (v : D) : dStore tab h ty3 (.ptr o k f) v = pSt 1 h (.ptr o k f) v := rfl
theorem s24 (o pos : Nat) (zs : List Int) (d : D) (n z : Int) (h : Hp) (ho : h[o]? = some (.row ty101 2 [[d, .int .i64 pos]])) (hd : Given .u8 zs d) (hn : 1 ≤ n) (hn2 : n ≤ 1000000000) (hz : zs[pos]? = some z) (hz0 : 0 ≤ z) (hz1 : z < 256) (hl : zs.length ≤ 1000) :
  R fn24 [.ptr o 0 0, .int .i64 n] h = some (.int .i64 (z * n / 256), h.set o (.row ty101 2 [[d, .int .i64 ((pos + 1 : Nat) : Int)]])) := by
 have hp : pos < zs.length := (List.getElem?_eq_some_iff.1 hz).1
 have hn' : ¬ n < 1 := by omega
 have hw : IntKind.wrap .i64 ((pos : Int) + 1) = (pos : Int) + 1 := wrap_i64 (by omega) (by omega)
 have hzw : IntKind.wrap .i64 z = z := wrap_i64 (by omega) (by omega)
 rw [e24]
 simp [-bind_some, F24, s57 o pos zs d h ho hd, hp, hn', Hp.row, ho, given_ix hd pos z hz, hw, hzw, store_ptr3, pSt, D.okv, cells1, D.one, spl]
 have h0 : 0 ≤ z * n := Int.mul_nonneg hz0 (by omega)
 have h1 : z * n ≤ 255 * 1000000000 := Int.mul_le_mul (by omega) hn2 (by omega) (by omega)
 have e1 : IntKind.wrap .i64 (z * n) = z * n := wrap_i64 (by omega) (by omega)
 rw [e1, Int.tdiv_eq_ediv_of_nonneg h0, wrap_i64 (by omega) (by omega)]
def CO (h : Hp) (o : Nat) (rest : List Int) : Prop := ∃ (d : D) (zs : List Int) (pos : Nat), h[o]? = some (.row ty101 2 [[d, .int .i64 pos]]) ∧ Given .u8 zs d ∧ zs.length ≤ 1000 ∧ rest = zs.drop pos ∧ ∀ z ∈ zs, 0 ≤ z ∧ z < 256
def nx (n : Int) : List Int → Int × List Int
 | [] => (0, [])
 | z :: r => if n < 1 then (0, z :: r) else (z * n / 256, r)
theorem left_ok {h : Hp} {o : Nat} {rest : List Int} (hc : CO h o rest) : R fn57 [.ptr o 0 0] h = some (.bool (decide (rest ≠ [])), h) := by
 obtain ⟨d, zs, pos, ho, hd, hl, rfl, hz⟩ := hc
 rw [s57 o pos zs d h ho hd]
 have : (pos < zs.length) ↔ zs.drop pos ≠ [] := by
  rw [ne_eq, List.drop_eq_nil_iff]; omega
 congr 3
 exact decide_eq_decide.2 this
theorem next_ok {h : Hp} {o : Nat} {rest : List Int} (hc : CO h o rest) (n : Int) (hn2 : n ≤ 1000000000) : ∃ h', R fn24 [.ptr o 0 0, .int .i64 n] h = some (.int .i64 (nx n rest).1, h') ∧ CO h' o (nx n rest).2 ∧ Same o h h' := by
 have hl := left_ok hc
 cases hr : rest with
 | nil =>
  subst hr
  refine ⟨h, ?_, hc, .refl _ _⟩
  rw [e24]
  simp [-bind_some, F24, hl, nx]
 | cons z r =>
  by_cases hn : n < 1
  ·refine ⟨h, ?_, by simpa [-bind_some, nx, hn, hr] using hc, .refl _ _⟩
   rw [e24]
   simp [-bind_some, F24, hl, nx, hn, hr]
  ·obtain ⟨d, zs, pos, ho, hd, hl4, hrest, hz⟩ := hc
   have hzp : zs[pos]? = some z := by
    have : (zs.drop pos)[0]? = some z := by rw [← hrest, hr]; rfl
    simpa using this
   have hm := hz z (List.mem_of_getElem? hzp)
   have holt : o < h.length := (List.getElem?_eq_some_iff.1 ho).1
   refine ⟨_, (s24 o pos zs d n z h ho hd (by omega) hn2 hzp hm.1 hm.2 hl4).trans (by rw [show (nx n (z :: r)).1 = z * n / 256 by simp [-bind_some, nx, hn]]), ?_, ?_⟩
   ·refine ⟨d, zs, pos + 1, by simp [-bind_some, holt], hd, hl4, ?_, hz⟩
    have : (zs.drop pos).drop 1 = r := by rw [← hrest, hr]; rfl
    simpa [-bind_some, nx, hn] using this.symm
   ·exact ⟨by simp, fun q hq => by rw [List.getElem?_set_ne (by omega)]⟩
theorem nx_bound (n : Int) (rest : List Int) (h : ∀ z ∈ rest, 0 ≤ z ∧ z < 256) : 0 ≤ (nx n rest).1 ∧ (1 ≤ n → (nx n rest).1 < n) := by
 cases rest with
 | nil => simp [-bind_some, nx]; omega
 | cons z r =>
  have := h z (by simp)
  unfold nx
  by_cases hn : n < 1
  ·simp [-bind_some, hn]; omega
  ·simp only [hn, if_false]
   have h0 : 0 ≤ z * n := Int.mul_nonneg this.1 (by omega)
   have h1 : z * n ≤ 255 * n := Int.mul_le_mul_of_nonneg_right (by omega) (by omega)
   constructor
   ·omega
   ·intro _; omega
def CD (h : Hp) (o : Nat) : Prop := ∃ rest, CO h o rest
theorem CD.keep {h h' : Hp} {o : Nat} (hc : CD h o) (he : h'[o]? = h[o]?) : CD h' o := by
 obtain ⟨rest, d, zs, pos, ho, hr⟩ := hc
 exact ⟨rest, d, zs, pos, by rw [he]; exact ho, hr⟩
theorem CD.lt {h : Hp} {o : Nat} (hc : CD h o) : o < h.length := by
 obtain ⟨rest, d, zs, pos, ho, hr⟩ := hc
 exact (List.getElem?_eq_some_iff.1 ho).1
theorem CD.ok {h : Hp} {o : Nat} (hc : CD h o) (n : Nat) : ∀ T sz rows, h[o]? = some (.row T sz rows) → ∀ row ∈ rows, ∀ d ∈ row, Ok n d := by
 obtain ⟨rest, d, zs, pos, ho, hd, _⟩ := hc
 intro T sz rows hr row hrow x hx
 rw [ho] at hr
 injection hr with hr
 injection hr with _ _ hr
 subst hr
 simp at hrow
 subst hrow
 simp at hx
 rcases hx with rfl | rfl
 ·exact given_okd hd n
 ·exact .int _ _
theorem next_b {h : Hp} {o : Nat} (hc : CD h o) (n : Int) (hn : 1 ≤ n) (hn2 : n ≤ 1000000000) : ∃ v h', R fn24 [.ptr o 0 0, .int .i64 n] h = some (.int .i64 v, h') ∧ CD h' o ∧ Same o h h' ∧ 0 ≤ v ∧ v < n := by
 obtain ⟨rest, hc⟩ := hc
 obtain ⟨h', h1, h2, h3⟩ := next_ok hc n hn2
 have hb : ∀ z ∈ rest, 0 ≤ z ∧ z < 256 := by
  obtain ⟨d, zs, pos, ho, hd, hl, rfl, hz⟩ := hc
  exact fun z hz' => hz z (List.mem_of_mem_drop hz')
 exact ⟨_, h', h1, ⟨_, h2⟩, h3, (nx_bound n rest hb).1, (nx_bound n rest hb).2 hn⟩
theorem d102 {h : Hp} {o : Nat} (hc : CD h o) : ∃ s h', R fn102 [.ptr o 0 0] h = some (.str s, h') ∧ CD h' o ∧ Same o h h' ∧ s.length ≤ 7 := by
 obtain ⟨v, h', h1, h2, h3, h4, h5⟩ := next_b hc 14 (by omega) (by omega)
 obtain ⟨s, hs, hg⟩ := pick_of lt98_10 v h4 h5
 refine ⟨s, h', ?_, h2, h3, ?_⟩
 ·rw [e102]; simp [-bind_some, F102, h1, h4, hg]
 ·exact (show ∀ s ∈ lt98_10, s.length ≤ 7 by decide) s hs
theorem d33 {h : Hp} {o : Nat} (hc : CD h o) : ∃ s h', R fn33 [.ptr o 0 0] h = some (.str s, h') ∧ CD h' o ∧ Same o h h' ∧ s.length ≤ 19 := by
 obtain ⟨v, h', h1, h2, h3, h4, h5⟩ := next_b hc 11 (by omega) (by omega)
 obtain ⟨s, hs, hg⟩ := pick_of lt98_1 v h4 h5
 refine ⟨s, h', ?_, h2, h3, ?_⟩
 ·rw [e33]; simp [-bind_some, F33, h1, h4, hg]
 ·exact (show ∀ s ∈ lt98_1, s.length ≤ 19 by decide) s hs
theorem d97 {h : Hp} {o : Nat} (hc : CD h o) : ∃ n h', R fn97 [.ptr o 0 0] h = some (.int .i64 n, h') ∧ CD h' o ∧ Same o h h' ∧ 1 ≤ n ∧ n ≤ 5040 ∧ Int.tmod 5040 n = 0 := by
 obtain ⟨v, h', h1, h2, h3, h4, h5⟩ := next_b hc 6 (by omega) (by omega)
 obtain ⟨s, hs, hg⟩ := pick_of lt82_8 v h4 h5
 refine ⟨s, h', ?_, h2, h3, ?_⟩
 ·rw [e97]; simp [-bind_some, F97, h1, h4, hg]
 ·exact (show ∀ s ∈ lt82_8, 1 ≤ s ∧ s ≤ 5040 ∧ Int.tmod 5040 s = 0 by decide) s hs
theorem d35 {h : Hp} {o : Nat} (hc : CD h o) : ∃ n h', R fn35 [.ptr o 0 0] h = some (.int .i64 n, h') ∧ CD h' o ∧ Same o h h' ∧ 0 ≤ n ∧ n ≤ 253402300799999 := by
 obtain ⟨v, h', h1, h2, h3, h4, h5⟩ := next_b hc 4 (by omega) (by omega)
 rw [e35]
 by_cases v0 : v = 0
 ·obtain ⟨u, g', g1, g2, g3, g4, g5⟩ := next_b h2 40 (by omega) (by omega)
  refine ⟨u * 86400000, g', ?_, g2, h3.trans g3, by omega, by omega⟩
  simp [-bind_some, F35, h1, v0, g1, wrap_i64 (n := u * 86400000) (by omega) (by omega)]
 ·by_cases v1 : v = 1
  ·obtain ⟨u, g', g1, g2, g3, g4, g5⟩ := next_b h2 3 (by omega) (by omega)
   refine ⟨253402300799999 - u * 86400000, g', ?_, g2, h3.trans g3, by omega, by omega⟩
   simp [-bind_some, F35, h1, v0, v1, g1, wrap_i64 (n := u * 86400000) (by omega) (by omega), wrap_i64 (n := 253402300799999 - u * 86400000) (by omega) (by omega)]
  ·obtain ⟨u, g', g1, g2, g3, g4, g5⟩ := next_b h2 60 (by omega) (by omega)
   refine ⟨1000 + u, g', ?_, g2, h3.trans g3, by omega, by omega⟩
   simp [-bind_some, F35, h1, v0, v1, g1, wrap_i64 (n := 1000 + u) (by omega) (by omega)]
structure St (h0 : Hp) (o : Nat) (g : Hp) : Prop where
 lt : o < h0.length
 cd : CD g o
 gr : Grow h0.length o h0 g
theorem St.refl {h : Hp} {o : Nat} (hc : CD h o) : St h o h := ⟨hc.lt, hc, .refl _ _ _⟩
theorem St.next {h0 g g' : Hp} {o : Nat} (s : St h0 o g) (hc : CD g' o) (hs : Same o g g') : St h0 o g' := ⟨s.lt, hc, s.gr.trans hs.grow⟩
theorem St.app {h0 g g' : Hp} {o : Nat} (s : St h0 o g) (hl : g.length ≤ g'.length) (hb : ∀ q, q < h0.length → g'[q]? = g[q]?) : St h0 o g' := ⟨s.lt, s.cd.keep (hb o s.lt), s.gr.trans ⟨hl, fun q hq _ => hb q hq⟩⟩
theorem St.le {h0 g : Hp} {o : Nat} (s : St h0 o g) : h0.length ≤ g.length := s.gr.1
theorem St.scope {h0 g : Hp} {o : Nat} (s : St h0 o g) {d d' : D} (hd : frz h0.length g 4 d = d') (hok : Ok h0.length d') : ∃ h', scope h0 g d = some (d', h') ∧ CD h' o ∧ Same o h0 h' := by
 obtain ⟨h1, h2, h3⟩ := scope_same hd hok s.gr (s.cd.ok h0.length)
 exact ⟨_, h1, s.cd.keep (h3 o s.lt), h2⟩
theorem d44 (zs : List Int) (d : D) (n : Int) (h : Hp) (hd : Given .u8 zs d) (hn : 0 ≤ n) (hn2 : n ≤ 1000) (hz : ∀ z ∈ zs, 0 ≤ z ∧ z < 256) : ∃ h', R fn44 [d, .int .i64 n] h = some (.ptr h.length 0 0, h') ∧ CD h' h.length ∧ h'.length = h.length + 1 := by
 rw [e44]
 have hm : ∃ m : Int, dMin (.int .i64 zs.length) (.int .i64 n) = some (.int .i64 m) ∧ 0 ≤ m ∧ m ≤ zs.length ∧ m ≤ 1000 := by
  rw [dMin_int]
  split
  ·exact ⟨_, rfl, by omega, by omega, by omega⟩
  ·exact ⟨_, rfl, by omega, by omega, by omega⟩
 obtain ⟨m, hm, h0, h1, h2⟩ := hm
 obtain ⟨d', hs, hg⟩ := given_hi (T := tab) (t := ty22) (i := ti22) (j := ti5) (id rfl) (id rfl) (id rfl) (id rfl) hd (k2 := .i64) h0 h1
 simp only [F44, bs, given_len hd, hm, hs, bd101_0 d' (given_one hg)]
 rw [wBox_agg ty101 2 h [d', .int .i64 0] rfl (by omega)]
 refine ⟨_, rfl, ⟨_, d', zs.take m.toNat, 0, by simp [-bind_some, dNew], hg, ?_, rfl, fun z hz' => hz z (List.mem_of_mem_take hz')⟩, by simp [-bind_some, dNew]⟩
 simp [-bind_some]; omega
theorem d96 {h : Hp} {o : Nat} (hc : CD h o) : ∃ s h', R fn96 [.ptr o 0 0] h = some (.str s, h') ∧ CD h' o ∧ Same o h h' ∧ s.length ≤ 34 := by
 suffices Wp (R fn96 [.ptr o 0 0] h) (fun p => ∃ s, p.1 = .str s ∧ CD p.2 o ∧ Same o h p.2 ∧ s.length ≤ 34) by
  obtain ⟨⟨x, h'⟩, h1, s, rfl, h2⟩ := this
  exact ⟨s, h', h1, h2⟩
 rw [e96]
 simp only [F96, bs, Option.bind_assoc]
 obtain ⟨s, h1, e1, c1, s1, b1⟩ := d102 hc
 refine Wp.step e1 ?_
 simp only [bs]
 obtain ⟨v, h2, e2, c2, s2, v0, v1⟩ := next_b c1 4 (by omega) (by omega)
 refine Wp.step e2 ?_
 simp only [bs]
 refine Wp.loop (fun k ds g => ∃ s a, ds = [.str s, .int .i64 k, a] ∧ CD g o ∧ Same o h g ∧ k ≤ 3 ∧ s.length + 9 * k ≤ 34) (fun r => r.1 = .ext 0 ∧ ∃ s a b, r.2.1 = [.str s, a, b] ∧ CD r.2.2 o ∧ Same o h r.2.2 ∧ s.length ≤ 34) v.toNat ⟨s, .any, by rw [Int.toNat_of_nonneg v0], c2, s1.trans s2, by omega, by omega⟩ ?_ ?_
 ·rintro k ds g ⟨s, a, rfl, cg, sg, hk, hs⟩
  simp only [F96_L0, nth_zero, nth_succ, bs, dBin_gtr]
  refine Wp.dif ?_ ?_
  ·intro h0
   have h0 : 0 < (k : Int) := by simpa using h0
   simp only [lt98_7_ok, bs]
   obtain ⟨v, h2, e2, c2, s2, v0, v1⟩ := next_b cg 5 (by omega) (by omega)
   obtain ⟨u, hu, hg⟩ := pick_of lt98_7 v v0 v1
   have hul := (show ∀ s ∈ lt98_7, s.length ≤ 2 by decide) u hu
   refine Wp.step e2 ?_
   simp only [ix98, v0, if_true, List.getElem?_map, hg, Option.map_some, bs, ld9]
   obtain ⟨w, h3, e3, c3, s3, b3⟩ := d102 c2
   refine Wp.step e3 ?_
   rw [dBin_sadd _ _ _ _ (by omega)]
   simp only [bs]
   rw [dBin_sadd _ _ _ _ (by simp; omega)]
   have hk1 : IntKind.wrap .i64 ((k : Int) - 1) = ((k - 1 : Nat) : Int) := by
    rw [wrap_i64 (by omega) (by omega)]; omega
   simp only [bs, dBin_sub, chk_true, hk1]
   exact .some (.inl ⟨rfl, k - 1, by omega, s ++ (u ++ w), _, rfl, c3, (sg.trans s2).trans s3, by omega, by simp; omega⟩)
  ·intro _
   exact .some (.inr ⟨by simp, rfl, s, _, _, rfl, cg, sg, by omega⟩)
 ·rintro ⟨x, ds, g⟩ ⟨rfl, s, a, b, rfl, cg, sg, hs⟩
  simp only [unblk_self, toEnd_nrm, nth_zero, bs, mkRes_one]
  exact .some ⟨s, rfl, cg, sg, hs⟩
def FsOK (l : List (Str × Str)) : Prop := (l.map (·.1)).Sublist lt98_9 ∧ ∀ p ∈ l, p.2.length ≤ 19
theorem d98 {h : Hp} {o : Nat} (hc : CD h o) : ∃ x h', R fn98 [.ptr o 0 0] h = some (x, h') ∧ CD h' o ∧ Same o h h' ∧ ∃ l, SlOf 2 fld l x ∧ FsOK l := by
 suffices Wp (R fn98 [.ptr o 0 0] h) (fun p => CD p.2 o ∧ Same o h p.2 ∧ ∃ l, SlOf 2 fld l p.1 ∧ FsOK l) by
  obtain ⟨⟨x, h'⟩, h1, h2⟩ := this
  exact ⟨x, h', h1, h2⟩
 rw [e98]
 simp only [F98, bs, Option.bind_assoc, lt98_9_ok]
 refine Wp.loop (fun k ds g => ∃ x a b, ∃ (i : Nat) (l : List (Str × Str)), ds = [x, .int .i64 i, a, b] ∧ St h o g ∧ k + i = 4 ∧ Own g h.length ty109 2 (l.map fld) x ∧ (l.map (·.1)).Sublist (lt98_9.take i) ∧ ∀ p ∈ l, p.2.length ≤ 19)
  (fun r => r.1 = .ext 0 ∧ ∃ x a b c l, r.2.1 = [x, a, b, c] ∧ St h o r.2.2 ∧ Own r.2.2 h.length ty109 2 (l.map fld) x ∧ FsOK l) 4 ⟨.nils, .any, .any, 0, [], rfl, .refl hc, rfl, Own.nils _ _ _ _, by simp, by simp⟩ ?_ ?_
 ·rintro k ds g ⟨x, a, b, i, l, rfl, S, hk, ow, hsub, hv⟩
  have hw : IntKind.wrap .i64 ((i : Int) + 1) = (i + 1 : Nat) := by
   rw [wrap_i64 (by omega) (by omega)]; omega
  simp only [F98_L0, nth_zero, nth_succ, bs, len98, List.length_map, lt98_9_len, dBin_lss]
  refine Wp.dif ?_ ?_
  ·intro h0
   have h0 : i < 4 := by have : (i : Int) < 4 := by simpa using h0
                         omega
   obtain ⟨v, h1, e1, c1, s1, v0, v1⟩ := next_b S.cd 3 (by omega) (by omega)
   have S1 := S.next c1 s1
   replace ow := ow.same s1 hc.lt
   refine Wp.step e1 ?_
   simp only [dBin_eql, bs]
   refine Wp.join (P := fun r => ∃ x g, ∃ l : List (Str × Str), r = (.nrm, [x], g) ∧ St h o g ∧ Own g h.length ty109 2 (l.map fld) x ∧ (l.map (·.1)).Sublist (lt98_9.take (i + 1)) ∧ ∀ p ∈ l, p.2.length ≤ 19) ?_ ?_ ?_
   ·intro _
    have hg : lt98_9[i]? = some lt98_9[i] := List.getElem?_eq_getElem h0
    simp only [ix98, Int.natCast_nonneg, if_true, Int.toNat_natCast, List.getElem?_map, hg, Option.map_some, bs, ld9]
    obtain ⟨u, h2, e2, c2, s2, hu⟩ := d33 S1.cd
    have S2 := S1.next c2 s2
    replace ow := ow.same s2 hc.lt
    refine Wp.step e2 ?_
    simp only [bs, bd109_0_1, bs29_1]
    have hll : l.length ≤ 4 := by
     have := hsub.length_le
     simp at this
     omega
    refine wap29 S2.le ow (rowsOf_sl _ _ _ _) (by simp; omega) fun x' g' ow len bel _ _ => ?_
    simp only [bs, chk_true]
    refine .some ⟨x', g', l ++ [(lt98_9[i], u)], rfl, S2.app len bel, by rw [List.map_append]; exact ow, ?_, ?_⟩
    ·rw [List.take_add_one, hg, List.map_append]
     exact hsub.append (List.Sublist.refl _)
    ·intro p hp
     rcases List.mem_append.1 hp with hp | hp
     ·exact hv p hp
     ·simp at hp; subst hp; exact hu
   ·intro _
    refine .some ⟨_, _, l, rfl, S1, ow, hsub.trans ?_, hv⟩
    rw [List.take_add_one]
    exact List.sublist_append_left _ _
   ·rintro _ ⟨x, g, l, rfl, S, ow, hsub, hv⟩
    simp only [unblk_nrm, toEnd_nrm, nth_zero, dBin_add, bs, hw]
    exact .some (.inl ⟨rfl, k - 1, by omega, x, _, _, i + 1, l, rfl, S, by omega, ow, hsub, hv⟩)
  ·intro h0
   have h0 : ¬ i < 4 := by have : ¬ (i : Int) < 4 := by simpa using h0
                           omega
   refine .some (.inr ⟨by simp, rfl, x, _, _, _, l, rfl, S, ow, hsub.trans (List.take_sublist _ _), hv⟩)
 ·rintro ⟨x, ds, g⟩ ⟨rfl, x, a, b, c, l, rfl, S, ow, hl⟩
  simp only [unblk_self, toEnd_nrm, nth_zero, bs, mkRes_one]
  have hsl := own_sl (n := 3) ow (Nat.le_refl _) (fun a _ => fld_frz _ g _ a)
  obtain ⟨h', hs, hcd, hsm⟩ := S.scope rfl (slof_ok hsl fun a _ => fld_ok _ a)
  exact ⟨_, hs, hcd, hsm, l, hsl, hl⟩
def chain : Int → List Lin → Int → Prop
 | a, [], b => a = b
 | a, l :: r, b => l.off = a ∧ 1 ≤ l.len ∧ l.len ≤ 36 ∧ l.txt.length + 1 ≤ l.len ∧ chain (a + l.len) r b
theorem chain_snoc : ∀ (ls : List Lin) (a b : Int) (l : Lin), chain a ls b → l.off = b → 1 ≤ l.len → l.len ≤ 36 → l.txt.length + 1 ≤ l.len → chain a (ls ++ [l]) (b + l.len)
 | [], a, b, l, h, h1, h2, h3, h4 => by
  simp only [chain] at h
  subst h
  exact ⟨h1, h2, h3, h4, rfl⟩
 | x :: r, a, b, l, h, h1, h2, h3, h4 => ⟨h.1, h.2.1, h.2.2.1, h.2.2.2.1, chain_snoc r _ b l h.2.2.2.2 h1 h2 h3 h4⟩
def blank (l : Lin) : Lin := { l with txt := [] }
theorem chain_blank : ∀ (ls : List Lin) (a b : Int), chain a ls b → chain a (ls.map blank) b
 | [], a, b, h => h
 | x :: r, a, b, h => ⟨h.1, h.2.1, h.2.2.1, by simp [-bind_some, blank]; exact h.2.1, chain_blank r _ b h.2.2.2.2⟩
theorem chain_le : ∀ (ls : List Lin) (a b : Int), chain a ls b → a + ls.length ≤ b ∧ b ≤ a + 36 * ls.length
 | [], a, b, h => by simp [-bind_some, chain] at h; simp [-bind_some]; omega
 | x :: r, a, b, h => by
  have := chain_le r _ b h.2.2.2.2
  have := h.2.1
  have := h.2.2.1
  simp only [List.length_cons]
  omega
structure ItOK (hst fil frm : Int) (i : It) : Prop where
 host : i.e.a0 = hst
 file : i.e.a1 = fil
 fr : i.e.a2 = frm
 ch : chain frm i.e.ls i.e.a3
 n1 : 1 ≤ i.e.ls.length
 n3 : i.e.ls.length ≤ 3
 ev : i.r = [] → 0 ≤ i.e.a5 ∧ i.e.a5 ≤ 253402300799999 ∧ 1 ≤ i.e.a6 ∧ i.e.a6 ≤ 5040 ∧ i.e.s7 ∈ lt98_5 ∧ i.e.s8 ∈ lt98_6 ∧ FsOK i.e.fs ∧ ∀ l ∈ i.e.ls, l.len ≤ l.txt.length + 2
 wt : i.r = [] → Int.tmod 5040 i.e.a6 = 0
 sk : i.r ≠ [] → i.r ∈ lt98_4 ∧ i.e.a5 = 0 ∧ i.e.a6 = 0 ∧ i.e.s7 = [] ∧ i.e.s8 = [] ∧ i.e.fs = [] ∧ ∀ l ∈ i.e.ls, l.txt = []
theorem set_blank (ls : List Lin) (i : Nat) (hi : i < ls.length) : (((ls.take i).map blank ++ ls.drop i).map linr).set i (linr (blank ls[i])) = ((ls.take (i + 1)).map blank ++ ls.drop (i + 1)).map linr := by
 rw [List.drop_eq_getElem_cons hi, List.take_add_one, List.getElem?_eq_getElem hi]
 simp only [List.map_append, List.map_cons, Option.toList_some, List.map_nil]
 rw [List.set_append_right _ _ (by simp; omega)]
 simp [-bind_some, Nat.min_eq_left (Nat.le_of_lt hi)]
theorem get_blank (ls : List Lin) (i : Nat) (hi : i < ls.length) : (((ls.take i).map blank ++ ls.drop i).map linr)[i]? = some (linr ls[i]) := by
 rw [List.drop_eq_getElem_cons hi, List.getElem?_map, List.getElem?_append_right (by simp; omega)]
 simp [-bind_some, Nat.min_eq_left (Nat.le_of_lt hi)]
 exact ⟨_, List.getElem?_eq_getElem hi, rfl⟩
theorem ldob {h : Hp} {q T z : Nat} {cs : List D} (hq : h[q]? = some (.row T z [cs])) (hl : cs.length = 10) : dLoad tab h ty31 (.ptr q 0 0) = some (.agg cs) := by
 rw [ldp31, row_of hq]
 simp [-bind_some, takeN, hl]
 exact List.take_of_length_le (by omega)
theorem ldob11 {h : Hp} {q T z : Nat} {cs : List D} (hq : h[q]? = some (.row T z [cs])) (hl : cs.length = 11) : dLoad tab h ty74 (.ptr q 0 0) = some (.agg cs) := by
 rw [ldp74, row_of hq]
 simp [-bind_some, takeN, hl]
 exact List.take_of_length_le (by omega)
theorem lt98_4_ne : ∀ s ∈ lt98_4, s ≠ [] := by decide
theorem d84 {h : Hp} {o : Nat} (hc : CD h o) (host file fr : Int) (hf0 : 0 ≤ fr) (hf1 : fr ≤ 1000000000) : ∃ i h', R fn84 [.ptr o 0 0, .int .i64 host, .int .i64 file, .int .i64 fr] h = some (.agg (itr i), h') ∧ CD h' o ∧ Same o h h' ∧ ItOK host file fr i := by
 suffices Wp (R fn84 [.ptr o 0 0, .int .i64 host, .int .i64 file, .int .i64 fr] h) (fun p => ∃ i, p.1 = .agg (itr i) ∧ CD p.2 o ∧ Same o h p.2 ∧ ItOK host file fr i) by
  obtain ⟨⟨x, h'⟩, h1, i, rfl, h2⟩ := this
  exact ⟨i, h', h1, h2⟩
 have ho := hc.lt
 rw [e84]
 simp only [F84, bs, Option.bind_assoc, bd31_0_1_2]
 generalize hg0 : dNew (dNew h ty74 11 [[.str [], .int .i64 0, .int .i64 0, .int .i64 0, .int .i64 0, .nils, .int .i64 0, .int .i64 0, .str [], .str [], .nils]]) ty31 10 [[.int .i64 0, .int .i64 0, .int .i64 0, .int .i64 0, .nils, .int .i64 0, .int .i64 0, .str [], .str [], .nils]] = g0
 have S0 : St h o g0 := (St.refl hc).app (by simp [-bind_some, ← hg0, dNew]) (fun q hq => by simp only [← hg0, dNew]; rw [List.getElem?_append_left (by simp; omega), List.getElem?_append_left hq])
 have p8 : g0[h.length]? = some (.row ty74 11 [[.str [], .int .i64 0, .int .i64 0, .int .i64 0, .int .i64 0, .nils, .int .i64 0, .int .i64 0, .str [], .str [], .nils]]) := by
  simp only [← hg0, dNew]; rw [List.getElem?_append_left (by simp), List.getElem?_append_right (Nat.le_refl _)]; simp [-bind_some]
 have p9 : g0[h.length + 1]? = some (.row ty31 10 [[.int .i64 0, .int .i64 0, .int .i64 0, .int .i64 0, .nils, .int .i64 0, .int .i64 0, .str [], .str [], .nils]]) := by
  simp only [← hg0, dNew]; rw [List.getElem?_append_right (by simp)]; simp [-bind_some]
 have hl9 : (dNew h ty74 11 [[.str [], .int .i64 0, .int .i64 0, .int .i64 0, .int .i64 0, .nils, .int .i64 0, .int .i64 0, .str [], .str [], .nils]]).length = h.length + 1 := by simp [-bind_some, dNew]
 rw [hl9]
 clear hl9 hg0
 have sm : ∀ {a b : Hp}, Same (h.length + 1) a b → Grow h.length o a b := fun s => ⟨Nat.le_of_eq s.1.symm, fun q hq _ => s.2 q (by omega)⟩
 refine wst31 p9 (by rfl) (by rfl) (by simp) (by rfl) fun g1 q9 sg => ?_
 replace q9 : g1[h.length + 1]? = some (.row ty31 10 [[.int .i64 host, .int .i64 file, .int .i64 fr, .int .i64 0, .nils, .int .i64 0, .int .i64 0, .str [], .str [], .nils]]) := q9
 replace p8 := (sg.2 h.length (by omega)).trans p8
 have S1 : St h o g1 := S0.app (Nat.le_of_eq sg.1.symm) fun q hq => sg.2 q (by omega)
 clear p9 sg S0
 obtain ⟨v, h1, e1, c1, s1, v0, v1⟩ := next_b S1.cd 3 (by omega) (by omega)
 replace q9 := (s1.2 (h.length + 1) (by omega)).trans q9
 replace p8 := (s1.2 h.length (by omega)).trans p8
 have S2 := S1.next c1 s1
 refine Wp.step e1 ?_
 simp only [dBin_add, bs]
 rw [wrap_i64 (n := 1 + v) (by omega) (by omega)]
 refine Wp.loop (fun k ds g => ∃ po : Int, ∃ a b c x, ∃ ls : List Lin, ds = [.int .i64 po, .int .i64 k, a, b, c] ∧ St h o g ∧ g[h.length]? = some (.row ty74 11 [[.str [], .int .i64 0, .int .i64 0, .int .i64 0, .int .i64 0, .nils, .int .i64 0, .int .i64 0, .str [], .str [], .nils]])
   ∧ g[h.length + 1]? = some (.row ty31 10 [[.int .i64 host, .int .i64 file, .int .i64 fr, .int .i64 0, x, .int .i64 0, .int .i64 0, .str [], .str [], .nils]]) ∧ Own g (h.length + 2) ty78 3 (ls.map linr) x ∧ chain fr ls po ∧ ls.length + k = (1 + v).toNat ∧ ∀ l ∈ ls, l.len ≤ l.txt.length + 2)
  (fun r => r.1 = .ext 0 ∧ ∃ po : Int, ∃ a b c d x, ∃ ls : List Lin, r.2.1 = [.int .i64 po, a, b, c, d] ∧ St h o r.2.2 ∧ r.2.2[h.length]? = some (.row ty74 11 [[.str [], .int .i64 0, .int .i64 0, .int .i64 0, .int .i64 0, .nils, .int .i64 0, .int .i64 0, .str [], .str [], .nils]])
   ∧ r.2.2[h.length + 1]? = some (.row ty31 10 [[.int .i64 host, .int .i64 file, .int .i64 fr, .int .i64 0, x, .int .i64 0, .int .i64 0, .str [], .str [], .nils]]) ∧ Own r.2.2 (h.length + 2) ty78 3 (ls.map linr) x ∧ chain fr ls po ∧ 1 ≤ ls.length ∧ ls.length ≤ 3 ∧ ∀ l ∈ ls, l.len ≤ l.txt.length + 2)
  (1 + v).toNat ⟨fr, .any, .any, .any, .nils, [], by rw [Int.toNat_of_nonneg (by omega)], S2, p8, q9, Own.nils _ _ _ _, rfl, by simp, by simp⟩ ?_ ?_
 ·clear e1 S1 S2 q9 p8 c1 s1
  rintro k ds g ⟨po, a, b, c, x, ls, rfl, S, p8, p9, ow, hch, hk, htx⟩
  simp only [F84_L0, nth_zero, nth_succ, bs, dBin_gtr]
  refine Wp.dif ?_ ?_
  ·intro h0
   have h0 : 0 < (k : Int) := by simpa using h0
   obtain ⟨t, g1, e1, c1, s1, ht⟩ := d96 S.cd
   have S1 := S.next c1 s1
   refine Wp.step e1 ?_
   simp only [len9, dBin_add, bs]
   obtain ⟨u, g2, e2, c2, s2, u0, u1⟩ := next_b c1 2 (by omega) (by omega)
   have S2 := S1.next c2 s2
   have s12 := s1.trans s2
   replace p9 := (s12.2 (h.length + 1) (by omega)).trans p9
   replace p8 := (s12.2 h.length (by omega)).trans p8
   replace ow := ow.same s12 (by omega)
   refine Wp.step e2 ?_
   have w1 := wrap_i64 (n := (t.length : Int) + 1) (by omega) (by omega)
   have w2 := wrap_i64 (n := (t.length : Int) + 1 + u) (by omega) (by omega)
   simp only [bs, Option.bind_assoc, dBin_add, w1, w2, fap31_4, ldp28, row_of p9, List.getElem?_cons_zero, bs, Nat.zero_add, List.drop_succ_cons, List.drop_zero, List.head?_cons, bd78_0_1_2, bs28_1]
   have hlt : h.length + 1 < g2.length := (List.getElem?_eq_some_iff.1 p9).1
   have hcl := chain_le _ _ _ hch
   refine wap28 (by omega) ow (rowsOf_sl _ _ _ _) (by simp; omega) fun x' g3 ow3 len bel keep _ => ?_
   have S3 := S2.app len fun q hq => bel q (by omega)
   replace p9 := (bel (h.length + 1) (by omega)).trans p9
   replace p8 := (bel h.length (by omega)).trans p8
   simp only [bs]
   refine wst28 p9 (by rfl) (by cases x' <;> first | rfl | (have := own_one ow3; simp [-bind_some, D.one] at this)) (by simp) (by cases x' <;> first | rfl | (have := own_one ow3; simp [-bind_some, D.one] at this)) fun g4 p9' sg => ?_
   have hc1 : cells1 x' = [x'] := by cases x' <;> first | rfl | (have := own_one ow3; simp [-bind_some, D.one] at this)
   rw [hc1] at p9'
   replace p9 : g4[h.length + 1]? = some (.row ty31 10 [[.int .i64 host, .int .i64 file, .int .i64 fr, .int .i64 0, x', .int .i64 0, .int .i64 0, .str [], .str [], .nils]]) := p9'
   replace p8 := (sg.2 h.length (by omega)).trans p8
   have S4 : St h o g4 := S3.app (Nat.le_of_eq sg.1.symm) fun q hq => sg.2 q (by omega)
   have ow4 := ow3.keep (h' := g4) fun q hq _ => sg.2 q (by omega)
   have w3 := wrap_i64 (n := po + ((t.length : Int) + 1 + u)) (by omega) (by omega)
   have hk1 : IntKind.wrap .i64 ((k : Int) - 1) = ((k - 1 : Nat) : Int) := by
    rw [wrap_i64 (by omega) (by omega)]; omega
   simp only [dBin_add, bs, dBin_sub, w3, hk1]
   refine .some (.inl ⟨rfl, k - 1, by omega, _, _, _, _, x', ls ++ [⟨po, (t.length : Int) + 1 + u, t⟩], rfl, S4, p8, p9, by rw [List.map_append]; exact ow4, chain_snoc _ _ _ _ hch rfl (by simp; omega) (by simp; omega) (by simp; omega), by simp; omega, ?_⟩)
   intro l hl
   rcases List.mem_append.1 hl with hl | hl
   ·exact htx l hl
   ·simp at hl; subst hl; simp [-bind_some]; omega
  ·intro h0
   have h0 : ¬ 0 < (k : Int) := by simpa using h0
   exact .some (.inr ⟨by simp, rfl, _, _, _, _, _, x, ls, rfl, S, p8, p9, ow, hch, by omega, by omega, htx⟩)
 ·clear e1 S1 S2 q9 p8 c1 s1
  rintro ⟨ex, ds, g⟩ ⟨rfl, po, a, b, c, d, x, ls, rfl, S, p8, p9, ow, hch, hl1, hl3, htx⟩
  simp only [unblk_self, toEnd_nrm, nth_zero, bs, fap31_3]
  refine wst3 p9 (by rfl) (by rfl) (by simp) (by rfl) fun g1 p9' sg => ?_
  replace p9 : g1[h.length + 1]? = some (.row ty31 10 [[.int .i64 host, .int .i64 file, .int .i64 fr, .int .i64 po, x, .int .i64 0, .int .i64 0, .str [], .str [], .nils]]) := p9'
  replace p8 := (sg.2 h.length (by omega)).trans p8
  have S1 : St h o g1 := S.app (Nat.le_of_eq sg.1.symm) fun q hq => sg.2 q (by omega)
  have ow1 := ow.keep (h' := g1) fun q hq _ => sg.2 q (by omega)
  clear S sg p9' ow
  obtain ⟨v, g2, e2, c2, s2, v0, v1⟩ := next_b S1.cd 5 (by omega) (by omega)
  replace p9 := (s2.2 (h.length + 1) (by omega)).trans p9
  replace p8 := (s2.2 h.length (by omega)).trans p8
  have S2 := S1.next c2 s2
  have ow2 := ow1.same s2 (by omega)
  refine Wp.step e2 ?_
  simp only [dBin_eql, bs]
  refine Wp.dif ?_ ?_
  ·intro _
   refine Wp.loop (fun k ds g => ∃ b, ∃ i : Nat, ds = [.int .i64 i, b] ∧ St h o g ∧ g[h.length]? = some (.row ty74 11 [[.str [], .int .i64 0, .int .i64 0, .int .i64 0, .int .i64 0, .nils, .int .i64 0, .int .i64 0, .str [], .str [], .nils]])
    ∧ g[h.length + 1]? = some (.row ty31 10 [[.int .i64 host, .int .i64 file, .int .i64 fr, .int .i64 po, x, .int .i64 0, .int .i64 0, .str [], .str [], .nils]]) ∧ Own g (h.length + 2) ty78 3 (((ls.take i).map blank ++ ls.drop i).map linr) x ∧ k + i = ls.length)
    (fun r => r.1 = .ext 2 ∧ ∃ a b, r.2.1 = [a, b] ∧ St h o r.2.2 ∧ r.2.2[h.length]? = some (.row ty74 11 [[.str [], .int .i64 0, .int .i64 0, .int .i64 0, .int .i64 0, .nils, .int .i64 0, .int .i64 0, .str [], .str [], .nils]])
    ∧ r.2.2[h.length + 1]? = some (.row ty31 10 [[.int .i64 host, .int .i64 file, .int .i64 fr, .int .i64 po, x, .int .i64 0, .int .i64 0, .str [], .str [], .nils]]) ∧ Own r.2.2 (h.length + 2) ty78 3 ((ls.map blank).map linr) x) ls.length ⟨.any, 0, rfl, S2, p8, p9, by simpa using ow2, rfl⟩ ?_ ?_
   ·clear S1 ow1 e2 c2 s2 S2 p8 p9 ow2
    rintro k ds g ⟨b, i, rfl, S, p8, p9, ow, hk⟩
    have hlen : (((ls.take i).map blank ++ ls.drop i).map linr).length = ls.length := by simp; omega
    have hlo := leno28 ow
    rw [hlen] at hlo
    simp only [F84_L1, nth_zero, nth_succ, bs, Option.bind_assoc, fap31_4, ldp28, row_of p9, List.getElem?_cons_zero, Nat.zero_add, List.drop_succ_cons, List.drop_zero, List.head?_cons, hlo, dBin_lss]
    refine Wp.dif ?_ ?_
    ·intro h0
     have hi : i < ls.length := by have : (i : Int) < ls.length := by simpa using h0
                                   omega
     obtain ⟨ob, hob, rfl, hgo⟩ := own_ix ow (i := i) (by rw [hlen]; exact hi)
     rw [hlen] at *
     have hil : (i : Int) < ls.length := by omega
     have hw : IntKind.wrap .i64 ((i : Int) + 1) = ((i + 1 : Nat) : Int) := by
      rw [wrap_i64 (by omega) (by omega)]; omega
     simp only [ixm28, Int.natCast_nonneg, hil, and_self, if_true, Nat.zero_add, Int.toNat_natCast, bs, fap78_2]
     refine wst9 hgo (get_blank ls i hi) (by rfl) (by simp [-bind_some, linr]) (by rfl) fun g1 hg1 sg => ?_
     have hset : (((ls.take i).map blank ++ ls.drop i).map linr).set i (spl (linr ls[i]) 2 (cells1 (.str []))) = ((ls.take (i + 1)).map blank ++ ls.drop (i + 1)).map linr := set_blank ls i hi
     rw [hset] at hg1
     simp only [dBin_add, bs, hw]
     refine .some (.inl ⟨rfl, k - 1, by omega, _, i + 1, rfl, S.app (Nat.le_of_eq sg.1.symm) fun q hq => sg.2 q (by omega), (sg.2 _ (by omega)).trans p8, (sg.2 _ (by omega)).trans p9, ?_, by omega⟩)
     refine .inr ⟨ob, hob, ?_, hg1⟩
     congr 1
     simp [-bind_some]; omega
    ·intro h0
     have hi : i = ls.length := by have : ¬ (i : Int) < ls.length := by simpa using h0
                                   omega
     subst hi
     refine .some (.inr ⟨by simp, rfl, _, _, rfl, S, p8, p9, by simpa using ow⟩)
   ·clear S1 ow1 e2 c2 s2 S2 p8 p9 ow2
    rintro ⟨ex, ds, g⟩ ⟨rfl, a, b, rfl, S, p8, p9, ow⟩
    simp only [unblk_self, toEnd_nrm, nth_zero, bs, lt98_4_ok]
    obtain ⟨v, g1, e1, c1, s1, v0, v1⟩ := next_b S.cd 3 (by omega) (by omega)
    obtain ⟨s, hs, hg⟩ := pick_of lt98_4 v v0 v1
    have p9' := (s1.2 (h.length + 1) (by omega)).trans p9
    replace p8 := (s1.2 h.length (by omega)).trans p8
    have S1 := S.next c1 s1
    have ow1 := ow.same s1 (by omega)
    refine Wp.step e1 ?_
    simp only [ix98, v0, if_true, List.getElem?_map, hg, Option.map_some, bs, ld9, ldob p9' rfl, ldob p9 rfl, bd74_0_1, chk_true]
    refine wst74 p8 (by rfl) (by rfl) (by simp) (by rfl) fun g2 q8 sg => ?_
    replace q8 : g2[h.length]? = some (.row ty74 11 [[.str s, .int .i64 host, .int .i64 file, .int .i64 fr, .int .i64 po, x, .int .i64 0, .int .i64 0, .str [], .str [], .nils]]) := q8
    have S2 : St h o g2 := S1.app (Nat.le_of_eq sg.1.symm) fun q hq => sg.2 q (by omega)
    have ow2 := ow1.keep (h' := g2) fun q hq _ => sg.2 q (by omega)
    simp only [ldob11 q8 rfl, bs, mkRes_one]
    have hsl := own_sl (n0 := h.length) (n := 2) ow2 (by omega) (fun a _ => linr_frz _ g2 _ a)
    have hsl2 := lt98_4_ne s hs
    obtain ⟨h', hsc, hcd, hsm⟩ := S2.scope (d := .agg [.str s, .int .i64 host, .int .i64 file, .int .i64 fr, .int .i64 po, x, .int .i64 0, .int .i64 0, .str [], .str [], .nils]) (d' := .agg (itr ⟨s, ⟨host, file, fr, po, ls.map blank, frz h.length g2 3 x, 0, 0, [], [], [], .nils, SlOf.nils _ _, by simp, hsl, by simp; omega⟩⟩)) (by simp [-bind_some, itr, evr]) (itr_ok _ _)
    rw [hsc]
    refine .some ⟨_, rfl, hcd, hsm, ⟨rfl, rfl, rfl, chain_blank _ _ _ hch, by simpa using hl1, by simpa using hl3, fun h0 => absurd h0 hsl2, fun h0 => absurd h0 hsl2, fun _ => ⟨hs, rfl, rfl, rfl, rfl, rfl, ?_⟩⟩⟩
    intro l hl
    simp at hl
    obtain ⟨l0, _, rfl⟩ := hl
    rfl
  ·intro _
   clear e2 v0 v1
   obtain ⟨tm, g3, e3, c3, s3, t0, t1⟩ := d35 c2
   refine Wp.step e3 ?_
   simp only [bs]
   obtain ⟨wt, g4, e4, c4, s4, w0, w1, w2⟩ := d97 c3
   refine Wp.step e4 ?_
   have s3x4 := s3.trans s4
   replace p9 := (s3x4.2 (h.length + 1) (by omega)).trans p9
   replace p8 := (s3x4.2 h.length (by omega)).trans p8
   have S4 := S2.next c4 s3x4
   have ow4 := ow2.same s3x4 (by omega)
   clear e3 e4 S1 S2 c3 s3 c2 s2 s4 s3x4 ow1 ow2 c4
   simp only [bs, fap31_5, fap31_6, fap31_7, fap31_8, fap31_9, Nat.zero_add]
   refine wst3 p9 (by rfl) (by rfl) (by simp) (by rfl) fun g5 p9' sg => ?_
   refine wst3 p9' (by rfl) (by rfl) (by simp [-bind_some, spl, cells1]) (by rfl) fun g6 p9'' sg2 => ?_
   replace sg := sg.trans sg2
   replace p9 : g6[h.length + 1]? = some (.row ty31 10 [[.int .i64 host, .int .i64 file, .int .i64 fr, .int .i64 po, x, .int .i64 tm, .int .i64 wt, .str [], .str [], .nils]]) := p9''
   replace p8 := (sg.2 h.length (by omega)).trans p8
   have S6 : St h o g6 := S4.app (Nat.le_of_eq sg.1.symm) fun q hq => sg.2 q (by omega)
   have ow6 := ow4.keep (h' := g6) fun q hq _ => sg.2 q (by omega)
   clear p9' p9'' sg sg2 S4 ow4
   simp only [lt98_5_ok, bs]
   obtain ⟨v, g7, e7, c7, s7, v0, v1⟩ := next_b S6.cd 4 (by omega) (by omega)
   obtain ⟨tr, htr, hg⟩ := pick_of lt98_5 v v0 v1
   refine Wp.step e7 ?_
   simp only [ix98, v0, if_true, List.getElem?_map, hg, Option.map_some, bs, ld9, lt98_6_ok]
   obtain ⟨v, g8, e8, c8, s8, v0, v1⟩ := next_b c7 2 (by omega) (by omega)
   obtain ⟨sm', hsm, hg⟩ := pick_of lt98_6 v v0 v1
   refine Wp.step e8 ?_
   simp only [ix98, v0, if_true, List.getElem?_map, hg, Option.map_some, bs, ld9, chk_true]
   have s7x8 := s7.trans s8
   replace p9 := (s7x8.2 (h.length + 1) (by omega)).trans p9
   replace p8 := (s7x8.2 h.length (by omega)).trans p8
   have S8 := S6.next c8 s7x8
   have ow8 := ow6.same s7x8 (by omega)
   clear e7 e8 S6 c7 s7 s8 s7x8 ow6 c8
   refine wst9 p9 (by rfl) (by rfl) (by simp) (by rfl) fun g9 p9' sg => ?_
   refine wst9 p9' (by rfl) (by rfl) (by simp [-bind_some, spl, cells1]) (by rfl) fun g10 p9'' sg2 => ?_
   replace sg := sg.trans sg2
   replace p9 : g10[h.length + 1]? = some (.row ty31 10 [[.int .i64 host, .int .i64 file, .int .i64 fr, .int .i64 po, x, .int .i64 tm, .int .i64 wt, .str tr, .str sm', .nils]]) := p9''
   replace p8 := (sg.2 h.length (by omega)).trans p8
   have S10 : St h o g10 := S8.app (Nat.le_of_eq sg.1.symm) fun q hq => sg.2 q (by omega)
   have ow10 := ow8.keep (h' := g10) fun q hq _ => sg.2 q (by omega)
   clear p9' p9'' sg sg2 S8 ow8
   obtain ⟨y, g11, e11, c11, s11, fs, hy, hfs⟩ := d98 S10.cd
   refine Wp.step e11 ?_
   replace p9 := (s11.2 (h.length + 1) (by omega)).trans p9
   replace p8 := (s11.2 h.length (by omega)).trans p8
   have S11 := S10.next c11 s11
   have ow11 := ow10.same s11 (by omega)
   have oc := one_cells (slof_one hy)
   refine wst29 p9 (by rfl) (by rw [oc.1]; rfl) (by simp) oc.2 fun g12 p9' sg => ?_
   rw [oc.1] at p9'
   replace p9 : g12[h.length + 1]? = some (.row ty31 10 [[.int .i64 host, .int .i64 file, .int .i64 fr, .int .i64 po, x, .int .i64 tm, .int .i64 wt, .str tr, .str sm', y]]) := p9'
   replace p8 := (sg.2 h.length (by omega)).trans p8
   have S12 : St h o g12 := S11.app (Nat.le_of_eq sg.1.symm) fun q hq => sg.2 q (by omega)
   have ow12 := ow11.keep (h' := g12) fun q hq _ => sg.2 q (by omega)
   clear e11 S11 ow11 S10 ow10 s11 c11 sg p9'
   simp only [ldob p9 rfl, bs, bd74_1]
   refine wst74 p8 (by rfl) (by rfl) (by simp) (by rfl) fun g2 q8 sg => ?_
   replace q8 : g2[h.length]? = some (.row ty74 11 [[.str [], .int .i64 host, .int .i64 file, .int .i64 fr, .int .i64 po, x, .int .i64 tm, .int .i64 wt, .str tr, .str sm', y]]) := q8
   have S2 : St h o g2 := S12.app (Nat.le_of_eq sg.1.symm) fun q hq => sg.2 q (by omega)
   have ow2 := ow12.keep (h' := g2) fun q hq _ => sg.2 q (by omega)
   simp only [ldob11 q8 rfl, bs, mkRes_one]
   have hsl := own_sl (n0 := h.length) (n := 2) ow2 (by omega) (fun a _ => linr_frz _ g2 _ a)
   have hfl : fs.length ≤ 4 := by
    have := hfs.1.length_le
    simpa using this
   have hfy : frz h.length g2 3 y = y := slof_frz hy (fun a _ => fld_frz _ g2 _ a)
   obtain ⟨h', hsc, hcd, hsm2⟩ := S2.scope (d := .agg [.str [], .int .i64 host, .int .i64 file, .int .i64 fr, .int .i64 po, x, .int .i64 tm, .int .i64 wt, .str tr, .str sm', y]) (d' := .agg (itr ⟨[], ⟨host, file, fr, po, ls, frz h.length g2 3 x, tm, wt, tr, sm', fs, y, hy, by omega, hsl, by omega⟩⟩)) (by simp [-bind_some, itr, evr, hfy]) (itr_ok _ _)
   rw [hsc]
   exact .some ⟨_, rfl, hcd, hsm2, ⟨rfl, rfl, rfl, hch, hl1, hl3, fun _ => ⟨t0, t1, w0, w1, htr, hsm, hfs, htx⟩, fun _ => w2, fun h0 => absurd rfl h0⟩⟩
def items (hst fil : Int) : Int → List It → Int → Prop
 | a, [], b => a = b
 | a, i :: r, b => ItOK hst fil a i ∧ items hst fil i.e.a3 r b
theorem items_snoc (hst fil : Int) : ∀ (l : List It) (a b : Int) (i : It), items hst fil a l b → ItOK hst fil b i → items hst fil a (l ++ [i]) i.e.a3
 | [], a, b, i, h, hi => by
  simp only [items] at h
  subst h
  exact ⟨hi, rfl⟩
 | x :: r, a, b, i, h, hi => ⟨h.1, items_snoc hst fil r _ b i h.2 hi⟩
def FilesOK (host most : Int) (P : List It → D → Prop) (ps : List (List It × D)) : Prop := ∀ (f : Nat) p, ps[f]? = some p → P p.1 p.2 ∧ p.1.length ≤ most ∧ ∃ po, items host (5 + f) 0 p.1 po
theorem FilesOK.mono {host most : Int} {P P' : List It → D → Prop} {ps : List (List It × D)} (h : FilesOK host most P ps) (k : ∀ a b, P a b → P' a b) : FilesOK host most P' ps := fun f p hp => ⟨k _ _ (h f p hp).1, (h f p hp).2⟩
theorem l71 {o N : Nat} (host most f : Int) (n0 : Nat) (ho : o < n0) (hN : n0 ≤ N) (ds0 : List D) (hds0 : nth 1 ds0 = .int .i64 f) (hf0 : 0 ≤ f) (hf1 : f ≤ 1000) {β : Type} {K : Out → Option β} {Q : β → Prop} (g : Hp) (n : Nat) (hn : n ≤ 1000) (a b : D) (hc : CD g o) (hNg : N ≤ g.length)
  (k : ∀ g' its po x a b c, Own g' N ty74 11 (its.map itr) x → CD g' o → Grow N o g g' → items host (5 + f) 0 its po → its.length = n → Wp (K (.ext 2, [x, .int .i64 po, a, b, c], g')) Q) :
  Wp ((loopW (F71_L1 (.ptr o 0 0) (.int .i64 host) ds0) [.nils, .int .i64 0, .int .i64 n, a, b] g).bind K) Q := by
 refine Wp.loop (fun k ds g' => ∃ x po a b, ∃ its : List It, ds = [x, .int .i64 po, .int .i64 k, a, b] ∧ Own g' N ty74 11 (its.map itr) x ∧ CD g' o ∧ Grow N o g g' ∧ items host (5 + f) 0 its po ∧ 0 ≤ po ∧ po ≤ 108 * its.length ∧ its.length + k = n)
  (fun r => r.1 = .ext 2 ∧ ∃ x po a b c, ∃ its : List It, r.2.1 = [x, .int .i64 po, a, b, c] ∧ Own r.2.2 N ty74 11 (its.map itr) x ∧ CD r.2.2 o ∧ Grow N o g r.2.2 ∧ items host (5 + f) 0 its po ∧ its.length = n)
  n ⟨.nils, 0, a, b, [], rfl, Own.nils _ _ _ _, hc, .refl _ _ _, rfl, by omega, by simp, by simp⟩ ?_ ?_
 ·rintro k ds g' ⟨x, po, a, b, its, rfl, ow, hc', hg, hit, hp0, hp1, hk⟩
  simp only [F71_L1, nth_zero, nth_succ, bs, dBin_gtr, hds0, dBin_add, wrap_i64 (n := 5 + f) (by omega) (by omega)]
  refine Wp.dif ?_ ?_
  ·intro h0
   have h0 : 0 < (k : Int) := by simpa using h0
   obtain ⟨i, g1, e1, c1, s1, hi⟩ := d84 hc' host (5 + f) po hp0 (by omega)
   have hcl := chain_le _ _ _ hi.ch
   have hn3 := hi.n3
   have hn1 := hi.n1
   have ow1 := ow.same s1 (by omega)
   refine Wp.step e1 ?_
   simp only [boxIt, bs, ldIt, bsIt]
   refine wap113 (by have := hg.1; have := s1.1; omega) ow1 (rowsOf_sl _ _ _ _) (by simp; omega) fun x' g2 ow2 len bel _ _ => ?_
   have hto := toIt i g2
   cases hfa : dFieldAddr tab ty74 1 (.fptr (itr i)) with
   | none => rw [hfa] at hto; cases hto
   | some p =>
    rw [hfa] at hto
    simp only [bs] at hto
    cases hfb : dFieldAddr tab ty31 3 p with
    | none => rw [hfb] at hto; cases hto
    | some q =>
     rw [hfb] at hto
     simp only [bs] at hto
     have hk1 : IntKind.wrap .i64 ((k : Int) - 1) = ((k - 1 : Nat) : Int) := by
      rw [wrap_i64 (by omega) (by omega)]; omega
     simp only [bs, hfa, hfb, hto, dBin_sub, hk1]
     refine .some (.inl ⟨rfl, k - 1, by omega, x', i.e.a3, _, _, its ++ [i], rfl, by rw [List.map_append]; exact ow2, c1.keep (bel o (by omega)), (hg.trans s1.grow).trans ⟨len, fun q hq _ => bel q hq⟩, items_snoc _ _ _ _ _ _ hit hi, by omega, by simp; omega, by simp; omega⟩)
  ·intro h0
   have h0 : ¬ 0 < (k : Int) := by simpa using h0
   exact .some (.inr ⟨by simp, rfl, x, po, _, _, _, its, rfl, ow, hc', hg, hit, by omega⟩)
 ·rintro ⟨ex, ds, g'⟩ ⟨rfl, x, po, a, b, c, its, rfl, ow, hc', hg, hit, hn⟩
  exact k g' its po x a b c ow hc' hg hit hn
theorem d71n {h : Hp} {o : Nat} (hc : CD h o) (host most : Int) (hm0 : 0 ≤ most) (hm1 : most ≤ 100) : ∃ x h', R fn71 [.ptr o 0 0, .int .i64 host, .int .i64 most] h = some (x, h') ∧ CD h' o ∧ Same o h h' ∧ ∃ ps : List (List It × D), SlOf 1 (fun p => [p.2]) ps x ∧ ps.length ≤ 3 ∧ 1 ≤ ps.length ∧ FilesOK host most (SlOf 11 itr) ps := by
 suffices Wp (R fn71 [.ptr o 0 0, .int .i64 host, .int .i64 most] h) (fun p => CD p.2 o ∧ Same o h p.2 ∧ ∃ ps : List (List It × D), SlOf 1 (fun p => [p.2]) ps p.1 ∧ ps.length ≤ 3 ∧ 1 ≤ ps.length ∧ FilesOK host most (SlOf 11 itr) ps) by
  obtain ⟨⟨x, h'⟩, h1, h2⟩ := this
  exact ⟨x, h', h1, h2⟩
 have ho := hc.lt
 rw [e71]
 simp only [F71, bs, Option.bind_assoc]
 refine Wp.loop (fun k ds g => ∃ x a b c d e f', ∃ f : Nat, ∃ ps : List (List It × D), ds = [x, .int .i64 f, a, b, c, d, e, f'] ∧ St h o g ∧ Own g h.length ty113 1 (ps.map fun p => [p.2]) x ∧ ps.length = f ∧ k + f = 3 ∧ FilesOK host most (fun l d => Own g h.length ty74 11 (l.map itr) d) ps)
  (fun r => r.1 = .ext 0 ∧ ∃ x a b c d e f' h', ∃ ps : List (List It × D), r.2.1 = [x, a, b, c, d, e, f', h'] ∧ St h o r.2.2 ∧ Own r.2.2 h.length ty113 1 (ps.map fun p => [p.2]) x ∧ ps.length ≤ 3 ∧ 1 ≤ ps.length ∧ FilesOK host most (fun l d => Own r.2.2 h.length ty74 11 (l.map itr) d) ps)
  3 ⟨.nils, .any, .any, .any, .any, .any, .any, 0, [], rfl, .refl hc, Own.nils _ _ _ _, rfl, rfl, fun f p hp => by simp at hp⟩ ?_ ?_
 ·rintro k ds g ⟨x, a, b, c, d, e, f', f, ps, rfl, S, ow, hpf, hk, hps⟩
  simp only [F71_L0, nth_zero, nth_succ, bs, Option.bind_assoc]
  obtain ⟨v, g1, e1, c1, s1, v0, v1⟩ := next_b S.cd 3 (by omega) (by omega)
  have S1 := S.next c1 s1
  have ow1 := ow.same s1 ho
  have hps1 : FilesOK host most (fun l d => Own g1 h.length ty74 11 (l.map itr) d) ps := hps.mono fun _ _ w => w.same s1 ho
  refine Wp.step e1 ?_
  simp only [dBin_leq, bs]
  refine Wp.dif ?_ ?_
  ·intro h0
   have h0 : (f : Int) ≤ v := by simpa using h0
   simp only [dBin_add, bs, wrap_i64 (n := most + 1) (by omega) (by omega)]
   obtain ⟨n, g2, e2, c2, s2, n0, n1⟩ := next_b c1 (most + 1) (by omega) (by omega)
   have S2 := S1.next c2 s2
   have ow2 := ow1.same s2 ho
   have hps2 : FilesOK host most (fun l d => Own g2 h.length ty74 11 (l.map itr) d) ps := hps1.mono fun _ _ w => w.same s2 ho
   refine Wp.step e2 ?_
   simp only [bs]
   rw [← Int.toNat_of_nonneg n0]
   refine l71 (N := g2.length) host most f h.length ho S2.le _ (by rfl) (by omega) (by omega) g2 n.toNat (by omega) _ _ c2 (Nat.le_refl _) ?_
   intro g3 its po y a' b' c' owy c3 gr hit hlen
   have bel : ∀ q, q < g2.length → q ≠ o → g3[q]? = g2[q]? := gr.2
   have S3 : St h o g3 := ⟨ho, c3, S2.gr.trans ⟨gr.1, fun q hq hn => bel q (by have := S2.le; omega) hn⟩⟩
   have ow3 : Own g3 h.length ty113 1 (ps.map fun p => [p.2]) x := ow2.keep fun q hq hin => bel q (ow2.lt hin).2 (by omega)
   have hps3 : FilesOK host most (fun l d => Own g3 h.length ty74 11 (l.map itr) d) ps := hps2.mono fun _ _ w => w.keep fun q hq hin => bel q (w.lt hin).2 (by omega)
   have owy' : Own g3 h.length ty74 11 (its.map itr) y := owy.from S2.le
   simp only [unblk_self, toEnd_nrm, nth_zero, nth_succ, bs, bs111_1 y (own_one owy)]
   have hw : IntKind.wrap .i64 ((f : Int) + 1) = ((f + 1 : Nat) : Int) := by
    rw [wrap_i64 (by omega) (by omega)]; omega
   refine wap111 S3.le ow3 (rowsOf_sl _ _ _ _) (by simp; omega) fun x' g4 ow4 len bel4 keep4 _ => ?_
   simp only [bs, hw]
   have kp : ∀ (l : List It) (d : D), Own g3 h.length ty74 11 (l.map itr) d → Own g4 h.length ty74 11 (l.map itr) d := fun l d w => w.keep fun q hq hin => keep4 q (w.lt hin).2 (own_dis w ow3 (by decide) hin)
   refine .some (.inl ⟨rfl, k - 1, by omega, x', _, _, _, _, _, _, f + 1, ps ++ [(its, y)], rfl, S3.app len bel4, by rw [List.map_append]; exact ow4, by simp; omega, by omega, fun j p hp => ?_⟩)
   rcases Nat.lt_or_ge j ps.length with hj | hj
   ·rw [List.getElem?_append_left hj] at hp
    exact ⟨kp _ _ (hps3 j p hp).1, (hps3 j p hp).2⟩
   ·rw [List.getElem?_append_right hj] at hp
    have hj0 : j - ps.length = 0 := by
     have := (List.getElem?_eq_some_iff.1 hp).1
     simpa using this
    rw [hj0] at hp
    simp at hp
    subst hp
    have hjf : j = f := by omega
    subst hjf
    exact ⟨kp _ _ owy', by simp only; omega, po, hit⟩
  ·intro h0
   have h0 : ¬ (f : Int) ≤ v := by simpa using h0
   exact .some (.inr ⟨by simp, rfl, x, _, _, _, _, _, _, _, ps, rfl, S1, ow1, by omega, by omega, hps1⟩)
 ·rintro ⟨ex, ds, g⟩ ⟨rfl, x, a, b, c, d, e, f', h', ps, rfl, S, ow, hpl, hpl1, hps⟩
  simp only [unblk_self, toEnd_nrm, nth_zero, bs, mkRes_one]
  have hfz : SlOf 1 (fun p : List It × D => [p.2]) (ps.map fun p => (p.1, frz h.length g 3 p.2)) (frz h.length g 4 x) := by
   rcases ow with ⟨rfl, hr⟩ | ⟨ob, hob, rfl, hgo⟩
   ·have : ps = [] := by simpa using hr
    subst this
    exact .inl ⟨rfl, rfl⟩
   ·right
    refine ⟨false, ?_⟩
    rw [frz_msl hob hgo]
    simp [-bind_some]
    rw [List.take_of_length_le (by simp)]
    rfl
  have hps' : FilesOK host most (SlOf 11 itr) (ps.map fun p => (p.1, frz h.length g 3 p.2)) := by
   intro j p hp
   rw [List.getElem?_map] at hp
   cases hq : ps[j]? with
   | none => rw [hq] at hp; cases hp
   | some q =>
    rw [hq] at hp
    simp at hp
    subst hp
    exact ⟨own_sl (hps j q hq).1 (Nat.le_refl _) fun a _ => itr_frz _ _ _ a, (hps j q hq).2⟩
  obtain ⟨h', hs, hcd, hsm⟩ := S.scope rfl (slof_ok hfz fun a ha d hd => by
   simp at hd
   subst hd
   obtain ⟨j, hj⟩ := List.getElem?_of_mem ha
   exact slof_ok (hps' j a hj).1 fun i _ => itr_oks _ i)
  exact ⟨_, hs, hcd, hsm, _, hfz, by simpa using hpl, by simpa using hpl1, hps'⟩
theorem s99 (n : Int) (h : Hp) : R fn99 [.int .i64 n] h = some (.bool false, h) := by
 rw [e99]
 simp [-bind_some, F99]
def cmpI (a b : Int) : Int := if a < b then -1 else if b < a then 1 else 0
theorem s90 (a b : Int) (h : Hp) : R fn90 [.int .i64 a, .int .i64 b] h = some (.int .i64 (cmpI a b), h) := by
 rw [e90]
 simp [-bind_some, F90, s99, cmpI]
 by_cases h0 : a < b
 ·simp [-bind_some, h0]
 ·by_cases h1 : b < a <;> simp [-bind_some, h0, h1]
def letter (c : Int) : Bool := (decide (97 ≤ c) && decide (c ≤ 122)) || (decide (65 ≤ c) && decide (c ≤ 90))
def digit (c : Int) : Bool := decide (48 ≤ c) && decide (c ≤ 57)
def wordc (c : Int) : Bool := (digit c || letter c) || decide (c = 95)
theorem s1019 (c : Int) (h : Hp) : R fn1019 [.int .u8 c] h = some (.bool (letter c), h) := by
 rw [e1019]
 simp [-bind_some, F1019, letter]
 by_cases h0 : 97 ≤ c <;> by_cases h1 : c ≤ 122 <;> by_cases h2 : 65 ≤ c <;> by_cases h3 : c ≤ 90 <;> simp [-bind_some, h0, h1, h2, h3]
theorem s1021 (c : Int) (h : Hp) : R fn1021 [.int .u8 c] h = some (.bool (digit c), h) := by
 rw [e1021]
 simp [-bind_some, F1021, digit]
 by_cases h0 : 48 ≤ c <;> by_cases h1 : c ≤ 57 <;> simp [-bind_some, h0, h1]
theorem s1020 (c : Int) (h : Hp) : R fn1020 [.int .u8 c] h = some (.bool (wordc c), h) := by
 rw [e1020]
 cases hd : digit c <;> cases hl : letter c <;> simp [-bind_some, F1020, s1021, s1019, wordc, hd, hl]
def nameC (c : UInt8) : Bool := wordc c.toNat || decide ((c.toNat : Int) = 46)
def fnameOK (s : Str) : Bool := match s with
 | [] => false
 | c :: r => decide ((c :: r).length ≤ 32) && (letter c.toNat || decide ((c.toNat : Int) = 95)) && (c :: r).all nameC
theorem sidx (s : Str) (i : Nat) (c : UInt8) (hc : s[i]? = some c) : dIndex tab ty9 (.str s) (.int .i64 i) = some (.int .u8 c.toNat) := by
 show (if (0 : Int) ≤ (i : Int) then (match s[(i : Int).toNat]? with | some c => some (D.int .u8 c.toNat) | none => none) else none) = _
 simp [-bind_some, hc]
theorem l1018 (s : Str) (h : Hp) (hl : s.length ≤ 9223372036854775807) {β : Type} (K : Out → Option β) (X : Bool → Option β)
   (hX : ∀ r, K (.ret, .bool false :: r, h) = X false) (hY : ∀ r, K (.ext 0, r, h) = X true) : ∀ (suf pre : Str), s = pre ++ suf → ∀ a b e,
   (loopW (F1018_L0 (.str s)) [a, .int .i64 pre.length, b, e] h).bind K = X (suf.all nameC) := by
 intro suf
 induction suf with
 | nil =>
  rintro pre rfl a b e
  rw [loopW_eq]
  simp [-bind_some, F1018_L0, hY]
 | cons p suf ih =>
  rintro pre rfl a b e
  have hw : IntKind.wrap .i64 ((pre.length : Int) + 1) = (pre ++ [p]).length := by
   rw [wrap_i64 (by omega) (by simp at hl; omega)]; simp [-bind_some]
  have hlt : (pre.length : Int) < (pre ++ p :: suf).length := by simp; omega
  rw [loopW_eq]
  generalize hL : pre ++ p :: suf = L at *
  have hg : L[pre.length]? = some p := by rw [← hL]; exact get_mid _ _ _
  have hix := sidx L pre.length p hg
  cases hp : wordc p.toNat
  ·by_cases h46 : (p.toNat : Int) = 46
   ·have := ih (pre ++ [p]) (by simp [-bind_some, ← hL]) a (.bool true) (.bool (decide ((p.toNat : Int) ≠ 46)))
    simp only [← hw] at this
    have h47 : wordc 46 = false := rfl
    simp [-bind_some, F1018_L0, hlt, hix, s1020, hp, nameC, h46, h47]
    simp [-bind_some, h46] at this
    exact this
   ·simp [-bind_some, F1018_L0, hlt, hix, s1020, hp, nameC, h46, hX]
  ·have := ih (pre ++ [p]) (by simp [-bind_some, ← hL]) a (.bool true) (.bool false)
   simp only [← hw] at this
   simp [-bind_some, F1018_L0, hlt, hix, s1020, hp, nameC]
   exact this
theorem s1018 (s : Str) (h : Hp) (hl : s.length ≤ 9223372036854775807) : R fn1018 [.str s] h = some (.bool (fnameOK s), h) := by
 rw [e1018]
 cases s with
 | nil => simp [-bind_some, F1018, fnameOK]
 | cons c r =>
  have hi0 : dIndex tab ty9 (.str (c :: r)) (.int .i64 0) = some (.int .u8 c.toNat) := sidx (c :: r) 0 c rfl
  have h1 : ¬ ((c :: r).length : Int) < 1 := by simp; omega
  have hlp := l1018 (c :: r) h hl (fun r_1 => (some (unblk 0 r_1.1, [nth 0 r_1.2.1, nth 1 r_1.2.1, nth 2 r_1.2.1, nth 3 r_1.2.1], r_1.2.2)).bind fun r_1 => toEnd r_1.1 (some (.bool true, r_1.2.2)) fun x => exEnd x (some (nth 0 r_1.2.1, r_1.2.2))) (fun b => some (.bool b, h)) (fun r => by simp) (fun r => by simp) (c :: r) [] rfl
  simp only [bs] at hlp
  by_cases h32 : (32 : Int) < ((c :: r).length : Int)
  ·have h33 : ¬ (c :: r).length ≤ 32 := by omega
   simp only [F1018, bs, len9, dBin_lss, dBin_gtr, gd_bool, dPick_bool, h32, h1, decide_true, decide_false, gdW_bool, dIf_bool, mkRes_one, if_true, if_false, Bool.false_eq_true, reduceCtorEq, fnameOK, h33, Bool.false_and, gd_und, bs]
  ·have h33 : (c :: r).length ≤ 32 := by omega
   cases hq : letter c.toNat
   ·by_cases h95 : (c.toNat : Int) = 95
    ·simp only [F1018, bs, len9, dBin_lss, dBin_gtr, gd_bool, dPick_bool, h32, h1, decide_true, decide_false, gdW_bool, dIf_bool, mkRes_one, if_true, if_false, Bool.false_eq_true, reduceCtorEq, fnameOK, h33, Bool.false_and, hi0, s1019, hq, show letter 95 = false from rfl, dUn_not, Bool.not_false, dBin_neq, h95, ne_eq, not_true, Option.bind_assoc]
     refine (hlp _ _ _).trans ?_
     simp [-bind_some, nameC]
    ·simp only [F1018, bs, len9, dBin_lss, dBin_gtr, gd_bool, dPick_bool, h32, h1, decide_true, decide_false, gdW_bool, dIf_bool, mkRes_one, if_true, if_false, Bool.false_eq_true, reduceCtorEq, fnameOK, h33, Bool.false_and, hi0, s1019, hq, dUn_not, Bool.not_false, dBin_neq, h95, ne_eq, not_true, not_false_eq_true, Bool.or_false, Bool.and_false]
   ·simp only [F1018, bs, len9, dBin_lss, dBin_gtr, gd_bool, dPick_bool, h32, h1, decide_true, decide_false, gdW_bool, dIf_bool, mkRes_one, if_true, if_false, Bool.false_eq_true, reduceCtorEq, fnameOK, h33, Bool.false_and, hi0, s1019, hq, dUn_not, Bool.not_true, gd_und, Option.bind_assoc]
    refine (hlp _ _ _).trans ?_
    simp [-bind_some, nameC]
def Asc (l : List (Str × Str)) : Prop := ∀ i p q, l[i]? = some p → l[i + 1]? = some q → Op.bytesLess p.1 q.1 = true ∧ p.1 ≠ q.1
theorem sgtr (t : Nat) (s u : Str) : dBin tab .gtr t (.str s) (.str u) = some (.bool (!(Op.bytesLess s u || s == u))) := id rfl
theorem fld_f0 (p : Str × Str) : (dFieldAddr tab ty109 0 (.fptr (fld p))) = some (.fptr (fld p)) := id rfl
theorem fld_l0 (p : Str × Str) (h : Hp) : dLoad tab h ty9 (.fptr (fld p)) = some (.str p.1) := id rfl
structure PlOK (e : Ev) : Prop where
 h0 : 0 ≤ e.a0
 h9 : e.a0 ≤ 999
 f0 : 0 ≤ e.a1
 f9 : e.a1 ≤ 2147483646
 a0 : 0 ≤ e.a2
 ab : e.a2 < e.a3
 b9 : e.a3 ≤ 60000
structure EvGood (e : Ev) : Prop where
 pl : PlOK e
 t0 : 0 ≤ e.a5
 t9 : e.a5 ≤ 253402300799999
 w1 : 1 ≤ e.a6
 w2 : e.a6 ≤ 5040
 w3 : Int.tmod 5040 e.a6 = 0
 l1 : 1 ≤ e.ls.length
 l4 : e.ls.length ≤ 40
 ch : chain e.a2 e.ls e.a3
 tr : e.s7.length ≤ 32
 st : e.s8.length ≤ 32
 f3 : e.fs.length ≤ 32
 fn : ∀ p ∈ e.fs, fnameOK p.1 = true ∧ p.1.length ≤ 1000
 fa : Asc e.fs
 fv : ∀ p ∈ e.fs, p.2.length ≤ 2000
structure SkGood (i : It) : Prop where
 r0 : i.r ≠ []
 r3 : i.r.length ≤ 32
 pl : PlOK i.e
 l1 : 1 ≤ i.e.ls.length
 l4 : i.e.ls.length ≤ 40
 ch : chain i.e.a2 i.e.ls i.e.a3
 tm : i.e.a5 = 0
 w0 : i.e.a6 = 0
 tr : i.e.s7 = []
 st : i.e.s8 = []
 fs : i.e.fs = []
 tx : ∀ l ∈ i.e.ls, l.txt = []
theorem l1006 (l : List Lin) (d : D) (fn : D) (pr : Lin → Bool) (h : Hp) (hd : SlOf 3 linr l d) (hl : l.length ≤ 9223372036854775807) (hf : ∀ x, callV R fn [.agg (linr x)] h = some (.bool (pr x), h)) {β : Type} (K : Out → Option β) (X : Int → Option β)
   (hX : ∀ v r, K (.ret, .int .i64 v :: r, h) = X v) (hY : ∀ r, K (.ext 0, r, h) = X (-1)) : ∀ (suf pre : List Lin), l = pre ++ suf → ∀ a b e f,
   (loopW (F1006_L0 d fn (.int .i64 l.length)) [a, b, .int .i64 pre.length, e, f] h).bind K = X (idx pr pre.length suf) := by
 intro suf
 induction suf with
 | nil =>
  rintro pre rfl a b e f
  rw [loopW_eq]
  simp [-bind_some, F1006_L0, hY, idx]
 | cons p suf ih =>
  rintro pre rfl a b e f
  have hw : IntKind.wrap .i64 ((pre.length : Int) + 1) = (pre ++ [p]).length := by
   rw [wrap_i64 (by omega) (by simp at hl; omega)]; simp [-bind_some]
  have hlt : (pre.length : Int) < (pre ++ p :: suf).length := by simp; omega
  rw [loopW_eq]
  generalize hL : pre ++ p :: suf = L at *
  have hg : L[pre.length]? = some p := by rw [← hL]; exact get_mid _ _ _
  by_cases hp : pr p = true
  ·simp [-bind_some, F1006_L0, ixs28 hd, hlt, hg, linr_ld, hf, hp, hX, idx]
  ·have := ih (pre ++ [p]) (by simp [-bind_some, ← hL]) a (.int .i64 pre.length) (.bool true) (.bool (pr p))
   simp only [← hw] at this
   simp [-bind_some, F1006_L0, ixs28 hd, hlt, hg, linr_ld, hf, hp, idx]
   simp [-bind_some, hp] at this
   exact this
theorem s1006 (l : List Lin) (d : D) (fn : D) (pr : Lin → Bool) (h : Hp) (hd : SlOf 3 linr l d) (hl : l.length ≤ 9223372036854775807) (hf : ∀ x, callV R fn [.agg (linr x)] h = some (.bool (pr x), h)) :
   R fn1006 [d, fn] h = some (.int .i64 (idx pr 0 l), h) := by
 rw [e1006]
 simp only [F1006, bs, lens28 hd, Option.bind_assoc]
 rw [show (0 : Int) = (([] : List Lin).length : Int) from rfl, l1006 l d fn pr h hd hl hf _ (fun v => some (.int .i64 v, h)) (fun v r => by simp) (fun r => by simp) l [] rfl]
 rfl
theorem s1007 (l : Lin) (n : Int) (h : Hp) : R fn1007 [.agg (linr l), .fptr [.int .i64 n]] h = some (.bool (decide (l.off = n)), h) := by
 rw [e1007]
 simp [-bind_some, F1007, linr]
theorem app_full {T : Tab} {t e : Nat} {i j : TI} (ht : T t = Option.some i) (hi : i.td = .sl e) (he : T e = Option.some j) (hz : 0 < j.sz) {h : Hp} {ys : List (List D)} {y : D} (hy : dRowsOf h j.sz y = Option.some ys) (hl : lim ys.length j.by_ = true) :
  ∃ x' h', dAppend T h t t (.sl j.sz true []) y = Option.some (x', h') ∧ h.length ≤ h'.length ∧ (∀ q, q < h.length → h'[q]? = h[q]?) ∧ ((x' = .sl j.sz true [] ∧ ys = []) ∨ Own h' h.length e j.sz ys x') := by
 have hz' : Nat.blt 0 j.sz = true := Nat.ble_eq_true_of_le hz
 have hs : dSrc h i j y = Option.some ys := by simp [-bind_some, dSrc, hi, hy]
 unfold dAppend
 simp only [ht, hi, he, hz', hs]
 cases ys with
 | nil => exact ⟨_, _, rfl, Nat.le_refl _, fun _ _ => rfl, .inl ⟨rfl, rfl⟩⟩
 | cons y1 yr =>
  simp only [List.length_nil, Nat.zero_add, hl, and_self, if_true, List.nil_append, true_and]
  exact ⟨_, _, rfl, by simp [-bind_some, dNew], fun q hq => by simp only [dNew]; rw [List.getElem?_append_left hq], .inr (.inr ⟨h.length, Nat.le_refl _, rfl, by simp [-bind_some, dNew]⟩)⟩
theorem s1008 (l : List Lin) (d : D) (h : Hp) (hd : SlOf 3 linr l d) (hl : l.length ≤ 1000000) : ∃ d', R fn1008 [d] h = some (d', h) ∧ SlOf 3 linr l d' := by
 rw [e1008]
 rcases hd with ⟨rfl, rfl⟩ | ⟨b, rfl⟩
 ·exact ⟨.nils, by
    have hne : dBin tab .eql ty28 .nils .nils = some (.bool true) := id rfl
    simp [-bind_some, F1008, hne, scope_eq (frz_nils _ _ _) .nils (Nat.le_refl _) (fun _ _ => rfl)], .nils _ _⟩
 ·obtain ⟨x', h', e, hl', hq, ho⟩ := app_full (T := tab) (t := ty28) (i := ti28) (j := ti78) (h := h) (id rfl) (id rfl) (id rfl) (by decide) (y := .sl 3 b (l.map linr)) (rowsOf_sl _ _ _ _) (lim_ok (by have : ti78.by_ = 32 := rfl; rw [this, List.length_map]; omega) (by rw [List.length_map]; omega))
  have e' : dAppend tab h ty28 ty28 (.sl 3 true []) (.sl 3 b (l.map linr)) = some (x', h') := e
  have hne : dBin tab .eql ty28 (.sl 3 b (l.map linr)) .nils = some (.bool false) := id rfl
  have hsl : SlOf 3 linr l (frz h.length h' 4 x') := by
   rcases ho with ⟨rfl, hn⟩ | ho
   ·have : l = [] := by simpa using hn
    subst this
    exact .inr ⟨true, rfl⟩
   ·exact own_sl (n0 := h.length) (n := 3) ho (Nat.le_refl _) (fun a _ => linr_frz _ h' _ a)
  refine ⟨_, ?_, hsl⟩
  simp only [F1008, bs, hne, dIf_bool, Bool.false_eq_true, if_false, bs28_0, e', mkRes_one]
  exact scope_eq rfl (slof_ok hsl fun a _ => linr_ok _ a) hl' hq
structure CutOf (i : It) (at_ : Int) (k : Nat) (j : It) : Prop where
 r : j.r = i.r
 a0 : j.e.a0 = i.e.a0
 a1 : j.e.a1 = i.e.a1
 a2 : j.e.a2 = at_
 a3 : j.e.a3 = i.e.a3
 a5 : j.e.a5 = i.e.a5
 a6 : j.e.a6 = i.e.a6
 s7 : j.e.s7 = i.e.s7
 s8 : j.e.s8 = i.e.s8
 ls : j.e.ls = i.e.ls.drop k
 fs : j.e.fs = i.e.fs
def it0 : It := ⟨[], ⟨0, 0, 0, 0, [], .nils, 0, 0, [], [], [], .nils, SlOf.nils _ _, by simp, SlOf.nils _ _, by simp⟩⟩
theorem idx_range {α : Type} (pr : α → Bool) : ∀ (l : List α) (k : Nat), idx pr k l < 1 ∨ ((k : Int) ≤ idx pr k l ∧ idx pr k l < (k + l.length : Nat))
 | [], k => .inl (by simp [-bind_some, idx])
 | x :: r, k => by
  unfold idx
  split
  ·exact .inr ⟨Int.le_refl _, by simp; omega⟩
  ·rcases idx_range pr r (k + 1) with h | ⟨h1, h2⟩
   ·exact .inl h
   ·exact .inr ⟨by omega, by simp at h2 ⊢; omega⟩
theorem s1003 (i : It) (n : Int) (h : Hp) (hl : i.e.ls.length ≤ 1000000) : ∃ j, R fn1003 [.agg (itr i), .int .i64 n] h = some (.tup [.agg (itr j), .bool (decide (¬ idx (fun l => decide (l.off = n)) 1 (i.e.ls.drop 1) < 1))], h) ∧ (if idx (fun l => decide (l.off = n)) 1 (i.e.ls.drop 1) < 1 then j = it0 else CutOf i n (idx (fun l => decide (l.off = n)) 1 (i.e.ls.drop 1)).toNat j) := by
 generalize hkk : idx (fun l : Lin => decide (l.off = n)) 1 (i.e.ls.drop 1) = kk
 suffices Wp (R fn1003 [.agg (itr i), .int .i64 n] h) (fun p => p.2 = h ∧ ∃ j, p.1 = .tup [.agg (itr j), .bool (decide (¬ kk < 1))] ∧ (if kk < 1 then j = it0 else CutOf i n kk.toNat j)) by
  obtain ⟨⟨x, h'⟩, h1, rfl, j, rfl, h2⟩ := this
  exact ⟨j, h1, h2⟩
 rw [e1003]
 simp only [F1003, bs, Option.bind_assoc]
 rw [wBox_agg ty74 11 h (itr i) rfl (by omega)]
 generalize hg0 : dNew h ty74 11 [itr i] = g0
 have hgl : g0.length = h.length + 1 := by simp [-bind_some, ← hg0, dNew]
 have hb : ∀ q, q < h.length → g0[q]? = h[q]? := fun q hq => by simp only [← hg0, dNew]; rw [List.getElem?_append_left hq]
 have p8 : g0[h.length]? = some (.row ty74 11 [itr i]) := by simp [-bind_some, ← hg0, dNew]
 clear hg0
 simp only [bs, hgl]
 generalize hg1 : dNew g0 ty74 11 [[.str [], .int .i64 0, .int .i64 0, .int .i64 0, .int .i64 0, .nils, .int .i64 0, .int .i64 0, .str [], .str [], .nils]] = g1
 have hgl1 : g1.length = h.length + 2 := by simp [-bind_some, ← hg1, dNew, hgl]
 have hb1 : ∀ q, q < h.length + 1 → g1[q]? = g0[q]? := fun q hq => by simp only [← hg1, dNew]; rw [List.getElem?_append_left (by omega)]
 have p9 : g1[h.length + 1]? = some (.row ty74 11 [[.str [], .int .i64 0, .int .i64 0, .int .i64 0, .int .i64 0, .nils, .int .i64 0, .int .i64 0, .str [], .str [], .nils]]) := by
  simp only [← hg1, dNew]; rw [← hgl, List.getElem?_append_right (Nat.le_refl _)]; simp [-bind_some]
 replace p8 := (hb1 h.length (by omega)).trans p8
 replace hb : ∀ q, q < h.length → g1[q]? = h[q]? := fun q hq => (hb1 q (by omega)).trans (hb q hq)
 clear hg1 hb1 hgl
 have r8 : g1.row h.length 0 = some [.str i.r, .int .i64 i.e.a0, .int .i64 i.e.a1, .int .i64 i.e.a2, .int .i64 i.e.a3, i.e.ld, .int .i64 i.e.a5, .int .i64 i.e.a6, .str i.e.s7, .str i.e.s8, i.e.fd] := row_of p8
 simp only [fap74_1, fap31_4, bs, ldp28, r8, List.drop_succ_cons, List.drop_zero, List.head?_cons, Nat.zero_add]
 refine Wp.loop (fun k ds g => g = g1 ∧ ∃ a b c, ∃ m : Nat, ds = [a, .int .i64 m, b, c] ∧ k + m = i.e.ls.length + 1 ∧ 1 ≤ m ∧ idx (fun l : Lin => decide (l.off = n)) m (i.e.ls.drop m) = kk)
   (fun x => (x.1 = .ext 0 ∧ x.2.2 = g1 ∧ kk < 1) ∨ (x.1 = .ret ∧ nth 0 x.2.1 = .bool true ∧ ¬ kk < 1 ∧ ∃ x1, Own x.2.2 h.length ty78 3 ((i.e.ls.drop kk.toNat).map linr) x1 ∧ x.2.2[h.length + 1]? = some (.row ty74 11 [[.str i.r, .int .i64 i.e.a0, .int .i64 i.e.a1, .int .i64 n, .int .i64 i.e.a3, x1, .int .i64 i.e.a5, .int .i64 i.e.a6, .str i.e.s7, .str i.e.s8, i.e.fd]]) ∧ h.length ≤ x.2.2.length ∧ ∀ q, q < h.length → x.2.2[q]? = h[q]?)) i.e.ls.length ⟨rfl, _, _, _, 1, rfl, rfl, Nat.le_refl _, hkk⟩ ?_ ?_
 ·rintro k ds g ⟨rfl, a, b, c, m, rfl, hk, hm1, hidx⟩
  simp only [F1003_L0, nth_zero, nth_succ, bs, Option.bind_assoc, lens28 i.e.hld, dBin_lss]
  refine Wp.dif ?_ ?_
  ·intro h0
   have h0 : m < i.e.ls.length := by have : (m : Int) < i.e.ls.length := by simpa using h0
                                     omega
   have hg : i.e.ls[m]? = some i.e.ls[m] := List.getElem?_eq_getElem h0
   have hw : IntKind.wrap .i64 ((m : Int) + 1) = ((m + 1 : Nat) : Int) := by
    rw [wrap_i64 (by omega) (by omega)]; omega
   rw [List.drop_eq_getElem_cons h0] at hidx
   generalize i.e.ls[m] = x at hg hidx
   simp only [ixs28 i.e.hld, Int.natCast_nonneg, if_true, Int.toNat_natCast, hg, Option.map_some, bs, linr, fa78_0, ld3, dBin_eql]
   refine Wp.dif ?_ ?_
   ·intro hx
    have hkm : kk = m := by
     rw [← hidx]
     unfold idx
     rw [if_pos hx]
    obtain ⟨y1, hs1, hy1⟩ := slof_lo (T := tab) (t := ty28) (i := ti28) (j := ti78) (id rfl) (id rfl) (id rfl) (id rfl) i.e.hld (k := .i64) (n := (m : Int)) (by omega) (by omega)
    simp only [hs1, bs]
    refine wap28 (n0 := h.length) (by omega) (Own.nils _ _ _ _) (slof_rows _ hy1) (by simp; omega) fun x1 g2 ow1 len1 bel1 bel2 hnew => ?_
    rw [List.nil_append] at ow1
    replace p8 := (bel2 h.length (by omega) (by rintro ⟨_, _, hh⟩; cases hh)).trans p8
    replace p9 := (bel2 (h.length + 1) (by omega) (by rintro ⟨_, _, hh⟩; cases hh)).trans p9
    simp only [fap74_1, fap31_2, fap31_4, Nat.zero_add, bs]
    refine wst3 p8 (by rfl) (by rfl) (by simp [-bind_some, itr, evr]) (by rfl) fun g3 q8 t2 => ?_
    have oc := one_cells (own_one ow1)
    refine wst28 q8 (by rfl) (by rw [oc.1]; rfl) (by simp [-bind_some, spl, cells1, itr, evr]) oc.2 fun g4 q8' t3 => ?_
    rw [oc.1] at q8'
    replace q8 : g4[h.length]? = some (.row ty74 11 [[.str i.r, .int .i64 i.e.a0, .int .i64 i.e.a1, .int .i64 n, .int .i64 i.e.a3, x1, .int .i64 i.e.a5, .int .i64 i.e.a6, .str i.e.s7, .str i.e.s8, i.e.fd]]) := q8'
    replace t2 := t2.trans t3
    replace p9 := (t2.2 (h.length + 1) (by omega)).trans p9
    simp only [ldob11 q8 rfl, bs]
    refine wst74 p9 (by rfl) (by rfl) (by simp) (by rfl) fun g5 q9 t5 => ?_
    replace q9 : g5[h.length + 1]? = some (.row ty74 11 [[.str i.r, .int .i64 i.e.a0, .int .i64 i.e.a1, .int .i64 n, .int .i64 i.e.a3, x1, .int .i64 i.e.a5, .int .i64 i.e.a6, .str i.e.s7, .str i.e.s8, i.e.fd]]) := q9
    have ow2 : Own g5 h.length ty78 3 ((i.e.ls.drop kk.toNat).map linr) x1 := by
     subst hkm
     refine ow1.keep fun q hq hin => ?_
     have hqq : g.length ≤ q := by
      rcases hnew q hin with hh | hh
      ·obtain ⟨_, _, hh⟩ := hh
       cases hh
      ·exact hh
     exact (t5.2 q (by omega)).trans (t2.2 q (by omega))
    refine .some (.inr ⟨by simp, .inr ⟨rfl, rfl, by omega, x1, ow2, q9, ?_, fun q hq => ?_⟩⟩)
    ·show h.length ≤ g5.length
     have := t2.1; have := t5.1; omega
    ·exact (((t5.2 q (by omega)).trans (t2.2 q (by omega))).trans (bel1 q hq)).trans (hb q hq)
   ·intro hx
    have hx : ¬ decide (x.off = n) = true := by simp [-bind_some, hx]
    unfold idx at hidx
    rw [if_neg hx] at hidx
    simp only [dBin_add, bs, hw]
    exact .some (.inl ⟨rfl, k - 1, by omega, rfl, _, _, _, m + 1, rfl, by omega, by omega, hidx⟩)
  ·intro h0
   have h0 : i.e.ls.length ≤ m := by have : ¬ (m : Int) < i.e.ls.length := by simpa using h0
                                     omega
   rw [List.drop_of_length_le h0] at hidx
   have : kk = -1 := hidx.symm
   exact .some (.inr ⟨by simp, .inl ⟨rfl, rfl, by omega⟩⟩)
 ·rintro ⟨ex, ds, g⟩ hp
  rcases hp with ⟨h1, h2, hlt⟩ | ⟨h1, h2, hlt, x1, ow, q9, hgl, hgq⟩
  ·simp only at h1 h2
   subst h1; subst h2
   simp only [unblk_self, toEnd_nrm, bd74_, bs]
   refine wst74 p9 (by rfl) (by rfl) (by simp) (by rfl) fun g2 q9 s2 => ?_
   replace q9 : g2[h.length + 1]? = some (.row ty74 11 [itr it0]) := q9
   simp only [ldob11 q9 rfl, bs, mkRes_two]
   rw [scope_eq (d' := .tup [.agg (itr it0), .bool false]) (by rfl) (.tup _ fun d hd => by
    simp at hd
    rcases hd with rfl | rfl
    ·exact itr_ok _ _
    ·constructor) (by have := s2.1; omega) (fun q hq => (s2.2 q (by omega)).trans (hb q hq))]
   exact .some ⟨rfl, it0, by simp [-bind_some, hlt], by simp [-bind_some, hlt]⟩
  ·simp only at h1 h2 ow q9 hgl hgq
   subst h1
   simp only [unblk_ret, toEnd_ret, exEnd_ret, nth_zero, h2, ldob11 q9 rfl, bs, mkRes_two]
   have hsl := own_sl (n0 := h.length) (n := 1) ow (Nat.le_refl _) (fun a _ => linr_frz _ g _ a)
   have hfy : frz h.length g 2 i.e.fd = i.e.fd := slof_frz i.e.hfd (fun a _ => fld_frz _ g _ a)
   generalize hj : (⟨i.r, ⟨i.e.a0, i.e.a1, n, i.e.a3, i.e.ls.drop kk.toNat, frz h.length g 2 x1, i.e.a5, i.e.a6, i.e.s7, i.e.s8, i.e.fs, i.e.fd, i.e.hfd, i.e.hl, hsl, by have := i.e.hll; simp [-bind_some]; omega⟩⟩ : It) = j
   have hcut : CutOf i n kk.toNat j := by subst hj; exact ⟨rfl, rfl, rfl, rfl, rfl, rfl, rfl, rfl, rfl, rfl, rfl⟩
   rw [scope_eq (d' := .tup [.agg (itr j), .bool true]) (by subst hj; simp [-bind_some, itr, evr, hfy]) (.tup _ fun d hd => by
    simp at hd
    rcases hd with rfl | rfl
    ·exact itr_ok _ _
    ·constructor) hgl hgq]
   exact .some ⟨rfl, j, by simp [-bind_some, hlt], by simp [-bind_some, hlt]; exact hcut⟩
def inr (n : Int) : List D := [.int .i64 n]
def orI : List Int → Int
 | [] => 0
 | x :: r => if x = 0 then orI r else x
theorem l89 (l : List Int) (d : D) (h : Hp) (hd : SlOf 1 inr l d) (hl : l.length ≤ 9223372036854775807) {β : Type} (K : Out → Option β) (X : Int → Option β)
   (hX : ∀ v r, K (.ret, .int .i64 v :: r, h) = X v) (hY : ∀ r, K (.ext 0, r, h) = X 0) : ∀ (suf pre : List Int), l = pre ++ suf → ∀ n : Int, n = pre.length → ∀ a b e f,
   (loopW (F89_L0 (.int .i64 0) d (.int .i64 l.length)) [a, b, .int .i64 n, e, f] h).bind K = X (orI suf) := by
 intro suf
 induction suf with
 | nil =>
  rintro pre rfl n rfl a b e f
  rw [loopW_eq]
  simp [-bind_some, F89_L0, hY, orI]
 | cons p suf ih =>
  rintro pre rfl n rfl a b e f
  have hw : IntKind.wrap .i64 ((pre.length : Int) + 1) = (pre ++ [p]).length := by
   rw [wrap_i64 (by omega) (by simp at hl; omega)]; simp [-bind_some]
  have hlt : (pre.length : Int) < (pre ++ p :: suf).length := by simp; omega
  rw [loopW_eq]
  generalize hL : pre ++ p :: suf = L at *
  have hg : L[pre.length]? = some p := by rw [← hL]; exact get_mid _ _ _
  by_cases hp : p = 0
  ·subst hp
   have := ih (pre ++ [0]) (by simp [-bind_some, ← hL]) _ rfl a (.int .i64 0) (.bool true) (.bool false)
   simp only [← hw] at this
   simp [-bind_some, F89_L0, ixs82 hd, hlt, hg, inr, orI]
   exact this
  ·simp [-bind_some, F89_L0, ixs82 hd, hlt, hg, inr, hp, hX, orI]
theorem s89 (l : List Int) (d : D) (h : Hp) (hd : SlOf 1 inr l d) (hl : l.length ≤ 9223372036854775807) : R fn89 [d] h = some (.int .i64 (orI l), h) := by
 rw [e89]
 simp only [F89, bs, lens82 hd, Option.bind_assoc]
 rw [l89 l d h hd hl _ (fun v => some (.int .i64 v, h)) (fun v r => by simp) (fun r => by simp) l [] rfl 0 rfl]
structure Mrk where
 h : Int
 f : Int
 o : Int
 deriving DecidableEq
def mrkr (m : Mrk) : List D := [.int .i64 m.h, .int .i64 m.f, .int .i64 m.o]
theorem mrkr_ld (m : Mrk) (h : Hp) : dLoad tab h ty1006 (.fptr (mrkr m)) = some (.agg (mrkr m)) := id rfl
def cmpM (a b : Mrk) : Int := orI [cmpI a.h b.h, cmpI a.f b.f]
theorem s1017 (a b : Mrk) (h : Hp) : R fn1017 [.agg (mrkr a), .agg (mrkr b)] h = some (.int .i64 (cmpM a b), h) := by
 have hb : ∀ n0 n1 : Int, pLitF tab ty82 2 [0, 1] [.int .i64 n0, .int .i64 n1] = some (.sl 1 true ([n0, n1].map inr)) := fun n0 n1 => id rfl
 have h89 := s89 [cmpI a.h b.h, cmpI a.f b.f] (.sl 1 true [inr (cmpI a.h b.h), inr (cmpI a.f b.f)]) h (SlOf.mk 1 inr [cmpI a.h b.h, cmpI a.f b.f] true) (by simp)
 rw [e1017]
 simp [-bind_some, F1017, mrkr, s90, hb, h89, cmpM]
theorem s1016 (l : List Mrk) (d : D) (t : Mrk) (fn : D) (c : Mrk → Int) (h : Hp) (hd : SlOf 3 mrkr l d) (hl : l.length ≤ 1000000) (hf : ∀ x, callV R fn [.agg (mrkr x), .agg (mrkr t)] h = some (.int .i64 (c x), h))
   (k : Nat) (hk : k ≤ l.length) (h1 : ∀ i x, l[i]? = some x → i < k → c x < 0) (h2 : ∀ i x, l[i]? = some x → k ≤ i → 0 ≤ c x) :
   R fn1016 [d, .agg (mrkr t), fn] h = some (.tup [.int .i64 k, .bool (match l[k]? with | some x => decide (c x = 0) | none => false)], h) := by
 suffices Wp (R fn1016 [d, .agg (mrkr t), fn] h) (fun p => p = (.tup [.int .i64 k, .bool (match l[k]? with | some x => decide (c x = 0) | none => false)], h)) by
  obtain ⟨p, h1, rfl⟩ := this
  exact h1
 rw [e1016]
 simp only [F1016, pBoxF_agg, bs, Option.bind_assoc, lens1007 hd]
 refine Wp.loop (fun n ds g => g = h ∧ ∃ a b e, ∃ lo hi : Nat, ds = [.int .i64 lo, .int .i64 hi, a, b, e] ∧ lo ≤ k ∧ k ≤ hi ∧ hi ≤ l.length ∧ n = hi - lo)
   (fun x => x.1 = .ext 0 ∧ x.2.2 = h ∧ nth 0 x.2.1 = .int .i64 k) l.length ⟨rfl, _, _, _, 0, l.length, rfl, by omega, hk, Nat.le_refl _, rfl⟩ ?_ ?_
 ·rintro n ds g ⟨rfl, a, b, e, lo, hi, rfl, hlo, hhi, hle, rfl⟩
  simp only [F1016_L0, nth_zero, nth_succ, bs, Option.bind_assoc, dBin_lss]
  refine Wp.dif ?_ ?_
  ·intro h0
   have h0 : lo < hi := by have : (lo : Int) < hi := by simpa using h0
                           omega
   have hw : IntKind.wrap .i64 ((lo : Int) + hi) = ((lo + hi : Nat) : Int) := by
    rw [wrap_i64 (by omega) (by omega)]; omega
   have hw2 : IntKind.wrap .u64 ((lo + hi : Nat) : Int) = ((lo + hi : Nat) : Int) := by
    unfold IntKind.wrap
    simp [-bind_some, IntKind.signed, IntKind.bits, IntKind.min, IntKind.max]
    omega
   have hw3 : (((lo + hi : Nat) : Int)).fdiv (2 ^ (min (Int.toNat 1) IntKind.u64.bits)) = (((lo + hi) / 2 : Nat) : Int) := by
    rw [show (2 : Int) ^ (min (Int.toNat 1) IntKind.u64.bits) = 2 by decide]
    rw [Int.fdiv_eq_ediv_of_nonneg _ (by omega)]
    omega
   have hw4 : IntKind.wrap .i64 (((lo + hi) / 2 : Nat) : Int) = (((lo + hi) / 2 : Nat) : Int) := wrap_i64 (by omega) (by omega)
   have hw5 : IntKind.wrap .i64 ((((lo + hi) / 2 : Nat) : Int) + 1) = (((lo + hi) / 2 + 1 : Nat) : Int) := by
    rw [wrap_i64 (by omega) (by omega)]; omega
   have hm : (lo + hi) / 2 < l.length := by omega
   have hm1 : lo ≤ (lo + hi) / 2 := by omega
   have hm2 : (lo + hi) / 2 < hi := by omega
   generalize (lo + hi) / 2 = mid at *
   have hg : l[mid]? = some l[mid] := List.getElem?_eq_getElem hm
   generalize l[mid] = x at hg
   simp only [dBin_add, hw, cv3_134, cv134_3, bs, hw2, dBin_shr, show ¬ (1 : Int) < 0 by omega, if_false, hw3, hw4, ixs1007 hd, Int.natCast_nonneg, if_true, Int.toNat_natCast, hg, Option.map_some, mrkr_ld, hf, dBin_lss]
   by_cases hc : c x < 0
   ·have hkm : mid < k := by
      rcases Nat.lt_or_ge mid k with hh | hh
      ·exact hh
      ·have := h2 mid x hg hh
       omega
    simp only [hc, decide_true, dIf_bool, if_true, bs, hw5, unblk_nrm, nth_zero, nth_succ]
    exact .some (.inl ⟨rfl, hi - (mid + 1), by omega, rfl, _, _, _, mid + 1, hi, rfl, by omega, hhi, hle, rfl⟩)
   ·have hkm : k ≤ mid := by
      rcases Nat.lt_or_ge mid k with hh | hh
      ·exact absurd (h1 mid x hg hh) hc
      ·exact hh
    simp only [hc, decide_false, dIf_bool, Bool.false_eq_true, if_false, bs, unblk_nrm, nth_zero, nth_succ]
    exact .some (.inl ⟨rfl, mid - lo, by omega, rfl, _, _, _, lo, mid, rfl, hlo, hkm, by omega, rfl⟩)
  ·intro h0
   have h0 : lo = k := by have : ¬ (lo : Int) < hi := by simpa using h0
                          omega
   subst h0
   exact .some (.inr ⟨by simp, rfl, rfl, rfl⟩)
 ·rintro ⟨ex, ds, g⟩ ⟨q1, q2, q3⟩
  simp only at q1 q2 q3
  subst q1; subst q2
  simp only [unblk_self, toEnd_nrm, nth_zero, q3, bs, dBin_lss]
  by_cases hkl : k < l.length
  ·have hg : l[k]? = some l[k] := List.getElem?_eq_getElem hkl
   have hlt : (k : Int) < l.length := by omega
   generalize l[k] = x at hg
   simp only [hlt, decide_true, gd_bool, if_true, bs, ixs1007 hd, Int.natCast_nonneg, Int.toNat_natCast, hg, Option.map_some, mrkr_ld, gdW_bool, hf, dBin_eql, dPick_bool, mkRes_two]
   exact .some rfl
  ·have hg : l[k]? = none := List.getElem?_eq_none (by omega)
   have hlt : ¬ (k : Int) < l.length := by omega
   simp only [hlt, decide_false, gd_bool, Bool.false_eq_true, if_false, bs, gdW_bool, dPick_bool, mkRes_two, hg]
   exact .some rfl
theorem s1013 (l : List Mrk) (d : D) (hst fil : Int) (h : Hp) (hd : SlOf 3 mrkr l d) (hl : l.length ≤ 1000000)
   (k : Nat) (hk : k ≤ l.length) (h1 : ∀ i x, l[i]? = some x → i < k → cmpM x ⟨hst, fil, 0⟩ < 0) (h2 : ∀ i x, l[i]? = some x → k ≤ i → 0 ≤ cmpM x ⟨hst, fil, 0⟩) :
   R fn1013 [d, .int .i64 hst, .int .i64 fil] h = some (.tup [.int .i64 k, .bool (match l[k]? with | some x => decide (cmpM x ⟨hst, fil, 0⟩ = 0) | none => false)], h) := by
 have hb : dBuild tab ty1006 [0, 1] [.int .i64 hst, .int .i64 fil] = some (.agg (mrkr ⟨hst, fil, 0⟩)) := id rfl
 rw [e1013]
 simp only [F1013, bs, hb, Option.bind_assoc]
 rw [s1016 l d ⟨hst, fil, 0⟩ (.fn (.func fn1017) [] []) (fun x => cmpM x ⟨hst, fil, 0⟩) h hd hl (fun x => by rw [callV_some]; exact s1017 x _ h) k hk h1 h2]
 rfl
theorem s1001 (h : Hp) : R fn1001 [] h = some (.bool true, h) := by
 have h1 : dBuild tab ty1006 [0, 1, 2] [.int .i64 1, .int .i64 2, .int .i64 3] = some (.agg (mrkr ⟨1, 2, 3⟩)) := id rfl
 have h2 : pLitF tab ty1007 1 [0] [.agg (mrkr ⟨1, 2, 3⟩)] = some (.sl 3 true ([(⟨1, 2, 3⟩ : Mrk)].map mrkr)) := id rfl
 have h3 := s1013 [⟨1, 2, 3⟩] (.sl 3 true ([(⟨1, 2, 3⟩ : Mrk)].map mrkr)) 1 2 h (SlOf.mk _ _ _ _) (by simp) 0 (by simp) (fun i x _ hi => by omega) (fun i x hx _ => by
  cases i with
  | zero => simp at hx; subst hx; decide
  | succ i => simp at hx)
 have h4 : (match [(⟨1, 2, 3⟩ : Mrk)][0]? with | some x => decide (cmpM x ⟨1, 2, 0⟩ = 0) | none => false) = true := by decide
 rw [h4] at h3
 have h5 : ∀ d : D, d.one = true → dBuild tab ty1009 [0] [d] = some (.agg [d, .nils]) := fun d h0 => bd1009_0 d h0
 have h6 : ∀ d : D, pBoxF (.agg [d, .nils]) = some (.fptr [d, .nils]) := fun d => id rfl
 have h7 : dLoad tab h ty3 (.fptr [.int .i64 3]) = some (.int .i64 3) := id rfl
 rw [e1001]
 simp only [F1001, bs, h1, h2, h5 _ (show D.one (.sl 3 true ([(⟨1, 2, 3⟩ : Mrk)].map mrkr)) = true from rfl), e1005, F1005, pBoxF_agg, fa1009_0, ld1007, h3, dExtract_tup, List.getElem?_cons_zero, List.getElem?_cons_succ, dIf_bool, if_true, ixs1007 (SlOf.mk 3 mrkr [(⟨1, 2, 3⟩ : Mrk)] true), Option.map_some, mkRes_one, Int.natCast_nonneg, Int.toNat_natCast, Option.bind_assoc]
 simp [-bind_some, mrkr]
theorem asc_of {l : List (Str × Str)} (h : (l.map (·.1)).Sublist lt98_9) : Asc l := by
 have hp : lt98_9.Pairwise fun a b => Op.bytesLess a b = true ∧ a ≠ b := by decide
 have := hp.sublist h
 rw [List.pairwise_iff_getElem] at this
 intro i p q h1 h2
 obtain ⟨g1, h1⟩ := List.getElem?_eq_some_iff.1 h1
 obtain ⟨g2, h2⟩ := List.getElem?_eq_some_iff.1 h2
 have := this i (i + 1) (by simpa using g1) (by simpa using g2) (by omega)
 simpa [-bind_some, h1, h2] using this
theorem fn_of {l : List (Str × Str)} (h : (l.map (·.1)).Sublist lt98_9) : ∀ p ∈ l, fnameOK p.1 = true ∧ p.1.length ≤ 1000 := by
 intro p hp
 have hm : p.1 ∈ lt98_9 := h.subset (List.mem_map.2 ⟨p, hp, rfl⟩)
 exact (show ∀ s ∈ lt98_9, fnameOK s = true ∧ s.length ≤ 1000 by decide) _ hm
theorem new_get (g : Hp) (T z : Nat) (rows : List (List D)) : (dNew g T z rows)[g.length]? = some (.row T z rows) := by simp [-bind_some, dNew]
theorem new_old (g : Hp) (T z : Nat) (rows : List (List D)) {q : Nat} (hq : q < g.length) : (dNew g T z rows)[q]? = g[q]? := by
 simp only [dNew]; rw [List.getElem?_append_left hq]
theorem new_len (g : Hp) (T z : Nat) (rows : List (List D)) : (dNew g T z rows).length = g.length + 1 := by simp [-bind_some, dNew]
theorem s1051 (n lo hi : Int) (h : Hp) : R fn1051 [.int .i64 n, .int .i64 lo, .int .i64 hi] h = some (.bool (decide (lo ≤ n) && decide (n ≤ hi)), h) := by
 rw [e1051]
 by_cases h1 : lo ≤ n <;> simp [-bind_some, F1051, h1]
def plB (e : Ev) : Bool := (decide (0 ≤ e.a0) && decide (e.a0 ≤ 999)) && ((decide (0 ≤ e.a1) && decide (e.a1 ≤ 2147483646)) && (decide (0 ≤ e.a2) && (decide (e.a2 < e.a3) && decide (e.a3 ≤ 60000))))
theorem s1047 (e : Ev) (h : Hp) : R fn1047 [.agg (evr e)] h = some (.bool (plB e), h) := by
 rw [e1047]
 have k2 := s1051 e.a1 0 2147483646 h
 simp only [F1047, bs, pBoxF_agg, evr, fa31_0, fa31_1, fa31_2, fa31_3, ld3, s1051 e.a0, dBin_geq, dBin_gtr, dBin_leq, plB]
 generalize (decide (0 ≤ e.a0) && decide (e.a0 ≤ 999)) = b1
 generalize (decide (0 ≤ e.a1) && decide (e.a1 ≤ 2147483646)) = b2 at k2 ⊢
 generalize h3 : decide (0 ≤ e.a2) = b3
 generalize h4 : decide (e.a2 < e.a3) = b4
 generalize h5 : decide (e.a3 ≤ 60000) = b5
 cases b1 <;> cases b2 <;> cases b3 <;> cases b4 <;> cases b5 <;> simp [-bind_some, k2, h3, h4, h5]
def lnE (to_ most : Int) : Int → List Lin → Int
 | _, [] => 0
 | at_, l :: r => if l.off = at_ ∧ ¬ l.len < 1 ∧ ¬ IntKind.wrap .i64 (to_ - at_) < l.len ∧ ¬ (r = [] ∧ l.len < IntKind.wrap .i64 (to_ - at_)) then (if most < l.txt.length then 3 else lnE to_ most (IntKind.wrap .i64 (at_ + l.len)) r) else 19
def linesE (e : Ev) (most : Int) : Int := if e.ls.length = 0 then 9 else if 40 < e.ls.length then 4 else lnE e.a3 most e.a2 e.ls
theorem s1048 (e : Ev) (m : Int) (h : Hp) : R fn1048 [.agg (evr e), .int .i64 m] h = some (.int .i64 (linesE e m), h) := by
 suffices Wp (R fn1048 [.agg (evr e), .int .i64 m] h) (fun p => p = (.int .i64 (linesE e m), h)) by
  obtain ⟨p, h1, rfl⟩ := this
  exact h1
 have sc : ∀ (g : Hp) (v : Int), h.length ≤ g.length → (∀ q, q < h.length → g[q]? = h[q]?) → scope h g (.int .i64 v) = some (.int .i64 v, h) := fun g v h1 h2 => scope_eq (by simp) (.int _ _) h1 h2
 rw [e1048]
 simp only [F1048, pBoxF_agg, bs, Option.bind_assoc, evr, fa31_4, fa31_2, ld28, ld3, lens28 e.hld, dBin_eql, dBin_gtr, mkRes_one]
 by_cases g0 : e.ls.length = 0
 ·have g0' : (e.ls.length : Int) = 0 := by omega
  simp only [g0', decide_true, dIf_bool, if_true, sc h _ (Nat.le_refl _) (fun _ _ => rfl)]
  exact .some (by simp [-bind_some, linesE, g0])
 by_cases g4 : 40 < e.ls.length
 ·have g0' : ¬ (e.ls.length : Int) = 0 := by omega
  have g4' : (40 : Int) < (e.ls.length : Int) := by omega
  simp only [g0', g4', decide_true, decide_false, Bool.false_eq_true, if_false, dIf_bool, if_true, sc h _ (Nat.le_refl _) (fun _ _ => rfl)]
  exact .some (by simp [-bind_some, linesE, g0, g4])
 have g0' : ¬ (e.ls.length : Int) = 0 := by omega
 have g4' : ¬ (40 : Int) < (e.ls.length : Int) := by omega
 have hE : linesE e m = lnE e.a3 m e.a2 e.ls := by simp [-bind_some, linesE, g0, g4]
 rw [hE]
 generalize hV : lnE e.a3 m e.a2 e.ls = V
 simp only [g0', g4', decide_true, decide_false, Bool.false_eq_true, if_false, dIf_bool, if_true]
 refine Wp.loop (fun k ds g => h.length ≤ g.length ∧ (∀ q, q < h.length → g[q]? = h[q]?) ∧ ∃ a b c d f u v, ∃ at_ : Int, ∃ i : Nat, ds = [a, .int .i64 at_, b, c, d, .int .i64 i, f, u, v] ∧ k + i = e.ls.length ∧ lnE e.a3 m at_ (e.ls.drop i) = V)
   (fun x => h.length ≤ x.2.2.length ∧ (∀ q, q < h.length → x.2.2[q]? = h[q]?) ∧ ((x.1 = .ext 1 ∧ V = 0) ∨ (x.1 = .ret ∧ nth 0 x.2.1 = .int .i64 V))) e.ls.length ⟨Nat.le_refl _, fun _ _ => rfl, _, _, _, _, _, _, _, _, 0, rfl, rfl, hV⟩ ?_ ?_
 ·rintro k ds g ⟨hgl, hgb, a, b, c, d, f, u, v, at_, i, rfl, hk, hch⟩
  simp only [F1048_L0, nth_zero, nth_succ, bs, Option.bind_assoc, fa31_4, fa31_3, ld28, ld3, lens28 e.hld, dBin_lss]
  refine Wp.dif ?_ ?_
  ·intro h0
   have h0 : i < e.ls.length := by have : (i : Int) < e.ls.length := by simpa using h0
                                   omega
   have hg : e.ls[i]? = some e.ls[i] := List.getElem?_eq_getElem h0
   have hw : IntKind.wrap .i64 ((i : Int) + 1) = ((i + 1 : Nat) : Int) := by
    rw [wrap_i64 (by omega) (by omega)]; omega
   have hw4 : IntKind.wrap .i64 ((e.ls.length : Int) - 1) = (e.ls.length : Int) - 1 := wrap_i64 (by omega) (by omega)
   have hlast : (e.ls.drop (i + 1) = []) ↔ (i : Int) = (e.ls.length : Int) - 1 := by
    rw [List.drop_eq_nil_iff]; omega
   rw [List.drop_eq_getElem_cons h0] at hch
   generalize e.ls[i] = x at hg hch
   generalize hrest : e.ls.drop (i + 1) = rest at hch hlast
   simp only [ixs28 e.hld, Int.natCast_nonneg, if_true, Int.toNat_natCast, hg, Option.map_some, bs, linr_ld]
   generalize hg2 : dNew g ty78 3 [[.int .i64 0, .int .i64 0, .str []]] = g2
   have p1 : g2[g.length]? = some (.row ty78 3 [[.int .i64 0, .int .i64 0, .str []]]) := by rw [← hg2]; exact new_get _ _ _ _
   have hb2 : ∀ q, q < g.length → g2[q]? = g[q]? := fun q hq => by rw [← hg2]; exact new_old _ _ _ _ hq
   have hl2 : g2.length = g.length + 1 := by rw [← hg2]; exact new_len _ _ _ _
   clear hg2
   refine wst78 p1 (by rfl) (by rfl) (by simp) (by rfl) fun g3 p3 sg => ?_
   replace p3 : g3[g.length]? = some (.row ty78 3 [linr x]) := p3
   have hgl3 : h.length ≤ g3.length := by have := sg.1; omega
   have hgb3 : ∀ q, q < h.length → g3[q]? = h[q]? := fun q hq => ((sg.2 q (by omega)).trans (hb2 q (by omega))).trans (hgb q hq)
   clear p1 hb2 hl2 sg hgb
   have r3 : g3.row g.length 0 = some [.int .i64 x.off, .int .i64 x.len, .str x.txt] := row_of p3
   simp only [bs, fap78_0, fap78_1, fap78_2, Nat.zero_add, ldp3, ldp9, r3, List.drop_succ_cons, List.drop_zero, List.head?_cons, dBin_sub, hw4, dBin_eql, dBin_neq, len9, dBin_gtr, dBin_lss]
   unfold lnE at hch
   by_cases q1 : x.off = at_
   ·by_cases q2 : x.len < 1
    ·rw [if_neg (fun hh => hh.2.1 q2)] at hch
     simp only [q1, q2, ne_eq, not_true, decide_false, decide_true, gd_bool, if_true, if_false, Bool.false_eq_true, reduceCtorEq, bs, dPick_bool, dIf_bool, fa31_3, ld3, fap78_0, fap78_1, fap78_2, Nat.zero_add, ldp3, ldp9, r3, List.drop_succ_cons, List.drop_zero, List.head?_cons, dBin_sub, hw4, dBin_eql, dBin_neq, len9, dBin_gtr, dBin_lss]
     exact .some (.inr ⟨by simp, hgl3, hgb3, .inr ⟨rfl, by simp [-bind_some, hch]⟩⟩)
    ·by_cases q3 : IntKind.wrap .i64 (e.a3 - at_) < x.len
     ·rw [if_neg (fun hh => hh.2.2.1 q3)] at hch
      simp only [q1, q2, q3, ne_eq, not_true, decide_false, decide_true, gd_bool, if_true, if_false, Bool.false_eq_true, reduceCtorEq, bs, dPick_bool, dIf_bool, fa31_3, ld3, fap78_0, fap78_1, fap78_2, Nat.zero_add, ldp3, ldp9, r3, List.drop_succ_cons, List.drop_zero, List.head?_cons, dBin_sub, hw4, dBin_eql, dBin_neq, len9, dBin_gtr, dBin_lss]
      exact .some (.inr ⟨by simp, hgl3, hgb3, .inr ⟨rfl, by simp [-bind_some, hch]⟩⟩)
     ·by_cases hi : (i : Int) = (e.ls.length : Int) - 1
      ·have hid : decide ((i : Int) = (e.ls.length : Int) - 1) = true := by simpa using hi
       by_cases q4 : x.len < IntKind.wrap .i64 (e.a3 - at_)
       ·rw [if_neg (fun hh => hh.2.2.2 ⟨hlast.2 hi, q4⟩)] at hch
        simp only [q1, q2, q3, hid, ne_eq, not_true, not_false_eq_true, decide_false, decide_true, gd_bool, gd_und, if_true, if_false, Bool.false_eq_true, reduceCtorEq, bs, dPick_bool, dIf_bool, fa31_3, ld3, fap78_0, fap78_1, fap78_2, Nat.zero_add, ldp3, ldp9, r3, List.drop_succ_cons, List.drop_zero, List.head?_cons, dBin_sub, hw4, dBin_eql, dBin_neq, len9, dBin_gtr, dBin_lss, q4]
        exact .some (.inr ⟨by simp, hgl3, hgb3, .inr ⟨rfl, by simp [-bind_some, hch]⟩⟩)
       ·rw [if_pos ⟨q1, q2, q3, fun hh => q4 hh.2⟩] at hch
        by_cases q5 : m < (x.txt.length : Int)
        ·rw [if_pos q5] at hch
         simp only [q1, q2, q3, hid, ne_eq, not_true, not_false_eq_true, decide_false, decide_true, gd_bool, gd_und, if_true, if_false, Bool.false_eq_true, reduceCtorEq, bs, dPick_bool, dIf_bool, fa31_3, ld3, fap78_0, fap78_1, fap78_2, Nat.zero_add, ldp3, ldp9, r3, List.drop_succ_cons, List.drop_zero, List.head?_cons, dBin_sub, hw4, dBin_eql, dBin_neq, len9, dBin_gtr, dBin_lss, q4, q5]
         exact .some (.inr ⟨by simp, hgl3, hgb3, .inr ⟨rfl, by simp [-bind_some, hch]⟩⟩)
        ·rw [if_neg q5] at hch
         simp only [q1, q2, q3, hid, ne_eq, not_true, not_false_eq_true, decide_false, decide_true, gd_bool, gd_und, if_true, if_false, Bool.false_eq_true, reduceCtorEq, bs, dPick_bool, dIf_bool, fa31_3, ld3, fap78_0, fap78_1, fap78_2, Nat.zero_add, ldp3, ldp9, r3, List.drop_succ_cons, List.drop_zero, List.head?_cons, dBin_sub, hw4, dBin_eql, dBin_neq, len9, dBin_gtr, dBin_lss, q4, q5, dBin_add, hw]
         exact .some (.inl ⟨rfl, k - 1, by omega, hgl3, hgb3, _, _, _, _, _, _, _, _, i + 1, rfl, by omega, by rw [hrest]; exact hch⟩)
      ·rw [if_pos ⟨q1, q2, q3, fun hh => hi (hlast.1 hh.1)⟩] at hch
       have q4 : True := trivial
       by_cases q5 : m < (x.txt.length : Int)
       ·rw [if_pos q5] at hch
        simp only [q1, q2, q3, hi, ne_eq, not_true, not_false_eq_true, decide_false, decide_true, gd_bool, gd_und, if_true, if_false, Bool.false_eq_true, reduceCtorEq, bs, dPick_bool, dIf_bool, fa31_3, ld3, fap78_0, fap78_1, fap78_2, Nat.zero_add, ldp3, ldp9, r3, List.drop_succ_cons, List.drop_zero, List.head?_cons, dBin_sub, hw4, dBin_eql, dBin_neq, len9, dBin_gtr, dBin_lss, q4, q5]
        exact .some (.inr ⟨by simp, hgl3, hgb3, .inr ⟨rfl, by simp [-bind_some, hch]⟩⟩)
       ·rw [if_neg q5] at hch
        simp only [q1, q2, q3, hi, ne_eq, not_true, not_false_eq_true, decide_false, decide_true, gd_bool, gd_und, if_true, if_false, Bool.false_eq_true, reduceCtorEq, bs, dPick_bool, dIf_bool, fa31_3, ld3, fap78_0, fap78_1, fap78_2, Nat.zero_add, ldp3, ldp9, r3, List.drop_succ_cons, List.drop_zero, List.head?_cons, dBin_sub, hw4, dBin_eql, dBin_neq, len9, dBin_gtr, dBin_lss, q4, q5, dBin_add, hw]
        exact .some (.inl ⟨rfl, k - 1, by omega, hgl3, hgb3, _, _, _, _, _, _, _, _, i + 1, rfl, by omega, by rw [hrest]; exact hch⟩)
   ·rw [if_neg (fun hh => q1 hh.1)] at hch
    simp only [q1, ne_eq, not_false_eq_true, decide_false, decide_true, gd_bool, if_true, if_false, Bool.false_eq_true, reduceCtorEq, bs, dPick_bool, dIf_bool, fa31_3, ld3, fap78_0, fap78_1, fap78_2, Nat.zero_add, ldp3, ldp9, r3, List.drop_succ_cons, List.drop_zero, List.head?_cons, dBin_sub, hw4, dBin_eql, dBin_neq, len9, dBin_gtr, dBin_lss]
    exact .some (.inr ⟨by simp, hgl3, hgb3, .inr ⟨rfl, by simp [-bind_some, hch]⟩⟩)
  ·intro h0
   have h0 : ¬ i < e.ls.length := by have : ¬ (i : Int) < e.ls.length := by simpa using h0
                                     omega
   rw [List.drop_of_length_le (by omega)] at hch
   exact .some (.inr ⟨by simp, hgl, hgb, .inl ⟨rfl, hch.symm⟩⟩)
 ·rintro ⟨ex, ds, g⟩ ⟨h1, h2, hc⟩
  simp only at h1 h2 hc
  rcases hc with ⟨rfl, rfl⟩ | ⟨rfl, hc⟩
  ·simp only [unblk_self, toEnd_nrm, bs, mkRes_one, sc g 0 h1 h2]
   exact .some rfl
  ·simp only [unblk_ret, toEnd_ret, exEnd_ret, nth_zero, bs, hc, mkRes_one, sc g V h1 h2]
   exact .some rfl
def dn {α : Type} (c : α → α → Int) (a : Nat) : Nat → List α → List α
 | 0, l => l
 | j + 1, l => match l[j + 1]?, l[j]? with
  | some x, some y => if a < j + 1 ∧ c x y < 0 then dn c a j ((l.set (j + 1) y).set j x) else l
  | _, _ => l
theorem dn_len {α : Type} (c : α → α → Int) (a : Nat) : ∀ (j : Nat) (l : List α), (dn c a j l).length = l.length
 | 0, l => rfl
 | j + 1, l => by
  unfold dn
  split
  ·split
   ·rw [dn_len c a j]; simp [-bind_some]
   ·rfl
  ·rfl
def isr {α : Type} (c : α → α → Int) (a : Nat) : Nat → Nat → List α → List α
 | _, 0, l => l
 | i, n + 1, l => isr c a (i + 1) n (dn c a i l)
theorem isr_len {α : Type} (c : α → α → Int) (a : Nat) : ∀ (n i : Nat) (l : List α), (isr c a i n l).length = l.length
 | 0, i, l => rfl
 | n + 1, i, l => by
  unfold isr
  rw [isr_len c a n, dn_len]
theorem set_map_row {α : Type} (f : α → List D) (l : List α) (i : Nat) (x : α) : (l.map f).set i (f x) = (l.set i x).map f := by rw [List.map_set]
theorem ldob2 {h : Hp} {q k T z : Nat} {rows : List (List D)} {p : Str × Str} (hq : h[q]? = some (.row T z rows)) (hk : rows[k]? = some (fld p)) : dLoad tab h ty109 (.ptr q k 0) = some (.agg (fld p)) := by
 rw [ldp109, row_of hq, hk]
 rfl
theorem l1065 (c : Str × Str → Str × Str → Int) (cmp : D) (hc : ∀ x y g, callV R cmp [.agg (fld x), .agg (fld y)] g = some (.int .i64 (c x y), g)) (ob N a : Nat) (hN : N ≤ 1000000000) {β : Type} {K : Out → Option β} {Q : β → Prop}
  (l : List (Str × Str)) (hl : l.length = N) (j : Nat) (hj : j < N) (h : Hp) (ho : h[ob]? = some (.row ty109 2 (l.map fld))) (b : D)
  (k : ∀ x y h', h'[ob]? = some (.row ty109 2 ((dn c a j l).map fld)) → Same ob h h' → Wp (K (.ext 2, [x, y], h')) Q) :
  Wp ((loopW (F1065_L1 (.msl 2 ob 0 N) (.int .i64 a) cmp) [.int .i64 j, b] h).bind K) Q := by
 generalize hV : dn c a j l = V at k
 refine Wp.loop (fun n ds g => ∃ b, ∃ j : Nat, ∃ l' : List (Str × Str), n = j ∧ ds = [.int .i64 j, b] ∧ l'.length = N ∧ j < N ∧ g[ob]? = some (.row ty109 2 (l'.map fld)) ∧ Same ob h g ∧ dn c a j l' = V)
  (fun r => r.1 = .ext 2 ∧ (∃ x y, r.2.1 = [x, y]) ∧ r.2.2[ob]? = some (.row ty109 2 (V.map fld)) ∧ Same ob h r.2.2) j ⟨b, j, l, rfl, rfl, hl, hj, ho, .refl _ _, hV⟩ ?_ ?_
 ·clear ho hl hj hV l j
  rintro n ds g ⟨b, j, l, rfl, rfl, hl, hj, ho, sm, hV⟩
  simp only [F1065_L1, nth_zero, nth_succ, bs, Option.bind_assoc, dBin_gtr]
  cases n with
  | zero =>
   have hq : ¬ (a : Int) < ((0 : Nat) : Int) := by omega
   have hV : l = V := hV
   subst hV
   simp only [hq, decide_false, gd_bool, gdW_bool, Bool.false_eq_true, if_false, reduceCtorEq, bs, dPick_bool, dIf_bool]
   exact .some (.inr ⟨by simp, rfl, ⟨_, _, rfl⟩, ho, sm⟩)
  | succ j =>
   have g1 : l[j + 1]? = some l[j + 1] := List.getElem?_eq_getElem (by omega)
   have g0 : l[j]? = some l[j] := List.getElem?_eq_getElem (by omega)
   unfold dn at hV
   rw [g1, g0] at hV
   simp only at hV
   generalize l[j + 1] = x at g1 hV
   generalize l[j] = y at g0 hV
   by_cases ha : a < j + 1
   ·have ha' : (a : Int) < ((j + 1 : Nat) : Int) := by omega
    have hw : IntKind.wrap .i64 (((j + 1 : Nat) : Int) - 1) = (j : Int) := by
     rw [wrap_i64 (by omega) (by omega)]; omega
    have i1 : (0 : Int) ≤ ((j + 1 : Nat) : Int) ∧ ((j + 1 : Nat) : Int) < (N : Int) := by omega
    have i0 : (0 : Int) ≤ (j : Int) ∧ (j : Int) < (N : Int) := by omega
    have m1 : (l.map fld)[j + 1]? = some (fld x) := by rw [List.getElem?_map, g1]; rfl
    have m0 : (l.map fld)[j]? = some (fld y) := by rw [List.getElem?_map, g0]; rfl
    simp only [ha', decide_true, gd_bool, gdW_bool, if_true, ixm29, i1, i0, and_self, Nat.zero_add, Int.toNat_natCast, dBin_sub, hw, bs, ldob2 ho m1, ldob2 ho m0, hc, dBin_lss, dPick_bool]
    by_cases hlt : c x y < 0
    ·rw [if_pos ⟨ha, hlt⟩] at hV
     simp only [hlt, decide_true, dIf_bool, if_true]
     refine wst109 ho m1 (by rfl) (by simp [-bind_some, fld]) (by rfl) fun g2 p2 s2 => ?_
     rw [show spl (fld x) 0 (cells1 (.agg (fld y))) = fld y from id rfl, set_map_row] at p2
     have m2 : ((l.set (j + 1) y).map fld)[j]? = some (fld y) := by
      rw [List.getElem?_map, List.getElem?_set_ne (by omega), g0]; rfl
     try simp only [bs, i0, and_self, if_true, Nat.zero_add, Int.toNat_natCast]
     refine wst109 p2 m2 (by rfl) (by simp [-bind_some, fld]) (by rfl) fun g3 p3 s3 => ?_
     rw [show spl (fld y) 0 (cells1 (.agg (fld x))) = fld x from id rfl, set_map_row] at p3
     try simp only [bs]
     exact .some (.inl ⟨rfl, j, by omega, _, j, _, rfl, rfl, by simpa using hl, by omega, p3, (sm.trans s2).trans s3, hV⟩)
    ·rw [if_neg (fun hh => hlt hh.2)] at hV
     subst hV
     simp only [hlt, decide_false, dIf_bool, Bool.false_eq_true, if_false]
     exact .some (.inr ⟨by simp, rfl, ⟨_, _, rfl⟩, ho, sm⟩)
   ·rw [if_neg (fun hh => ha hh.1)] at hV
    subst hV
    have ha' : ¬ (a : Int) < ((j + 1 : Nat) : Int) := by omega
    simp only [ha', decide_false, gd_bool, gdW_bool, Bool.false_eq_true, if_false, reduceCtorEq, bs, dPick_bool, dIf_bool]
    exact .some (.inr ⟨by simp, rfl, ⟨_, _, rfl⟩, ho, sm⟩)
 ·rintro ⟨x, ds, g⟩ ⟨rfl, ⟨u, v, rfl⟩, h1, h2⟩
  exact k u v g h1 h2
theorem s1065 (c : Str × Str → Str × Str → Int) (cmp : D) (hc : ∀ x y g, callV R cmp [.agg (fld x), .agg (fld y)] g = some (.int .i64 (c x y), g)) (ob N a b : Nat) (hN : N ≤ 1000000000) (hab : a < b ∨ (a = b ∧ b ≤ N)) (hb : b ≤ N)
  (l : List (Str × Str)) (hl : l.length = N) (h : Hp) (ho : h[ob]? = some (.row ty109 2 (l.map fld))) :
  ∃ d h', R fn1065 [.msl 2 ob 0 N, .int .i64 a, .int .i64 b, cmp] h = some (d, h') ∧ h'[ob]? = some (.row ty109 2 ((isr c a (a + 1) (b - (a + 1)) l).map fld)) ∧ Same ob h h' := by
 suffices Wp (R fn1065 [.msl 2 ob 0 N, .int .i64 a, .int .i64 b, cmp] h) (fun p => p.2[ob]? = some (.row ty109 2 ((isr c a (a + 1) (b - (a + 1)) l).map fld)) ∧ Same ob h p.2) by
  obtain ⟨⟨x, h'⟩, h1, h2⟩ := this
  exact ⟨x, h', h1, h2⟩
 rw [e1065]
 have hw : IntKind.wrap .i64 ((a : Int) + 1) = ((a + 1 : Nat) : Int) := by rw [wrap_i64 (by omega) (by omega)]; omega
 simp only [F1065, bs, Option.bind_assoc, dBin_add, hw]
 generalize hV : isr c a (a + 1) (b - (a + 1)) l = V
 refine Wp.loop (fun n ds g => ∃ u v w, ∃ i : Nat, ∃ l' : List (Str × Str), ds = [.int .i64 i, u, v, w] ∧ n = b - i ∧ l'.length = N ∧ g[ob]? = some (.row ty109 2 (l'.map fld)) ∧ Same ob h g ∧ isr c a i (b - i) l' = V)
  (fun r => r.1 = .ext 0 ∧ r.2.2[ob]? = some (.row ty109 2 (V.map fld)) ∧ Same ob h r.2.2) (b - (a + 1)) ⟨_, _, _, a + 1, l, rfl, rfl, hl, ho, .refl _ _, hV⟩ ?_ ?_
 ·rintro n ds g ⟨u, v, w, i, l', rfl, rfl, hl', ho', sm, hV⟩
  simp only [F1065_L0, nth_zero, nth_succ, bs, Option.bind_assoc, dBin_lss]
  refine Wp.dif ?_ ?_
  ·intro h0
   have h0 : i < b := by have : (i : Int) < (b : Int) := by simpa using h0
                         omega
   have hb1 : b - i = (b - (i + 1)) + 1 := by omega
   rw [hb1] at hV
   unfold isr at hV
   have hw2 : IntKind.wrap .i64 ((i : Int) + 1) = ((i + 1 : Nat) : Int) := by rw [wrap_i64 (by omega) (by omega)]; omega
   refine l1065 c cmp hc ob N a hN l' hl' i (by omega) g ho' _ fun x y g2 p2 s2 => ?_
   simp only [unblk_self, unblk_nrm, toEnd_nrm, bs, nth_zero, dBin_add, hw2]
   exact .some (.inl ⟨rfl, b - (i + 1), by omega, _, _, _, i + 1, _, rfl, rfl, by rw [dn_len]; exact hl', p2, sm.trans s2, hV⟩)
  ·intro h0
   have h0 : ¬ i < b := by have : ¬ (i : Int) < (b : Int) := by simpa using h0
                           omega
   rw [show b - i = 0 by omega] at hV
   have hV : l' = V := hV
   subst hV
   exact .some (.inr ⟨by simp, rfl, ho', sm⟩)
 ·rintro ⟨x, ds, g⟩ ⟨rfl, h1, h2⟩
  simp only [unblk_self, exEnd_nrm, bs]
  exact .some ⟨h1, h2⟩
theorem cmpB_lt : ∀ (a b : Str), Lib.compareBytes a b < 0 ↔ Op.bytesLess a b = true
 | [], [] => by simp [-bind_some, Lib.compareBytes, Op.bytesLess]
 | [], _ :: _ => by simp [-bind_some, Lib.compareBytes, Op.bytesLess]
 | _ :: _, [] => by simp [-bind_some, Lib.compareBytes, Op.bytesLess]
 | x :: a, y :: b => by
  have ih := cmpB_lt a b
  simp only [Lib.compareBytes, Op.bytesLess]
  by_cases h1 : x < y
  ·simp [-bind_some, h1]
  ·by_cases h2 : y < x
   ·have h3 : ¬ x = y := fun hh => by subst hh; exact h1 h2
    simp [-bind_some, h1, h2, h3]
   ·have h3 : x = y := by
      apply UInt8.toNat_inj.1
      have := mt UInt8.lt_iff_toNat_lt.2 h1
      have := mt UInt8.lt_iff_toNat_lt.2 h2
      omega
    subst h3
    simp [-bind_some, h1, ih]
def cF (x y : Str × Str) : Int := Lib.compareBytes x.1 y.1
theorem s1059 (a b : Str) (h : Hp) : R fn1059 [.str a, .str b] h = some (.int .i64 (Lib.compareBytes a b), h) := by
 rw [e1059]
 simp only [F1059, bs, e1064, F1064, xcmp, mkRes_one]
theorem s1058 (x y : Str × Str) (h : Hp) : R fn1058 [.agg (fld x), .agg (fld y)] h = some (.int .i64 (cF x y), h) := by
 rw [e1058]
 simp only [F1058, bs, pBoxF_agg, fld_f0, fld_l0, s1059, mkRes_one, cF]
theorem c1058 (x y : Str × Str) (h : Hp) : callV R (.fn (.func fn1058) [] []) [.agg (fld x), .agg (fld y)] h = some (.int .i64 (cF x y), h) := by
 rw [callV_some]; exact s1058 x y h
theorem ixA (cs : List D) (i : Int) (h0 : 0 ≤ i) (h1 : i < 256) (hl : i.toNat < cs.length) : dIndexAddr tab ty1044 (.fptr cs) (.int .u8 i) = some (.fptr (cs.drop i.toNat)) := by
 have := ia_arr (T := tab) (t := ty1044) (n := 256) (z := 1) (i := ti1044) (j := ti5) (id rfl) (id rfl) (id rfl) (id rfl) (by omega) (cs := cs) (k := .u8) h0 h1 (by omega)
 rwa [Nat.mul_one] at this
theorem kinZ_len : kinZ.length = 256 := by decide
theorem kin_len : kin.length = 256 := by simp [-bind_some, kin, kinZ_len]
theorem kin_at (i : Nat) (hi : i < 256) : ∃ z, kin.drop i = .int .u8 z :: kin.drop (i + 1) ∧ kinZ[i]? = some z := by
 have hl := kinZ_len
 have hk := kin_len
 refine ⟨kinZ[i]'(by omega), ?_, List.getElem?_eq_getElem (by omega)⟩
 rw [List.drop_eq_getElem_cons (by omega)]
 simp [-bind_some, kin]
def kletter (z : Int) : Bool := decide (IntKind.wrap .u8 (BitVec.ofInt IntKind.u8.bits z &&& BitVec.ofInt IntKind.u8.bits 2).toNat ≠ 0)
def kword (z : Int) : Bool := decide (IntKind.wrap .u8 (BitVec.ofInt IntKind.u8.bits z &&& BitVec.ofInt IntKind.u8.bits 3).toNat ≠ 0)
theorem k_all : ∀ i : Fin 256, (kinZ[i.val]?).map kletter = some (letter i.val) ∧ (kinZ[i.val]?).map kword = some (digit i.val || letter i.val) := by decide
theorem s1061 (c : UInt8) (h : Hp) : R fn1061 [.int .u8 c.toNat] h = some (.bool (letter c.toNat), h) := by
 have hc : c.toNat < 256 := c.toNat_lt
 obtain ⟨z, hz, hg⟩ := kin_at c.toNat hc
 have hk := (k_all ⟨c.toNat, hc⟩).1
 simp only [hg, Option.map_some, Option.some.injEq] at hk
 have hl := kin_len
 rw [e1061]
 simp only [F1061, bs, ixA kin c.toNat (by omega) (by omega) (by rw [hl]; simpa using hc), Int.toNat_natCast, hz, ld5, dBin_and, dBin_neq, mkRes_one, ← hk, kletter]
theorem s1062 (c : UInt8) (h : Hp) : R fn1062 [.int .u8 c.toNat] h = some (.bool (wordc c.toNat), h) := by
 have hc : c.toNat < 256 := c.toNat_lt
 obtain ⟨z, hz, hg⟩ := kin_at c.toNat hc
 have hk := (k_all ⟨c.toNat, hc⟩).2
 simp only [hg, Option.map_some, Option.some.injEq] at hk
 have hl := kin_len
 rw [e1062]
 simp only [kword] at hk
 simp only [F1062, bs, ixA kin c.toNat (by omega) (by omega) (by rw [hl]; simpa using hc), Int.toNat_natCast, hz, ld5, dBin_and, dBin_neq, dBin_eql, wordc, hk]
 cases hq : (digit c.toNat || letter c.toNat) <;> simp [-bind_some]
theorem l1056 (s : Str) (h : Hp) (ob : Nat) (hob : h[ob]? = some (.row ty5 1 (bytesRows s))) (hl : s.length ≤ 9223372036854775807) {β : Type} (K : Out → Option β) (X : Bool → Option β) (hh : Hp)
   (hX : ∀ r, K (.ret, .bool false :: r, h) = X false) (hY : ∀ r, K (.ext 0, r, h) = X true) : ∀ (suf pre : Str), s = pre ++ suf → ∀ a b e f,
   (loopW (F1056_L0 (.msl 1 ob 0 s.length, hh) (.int .i64 s.length)) [a, b, .int .i64 pre.length, e, f] h).bind K = X (suf.all nameC) := by
 intro suf
 induction suf with
 | nil =>
  rintro pre rfl a b e f
  rw [loopW_eq]
  simp [-bind_some, F1056_L0, hY]
 | cons p suf ih =>
  rintro pre rfl a b e f
  have hw : IntKind.wrap .i64 ((pre.length : Int) + 1) = (pre ++ [p]).length := by
   rw [wrap_i64 (by omega) (by simp at hl; omega)]; simp [-bind_some]
  have hlt : (pre.length : Int) < (pre ++ p :: suf).length := by simp; omega
  rw [loopW_eq]
  generalize hL : pre ++ p :: suf = L at *
  have hg : (bytesRows L)[pre.length]? = some [.int .u8 p.toNat] := by rw [← hL]; simp [-bind_some, bytesRows]
  have hld : dLoad tab h ty5 (.ptr ob pre.length 0) = some (.int .u8 p.toNat) := by
   rw [ldp5, row_of hob, hg]; rfl
  have h0 : (0 : Int) ≤ (pre.length : Int) ∧ (pre.length : Int) < (L.length : Int) := ⟨by omega, hlt⟩
  cases hp : wordc p.toNat
  ·by_cases h46 : (p.toNat : Int) = 46
   ·have := ih (pre ++ [p]) (by simp [-bind_some, ← hL]) a (.int .u8 p.toNat) (.bool true) (.bool false)
    simp only [← hw] at this
    have h47 : wordc 46 = false := rfl
    have hs := s1062 p h
    rw [hp] at hs
    have hpn : nameC p = true := by simp [-bind_some, nameC, hp, h46]
    have hn : decide ((p.toNat : Int) ≠ 46) = false := by simp [-bind_some, h46]
    simp only [F1056_L0, nth_zero, nth_succ, bs, dBin_lss, hlt, decide_true, dIf_bool, if_true, ixm22, h0, and_self, Nat.zero_add, Int.toNat_natCast, hld, hs, dUn_not, Bool.not_false, gd_bool, dBin_neq, hn, dPick_bool, Bool.false_eq_true, if_false, dBin_add, List.all_cons, hpn, Bool.true_and]
    exact this
   ·have hs := s1062 p h
    rw [hp] at hs
    have hpn : nameC p = false := by simp [-bind_some, nameC, hp, h46]
    have hn : decide ((p.toNat : Int) ≠ 46) = true := by simp [-bind_some, h46]
    simp only [F1056_L0, nth_zero, nth_succ, bs, dBin_lss, hlt, decide_true, dIf_bool, if_true, ixm22, h0, and_self, Nat.zero_add, Int.toNat_natCast, hld, hs, dUn_not, Bool.not_false, gd_bool, dBin_neq, hn, dPick_bool, List.all_cons, hpn, Bool.false_and, hX]
  ·have := ih (pre ++ [p]) (by simp [-bind_some, ← hL]) a (.int .u8 p.toNat) (.bool true) (.bool false)
   simp only [← hw] at this
   have hs := s1062 p h
   rw [hp] at hs
   have hpn : nameC p = true := by simp [-bind_some, nameC, hp]
   simp only [F1056_L0, nth_zero, nth_succ, bs, dBin_lss, hlt, decide_true, dIf_bool, if_true, ixm22, h0, and_self, Nat.zero_add, Int.toNat_natCast, hld, hs, dUn_not, Bool.not_true, gd_bool, Bool.false_eq_true, if_false, reduceCtorEq, dPick_bool, dBin_add, List.all_cons, hpn, Bool.true_and]
   exact this
theorem s1056 (s : Str) (h : Hp) : R fn1056 [.str s] h = some (.bool (fnameOK s), h) := by
 have sc : ∀ (g : Hp) (v : Bool), h.length ≤ g.length → (∀ q, q < h.length → g[q]? = h[q]?) → scope h g (.bool v) = some (.bool v, h) := fun g v h1 h2 => scope_eq (by simp) (.bool _) h1 h2
 rw [e1056]
 cases s with
 | nil =>
  simp only [F1056, bs, dBin_seql, beq_self_eq_true, gd_bool, gdW_bool, reduceCtorEq, if_false, dPick_bool, if_true, dIf_bool, mkRes_one, Bool.true_eq_false, sc h _ (Nat.le_refl _) (fun _ _ => rfl)]
  rfl
 | cons c r =>
  have hne : ((c :: r : Str) == []) = false := by simp
  by_cases h32 : (32 : Int) < ((c :: r).length : Int)
  ·have hf : fnameOK (c :: r) = false := by
     have : ¬ (c :: r).length ≤ 32 := by omega
     simp [-bind_some, fnameOK]
     intro hh; simp at this; omega
   simp only [F1056, bs, dBin_seql, hne, gd_bool, gdW_bool, if_true, len9, dBin_gtr, h32, decide_true, reduceCtorEq, if_false, dPick_bool, dIf_bool, mkRes_one, Bool.true_eq_false, Bool.false_eq_true, gd_und, gdW_und, sc h _ (Nat.le_refl _) (fun _ _ => rfl), hf]
  ·have hle : (c :: r).length ≤ 32 := by omega
   have hi0 := sidx (c :: r) 0 c rfl
   have hi0 : dIndex tab ty9 (.str (c :: r)) (.int .i64 0) = some (.int .u8 c.toNat) := hi0
   have hs := s1061 c h
   have hwb : wBytes ty5 h (.str (c :: r)) = some (.msl 1 h.length 0 (c :: r).length, dNew h ty5 1 (bytesRows (c :: r))) := if_pos (lim_ok (by omega) (by omega))
   have p1 := new_get h ty5 1 (bytesRows (c :: r))
   have hsc : ∀ v, scope h (dNew h ty5 1 (bytesRows (c :: r))) (.bool v) = some (.bool v, h) := fun v => sc _ _ (by rw [new_len]; omega) fun q hq => new_old _ _ _ _ hq
   have go : ∀ (b : Bool), (letter c.toNat || decide ((c.toNat : Int) = 95)) = b → fnameOK (c :: r) = (b && (c :: r).all nameC) := fun b hb => by
    simp only [fnameOK, hle, decide_true, Bool.true_and, hb]
   cases hq : letter c.toNat
   ·rw [hq] at hs
    by_cases h95 : (c.toNat : Int) = 95
    ·have hn95 : decide ((c.toNat : Int) ≠ 95) = false := by simp [-bind_some, h95]
     rw [go true (by simp [-bind_some, hq, h95])]
     simp only [F1056, bs, Option.bind_assoc, dBin_seql, hne, gd_bool, gdW_bool, if_true, len9, dBin_gtr, h32, decide_false, reduceCtorEq, if_false, dPick_bool, dIf_bool, Bool.false_eq_true, hi0, hs, dUn_not, Bool.not_false, dBin_neq, hn95, hwb, lenm22]
     have := l1056 (c :: r) (dNew h ty5 1 (bytesRows (c :: r))) h.length p1 (by omega) (fun r_1 => (some ((unblk 0 r_1.1), [(nth 0 r_1.2.1), (nth 1 r_1.2.1), (nth 2 r_1.2.1), (nth 3 r_1.2.1), (nth 4 r_1.2.1)], r_1.2.2)).bind fun r_2 => toEnd r_2.1 (scope h r_2.2.2 (.bool true)) fun x => exEnd x (scope h r_2.2.2 (mkRes [nth 0 r_2.2.1]))) (fun b => some (.bool b, h)) (dNew h ty5 1 (bytesRows (c :: r))) (fun r => by simp [-bind_some, hsc]) (fun r => by simp [-bind_some, hsc]) (c :: r) [] rfl (.bool false) .any .any .any
     simpa using this
    ·have hn95 : decide ((c.toNat : Int) ≠ 95) = true := by simp [-bind_some, h95]
     rw [go false (by simp [-bind_some, hq, h95])]
     simp only [F1056, bs, dBin_seql, hne, gd_bool, gdW_bool, if_true, len9, dBin_gtr, h32, decide_false, reduceCtorEq, if_false, dPick_bool, dIf_bool, Bool.false_eq_true, hi0, hs, dUn_not, Bool.not_false, dBin_neq, hn95, mkRes_one, sc h _ (Nat.le_refl _) (fun _ _ => rfl), Bool.false_and]
   ·rw [hq] at hs
    rw [go true (by simp [-bind_some, hq])]
    simp only [F1056, bs, Option.bind_assoc, dBin_seql, hne, gd_bool, gdW_bool, if_true, len9, dBin_gtr, h32, decide_false, reduceCtorEq, if_false, dPick_bool, dIf_bool, Bool.false_eq_true, hi0, hs, dUn_not, Bool.not_true, hwb, lenm22, gd_und]
    have := l1056 (c :: r) (dNew h ty5 1 (bytesRows (c :: r))) h.length p1 (by omega) (fun r_1 => (some ((unblk 0 r_1.1), [(nth 0 r_1.2.1), (nth 1 r_1.2.1), (nth 2 r_1.2.1), (nth 3 r_1.2.1), (nth 4 r_1.2.1)], r_1.2.2)).bind fun r_2 => toEnd r_2.1 (scope h r_2.2.2 (.bool true)) fun x => exEnd x (scope h r_2.2.2 (mkRes [nth 0 r_2.2.1]))) (fun b => some (.bool b, h)) (dNew h ty5 1 (bytesRows (c :: r))) (fun r => by simp [-bind_some, hsc]) (fun r => by simp [-bind_some, hsc]) (c :: r) [] rfl (.bool false) .any .any .any
    simpa using this
def RdF (h : Hp) (l : List (Str × Str)) (d : D) : Prop := SlOf 2 fld l d ∨ ∃ ob, d = .msl 2 ob 0 l.length ∧ h[ob]? = some (.row ty109 2 (l.map fld))
theorem rdF_len {h : Hp} {l : List (Str × Str)} {d : D} (hd : RdF h l d) : dLenT tab ty29 d = some (.int .i64 l.length) := by
 rcases hd with hd | ⟨ob, rfl, _⟩
 ·exact lens29 hd
 ·exact lenm29 _ _ _ _
theorem rdF_ix {h : Hp} {l : List (Str × Str)} {d : D} (hd : RdF h l d) (i : Nat) (p : Str × Str) (hp : l[i]? = some p) : ∃ q, dIndexAddr tab ty29 d (.int .i64 i) = some q ∧ dLoad tab h ty109 q = some (.agg (fld p)) ∧
  ∃ q0, dFieldAddr tab ty109 0 q = some q0 ∧ dLoad tab h ty9 q0 = some (.str p.1) := by
 have hi := (List.getElem?_eq_some_iff.1 hp).1
 rcases hd with hd | ⟨ob, rfl, ho⟩
 ·exact ⟨.fptr (fld p), by rw [ixs29 hd]; simp [-bind_some, hp], fld_ld p h, .fptr (fld p), fld_f0 p, fld_l0 p h⟩
 ·have hr : (l.map fld)[i]? = some (fld p) := by rw [List.getElem?_map, hp]; rfl
  have hh : (0 : Int) ≤ (i : Int) ∧ (i : Int) < (l.length : Int) := by omega
  refine ⟨.ptr ob i 0, by rw [ixm29]; simp [-bind_some, hh], ldob2 ho hr, .ptr ob i 0, by rw [fap109_0], ?_⟩
  rw [ldp9, row_of ho, hr]; rfl
theorem RdF.keep {h h' : Hp} {l : List (Str × Str)} {d : D} (hd : RdF h l d) (hk : ∀ (q T z : Nat) (rows : List (List D)), h[q]? = some (Ob.row T z rows) → h'[q]? = h[q]?) : RdF h' l d := by
 rcases hd with hd | ⟨ob, rfl, ho⟩
 ·exact .inl hd
 ·exact .inr ⟨ob, rfl, by rw [hk ob _ _ _ ho]; exact ho⟩
theorem u1009 (l : List (Str × Str)) (d : D) (h : Hp) (hd : SlOf 2 fld l d) (hl : l.length ≤ 1000000) : ∃ d' h', R fn1009 [d] h = some (d', h') ∧ h.length ≤ h'.length ∧ (∀ q, q < h.length → h'[q]? = h[q]?) ∧
  ((l = [] ∧ SlOf 2 fld [] d') ∨ ∃ ob, h.length ≤ ob ∧ d' = .msl 2 ob 0 l.length ∧ h'[ob]? = some (.row ty109 2 (l.map fld))) := by
 rw [e1009]
 rcases hd with ⟨rfl, rfl⟩ | ⟨b, rfl⟩
 ·exact ⟨.nils, h, by
    have hne : dBin tab .eql ty29 .nils .nils = some (.bool true) := id rfl
    simp [-bind_some, F1009, hne], Nat.le_refl _, fun _ _ => rfl, .inl ⟨rfl, .nils _ _⟩⟩
 ·obtain ⟨x', h', e, hl', hq, ho⟩ := app_full (T := tab) (t := ty29) (i := ti29) (j := ti109) (h := h) (id rfl) (id rfl) (id rfl) (by decide) (y := .sl 2 b (l.map fld)) (rowsOf_sl _ _ _ _) (lim_ok (by have : ti109.by_ = 32 := rfl; rw [this, List.length_map]; omega) (by rw [List.length_map]; omega))
  have e' : dAppend tab h ty29 ty29 (.sl 2 true []) (.sl 2 b (l.map fld)) = some (x', h') := e
  have hne : dBin tab .eql ty29 (.sl 2 b (l.map fld)) .nils = some (.bool false) := id rfl
  refine ⟨x', h', ?_, hl', hq, ?_⟩
  ·simp only [F1009, bs, hne, dIf_bool, Bool.false_eq_true, if_false, bs29_0, e', mkRes_one]
  ·rcases ho with ⟨rfl, hn⟩ | ⟨rfl, hn⟩ | ⟨ob, h1, rfl, h2⟩
   ·have : l = [] := by simpa using hn
    exact .inl ⟨this, .inr ⟨true, rfl⟩⟩
   ·have : l = [] := by simpa using hn
    exact .inl ⟨this, .nils _ _⟩
   ·exact .inr ⟨ob, h1, by rw [List.length_map]; rfl, h2⟩
def srt (l : List (Str × Str)) : List (Str × Str) := isr cF 0 1 (l.length - 1) l
theorem srt_len (l : List (Str × Str)) : (srt l).length = l.length := isr_len _ _ _ _ _
def adjB : List (Str × Str) → Bool
 | x :: y :: r => y.1 == x.1 || adjB (y :: r)
 | _ => false
def sortF (l : List (Str × Str)) : Int × List (Str × Str) := if 32 < l.length then (4, []) else if l.all (fun p => fnameOK p.1) = true then (if adjB (srt l) = true then (7, []) else (0, srt l)) else (6, [])
theorem l1052a (l : List (Str × Str)) (d : D) (h : Hp) (hd : SlOf 2 fld l d) (hl : l.length ≤ 1000) {β : Type} {K : Out → Option β} {Q : β → Prop} (a b c e f : D)
  (k1 : l.all (fun p => fnameOK p.1) = true → ∀ x y z w, Wp (K (.ext 0, [a, b, x, y, z, w], h)) Q) (k2 : ¬ l.all (fun p => fnameOK p.1) = true → ∀ x y z w, Wp (K (.ret, [.nils, .int .i64 6, x, y, z, w], h)) Q) :
  Wp ((loopW (F1052_L0 d (.int .i64 l.length)) [a, b, c, .int .i64 0, e, f] h).bind K) Q := by
 generalize hV : l.all (fun p => fnameOK p.1) = V at k1 k2
 refine Wp.loop (fun k ds g => g = h ∧ ∃ c e f, ∃ i : Nat, ds = [a, b, c, .int .i64 i, e, f] ∧ k + i = l.length ∧ (l.drop i).all (fun p => fnameOK p.1) = V)
   (fun x => x.2.2 = h ∧ ((x.1 = .ext 0 ∧ V = true ∧ ∃ p q r s, x.2.1 = [a, b, p, q, r, s]) ∨ (x.1 = .ret ∧ V = false ∧ ∃ p q r s, x.2.1 = [.nils, .int .i64 6, p, q, r, s]))) l.length ⟨rfl, _, _, _, 0, rfl, rfl, hV⟩ ?_ ?_
 ·rintro k ds g ⟨rfl, c, e, f, i, rfl, hk, hch⟩
  simp only [F1052_L0, nth_zero, nth_succ, bs, Option.bind_assoc, dBin_lss]
  refine Wp.dif ?_ ?_
  ·intro h0
   have h0 : i < l.length := by have : (i : Int) < l.length := by simpa using h0
                                omega
   have hg : l[i]? = some l[i] := List.getElem?_eq_getElem h0
   have hw : IntKind.wrap .i64 ((i : Int) + 1) = ((i + 1 : Nat) : Int) := by
    rw [wrap_i64 (by omega) (by omega)]; omega
   rw [List.drop_eq_getElem_cons h0] at hch
   generalize l[i] = x at hg hch
   have hbx : boxN 2 (.agg (fld x)) = some (.fptr (fld x)) := boxN_agg 2 _ rfl
   simp only [ixs29 hd, Int.natCast_nonneg, if_true, Int.toNat_natCast, hg, Option.map_some, bs, fld_ld, hbx, fld_f0 x, fld_l0, s1056, dUn_not]
   simp only [List.all_cons] at hch
   cases hf : fnameOK x.1
   ·rw [hf] at hch
    simp only [Bool.not_false, dIf_bool, if_true]
    exact .some (.inr ⟨by simp, rfl, .inr ⟨rfl, hch.symm, _, _, _, _, rfl⟩⟩)
   ·rw [hf] at hch
    simp only [Bool.not_true, dIf_bool, Bool.false_eq_true, if_false, dBin_add, bs, hw]
    exact .some (.inl ⟨rfl, k - 1, by omega, rfl, _, _, _, i + 1, rfl, by omega, hch⟩)
  ·intro h0
   have h0 : l.length ≤ i := by have : ¬ (i : Int) < l.length := by simpa using h0
                                omega
   rw [List.drop_of_length_le h0] at hch
   exact .some (.inr ⟨by simp, rfl, .inl ⟨rfl, hch.symm, _, _, _, _, rfl⟩⟩)
 ·rintro ⟨x, ds, g⟩ ⟨h2, h3⟩
  simp only at h2 h3
  subst h2
  rcases h3 with ⟨rfl, hv, p, q, r, s, rfl⟩ | ⟨rfl, hv, p, q, r, s, rfl⟩
  ·exact k1 hv _ _ _ _
  ·exact k2 (by rw [hv]; simp [-bind_some]) _ _ _ _
theorem l1052b (l : List (Str × Str)) (d : D) (h : Hp) (hd : RdF h l d) (hl : l.length ≤ 1000) {β : Type} {K : Out → Option β} {Q : β → Prop} (a b c e : D)
  (k1 : adjB l = false → ∀ x y z, Wp (K (.ext 2, [a, b, x, y, z], h)) Q) (k2 : adjB l = true → ∀ x y z, Wp (K (.ret, [.nils, .int .i64 7, x, y, z], h)) Q) :
  Wp ((loopW (F1052_L1 d) [a, b, .int .i64 1, c, e] h).bind K) Q := by
 generalize hV : adjB l = V at k1 k2
 refine Wp.loop (fun k ds g => g = h ∧ ∃ c e, ∃ i : Nat, ds = [a, b, .int .i64 ((i + 1 : Nat) : Int), c, e] ∧ k = l.length - i ∧ adjB (l.drop i) = V)
   (fun x => x.2.2 = h ∧ ((x.1 = .ext 2 ∧ V = false ∧ ∃ p q r, x.2.1 = [a, b, p, q, r]) ∨ (x.1 = .ret ∧ V = true ∧ ∃ p q r, x.2.1 = [.nils, .int .i64 7, p, q, r]))) l.length ⟨rfl, _, _, 0, rfl, rfl, hV⟩ ?_ ?_
 ·rintro k ds g ⟨rfl, c, e, i, rfl, hk, hch⟩
  simp only [F1052_L1, nth_zero, nth_succ, bs, Option.bind_assoc, rdF_len hd, dBin_lss]
  refine Wp.dif ?_ ?_
  ·intro h0
   have h0 : i + 1 < l.length := by have : ((i + 1 : Nat) : Int) < l.length := by simpa using h0
                                    omega
   have g1 : l[i + 1]? = some l[i + 1] := List.getElem?_eq_getElem h0
   have g0 : l[i]? = some l[i] := List.getElem?_eq_getElem (by omega)
   have hw : IntKind.wrap .i64 (((i + 1 : Nat) : Int) + 1) = ((i + 1 + 1 : Nat) : Int) := by
    rw [wrap_i64 (by omega) (by omega)]; omega
   have hw2 : IntKind.wrap .i64 (((i + 1 : Nat) : Int) - 1) = (i : Int) := by
    rw [wrap_i64 (by omega) (by omega)]; omega
   rw [List.drop_eq_getElem_cons (show i < l.length by omega), List.drop_eq_getElem_cons h0] at hch
   unfold adjB at hch
   rw [← List.drop_eq_getElem_cons h0] at hch
   generalize l[i + 1] = x at g1 hch
   generalize l[i] = y at g0 hch
   obtain ⟨q1, a1, _, r1, b1, c1⟩ := rdF_ix hd (i + 1) x g1
   obtain ⟨q0, a0, _, r0, b0, c0⟩ := rdF_ix hd i y g0
   simp only [a1, a0, b1, b0, c1, c0, bs, dBin_sub, hw2, dBin_seql]
   cases hf : (x.1 == y.1)
   ·rw [hf] at hch
    simp only [dIf_bool, Bool.false_eq_true, if_false, dBin_add, bs, hw]
    exact .some (.inl ⟨rfl, l.length - (i + 1), by omega, rfl, _, _, i + 1, rfl, rfl, hch⟩)
   ·rw [hf] at hch
    simp only [dIf_bool, if_true]
    exact .some (.inr ⟨by simp, rfl, .inr ⟨rfl, hch.symm, _, _, _, rfl⟩⟩)
  ·intro h0
   have h0 : l.length ≤ i + 1 := by have : ¬ ((i + 1 : Nat) : Int) < l.length := by simpa using h0
                                    omega
   have hv : V = false := by
    rw [← hch]
    have : (l.drop i).length ≤ 1 := by simp; omega
    match l.drop i, this with
    | [], _ => rfl
    | [x], _ => rfl
   exact .some (.inr ⟨by simp, rfl, .inl ⟨rfl, hv, _, _, _, rfl⟩⟩)
 ·rintro ⟨x, ds, g⟩ ⟨h2, h3⟩
  simp only at h2 h3
  subst h2
  rcases h3 with ⟨rfl, hv, p, q, r, rfl⟩ | ⟨rfl, hv, p, q, r, rfl⟩
  ·exact k1 hv _ _ _
  ·exact k2 hv _ _ _
theorem s1057e (d cmp : D) (h : Hp) (hd : SlOf 2 fld [] d) : ∃ x, R fn1057 [d, cmp] h = some (x, h) := by
 have hl : dLenT tab ty29 d = some (.int .i64 0) := lens29 hd
 have h65 : ∃ x, R fn1065 [d, .int .i64 0, .int .i64 0, cmp] h = some (x, h) := by
  rw [e1065]
  refine ⟨mkRes [], ?_⟩
  simp only [F1065, bs, Option.bind_assoc, dBin_add, show IntKind.wrap .i64 ((0 : Int) + 1) = 1 from rfl]
  rw [loopW_eq]
  simp [-bind_some, F1065_L0]
 obtain ⟨x, h65⟩ := h65
 have h63 : ∃ x, R fn1063 [d, .int .i64 0, cmp] h = some (x, h) := by
  rw [e1063]
  refine ⟨mkRes [], ?_⟩
  simp only [F1063, bs, Option.bind_assoc]
  rw [loopW_eq]
  have h20 : ¬ (20 : Int) ≤ 0 := by omega
  have h21 : ¬ (20 : Int) < 0 := by omega
  simp only [F1063_L0, nth_zero, nth_succ, bs, dBin_leq, h20, decide_false, dIf_bool, Bool.false_eq_true, if_false, unblk_self, toEnd_nrm, h65]
  rw [loopW_eq]
  simp only [F1063_L1, nth_zero, nth_succ, bs, dBin_lss, h21, decide_false, dIf_bool, Bool.false_eq_true, if_false, unblk_self, exEnd_nrm]
 obtain ⟨y, h63⟩ := h63
 refine ⟨mkRes [], ?_⟩
 rw [e1057]
 simp only [F1057, bs, hl, h63]
theorem s1053 (l r : List (Str × Str)) (d e : D) (h : Hp) (hd : RdF h l d) (he : RdF h r e) (hl : l.length ≤ 1000) : R fn1053 [d, e] h = some (.bool (decide (l = r)), h) := by
 suffices Wp (R fn1053 [d, e] h) (fun p => p = (.bool (decide (l = r)), h)) by
  obtain ⟨p, h1, rfl⟩ := this
  exact h1
 rw [e1053]
 simp only [F1053, bs, Option.bind_assoc, rdF_len hd, rdF_len he, dBin_neq]
 by_cases hlen : (l.length : Int) = (r.length : Int)
 ·have hlen' : l.length = r.length := by omega
  simp only [hlen, ne_eq, not_true, decide_false, dIf_bool, Bool.false_eq_true, if_false]
  generalize hV : decide (l = r) = V
  refine Wp.loop (fun k ds g => g = h ∧ ∃ a b c f, ∃ i : Nat, ds = [a, b, .int .i64 i, c, f] ∧ k + i = r.length ∧ decide (l.drop i = r.drop i) = V)
   (fun x => x.2.2 = h ∧ ((x.1 = .ext 0 ∧ V = true) ∨ (x.1 = .ret ∧ V = false ∧ nth 0 x.2.1 = .bool false))) r.length ⟨rfl, _, _, _, _, 0, rfl, rfl, hV⟩ ?_ ?_
  ·rintro k ds g ⟨rfl, a, b, c, f, i, rfl, hk, hch⟩
   simp only [F1053_L0, nth_zero, nth_succ, bs, Option.bind_assoc, dBin_lss]
   refine Wp.dif ?_ ?_
   ·intro h0
    have h0 : i < r.length := by have : (i : Int) < r.length := by simpa using h0
                                 omega
    have gl : l[i]? = some l[i] := List.getElem?_eq_getElem (by omega)
    have gr : r[i]? = some r[i] := List.getElem?_eq_getElem h0
    have hw : IntKind.wrap .i64 ((i : Int) + 1) = ((i + 1 : Nat) : Int) := by
     rw [wrap_i64 (by omega) (by omega)]; omega
    rw [List.drop_eq_getElem_cons (show i < l.length by omega), List.drop_eq_getElem_cons h0] at hch
    generalize l[i] = x at gl hch
    generalize r[i] = y at gr hch
    obtain ⟨q1, a1, b1, _⟩ := rdF_ix hd i x gl
    obtain ⟨q0, a0, b0, _⟩ := rdF_ix he i y gr
    simp only [a1, a0, b1, b0, bs, fld_neq]
    by_cases hxy : x = y
    ·subst hxy
     simp only [ne_eq, not_true, decide_false, dIf_bool, Bool.false_eq_true, if_false, dBin_add, bs, hw]
     exact .some (.inl ⟨rfl, k - 1, by omega, rfl, _, _, _, _, i + 1, rfl, by omega, by rw [← hch]; simp [-bind_some]⟩)
    ·have hne : decide (x ≠ y) = true := by simpa using hxy
     simp only [hne, dIf_bool, if_true]
     exact .some (.inr ⟨by simp, rfl, .inr ⟨rfl, by rw [← hch]; simp [-bind_some, hxy], rfl⟩⟩)
   ·intro h0
    have h0 : r.length ≤ i := by have : ¬ (i : Int) < r.length := by simpa using h0
                                 omega
    rw [List.drop_of_length_le h0, List.drop_of_length_le (by omega)] at hch
    exact .some (.inr ⟨by simp, rfl, .inl ⟨rfl, by rw [← hch]; simp [-bind_some]⟩⟩)
  ·rintro ⟨x, ds, g⟩ ⟨h2, h3⟩
   simp only at h2 h3
   subst h2
   rcases h3 with ⟨rfl, hv⟩ | ⟨rfl, hv, hn⟩
   ·simp only [unblk_self, toEnd_nrm, bs, mkRes_one, hv]
    exact .some rfl
   ·simp only [unblk_ret, toEnd_ret, exEnd_ret, nth_zero, bs, hn, mkRes_one, hv]
    exact .some rfl
 ·have hne : decide ((l.length : Int) ≠ (r.length : Int)) = true := by simpa using hlen
  have hlr : decide (l = r) = false := by
   simp [-bind_some]; intro hh; subst hh; exact hlen rfl
  simp only [hne, dIf_bool, if_true, mkRes_one, hlr]
  exact .some rfl
theorem l1060 (l : List (Str × Str)) (d : D) (fn : D) (pr : Str × Str → Bool) (h : Hp) (hd : RdF h l d) (hl : l.length ≤ 9223372036854775807) (hf : ∀ x, callV R fn [.agg (fld x)] h = some (.bool (pr x), h)) {β : Type} (K : Out → Option β) (X : Int → Option β)
   (hX : ∀ v r, K (.ret, .int .i64 v :: r, h) = X v) (hY : ∀ r, K (.ext 0, r, h) = X (-1)) : ∀ (suf pre : List (Str × Str)), l = pre ++ suf → ∀ a b e f,
   (loopW (F1060_L0 d fn (.int .i64 l.length)) [a, b, .int .i64 pre.length, e, f] h).bind K = X (idx pr pre.length suf) := by
 intro suf
 induction suf with
 | nil =>
  rintro pre rfl a b e f
  rw [loopW_eq]
  simp [-bind_some, F1060_L0, hY, idx]
 | cons p suf ih =>
  rintro pre rfl a b e f
  have hw : IntKind.wrap .i64 ((pre.length : Int) + 1) = (pre ++ [p]).length := by
   rw [wrap_i64 (by omega) (by simp at hl; omega)]; simp [-bind_some]
  have hlt : (pre.length : Int) < (pre ++ p :: suf).length := by simp; omega
  rw [loopW_eq]
  generalize hL : pre ++ p :: suf = L at *
  have hg : L[pre.length]? = some p := by rw [← hL]; exact get_mid _ _ _
  obtain ⟨q, a1, b1, _⟩ := rdF_ix hd _ _ hg
  by_cases hp : pr p = true
  ·simp [-bind_some, F1060_L0, a1, b1, hlt, hf, hp, hX, idx]
  ·have := ih (pre ++ [p]) (by simp [-bind_some, ← hL]) a (.int .i64 pre.length) (.bool true) (.bool (pr p))
   simp only [← hw] at this
   simp [-bind_some, F1060_L0, a1, b1, hlt, hf, hp, idx]
   simp [-bind_some, hp] at this
   exact this
theorem s1060 (l : List (Str × Str)) (d : D) (fn : D) (pr : Str × Str → Bool) (h : Hp) (hd : RdF h l d) (hl : l.length ≤ 9223372036854775807) (hf : ∀ x, callV R fn [.agg (fld x)] h = some (.bool (pr x), h)) :
   R fn1060 [d, fn] h = some (.int .i64 (idx pr 0 l), h) := by
 rw [e1060]
 simp only [F1060, bs, rdF_len hd, Option.bind_assoc]
 rw [show (0 : Int) = (([] : List (Str × Str)).length : Int) from rfl, l1060 l d fn pr h hd hl hf _ (fun v => some (.int .i64 v, h)) (fun v r => by simp) (fun r => by simp) l [] rfl]
 rfl
theorem s1055 (p : Str × Str) (h : Hp) : R fn1055 [.agg (fld p)] h = some (.bool (decide (2000 < p.2.length)), h) := by
 rw [e1055]
 simp [-bind_some, F1055, fld]
 omega
theorem s1054 (l : List (Str × Str)) (d : D) (h : Hp) (hd : RdF h l d) (hl : l.length ≤ 9223372036854775807) : R fn1054 [d, .fn (.func fn1055) [] []] h = some (.bool (l.any fun p => decide (2000 < p.2.length)), h) := by
 rw [e1054]
 simp only [F1054, bs, s1060 l d (.fn (.func fn1055) [] []) (fun p => decide (2000 < p.2.length)) h hd hl (fun x => by rw [callV_some]; exact s1055 x h), dBin_geq, mkRes_one]
 rw [idx_any]
theorem s1050 (l : Lin) (h : Hp) : R fn1050 [.agg (linr l)] h = some (.bool (!(l.txt == [])), h) := by
 rw [e1050]
 simp [-bind_some, F1050, linr]
theorem s1049 (l : List Lin) (d : D) (h : Hp) (hd : SlOf 3 linr l d) (hl : l.length ≤ 9223372036854775807) : R fn1049 [d, .fn (.func fn1050) [] []] h = some (.bool (l.any fun p => !(p.txt == [])), h) := by
 rw [e1049]
 simp only [F1049, bs, s1006 l d (.fn (.func fn1050) [] []) (fun p => !(p.txt == [])) h hd hl (fun x => by rw [callV_some]; exact s1050 x h), dBin_geq, mkRes_one]
 rw [idx_any]
def evE (e : Ev) : Int :=
 if (!plB e || !(decide (0 ≤ e.a5) && decide (e.a5 ≤ 253402300799999))) = true then 2
 else if e.a6 < 1 ∨ Int.tmod 5040 e.a6 ≠ 0 then 21
 else if linesE e 2000 ≠ 0 then linesE e 2000
 else if 32 < e.s7.length ∨ 32 < e.s8.length then 3
 else if (sortF e.fs).1 ≠ 0 then (sortF e.fs).1
 else if (sortF e.fs).2 ≠ e.fs then 19
 else if ((sortF e.fs).2.any fun p => decide (2000 < p.2.length)) = true then 3 else 0
theorem sortF_len (l : List (Str × Str)) : (sortF l).2.length ≤ l.length := by
 unfold sortF
 split
 ·simp [-bind_some]
 ·split
  ·split
   ·simp [-bind_some]
   ·simp [-bind_some, srt_len]
  ·simp [-bind_some]
theorem sortF_32 (l : List (Str × Str)) : (sortF l).2.length ≤ 32 := by
 by_cases h : 32 < l.length
 ·simp [-bind_some, sortF, h]
 ·have := sortF_len l
  omega
end Go.Proofs.YthaajlepgblimaaDoor
