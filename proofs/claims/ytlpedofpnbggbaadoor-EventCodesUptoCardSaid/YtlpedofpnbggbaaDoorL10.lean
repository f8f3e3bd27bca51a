/- Laws, on plain data, about functions that the statement reaches. -/
import Derived.Test.YtlpedofpnbggbaaDoorL9
set_option linter.unusedSimpArgs false
set_option linter.unusedVariables false
set_option linter.unnecessarySimpa false
set_option maxRecDepth 100000
namespace Go.Proofs.YtlpedofpnbggbaaDoor
open Go.Eng Go.Pi
open Option (bind_some)
theorem rlnS_ok : ∀ (n : Nat) (s : Cur), (rlnS n s).2.2 = false → s.2 = false ∧ 8 * n + (rlnS n s).2.1.length ≤ s.1.length ∧ rlnS n s = lnsS n s
  | 0, s, h => ⟨h, by simp [-bind_some, rlnS], rfl⟩
  | n + 1, s, h => by
    by_cases hs : s.2 = true
    · rw [rlnS_bad _ _ hs] at h
      rw [hs] at h; cases h
    · unfold rlnS at h ⊢
      rw [if_neg hs] at h ⊢
      obtain ⟨a, b, c⟩ := rlnS_ok n (linS s).2 h
      obtain ⟨d, e⟩ := linS_ok a
      refine ⟨d, ?_, ?_⟩
      · show 8 * (n + 1) + (rlnS n (linS s).2).2.1.length ≤ _
        omega
      · rw [c]; rfl
theorem lnsS_ok : ∀ (n : Nat) (s : Cur), (lnsS n s).2.2 = false → s.2 = false ∧ rlnS n s = lnsS n s
  | 0, s, h => ⟨h, rfl⟩
  | n + 1, s, h => by
    obtain ⟨a, c⟩ := lnsS_ok n (linS s).2 h
    obtain ⟨d, e⟩ := linS_ok a
    refine ⟨d, ?_⟩
    unfold rlnS
    rw [if_neg (by simp [-bind_some, d]), c]; rfl
theorem rfdS_ok : ∀ (n : Nat) (s : Cur), (rfdS n s).2.2 = false → s.2 = false ∧ 8 * n + (rfdS n s).2.1.length ≤ s.1.length ∧ rfdS n s = fdsS n s
  | 0, s, h => ⟨h, by simp [-bind_some, rfdS], rfl⟩
  | n + 1, s, h => by
    by_cases hs : s.2 = true
    · rw [rfdS_bad _ _ hs] at h
      rw [hs] at h; cases h
    · unfold rfdS at h ⊢
      rw [if_neg hs] at h ⊢
      obtain ⟨a, b, c⟩ := rfdS_ok n (fdS s).2 h
      obtain ⟨d, e⟩ := fdS_ok a
      refine ⟨d, ?_, ?_⟩
      · show 8 * (n + 1) + (rfdS n (fdS s).2).2.1.length ≤ _
        omega
      · rw [c]; rfl
theorem fdsS_ok : ∀ (n : Nat) (s : Cur), (fdsS n s).2.2 = false → s.2 = false ∧ rfdS n s = fdsS n s
  | 0, s, h => ⟨h, rfl⟩
  | n + 1, s, h => by
    obtain ⟨a, c⟩ := fdsS_ok n (fdS s).2 h
    obtain ⟨d, e⟩ := fdS_ok a
    refine ⟨d, ?_⟩
    unfold rfdS
    rw [if_neg (by simp [-bind_some, d]), c]; rfl
theorem countS_eq {s : Cur} (h : (lenS s).2.2 = false) (hn : 8 * (lenS s).1.toNat ≤ (lenS s).2.1.length) : countS s = lenS s := by
  unfold countS
  rw [if_neg]
  rintro (hh | hh)
  · rw [h] at hh; cases hh
  · rw [Int.tdiv_eq_ediv_of_nonneg (by omega)] at hh
    omega
theorem countS_ok {s : Cur} (h : (countS s).2.2 = false) : countS s = lenS s := by
  unfold countS at h ⊢
  split
  · rename_i hh; rw [if_pos hh] at h; cases h
  · rfl
theorem rvL_eq {s : Cur} : ((rvL s).2.2 = false ∨ (visB s).2 = false) → rvL s = lnsS (countS (visA s)).1.toNat (countS (visA s)).2 := by
  rintro (h | h)
  · obtain ⟨a, b, c⟩ := rlnS_ok _ _ h
    have hc := countS_eq a (by omega)
    rw [hc]; exact c
  · obtain ⟨a, c⟩ := lnsS_ok _ _ h
    have hc := countS_ok a
    rw [hc] at c ⊢
    exact c
theorem rvC_ok {s : Cur} (h : (rvC s).2 = false) : (rvL s).2.2 = false := by
  have h : (textS (textS (numS (numS (rvL s).2).2).2).2).2.2 = false := h
  exact (numS_ok (numS_ok (textS_ok (textS_ok h).1).1).1).1
theorem visC_ok {s : Cur} (h : (visC s).2 = false) : (visB s).2 = false := by
  have h : (textS (textS (numS (numS (visB s)).2).2).2).2.2 = false := h
  exact (numS_ok (numS_ok (textS_ok (textS_ok h).1).1).1).1
theorem rv_vis {s : Cur} (h : (rvF s).2.2 = false ∨ (visE s).2 = false) : (rvF s).2 = visE s ∧ rvI s = visI s := by
  have hL : rvL s = lnsS (countS (visA s)).1.toNat (countS (visA s)).2 := by
    apply rvL_eq
    rcases h with h | h
    · exact .inl (rvC_ok (lenS_ok (rfdS_ok _ _ h).1).1)
    · have h1 := (fdsS_ok _ _ h).1
      have h2 := countS_ok h1
      rw [h2] at h1
      exact .inr (visC_ok (lenS_ok h1).1)
  have hB : (rvL s).2 = visB s := by rw [hL]; rfl
  have hC : rvC s = visC s := by unfold rvC visC; rw [hB]
  have hF : rvF s = fdsS (countS (visC s)).1.toNat (countS (visC s)).2 := by
    unfold rvF at h ⊢
    rw [hC] at h ⊢
    rcases h with h | h
    · obtain ⟨a, b, c⟩ := rfdS_ok _ _ h
      have hc := countS_eq a (by omega)
      rw [hc]; exact c
    · obtain ⟨a, c⟩ := fdsS_ok _ _ h
      have hc := countS_ok a
      rw [hc] at c ⊢
      exact c
  refine ⟨by rw [hF]; rfl, ?_⟩
  unfold rvI visI
  rw [hB, hF, hL]
theorem dec_same (c c' : Int) (l : List Int) (hc : rvI ((l.take (num (l.take 4)).toNat).drop 4, false) = visI ((l.take (num (l.take 4)).toNat).drop 4, false) → c = c') : decR c l = decZ c' l := by
  unfold decR decZ
  generalize hs : ((l.take (num (l.take 4)).toNat).drop 4, false) = s at hc ⊢
  by_cases h0 : l.length < 4
  · rw [if_pos h0, if_pos h0]
  rw [if_neg h0, if_neg h0]
  by_cases h1 : num (l.take 4) < 4 ∨ (l.length : Int) - 4 < num (l.take 4)
  · rw [if_pos h1, if_pos h1]
  rw [if_neg h1, if_neg h1]
  by_cases h2 : chkS (l.take (num (l.take 4)).toNat) ≠ num ((l.drop (num (l.take 4)).toNat).take 4)
  · rw [if_pos h2, if_pos h2]
  rw [if_neg h2, if_neg h2]
  by_cases hg : (rvF s).2.2 = false ∨ (visE s).2 = false
  · obtain ⟨a, b⟩ := rv_vis hg
    have := hc b
    subst this
    rw [a, b]
    have e : (visE s).1 ≠ [] ↔ 0 < (visE s).1.length := by
      rw [List.length_pos_iff]
    simp only [e]
    split
    · rfl
    · rw [Int.add_comm]
  · have g1 : (rvF s).2.2 = true := by
      cases hh : (rvF s).2.2
      · exact absurd (.inl hh) hg
      · rfl
    have g2 : (visE s).2 = true := by
      cases hh : (visE s).2
      · exact absurd (.inr hh) hg
      · rfl
    rw [if_pos (.inl g1), if_pos (.inl g2)]
theorem m119 {h : Hp} {o : Nat} (hc : CM h o) : ∃ v h', R fn119 [.ptr o 0 0] h = some (.int .i64 v, h') ∧ CM h' o ∧ Same o h h' := by
  suffices Wp (R fn119 [.ptr o 0 0] h) (fun p => ∃ v, p.1 = .int .i64 v ∧ CM p.2 o ∧ Same o h p.2) by
    obtain ⟨⟨x, h'⟩, h1, v, rfl, h2⟩ := this
    exact ⟨v, h', h1, h2⟩
  have hsl : SlOf 1 inr lt82_41 (.sl 1 true (lt82_41.map fun n => [.int .i64 n])) := .mk _ _ _ _
  rw [e119]
  simp only [F119, bs, Option.bind_assoc, lt82_41_ok]
  obtain ⟨v, h1, e1, c1, s1, v0, v1⟩ := m39 hc 4 (by omega) (by omega)
  simp only [e1, bs, dBin_eql]
  refine Wp.dif ?_ ?_
  · intro _
    obtain ⟨w, h2, e2, c2, s2, w0, w1⟩ := m39 c1 12 (by omega) (by omega)
    obtain ⟨z, hz⟩ : ∃ z, lt82_41[w.toNat]? = some z := ⟨_, List.getElem?_eq_getElem (by rw [lt82_41_len]; omega)⟩
    have hln : dLenT tab ty82 (.sl 1 true (lt82_41.map fun n => [.int .i64 n])) = some (.int .i64 12) := lens82 hsl
    have hix : dIndexAddr tab ty82 (.sl 1 true (lt82_41.map fun n => [.int .i64 n])) (.int .i64 w) = some (.fptr [.int .i64 z]) := by
      rw [ixs82 hsl, if_pos w0, hz]; rfl
    simp only [bs, hln, e2, hix, ld3, mkRes_one]
    exact .some ⟨z, rfl, c2, s1.trans s2⟩
  · intro _
    obtain ⟨w, h2, e2, c2, s2, w0, w1⟩ := m39 c1 60 (by omega) (by omega)
    simp only [bs, e2, dBin_sub, mkRes_one]
    exact .some ⟨_, rfl, c2, s1.trans s2⟩
structure RB (n m : Nat) (x : RI) : Prop where
  r : x.r.length ≤ 1000
  t7 : x.t7.length ≤ 1000
  t8 : x.t8.length ≤ 1000
  fs : x.fs.length ≤ n
  ls : x.ls.length ≤ m
  lt : ∀ l ∈ x.ls, l.txt.length ≤ 1000
  ft : ∀ p ∈ x.fs, p.1.length ≤ 1000 ∧ p.2.length ≤ 1000
theorem RB.le {n m n' m' : Nat} {x : RI} (h : RB n m x) (h1 : n ≤ n') (h2 : m ≤ m') : RB n' m' x := ⟨h.r, h.t7, h.t8, Nat.le_trans h.fs h1, Nat.le_trans h.ls h2, h.lt, h.ft⟩
def evx (x : RI) (ld fd : D) : List D := [.int .i64 x.a0, .int .i64 x.a1, .int .i64 x.a2, .int .i64 x.a3, ld, .int .i64 x.a5, .int .i64 x.a6, .str x.t7, .str x.t8, fd]
structure Sp (h : Hp) (o : Nat) (g : Hp) (n m : Nat) (x : RI) (ld fd : D) : Prop where
  s : Sm h o g
  hl : h.length + 3 ≤ g.length
  b1 : ∃ e : Ev, g[h.length]? = some (.row ty74 11 [.str x.r :: evr e])
  b2 : g[h.length + 1]? = some (.row ty74 11 [itr zit])
  b3 : g[h.length + 2]? = some (.row ty31 10 [evx x ld fd])
  ol : Own g (h.length + 3) ty78 3 (x.ls.map linr) ld
  ow : Own g (h.length + 3) ty109 2 (x.fs.map fld) fd
  ne : ∀ q, ld.inOb q → fd.inOb q → False
  B : RB n m x
theorem Sp.draw {h g g' : Hp} {o n m : Nat} {x : RI} {ld fd : D} (S : Sp h o g n m x ld fd) (c : CM g' o) (s : Same o g g') : Sp h o g' n m x ld fd := by
  have ho := S.s.lt
  obtain ⟨e, he⟩ := S.b1
  exact ⟨S.s.next c s, by rw [s.1]; exact S.hl, ⟨e, by rw [s.2 _ (by omega)]; exact he⟩, by rw [s.2 _ (by omega)]; exact S.b2, by rw [s.2 _ (by omega)]; exact S.b3, S.ol.keep fun q hq _ => s.2 q (by omega), S.ow.keep fun q hq _ => s.2 q (by omega), S.ne, S.B⟩
theorem Sp.upd {h g g' : Hp} {o n m n' m' : Nat} {x x' : RI} {ld fd : D} (S : Sp h o g n m x ld fd) (s : Same (h.length + 2) g g') (p : g'[h.length + 2]? = some (.row ty31 10 [evx x' ld fd])) (hr : x'.r = x.r) (hls : x'.ls = x.ls) (hfs : x'.fs = x.fs) (B : RB n' m' x') : Sp h o g' n' m' x' ld fd := by
  have ho := S.s.lt
  obtain ⟨e, he⟩ := S.b1
  exact ⟨S.s.app (by rw [s.1]; exact Nat.le_refl _) fun q hq => s.2 q (by omega), by rw [s.1]; exact S.hl, ⟨e, by rw [s.2 _ (by omega), hr]; exact he⟩, by rw [s.2 _ (by omega)]; exact S.b2, p, by rw [hls]; exact S.ol.keep fun q hq _ => s.2 q (by omega), by rw [hfs]; exact S.ow.keep fun q hq _ => s.2 q (by omega), S.ne, B⟩
theorem Sp.wk {h g : Hp} {o n m n' m' : Nat} {x : RI} {ld fd : D} (q : Sp h o g n m x ld fd) (h1 : n ≤ n') (h2 : m ≤ m') : Sp h o g n' m' x ld fd := ⟨q.s, q.hl, q.b1, q.b2, q.b3, q.ol, q.ow, q.ne, q.B.le h1 h2⟩
theorem Sp.re {h g g' : Hp} {o n m n' m' : Nat} {x x' : RI} {ld fd ld' fd' : D} (S : Sp h o g n m x ld fd) (hlen : g.length ≤ g'.length) (low : ∀ q, q < h.length + 2 → g'[q]? = g[q]?) (p : g'[h.length + 2]? = some (.row ty31 10 [evx x' ld' fd'])) (ol : Own g' (h.length + 3) ty78 3 (x'.ls.map linr) ld') (ow : Own g' (h.length + 3) ty109 2 (x'.fs.map fld) fd')
    (ne : ∀ q, ld'.inOb q → fd'.inOb q → False) (hr : x'.r = x.r) (B : RB n' m' x') : Sp h o g' n' m' x' ld' fd' := by
  have ho := S.s.lt
  have hl := S.hl
  obtain ⟨e, he⟩ := S.b1
  exact ⟨S.s.app hlen fun q hq => low q (by omega), by omega, ⟨e, by rw [low _ (by omega), hr]; exact he⟩, by rw [low _ (by omega)]; exact S.b2, p, ol, ow, ne, B⟩
theorem sp_set (x : RI) (ld fd : D) (k : Nat) (v : D) (hv : v.one = true) (hk : k < 10) : ([evx x ld fd].set 0 (spl (evx x ld fd) (0 + k) (cells1 v))) = [(evx x ld fd).set k v] := by
  rw [Nat.zero_add, set_spl _ _ _ hv (by simp [-bind_some, evx]; omega)]; rfl
theorem Sp.ld4 {h g : Hp} {o n m : Nat} {x : RI} {ld fd : D} (S : Sp h o g n m x ld fd) : dLoad tab g ty28 (.ptr (h.length + 2) 0 (0 + 4)) = some ld := by
  rw [ldp28, row_of S.b3]; rfl
theorem Sp.ld9 {h g : Hp} {o n m : Nat} {x : RI} {ld fd : D} (S : Sp h o g n m x ld fd) : dLoad tab g ty29 (.ptr (h.length + 2) 0 (0 + 9)) = some fd := by
  rw [ldp29, row_of S.b3]; rfl
theorem Sp.ld3 {h g : Hp} {o n m : Nat} {x : RI} {ld fd : D} (S : Sp h o g n m x ld fd) : dLoad tab g ty3 (.ptr (h.length + 2) 0 (0 + 3)) = some (.int .i64 x.a3) := by
  rw [ldp3, row_of S.b3]; rfl
theorem Sp.lset {h g g' : Hp} {o n m : Nat} {x x' : RI} {ld fd : D} (S : Sp h o g n m x ld fd) {ob : Nat} (hob : ld.inOb ob) (s : Same ob g g') (hg : Own g' (h.length + 3) ty78 3 (x'.ls.map linr) ld) (hx : x' = { x with ls := x'.ls }) (B : RB n m x') : Sp h o g' n m x' ld fd := by
  have ho := S.s.lt
  have hlt := S.ol.lt hob
  obtain ⟨e, he⟩ := S.b1
  have h1 : x'.r = x.r := by rw [hx]
  have h2 : x'.fs = x.fs := by rw [hx]
  have h3 : evx x' ld fd = evx x ld fd := by rw [hx]; rfl
  exact ⟨S.s.app (by rw [s.1]; exact Nat.le_refl _) fun q hq => s.2 q (by omega), by rw [s.1]; exact S.hl, ⟨e, by rw [s.2 _ (by omega), h1]; exact he⟩, by rw [s.2 _ (by omega)]; exact S.b2, by rw [s.2 _ (by omega), h3]; exact S.b3, hg,
    by rw [h2]; exact S.ow.keep fun q hq hin => s.2 q fun hh => S.ne ob hob (by rw [← hh]; exact hin), S.ne, B⟩
theorem sp_lvl {b : Bool} {x y : Option Out} {f : Out → List D} {P : Hp → Prop} (hx : b = true → Wp x fun r => r.1 = .nrm ∧ P r.2.2) (hy : b = false → Wp y fun r => r.1 = .nrm ∧ P r.2.2) :
    Wp ((dIf (.bool b) x y).bind fun r => some (r.1, f r, r.2.2)) (fun r => r.1 = .nrm ∧ P r.2.2) := by
  refine Wp.join hx hy fun a ha => ?_
  exact .some ha
theorem m1123 {h : Hp} {o : Nat} (hc : CM h o) {n m : Nat} (hn : n ≤ 1000) (hm : m ≤ 1000) (i : It) (hB : RB n m (riOf i)) : ∃ (j : It) (h' : Hp), R fn1123 [.ptr o 0 0, .agg (itr i)] h = some (.agg (itr j), h') ∧ CM h' o ∧ Same o h h' ∧ RB (n + 1) (max m 41) (riOf j) := by
  suffices Wp (R fn1123 [.ptr o 0 0, .agg (itr i)] h) (fun p => ∃ j : It, p.1 = .agg (itr j) ∧ CM p.2 o ∧ Same o h p.2 ∧ RB (n + 1) (max m 41) (riOf j)) by
    obtain ⟨⟨x, h'⟩, h1, j, rfl, h2⟩ := this
    exact ⟨j, h', h1, h2⟩
  have ho := hc.lt
  have hz74 : ([.str [], .int .i64 0, .int .i64 0, .int .i64 0, .int .i64 0, .nils, .int .i64 0, .int .i64 0, .str [], .str [], .nils] : List D) = itr zit := rfl
  have hls := hB.ls
  have hfs := hB.fs
  have hls : i.e.ls.length ≤ m := hls
  have hfs : i.e.fs.length ≤ n := hfs
  rw [e1123]
  simp only [F1123, hz74, wBox_agg ty74 11 h (itr i) rfl (by omega), bs, Option.bind_assoc]
  -- the three variables
  have a0 : (dNew h ty74 11 [itr i])[h.length]? = some (.row ty74 11 [itr i]) := dNew_get _ _ _ _
  have k0 : ∀ q, q < h.length → (dNew h ty74 11 [itr i])[q]? = h[q]? := fun q hq => dNew_old _ _ _ _ hq
  have l0 : (dNew h ty74 11 [itr i]).length = h.length + 1 := by simp [-bind_some, dNew]
  generalize dNew h ty74 11 [itr i] = g0 at *
  have a1 : (dNew g0 ty74 11 [itr zit])[h.length + 1]? = some (.row ty74 11 [itr zit]) := by rw [← l0]; exact dNew_get _ _ _ _
  have k1 : ∀ q, q < h.length + 1 → (dNew g0 ty74 11 [itr zit])[q]? = g0[q]? := fun q hq => dNew_old _ _ _ _ (by omega)
  have l1 : (dNew g0 ty74 11 [itr zit]).length = h.length + 2 := by simp [-bind_some, dNew, l0]
  rw [l0]
  generalize dNew g0 ty74 11 [itr zit] = g1 at *
  have a0' : g1[h.length]? = some (.row ty74 11 [itr i]) := by rw [k1 _ (by omega)]; exact a0
  have le1 : dLoad tab g1 ty31 (.ptr h.length 0 (0 + 1)) = some (.agg (evr i.e)) := by rw [ldp31, row_of a0']; rfl
  simp only [fap74_1, le1, bs, l1]
  have a2 : ∀ r, (dNew g1 ty31 10 [r])[h.length + 2]? = some (.row ty31 10 [r]) := fun r => by rw [← l1]; exact dNew_get _ _ _ _
  have k2 : ∀ r q, q < h.length + 2 → (dNew g1 ty31 10 [r])[q]? = g1[q]? := fun r q hq => dNew_old _ _ _ _ (by omega)
  have l2a : ∀ r, (dNew g1 ty31 10 [r]).length = h.length + 3 := fun r => by simp [-bind_some, dNew, l1]
  refine wst31 (kk := 0) (off := 0) (v := .agg (evr i.e)) (a2 _) (by rfl) (by rfl) (by simp) (by rfl) fun g2 p2 s2 => ?_
  replace p2 : g2[h.length + 2]? = some (.row ty31 10 [evr i.e]) := p2
  have l2 := s2.1.trans (l2a _)
  have c0 : g2[h.length]? = some (.row ty74 11 [itr i]) := by rw [s2.2 _ (by omega), k2 _ _ (by omega), k1 _ (by omega)]; exact a0
  have c1 : g2[h.length + 1]? = some (.row ty74 11 [itr zit]) := by rw [s2.2 _ (by omega), k2 _ _ (by omega)]; exact a1
  have c9 : ∀ q, q < h.length → g2[q]? = h[q]? := fun q hq => by rw [s2.2 _ (by omega), k2 _ _ (by omega), k1 _ (by omega), k0 _ hq]
  clear a0 a0' a1 a2 k0 k1 k2 le1 s2 l0
  have le2 : dLoad tab g2 ty28 (.ptr (h.length + 2) 0 (0 + 4)) = some i.e.ld := by rw [ldp28, row_of p2]; rfl
  simp only [fap31_4, le2, bs]
  refine wap28 (n0 := h.length + 3) (rows := []) (by omega) (.nils _ _ _ _) (slof_rows _ i.e.hld) (by simp only [List.length_map, List.length_nil]; omega) fun x3 g3 o3 l3 k3 _ _ => ?_
  rw [List.nil_append] at o3
  try simp only [bs]
  refine wst28 (kk := 0) (off := 0 + 4) (row := evr i.e) (v := x3) (by rw [k3 _ (by omega)]; exact p2) (by rfl) (by rw [(one_cells (own_one o3)).1]; rfl) (by simp [-bind_some, evr]) (one_cells (own_one o3)).2 fun g4 p4 s4 => ?_
  have hs4 : ([evr i.e].set 0 (spl (evr i.e) (0 + 4) (cells1 x3))) = [evx (riOf i) x3 i.e.fd] := by rw [Nat.zero_add, set_spl _ _ _ (own_one o3) (by simp [-bind_some, evr])]; rfl
  rw [hs4] at p4
  have o4 : Own g4 (h.length + 3) ty78 3 (i.e.ls.map linr) x3 := o3.keep fun q hq _ => s4.2 q (by omega)
  have le4 : dLoad tab g4 ty29 (.ptr (h.length + 2) 0 (0 + 9)) = some i.e.fd := by rw [ldp29, row_of p4]; rfl
  simp only [fap31_9, le4, bs]
  have l4 : h.length + 3 ≤ g4.length := by rw [s4.1]; omega
  refine wap29 (n0 := g4.length) (rows := []) (Nat.le_refl _) (.nils _ _ _ _) (slof_rows _ i.e.hfd) (by simp only [List.length_map, List.length_nil]; omega) fun x5 g5 o5 l5 k5 _ _ => ?_
  rw [List.nil_append] at o5
  try simp only [bs]
  have hne : ∀ q, x3.inOb q → x5.inOb q → False := fun q h1 h2 => by
    have := (o4.lt h1).2
    have := (o5.lt h2).1
    omega
  refine wst29 (kk := 0) (off := 0 + 9) (row := evx (riOf i) x3 i.e.fd) (v := x5) (by rw [k5 _ (by omega)]; exact p4) (by rfl) (by rw [(one_cells (own_one o5)).1]; rfl) (by simp [-bind_some, evx]) (one_cells (own_one o5)).2 fun g6 p6 s6 => ?_
  have hs6 : ([evx (riOf i) x3 i.e.fd].set 0 (spl (evx (riOf i) x3 i.e.fd) (0 + 9) (cells1 x5))) = [evx (riOf i) x3 x5] := by rw [sp_set _ _ _ _ _ (own_one o5) (by omega)]; rfl
  rw [hs6] at p6
  have low : ∀ q, q < h.length + 2 → g6[q]? = g2[q]? := fun q hq => by rw [s6.2 _ (by omega), k5 _ (by omega), s4.2 _ (by omega), k3 _ (by omega)]
  have S0 : Sp h o g6 n m (riOf i) x3 x5 :=
    ⟨⟨ho, hc.keep (by rw [low _ (by omega), c9 _ ho]), ⟨by rw [s6.1]; omega, fun q hq _ => by rw [low _ (by omega), c9 _ hq]⟩⟩, by rw [s6.1]; omega, ⟨i.e, by rw [low _ (by omega)]; exact c0⟩, by rw [low _ (by omega)]; exact c1, p6,
      o4.keep fun q hq hin => by rw [s6.2 _ (by omega), k5 _ (o4.lt hin).2], (o5.from l4).keep fun q hq hin => s6.2 q (by omega), hne, hB⟩
  clear p6 low hs6 s6 hne o5 k5 l5 le4 o4 p4 hs4 s4 o3 k3 l3 le2 c0 c1 c9 p2
  -- the choice
  obtain ⟨v, g7, e7, c7, s7, v0, v1⟩ := m39 S0.s.cd 13 (by omega) (by omega)
  replace S0 := S0.draw c7 s7
  simp only [e7, bs, dBin_eql, fap31_0, fap31_1, fap31_2, fap31_3, fap31_5, fap31_6, fap31_7, fap74_0, fap74_1]
  clear e7 s7 c7 l4 l2
  refine Wp.bind (P := fun r => r.1 = .nrm ∧ ∃ x ld fd, Sp h o r.2.2 (n + 1) (max m 41) x ld fd) ?_ ?_
  · -- an int
    have ib : ∀ (k : Nat) (y : Int → RI) (L : List D), (∀ v, (evx (riOf i) x3 x5).set k (.int .i64 v) = evx (y v) x3 x5) → (∀ v, (y v).r = (riOf i).r ∧ (y v).ls = (riOf i).ls ∧ (y v).fs = (riOf i).fs ∧ RB n m (y v)) → k < 10 →
        Wp ((R fn119 [.ptr o 0 0] g7).bind fun p => (dStore tab p.2 ty3 (.ptr (h.length + 2) 0 (0 + k)) p.1).bind fun h' => some ((.nrm, L, h') : Out)) (fun r => r.1 = .nrm ∧ ∃ x ld fd, Sp h o r.2.2 (n + 1) (max m 41) x ld fd) := by
      intro k y L hy hyb hk
      obtain ⟨w, g8, e8, c8, s8⟩ := m119 S0.s.cd
      have S1 := S0.draw c8 s8
      rw [e8]
      simp only [bs]
      refine wst3 (kk := 0) (off := 0 + k) (row := evx (riOf i) x3 x5) S1.b3 (by rfl) (by rfl) (by simp [-bind_some, evx]; omega) (by rfl) fun g9 p9 s9 => ?_
      rw [sp_set _ _ _ _ _ rfl hk, hy] at p9
      obtain ⟨y1, y2, y3, y4⟩ := hyb w
      exact .some ⟨rfl, _, _, _, S1.upd s9 p9 y1 y2 y3 (y4.le (by omega) (by omega))⟩
    have Bi : ∀ a0 a1 a2 a3 a5 a6, RB n m { riOf i with a0 := a0, a1 := a1, a2 := a2, a3 := a3, a5 := a5, a6 := a6 } := fun _ _ _ _ _ _ => ⟨hB.r, hB.t7, hB.t8, hB.fs, hB.ls, hB.lt, hB.ft⟩
    -- a line
    have lb : ∀ (k : Nat) (y : Int → Lin → Lin) (L : List D), (∀ v l, (linr l).set k (.int .i64 v) = linr (y v l)) → (∀ v l, (y v l).txt = l.txt) → k < 3 → ∀ w : Int, 0 ≤ w → w < i.e.ls.length → ∀ g8, Sp h o g8 n m (riOf i) x3 x5 → ∀ z : Int, ∃ ob, dIndexAddr tab ty28 x3 (.int .i64 w) = some (.ptr ob w.toNat 0) ∧ 
        ∀ A B : Prop, A → B → Wp ((dStore tab g8 ty3 (.ptr ob w.toNat (0 + k)) (.int .i64 z)).bind fun h' => chk A (chk B (some ((.nrm, L, h') : Out)))) (fun r => r.1 = .nrm ∧ ∃ x ld fd, Sp h o r.2.2 (n + 1) (max m 41) x ld fd) := by
      intro k y L hy hyt hk w w0 w1 g8 S1 z
      rcases S1.ol with ⟨_, hh⟩ | ⟨ob, hob, hd, hg⟩
      · have : i.e.ls = [] := by simpa [-bind_some, riOf] using hh
        rw [this] at w1
        simp at w1; omega
      have hlen : ((riOf i).ls.map linr).length = i.e.ls.length := by simp [-bind_some, riOf]
      rw [hlen] at hd
      obtain ⟨l, hl⟩ : ∃ l, i.e.ls[w.toNat]? = some l := ⟨_, List.getElem?_eq_getElem (by omega)⟩
      have hin : x3.inOb ob := ⟨_, _, hd⟩
      refine ⟨ob, by rw [hd, ixm28, if_pos ⟨w0, w1⟩]; simp [-bind_some], fun A B hA hB' => ?_⟩
      refine wst3 (kk := w.toNat) (off := 0 + k) (row := linr l) hg (by rw [List.getElem?_map, show (riOf i).ls[w.toNat]? = some l from hl]; rfl) (by rfl) (by simp [-bind_some, linr]; omega) (by rfl) fun g9 p9 s9 => ?_
      have hset : ((riOf i).ls.map linr).set w.toNat (spl (linr l) (0 + k) (cells1 (.int .i64 z))) = (((riOf i).ls.set w.toNat (y z l)).map linr) := by
        rw [Nat.zero_add, set_spl _ _ _ rfl (by simp [-bind_some, linr]; omega), hy, List.map_set]
      rw [hset] at p9
      have hlm : ((riOf i).ls.set w.toNat (y z l)).length = (riOf i).ls.length := by simp
      have hmem : ∀ q ∈ (riOf i).ls.set w.toNat (y z l), q.txt.length ≤ 1000 := fun q hq => by
        rcases List.mem_or_eq_of_mem_set hq with hq | rfl
        · exact hB.lt q hq
        · rw [hyt]; exact hB.lt l (List.mem_of_getElem? hl)
      rw [chk_true _ _ hA, chk_true _ _ hB']
      exact .some ⟨rfl, { riOf i with ls := (riOf i).ls.set w.toNat (y z l) }, _, _, (S1.lset (x' := { riOf i with ls := (riOf i).ls.set w.toNat (y z l) }) hin s9 (.inr ⟨ob, hob, by rw [List.length_map, hlm, hd]; rfl, p9⟩) rfl ⟨hB.r, hB.t7, hB.t8, hB.fs, by rw [hlm]; exact hB.ls, hmem, hB.ft⟩)|>.wk (by omega) (by omega)⟩
    refine Wp.dif (fun _ => ib 0 (fun v => { riOf i with a0 := v }) _ (fun _ => rfl) (fun v => ⟨rfl, rfl, rfl, Bi v _ _ _ _ _⟩) (by omega)) fun _ => ?_
    refine sp_lvl (P := fun g => ∃ x ld fd, Sp h o g (n + 1) (max m 41) x ld fd) (fun _ => ib 1 (fun v => { riOf i with a1 := v }) _ (fun _ => rfl) (fun v => ⟨rfl, rfl, rfl, Bi _ v _ _ _ _⟩) (by omega)) fun _ => ?_
    refine sp_lvl (P := fun g => ∃ x ld fd, Sp h o g (n + 1) (max m 41) x ld fd) (fun _ => ib 2 (fun v => { riOf i with a2 := v }) _ (fun _ => rfl) (fun v => ⟨rfl, rfl, rfl, Bi _ _ v _ _ _⟩) (by omega)) fun _ => ?_
    refine sp_lvl (P := fun g => ∃ x ld fd, Sp h o g (n + 1) (max m 41) x ld fd) (fun _ => ib 3 (fun v => { riOf i with a3 := v }) _ (fun _ => rfl) (fun v => ⟨rfl, rfl, rfl, Bi _ _ _ v _ _⟩) (by omega)) fun _ => ?_
    refine sp_lvl (P := fun g => ∃ x ld fd, Sp h o g (n + 1) (max m 41) x ld fd) (fun _ => ib 5 (fun v => { riOf i with a5 := v }) _ (fun _ => rfl) (fun v => ⟨rfl, rfl, rfl, Bi _ _ _ _ v _⟩) (by omega)) fun _ => ?_
    refine sp_lvl (P := fun g => ∃ x ld fd, Sp h o g (n + 1) (max m 41) x ld fd) (fun _ => ib 6 (fun v => { riOf i with a6 := v }) _ (fun _ => rfl) (fun v => ⟨rfl, rfl, rfl, Bi _ _ _ _ _ v⟩) (by omega)) fun _ => ?_
    have hlen : dLenT tab ty28 x3 = some (.int .i64 (i.e.ls.length : Int)) := by rw [leno28 S0.ol, List.length_map]; rfl
    have Z : ∀ L : List D, Wp (some ((.nrm, L, g7) : Out)) (fun r => r.1 = .nrm ∧ ∃ x ld fd, Sp h o r.2.2 (n + 1) (max m 41) x ld fd) := fun L => .some ⟨rfl, _, _, _, S0.wk (by omega) (by omega)⟩
    refine sp_lvl (P := fun g => ∃ x ld fd, Sp h o g (n + 1) (max m 41) x ld fd) (fun _ => ?_) fun _ => ?_
    · simp only [S0.ld4, hlen, bs, dBin_gtr]
      refine sp_lvl (P := fun g => ∃ x ld fd, Sp h o g (n + 1) (max m 41) x ld fd) (fun hp => ?_) fun _ => Z _
      have hp : 0 < i.e.ls.length := by have : (i.e.ls.length : Int) > 0 := by simpa using hp
                                        omega
      obtain ⟨w, g8, e8, c8, s8, w0, w1⟩ := m39 S0.s.cd (i.e.ls.length : Int) (by omega) (by omega)
      have S1 := S0.draw c8 s8
      obtain ⟨z, g9, e9, c9, s9⟩ := m119 S1.s.cd
      have S2 := S1.draw c9 s9
      obtain ⟨ob, hix, hw⟩ := lb 0 (fun v l => { l with off := v }) [] (fun _ _ => rfl) (fun _ _ => rfl) (by omega) w w0 w1 g9 S2 z
      simp only [e8, e9, hix, fap78_0, bs]
      exact hw _ _ S1.ld4 S2.ld4
    refine sp_lvl (P := fun g => ∃ x ld fd, Sp h o g (n + 1) (max m 41) x ld fd) (fun _ => ?_) fun _ => ?_
    · simp only [S0.ld4, hlen, bs, dBin_gtr]
      refine sp_lvl (P := fun g => ∃ x ld fd, Sp h o g (n + 1) (max m 41) x ld fd) (fun hp => ?_) fun _ => Z _
      have hp : 0 < i.e.ls.length := by have : (i.e.ls.length : Int) > 0 := by simpa using hp
                                        omega
      obtain ⟨w, g8, e8, c8, s8, w0, w1⟩ := m39 S0.s.cd (i.e.ls.length : Int) (by omega) (by omega)
      have S1 := S0.draw c8 s8
      obtain ⟨z, g9, e9, c9, s9⟩ := m119 S1.s.cd
      have S2 := S1.draw c9 s9
      obtain ⟨ob, hix, hw⟩ := lb 1 (fun v l => { l with len := v }) [] (fun _ _ => rfl) (fun _ _ => rfl) (by omega) w w0 w1 g9 S2 z
      simp only [e8, e9, hix, fap78_1, bs]
      exact hw _ _ S1.ld4 S2.ld4
    -- no lines
    refine sp_lvl (P := fun g => ∃ x ld fd, Sp h o g (n + 1) (max m 41) x ld fd) (fun _ => ?_) fun _ => ?_
    · refine wst28 (kk := 0) (off := 0 + 4) (row := evx (riOf i) x3 x5) S0.b3 (by rfl) (by rfl) (by simp [-bind_some, evx]) (by rfl) fun g9 p9 s9 => ?_
      rw [sp_set _ _ _ _ _ rfl (by omega)] at p9
      have hl := S0.hl
      exact .some ⟨rfl, { riOf i with ls := [] }, .nils, x5, S0.re (x' := { riOf i with ls := [] }) (by rw [s9.1]; exact Nat.le_refl _) (fun q hq => s9.2 q (by omega)) p9 (.nils _ _ _ _) (S0.ow.keep fun q hq _ => s9.2 q (by omega)) (fun q ⟨_, _, hq⟩ => by cases hq) rfl ⟨hB.r, hB.t7, hB.t8, by have := hB.fs; show (riOf i).fs.length ≤ _; omega, Nat.zero_le _, fun l hl => (by cases hl), hB.ft⟩⟩
    -- a field more
    refine sp_lvl (P := fun g => ∃ x ld fd, Sp h o g (n + 1) (max m 41) x ld fd) (fun _ => ?_) fun _ => ?_
    · simp only [S0.ld9, lt98_38_ok, bs]
      refine pick_wp S0.s.cd lt98_38 10 (by decide) (by decide) (by decide) fun s g8 c8 s8 hs hs2 => ?_
      have S1 := S0.draw c8 s8
      obtain ⟨u, g9, e9, c9, s9, hu⟩ := m83 S1.s.cd 3 (by omega) (by omega)
      have S2 := S1.draw c9 s9
      simp only [e9, bs, bd109_0_1, bs29_1]
      have hl := S2.hl
      refine wap29 (n0 := h.length + 3) (by omega) S2.ow (rowsOf_sl _ _ _ _) (by simp only [List.length_map, List.length_cons, List.length_nil]; have := hB.fs; omega) fun x10 g10 o10 l10 k10 k10' i10 => ?_
      have ho10 : ((riOf i).fs.map fld ++ [[.str s, .str u]]) = ((riOf i).fs ++ [(s, u)]).map fld := by rw [List.map_append]; rfl
      rw [ho10] at o10
      rw [chk_true _ _ S1.ld9, chk_true _ _ S2.ld9]
      refine wst29 (kk := 0) (off := 0 + 9) (row := evx (riOf i) x3 x5) (v := x10) (by rw [k10 _ (by omega)]; exact S2.b3) (by rfl) (by rw [(one_cells (own_one o10)).1]; rfl) (by simp [-bind_some, evx]) (one_cells (own_one o10)).2 fun g11 p11 s11 => ?_
      rw [sp_set _ _ _ _ _ (own_one o10) (by omega)] at p11
      exact .some ⟨rfl, { riOf i with fs := (riOf i).fs ++ [(s, u)] }, x3, x10, S2.re (x' := { riOf i with fs := (riOf i).fs ++ [(s, u)] }) (by rw [s11.1]; exact l10) (fun q hq => by rw [s11.2 q (by omega)]; exact k10 q (by omega)) p11
        (S2.ol.keep fun q hq hin => by rw [s11.2 q (by omega)]; exact k10' q (S2.ol.lt hin).2 fun hh => S2.ne q hin hh) (o10.keep fun q hq _ => s11.2 q (by omega))
        (fun q h1 h2 => by rcases i10 q h2 with h2 | h2; exact S2.ne q h1 h2; have := (S2.ol.lt h1).2; omega) rfl
        ⟨hB.r, hB.t7, hB.t8, by have := hB.fs; show ((riOf i).fs ++ [(s, u)]).length ≤ _; simp [-bind_some]; omega, by have := hB.ls; show (riOf i).ls.length ≤ _; omega, hB.lt, fun p hp => by
          rcases List.mem_append.1 hp with hp | hp
          · exact hB.ft p hp
          · rw [List.mem_singleton.1 hp]; exact ⟨by show s.length ≤ 1000; omega, by show u.length ≤ 1000; omega⟩⟩⟩
    -- the rule
    refine sp_lvl (P := fun g => ∃ x ld fd, Sp h o g (n + 1) (max m 41) x ld fd) (fun _ => ?_) fun _ => ?_
    · simp only [lt98_39_ok, bs]
      refine pick_wp S0.s.cd lt98_39 100 (by decide) (by decide) (by decide) fun s g8 c8 s8 hs hs2 => ?_
      have S1 := S0.draw c8 s8
      obtain ⟨e, he⟩ := S1.b1
      simp only [bs]
      refine wst9 (kk := 0) (off := 0 + 0) (row := .str (riOf i).r :: evr e) (v := .str s) he (by rfl) (by rfl) (by simp) (by rfl) fun g9 p9 s9 => ?_
      have hl := S1.hl
      have p9 : g9[h.length]? = some (.row ty74 11 [.str s :: evr e]) := p9
      exact .some ⟨rfl, { riOf i with r := s }, x3, x5, ⟨S1.s.app (by rw [s9.1]; exact Nat.le_refl _) fun q hq => s9.2 q (by omega), by rw [s9.1]; exact hl, ⟨e, p9⟩, by rw [s9.2 _ (by omega)]; exact S1.b2, by rw [s9.2 _ (by omega)]; exact S1.b3, S1.ol.keep fun q hq _ => s9.2 q (by omega), S1.ow.keep fun q hq _ => s9.2 q (by omega), S1.ne, ⟨by show s.length ≤ 1000; omega, hB.t7, hB.t8, by have := hB.fs; show (riOf i).fs.length ≤ _; omega, by have := hB.ls; show (riOf i).ls.length ≤ _; omega, hB.lt, hB.ft⟩⟩⟩
    -- the trace
    refine sp_lvl (P := fun g => ∃ x ld fd, Sp h o g (n + 1) (max m 41) x ld fd) (fun _ => ?_) fun _ => ?_
    · simp only [lt98_40_ok, bs]
      refine pick_wp S0.s.cd lt98_40 100 (by decide) (by decide) (by decide) fun s g8 c8 s8 hs hs2 => ?_
      have S1 := S0.draw c8 s8
      simp only [bs]
      refine wst9 (kk := 0) (off := 0 + 7) (row := evx (riOf i) x3 x5) (v := .str s) S1.b3 (by rfl) (by rfl) (by simp [-bind_some, evx]) (by rfl) fun g9 p9 s9 => ?_
      rw [sp_set _ _ _ _ _ rfl (by omega)] at p9
      exact .some ⟨rfl, { riOf i with t7 := s }, x3, x5, S1.upd (x' := { riOf i with t7 := s }) s9 p9 rfl rfl rfl ⟨hB.r, by show s.length ≤ 1000; omega, hB.t8, by have := hB.fs; show (riOf i).fs.length ≤ _; omega, by have := hB.ls; show (riOf i).ls.length ≤ _; omega, hB.lt, hB.ft⟩⟩
    -- many lines
    try simp only [Option.bind_assoc]
    refine Wp.loop (fun k ds g => ∃ a b x ld, ds = [a, b] ∧ Sp h o g (n + 1) (max m 41) x ld x5 ∧ k + x.ls.length = max m 41)
      (fun r => r.1 = .ext 1 ∧ ∃ x ld fd, Sp h o r.2.2 (n + 1) (max m 41) x ld fd) (max m 41 - (riOf i).ls.length) ⟨_, _, _, _, rfl, S0.wk (by omega) (by omega), by have := hB.ls; omega⟩ ?_ ?_
    · rintro k ds g ⟨a, b, x, ld, rfl, S, hk⟩
      have hlx : dLenT tab ty28 ld = some (.int .i64 (x.ls.length : Int)) := by rw [leno28 S.ol, List.length_map]
      have hfin : ∀ L : List D, Wp (some ((.ext 1, L, g) : Out)) fun r => (r.1 = .nrm ∧ ∃ k', k' < k ∧ ∃ a b x ld, r.2.1 = [a, b] ∧ Sp h o r.2.2 (n + 1) (max m 41) x ld x5 ∧ k' + x.ls.length = max m 41) ∨ (r.1 ≠ .nrm ∧ (r.1 = .ext 1 ∧ ∃ x ld fd, Sp h o r.2.2 (n + 1) (max m 41) x ld fd)) := fun L => .some (.inr ⟨by simp, rfl, _, _, _, S⟩)
      simp only [F1123_L0, nth_zero, nth_succ, bs, Option.bind_assoc, fap31_4, fap31_3, S.ld4, hlx, dBin_gtr]
      by_cases h1 : (x.ls.length : Int) > 0
      case neg =>
        simp only [h1, decide_false, gd_bool, reduceCtorEq, Bool.false_eq_true, if_false, bs, dPick_bool, dIf_bool]
        exact hfin _
      by_cases h2 : (x.ls.length : Int) ≤ 40
      case neg =>
        simp only [h1, h2, decide_true, decide_false, gd_bool, if_true, bs, S.ld4, hlx, dBin_leq, dPick_bool, dIf_bool, Bool.false_eq_true, if_false]
        exact hfin _
      have hw1 : IntKind.wrap .i64 ((x.ls.length : Int) - 1) = ((x.ls.length - 1 : Nat) : Int) := by rw [wrap_i64 (by omega) (by omega)]; omega
      obtain ⟨ob, hob, hd, hg⟩ := own_ix S.ol (i := x.ls.length - 1) (by rw [List.length_map]; omega)
      rw [List.length_map] at hd
      obtain ⟨l, hl⟩ : ∃ l, x.ls[x.ls.length - 1]? = some l := ⟨_, List.getElem?_eq_getElem (by omega)⟩
      have hix : dIndexAddr tab ty28 ld (.int .i64 ((x.ls.length - 1 : Nat) : Int)) = some (.ptr ob (x.ls.length - 1) 0) := by
        rw [hd, ixm28, if_pos (by omega)]; simp [-bind_some]
      have hld : dLoad tab g ty78 (.ptr ob (x.ls.length - 1) 0) = some (.agg (linr l)) := by
        rw [ldp78, row_of hg, List.getElem?_map, hl]; rfl
      have hbx : boxN 3 (.agg (linr l)) = some (.fptr (linr l)) := boxN_agg 3 _ rfl
      have q0 : dFieldAddr tab ty78 0 (.fptr (linr l)) = some (.fptr (linr l)) := id rfl
      have q1 : dFieldAddr tab ty78 1 (.fptr (linr l)) = some (.fptr [.int .i64 l.len, .str l.txt]) := id rfl
      have l0 : ∀ g, dLoad tab g ty3 (.fptr (linr l)) = some (.int .i64 l.off) := fun g => id rfl
      simp only [h1, h2, decide_true, gd_bool, if_true, bs, S.ld4, hlx, dBin_leq, dPick_bool, dIf_bool, dBin_sub, hw1, hix, hld, hbx, q0, q1, l0, ld3, dBin_add, bd78_0_1, bs28_1]
      have hl3 := S.hl
      have hll := S.B.ls
      refine wap28 (n0 := h.length + 3) (by omega) S.ol (rowsOf_sl _ _ _ _) (by simp only [List.length_map, List.length_cons, List.length_nil]; omega) fun x10 g10 o10 l10 k10 k10' i10 => ?_
      generalize hln : (⟨IntKind.wrap .i64 (l.off + l.len), 1, []⟩ : Lin) = nl
      have ho10 : (x.ls.map linr ++ [[.int .i64 (IntKind.wrap .i64 (l.off + l.len)), .int .i64 1, .str []]]) = (x.ls ++ [nl]).map linr := by rw [← hln, List.map_append]; rfl
      rw [ho10] at o10
      try simp only [bs]
      refine wst28 (kk := 0) (off := 0 + 4) (row := evx x ld x5) (v := x10) (by rw [k10 _ (by omega)]; exact S.b3) (by rfl) (by rw [(one_cells (own_one o10)).1]; rfl) (by simp [-bind_some, evx]) (one_cells (own_one o10)).2 fun g11 p11 s11 => ?_
      rw [sp_set _ _ _ _ _ (own_one o10) (by omega)] at p11
      have S1 : Sp h o g11 (n + 1) (max m 41) { x with ls := x.ls ++ [nl] } x10 x5 := S.re (x' := { x with ls := x.ls ++ [nl] }) (by rw [s11.1]; exact l10) (fun q hq => by rw [s11.2 q (by omega)]; exact k10 q (by omega)) p11
        (o10.keep fun q hq _ => s11.2 q (by omega)) (S.ow.keep fun q hq hin => by rw [s11.2 q (by omega)]; exact k10' q (S.ow.lt hin).2 fun hh => S.ne q hh hin)
        (fun q h1 h2 => by rcases i10 q h1 with h1 | h1; exact S.ne q h1 h2; have := (S.ow.lt h2).2; omega) rfl
        ⟨S.B.r, S.B.t7, S.B.t8, S.B.fs, by show (x.ls ++ [nl]).length ≤ _; simp [-bind_some]; omega, fun p hp => by
          rcases List.mem_append.1 hp with hp | hp
          · exact S.B.lt p hp
          · rw [List.mem_singleton.1 hp, ← hln]; simp [-bind_some], S.B.ft⟩
      simp only [S1.ld3, bs, dBin_add]
      refine wst3 (kk := 0) (off := 0 + 3) (row := evx { x with ls := x.ls ++ [nl] } x10 x5) S1.b3 (by rfl) (by rfl) (by simp [-bind_some, evx]) (by rfl) fun g12 p12 s12 => ?_
      rw [sp_set _ _ _ _ _ rfl (by omega)] at p12
      refine .some (.inl ⟨rfl, k - 1, by omega, _, _, { x with ls := x.ls ++ [nl], a3 := IntKind.wrap .i64 (x.a3 + 1) }, x10, rfl, S1.upd (x' := { x with ls := x.ls ++ [nl], a3 := IntKind.wrap .i64 (x.a3 + 1) }) s12 p12 rfl rfl rfl ⟨S1.B.r, S1.B.t7, S1.B.t8, S1.B.fs, S1.B.ls, S1.B.lt, S1.B.ft⟩, ?_⟩)
      show k - 1 + (x.ls ++ [nl]).length = _
      simp [-bind_some]; omega
    · rintro ⟨ex, ds, g⟩ ⟨rfl, hP⟩
      exact .some ⟨rfl, hP⟩
  · rintro ⟨ex, ds, g⟩ ⟨rfl, x, ld, fd, S⟩
    have hl := S.hl
    have lde : dLoad tab g ty31 (.ptr (h.length + 2) 0 0) = some (.agg (evx x ld fd)) := by rw [ldp31, row_of S.b3]; rfl
    simp only [unblk_nrm, toEnd_nrm, lde, bs]
    obtain ⟨e, he⟩ := S.b1
    refine wst31 (kk := 0) (off := 0 + 1) (row := .str x.r :: evr e) (v := .agg (evx x ld fd)) he (by rfl) (by rfl) (by simp [-bind_some, evr]) (by rfl) fun g1 p1 s1 => ?_
    have p1 : g1[h.length]? = some (.row ty74 11 [x.row ld fd]) := p1
    have ld1 : dLoad tab g1 ty74 (.ptr h.length 0 0) = some (.agg (x.row ld fd)) := by rw [ldp74, row_of p1]; rfl
    simp only [ld1, bs]
    refine wst74 (kk := 0) (off := 0) (row := itr zit) (v := .agg (x.row ld fd)) (by rw [s1.2 _ (by omega)]; exact S.b2) (by rfl) (by rfl) (by exact Nat.le_refl _) (by rfl) fun g2 p2 s2 => ?_
    have p2 : g2[h.length + 1]? = some (.row ty74 11 [x.row ld fd]) := p2
    have ld2 : dLoad tab g2 ty74 (.ptr (h.length + 1) 0 0) = some (.agg (x.row ld fd)) := by rw [ldp74, row_of p2]; rfl
    simp only [ld2, bs, mkRes_one]
    have ol : Own g2 (h.length + 3) ty78 3 (x.ls.map linr) ld := S.ol.keep fun q hq _ => by rw [s2.2 q (by omega), s1.2 q (by omega)]
    have ow : Own g2 (h.length + 3) ty109 2 (x.fs.map Go.Proofs.YtlpedofpnbggbaaDoor.fld) fd := S.ow.keep fun q hq _ => by rw [s2.2 q (by omega), s1.2 q (by omega)]
    have sl := own_sl (n0 := h.length) (n := 2) ol (by omega) fun a _ d hd => by
      simp only [linr, List.mem_cons, List.not_mem_nil, or_false] at hd
      rcases hd with rfl | rfl | rfl <;> simp [-bind_some]
    have sf := own_sl (n0 := h.length) (n := 2) ow (by omega) fun a _ d hd => by
      simp only [Go.Proofs.YtlpedofpnbggbaaDoor.fld, List.mem_cons, List.not_mem_nil, or_false] at hd
      rcases hd with rfl | rfl <;> simp [-bind_some]
    have hls := S.B.ls
    have hfs := S.B.fs
    obtain ⟨j, hj⟩ : ∃ j, j = mkIt x _ _ sl sf (by omega) (by omega) := ⟨_, rfl⟩
    have hjr : itr j = x.row (frz h.length g2 3 ld) (frz h.length g2 3 fd) := by rw [hj]; rfl
    have Sx := (S.s.app (g' := g1) (by rw [s1.1]; exact Nat.le_refl _) fun q hq => s1.2 q (by omega)).app (g' := g2) (by rw [s2.1]; exact Nat.le_refl _) fun q hq => s2.2 q (by omega)
    obtain ⟨h', hsc, hcd, hsm⟩ := Sx.scope (d := .agg (x.row ld fd)) (d' := .agg (itr j)) (by rw [frz_agg, hjr]; simp [-bind_some, RI.row, itc]) (itr_ok _ j)
    rw [hsc]
    exact .some ⟨j, rfl, hcd, hsm, by rw [hj]; exact S.B⟩
theorem s1117p (l : List Int) (o : Nat) (rest : List (List D)) (h : Hp) (ho : h[o]? = some (.row ty5 1 (l.map byr ++ rest))) (hl : l.length ≤ 9223372036854775806) (hu : ∀ z ∈ l, U8 z) : R fn1117 [.msl 1 o 0 l.length] h = some (.int .u64 (chkS l), h) := by
  refine s1117x l _ h (lenm22 _ _ _ _) (fun i z hz => ?_) hl hu
  have hlt := (List.getElem?_eq_some_iff.1 hz).1
  refine ⟨.ptr o (0 + i) 0, by rw [ixm22]; simp [-bind_some, hlt], ?_⟩
  rw [ldp5, row_of ho, List.getElem?_append_left (by simpa using hlt), List.getElem?_map]
  simp [-bind_some, hz, byr]
theorem app22r {h : Hp} {o : Nat} {l m : List Int} {sl : List (List D)} {y : D} (ho : h[o]? = some (.row ty5 1 (l.map byr ++ sl))) (hy : dRowsOf h 1 y = some (m.map byr)) (hl : l.length + m.length ≤ 1000000000) (hr : m.length ≤ sl.length) :
    ∃ h', dAppend tab h ty22 ty22 (.msl 1 o 0 l.length) y = some (.msl 1 o 0 (l ++ m).length, h') ∧ h'[o]? = some (.row ty5 1 ((l ++ m).map byr ++ sl.drop m.length)) ∧ Same o h h' := by
  obtain ⟨h', e1, e2, e3⟩ := app_room (T := tab) (t := ty22) (e := ty5) (i := ti22) (j := ti5) (id rfl) (id rfl) (id rfl) (by decide) (rows := l.map byr) (sl := sl) (ys := m.map byr) (y := y) ho hy (lim_ok (by
    have : (ti5.by_ : Nat) = 1 := id rfl
    rw [this]; simp [-bind_some]; omega) (by simp; omega)) (by simpa using hr)
  have z1 : ti5.sz = 1 := id rfl
  rw [z1] at e1 e2
  simp only [List.length_map] at e1 e2
  refine ⟨h', by rw [e1]; simp [-bind_some], by rw [e2, List.map_append], e3⟩
theorem l1116r (v : Int) : ∀ (k : Nat), k ≤ 8 → ∀ (h : Hp) (l : List Int) (sl : List (List D)) (o : Nat) (a : D), h[o]? = some (.row ty5 1 (l.map byr ++ sl)) → k ≤ sl.length → l.length + k ≤ 1000000000 → ∃ h' b, loopW (F1116_L0 (.int .u64 v)) [.msl 1 o 0 l.length, .int .i64 ((k : Int) - 1), a] h = some (.ext 0, [.msl 1 o 0 (l ++ putb k v).length, b, .bool false], h') ∧ h'[o]? = some (.row ty5 1 ((l ++ putb k v).map byr ++ sl.drop k)) ∧ Same o h h' := by
  intro k
  induction k with
  | zero =>
    intro _ h l sl o a ho hs hr
    rw [loopW_eq]
    refine ⟨h, .int .i64 (-1), by simp [-bind_some, F1116_L0, putb], by simpa [-bind_some, putb] using ho, .refl _ _⟩
  | succ k ih =>
    intro hk h l sl o a ho hs hr
    have hg : (0 : Int) ≤ ((k + 1 : Nat) : Int) - 1 := by omega
    have hw1 : IntKind.wrap .i64 (8 * (((k + 1 : Nat) : Int) - 1)) = 8 * (k : Int) := by rw [wrap_i64 (by omega) (by omega)]; omega
    have hw2 : IntKind.wrap .i64 (((k + 1 : Nat) : Int) - 1 - 1) = (k : Int) - 1 := by rw [wrap_i64 (by omega) (by omega)]; omega
    have hw3 : IntKind.wrap .u64 (8 * (k : Int)) = 8 * (k : Int) := wrap_u64 (by omega) (by omega)
    have h8 : ¬ (8 * (k : Int)) < 0 := by omega
    have hmn : min (8 * (k : Int)).toNat IntKind.u64.bits = 8 * k := by
      have : IntKind.u64.bits = 64 := rfl
      rw [this]; omega
    obtain ⟨g, e1, p1, s1⟩ := app22r (y := .sl 1 true [byr (IntKind.wrap .u8 (v.fdiv (2 ^ (8 * k))))]) (m := [IntKind.wrap .u8 (v.fdiv (2 ^ (8 * k)))]) ho (rowsOf_sl _ _ _ _) (by simp; omega) (by simp; omega)
    obtain ⟨h', b, e2, p2, s2⟩ := ih (by omega) g _ _ o (.bool true) p1 (by simp; omega) (by simp; omega)
    refine ⟨h', b, ?_, ?_, s1.trans s2⟩
    · rw [loopW_eq]
      simp only [F1116_L0, nth_zero, nth_succ, bs, dBin_geq, decide_eq_true hg, dIf_bool, if_true, dBin_mul, hw1, cv3_134, hw3, dBin_shr, h8, if_false, hmn, cv1029_5, bs22_1, show ∀ z, ([[D.int .u8 z]] : List (List D)) = [byr z] from fun _ => rfl, e1, dBin_sub, hw2]
      rw [e2]
      simp [-bind_some, putb]
    · rw [p2]
      simp [-bind_some, putb, Nat.add_comm]
theorem s1116r (v : Int) (k : Nat) (hk : k ≤ 8) (h : Hp) (l : List Int) (sl : List (List D)) (o : Nat) (ho : h[o]? = some (.row ty5 1 (l.map byr ++ sl))) (hs : k ≤ sl.length) (hr : l.length ≤ 999999000) : ∃ h', R fn1116 [.msl 1 o 0 l.length, .int .u64 v, .int .i64 k] h = some (.msl 1 o 0 (l ++ putb k v).length, h') ∧ h'[o]? = some (.row ty5 1 ((l ++ putb k v).map byr ++ sl.drop k)) ∧ Same o h h' := by
  obtain ⟨h', b, e1, B⟩ := l1116r v k hk h l sl o .any ho hs (by omega)
  refine ⟨h', ?_, B⟩
  rw [e1116]
  have hw : IntKind.wrap .i64 ((k : Int) - 1) = (k : Int) - 1 := by rw [wrap_i64 (by omega) (by omega)]
  simp only [F1116, bs, dBin_sub, hw, Option.bind_assoc, e1, unblk_self, toEnd_nrm, nth_zero, mkRes_one]
theorem takeS_fst (s : Cur) (n : Int) : (takeS s n).1.length ≤ s.1.length := by
  unfold takeS
  split
  · exact Nat.zero_le _
  · simp [-bind_some]; omega
theorem textS_val (s : Cur) : ((textS s).1.getD []).length ≤ s.1.length := by
  have h1 := takeS_fst (lenS s).2 (lenS s).1
  have h2 := lenS_le s
  unfold textS
  split
  · simp [-bind_some]
  · simp [-bind_some, bys]; omega
theorem rlnS_le : ∀ (n : Nat) (s : Cur), (rlnS n s).2.1.length ≤ s.1.length
  | 0, s => Nat.le_refl _
  | n + 1, s => by
    have h1 := rlnS_le n (linS s).2
    have h2 := linS_le s
    unfold rlnS
    split
    · exact Nat.le_refl _
    · simp only; omega
theorem rfdS_nm : ∀ (n : Nat) (s : Cur), ∀ p ∈ (rfdS n s).1, p.1.length ≤ s.1.length
  | 0, s, p, hp => by cases hp
  | n + 1, s, p, hp => by
    have h1 := textS_val s
    have h2 := textS_le s
    have h3 := textS_le (textS s).2
    unfold rfdS at hp
    split at hp
    · cases hp
    · rcases List.mem_cons.1 hp with rfl | hp
      · exact h1
      · have := rfdS_nm n (fdS s).2 p hp
        have h4 : (fdS s).2.1.length = (textS (textS s).2).2.1.length := rfl
        omega
theorem rvI_nm (s : Cur) : ∀ p ∈ (rvI s).fs, p.1.length ≤ s.1.length := by
  intro p hp
  have h1 := rfdS_nm _ _ p (show p ∈ (rfdS (lenS (rvC s)).1.toNat (lenS (rvC s)).2).1 from hp)
  have h2 := lenS_le (rvC s)
  have h3 := textS_le (textS (numS (numS (rvL s).2).2).2).2
  have h4 := textS_le (numS (numS (rvL s).2).2).2
  have h5 := numS_le (numS (rvL s).2).2
  have h6 := numS_le (rvL s).2
  have h7 := rlnS_le (lenS (visA s)).1.toNat (lenS (visA s)).2
  have h8 := lenS_le (visA s)
  have h9 := visA_le s
  have e1 : (rvC s).1.length = (textS (textS (numS (numS (rvL s).2).2).2).2).2.1.length := rfl
  have e2 : (rvL s).2.1.length = (rlnS (lenS (visA s)).1.toNat (lenS (visA s)).2).2.1.length := rfl
  omega
theorem dec_both (l : List Int) (d : D) (h : Hp) (hd : SlOf 1 byr l d) (hl : l.length ≤ 1000000000) (hu : ∀ z ∈ l, U8 z) : ∃ (j j' : It) (n e : Int),
    R fn1129 [d] h = some (.tup [.agg (itr j), .int .i64 n, .int .i64 e], h) ∧ R fn1130 [d] h = some (.tup [.agg (itr j'), .int .i64 n, .int .i64 e], h) ∧ riOf j = riOf j' := by
  obtain ⟨V, hV⟩ : ∃ V, V = visI ((l.take (num (l.take 4)).toNat).drop 4, false) := ⟨_, rfl⟩
  obtain ⟨W, hW⟩ : ∃ W, W = rvI ((l.take (num (l.take 4)).toNat).drop 4, false) := ⟨_, rfl⟩
  have key : ∀ X : RI, ∃ c : Int, ∀ j : It, riOf j = X → itE j = c := fun X => by
    by_cases hx : ∃ j : It, riOf j = X
    · obtain ⟨j, hj⟩ := hx
      exact ⟨itE j, fun j' hj' => (ri_cong (hj'.trans hj.symm)).2.1⟩
    · exact ⟨0, fun j hj => absurd ⟨j, hj⟩ hx⟩
  obtain ⟨c, hc⟩ := key V
  obtain ⟨c', hc'⟩ : ∃ c' : Int, (∀ j : It, riOf j = W → itE j = c') ∧ (W = V → c' = c) := by
    by_cases hVW : W = V
    · subst hVW; exact ⟨c, hc, fun _ => rfl⟩
    · obtain ⟨c', h'⟩ := key W
      exact ⟨c', h', fun hh => absurd hh hVW⟩
  obtain ⟨j, e1, r1⟩ := s1129 l d c h hd hl hu fun j hj g => by
    rw [← hc j (hj.trans hV.symm)]; exact s1042w j g
  obtain ⟨j', e2, r2⟩ := s1130 l d c' h hd hl hu fun j hj g => by
    rw [← hc'.1 j (hj.trans hW.symm)]
    refine s1004g j g fun p hp => ?_
    have hp : p ∈ (riOf j).fs := hp
    rw [hj] at hp
    have : p.1.length ≤ ((l.take (num (l.take 4)).toNat).drop 4).length := rvI_nm _ p hp
    have h2 : ((l.take (num (l.take 4)).toNat).drop 4).length ≤ l.length := by simp; omega
    omega
  have hs := dec_same c' c l fun hh => hc'.2 (by rw [hW, hV, hh])
  rw [hs] at e2 r2
  exact ⟨j, j', _, _, e1, e2, r1.trans r2.symm⟩
theorem ri_same {j j' : It} (h : riOf j = riOf j') : sameI j j' = true := (ri_cong h).2.2.2
theorem rb_body {n m : Nat} {i : It} (h : RB n m (riOf i)) (hn : n ≤ 1000) (hm : m ≤ 1000) : (bodyI i).length ≤ 10000000 := by
  have h1 := flat_bound lnB 1020 i.e.ls (fun l hl => by
    have := h.lt l hl
    simp only [lnB, List.length_append, pI_len, pS_len]; omega)
  have h2 : (i.e.fs.map fdB).flatten.length ≤ i.e.fs.length * 2008 := flat_bound fdB 2008 i.e.fs (fun p hp => by
    have := h.ft p hp
    simp only [fdB, List.length_append, pS_len]; omega)
  have h3 : i.e.fs.length ≤ n := h.fs
  have h4 : i.e.ls.length ≤ m := h.ls
  have h5 : i.r.length ≤ 1000 := h.r
  have h6 : i.e.s7.length ≤ 1000 := h.t7
  have h7 : i.e.s8.length ≤ 1000 := h.t8
  have h8 : (i.e.fs.length * 2008 : Nat) ≤ 1000 * 2008 := Nat.mul_le_mul_right _ (by omega)
  have h9 : (i.e.ls.length * 1020 : Nat) ≤ 1000 * 1020 := Nat.mul_le_mul_right _ (by omega)
  simp only [bodyI, bodyB, bodyA, List.length_append, pI_len, pS_len, pN_len]
  omega
theorem rb_nm {n m : Nat} {i : It} (h : RB n m (riOf i)) : NmB i.e := fun p hp => by
  have := (h.ft p hp).1
  omega
theorem enc_both {n m : Nat} {i : It} (h : RB n m (riOf i)) (hn : n ≤ 1000) (hm : m ≤ 1000) (g : Hp) : ∃ (d d' : D) (s : Str),
    R fn1128 [.agg (itr i)] g = some (.tup [d, .int .i64 (itE i)], g) ∧ R fn1114 [.agg (itr i)] g = some (.tup [d', .int .i64 (itE i)], g) ∧ dToStr g d = some (.str s) ∧ dToStr g d' = some (.str s) := by
  have hb := rb_body h hn hm
  obtain ⟨d, e1, s1⟩ := s1128 i (itE i) g (fun g => s1042w i g) (by omega)
  obtain ⟨d', e2, s2⟩ := s1114 i (itE i) g (fun g => s1004g i g (rb_nm h)) (by omega)
  exact ⟨d, d', _, e1, e2, toStr_by s1, toStr_by s2⟩
theorem itk_rb {i : It} (hi : ItK i) : RB 4 3 (riOf i) := by
  obtain ⟨hR, _⟩ := itk_r hi
  have l3 := hi.l3
  have f4 := hi.fs
  obtain ⟨ch, a0, a9, l1⟩ := hi.ch
  have tx := mch_txt _ _ _ ch a0 (by omega)
  have hh : i.r.length ≤ 32 ∧ i.e.s7.length ≤ 32 ∧ i.e.s8.length ≤ 32 ∧ ∀ p ∈ i.e.fs, p.1.length ≤ 1000 ∧ p.2.length ≤ 1000 := by
    rcases hi with ⟨hr, g⟩ | g
    · refine ⟨by rw [hr]; simp [-bind_some], (show ∀ s ∈ lt98_15, s.length ≤ 32 by decide) _ g.tr, (show ∀ s ∈ lt98_16, s.length ≤ 32 by decide) _ g.st, fun p hp => ⟨?_, (show ∀ s ∈ lt98_18, s.length ≤ 1000 by decide) _ (g.fs.2 p hp)⟩⟩
      exact (show ∀ s ∈ lt98_17, s.length ≤ 1000 by decide) _ (g.fs.1.subset (List.mem_map.2 ⟨p, hp, rfl⟩))
    · exact ⟨(show ∀ s ∈ lt98_35, s.length ≤ 32 by decide) _ g.r, by rw [g.tr]; simp [-bind_some], by rw [g.st]; simp [-bind_some], fun p hp => by rw [g.fs] at hp; cases hp⟩
  obtain ⟨r1, r2, r3, r8⟩ := hh
  exact ⟨by show i.r.length ≤ 1000; omega, by show i.e.s7.length ≤ 1000; omega, by show i.e.s8.length ≤ 1000; omega, f4, l3, fun l hl => by have := (tx l hl).2; omega, r8⟩
end Go.Proofs.YtlpedofpnbggbaaDoor
