import Derived.Test.YtiamjjeflmcgoaaW9
import Derived.Test.YtiamjjeflmcgoaaS6
set_option linter.unusedSimpArgs false
set_option linter.unusedVariables false
set_option linter.unnecessarySimpa false
namespace Go.Proofs.Ytiamjjeflmcgoaa
open Go.Eng Go.Pi
def ev0 : Ev := ⟨0, 0, 0, 0, [], .nils, 0, 0, [], [], [], .nils, SlOf.nils _ _, by simp [-Option.bind_some], SlOf.nils _ _, by simp [-Option.bind_some]⟩
theorem s14 (h : Hp) : R 14 [] h = some (.bool true, h) := by
  rw [e14]
  have h1 := s18 [⟨[120], [121], [], 0⟩, ⟨[122], [], [], 0⟩] _ ev0 h (SlOf.mk 4 polr _ true) (by simp [-Option.bind_some])
  have h2 : polI [⟨[120], [121], [], 0⟩, ⟨[122], [], [], 0⟩] ev0 = 1 := by decide
  rw [h2] at h1
  simp only [List.map, polr, evr, ev0] at h1
  simp [-Option.bind_some, F14, h1]
theorem s15 (zs : List Int) (d : D) (h : Hp) (hd : Given .u8 zs d) (hz : ∀ z ∈ zs, 0 ≤ z ∧ z < 256) : ∃ (dp dh de : D) (now : Int) (h' : Hp) (ps : List Pol) (hs : List Hld) (es : List Ev), R 15 [d] h = some (.tup [dp, dh, de, .int .i64 now, .ptr h.length 0 0], h') ∧ CD h' h.length ∧ h'.length = h.length + 1
    ∧ SlOf 4 polr ps dp ∧ ps.length ≤ 3 ∧ SlOf 5 hldr hs dh ∧ hs.length ≤ 2 ∧ SlOf 10 evr es de ∧ EvsOK es ∧ es.length ≤ 600 ∧ -9223372036854775808 ≤ now ∧ now ≤ 253402300800000 := by
  suffices Wp (R 15 [d] h) (fun p => ∃ (dp dh de : D) (now : Int) (ps : List Pol) (hs : List Hld) (es : List Ev), p.1 = .tup [dp, dh, de, .int .i64 now, .ptr h.length 0 0] ∧ CD p.2 h.length ∧ p.2.length = h.length + 1
    ∧ SlOf 4 polr ps dp ∧ ps.length ≤ 3 ∧ SlOf 5 hldr hs dh ∧ hs.length ≤ 2 ∧ SlOf 10 evr es de ∧ EvsOK es ∧ es.length ≤ 600 ∧ -9223372036854775808 ≤ now ∧ now ≤ 253402300800000) by
    obtain ⟨⟨x, h'⟩, h1, dp, dh, de, now, ps, hs, es, rfl, h2⟩ := this
    exact ⟨dp, dh, de, now, h', ps, hs, es, h1, h2⟩
  rw [e15]
  simp only [F15, bs]
  obtain ⟨h0, e0, c0, hl0⟩ := d44 zs d 400 h hd (by omega) (by omega) hz
  refine Wp.step e0 ?_
  simp only [bs]
  obtain ⟨dp, h1, e1, c1, s1, ps, hp, hpl⟩ := d45 c0
  refine Wp.step e1 ?_
  simp only [bs]
  obtain ⟨dh, h2, e2, c2, s2, hs, hh, hhl⟩ := d46 c1
  refine Wp.step e2 ?_
  simp only [bs]
  obtain ⟨tm, h3, e3, c3, s3, t0, t1⟩ := d35 c2
  refine Wp.step e3 ?_
  simp only [bs]
  obtain ⟨u, h4, e4, c4, s4, u0, u1⟩ := next_b c3 3 (by omega) (by omega)
  refine Wp.step e4 ?_
  simp only [bs]
  obtain ⟨w, h5, e5, c5, s5, w0, w1⟩ := next_b c4 256 (by omega) (by omega)
  refine Wp.step e5 ?_
  have m0 : 0 ≤ u * w := Int.mul_nonneg u0 w0
  have m1 : u * w ≤ 2 * 255 := Int.mul_le_mul (by omega) (by omega) w0 (by omega)
  simp only [dBin_mul, dBin_add, bs, wrap_i64 (n := u * w) (by omega) (by omega), wrap_i64 (n := u * w * 40000000) (by omega) (by omega), wrap_i64 (n := tm + u * w * 40000000) (by omega) (by omega)]
  obtain ⟨v, h6, e6, c6, s6, v0, v1⟩ := next_b c5 8 (by omega) (by omega)
  refine Wp.step e6 ?_
  have s06 := ((((s1.trans s2).trans s3).trans s4).trans s5).trans s6
  clear e0 e1 e2 e3 e4 e5 e6
  simp only [dBin_eql, bs]
  refine Wp.join (P := fun r => ∃ now g, r = (.nrm, [.int .i64 now], g) ∧ CD g h.length ∧ Same h.length h0 g ∧ -9223372036854775808 ≤ now) ?_ ?_ ?_
  · intro _
    obtain ⟨n, h7, e7, c7, s7, n0, n1⟩ := d47 c6
    refine Wp.step e7 ?_
    simp only [bs]
    exact .some ⟨n, h7, rfl, c7, s06.trans s7, n0⟩
  · intro _
    exact .some ⟨_, h6, rfl, c6, s06, by omega⟩
  rintro _ ⟨now, g, rfl, cg, sg, hn⟩
  simp only [toEnd_nrm, nth_zero, bs]
  obtain ⟨de, h8, e8, c8, s8, es, he, heo, hel⟩ := d48 cg 5 (by omega) (by omega)
  refine Wp.step e8 ?_
  simp only [dMin_int, bs, mkRes_two]
  have hlen : h8.length = h.length + 1 := by rw [s8.1, sg.1, hl0]
  by_cases hm : now ≤ 253402300800000
  · simp only [hm, if_true]
    exact .some ⟨dp, dh, de, now, ps, hs, es, rfl, c8, hlen, hp, hpl, hh, hhl, he, heo, hel, hn, hm⟩
  · simp only [hm, if_false]
    exact .some ⟨dp, dh, de, _, ps, hs, es, rfl, c8, hlen, hp, hpl, hh, hhl, he, heo, hel, by omega, by omega⟩
theorem expi_held (ps : List Pol) (hs : List Hld) (now : Int) (e : Ev) : (expi ps hs now e).isSome = true → held hs e = false := by
  unfold expi
  split
  · split
    · rename_i h; intro _; exact h.2.2.2.2
    · intro h; cases h
  · intro h; cases h
theorem s4 (zs : List Int) (d : D) (h : Hp) (hd : Given .u8 zs d) (hz : ∀ z ∈ zs, 0 ≤ z ∧ z < 256) : ∃ h', R 4 [d] h = some (.bool true, h') := by
  suffices Wp (R 4 [d] h) (fun p => p.1 = .bool true) by
    obtain ⟨⟨x, h'⟩, h1, rfl⟩ := this
    exact ⟨h', h1⟩
  rw [e4]
  simp only [F4, bs, s14, dUn_not, dIf_bool, Bool.not_true, Bool.false_eq_true, if_false]
  obtain ⟨dp, dh, de, now, h1, ps, hs, es, e1, c1, hl1, hp, hpl, hh, hhl, he, heo, hel, hn0, hn1⟩ := s15 zs d h hd hz
  refine Wp.step e1 ?_
  simp only [bs, dExtract_tup, List.getElem?_cons_zero, List.getElem?_cons_succ, Option.bind_assoc]
  refine Wp.loop (fun k ds g => ∃ a b c e f p q, ∃ j : Nat, ds = [a, .int .i64 j, b, c, e, f, p, q] ∧ k + j = es.length)
    (fun r => r.1 = .ext 0) es.length ⟨_, _, _, _, _, _, _, 0, rfl, rfl⟩ ?_ ?_
  · rintro k ds g ⟨a, b, c, e, f, p, q, j, rfl, hk⟩
    by_cases hj : j < es.length
    · have hji : (j : Int) < es.length := by omega
      have hg : es[j]? = some es[j] := List.getElem?_eq_getElem hj
      generalize es[j] = ev at hg
      have hix : dIndexAddr tab 40 de (.int .i64 j) = some (.fptr (evr ev)) := by rw [ixs40 he]; simp [-Option.bind_some, hg]
      have hw : IntKind.wrap .i64 ((j : Int) + 1) = ((j + 1 : Nat) : Int) := by
        rw [wrap_i64 (by omega) (by omega)]; omega
      have hexp := expi_held ps hs now ev
      suffices ∃ a' b' c' e' f' p' q', F4_L0 dp dh de (.int .i64 now) [a, .int .i64 j, b, c, e, f, p, q] g = some (.nrm, [a', .int .i64 ((j + 1 : Nat) : Int), b', c', e', f', p', q'], g) by
        obtain ⟨a', b', c', e', f', p', q', hr⟩ := this
        exact ⟨_, hr, .inl ⟨rfl, k - 1, by omega, _, _, _, _, _, _, _, j + 1, rfl, by omega⟩⟩
      cases hx : (expi ps hs now ev).isSome
      · refine ⟨a, .str ((expi ps hs now ev).getD []), .bool (expi ps hs now ev).isSome, .str ((expi ps hs now ev).getD []), .bool (expi ps hs now ev).isSome, .bool true, .bool false, ?_⟩
        simp [-Option.bind_some, F4_L0, lens40 he, hji, hix, evL, s16 ps dp hs dh now ev g hp (by omega) hh (by omega), s17 ps dp hs dh now ev g hp (by omega) hh (by omega), s18 ps dp ev g hp (by omega), s19 ps dp ev g hp (by omega), s20 hs dh ev g hh (by omega), s21 hs dh ev g hh (by omega), expD, hx, hw]
      · rw [hx] at hexp
        refine ⟨a, .str ((expi ps hs now ev).getD []), .bool (expi ps hs now ev).isSome, .str ((expi ps hs now ev).getD []), .bool (expi ps hs now ev).isSome, .bool true, .bool false, ?_⟩
        simp [-Option.bind_some, F4_L0, lens40 he, hji, hix, evL, s16 ps dp hs dh now ev g hp (by omega) hh (by omega), s17 ps dp hs dh now ev g hp (by omega) hh (by omega), s18 ps dp ev g hp (by omega), s19 ps dp ev g hp (by omega), s20 hs dh ev g hh (by omega), s21 hs dh ev g hh (by omega), expD, hx, hw, hexp rfl]
    · have hji : ¬ (j : Int) < es.length := by omega
      simp only [F4_L0, nth_zero, nth_succ, bs, lens40 he, dBin_lss, hji, decide_false, dIf_bool, Bool.false_eq_true, if_false]
      exact .some (.inr ⟨by simp [-Option.bind_some], rfl⟩)
  · rintro ⟨ex, ds, g⟩ rfl
    simp only [unblk_self, toEnd_nrm, bs, mkRes_one]
    exact .some rfl
end Go.Proofs.Ytiamjjeflmcgoaa
