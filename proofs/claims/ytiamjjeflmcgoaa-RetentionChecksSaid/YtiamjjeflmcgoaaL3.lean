/- Laws, on plain data, about functions that the statement reaches. -/
import Derived.Test.YtiamjjeflmcgoaaL2
set_option linter.unusedSimpArgs false
set_option linter.unusedVariables false
set_option linter.unnecessarySimpa false
namespace Go.Proofs.Ytiamjjeflmcgoaa
open Go.Eng Go.Pi
theorem s14 (h : Hp) : R fn14 [] h = some (.bool true, h) := by
  rw [e14]
  have h1 := s18 [⟨[120], [121], [], 0⟩, ⟨[122], [], [], 0⟩] _ ev0 h (SlOf.mk 4 polr _ true) (by simp [-Option.bind_some])
  have h2 : polI [⟨[120], [121], [], 0⟩, ⟨[122], [], [], 0⟩] ev0 = 1 := by decide
  rw [h2] at h1
  simp only [List.map, polr, evr, ev0] at h1
  simp [-Option.bind_some, F14, h1]
theorem chkL_ok {α : Type} {nm : α → Str} {bad : α → Bool} : ∀ (l : List α) (seen : List Str), (seen ++ l.map nm).Nodup → (∀ p ∈ l, nameOK (nm p) = true) → (∀ p ∈ l, bad p = false) → chkL nm bad seen l = 0
  | [], _, _, _, _ => rfl
  | p :: r, seen, hn, hk, hb => by
    have h1 : ¬ nm p ∈ seen := fun hm => by
      rw [List.nodup_append] at hn
      exact hn.2.2 _ hm _ (by simp [-Option.bind_some]) rfl
    have h2 := chkL_ok r (seen ++ [nm p]) (by simpa [-Option.bind_some] using hn) (fun q hq => hk q (by simp [-Option.bind_some, hq])) (fun q hq => hb q (by simp [-Option.bind_some, hq]))
    simp only [chkL, hk p (by simp [-Option.bind_some]), hb p (by simp [-Option.bind_some]), if_true, if_neg h1, Bool.false_eq_true, if_false, h2]
theorem chkA_ok {α : Type} {nm : α → Str} {bad : α → Bool} {l : List α} {names : List Str} (hs : (l.map nm).Sublist names) (hn : names.Nodup) (hk : ∀ s ∈ names, nameOK s = true) (hb : ∀ p ∈ l, bad p = false) (hl : l.length ≤ 16) : chkA nm bad l = 0 := by
  have h0 : ¬ 16 < l.length := by omega
  simp only [chkA, if_neg h0]
  exact chkL_ok l [] (by simpa [-Option.bind_some] using hs.nodup hn) (fun p hp => hk _ (hs.subset (List.mem_map_of_mem hp))) hb
theorem d45u {h : Hp} {o : Nat} (hc : CD h o) : ∃ x h', R fn45 [.ptr o 0 0] h = some (x, h') ∧ CD h' o ∧ Grow h.length o h h' ∧ ∃ l : List Pol, Own h' h.length ty53 4 (l.map polr) x ∧ l.length ≤ 3 ∧ (l.map (·.n)).Sublist [[119, 97, 114, 110], [115, 101, 118, 101, 110], [97, 108, 108]] ∧ ∀ p ∈ l, badP p = false := by
  suffices Wp (R fn45 [.ptr o 0 0] h) (fun p => CD p.2 o ∧ Grow h.length o h p.2 ∧ ∃ l : List Pol, Own p.2 h.length ty53 4 (l.map polr) p.1 ∧ l.length ≤ 3 ∧ (l.map (·.n)).Sublist [[119, 97, 114, 110], [115, 101, 118, 101, 110], [97, 108, 108]] ∧ ∀ p ∈ l, badP p = false) by
    obtain ⟨⟨x, h'⟩, h1, h2⟩ := this
    exact ⟨x, h', h1, h2⟩
  rw [e45]
  simp only [F45, bs]
  obtain ⟨v, h1, e1, c1, s1, b0, b1⟩ := next_b hc 2 (by omega) (by omega)
  have S1 := (St.refl hc).next c1 s1
  refine Wp.step e1 ?_
  simp only [dBin_eql, bs]
  refine Wp.join (P := fun r => ∃ x g, ∃ l : List Pol, r = (.nrm, [x], g) ∧ St h o g ∧ Own g h.length ty53 4 (l.map polr) x ∧ l.length ≤ 1 ∧ (l.map (·.n)).Sublist [[119, 97, 114, 110]] ∧ ∀ p ∈ l, badP p = false) ?_ ?_ ?_
  · intro _
    obtain ⟨v, h2, e2, c2, s2, b0, b1⟩ := next_b S1.cd 4 (by omega) (by omega)
    have S2 := S1.next c2 s2
    refine Wp.step e2 ?_
    simp only [dBin_mul, wrap_i64 (n := v * 86400000) (by omega) (by omega), bs, bd53_0_1_2_3, bs38_1]
    refine wap38 S2.le (Own.nils h2 h.length ty53 4) (rowsOf_sl _ _ _ _) (by simp [-Option.bind_some]) fun x' g' ow len bel _ _ => ?_
    simp only [bs]
    exact .some ⟨x', g', [⟨_, _, _, _⟩], rfl, S2.app len bel, ow, by simp [-Option.bind_some], List.Sublist.refl _, fun p hp => by simp [-Option.bind_some] at hp; subst hp; simp [-Option.bind_some, badP]; try omega⟩
  · intro _
    exact .some ⟨_, _, [], rfl, S1, Own.nils _ _ _ _, by simp [-Option.bind_some], by simp [-Option.bind_some], by simp [-Option.bind_some]⟩
  rintro _ ⟨x, g, l, rfl, S, ow, hl, hsub, hbad⟩
  simp only [toEnd_nrm, nth_zero]
  obtain ⟨v, h1, e1, c1, s1, b0, b1⟩ := next_b S.cd 2 (by omega) (by omega)
  have S1 := S.next c1 s1
  replace ow := ow.same s1 hc.lt
  refine Wp.step e1 ?_
  simp only [dBin_eql, bs]
  refine Wp.join (P := fun r => ∃ x g, ∃ l : List Pol, r = (.nrm, [x], g) ∧ St h o g ∧ Own g h.length ty53 4 (l.map polr) x ∧ l.length ≤ 2 ∧ (l.map (·.n)).Sublist [[119, 97, 114, 110], [115, 101, 118, 101, 110]] ∧ ∀ p ∈ l, badP p = false) ?_ ?_ ?_
  · intro _
    obtain ⟨v, h2, e2, c2, s2, b0, b1⟩ := next_b S1.cd 50 (by omega) (by omega)
    have S2 := S1.next c2 s2
    replace ow := ow.same s2 hc.lt
    refine Wp.step e2 ?_
    simp only [dBin_add, wrap_i64 (n := 1 + v) (by omega) (by omega), bs, bd53_0_1_2_3, bs38_1]
    refine wap38 S2.le ow (rowsOf_sl _ _ _ _) (by simp [-Option.bind_some]; omega) fun x' g' ow len bel _ _ => ?_
    simp only [bs]
    exact .some ⟨x', g', l ++ [⟨_, _, _, _⟩], rfl, S2.app len bel, by rw [List.map_append]; exact ow, by simp [-Option.bind_some]; omega, by rw [List.map_append]; exact hsub.append (List.Sublist.refl _), fun p hp => by rcases List.mem_append.1 hp with hp | hp; exact hbad p hp; simp [-Option.bind_some] at hp; subst hp; simp [-Option.bind_some, badP]; try omega⟩
  · intro _
    exact .some ⟨_, _, l, rfl, S1, ow, by omega, hsub.trans (List.sublist_append_left _ _), hbad⟩
  clear S hl e1 S1 ow
  rintro _ ⟨x, g, l, rfl, S, ow, hl, hsub, hbad⟩
  simp only [toEnd_nrm, nth_zero]
  obtain ⟨v, h1, e1, c1, s1, b0, b1⟩ := next_b S.cd 3 (by omega) (by omega)
  have S1 := S.next c1 s1
  replace ow := ow.same s1 hc.lt
  refine Wp.step e1 ?_
  simp only [dBin_gtr, bs]
  refine Wp.join (P := fun r => ∃ x g, ∃ l : List Pol, r = (.nrm, [x], g) ∧ St h o g ∧ Own g h.length ty53 4 (l.map polr) x ∧ l.length ≤ 3 ∧ (l.map (·.n)).Sublist [[119, 97, 114, 110], [115, 101, 118, 101, 110], [97, 108, 108]] ∧ ∀ p ∈ l, badP p = false) ?_ ?_ ?_
  · intro _
    simp only [lt82_2_ok, bs]
    obtain ⟨v, h2, e2, c2, s2, b0, b1⟩ := next_b S1.cd 5 (by omega) (by omega)
    have S2 := S1.next c2 s2
    replace ow := ow.same s2 hc.lt
    obtain ⟨s, hs, hg⟩ := pick_of lt82_2 v b0 b1
    have hsb := (show ∀ s ∈ lt82_2, 0 ≤ s ∧ s ≤ 253402300799999 by decide) s hs
    refine Wp.step e2 ?_
    simp only [ix82, b0, if_true, List.getElem?_map, hg, Option.map_some, bs, ld3, bd53_0_3, bs38_1]
    refine wap38 S2.le ow (rowsOf_sl _ _ _ _) (by simp [-Option.bind_some]; omega) fun x' g' ow len bel _ _ => ?_
    simp only [bs]
    exact .some ⟨x', g', l ++ [⟨_, _, _, _⟩], rfl, S2.app len bel, by rw [List.map_append]; exact ow, by simp [-Option.bind_some]; omega, by rw [List.map_append]; exact hsub.append (List.Sublist.refl _), fun p hp => by rcases List.mem_append.1 hp with hp | hp; exact hbad p hp; simp [-Option.bind_some] at hp; subst hp; simp [-Option.bind_some, badP]; try omega⟩
  · intro _
    exact .some ⟨_, _, l, rfl, S1, ow, by omega, hsub.trans (List.sublist_append_left _ _), hbad⟩
  clear S hl e1 S1 ow
  rintro _ ⟨x, g, l, rfl, S, ow, hl, hsub, hbad⟩
  simp only [toEnd_nrm, nth_zero, bs, mkRes_one]
  exact .some ⟨S.cd, S.gr, l, ow, hl, hsub, hbad⟩
theorem d46u {h : Hp} {o : Nat} (hc : CD h o) : ∃ x h', R fn46 [.ptr o 0 0] h = some (x, h') ∧ CD h' o ∧ Grow h.length o h h' ∧ ∃ l : List Hld, Own h' h.length ty56 5 (l.map hldr) x ∧ l.length ≤ 2 ∧ (l.map (·.n)).Sublist [[99, 97, 115, 101, 49], [99, 97, 115, 101, 50]] ∧ ∀ p ∈ l, badH p = false := by
  suffices Wp (R fn46 [.ptr o 0 0] h) (fun p => CD p.2 o ∧ Grow h.length o h p.2 ∧ ∃ l : List Hld, Own p.2 h.length ty56 5 (l.map hldr) p.1 ∧ l.length ≤ 2 ∧ (l.map (·.n)).Sublist [[99, 97, 115, 101, 49], [99, 97, 115, 101, 50]] ∧ ∀ p ∈ l, badH p = false) by
    obtain ⟨⟨x, h'⟩, h1, h2⟩ := this
    exact ⟨x, h', h1, h2⟩
  rw [e46]
  simp only [F46, bs]
  obtain ⟨v, h1, e1, c1, s1, b0, b1⟩ := next_b hc 3 (by omega) (by omega)
  have S1 := (St.refl hc).next c1 s1
  refine Wp.step e1 ?_
  simp only [dBin_eql, bs]
  refine Wp.join (P := fun r => ∃ x g, ∃ l : List Hld, r = (.nrm, [x], g) ∧ St h o g ∧ Own g h.length ty56 5 (l.map hldr) x ∧ l.length ≤ 1 ∧ (l.map (·.n)).Sublist [[99, 97, 115, 101, 49]] ∧ ∀ p ∈ l, badH p = false) ?_ ?_ ?_
  · intro _
    obtain ⟨v, h2, e2, c2, s2, _⟩ := d33 S1.cd
    have S2 := S1.next c2 s2
    refine Wp.step e2 ?_
    simp only [bs, bd56_0_1_2_3_4, bs39_1]
    refine wap39 S2.le (Own.nils h2 h.length ty56 5) (rowsOf_sl _ _ _ _) (by simp [-Option.bind_some]) fun x' g' ow len bel _ _ => ?_
    simp only [bs]
    exact .some ⟨x', g', [⟨_, _, _, _, _⟩], rfl, S2.app len bel, ow, by simp [-Option.bind_some], List.Sublist.refl _, fun p hp => by simp [-Option.bind_some] at hp; subst hp; simp [-Option.bind_some, badH]; try omega⟩
  · intro _
    exact .some ⟨_, _, [], rfl, S1, Own.nils _ _ _ _, by simp [-Option.bind_some], by simp [-Option.bind_some], by simp [-Option.bind_some]⟩
  rintro _ ⟨x, g, l, rfl, S, ow, hl, hsub, hbad⟩
  simp only [toEnd_nrm, nth_zero]
  obtain ⟨v, h1, e1, c1, s1, b0, b1⟩ := next_b S.cd 3 (by omega) (by omega)
  have S1 := S.next c1 s1
  replace ow := ow.same s1 hc.lt
  refine Wp.step e1 ?_
  simp only [dBin_eql, bs]
  refine Wp.join (P := fun r => ∃ x y g, ∃ l : List Hld, r = (.nrm, [x, y], g) ∧ St h o g ∧ Own g h.length ty56 5 (l.map hldr) x ∧ l.length ≤ 2 ∧ (l.map (·.n)).Sublist [[99, 97, 115, 101, 49], [99, 97, 115, 101, 50]] ∧ ∀ p ∈ l, badH p = false) ?_ ?_ ?_
  · intro _
    obtain ⟨v, h2, e2, c2, s2, b0, b1⟩ := next_b S1.cd 30 (by omega) (by omega)
    have S2 := S1.next c2 s2
    replace ow := ow.same s2 hc.lt
    refine Wp.step e2 ?_
    simp only [dBin_mul, wrap_i64 (n := v * 86400000) (by omega) (by omega), bs]
    obtain ⟨u, h3, e3, c3, s3, u0, u1⟩ := next_b S2.cd 10 (by omega) (by omega)
    have S3 := S2.next c3 s3
    replace ow := ow.same s3 hc.lt
    refine Wp.step e3 ?_
    simp only [dBin_mul, wrap_i64 (n := u * 86400000) (by omega) (by omega), dBin_add, wrap_i64 (n := v * 86400000 + u * 86400000) (by omega) (by omega), bs, bd56_0_3_4, bs39_1]
    refine wap39 S3.le ow (rowsOf_sl _ _ _ _) (by simp [-Option.bind_some]; omega) fun x' g' ow len bel _ _ => ?_
    simp only [bs]
    exact .some ⟨x', _, g', l ++ [⟨_, _, _, _, _⟩], rfl, S3.app len bel, by rw [List.map_append]; exact ow, by simp [-Option.bind_some]; omega, by rw [List.map_append]; exact hsub.append (List.Sublist.refl _), fun p hp => by rcases List.mem_append.1 hp with hp | hp; exact hbad p hp; simp [-Option.bind_some] at hp; subst hp; simp [-Option.bind_some, badH]; try omega⟩
  · intro _
    exact .some ⟨_, _, _, l, rfl, S1, ow, by omega, hsub.trans (List.sublist_append_left _ _), hbad⟩
  clear S hl e1 S1 ow
  rintro _ ⟨x, y, g, l, rfl, S, ow, hl, hsub, hbad⟩
  simp only [toEnd_nrm, nth_zero, bs, mkRes_one]
  exact .some ⟨S.cd, S.gr, l, ow, hl, hsub, hbad⟩
def polN : List Str := [[119, 97, 114, 110], [115, 101, 118, 101, 110], [97, 108, 108]]
def hldN : List Str := [[99, 97, 115, 101, 49], [99, 97, 115, 101, 50]]
theorem s15u (zs : List Int) (d : D) (h : Hp) (hd : Given .u8 zs d) (hz : ∀ z ∈ zs, 0 ≤ z ∧ z < 256) : ∃ (dp dh de : D) (now : Int) (h' : Hp) (ps : List Pol) (hs : List Hld), R fn15 [d] h = some (.tup [dp, dh, de, .int .i64 now, .ptr h.length 0 0], h') ∧ CD h' h.length ∧ h.length < h'.length
    ∧ Own h' (h.length + 1) ty53 4 (ps.map polr) dp ∧ ps.length ≤ 3 ∧ (ps.map (·.n)).Sublist polN ∧ (∀ p ∈ ps, badP p = false) ∧ Own h' (h.length + 1) ty56 5 (hs.map hldr) dh ∧ hs.length ≤ 2 ∧ (hs.map (·.n)).Sublist hldN ∧ ∀ p ∈ hs, badH p = false := by
  suffices Wp (R fn15 [d] h) (fun p => ∃ (dp dh de : D) (now : Int) (ps : List Pol) (hs : List Hld), p.1 = .tup [dp, dh, de, .int .i64 now, .ptr h.length 0 0] ∧ CD p.2 h.length ∧ h.length < p.2.length
    ∧ Own p.2 (h.length + 1) ty53 4 (ps.map polr) dp ∧ ps.length ≤ 3 ∧ (ps.map (·.n)).Sublist polN ∧ (∀ p ∈ ps, badP p = false) ∧ Own p.2 (h.length + 1) ty56 5 (hs.map hldr) dh ∧ hs.length ≤ 2 ∧ (hs.map (·.n)).Sublist hldN ∧ ∀ p ∈ hs, badH p = false) by
    obtain ⟨⟨x, h'⟩, h1, dp, dh, de, now, ps, hs, rfl, h2⟩ := this
    exact ⟨dp, dh, de, now, h', ps, hs, h1, h2⟩
  rw [e15]
  simp only [F15, bs]
  obtain ⟨h0, e0, c0, hl0⟩ := d44 zs d 400 h hd (by omega) (by omega) hz
  refine Wp.step e0 ?_
  simp only [bs]
  obtain ⟨dp, h1, e1, c1, gr1, ps, op1, hpl, hpn, hpb⟩ := d45u c0
  refine Wp.step e1 ?_
  simp only [bs]
  obtain ⟨dh, h2, e2, c2, gr2, hs, oh2, hhl, hhn, hhb⟩ := d46u c1
  refine Wp.step e2 ?_
  simp only [bs]
  have lt1 : h.length < h1.length := by have := gr1.1; omega
  have lt2 : h.length < h2.length := by have := gr2.1; omega
  have op2 : Own h2 (h.length + 1) ty53 4 (ps.map polr) dp := (op1.keep fun q hq hin => gr2.2 q (op1.lt hin).2 (by omega)).from (by omega)
  replace oh2 : Own h2 (h.length + 1) ty56 5 (hs.map hldr) dh := oh2.from (by omega)
  obtain ⟨tm, h3, e3, c3, s3, t0, t1⟩ := d35 c2
  refine Wp.step e3 ?_
  simp only [bs]
  obtain ⟨u, h4, e4, c4, s4, u0, u1⟩ := next_b c3 3 (by omega) (by omega)
  refine Wp.step e4 ?_
  simp only [bs]
  obtain ⟨w, h5, e5, c5, s5, w0, w1⟩ := next_b c4 256 (by omega) (by omega)
  refine Wp.step e5 ?_
  simp only [dBin_mul, dBin_add, bs]
  obtain ⟨v, h6, e6, c6, s6, v0, v1⟩ := next_b c5 8 (by omega) (by omega)
  refine Wp.step e6 ?_
  have s06 := ((s3.trans s4).trans s5).trans s6
  clear e0 e1 e2 e3 e4 e5 e6
  simp only [dBin_eql, bs]
  refine Wp.join (P := fun r => ∃ now g, r = (.nrm, [.int .i64 now], g) ∧ CD g h.length ∧ Same h.length h2 g) ?_ ?_ ?_
  · intro _
    obtain ⟨n, h7, e7, c7, s7, n0, n1⟩ := d47 c6
    refine Wp.step e7 ?_
    simp only [bs]
    exact .some ⟨n, h7, rfl, c7, s06.trans s7⟩
  · intro _
    exact .some ⟨_, h6, rfl, c6, s06⟩
  rintro _ ⟨now, g, rfl, cg, sg⟩
  simp only [toEnd_nrm, nth_zero, bs]
  obtain ⟨de, h8, e8, c8, s8, es, he, heo, hel⟩ := d48 cg 5 (by omega) (by omega)
  refine Wp.step e8 ?_
  simp only [dMin_int, bs, mkRes_two]
  have s28 := sg.trans s8
  exact .some ⟨dp, dh, de, _, ps, hs, rfl, c8, by rw [s28.1]; exact lt2, op2.same s28 (by omega), hpl, hpn, hpb, oh2.same s28 (by omega), hhl, hhn, hhb⟩
theorem polr_snap (h : Hp) (n : Nat) (p : Pol) : ∀ d ∈ polr p, snap h n d = d := by
  intro d hd
  simp [-Option.bind_some, polr] at hd
  rcases hd with rfl | rfl | rfl | rfl <;> cases n <;> rfl
theorem hldr_snap (h : Hp) (n : Nat) (p : Hld) : ∀ d ∈ hldr p, snap h n d = d := by
  intro d hd
  simp [-Option.bind_some, hldr] at hd
  rcases hd with rfl | rfl | rfl | rfl | rfl <;> cases n <;> rfl
theorem b22 {h : Hp} {n0 : Nat} {l : List Pol} {d : D} (hd : Own h n0 ty53 4 (l.map polr) d) (hl : l.length ≤ 100) : callB R fn22 [d] h = some (.int .i64 (chkA (·.n) badP l), h) := callB_own hd (fun a _ => polr_snap _ _ a) fun d h hs => s22 l d h hs (by omega)
theorem b25 {h : Hp} {n0 : Nat} {l : List Pol} {d : D} (hd : Own h n0 ty53 4 (l.map polr) d) (hl : l.length ≤ 100) : callB R fn25 [d] h = some (.int .i64 (chkA (·.n) badP l), h) := callB_own hd (fun a _ => polr_snap _ _ a) fun d h hs => s25 l d h hs (by omega)
theorem b23 {h : Hp} {n0 : Nat} {l : List Hld} {d : D} (hd : Own h n0 ty56 5 (l.map hldr) d) (hl : l.length ≤ 100) : callB R fn23 [d] h = some (.int .i64 (chkA (·.n) badH l), h) := callB_own hd (fun a _ => hldr_snap _ _ a) fun d h hs => s23 l d h hs (by omega)
theorem b26 {h : Hp} {n0 : Nat} {l : List Hld} {d : D} (hd : Own h n0 ty56 5 (l.map hldr) d) (hl : l.length ≤ 100) : callB R fn26 [d] h = some (.int .i64 (chkA (·.n) badH l), h) := callB_own hd (fun a _ => hldr_snap _ _ a) fun d h hs => s26 l d h hs (by omega)
theorem guard_next {o : Nat} {g : Hp} {b : Bool} {α : Type} {F : D × Hp → D → Option α} {Q : α → Prop} (hc : CD g o) (k : ∀ x g' b', CD g' o → Same o g g' → (b' = true → b = true) → Wp (F (x, g') (.bool b')) Q) :
    Wp ((gd (.bool b) true (some (.ptr o 0 0))).bind fun t65 => (gdW (.bool b) true g (R fn24 [t65, .int .i64 2] g)).bind fun p66 => (gd (.bool b) true (dBin tab .eql ty3 p66.1 (.int .i64 1))).bind fun t67 => (dPick (.bool b) t67 (.bool false)).bind fun t68 => F p66 t68) Q := by
  cases b
  · simp only [gd_bool, gdW_bool, dPick_bool, bs, Bool.false_eq_true, if_false]
    exact k _ _ false hc (.refl _ _) (fun h => h)
  · obtain ⟨v, g1, e1, c1, s1, v0, v1⟩ := next_b hc 2 (by omega) (by omega)
    simp only [gd_bool, gdW_bool, dPick_bool, bs, if_true, e1, dBin_eql]
    exact k _ _ _ c1 s1 (fun _ => rfl)
theorem law5 (xs : List Pol) (ys : List Hld) (zs : List Int) (by' : Int) (dx dy d : D) (h : Hp) (hx : SlOf 4 polr xs dx) (hxl : xs.length ≤ 9223372036854775807) (hy : SlOf 5 hldr ys dy) (hyl : ys.length ≤ 9223372036854775807) (hd : Given .u8 zs d) (hz : ∀ z ∈ zs, 0 ≤ z ∧ z < 256) : ∃ h', R fn5 [dx, dy, d, .int .i64 by'] h = some (.bool true, h') := by
  suffices Wp (R fn5 [dx, dy, d, .int .i64 by'] h) (fun p => p.1 = .bool true) by
    obtain ⟨⟨x, h'⟩, h1, rfl⟩ := this
    exact ⟨h', h1⟩
  rw [e5]
  by_cases h0 : 40 < xs.length
  · have h0' : (40 : Int) < xs.length := by omega
    exact ⟨(.bool true, h), by simp [-Option.bind_some, F5, s14, lens38 hx, h0'], rfl⟩
  have h0' : ¬ (40 : Int) < xs.length := by omega
  by_cases h1 : 40 < ys.length
  · have h1' : (40 : Int) < ys.length := by omega
    exact ⟨(.bool true, h), by simp [-Option.bind_some, F5, s14, lens38 hx, h0', lens39 hy, h1'], rfl⟩
  have h1' : ¬ (40 : Int) < ys.length := by omega
  simp only [F5, bs, s14, dUn_not, Bool.not_true, gd_bool, if_true, lens38 hx, lens39 hy, dBin_gtr, h0', h1', decide_false, dPick_bool, Bool.false_eq_true, if_false, dIf_bool]
  obtain ⟨dp, dh, de, now, g, ps, hs, e1, cd, hlt, op, hpl, hpn, hpb, oh, hhl, hhn, hhb⟩ := s15u zs d h hd hz
  refine Wp.step e1 ?_
  have k1 : chkA (·.n) badP ps = 0 := chkA_ok hpn (by decide) (by decide) hpb (by omega)
  have k2 : chkA (·.n) badH hs = 0 := chkA_ok hhn (by decide) (by decide) hhb (by omega)
  simp only [bs, dExtract_tup, List.getElem?_cons_zero, List.getElem?_cons_succ, b22 op (by omega), k1, dBin_neq, ne_eq, not_true_eq_false, decide_false, gd_bool, gdW_bool, if_true, b23 oh (by omega), k2, dPick_bool, Bool.false_eq_true, if_false, dIf_bool]
  simp only [leno38 op, List.length_map, bs, dBin_gtr]
  refine Wp.join (P := fun r => ∃ g', ∃ ps' : List Pol, r = (.nrm, ([] : List D), g') ∧ CD g' h.length ∧ Own g' (h.length + 1) ty53 4 (ps'.map polr) dp ∧ ps'.length ≤ 3 ∧ Own g' (h.length + 1) ty56 5 (hs.map hldr) dh ∧ ps'.length = ps.length) ?_ ?_ ?_
  · intro hq
    have hq : 0 < ps.length := by have : (0 : Int) < ps.length := by simpa [-Option.bind_some] using hq
                                  omega
    obtain ⟨v, g1, e2, c2, s2, v0, v1⟩ := next_b cd ps.length (by omega) (by omega)
    refine Wp.step e2 ?_
    have op1 := op.same s2 (by omega)
    have oh1 := oh.same s2 (by omega)
    have hiv : v.toNat < ps.length := by omega
    obtain ⟨ob, hob, hdp, hgo⟩ := own_ix op1 (i := v.toNat) (by simpa [-Option.bind_some] using hiv)
    have hg : ps[v.toNat]? = some ps[v.toNat] := List.getElem?_eq_getElem hiv
    generalize ps[v.toNat] = p at hg
    have hix : dIndexAddr tab ty38 dp (.int .i64 v) = some (.ptr ob v.toNat 0) := by rw [hdp]; simp [-Option.bind_some, v0, v1]
    simp only [hix, bs, fap53_3, Option.bind_assoc, Nat.zero_add]
    refine wst3 hgo (row := polr p) (by simp [-Option.bind_some, hg]) (by rfl) (by simp [-Option.bind_some, polr]) (by rfl) fun g2 hg2 s3 => ?_
    refine .some ⟨g2, ps.set v.toNat { p with age := by' }, rfl, c2.keep (s3.2 _ (by omega)), .inr ⟨ob, hob, by rw [hdp]; simp [-Option.bind_some], by rw [hg2, List.map_set]; rfl⟩, by simpa [-Option.bind_some] using hpl, oh1.keep fun q hq hin => s3.2 q fun hh => ?_, by simp [-Option.bind_some]⟩
    subst hh
    exact own_dis oh1 op1 (by decide) hin ⟨_, _, hdp⟩
  · intro _
    exact .some ⟨g, ps, rfl, cd, op, hpl, oh, rfl⟩
  clear e1 cd hlt op hpl hpn hpb oh hhn hhb k1 k2
  rintro _ ⟨g, ps2, rfl, cd, op, hpl, oh, hlen⟩
  simp only [toEnd_nrm, bs, dBin_gtr]
  rw [← hlen]
  clear hlen
  generalize ps2 = ps at *
  refine guard_next cd fun x g1 b c1 s1 hb => ?_
  have op1 := op.same s1 (by omega)
  have oh1 := oh.same s1 (by omega)
  refine Wp.join (P := fun r => ∃ g', ∃ ps' : List Pol, r = (.nrm, ([] : List D), g') ∧ CD g' h.length ∧ Own g' (h.length + 1) ty53 4 (ps'.map polr) dp ∧ ps'.length ≤ 3 ∧ Own g' (h.length + 1) ty56 5 (hs.map hldr) dh) ?_ ?_ ?_
  · intro hq
    have hq := hb hq
    have hq : 1 < ps.length := by have : (1 : Int) < ps.length := by simpa [-Option.bind_some] using hq
                                  omega
    obtain ⟨ob, hob, hdp, hgo⟩ := own_ix op1 (i := 1) (by simpa [-Option.bind_some] using hq)
    have hg0 : ps[0]? = some (ps[0]'(by omega)) := List.getElem?_eq_getElem (by omega)
    have hg : ps[1]? = some ps[1] := List.getElem?_eq_getElem hq
    generalize ps[0]'(by omega) = p0 at hg0
    generalize ps[1] = p at hg
    have hix0 : dIndexAddr tab ty38 dp (.int .i64 0) = some (.ptr ob 0 0) := by
      have hpn : ¬ ps = [] := by intro hh; subst hh; simp [-Option.bind_some] at hq
      rw [hdp]; simp [-Option.bind_some, hpn]
    have hix : dIndexAddr tab ty38 dp (.int .i64 1) = some (.ptr ob 1 0) := by rw [hdp]; simp [-Option.bind_some]; omega
    have hld : dLoad tab g1 ty9 (.ptr ob 0 0) = some (.str p0.n) := by rw [ldp9, row_of hgo]; simp [-Option.bind_some, hg0, polr]
    simp only [hix0, hix, bs, fap53_0, Option.bind_assoc, Nat.add_zero, hld]
    refine wst9 hgo (row := polr p) (by simp [-Option.bind_some, hg]) (by rfl) (by simp [-Option.bind_some, polr]) (by rfl) fun g2 hg2 s3 => ?_
    refine .some ⟨g2, ps.set 1 { p with n := p0.n }, rfl, c1.keep (s3.2 _ (by omega)), .inr ⟨ob, hob, by rw [hdp]; simp [-Option.bind_some], by rw [hg2, List.map_set]; rfl⟩, by simpa [-Option.bind_some] using hpl, oh1.keep fun q hq hin => s3.2 q fun hh => ?_⟩
    subst hh
    exact own_dis oh1 op1 (by decide) hin ⟨_, _, hdp⟩
  · intro _
    exact .some ⟨g1, ps, rfl, c1, op1, hpl, oh1⟩
  clear cd op hpl oh op1 oh1 c1 s1 hb
  rintro _ ⟨g, ps, rfl, cd, op, hpl, oh⟩
  simp only [toEnd_nrm, leno39 oh, List.length_map, bs, dBin_gtr]
  refine Wp.join (P := fun r => ∃ g', ∃ hs' : List Hld, r = (.nrm, ([] : List D), g') ∧ Own g' (h.length + 1) ty53 4 (ps.map polr) dp ∧ Own g' (h.length + 1) ty56 5 (hs'.map hldr) dh ∧ hs'.length ≤ 2) ?_ ?_ ?_
  · intro hq
    have hq : 0 < hs.length := by have : (0 : Int) < hs.length := by simpa [-Option.bind_some] using hq
                                  omega
    obtain ⟨v, g1, e2, c2, s2, v0, v1⟩ := next_b cd hs.length (by omega) (by omega)
    refine Wp.step e2 ?_
    have op1 := op.same s2 (by omega)
    have oh1 := oh.same s2 (by omega)
    have hiv : v.toNat < hs.length := by omega
    obtain ⟨ob, hob, hdh, hgo⟩ := own_ix oh1 (i := v.toNat) (by simpa [-Option.bind_some] using hiv)
    have hg : hs[v.toNat]? = some hs[v.toNat] := List.getElem?_eq_getElem hiv
    generalize hs[v.toNat] = p at hg
    have hix : dIndexAddr tab ty39 dh (.int .i64 v) = some (.ptr ob v.toNat 0) := by rw [hdh]; simp [-Option.bind_some, v0, v1]
    simp only [hix, bs, fap56_4, Option.bind_assoc, Nat.zero_add]
    refine wst3 hgo (row := hldr p) (by simp [-Option.bind_some, hg]) (by rfl) (by simp [-Option.bind_some, hldr]) (by rfl) fun g2 hg2 s3 => ?_
    refine .some ⟨g2, hs.set v.toNat { p with to := by' }, rfl, op1.keep fun q hq hin => s3.2 q fun hh => ?_, .inr ⟨ob, hob, by rw [hdh]; simp [-Option.bind_some], by rw [hg2, List.map_set]; rfl⟩, by simpa [-Option.bind_some] using hhl⟩
    subst hh
    exact own_dis op1 oh1 (by decide) hin ⟨_, _, hdh⟩
  · intro _
    exact .some ⟨g, hs, rfl, op, oh, hhl⟩
  clear cd op oh hhl hs
  rintro _ ⟨g, hs, rfl, op, oh, hhl⟩
  simp only [toEnd_nrm, bs, s22 xs dx g hx hxl, s25 xs dx g hx hxl, s23 ys dy g hy hyl, s26 ys dy g hy hyl, b22 op (by omega), b25 op (by omega), b23 oh (by omega), b26 oh (by omega), dBin_eql, decide_true, gd_bool, gdW_bool, dPick_bool, if_true, mkRes_one]
  exact .some rfl
end Go.Proofs.Ytiamjjeflmcgoaa
