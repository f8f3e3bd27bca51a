/- Laws, on plain data, about functions that the statement reaches. -/
import Derived.Test.YtjepklgnhdellaaL4
set_option linter.unusedSimpArgs false
set_option linter.unusedVariables false
set_option linter.unnecessarySimpa false
set_option maxRecDepth 100000
namespace Go.Proofs.Ytjepklgnhdellaa
open Go.Eng Go.Pi
theorem s1114 (i : It) (c : Int) (h : Hp) (hc : ∀ g, R fn1004 [.agg (itr i)] g = some (.int .i64 c, g)) (hb : (bodyI i).length ≤ 900000000) : ∃ d', R fn1114 [.agg (itr i)] h = some (.tup [d', .int .i64 c], h) ∧ SlOf 1 byr (if c = 0 then encI i else []) d' := by
  suffices Wp (R fn1114 [.agg (itr i)] h) (fun p => p.2 = h ∧ ∃ d', p.1 = .tup [d', .int .i64 c] ∧ SlOf 1 byr (if c = 0 then encI i else []) d') by
    obtain ⟨⟨x, h'⟩, h1, rfl, d', rfl, h2⟩ := this
    exact ⟨d', h1, h2⟩
  rw [e1114]
  simp only [F1114, pBoxF_agg, bs, Option.bind_assoc, ldItB, hc, dBin_neq]
  refine Wp.dif ?_ ?_
  · intro h0
    have h0 : ¬ c = 0 := by simpa [-Option.bind_some] using h0
    simp only [bs, mkRes_two]
    rw [scope_eq (d' := .tup [.nils, .int .i64 c]) (by simp [-Option.bind_some]) (.tup _ fun d hd => by simp [-Option.bind_some] at hd; rcases hd with rfl | rfl <;> constructor) (Nat.le_refl _) fun _ _ => rfl]
    exact .some ⟨rfl, _, rfl, by rw [if_neg h0]; exact .nils _ _⟩
  · intro h0
    have h0 : c = 0 := by simpa [-Option.bind_some] using h0
    subst h0
    obtain ⟨d1, h1, e1, B1⟩ := s1115 i h.length h (Nat.le_refl _) hb
    have w1 : IntKind.wrap .i64 (((bodyI i).length : Int) + 4) = ((bodyI i).length : Int) + 4 := wrap_i64 (by omega) (by omega)
    have r1 := RdB.own B1.ow
    refine Wp.step e1 ?_
    simp only [bs, rdB_len r1, dBin_add, w1, cv3_1029]
    obtain ⟨d2, h2, e2, B2⟩ := s1116 (IntKind.wrap .u64 (((bodyI i).length : Int) + 4)) 4 (by omega) h1.length h1 [] .nils (Nat.le_refl _) (Own.nils _ _ _ _) (by simp [-Option.bind_some])
    have e2 : R fn1116 [.nils, .int .u64 (IntKind.wrap .u64 (((bodyI i).length : Int) + 4)), .int .i64 4] h1 = some (d2, h2) := e2
    refine Wp.step e2 ?_
    simp only [bs]
    have r2 : RdB h2 (bodyI i) d1 := by
      rcases B1.ow with ⟨hx, hl⟩ | ⟨o, ho, hx, hg⟩
      · exact .inl (.inl ⟨hx, by simpa [-Option.bind_some] using hl⟩)
      · refine .inr ⟨o, by rw [hx]; simp [-Option.bind_some], ?_⟩
        have holt := (List.getElem?_eq_some_iff.1 hg).1
        rw [B2.old o holt (fun hh => by obtain ⟨z, n, hh⟩ := hh; cases hh)]
        exact hg
    have ow2 : Own h2 h.length ty5 1 ((([] : List Int) ++ putb 4 (IntKind.wrap .u64 (((bodyI i).length : Int) + 4))).map byr) d2 := B2.ow.from B1.len
    obtain ⟨d3, h3, e3, B3⟩ := app_b (Nat.le_trans B1.len B2.len) ow2 (rdB_rows r2) (by simp only [List.length_append, List.length_nil, putb_len]; omega)
    refine Wp.step e3 ?_
    simp only [bs]
    have hH : [] ++ putb 4 (IntKind.wrap .u64 (((bodyI i).length : Int) + 4)) ++ bodyI i = encH i := by simp [-Option.bind_some, encH]
    rw [hH] at B3
    have hHl : (encH i).length = 4 + (bodyI i).length := by simp only [encH, List.length_append, putb_len]
    have e4 := s1117 (encH i) d3 h3 (RdB.own B3.ow) (by omega) (encH_u8 i)
    refine Wp.step e4 ?_
    simp only [bs]
    have hn3 : h.length ≤ h3.length := Nat.le_trans (Nat.le_trans B1.len B2.len) B3.len
    obtain ⟨d5, h5, e5, B5⟩ := s1116 (chkS (encH i)) 4 (by omega) h.length h3 (encH i) d3 hn3 B3.ow (by omega)
    have e5 : R fn1116 [d3, .int .u64 (chkS (encH i)), .int .i64 4] h3 = some (d5, h5) := e5
    refine Wp.step e5 ?_
    have hE : encH i ++ putb 4 (chkS (encH i)) = encI i := rfl
    rw [hE] at B5
    simp only [bs, mkRes_two]
    have hsl := own_sl (n0 := h.length) (n := 2) B5.ow (Nat.le_refl _) (fun a _ => byr_frz _ h5 2 a)
    have hlow : ∀ q, q < h.length → h5[q]? = h[q]? := fun q hq => by
      have nd : ∀ {d : D} {g : Hp} {l : List Int}, Own g h.length ty5 1 (l.map byr) d → ¬ d.inOb q := fun ow hx => by have := (ow.lt hx).1; omega
      rw [B5.old q (by omega) (nd B3.ow), B3.old q (by have := B1.len; have := B2.len; omega) (nd ow2), B2.old q (by have := B1.len; omega) (fun hh => by obtain ⟨z, n, hh⟩ := hh; cases hh),
        B1.old q hq (fun hh => by obtain ⟨z, n, hh⟩ := hh; cases hh)]
    rw [scope_eq (d' := .tup [frz h.length h5 3 d5, .int .i64 0]) (by simp [-Option.bind_some]) (by
      refine .tup _ fun d hd => ?_
      simp [-Option.bind_some] at hd
      rcases hd with rfl | rfl
      · exact slof_ok hsl fun a _ => byr_ok _ a
      · constructor) (Nat.le_trans hn3 B5.len) hlow]
    exact .some ⟨rfl, _, rfl, by simpa [-Option.bind_some] using hsl⟩
theorem flat_bound {α : Type} (f : α → List Int) (m : Nat) : ∀ (l : List α), (∀ a ∈ l, (f a).length ≤ m) → (l.map f).flatten.length ≤ l.length * m
  | [], _ => by simp [-Option.bind_some]
  | a :: l, h => by
    have h1 := h a (by simp [-Option.bind_some])
    have h2 := flat_bound f m l fun b hb => h b (by simp [-Option.bind_some, hb])
    simp only [List.map_cons, List.flatten_cons, List.length_append, List.length_cons, Nat.succ_mul]
    omega
theorem chain_txt : ∀ (ls : List Lin) (a b : Int), chain a ls b → ∀ l ∈ ls, l.txt.length ≤ 36
  | [], a, b, _, l, hl => by cases hl
  | x :: r, a, b, h, l, hl => by
    unfold chain at h
    rcases List.mem_cons.1 hl with rfl | hl
    · have h1 := h.2.2.1; have h2 := h.2.2.2.1; omega
    · exact chain_txt r _ _ h.2.2.2.2 l hl
theorem bit_len {host : Int} {i : It} (h : BIt host i) : (bodyI i).length ≤ 20000 := by
  have h1 := flat_bound lnB 56 i.e.ls (fun l hl => by
    have := chain_txt _ _ _ h.ch l hl
    simp only [lnB, List.length_append, pI_len, pS_len]; omega)
  have h2 : (i.e.fs.map fdB).flatten.length ≤ i.e.fs.length * 3008 := flat_bound fdB 3008 i.e.fs (fun p hp => by
    rcases h.good with ⟨_, hg⟩ | hg
    · have a1 := (hg.fn p hp).2
      have a2 := hg.fv p hp
      simp only [fdB, List.length_append, pS_len]; omega
    · rw [hg.fs] at hp; cases hp)
  have h3 := h.n6
  have h4 := h.fs
  have h5 : i.r.length ≤ 32 ∧ i.e.s7.length ≤ 32 ∧ i.e.s8.length ≤ 32 := by
    rcases h.good with ⟨hr, hg⟩ | hg
    · exact ⟨by rw [hr]; simp [-Option.bind_some], hg.tr, hg.st⟩
    · exact ⟨hg.r3, by rw [hg.tr]; simp [-Option.bind_some], by rw [hg.st]; simp [-Option.bind_some]⟩
  obtain ⟨h5, h6, h7⟩ := h5
  have h8 : (i.e.fs.length * 3008 : Nat) ≤ 4 * 3008 := Nat.mul_le_mul_right _ h4
  have h9 : (i.e.ls.length * 56 : Nat) ≤ 6 * 56 := Nat.mul_le_mul_right _ h3
  simp only [bodyI, bodyB, bodyA, List.length_append, pI_len, pS_len, pN_len]
  omega
theorem s1113 (host : Int) (b : Bat) (h : Hp) (hb : BatOK host b) : R fn1113 [.agg (batr b)] h = some (.int .i64 0, h) := by
  suffices Wp (R fn1113 [.agg (batr b)] h) (fun p => p = (.int .i64 0, h)) by
    obtain ⟨p, h1, rfl⟩ := this
    exact h1
  have hn := hb.n3
  have hlen : ¬ (40 : Int) < (b.its.length : Int) := by omega
  rw [e1113]
  simp only [F1113, pBoxF_agg, batr, fa1064_2, ld113, lens113 b.hd, bs, Option.bind_assoc, dBin_gtr, hlen, decide_false, dIf_bool, Bool.false_eq_true, if_false]
  refine Wp.loop (fun k ds g => g = h ∧ ∃ a1 a3 a4 a5 a6 a7 a8, ∃ n : Nat, ds = [a1, .int .i64 n, a3, a4, a5, a6, a7, a8] ∧ k + n = b.its.length) (fun r => r.1 = .ext 0 ∧ r.2.2 = h) b.its.length ⟨rfl, _, _, _, _, _, _, _, 0, rfl, rfl⟩ ?_ ?_
  · rintro k ds g ⟨rfl, a1, a3, a4, a5, a6, a7, a8, n, rfl, hk⟩
    simp only [F1113_L0, nth_zero, nth_succ, bs, Option.bind_assoc, fa1064_2, ld113, lens113 b.hd, dBin_lss]
    refine Wp.dif ?_ ?_
    · intro h0
      have h0 : n < b.its.length := by have : (n : Int) < b.its.length := by simpa [-Option.bind_some] using h0
                                       omega
      obtain ⟨i, hi⟩ : ∃ i, b.its[n]? = some i := ⟨_, List.getElem?_eq_getElem h0⟩
      have hB := hb.it i (List.mem_of_getElem? hi)
      have hw : IntKind.wrap .i64 ((n : Int) + 1) = ((n + 1 : Nat) : Int) := by
        rw [wrap_i64 (by omega) (by omega)]; omega
      have hii : dIndexAddr tab ty113 b.d (.int .i64 (n : Int)) = some (.fptr (itr i)) := by rw [ixs113 b.hd]; simp [-Option.bind_some, hi]
      have hck := s1004 i g hB.good
      have q0 : dFieldAddr tab ty31 0 (.fptr (evr i.e)) = some (.fptr (evr i.e)) := id rfl
      have q1 : dLoad tab g ty3 (.fptr (evr i.e)) = some (.int .i64 i.e.a0) := id rfl
      have hr : (i.r == ([42] : Str)) = false := by
        rcases hB.rule with hr | hr
        · rw [hr]; rfl
        · have := lt98_4_dup _ hr
          simpa [-Option.bind_some] using this
      simp only [hii, ldIt, boxIt, hck, bs, dBin_neq, ne_eq, not_true, decide_false, dIf_bool, Bool.false_eq_true, if_false, itF1, q0, q1, fa1064_0, ld3, hB.host, hb.hs, itF0, itL0, dBin_seql, hr, dBin_add, hw]
      exact .some (.inl ⟨rfl, k - 1, by omega, rfl, _, _, _, _, _, _, _, n + 1, rfl, by omega⟩)
    · intro h0
      exact .some (.inr ⟨by simp [-Option.bind_some], rfl, rfl⟩)
  · rintro ⟨ex, ds, g⟩ ⟨q1, q2⟩
    simp only at q1 q2
    subst q1; subst q2
    simp only [unblk_self, toEnd_nrm, bs, mkRes_one]
    exact .some rfl
def batA (b : Bat) : List Int := pI b.hs ++ pI b.nu ++ pN b.its.length
def batB (b : Bat) : List Int := batA b ++ (b.its.map encI).flatten
theorem batA_len (b : Bat) : (batA b).length = 20 := by simp only [batA, List.length_append, pI_len, pN_len]
theorem batB_u8 (b : Bat) : ∀ z ∈ batB b, U8 z := by
  intro z hz
  simp only [batB, batA, List.mem_append, List.mem_flatten, List.mem_map] at hz
  rcases hz with ((h | h) | h) | ⟨_, ⟨i, _, rfl⟩, h⟩
  · exact putb_u8 _ _ z h
  · exact putb_u8 _ _ z h
  · exact putb_u8 _ _ z h
  · exact encI_u8 i z h
theorem batB_len {host : Int} {b : Bat} (hb : BatOK host b) : 20 ≤ (batB b).length ∧ (batB b).length ≤ 100000 := by
  have h1 := flat_bound encI 20008 b.its fun i hi => by
    have := bit_len (hb.it i hi)
    rw [encI_len]; omega
  have h3 := hb.n3
  have h4 : b.its.length * 20008 ≤ 3 * 20008 := Nat.mul_le_mul_right _ h3
  simp only [batB, List.length_append, batA_len]
  omega
theorem s1112 (host : Int) (b : Bat) (h : Hp) (hb : BatOK host b) : ∃ d', R fn1112 [.agg (batr b)] h = some (.tup [d', .int .i64 0], h) ∧ SlOf 1 byr (batB b) d' := by
  suffices Wp (R fn1112 [.agg (batr b)] h) (fun p => p.2 = h ∧ ∃ d', p.1 = .tup [d', .int .i64 0] ∧ SlOf 1 byr (batB b) d') by
    obtain ⟨⟨x, h'⟩, h1, rfl, d', rfl, h2⟩ := this
    exact ⟨d', h1, h2⟩
  have hchk := s1113 host b h hb
  have hlB := batB_len hb
  have hn3 := hb.n3
  have f0 : dFieldAddr tab ty1064 0 (.fptr (batr b)) = some (.fptr (batr b)) := id rfl
  have f1 : dFieldAddr tab ty1064 1 (.fptr (batr b)) = some (.fptr [.int .i64 b.nu, b.d]) := id rfl
  have f2 : dFieldAddr tab ty1064 2 (.fptr (batr b)) = some (.fptr [b.d]) := id rfl
  have l0 : ∀ g, dLoad tab g ty3 (.fptr (batr b)) = some (.int .i64 b.hs) := fun g => id rfl
  have lb : ∀ g, dLoad tab g ty1064 (.fptr (batr b)) = some (.agg (batr b)) := fun g => id rfl
  rw [e1112]
  simp only [F1112, pBoxF_agg, bs, Option.bind_assoc, lb, hchk, dBin_neq, ne_eq, not_true, decide_false, dIf_bool, Bool.false_eq_true, if_false, f0, f1, f2, l0, ld3, ld113, lens113 b.hd, cv3_1029, chk_true]
  have B0 : Bw h.length h .nils h [] .nils := Bw.refl (Own.nils _ _ _ _)
  obtain ⟨d1, h1, e1, B1⟩ := s1030g (IntKind.wrap .u64 b.hs) 8 (by omega) h.length h [] .nils (Nat.le_refl _) B0.ow (by simp [-Option.bind_some])
  have e1 : R fn1030 [.nils, .int .u64 (IntKind.wrap .u64 b.hs), .int .i64 8] h = some (d1, h1) := e1
  refine Wp.step e1 ?_
  simp only [bs]
  obtain ⟨d2, h2, e2, B2⟩ := s1030g (IntKind.wrap .u64 b.nu) 8 (by omega) h.length h1 _ d1 B1.len B1.ow (by simp only [List.length_append, List.length_nil, putb_len]; omega)
  have e2 : R fn1030 [d1, .int .u64 (IntKind.wrap .u64 b.nu), .int .i64 8] h1 = some (d2, h2) := e2
  refine Wp.step e2 ?_
  simp only [bs]
  have n2 := Nat.le_trans B1.len B2.len
  obtain ⟨d3, h3, e3, B3⟩ := s1030g (IntKind.wrap .u64 b.its.length) 4 (by omega) h.length h2 _ d2 n2 B2.ow (by simp only [List.length_append, List.length_nil, putb_len]; omega)
  have e3 : R fn1030 [d2, .int .u64 (IntKind.wrap .u64 b.its.length), .int .i64 4] h2 = some (d3, h3) := e3
  refine Wp.step e3 ?_
  simp only [bs, chk_true]
  have hA : [] ++ putb 8 (IntKind.wrap .u64 b.hs) ++ putb 8 (IntKind.wrap .u64 b.nu) ++ putb 4 (IntKind.wrap .u64 b.its.length) = batA b := by simp [-Option.bind_some, batA, pI, pN]
  rw [hA] at B3
  have BB := (B1.trans B2).trans B3
  have n3 := Nat.le_trans n2 B3.len
  refine Wp.loop (fun k ds g => h.length ≤ g.length ∧ ∃ d' x y, ∃ n : Nat, ds = [d', .int .i64 n, x, y] ∧ k + n = b.its.length ∧ Bw h.length h .nils g (batA b ++ ((b.its.take n).map encI).flatten) d')
    (fun r => r.1 = .ext 0 ∧ h.length ≤ r.2.2.length ∧ (∃ d' x y z, r.2.1 = [d', x, y, z] ∧ Bw h.length h .nils r.2.2 (batB b) d')) b.its.length ⟨n3, _, _, _, 0, rfl, rfl, by simpa [-Option.bind_some] using BB⟩ ?_ ?_
  · rintro k ds g ⟨hg, d', x, y, n, rfl, hk, B⟩
    simp only [F1112_L0, nth_zero, nth_succ, bs, Option.bind_assoc, f2, ld113, lens113 b.hd, dBin_lss]
    refine Wp.dif ?_ ?_
    · intro h0
      have h0 : n < b.its.length := by have : (n : Int) < b.its.length := by simpa [-Option.bind_some] using h0
                                       omega
      obtain ⟨i, hi⟩ : ∃ i, b.its[n]? = some i := ⟨_, List.getElem?_eq_getElem h0⟩
      have hB := hb.it i (List.mem_of_getElem? hi)
      have hw : IntKind.wrap .i64 ((n : Int) + 1) = ((n + 1 : Nat) : Int) := by
        rw [wrap_i64 (by omega) (by omega)]; omega
      have hii : dIndexAddr tab ty113 b.d (.int .i64 (n : Int)) = some (.fptr (itr i)) := by rw [ixs113 b.hd]; simp [-Option.bind_some, hi]
      have hil := bit_len hB
      obtain ⟨de, ee, he⟩ := s1114 i 0 g (fun g => s1004 i g hB.good) (by omega)
      rw [if_pos rfl] at he
      have hle := flat_le encI b.its (n + 1)
      rw [flat_take encI hi, List.length_append] at hle
      have hBl : (batB b).length = 20 + (b.its.map encI).flatten.length := by simp only [batB, List.length_append, batA_len]
      simp only [hii, ldIt, ee, bs, dExtract_tup, List.getElem?_cons_zero, List.getElem?_cons_succ]
      refine app_bw B hg (rdB_rows (.inl he)) (by simp only [List.length_append, batA_len]; omega) fun d4 g4 B4 n4 => ?_
      simp only [bs, dBin_add, hw]
      refine .some (.inl ⟨rfl, k - 1, by omega, n4, _, _, _, n + 1, rfl, by omega, ?_⟩)
      rw [flat_take encI hi]
      simpa [-Option.bind_some] using B4
    · intro h0
      have h0 : n = b.its.length := by have : ¬ (n : Int) < b.its.length := by simpa [-Option.bind_some] using h0
                                       omega
      subst h0
      rw [List.take_length] at B
      exact .some (.inr ⟨by simp [-Option.bind_some], rfl, hg, _, _, _, _, rfl, B⟩)
  · rintro ⟨ex, ds, g⟩ ⟨rfl, q2, d', x, y, z, rfl, B⟩
    simp only [unblk_self, toEnd_nrm, bs, nth_zero, mkRes_two]
    have hsl := own_sl (n0 := h.length) (n := 2) B.ow (Nat.le_refl _) (fun a _ => byr_frz _ g 2 a)
    rw [scope_eq (d' := .tup [frz h.length g 3 d', .int .i64 0]) (by simp [-Option.bind_some]) (by
      refine .tup _ fun d hd => ?_
      simp [-Option.bind_some] at hd
      rcases hd with rfl | rfl
      · exact slof_ok hsl fun a _ => byr_ok _ a
      · constructor) q2 (fun q hq => B.old q hq fun hh => by obtain ⟨z, n, hh⟩ := hh; cases hh)]
    exact .some ⟨rfl, _, rfl, hsl⟩
theorem s1109 (host : Int) (b : Bat) (hb : BatOK host b) (j : List Int) (dj : D) (h : Hp) (hj : SlOf 1 byr j dj) (hjl : j.length ≤ 10000000) : ∃ d', R fn1109 [dj, .agg (batr b)] h = some (.tup [d', .int .i64 0], h) ∧ SlOf 1 byr (j ++ recOf (batB b)) d' := by
  obtain ⟨d1, e1, h1⟩ := s1112 host b h hb
  have hl := batB_len hb
  obtain ⟨d2, e2, h2⟩ := s1025 j (batB b) dj d1 h hj h1 (by omega) (by omega)
  have hE : jErr j (batB b) = 0 := by
    unfold jErr
    rw [if_neg (by omega), if_neg (by omega)]
  have hR : jRes j (batB b) = j ++ recOf (batB b) := by
    unfold jRes
    rw [if_pos hE]
    simp [-Option.bind_some, recOf]
  rw [hE] at e2
  rw [hR] at h2
  have lb : ∀ g, dLoad tab g ty1064 (.fptr (batr b)) = some (.agg (batr b)) := fun g => id rfl
  refine ⟨d2, ?_, h2⟩
  rw [e1109]
  simp only [F1109, pBoxF_agg, bs, lb, e1, dExtract_tup, List.getElem?_cons_zero, List.getElem?_cons_succ, dBin_neq, ne_eq, not_true, decide_false, dIf_bool, Bool.false_eq_true, if_false, e2, mkRes_two]
/-- Batches drawn, and their journal. -/
theorem s1105 (zs : List Int) (d : D) (h : Hp) (hd : Given .u8 zs d) (hz : ∀ z ∈ zs, 0 ≤ z ∧ z < 256) : ∃ x w dw h', R fn1105 [d] h = some (.tup [x, dw], h') ∧ h.length ≤ h'.length ∧ SlOf 1 byr w dw ∧ ∃ ps : List (List Int), w = jour ps ∧ (∀ p ∈ ps, PayOK p) ∧ w.length ≤ 3000000 := by
  suffices Wp (R fn1105 [d] h) (fun p => ∃ x w dw, p.1 = .tup [x, dw] ∧ h.length ≤ p.2.length ∧ SlOf 1 byr w dw ∧ ∃ ps : List (List Int), w = jour ps ∧ (∀ p ∈ ps, PayOK p) ∧ w.length ≤ 3000000) by
    obtain ⟨⟨y, h'⟩, h1, x, w, dw, rfl, h2⟩ := this
    exact ⟨x, w, dw, h', h1, h2⟩
  rw [e1105]
  simp only [F1105, bs, Option.bind_assoc]
  obtain ⟨h0, e0, c0, hl0⟩ := d44 zs d 400 h hd (by omega) (by omega) hz
  refine Wp.step e0 ?_
  simp only [bs]
  obtain ⟨da, h1, ea, ca, sa, A, hA, hA1, hA2, hAb⟩ := d1088 c0 1 5 (by omega) (by omega) (by omega) (by omega)
  refine Wp.step ea ?_
  simp only [bs]
  refine Wp.loop (fun k ds g => g = h1 ∧ ∃ dj x, ∃ n : Nat, ∃ ps : List (List Int), ds = [dj, .int .i64 n, x] ∧ k + n = A.length ∧ SlOf 1 byr (jour ps) dj ∧ (∀ p ∈ ps, PayOK p) ∧ (jour ps).length ≤ n * 100100)
    (fun r => r.1 = .ext 0 ∧ r.2.2 = h1 ∧ ∃ dj x y, ∃ ps : List (List Int), r.2.1 = [dj, x, y] ∧ SlOf 1 byr (jour ps) dj ∧ (∀ p ∈ ps, PayOK p) ∧ (jour ps).length ≤ 3000000) A.length ⟨rfl, _, _, 0, [], rfl, rfl, .nils _ _, by simp [-Option.bind_some], by simp [-Option.bind_some, jour]⟩ ?_ ?_
  · rintro k ds g ⟨rfl, dj, x, n, ps, rfl, hk, hj, hp, hl⟩
    simp only [F1105_L0, nth_zero, nth_succ, bs, Option.bind_assoc, lens1059 hA, dBin_lss]
    refine Wp.dif ?_ ?_
    · intro h0
      have h0 : n < A.length := by have : (n : Int) < A.length := by simpa [-Option.bind_some] using h0
                                   omega
      obtain ⟨b, hi⟩ : ∃ b, A[n]? = some b := ⟨_, List.getElem?_eq_getElem h0⟩
      have hb := hAb b (List.mem_of_getElem? hi)
      have hw : IntKind.wrap .i64 ((n : Int) + 1) = ((n + 1 : Nat) : Int) := by
        rw [wrap_i64 (by omega) (by omega)]; omega
      have hii : dIndexAddr tab ty1059 da (.int .i64 (n : Int)) = some (.fptr (batr b)) := by rw [ixs1059 hA]; simp [-Option.bind_some, hi]
      have lb : ∀ g, dLoad tab g ty1064 (.fptr (batr b)) = some (.agg (batr b)) := fun g => id rfl
      have hn24 : n * 100100 ≤ 24 * 100100 := Nat.mul_le_mul_right _ (by omega)
      obtain ⟨d', e1, hd'⟩ := s1109 1 b hb (jour ps) dj g hj (by omega)
      have hBl := batB_len hb
      rw [← jour_snoc] at hd'
      simp only [hii, lb, e1, bs, dExtract_tup, List.getElem?_cons_zero, List.getElem?_cons_succ, dBin_add, hw]
      refine .some (.inl ⟨rfl, k - 1, by omega, rfl, _, _, n + 1, ps ++ [batB b], rfl, by omega, hd', fun p hp' => ?_, ?_⟩)
      · rcases List.mem_append.1 hp' with hp' | hp'
        · exact hp p hp'
        · simp [-Option.bind_some] at hp'
          subst hp'
          exact ⟨by omega, by omega, batB_u8 b⟩
      · rw [jour_snoc, List.length_append, rec_len, Nat.succ_mul]
        omega
    · intro h0
      have hn24 : n * 100100 ≤ 24 * 100100 := Nat.mul_le_mul_right _ (by omega)
      exact .some (.inr ⟨by simp [-Option.bind_some], rfl, rfl, _, _, _, ps, rfl, hj, hp, by omega⟩)
  · rintro ⟨ex, ds, g⟩ ⟨rfl, q2, dj, x, y, ps, rfl, q3, q4, q5⟩
    simp only at q2
    subst q2
    simp only [unblk_self, toEnd_nrm, bs, nth_zero, mkRes_two]
    have hgl := sa.1
    exact .some ⟨_, _, _, rfl, show h.length ≤ g.length by omega, q3, ps, rfl, q4, q5⟩
theorem or_nat (w x b k : Nat) (hb : b < 2 ^ k) (hx : x * 2 ^ k + b < 2 ^ w) : (BitVec.ofInt w ((x * 2 ^ k : Nat) : Int) ||| BitVec.ofInt w (b : Int)).toNat = x * 2 ^ k + b := by
  rw [BitVec.ofInt_natCast, BitVec.ofInt_natCast, BitVec.toNat_or, BitVec.toNat_ofNat, BitVec.toNat_ofNat, Nat.mod_eq_of_lt (by omega), Nat.mod_eq_of_lt (by omega)]
  rw [← Nat.shiftLeft_eq, ← Nat.shiftLeft_add_eq_or_of_lt hb, Nat.shiftLeft_eq]
theorem or_u32 {x b : Int} (k : Nat) (h0 : 0 ≤ x) (hb0 : 0 ≤ b) (hb : b < 2 ^ k) (hx : x * 2 ^ k + b < 4294967296) : IntKind.wrap .u32 (BitVec.ofInt IntKind.u32.bits (x * 2 ^ k) ||| BitVec.ofInt IntKind.u32.bits b).toNat = x * 2 ^ k + b := by
  obtain ⟨X, rfl⟩ := Int.eq_ofNat_of_zero_le h0
  obtain ⟨B, rfl⟩ := Int.eq_ofNat_of_zero_le hb0
  have e : ((X : Int) * 2 ^ k) = ((X * 2 ^ k : Nat) : Int) := by push_cast; rfl
  have hB : B < 2 ^ k := by exact_mod_cast hb
  have hX : X * 2 ^ k + B < 2 ^ IntKind.u32.bits := by
    have h2 : (2 : Nat) ^ IntKind.u32.bits = 4294967296 := by decide
    rw [h2]
    rw [e] at hx
    generalize X * 2 ^ k = Y at hx
    omega
  have := or_nat IntKind.u32.bits X B k hB hX
  rw [e, wrap_bv, this]
  push_cast; rfl
theorem s1110 (a b c e : Int) (d : D) (h : Hp) (hd : SlOf 1 byr [a, b, c, e] d) (ha : U8 a) (hb : U8 b) (hc : U8 c) (he : U8 e) : R fn1110 [d] h = some (.int .u32 (num [a, b, c, e]), h) := by
  rw [e1110]
  unfold U8 at ha hb hc he
  have q : ∀ z : Int, 0 ≤ z ∧ z < 256 → IntKind.wrap .u32 z = z := fun z hz => wrap_u32 hz.1 (by omega)
  have m1 : min ((24 : Int).toNat) IntKind.u32.bits = 24 := by decide
  have m2 : min ((16 : Int).toNat) IntKind.u32.bits = 16 := by decide
  have m3 : min ((8 : Int).toNat) IntKind.u32.bits = 8 := by decide
  have p1 : (2 : Int) ^ 24 = 16777216 := by decide
  have p2 : (2 : Int) ^ 16 = 65536 := by decide
  have p3 : (2 : Int) ^ 8 = 256 := by decide
  have w1 : IntKind.wrap .u32 (a * 2 ^ 24) = (a * 256) * 2 ^ 16 := by rw [p1, p2, wrap_u32 (by omega) (by omega)]; omega
  have w2 : IntKind.wrap .u32 (b * 2 ^ 16) = b * 2 ^ 16 := by rw [p2]; exact wrap_u32 (by omega) (by omega)
  have w3 : IntKind.wrap .u32 (c * 2 ^ 8) = c * 2 ^ 8 := by rw [p3]; exact wrap_u32 (by omega) (by omega)
  have o1 : IntKind.wrap .u32 (BitVec.ofInt IntKind.u32.bits ((a * 256) * 2 ^ 16) ||| BitVec.ofInt IntKind.u32.bits (b * 2 ^ 16)).toNat = ((a * 256 + b) * 256) * 2 ^ 8 := by
    have e1 : (a * 256) * 2 ^ 16 = a * 2 ^ 24 := by rw [p1, p2]; omega
    rw [e1, or_u32 24 ha.1 (by rw [p2]; omega) (by rw [p1, p2]; omega) (by rw [p1, p2]; omega), p1, p2, p3]
    omega
  have o2 : IntKind.wrap .u32 (BitVec.ofInt IntKind.u32.bits (((a * 256 + b) * 256) * 2 ^ 8) ||| BitVec.ofInt IntKind.u32.bits (c * 2 ^ 8)).toNat = ((a * 256 + b) * 256 + c) * 2 ^ 8 := by
    have e1 : ((a * 256 + b) * 256) * 2 ^ 8 = (a * 256 + b) * 2 ^ 16 := by rw [p3, p2]; omega
    rw [e1, or_u32 16 (by omega) (by rw [p3]; omega) (by rw [p2, p3]; omega) (by rw [p2, p3]; omega), p2, p3]
    omega
  have o3 : IntKind.wrap .u32 (BitVec.ofInt IntKind.u32.bits (((a * 256 + b) * 256 + c) * 2 ^ 8) ||| BitVec.ofInt IntKind.u32.bits e).toNat = num [a, b, c, e] := by
    rw [or_u32 8 (by omega) (by omega) (by rw [p3]; omega) (by rw [p3]; omega), num4, p3]
  have i0 : dIndexAddr tab ty22 d (.int .i64 0) = some (.fptr (byr a)) := by rw [ixs22 hd]; rfl
  have i1 : dIndexAddr tab ty22 d (.int .i64 1) = some (.fptr (byr b)) := by rw [ixs22 hd]; rfl
  have i2 : dIndexAddr tab ty22 d (.int .i64 2) = some (.fptr (byr c)) := by rw [ixs22 hd]; rfl
  have i3 : dIndexAddr tab ty22 d (.int .i64 3) = some (.fptr (byr e)) := by rw [ixs22 hd]; rfl
  simp only [F1110, bs, i0, i1, i2, i3, byr_ld, cv5_65, q a ha, q b hb, q c hc, q e he, dBin_shl, show ¬ (24 : Int) < 0 by omega, show ¬ (16 : Int) < 0 by omega, show ¬ (8 : Int) < 0 by omega, if_false, m1, m2, m3, w1, w2, w3, dBin_or, o1, o2, o3, mkRes_one]
/-- Parts of bytes. -/
def PartsOf (ps : List (List Int)) (x : D) : Prop := ∃ qs : List (List Int × D), qs.map (·.1) = ps ∧ SlOf 1 (fun p : List Int × D => [p.2]) qs x ∧ ∀ p ∈ qs, SlOf 1 byr p.1 p.2
theorem parts_ld (p : List Int × D) (h : Hp) : dLoad tab h ty22 (.fptr [p.2]) = some p.2 := ld22 _ _ _
theorem s1108 (ps qs : List (List Int)) (x y : D) (h : Hp) (hx : PartsOf ps x) (hy : PartsOf qs y) (hl : ps.length ≤ 1000000000) (hp : ∀ p ∈ ps, p.length ≤ 1000000000) : R fn1108 [x, y] h = some (.bool (decide (ps = qs)), h) := by
  suffices Wp (R fn1108 [x, y] h) (fun p => p = (.bool (decide (ps = qs)), h)) by
    obtain ⟨p, h1, rfl⟩ := this
    exact h1
  obtain ⟨A, rfl, hA, hA2⟩ := hx
  obtain ⟨B, rfl, hB, hB2⟩ := hy
  rw [e1108]
  simp only [F1108, bs, Option.bind_assoc, lens1031 hA, lens1031 hB, dBin_neq]
  simp only [List.length_map] at hl
  refine Wp.dif ?_ ?_
  · intro h0
    have h0 : ¬ A.length = B.length := by
      have h1 : ¬ (A.length : Int) = B.length := by simpa [-Option.bind_some] using h0
      omega
    simp only [bs, mkRes_one]
    have : ¬ A.map (·.1) = B.map (·.1) := fun hh => h0 (by simpa [-Option.bind_some] using congrArg List.length hh)
    exact .some (by simp [-Option.bind_some, this])
  intro h0
  have h0 : A.length = B.length := by
    have h1 : (A.length : Int) = B.length := by simpa [-Option.bind_some] using h0
    omega
  refine Wp.loop (fun k ds g => g = h ∧ ∃ a b c, ∃ n : Nat, ds = [a, .int .i64 n, b, c] ∧ k + n = A.length ∧ (A.take n).map (·.1) = (B.take n).map (·.1)) (fun r => r.2.2 = h ∧ ((r.1 = .ext 0 ∧ A.map (·.1) = B.map (·.1)) ∨ (r.1 = .ret ∧ nth 0 r.2.1 = .bool false ∧ A.map (·.1) ≠ B.map (·.1)))) A.length ⟨rfl, _, _, _, 0, rfl, rfl, by simp [-Option.bind_some]⟩ ?_ ?_
  · rintro k ds g ⟨rfl, a, b, c, n, rfl, hk, he⟩
    simp only [F1108_L0, nth_zero, nth_succ, bs, Option.bind_assoc, lens1031 hA, dBin_lss]
    refine Wp.dif ?_ ?_
    · intro h1
      have h1 : n < A.length := by have : (n : Int) < A.length := by simpa [-Option.bind_some] using h1
                                   omega
      obtain ⟨p, hpp⟩ : ∃ p, A[n]? = some p := ⟨_, List.getElem?_eq_getElem h1⟩
      obtain ⟨q, hqq⟩ : ∃ q, B[n]? = some q := ⟨_, List.getElem?_eq_getElem (by omega)⟩
      have hw : IntKind.wrap .i64 ((n : Int) + 1) = ((n + 1 : Nat) : Int) := by
        rw [wrap_i64 (by omega) (by omega)]; omega
      have i1 : dIndexAddr tab ty1031 x (.int .i64 (n : Int)) = some (.fptr [p.2]) := by rw [ixs1031 hA]; simp [-Option.bind_some, hpp]
      have i2 : dIndexAddr tab ty1031 y (.int .i64 (n : Int)) = some (.fptr [q.2]) := by rw [ixs1031 hB]; simp [-Option.bind_some, hqq]
      have hs := s1026 p.1 q.1 p.2 q.2 g (hA2 p (List.mem_of_getElem? hpp)) (hB2 q (List.mem_of_getElem? hqq)) (by have := hp p.1 (List.mem_map.2 ⟨p, List.mem_of_getElem? hpp, rfl⟩); omega)
      simp only [i1, i2, parts_ld, hs, bs, dUn_not]
      refine Wp.dif ?_ ?_
      · intro h2
        have h2 : ¬ p.1 = q.1 := by simpa [-Option.bind_some] using h2
        refine .some (.inr ⟨by simp [-Option.bind_some], rfl, .inr ⟨rfl, rfl, fun hh => h2 ?_⟩⟩)
        have := congrArg (fun l : List (List Int) => l[n]?) hh
        simpa [-Option.bind_some, hpp, hqq] using this
      · intro h2
        have h2 : p.1 = q.1 := by simpa [-Option.bind_some] using h2
        simp only [bs, dBin_add, hw]
        refine .some (.inl ⟨rfl, k - 1, by omega, rfl, _, _, _, n + 1, rfl, by omega, ?_⟩)
        rw [List.take_add_one, List.take_add_one, hpp, hqq]
        simp [-Option.bind_some, he, h2]
    · intro h1
      have h1 : n = A.length := by have : ¬ (n : Int) < A.length := by simpa [-Option.bind_some] using h1
                                   omega
      subst h1
      refine .some (.inr ⟨by simp [-Option.bind_some], rfl, .inl ⟨rfl, ?_⟩⟩)
      rw [List.take_length] at he
      rw [he, h0, List.take_length]
  · rintro ⟨ex, ds, g⟩ ⟨q1, q2⟩
    simp only at q1 q2
    subst q1
    rcases q2 with ⟨rfl, q2⟩ | ⟨rfl, q2, q3⟩
    · simp only [unblk_self, toEnd_nrm, bs, mkRes_one]
      exact .some (by simp [-Option.bind_some, q2])
    · simp only [unblk_ret, toEnd_ret, exEnd_ret, bs, q2, mkRes_one, nth_zero]
      exact .some (by simp [-Option.bind_some, q3])
theorem s1091g (a n : Int) (h : Hp) (hn : n ≤ 1000000000) : ∃ r, R fn1091 [.int .i64 a, .int .i64 n] h = some (.int .i64 r, h) ∧ 0 ≤ r ∧ (1 ≤ n → r < n) ∧ (n < 1 → r = 0) := by
  rw [e1091]
  by_cases h1 : n < 1
  · exact ⟨0, by simp [-Option.bind_some, F1091, h1], by omega, by omega, fun _ => rfl⟩
  · have p1 : (a.tmod n).natAbs < n.natAbs := by
      have := Int.natAbs_tmod a n
      rw [this]
      exact Nat.mod_lt _ (by omega)
    have w : IntKind.wrap .i64 (a.tmod n + n) = a.tmod n + n := wrap_i64 (by omega) (by omega)
    have h0 : ¬ n = 0 := by omega
    refine ⟨(a.tmod n + n).tmod n, by simp [-Option.bind_some, F1091, h1, h0, w], Int.tmod_nonneg _ (by omega), fun _ => Int.tmod_lt_of_pos _ (by omega), by omega⟩
theorem cut3_by {l : List Int} {d : D} (hd : SlOf 1 byr l d) (a b : Nat) (hab : a ≤ b) (hb : b ≤ l.length) : ∃ d', dSliceAt tab ty22 true true true [d, .int .i64 a, .int .i64 b, .int .i64 b] = some d' ∧ SlOf 1 byr ((l.take b).drop a) d' := by
  have t1 : tab ty22 = some ti22 := id rfl
  have t2 : ti22.td = .sl ty5 := id rfl
  have t3 : tab ty5 = some ti5 := id rfl
  have t4 : ti5.sz = 1 := id rfl
  simp only [dSliceAt, dInt?, bs, dSlice3, t1, t2, t3]
  rcases hd with ⟨rfl, rfl⟩ | ⟨f, rfl⟩
  · have : b = 0 := by simpa [-Option.bind_some] using hb
    subst this
    have : a = 0 := by omega
    subst this
    exact ⟨_, rfl, .inl ⟨rfl, rfl⟩⟩
  · have h1 : (a : Int) ≤ b := by omega
    have h2 : (b : Int) ≤ l.length := by omega
    simp [-Option.bind_some, t4, h1, h2, hb, hab]
    exact .inr ⟨_, by rw [List.map_drop, List.map_take]⟩
theorem cutC_by {l : List Int} {d : D} (h : Hp) (hd : SlOf 1 byr l d) (a b : Nat) (hab : a ≤ b) (hb : b ≤ l.length) : ∃ d', dCut tab h ty22 true true [d, .int .i64 a, .int .i64 b, .int .i64 b] = some (d', h) ∧ SlOf 1 byr ((l.take b).drop a) d' := by
  obtain ⟨d', e, hs⟩ := cut3_by hd a b hab hb
  exact ⟨d', by simp only [dCut, e], hs⟩
theorem four (l : List Int) (h : l.length = 4) : ∃ a b c e, l = [a, b, c, e] := by
  match l, h with
  | [a, b, c, e], _ => exact ⟨a, b, c, e, rfl⟩
theorem num_four {l : List Int} (h : l.length = 4) (hu : ∀ z ∈ l, U8 z) : U32 (num l) := by
  obtain ⟨a, b, c, e, rfl⟩ := four l h
  exact num_u32 (hu a (by simp [-Option.bind_some])) (hu b (by simp [-Option.bind_some])) (hu c (by simp [-Option.bind_some])) (hu e (by simp [-Option.bind_some]))
theorem s1110l (l : List Int) (d : D) (h : Hp) (hd : SlOf 1 byr l d) (hl : l.length = 4) (hu : ∀ z ∈ l, U8 z) : R fn1110 [d] h = some (.int .u32 (num l), h) := by
  obtain ⟨a, b, c, e, rfl⟩ := four l hl
  exact s1110 a b c e d h hd (hu a (by simp [-Option.bind_some])) (hu b (by simp [-Option.bind_some])) (hu c (by simp [-Option.bind_some])) (hu e (by simp [-Option.bind_some]))
theorem rd_fst_len : ∀ (n : Nat) (r : List Int), r.length ≤ n → (rd r).1.length ≤ r.length ∧ ∀ p ∈ (rd r).1, p.length ≤ r.length
  | 0, r, h => by rw [rd_stop (.inl (by omega))]; simp [-Option.bind_some]
  | n + 1, r, h => by
    by_cases hs : Stop r
    · rw [rd_stop hs]; simp [-Option.bind_some]
    · rw [rd_go hs]
      have h8 : ¬ r.length < 8 := fun hh => hs (.inl hh)
      have := rd_fst_len n (r.drop (8 + (num (r.take 4)).toNat)) (by rw [List.length_drop]; omega)
      rw [List.length_drop] at this
      refine ⟨by simp only [List.length_cons]; omega, fun p hp => ?_⟩
      rcases List.mem_cons.1 hp with rfl | hp
      · rw [List.length_take, List.length_drop]; omega
      · have := this.2 p hp; omega
theorem s1106 (l : List Int) (d : D) (h : Hp) (hd : SlOf 1 byr l d) (hl : l.length ≤ 100000000) (hu : ∀ z ∈ l, U8 z) : ∃ x, R fn1106 [d] h = some (.tup [x, .int .i64 (rd l).2], h) ∧ PartsOf (rd l).1 x := by
  suffices Wp (R fn1106 [d] h) (fun p => p.2 = h ∧ ∃ x, p.1 = .tup [x, .int .i64 (rd l).2] ∧ PartsOf (rd l).1 x) by
    obtain ⟨⟨x, h'⟩, h1, rfl, d', rfl, h2⟩ := this
    exact ⟨d', h1, h2⟩
  rw [e1106]
  simp only [F1106, bs, Option.bind_assoc]
  refine Wp.loop (fun k ds g => h.length ≤ g.length ∧ (∀ q, q < h.length → g[q]? = h[q]?) ∧ ∃ x a2 a3 a4 a5 a6 a7 a8, ∃ n : Nat, ∃ qs : List (List Int × D), ds = [x, .int .i64 n, a2, a3, a4, a5, a6, a7, a8] ∧ k + n = l.length ∧ n ≤ l.length ∧ qs.length ≤ n ∧ Own g h.length ty22 1 (qs.map fun p => [p.2]) x ∧ (∀ p ∈ qs, SlOf 1 byr p.1 p.2) ∧ (rd l).1 = qs.map (·.1) ++ (rd (l.drop n)).1 ∧ (rd l).2 = n + (rd (l.drop n)).2)
    (fun r => r.1 = .ext 0 ∧ h.length ≤ r.2.2.length ∧ (∀ q, q < h.length → r.2.2[q]? = h[q]?) ∧ ∃ x a2 a3 a4 a5 a6 a7 a8, ∃ v : Nat, ∃ qs : List (List Int × D), r.2.1 = [x, .int .i64 v, a2, a3, a4, a5, a6, a7, a8] ∧ Own r.2.2 h.length ty22 1 (qs.map fun p => [p.2]) x ∧ (∀ p ∈ qs, SlOf 1 byr p.1 p.2) ∧ (rd l).1 = qs.map (·.1) ∧ (rd l).2 = v) l.length
    ⟨Nat.le_refl _, fun _ _ => rfl, _, _, _, _, _, _, _, _, 0, [], rfl, rfl, by omega, by simp [-Option.bind_some], Own.nils _ _ _ _, by simp [-Option.bind_some], by simp [-Option.bind_some], by simp [-Option.bind_some]⟩ ?_ ?_
  · rintro k ds g ⟨hg, hq, x, a2, a3, a4, a5, a6, a7, a8, n, qs, rfl, hk, hnl, hqn, ow, hs, r1, r2⟩
    have w0 : IntKind.wrap .i64 ((l.length : Int) - n) = (l.length : Int) - n := wrap_i64 (by omega) (by omega)
    simp only [F1106_L0, nth_zero, nth_succ, bs, Option.bind_assoc, lens22 hd, dBin_sub, w0, dBin_geq]
    have stop : Stop (l.drop n) → (rd l).1 = qs.map (·.1) ∧ (rd l).2 = n := fun hst => by
      rw [rd_stop hst] at r1 r2
      exact ⟨by simpa [-Option.bind_some] using r1, by simpa [-Option.bind_some] using r2⟩
    refine Wp.dif ?_ ?_
    · intro h0
      have h0 : n + 8 ≤ l.length := by have : (8 : Int) ≤ (l.length : Int) - n := by simpa [-Option.bind_some] using h0
                                       omega
      have w1 : IntKind.wrap .i64 ((n : Int) + 4) = ((n + 4 : Nat) : Int) := by rw [wrap_i64 (by omega) (by omega)]; omega
      have w2 : IntKind.wrap .i64 ((n : Int) + 8) = ((n + 8 : Nat) : Int) := by rw [wrap_i64 (by omega) (by omega)]; omega
      obtain ⟨d6, e6, s6⟩ := cutC_by g hd n (n + 4) (by omega) (by omega)
      have l6 : (l.take (n + 4)).drop n = (l.drop n).take 4 := by rw [List.drop_take]; congr 1; omega
      rw [l6] at s6
      have hl4 : ((l.drop n).take 4).length = 4 := by simp [-Option.bind_some]; omega
      have hu4 : ∀ z ∈ (l.drop n).take 4, U8 z := fun z hz => hu z (List.mem_of_mem_drop (List.mem_of_mem_take hz))
      have en := s1110l _ d6 g s6 hl4 hu4
      have hN := num_four hl4 hu4
      unfold U32 at hN
      generalize hNN : num ((l.drop n).take 4) = N at en hN
      have w3 : IntKind.wrap .i64 N = N := wrap_i64 (by omega) (by omega)
      obtain ⟨m, hm⟩ : ∃ m : Nat, N = m := ⟨N.toNat, by omega⟩
      subst hm
      have w4 : IntKind.wrap .i64 ((l.length : Int) - ((n + 8 : Nat) : Int)) = (l.length : Int) - ((n + 8 : Nat) : Int) := wrap_i64 (by omega) (by omega)
      have hpick : ∀ (b1 b2 b3 : Bool) (K : D → Option Out), ((gd (.bool b1) false (some (.bool b2))).bind fun t31 => (dPick (.bool b1) (.bool true) t31).bind K) = K (.bool (b1 || b2)) := fun b1 b2 b3 K => by cases b1 <;> cases b2 <;> rfl
      by_cases hbad : m < 1 ∨ 8388608 < m ∨ l.length - n - 8 < m
      · have hst : Stop (l.drop n) := by
          unfold Stop
          rw [hNN, List.length_drop]
          simp only [Int.toNat_natCast]
          omega
        obtain ⟨q1, q2⟩ := stop hst
        have hb : (decide ((m : Int) < 1) || (decide ((m : Int) > 8388608) || decide ((m : Int) > (l.length : Int) - ((n + 8 : Nat) : Int)))) = true := by
          simp only [Bool.or_eq_true, decide_eq_true_eq]; omega
        simp only [dBin_add, w1, e6, bs, en, cv65_3, w3, w2, dBin_lss, dBin_gtr]
        by_cases c1 : (m : Int) < 1
        · simp only [c1, decide_true, gd_bool, reduceCtorEq, Bool.true_eq_false, if_false, bs, dPick_bool, dIf_bool, if_true]
          exact .some (.inr ⟨by simp [-Option.bind_some], rfl, hg, hq, _, _, _, _, _, _, _, _, n, qs, rfl, ow, hs, q1, q2⟩)
        · by_cases c2 : (m : Int) > 8388608
          · simp only [c1, c2, decide_true, decide_false, gd_bool, reduceCtorEq, Bool.true_eq_false, if_false, if_true, bs, dPick_bool, dIf_bool, dBin_gtr]
            exact .some (.inr ⟨by simp [-Option.bind_some], rfl, hg, hq, _, _, _, _, _, _, _, _, n, qs, rfl, ow, hs, q1, q2⟩)
          · have c3 : (m : Int) > (l.length : Int) - ((n + 8 : Nat) : Int) := by omega
            simp only [c1, c2, c3, decide_true, decide_false, gd_bool, reduceCtorEq, Bool.true_eq_false, Bool.false_eq_true, if_false, if_true, bs, dPick_bool, dIf_bool, dBin_gtr, lens22 hd, dBin_sub, w4]
            exact .some (.inr ⟨by simp [-Option.bind_some], rfl, hg, hq, _, _, _, _, _, _, _, _, n, qs, rfl, ow, hs, q1, q2⟩)
      · have c1 : ¬ (m : Int) < 1 := by omega
        have c2 : ¬ (m : Int) > 8388608 := by omega
        have c3 : ¬ (m : Int) > (l.length : Int) - ((n + 8 : Nat) : Int) := by omega
        have w5 : IntKind.wrap .i64 (((n + 8 : Nat) : Int) + (m : Int)) = ((n + 8 + m : Nat) : Int) := by rw [wrap_i64 (by omega) (by omega)]; omega
        obtain ⟨d9, e9, s9⟩ := cutC_by g hd (n + 8) (n + 8 + m) (by omega) (by omega)
        obtain ⟨d55, e55, s55⟩ := cutC_by g hd (n + 4) (n + 8) (by omega) (by omega)
        have l9 : (l.take (n + 8 + m)).drop (n + 8) = ((l.drop n).drop 8).take m := by rw [List.drop_take, List.drop_drop]; congr 1; omega
        have l55 : (l.take (n + 8)).drop (n + 4) = ((l.drop n).drop 4).take 4 := by rw [List.drop_take, List.drop_drop]; congr 1; omega
        rw [l9] at s9
        rw [l55] at s55
        have hl55 : (((l.drop n).drop 4).take 4).length = 4 := by simp [-Option.bind_some]; omega
        have hu55 : ∀ z ∈ ((l.drop n).drop 4).take 4, U8 z := fun z hz => hu z (List.mem_of_mem_drop (List.mem_of_mem_drop (List.mem_of_mem_take hz)))
        have e56 := s1110l _ d55 g s55 hl55 hu55
        have e59 := s1029 _ _ d6 d9 g s6 s9 (by simp [-Option.bind_some]; omega)
        simp only [dBin_add, w1, e6, bs, en, cv65_3, w3, w2, dBin_lss, dBin_gtr, c1, c2, c3, decide_true, decide_false, gd_bool, reduceCtorEq, Bool.true_eq_false, Bool.false_eq_true, if_false, if_true, dPick_bool, dIf_bool, lens22 hd, dBin_sub, w4, w5, e9, e55, e56, e59, dBin_neq]
        by_cases hcrc : num (((l.drop n).drop 4).take 4) = crc ((l.drop n).take 4 ++ ((l.drop n).drop 8).take m)
        · have hgo : ¬ Stop (l.drop n) := by
            unfold Stop
            rw [hNN, List.length_drop]
            simp only [Int.toNat_natCast]
            rintro (h1 | h1 | h1 | h1 | h1)
            · omega
            · omega
            · omega
            · omega
            · exact h1 hcrc
          rw [rd_go hgo, hNN] at r1 r2
          simp only [Int.toNat_natCast, List.drop_drop] at r1 r2
          simp only [hcrc, ne_eq, not_true, decide_false, dIf_bool, Bool.false_eq_true, if_false, bs, bs1031_1 d9 (slof_one s9)]
          refine wap1031 hg ow (rowsOf_sl _ _ _ _) (by simp [-Option.bind_some]; omega) fun x1 g1 ow1 len1 bel1 _ _ => ?_
          simp only [bs, dBin_add, w5]
          refine .some (.inl ⟨rfl, k - (8 + m), by omega, Nat.le_trans hg len1, fun q hq' => (bel1 q hq').trans (hq q hq'), _, _, _, _, _, _, _, _, n + 8 + m, qs ++ [(((l.drop n).drop 8).take m, d9)], rfl, by omega, by omega, by simp [-Option.bind_some]; omega, ?_, ?_, ?_, ?_⟩)
          · simpa [-Option.bind_some] using ow1
          · intro p hp
            rcases List.mem_append.1 hp with hp | hp
            · exact hs p hp
            · rw [List.mem_singleton.1 hp]; exact s9
          · rw [r1, List.drop_drop]
            simp only [List.map_append, List.map_cons, List.map_nil, List.append_assoc, List.singleton_append, Nat.add_assoc]
          · rw [r2]
            simp only [Nat.add_assoc]
        · have hst : Stop (l.drop n) := by
            unfold Stop
            rw [hNN]
            simp only [Int.toNat_natCast]
            exact .inr (.inr (.inr (.inr hcrc)))
          obtain ⟨q1, q2⟩ := stop hst
          simp only [hcrc, ne_eq, not_false_eq_true, decide_true, dIf_bool, if_true]
          exact .some (.inr ⟨by simp [-Option.bind_some], rfl, hg, hq, _, _, _, _, _, _, _, _, n, qs, rfl, ow, hs, q1, q2⟩)
    · intro h0
      have h0 : ¬ n + 8 ≤ l.length := by have : ¬ (8 : Int) ≤ (l.length : Int) - n := by simpa [-Option.bind_some] using h0
                                         omega
      obtain ⟨q1, q2⟩ := stop (.inl (by rw [List.length_drop]; omega))
      exact .some (.inr ⟨by simp [-Option.bind_some], rfl, hg, hq, _, _, _, _, _, _, _, _, n, qs, rfl, ow, hs, q1, q2⟩)
  · rintro ⟨ex, ds, g⟩ ⟨rfl, hg, hq, x, a2, a3, a4, a5, a6, a7, a8, v, qs, rfl, ow, hs, q1, q2⟩
    subst q2
    simp only [unblk_self, toEnd_nrm, bs, nth_zero, nth_succ, mkRes_two]
    have hsl := own_sl (f := fun p : List Int × D => [p.2]) (n0 := h.length) (n := 2) ow (Nat.le_refl _) (fun a ha d hd => by
      simp [-Option.bind_some] at hd; subst hd
      exact slof_frz (n := 1) (hs a ha) fun b _ => byr_frz _ g 1 b)
    rw [scope_eq (d' := .tup [frz h.length g 3 x, .int .i64 (rd l).2]) (by simp [-Option.bind_some]) (by
      refine .tup _ fun d hd => ?_
      simp [-Option.bind_some] at hd
      rcases hd with rfl | rfl
      · exact slof_ok hsl fun a ha d hd => by simp [-Option.bind_some] at hd; subst hd; exact slof_ok (hs a ha) fun b _ => byr_ok _ b
      · constructor) hg hq]
    exact .some ⟨rfl, _, rfl, qs, q1.symm, hsl, hs⟩
theorem scope_nil (g : Hp) (b : Bool) : scope [] g (.bool b) = some (.bool b, []) := scope_eq (by simp [-Option.bind_some]) (.bool _) (Nat.zero_le _) fun q hq => absurd hq (Nat.not_lt_zero q)
theorem rdB_frz {h : Hp} {l : List Int} {d : D} (hd : RdB h l d) : SlOf 1 byr l (frz 0 h 3 d) := by
  rcases hd with hd | ⟨ob, rfl, ho⟩
  · rw [slof_frz (n := 2) hd fun b _ => byr_frz _ h 2 b]; exact hd
  · refine .inr ⟨false, ?_⟩
    have hb : Nat.ble 0 ob = true := Nat.ble_eq_true_of_le (Nat.zero_le _)
    simp only [frz, hb, ho, List.drop_zero]
    rw [List.take_of_length_le (by simp [-Option.bind_some])]
    simp [-Option.bind_some, List.map_map, Function.comp_def, byr]
theorem byr_set (z v : Int) : spl (byr z) 0 (cells1 (.int .u8 v)) = byr v := id rfl
theorem xor_ne {z m : Int} (hz : U8 z) (h1 : 1 ≤ m) (h2 : m < 256) : IntKind.wrap .u8 (BitVec.ofInt IntKind.u8.bits z ^^^ BitVec.ofInt IntKind.u8.bits m).toNat ≠ z := fun hh => by
  have hb : ∀ x : BitVec IntKind.u8.bits, IntKind.wrap .u8 (x.toNat : Int) = x.toNat := fun x => by
    have := x.isLt
    have h3 : (2 : Nat) ^ IntKind.u8.bits = 256 := by decide
    rw [wrap_u8m]; omega
  have ho : ∀ c : Int, 0 ≤ c → c < 256 → ((BitVec.ofInt IntKind.u8.bits c).toNat : Int) = c := fun c c0 c1 => by
    rw [BitVec.toNat_ofInt]
    have h3 : ((2 ^ IntKind.u8.bits : Nat) : Int) = 256 := by decide
    rw [h3, Int.emod_eq_of_lt c0 c1]
    exact Int.toNat_of_nonneg c0
  rw [hb] at hh
  have hz2 := ho z hz.1 hz.2
  have hm2 := ho m (by omega) h2
  have h4 : (BitVec.ofInt IntKind.u8.bits z ^^^ BitVec.ofInt IntKind.u8.bits m) = BitVec.ofInt IntKind.u8.bits z := BitVec.eq_of_toNat_eq (by omega)
  have h5 : BitVec.ofInt IntKind.u8.bits m = 0#_ := by
    have := congrArg (fun x => BitVec.ofInt IntKind.u8.bits z ^^^ x) h4
    simpa [-Option.bind_some, ← BitVec.xor_assoc] using this
  have h6 := congrArg BitVec.toNat h5
  simp only [BitVec.toNat_zero, BitVec.ofNat_eq_ofNat] at h6
  omega
theorem parts_len {ps : List (List Int)} {x : D} (hx : PartsOf ps x) : dLenT tab ty1031 x = some (.int .i64 ps.length) := by
  obtain ⟨qs, rfl, h2, h3⟩ := hx
  rw [lens1031 h2]; simp [-Option.bind_some]
theorem parts_take {ps : List (List Int)} {x : D} (hx : PartsOf ps x) (n : Nat) (hn : n ≤ ps.length) : ∃ y, dSliceAt tab ty1031 false true false [x, .int .i64 n] = some y ∧ PartsOf (ps.take n) y := by
  obtain ⟨qs, rfl, h2, h3⟩ := hx
  obtain ⟨y, e, hy⟩ := slh1031 h2 (k := .i64) (n := (n : Int)) (by omega) (by simp [-Option.bind_some] at hn; omega)
  exact ⟨y, e, qs.take n, by rw [List.map_take], by simpa [-Option.bind_some] using hy, fun p hp => h3 p (List.mem_of_mem_take hp)⟩
theorem parts_ix {ps : List (List Int)} {x : D} (hx : PartsOf ps x) (h : Hp) (n : Nat) (p : List Int) (hp : ps[n]? = some p) : ∃ q d, dIndexAddr tab ty1031 x (.int .i64 n) = some q ∧ dLoad tab h ty22 q = some d ∧ SlOf 1 byr p d := by
  obtain ⟨qs, rfl, h2, h3⟩ := hx
  rw [List.getElem?_map] at hp
  cases hq : qs[n]? with
  | none => rw [hq] at hp; cases hp
  | some q =>
    rw [hq] at hp
    injection hp with hp
    subst hp
    exact ⟨.fptr [q.2], q.2, by rw [ixs1031 h2]; simp [-Option.bind_some, hq], parts_ld q h, h3 q (List.mem_of_getElem? hq)⟩
theorem rd_odd {ps : List (List Int)} (hps : ∀ p ∈ ps, PayOK p) {n k : Nat} {p : List Int} (hp : ps[n]? = some p) (h4 : 4 ≤ k - (jour (ps.take n)).length) (hk : k < (jour (ps.take n)).length + (recOf p).length) {z : Int} (hz : U8 z) (hne : (jour ps)[k]? ≠ some z) :
    rd ((jour ps).set k z) = (ps.take n, (jour (ps.take n)).length) := by
  have hn := (List.getElem?_eq_some_iff.1 hp).1
  have e : ps = ps.take n ++ p :: ps.drop (n + 1) := by
    have := List.drop_eq_getElem_cons hn
    rw [(List.getElem?_eq_some_iff.1 hp).2] at this
    rw [← this]; simp [-Option.bind_some]
  have ej : jour ps = jour (ps.take n) ++ (recOf p ++ jour (ps.drop (n + 1))) := by
    conv => lhs; rw [e]
    simp [-Option.bind_some, jour]
  have hpk : PayOK p := hps p (List.mem_of_getElem? hp)
  generalize hJ : jour (ps.take n) = J at *
  generalize jour (ps.drop (n + 1)) = T at *
  rw [ej] at hne ⊢
  have hJk : J.length ≤ k := by omega
  rw [List.set_append_right _ _ hJk, List.set_append_left _ _ (by omega)]
  rw [List.getElem?_append_right hJk, List.getElem?_append_left (by omega)] at hne
  have hst := stop_odd hpk T (k - J.length) z h4 (by omega) hz hne
  have := rd_jour (ps.take n) (fun q hq => hps q (List.mem_of_mem_take hq)) ((recOf p).set (k - J.length) z ++ T)
  rw [hJ, rd_stop hst] at this
  rw [this]
  simp [-Option.bind_some]
theorem law1104 (zs ys : List Int) (d dy : D) (at_ by_ : Int) (hd : Given .u8 zs d) (hz : ∀ z ∈ zs, 0 ≤ z ∧ z < 256) (hb0 : 0 ≤ by_) (hb1 : by_ < 256) (hy : Given .u8 ys dy) (hyu : ∀ z ∈ ys, 0 ≤ z ∧ z < 256) (hyl : ys.length ≤ 9223372036854775807) : ∃ h', R fn1104 [d, .int .i64 at_, .int .u8 by_, dy] [] = some (.bool true, h') := by
  suffices Wp (R fn1104 [d, .int .i64 at_, .int .u8 by_, dy] []) (fun p => p.1 = .bool true) by
    obtain ⟨⟨x, h'⟩, h1, rfl⟩ := this
    exact ⟨h', h1⟩
  have hys := given_by hy
  rw [e1104]
  by_cases hlen : ys.length < 1 ∨ 500 < ys.length
  · have c : (decide ((ys.length : Int) < 1) = true) ∨ (decide ((ys.length : Int) < 1) = false ∧ decide ((ys.length : Int) > 500) = true) := by
      by_cases h1 : ys.length < 1
      · exact .inl (by simp only [decide_eq_true_eq]; omega)
      · exact .inr ⟨by simp only [decide_eq_false_iff_not]; omega, by simp only [decide_eq_true_eq]; omega⟩
    rcases c with c1 | ⟨c1, c2⟩
    · simp only [F1104, bs, s1023, dUn_not, Bool.not_true, gd_bool, if_true, lens22 hys, dBin_lss, dPick_bool, Bool.false_eq_true, if_false, Option.bind_assoc, c1, Bool.true_eq_false, reduceCtorEq, dIf_bool, mkRes_one, scope_nil]
      exact .some rfl
    · simp only [F1104, bs, s1023, dUn_not, Bool.not_true, gd_bool, if_true, lens22 hys, dBin_lss, dPick_bool, Bool.false_eq_true, if_false, Option.bind_assoc, c1, c2, dBin_gtr, Bool.true_eq_false, reduceCtorEq, dIf_bool, mkRes_one, scope_nil]
      exact .some rfl
  have c1 : decide ((ys.length : Int) < 1) = false := by simp only [decide_eq_false_iff_not]; omega
  have c2 : decide ((ys.length : Int) > 500) = false := by simp only [decide_eq_false_iff_not]; omega
  have hyp : PayOK ys := ⟨by omega, by omega, hyu⟩
  simp only [F1104, bs, s1023, dUn_not, Bool.not_true, gd_bool, if_true, lens22 hys, dBin_lss, dPick_bool, Bool.false_eq_true, if_false, Option.bind_assoc, c1, c2, dBin_gtr, Bool.true_eq_false, reduceCtorEq, dIf_bool]
  obtain ⟨x, w, dw, g0, e0, hg0, hw, ps, hwj, hps, hwl⟩ := s1105 zs d [] hd hz
  refine Wp.step e0 ?_
  have hwu : ∀ z ∈ w, U8 z := by rw [hwj]; exact jour_u8 ps hps
  simp only [bs, dExtract_tup, List.getElem?_cons_zero, List.getElem?_cons_succ]
  obtain ⟨xa, ea, ha⟩ := s1106 w dw g0 hw (by omega) hwu
  have hrd : rd w = (ps, w.length) := by
    have := rd_jour ps hps []
    rw [List.append_nil, ← hwj, rd_stop (r := []) (.inl (by simp [-Option.bind_some]))] at this
    simpa [-Option.bind_some] using this
  rw [hrd] at ea ha
  refine Wp.step ea ?_
  have wl : IntKind.wrap .i64 ((w.length : Int) + 1) = ((w.length + 1 : Nat) : Int) := by rw [wrap_i64 (by omega) (by omega)]; omega
  obtain ⟨r, er, r0, r1, _⟩ := s1091g at_ ((w.length + 1 : Nat) : Int) g0 (by omega)
  have r1 := r1 (by omega)
  obtain ⟨k, rfl⟩ := Int.eq_ofNat_of_zero_le r0
  have hk : k ≤ w.length := by omega
  obtain ⟨dk, ek, sk⟩ := slh22 hw (k := .i64) r0 (by omega)
  rw [Int.toNat_natCast] at sk
  obtain ⟨c, hc1, hc2, hc3, hc4⟩ := rd_cut ps hps k (by rw [← hwj]; exact hk)
  rw [← hwj] at hc2 hc4
  obtain ⟨xc, ec, hcc⟩ := s1106 (w.take k) dk g0 sk (by simp [-Option.bind_some]; omega) fun z hz => hwu z (List.mem_of_mem_take hz)
  rw [hc2] at ec hcc
  generalize hM : (jour (ps.take c)).length = m at *
  have hpl := rd_fst_len w.length w (Nat.le_refl _)
  rw [hrd] at hpl
  simp only at ec hcc hpl ha ea
  obtain ⟨xt, et, ht⟩ := parts_take ha c hc1
  have hcl : (ps.take c).length = c := by simp [-Option.bind_some]; omega
  have esp := s1108 (ps.take c) (ps.take c) xc xt g0 hcc ht (by omega) (fun p hp => by have := hpl.2 p (List.mem_of_mem_take hp); omega)
  have d1 : decide ((m : Int) > (k : Int)) = false := by simp only [decide_eq_false_iff_not]; omega
  have d2 : decide ((c : Int) > (ps.length : Int)) = false := by simp only [decide_eq_false_iff_not]; omega
  have pl1 : dLenT tab ty1031 xc = some (.int .i64 c) := by rw [parts_len hcc, hcl]
  simp only [bs, dExtract_tup, List.getElem?_cons_zero, List.getElem?_cons_succ, lens22 hw, dBin_add, wl, er, ek, ec, dBin_neq, ne_eq, not_true, decide_false, gd_bool, gdW_bool, if_true, d1, d2, dPick_bool, Bool.false_eq_true, if_false, pl1, parts_len ha, et, esp, decide_true, dUn_not, Bool.not_true, dIf_bool, dBin_gtr, dBin_lss]
  have wkm : IntKind.wrap .i64 ((k : Int) - (m : Int)) = (k : Int) - (m : Int) := wrap_i64 (by omega) (by omega)
  refine Wp.step (a := if decide ((k : Int) < (w.length : Int)) = true then .int .i64 k else .und) (by split <;> rfl) ?_
  refine Wp.step (a := if decide ((k : Int) < (w.length : Int)) = true then .int .i64 m else .und) (by split <;> rfl) ?_
  refine Wp.step (a := if decide ((k : Int) < (w.length : Int)) = true then .int .i64 ((k : Int) - (m : Int)) else .und) (by split <;> simp [-Option.bind_some, wkm]) ?_
  refine Wp.step (a := if decide ((k : Int) < (w.length : Int)) = true then .bool (decide ((k : Int) - (m : Int) ≥ 4)) else .und) (by split <;> simp [-Option.bind_some]) ?_
  have hsel : (if decide ((k : Int) < (w.length : Int)) = true then (if decide ((k : Int) < (w.length : Int)) = true then D.bool (decide ((k : Int) - (m : Int) ≥ 4)) else .und) else D.bool false) = .bool (decide (k < w.length ∧ m + 4 ≤ k)) := by
    by_cases h1 : k < w.length
    · have h1' : (k : Int) < (w.length : Int) := by omega
      by_cases h2 : m + 4 ≤ k
      · have h2' : (k : Int) - (m : Int) ≥ 4 := by omega
        simp [-Option.bind_some, h1, h2]; omega
      · have h2' : ¬ (k : Int) - (m : Int) ≥ 4 := by omega
        simp [-Option.bind_some, h1, h2]; omega
    · have h1' : ¬ (k : Int) < (w.length : Int) := by omega
      simp [-Option.bind_some, h1]
  rw [hsel]
  refine Wp.join (P := fun r => r.1 = .nrm) ?_ (fun _ => .some rfl) ?_
  · intro hodd
    obtain ⟨ho1, ho2⟩ : k < w.length ∧ m + 4 ≤ k := by simpa [-Option.bind_some] using hodd
    · 
      obtain ⟨dodd, g1, e1, B1⟩ := app_b (n0 := 0) (h := g0) (l := []) (d := .nils) (Nat.zero_le _) (Own.nils _ _ _ _) (rdB_rows (h := g0) (.inl hw)) (by simp [-Option.bind_some]; omega)
      simp only [List.nil_append] at B1
      refine Wp.step e1 ?_
      obtain ⟨o, ho, rfl, hob⟩ := own_ix B1.ow (i := k) (by simp [-Option.bind_some]; omega)
      obtain ⟨z, hz'⟩ : ∃ z, w[k]? = some z := ⟨_, List.getElem?_eq_getElem (by omega)⟩
      have hzu := hwu z (List.mem_of_getElem? hz')
      have hr : (w.map byr)[k]? = some (byr z) := by rw [List.getElem?_map, hz']; rfl
      have i0 : (0 : Int) ≤ (k : Int) ∧ (k : Int) < ((w.map byr).length : Int) := by simp [-Option.bind_some]; omega
      have ix : dIndexAddr tab ty22 (.msl 1 o 0 (w.map byr).length) (.int .i64 (k : Int)) = some (.ptr o k 0) := by rw [ixm22, if_pos i0]; simp [-Option.bind_some]
      have ld : dLoad tab g1 ty5 (.ptr o k 0) = some (.int .u8 z) := by rw [ldp5, row_of hob, hr]; rfl
      obtain ⟨b, hbm, hb1', hb2'⟩ : ∃ b, dMax (.int .u8 by_) (.int .u8 1) = some (.int .u8 b) ∧ 1 ≤ b ∧ b < 256 := by
        by_cases hle : by_ ≤ 1
        · exact ⟨1, by simp [-Option.bind_some, dMax, hle] <;> omega, by omega, by omega⟩
        · exact ⟨by_, by simp [-Option.bind_some, dMax, hle] <;> omega, by omega, by omega⟩
      simp only [bs, ix, ld, hbm, dBin_xor]
      refine wst5 hob hr (by rfl) (by simp [-Option.bind_some, byr]) (by rfl) fun g2 h2 _ => ?_
      rw [byr_set, ← List.map_set] at h2
      have hne := xor_ne hzu hb1' hb2'
      have hxu : U8 (IntKind.wrap .u8 (BitVec.ofInt IntKind.u8.bits z ^^^ BitVec.ofInt IntKind.u8.bits b).toNat) := by rw [wrap_u8m]; unfold U8; omega
      generalize IntKind.wrap .u8 (BitVec.ofInt IntKind.u8.bits z ^^^ BitVec.ofInt IntKind.u8.bits b).toNat = v at h2 hne hxu
      have rz : RdB g2 (w.set k v) (.msl 1 o 0 (w.map byr).length) := .inr ⟨o, by simp [-Option.bind_some], h2⟩
      have sz := rdB_frz rz
      obtain ⟨p, hp1, hp2⟩ := hc4 ho1
      have hro : rd (w.set k v) = (ps.take c, m) := by
        have := rd_odd hps hp1 (k := k) (by omega) (by omega) hxu (by rw [← hwj, hz']; intro hh; injection hh with hh; exact hne hh.symm)
        rw [← hwj, hM] at this
        exact this
      obtain ⟨xo, eo, ho'⟩ := s1106 (w.set k v) _ (g2.map fun _ => .dead) sz (by simp [-Option.bind_some]; omega) (fun y hy => by
        rcases List.mem_or_eq_of_mem_set hy with hy | rfl
        · exact hwu y hy
        · exact hxu)
      rw [hro] at eo ho'
      have eoz : callZ R fn1106 [.msl 1 o 0 (w.map byr).length] g2 = some (.tup [xo, .int .i64 m], g2.map fun _ => .dead) := eo
      have pl2 : dLenT tab ty1031 xo = some (.int .i64 c) := by rw [parts_len ho', hcl]
      have hmin : (if (c : Int) ≤ (ps.length : Int) then (c : Int) else (ps.length : Int)) = c := by rw [if_pos (by omega)]
      have esp2 := s1108 (ps.take c) (ps.take c) xo xt (g2.map fun _ => .dead) ho' ht (by omega) (fun p hp => by have := hpl.2 p (List.mem_of_mem_take hp); omega)
      simp only [bs, eoz, dExtract_tup, List.getElem?_cons_zero, List.getElem?_cons_succ, dBin_gtr, d1, gd_bool, if_true, dBin_neq, ne_eq, not_true, decide_false, dPick_bool, Bool.false_eq_true, if_false, pl2, parts_len ha, dMin_int, hmin, et, gdW_bool, esp2, decide_true, dUn_not, Bool.not_true, dIf_bool]
      exact .some rfl
  rintro ⟨ex, ds, g3⟩ hex
  have hex : ex = .nrm := hex
  subst hex
  obtain ⟨dm, em, sm⟩ := slh22 hw (k := .i64) (n := (m : Int)) (by omega) (by omega)
  rw [Int.toNat_natCast] at sm
  have hwm : w.take m = jour (ps.take c) := by
    have e : jour ps = jour (ps.take c) ++ jour (ps.drop c) := by
      have h0 : jour (ps.take c ++ ps.drop c) = jour (ps.take c) ++ jour (ps.drop c) := by simp only [jour, List.map_append, List.flatten_append]
      rwa [List.take_append_drop] at h0
    rw [hwj, e, ← hM]; simp [-Option.bind_some]
  rw [hwm] at sm
  obtain ⟨dn, en, sn⟩ := s1024 (jour (ps.take c)) ys dm dy g3 sm hys (by omega) (by omega)
  have hE : jErr (jour (ps.take c)) ys = 0 := by
    unfold jErr
    rw [if_neg (by omega), if_neg (by omega)]
  have hR : jRes (jour (ps.take c)) ys = jour (ps.take c ++ [ys]) := by
    unfold jRes
    rw [if_pos hE, jour_snoc]
    simp [-Option.bind_some, recOf]
  rw [hE] at en
  rw [hR] at sn
  have hpn : ∀ p ∈ ps.take c ++ [ys], PayOK p := fun p hp => by
    rcases List.mem_append.1 hp with hp | hp
    · exact hps p (List.mem_of_mem_take hp)
    · rw [List.mem_singleton.1 hp]; exact hyp
  have hln : (jour (ps.take c ++ [ys])).length = m + (8 + ys.length) := by rw [jour_snoc, List.length_append, hM, rec_len]
  obtain ⟨xn, exn, hxn⟩ := s1106 (jour (ps.take c ++ [ys])) dn g3 sn (by omega) (jour_u8 _ hpn)
  have hrn : rd (jour (ps.take c ++ [ys])) = (ps.take c ++ [ys], (jour (ps.take c ++ [ys])).length) := by
    have := rd_jour (ps.take c ++ [ys]) hpn []
    rw [List.append_nil, rd_stop (r := []) (.inl (by simp [-Option.bind_some]))] at this
    simpa [-Option.bind_some] using this
  rw [hrn] at exn hxn
  have hxl : dLenT tab ty1031 xn = some (.int .i64 ((c : Int) + 1)) := by
    rw [parts_len hxn, List.length_append, hcl]; simp [-Option.bind_some]
  have w2 : IntKind.wrap .i64 ((c : Int) + 1) = (c : Int) + 1 := wrap_i64 (by omega) (by omega)
  obtain ⟨q, dq, q1, q2, q3⟩ := parts_ix hxn g3 c ys (by rw [List.getElem?_append_right (by omega), hcl]; simp [-Option.bind_some])
  have esb := s1026 ys ys dq dy g3 q3 hys (by omega)
  simp only [toEnd_nrm, bs, em, en, dExtract_tup, List.getElem?_cons_zero, List.getElem?_cons_succ, exn, dBin_eql, decide_true, gd_bool, if_true, lens22 sn, dPick_bool, hxl, pl1, dBin_add, w2, q1, q2, gdW_bool, esb, mkRes_one, scope_nil]
  exact .some rfl
end Go.Proofs.Ytjepklgnhdellaa
