/- Laws, on plain data, about functions that the statement reaches. -/
import Derived.Test.YtjepklgnhdellaaL4
set_option linter.unusedSimpArgs false
set_option linter.unusedVariables false
set_option linter.unnecessarySimpa false
set_option maxRecDepth 100000
namespace Go.Proofs.Ytjepklgnhdellaa
open Go.Eng Go.Pi
theorem s1112 (host : Int) (b : Bat) (h : Hp) (hb : BatOK host b) : ∃ d', R fn1112 [.agg (batr b)] h = some (.tup [d', .int .i64 0], h) ∧ SlOf 1 byr (batB b) d' := by
  suffices Wp (R fn1112 [.agg (batr b)] h) (fun p => p.2 = h ∧ ∃ d', p.1 = .tup [d', .int .i64 0] ∧ SlOf 1 byr (batB b) d') by
    obtain ⟨⟨x, h'⟩, h1, rfl, d', rfl, h2⟩ := this
    exact ⟨d', h1, h2⟩
  have hchk := s1113 host b h hb
  have hlB := batB_len hb
  have hn3 := hb.n3
  have f0 : dFieldAddr tab ty1064 0 (.fptr (batr b)) = some (.fptr (batr b)) := id rfl
  have f1 : dFieldAddr tab ty1064 1 (.fptr (batr b)) = some (.fptr [.int .i64 b.nu, b.d]) := id rfl
  have f2 : dFieldAddr tab ty1064 2 (.fptr (batr b)) = some (.fptr [b.d]) := id rfl
  have l0 : ∀ g, dLoad tab g ty3 (.fptr (batr b)) = some (.int .i64 b.hs) := fun g => id rfl
  have lb : ∀ g, dLoad tab g ty1064 (.fptr (batr b)) = some (.agg (batr b)) := fun g => id rfl
  rw [e1112]
  simp only [F1112, pBoxF_agg, bs, Option.bind_assoc, lb, hchk, dBin_neq, ne_eq, not_true, decide_false, dIf_bool, Bool.false_eq_true, if_false, f0, f1, f2, l0, ld3, ld113, lens113 b.hd, cv3_1029, chk_true]
  have B0 : Bw h.length h .nils h [] .nils := Bw.refl (Own.nils _ _ _ _)
  obtain ⟨d1, h1, e1, B1⟩ := s1030g (IntKind.wrap .u64 b.hs) 8 (by omega) h.length h [] .nils (Nat.le_refl _) B0.ow (by simp [-Option.bind_some])
  have e1 : R fn1030 [.nils, .int .u64 (IntKind.wrap .u64 b.hs), .int .i64 8] h = some (d1, h1) := e1
  refine Wp.step e1 ?_
  simp only [bs]
  obtain ⟨d2, h2, e2, B2⟩ := s1030g (IntKind.wrap .u64 b.nu) 8 (by omega) h.length h1 _ d1 B1.len B1.ow (by simp only [List.length_append, List.length_nil, putb_len]; omega)
  have e2 : R fn1030 [d1, .int .u64 (IntKind.wrap .u64 b.nu), .int .i64 8] h1 = some (d2, h2) := e2
  refine Wp.step e2 ?_
  simp only [bs]
  have n2 := Nat.le_trans B1.len B2.len
  obtain ⟨d3, h3, e3, B3⟩ := s1030g (IntKind.wrap .u64 b.its.length) 4 (by omega) h.length h2 _ d2 n2 B2.ow (by simp only [List.length_append, List.length_nil, putb_len]; omega)
  have e3 : R fn1030 [d2, .int .u64 (IntKind.wrap .u64 b.its.length), .int .i64 4] h2 = some (d3, h3) := e3
  refine Wp.step e3 ?_
  simp only [bs, chk_true]
  have hA : [] ++ putb 8 (IntKind.wrap .u64 b.hs) ++ putb 8 (IntKind.wrap .u64 b.nu) ++ putb 4 (IntKind.wrap .u64 b.its.length) = batA b := by simp [-Option.bind_some, batA, pI, pN]
  rw [hA] at B3
  have BB := (B1.trans B2).trans B3
  have n3 := Nat.le_trans n2 B3.len
  refine Wp.loop (fun k ds g => h.length ≤ g.length ∧ ∃ d' x y, ∃ n : Nat, ds = [d', .int .i64 n, x, y] ∧ k + n = b.its.length ∧ Bw h.length h .nils g (batA b ++ ((b.its.take n).map encI).flatten) d')
    (fun r => r.1 = .ext 0 ∧ h.length ≤ r.2.2.length ∧ (∃ d' x y z, r.2.1 = [d', x, y, z] ∧ Bw h.length h .nils r.2.2 (batB b) d')) b.its.length ⟨n3, _, _, _, 0, rfl, rfl, by simpa [-Option.bind_some] using BB⟩ ?_ ?_
  · rintro k ds g ⟨hg, d', x, y, n, rfl, hk, B⟩
    simp only [F1112_L0, nth_zero, nth_succ, bs, Option.bind_assoc, f2, ld113, lens113 b.hd, dBin_lss]
    refine Wp.dif ?_ ?_
    · intro h0
      have h0 : n < b.its.length := by have : (n : Int) < b.its.length := by simpa [-Option.bind_some] using h0
                                       omega
      obtain ⟨i, hi⟩ : ∃ i, b.its[n]? = some i := ⟨_, List.getElem?_eq_getElem h0⟩
      have hB := hb.it i (List.mem_of_getElem? hi)
      have hw : IntKind.wrap .i64 ((n : Int) + 1) = ((n + 1 : Nat) : Int) := by
        rw [wrap_i64 (by omega) (by omega)]; omega
      have hii : dIndexAddr tab ty113 b.d (.int .i64 (n : Int)) = some (.fptr (itr i)) := by rw [ixs113 b.hd]; simp [-Option.bind_some, hi]
      have hil := bit_len hB
      obtain ⟨de, ee, he⟩ := s1114 i 0 g (fun g => s1004 i g hB.good) (by omega)
      rw [if_pos rfl] at he
      have hle := flat_le encI b.its (n + 1)
      rw [flat_take encI hi, List.length_append] at hle
      have hBl : (batB b).length = 20 + (b.its.map encI).flatten.length := by simp only [batB, List.length_append, batA_len]
      simp only [hii, ldIt, ee, bs, dExtract_tup, List.getElem?_cons_zero, List.getElem?_cons_succ]
      refine app_bw B hg (rdB_rows (.inl he)) (by simp only [List.length_append, batA_len]; omega) fun d4 g4 B4 n4 => ?_
      simp only [bs, dBin_add, hw]
      refine .some (.inl ⟨rfl, k - 1, by omega, n4, _, _, _, n + 1, rfl, by omega, ?_⟩)
      rw [flat_take encI hi]
      simpa [-Option.bind_some] using B4
    · intro h0
      have h0 : n = b.its.length := by have : ¬ (n : Int) < b.its.length := by simpa [-Option.bind_some] using h0
                                       omega
      subst h0
      rw [List.take_length] at B
      exact .some (.inr ⟨by simp [-Option.bind_some], rfl, hg, _, _, _, _, rfl, B⟩)
  · rintro ⟨ex, ds, g⟩ ⟨rfl, q2, d', x, y, z, rfl, B⟩
    simp only [unblk_self, toEnd_nrm, bs, nth_zero, mkRes_two]
    have hsl := own_sl (n0 := h.length) (n := 2) B.ow (Nat.le_refl _) (fun a _ => byr_frz _ g 2 a)
    rw [scope_eq (d' := .tup [frz h.length g 3 d', .int .i64 0]) (by simp [-Option.bind_some]) (by
      refine .tup _ fun d hd => ?_
      simp [-Option.bind_some] at hd
      rcases hd with rfl | rfl
      · exact slof_ok hsl fun a _ => byr_ok _ a
      · constructor) q2 (fun q hq => B.old q hq fun hh => by obtain ⟨z, n, hh⟩ := hh; cases hh)]
    exact .some ⟨rfl, _, rfl, hsl⟩
theorem s1109 (host : Int) (b : Bat) (hb : BatOK host b) (j : List Int) (dj : D) (h : Hp) (hj : SlOf 1 byr j dj) (hjl : j.length ≤ 10000000) : ∃ d', R fn1109 [dj, .agg (batr b)] h = some (.tup [d', .int .i64 0], h) ∧ SlOf 1 byr (j ++ recOf (batB b)) d' := by
  obtain ⟨d1, e1, h1⟩ := s1112 host b h hb
  have hl := batB_len hb
  obtain ⟨d2, e2, h2⟩ := s1025 j (batB b) dj d1 h hj h1 (by omega) (by omega)
  have hE : jErr j (batB b) = 0 := by
    unfold jErr
    rw [if_neg (by omega), if_neg (by omega)]
  have hR : jRes j (batB b) = j ++ recOf (batB b) := by
    unfold jRes
    rw [if_pos hE]
    simp [-Option.bind_some, recOf]
  rw [hE] at e2
  rw [hR] at h2
  have lb : ∀ g, dLoad tab g ty1064 (.fptr (batr b)) = some (.agg (batr b)) := fun g => id rfl
  refine ⟨d2, ?_, h2⟩
  rw [e1109]
  simp only [F1109, pBoxF_agg, bs, lb, e1, dExtract_tup, List.getElem?_cons_zero, List.getElem?_cons_succ, dBin_neq, ne_eq, not_true, decide_false, dIf_bool, Bool.false_eq_true, if_false, e2, mkRes_two]
/-- Batches drawn, and their journal. -/
theorem s1105 (zs : List Int) (d : D) (h : Hp) (hd : Given .u8 zs d) (hz : ∀ z ∈ zs, 0 ≤ z ∧ z < 256) : ∃ x w dw h', R fn1105 [d] h = some (.tup [x, dw], h') ∧ h.length ≤ h'.length ∧ SlOf 1 byr w dw ∧ ∃ ps : List (List Int), w = jour ps ∧ (∀ p ∈ ps, PayOK p) ∧ w.length ≤ 3000000 := by
  suffices Wp (R fn1105 [d] h) (fun p => ∃ x w dw, p.1 = .tup [x, dw] ∧ h.length ≤ p.2.length ∧ SlOf 1 byr w dw ∧ ∃ ps : List (List Int), w = jour ps ∧ (∀ p ∈ ps, PayOK p) ∧ w.length ≤ 3000000) by
    obtain ⟨⟨y, h'⟩, h1, x, w, dw, rfl, h2⟩ := this
    exact ⟨x, w, dw, h', h1, h2⟩
  rw [e1105]
  simp only [F1105, bs, Option.bind_assoc]
  obtain ⟨h0, e0, c0, hl0⟩ := d44 zs d 400 h hd (by omega) (by omega) hz
  refine Wp.step e0 ?_
  simp only [bs]
  obtain ⟨da, h1, ea, ca, sa, A, hA, hA1, hA2, hAb⟩ := d1088 c0 1 5 (by omega) (by omega) (by omega) (by omega)
  refine Wp.step ea ?_
  simp only [bs]
  refine Wp.loop (fun k ds g => g = h1 ∧ ∃ dj x, ∃ n : Nat, ∃ ps : List (List Int), ds = [dj, .int .i64 n, x] ∧ k + n = A.length ∧ SlOf 1 byr (jour ps) dj ∧ (∀ p ∈ ps, PayOK p) ∧ (jour ps).length ≤ n * 100100)
    (fun r => r.1 = .ext 0 ∧ r.2.2 = h1 ∧ ∃ dj x y, ∃ ps : List (List Int), r.2.1 = [dj, x, y] ∧ SlOf 1 byr (jour ps) dj ∧ (∀ p ∈ ps, PayOK p) ∧ (jour ps).length ≤ 3000000) A.length ⟨rfl, _, _, 0, [], rfl, rfl, .nils _ _, by simp [-Option.bind_some], by simp [-Option.bind_some, jour]⟩ ?_ ?_
  · rintro k ds g ⟨rfl, dj, x, n, ps, rfl, hk, hj, hp, hl⟩
    simp only [F1105_L0, nth_zero, nth_succ, bs, Option.bind_assoc, lens1059 hA, dBin_lss]
    refine Wp.dif ?_ ?_
    · intro h0
      have h0 : n < A.length := by have : (n : Int) < A.length := by simpa [-Option.bind_some] using h0
                                   omega
      obtain ⟨b, hi⟩ : ∃ b, A[n]? = some b := ⟨_, List.getElem?_eq_getElem h0⟩
      have hb := hAb b (List.mem_of_getElem? hi)
      have hw : IntKind.wrap .i64 ((n : Int) + 1) = ((n + 1 : Nat) : Int) := by
        rw [wrap_i64 (by omega) (by omega)]; omega
      have hii : dIndexAddr tab ty1059 da (.int .i64 (n : Int)) = some (.fptr (batr b)) := by rw [ixs1059 hA]; simp [-Option.bind_some, hi]
      have lb : ∀ g, dLoad tab g ty1064 (.fptr (batr b)) = some (.agg (batr b)) := fun g => id rfl
      have hn24 : n * 100100 ≤ 24 * 100100 := Nat.mul_le_mul_right _ (by omega)
      obtain ⟨d', e1, hd'⟩ := s1109 1 b hb (jour ps) dj g hj (by omega)
      have hBl := batB_len hb
      rw [← jour_snoc] at hd'
      simp only [hii, lb, e1, bs, dExtract_tup, List.getElem?_cons_zero, List.getElem?_cons_succ, dBin_add, hw]
      refine .some (.inl ⟨rfl, k - 1, by omega, rfl, _, _, n + 1, ps ++ [batB b], rfl, by omega, hd', fun p hp' => ?_, ?_⟩)
      · rcases List.mem_append.1 hp' with hp' | hp'
        · exact hp p hp'
        · simp [-Option.bind_some] at hp'
          subst hp'
          exact ⟨by omega, by omega, batB_u8 b⟩
      · rw [jour_snoc, List.length_append, rec_len, Nat.succ_mul]
        omega
    · intro h0
      have hn24 : n * 100100 ≤ 24 * 100100 := Nat.mul_le_mul_right _ (by omega)
      exact .some (.inr ⟨by simp [-Option.bind_some], rfl, rfl, _, _, _, ps, rfl, hj, hp, by omega⟩)
  · rintro ⟨ex, ds, g⟩ ⟨rfl, q2, dj, x, y, ps, rfl, q3, q4, q5⟩
    simp only at q2
    subst q2
    simp only [unblk_self, toEnd_nrm, bs, nth_zero, mkRes_two]
    have hgl := sa.1
    exact .some ⟨_, _, _, rfl, show h.length ≤ g.length by omega, q3, ps, rfl, q4, q5⟩
theorem or_nat (w x b k : Nat) (hb : b < 2 ^ k) (hx : x * 2 ^ k + b < 2 ^ w) : (BitVec.ofInt w ((x * 2 ^ k : Nat) : Int) ||| BitVec.ofInt w (b : Int)).toNat = x * 2 ^ k + b := by
  rw [BitVec.ofInt_natCast, BitVec.ofInt_natCast, BitVec.toNat_or, BitVec.toNat_ofNat, BitVec.toNat_ofNat, Nat.mod_eq_of_lt (by omega), Nat.mod_eq_of_lt (by omega)]
  rw [← Nat.shiftLeft_eq, ← Nat.shiftLeft_add_eq_or_of_lt hb, Nat.shiftLeft_eq]
theorem or_u32 {x b : Int} (k : Nat) (h0 : 0 ≤ x) (hb0 : 0 ≤ b) (hb : b < 2 ^ k) (hx : x * 2 ^ k + b < 4294967296) : IntKind.wrap .u32 (BitVec.ofInt IntKind.u32.bits (x * 2 ^ k) ||| BitVec.ofInt IntKind.u32.bits b).toNat = x * 2 ^ k + b := by
  obtain ⟨X, rfl⟩ := Int.eq_ofNat_of_zero_le h0
  obtain ⟨B, rfl⟩ := Int.eq_ofNat_of_zero_le hb0
  have e : ((X : Int) * 2 ^ k) = ((X * 2 ^ k : Nat) : Int) := by push_cast; rfl
  have hB : B < 2 ^ k := by exact_mod_cast hb
  have hX : X * 2 ^ k + B < 2 ^ IntKind.u32.bits := by
    have h2 : (2 : Nat) ^ IntKind.u32.bits = 4294967296 := by decide
    rw [h2]
    rw [e] at hx
    generalize X * 2 ^ k = Y at hx
    omega
  have := or_nat IntKind.u32.bits X B k hB hX
  rw [e, wrap_bv, this]
  push_cast; rfl
theorem wrap_bv64 (x : BitVec IntKind.u64.bits) : IntKind.wrap .u64 (x.toNat : Int) = x.toNat := by
  have := x.isLt
  have h2 : (2 : Nat) ^ IntKind.u64.bits = 18446744073709551616 := by decide
  exact wrap_u64 (by omega) (by omega)
theorem or_u64 {x b : Int} (k : Nat) (h0 : 0 ≤ x) (hb0 : 0 ≤ b) (hb : b < 2 ^ k) (hx : x * 2 ^ k + b < 18446744073709551616) : IntKind.wrap .u64 (BitVec.ofInt IntKind.u64.bits (x * 2 ^ k) ||| BitVec.ofInt IntKind.u64.bits b).toNat = x * 2 ^ k + b := by
  obtain ⟨X, rfl⟩ := Int.eq_ofNat_of_zero_le h0
  obtain ⟨B, rfl⟩ := Int.eq_ofNat_of_zero_le hb0
  have e : ((X : Int) * 2 ^ k) = ((X * 2 ^ k : Nat) : Int) := by push_cast; rfl
  have hB : B < 2 ^ k := by exact_mod_cast hb
  have hX : X * 2 ^ k + B < 2 ^ IntKind.u64.bits := by
    have h2 : (2 : Nat) ^ IntKind.u64.bits = 18446744073709551616 := by decide
    rw [h2]
    rw [e] at hx
    generalize X * 2 ^ k = Y at hx
    omega
  have := or_nat IntKind.u64.bits X B k hB hX
  rw [e, wrap_bv64, this]
  push_cast; rfl
theorem s1110 (a b c e : Int) (d : D) (h : Hp) (hd : SlOf 1 byr [a, b, c, e] d) (ha : U8 a) (hb : U8 b) (hc : U8 c) (he : U8 e) : R fn1110 [d] h = some (.int .u32 (num [a, b, c, e]), h) := by
  rw [e1110]
  unfold U8 at ha hb hc he
  have q : ∀ z : Int, 0 ≤ z ∧ z < 256 → IntKind.wrap .u32 z = z := fun z hz => wrap_u32 hz.1 (by omega)
  have m1 : min ((24 : Int).toNat) IntKind.u32.bits = 24 := by decide
  have m2 : min ((16 : Int).toNat) IntKind.u32.bits = 16 := by decide
  have m3 : min ((8 : Int).toNat) IntKind.u32.bits = 8 := by decide
  have p1 : (2 : Int) ^ 24 = 16777216 := by decide
  have p2 : (2 : Int) ^ 16 = 65536 := by decide
  have p3 : (2 : Int) ^ 8 = 256 := by decide
  have w1 : IntKind.wrap .u32 (a * 2 ^ 24) = (a * 256) * 2 ^ 16 := by rw [p1, p2, wrap_u32 (by omega) (by omega)]; omega
  have w2 : IntKind.wrap .u32 (b * 2 ^ 16) = b * 2 ^ 16 := by rw [p2]; exact wrap_u32 (by omega) (by omega)
  have w3 : IntKind.wrap .u32 (c * 2 ^ 8) = c * 2 ^ 8 := by rw [p3]; exact wrap_u32 (by omega) (by omega)
  have o1 : IntKind.wrap .u32 (BitVec.ofInt IntKind.u32.bits ((a * 256) * 2 ^ 16) ||| BitVec.ofInt IntKind.u32.bits (b * 2 ^ 16)).toNat = ((a * 256 + b) * 256) * 2 ^ 8 := by
    have e1 : (a * 256) * 2 ^ 16 = a * 2 ^ 24 := by rw [p1, p2]; omega
    rw [e1, or_u32 24 ha.1 (by rw [p2]; omega) (by rw [p1, p2]; omega) (by rw [p1, p2]; omega), p1, p2, p3]
    omega
  have o2 : IntKind.wrap .u32 (BitVec.ofInt IntKind.u32.bits (((a * 256 + b) * 256) * 2 ^ 8) ||| BitVec.ofInt IntKind.u32.bits (c * 2 ^ 8)).toNat = ((a * 256 + b) * 256 + c) * 2 ^ 8 := by
    have e1 : ((a * 256 + b) * 256) * 2 ^ 8 = (a * 256 + b) * 2 ^ 16 := by rw [p3, p2]; omega
    rw [e1, or_u32 16 (by omega) (by rw [p3]; omega) (by rw [p2, p3]; omega) (by rw [p2, p3]; omega), p2, p3]
    omega
  have o3 : IntKind.wrap .u32 (BitVec.ofInt IntKind.u32.bits (((a * 256 + b) * 256 + c) * 2 ^ 8) ||| BitVec.ofInt IntKind.u32.bits e).toNat = num [a, b, c, e] := by
    rw [or_u32 8 (by omega) (by omega) (by rw [p3]; omega) (by rw [p3]; omega), num4, p3]
  have i0 : dIndexAddr tab ty22 d (.int .i64 0) = some (.fptr (byr a)) := by rw [ixs22 hd]; rfl
  have i1 : dIndexAddr tab ty22 d (.int .i64 1) = some (.fptr (byr b)) := by rw [ixs22 hd]; rfl
  have i2 : dIndexAddr tab ty22 d (.int .i64 2) = some (.fptr (byr c)) := by rw [ixs22 hd]; rfl
  have i3 : dIndexAddr tab ty22 d (.int .i64 3) = some (.fptr (byr e)) := by rw [ixs22 hd]; rfl
  simp only [F1110, bs, i0, i1, i2, i3, byr_ld, cv5_65, q a ha, q b hb, q c hc, q e he, dBin_shl, show ¬ (24 : Int) < 0 by omega, show ¬ (16 : Int) < 0 by omega, show ¬ (8 : Int) < 0 by omega, if_false, m1, m2, m3, w1, w2, w3, dBin_or, o1, o2, o3, mkRes_one]
theorem num_take {l : List Int} {n : Nat} {z : Int} (h : l[n]? = some z) : num (l.take (n + 1)) = num (l.take n) * 256 + z := by
  unfold num
  rw [List.take_add_one, h]
  simp [-Option.bind_some]
theorem s1111 (l : List Int) (d : D) (h : Hp) (hd : SlOf 1 byr l d) (hl : l.length ≤ 4) (hu : ∀ z ∈ l, U8 z) : R fn1111 [d] h = some (.int .u64 (num l), h) := by
  suffices Wp (R fn1111 [d] h) (fun p => p = (.int .u64 (num l), h)) by
    obtain ⟨p, h1, rfl⟩ := this
    exact h1
  rw [e1111]
  simp only [F1111, bs, Option.bind_assoc]
  refine Wp.loop (fun k ds g => g = h ∧ ∃ x, ∃ n : Nat, ds = [.int .u64 (num (l.take n)), .int .i64 n, x] ∧ k + n = l.length ∧ 0 ≤ num (l.take n) ∧ num (l.take n) < 256 ^ n) (fun r => r.1 = .ext 0 ∧ r.2.2 = h ∧ ∃ a b, r.2.1 = [.int .u64 (num l), a, b]) l.length ⟨rfl, _, 0, rfl, rfl, by simp [-Option.bind_some, num], by simp [-Option.bind_some, num]⟩ ?_ ?_
  · rintro k ds g ⟨rfl, x, n, rfl, hk, hn0, hn1⟩
    simp only [F1111_L0, nth_zero, nth_succ, bs, Option.bind_assoc, lens22 hd, dBin_lss]
    refine Wp.dif ?_ ?_
    · intro h0
      have h0 : n < l.length := by have : (n : Int) < l.length := by simpa [-Option.bind_some] using h0
                                   omega
      obtain ⟨z, hz⟩ : ∃ z, l[n]? = some z := ⟨_, List.getElem?_eq_getElem h0⟩
      have hzu := hu z (List.mem_of_getElem? hz)
      have hw : IntKind.wrap .i64 ((n : Int) + 1) = ((n + 1 : Nat) : Int) := by
        rw [wrap_i64 (by omega) (by omega)]; omega
      unfold U8 at hzu
      have hb : num (l.take n) < 16777216 := by
        have : n = 0 ∨ n = 1 ∨ n = 2 ∨ n = 3 := by omega
        rcases this with rfl | rfl | rfl | rfl <;> omega
      have m3 : min ((8 : Int).toNat) IntKind.u64.bits = 8 := by decide
      have p3 : (2 : Int) ^ 8 = 256 := by decide
      have w1 : IntKind.wrap .u64 (num (l.take n) * 2 ^ 8) = num (l.take n) * 2 ^ 8 := by rw [p3]; exact wrap_u64 (by omega) (by omega)
      have w2 : IntKind.wrap .u64 z = z := wrap_u64 (by omega) (by omega)
      have w3 := or_u64 (x := num (l.take n)) (b := z) 8 hn0 (by omega) (by rw [p3]; omega) (by rw [p3]; omega)
      have hii : dIndexAddr tab ty22 d (.int .i64 (n : Int)) = some (.fptr (byr z)) := by rw [ixs22 hd]; simp [-Option.bind_some, hz]
      rw [p3, ← num_take hz] at w3
      rw [p3] at w1
      simp only [dBin_shl, show ¬ (8 : Int) < 0 by omega, if_false, m3, p3, w1, hii, byr_ld, cv5_1029, w2, dBin_or, w3, bs, dBin_add, hw]
      refine .some (.inl ⟨rfl, k - 1, by omega, rfl, _, n + 1, rfl, by omega, ?_, ?_⟩)
      · rw [num_take hz]; omega
      · rw [num_take hz, Int.pow_succ]; omega
    · intro h0
      have h0 : n = l.length := by have : ¬ (n : Int) < l.length := by simpa [-Option.bind_some] using h0
                                   omega
      subst h0
      rw [List.take_length]
      exact .some (.inr ⟨by simp [-Option.bind_some], rfl, rfl, _, _, rfl⟩)
  · rintro ⟨ex, ds, g⟩ ⟨rfl, q2, a, b, rfl⟩
    simp only at q2
    subst q2
    simp only [unblk_self, toEnd_nrm, bs, nth_zero, mkRes_one]
    exact .some rfl
/-- Parts of bytes. -/
def PartsOf (ps : List (List Int)) (x : D) : Prop := ∃ qs : List (List Int × D), qs.map (·.1) = ps ∧ SlOf 1 (fun p : List Int × D => [p.2]) qs x ∧ ∀ p ∈ qs, SlOf 1 byr p.1 p.2
theorem parts_ld (p : List Int × D) (h : Hp) : dLoad tab h ty22 (.fptr [p.2]) = some p.2 := ld22 _ _ _
theorem s1108 (ps qs : List (List Int)) (x y : D) (h : Hp) (hx : PartsOf ps x) (hy : PartsOf qs y) (hl : ps.length ≤ 1000000000) (hp : ∀ p ∈ ps, p.length ≤ 1000000000) : R fn1108 [x, y] h = some (.bool (decide (ps = qs)), h) := by
  suffices Wp (R fn1108 [x, y] h) (fun p => p = (.bool (decide (ps = qs)), h)) by
    obtain ⟨p, h1, rfl⟩ := this
    exact h1
  obtain ⟨A, rfl, hA, hA2⟩ := hx
  obtain ⟨B, rfl, hB, hB2⟩ := hy
  rw [e1108]
  simp only [F1108, bs, Option.bind_assoc, lens1031 hA, lens1031 hB, dBin_neq]
  simp only [List.length_map] at hl
  refine Wp.dif ?_ ?_
  · intro h0
    have h0 : ¬ A.length = B.length := by
      have h1 : ¬ (A.length : Int) = B.length := by simpa [-Option.bind_some] using h0
      omega
    simp only [bs, mkRes_one]
    have : ¬ A.map (·.1) = B.map (·.1) := fun hh => h0 (by simpa [-Option.bind_some] using congrArg List.length hh)
    exact .some (by simp [-Option.bind_some, this])
  intro h0
  have h0 : A.length = B.length := by
    have h1 : (A.length : Int) = B.length := by simpa [-Option.bind_some] using h0
    omega
  refine Wp.loop (fun k ds g => g = h ∧ ∃ a b c, ∃ n : Nat, ds = [a, .int .i64 n, b, c] ∧ k + n = A.length ∧ (A.take n).map (·.1) = (B.take n).map (·.1)) (fun r => r.2.2 = h ∧ ((r.1 = .ext 0 ∧ A.map (·.1) = B.map (·.1)) ∨ (r.1 = .ret ∧ nth 0 r.2.1 = .bool false ∧ A.map (·.1) ≠ B.map (·.1)))) A.length ⟨rfl, _, _, _, 0, rfl, rfl, by simp [-Option.bind_some]⟩ ?_ ?_
  · rintro k ds g ⟨rfl, a, b, c, n, rfl, hk, he⟩
    simp only [F1108_L0, nth_zero, nth_succ, bs, Option.bind_assoc, lens1031 hA, dBin_lss]
    refine Wp.dif ?_ ?_
    · intro h1
      have h1 : n < A.length := by have : (n : Int) < A.length := by simpa [-Option.bind_some] using h1
                                   omega
      obtain ⟨p, hpp⟩ : ∃ p, A[n]? = some p := ⟨_, List.getElem?_eq_getElem h1⟩
      obtain ⟨q, hqq⟩ : ∃ q, B[n]? = some q := ⟨_, List.getElem?_eq_getElem (by omega)⟩
      have hw : IntKind.wrap .i64 ((n : Int) + 1) = ((n + 1 : Nat) : Int) := by
        rw [wrap_i64 (by omega) (by omega)]; omega
      have i1 : dIndexAddr tab ty1031 x (.int .i64 (n : Int)) = some (.fptr [p.2]) := by rw [ixs1031 hA]; simp [-Option.bind_some, hpp]
      have i2 : dIndexAddr tab ty1031 y (.int .i64 (n : Int)) = some (.fptr [q.2]) := by rw [ixs1031 hB]; simp [-Option.bind_some, hqq]
      have hs := s1026 p.1 q.1 p.2 q.2 g (hA2 p (List.mem_of_getElem? hpp)) (hB2 q (List.mem_of_getElem? hqq)) (by have := hp p.1 (List.mem_map.2 ⟨p, List.mem_of_getElem? hpp, rfl⟩); omega)
      simp only [i1, i2, parts_ld, hs, bs, dUn_not]
      refine Wp.dif ?_ ?_
      · intro h2
        have h2 : ¬ p.1 = q.1 := by simpa [-Option.bind_some] using h2
        refine .some (.inr ⟨by simp [-Option.bind_some], rfl, .inr ⟨rfl, rfl, fun hh => h2 ?_⟩⟩)
        have := congrArg (fun l : List (List Int) => l[n]?) hh
        simpa [-Option.bind_some, hpp, hqq] using this
      · intro h2
        have h2 : p.1 = q.1 := by simpa [-Option.bind_some] using h2
        simp only [bs, dBin_add, hw]
        refine .some (.inl ⟨rfl, k - 1, by omega, rfl, _, _, _, n + 1, rfl, by omega, ?_⟩)
        rw [List.take_add_one, List.take_add_one, hpp, hqq]
        simp [-Option.bind_some, he, h2]
    · intro h1
      have h1 : n = A.length := by have : ¬ (n : Int) < A.length := by simpa [-Option.bind_some] using h1
                                   omega
      subst h1
      refine .some (.inr ⟨by simp [-Option.bind_some], rfl, .inl ⟨rfl, ?_⟩⟩)
      rw [List.take_length] at he
      rw [he, h0, List.take_length]
  · rintro ⟨ex, ds, g⟩ ⟨q1, q2⟩
    simp only at q1 q2
    subst q1
    rcases q2 with ⟨rfl, q2⟩ | ⟨rfl, q2, q3⟩
    · simp only [unblk_self, toEnd_nrm, bs, mkRes_one]
      exact .some (by simp [-Option.bind_some, q2])
    · simp only [unblk_ret, toEnd_ret, exEnd_ret, bs, q2, mkRes_one, nth_zero]
      exact .some (by simp [-Option.bind_some, q3])
theorem s1091g (a n : Int) (h : Hp) (hn : n ≤ 1000000000) : ∃ r, R fn1091 [.int .i64 a, .int .i64 n] h = some (.int .i64 r, h) ∧ 0 ≤ r ∧ (1 ≤ n → r < n) ∧ (n < 1 → r = 0) := by
  rw [e1091]
  by_cases h1 : n < 1
  · exact ⟨0, by simp [-Option.bind_some, F1091, h1], by omega, by omega, fun _ => rfl⟩
  · have p1 : (a.tmod n).natAbs < n.natAbs := by
      have := Int.natAbs_tmod a n
      rw [this]
      exact Nat.mod_lt _ (by omega)
    have w : IntKind.wrap .i64 (a.tmod n + n) = a.tmod n + n := wrap_i64 (by omega) (by omega)
    have h0 : ¬ n = 0 := by omega
    refine ⟨(a.tmod n + n).tmod n, by simp [-Option.bind_some, F1091, h1, h0, w], Int.tmod_nonneg _ (by omega), fun _ => Int.tmod_lt_of_pos _ (by omega), by omega⟩
theorem cut3_by {l : List Int} {d : D} (hd : SlOf 1 byr l d) (a b : Nat) (hab : a ≤ b) (hb : b ≤ l.length) : ∃ d', dSliceAt tab ty22 true true true [d, .int .i64 a, .int .i64 b, .int .i64 b] = some d' ∧ SlOf 1 byr ((l.take b).drop a) d' := by
  have t1 : tab ty22 = some ti22 := id rfl
  have t2 : ti22.td = .sl ty5 := id rfl
  have t3 : tab ty5 = some ti5 := id rfl
  have t4 : ti5.sz = 1 := id rfl
  simp only [dSliceAt, dInt?, bs, dSlice3, t1, t2, t3]
  rcases hd with ⟨rfl, rfl⟩ | ⟨f, rfl⟩
  · have : b = 0 := by simpa [-Option.bind_some] using hb
    subst this
    have : a = 0 := by omega
    subst this
    exact ⟨_, rfl, .inl ⟨rfl, rfl⟩⟩
  · have h1 : (a : Int) ≤ b := by omega
    have h2 : (b : Int) ≤ l.length := by omega
    simp [-Option.bind_some, t4, h1, h2, hb, hab]
    exact .inr ⟨_, by rw [List.map_drop, List.map_take]⟩
theorem cut2_by {l : List Int} {d : D} (hd : SlOf 1 byr l d) (a b : Nat) (hab : a ≤ b) (hb : b ≤ l.length) : ∃ d', dSliceAt tab ty22 true true false [d, .int .i64 a, .int .i64 b] = some d' ∧ SlOf 1 byr ((l.take b).drop a) d' := by
  have t1 : tab ty22 = some ti22 := id rfl
  have t2 : ti22.td = .sl ty5 := id rfl
  have t3 : tab ty5 = some ti5 := id rfl
  have t4 : ti5.sz = 1 := id rfl
  simp only [dSliceAt, dInt?, bs, dSlice3, t1, t2, t3]
  rcases hd with ⟨rfl, rfl⟩ | ⟨f, rfl⟩
  · have : b = 0 := by simpa [-Option.bind_some] using hb
    subst this
    have : a = 0 := by omega
    subst this
    exact ⟨_, rfl, .inl ⟨rfl, rfl⟩⟩
  · have h1 : (a : Int) ≤ b := by omega
    have h2 : (b : Int) ≤ l.length := by omega
    simp [-Option.bind_some, t4, h1, h2, hb, hab]
    exact .inr ⟨_, by rw [List.map_drop, List.map_take]⟩
theorem cutC_by {l : List Int} {d : D} (h : Hp) (hd : SlOf 1 byr l d) (a b : Nat) (hab : a ≤ b) (hb : b ≤ l.length) : ∃ d', dCut tab h ty22 true true [d, .int .i64 a, .int .i64 b, .int .i64 b] = some (d', h) ∧ SlOf 1 byr ((l.take b).drop a) d' := by
  obtain ⟨d', e, hs⟩ := cut3_by hd a b hab hb
  exact ⟨d', by simp only [dCut, e], hs⟩
theorem four (l : List Int) (h : l.length = 4) : ∃ a b c e, l = [a, b, c, e] := by
  match l, h with
  | [a, b, c, e], _ => exact ⟨a, b, c, e, rfl⟩
theorem num_four {l : List Int} (h : l.length = 4) (hu : ∀ z ∈ l, U8 z) : U32 (num l) := by
  obtain ⟨a, b, c, e, rfl⟩ := four l h
  exact num_u32 (hu a (by simp [-Option.bind_some])) (hu b (by simp [-Option.bind_some])) (hu c (by simp [-Option.bind_some])) (hu e (by simp [-Option.bind_some]))
theorem s1110l (l : List Int) (d : D) (h : Hp) (hd : SlOf 1 byr l d) (hl : l.length = 4) (hu : ∀ z ∈ l, U8 z) : R fn1110 [d] h = some (.int .u32 (num l), h) := by
  obtain ⟨a, b, c, e, rfl⟩ := four l hl
  exact s1110 a b c e d h hd (hu a (by simp [-Option.bind_some])) (hu b (by simp [-Option.bind_some])) (hu c (by simp [-Option.bind_some])) (hu e (by simp [-Option.bind_some]))
theorem rd_fst_len : ∀ (n : Nat) (r : List Int), r.length ≤ n → (rd r).1.length ≤ r.length ∧ ∀ p ∈ (rd r).1, p.length ≤ r.length
  | 0, r, h => by rw [rd_stop (.inl (by omega))]; simp [-Option.bind_some]
  | n + 1, r, h => by
    by_cases hs : Stop r
    · rw [rd_stop hs]; simp [-Option.bind_some]
    · rw [rd_go hs]
      have h8 : ¬ r.length < 8 := fun hh => hs (.inl hh)
      have := rd_fst_len n (r.drop (8 + (num (r.take 4)).toNat)) (by rw [List.length_drop]; omega)
      rw [List.length_drop] at this
      refine ⟨by simp only [List.length_cons]; omega, fun p hp => ?_⟩
      rcases List.mem_cons.1 hp with rfl | hp
      · rw [List.length_take, List.length_drop]; omega
      · have := this.2 p hp; omega
theorem s1106 (l : List Int) (d : D) (h : Hp) (hd : SlOf 1 byr l d) (hl : l.length ≤ 100000000) (hu : ∀ z ∈ l, U8 z) : ∃ x, R fn1106 [d] h = some (.tup [x, .int .i64 (rd l).2], h) ∧ PartsOf (rd l).1 x := by
  suffices Wp (R fn1106 [d] h) (fun p => p.2 = h ∧ ∃ x, p.1 = .tup [x, .int .i64 (rd l).2] ∧ PartsOf (rd l).1 x) by
    obtain ⟨⟨x, h'⟩, h1, rfl, d', rfl, h2⟩ := this
    exact ⟨d', h1, h2⟩
  rw [e1106]
  simp only [F1106, bs, Option.bind_assoc]
  refine Wp.loop (fun k ds g => h.length ≤ g.length ∧ (∀ q, q < h.length → g[q]? = h[q]?) ∧ ∃ x a2 a3 a4 a5 a6 a7 a8, ∃ n : Nat, ∃ qs : List (List Int × D), ds = [x, .int .i64 n, a2, a3, a4, a5, a6, a7, a8] ∧ k + n = l.length ∧ n ≤ l.length ∧ qs.length ≤ n ∧ Own g h.length ty22 1 (qs.map fun p => [p.2]) x ∧ (∀ p ∈ qs, SlOf 1 byr p.1 p.2) ∧ (rd l).1 = qs.map (·.1) ++ (rd (l.drop n)).1 ∧ (rd l).2 = n + (rd (l.drop n)).2)
    (fun r => r.1 = .ext 0 ∧ h.length ≤ r.2.2.length ∧ (∀ q, q < h.length → r.2.2[q]? = h[q]?) ∧ ∃ x a2 a3 a4 a5 a6 a7 a8, ∃ v : Nat, ∃ qs : List (List Int × D), r.2.1 = [x, .int .i64 v, a2, a3, a4, a5, a6, a7, a8] ∧ Own r.2.2 h.length ty22 1 (qs.map fun p => [p.2]) x ∧ (∀ p ∈ qs, SlOf 1 byr p.1 p.2) ∧ (rd l).1 = qs.map (·.1) ∧ (rd l).2 = v) l.length
    ⟨Nat.le_refl _, fun _ _ => rfl, _, _, _, _, _, _, _, _, 0, [], rfl, rfl, by omega, by simp [-Option.bind_some], Own.nils _ _ _ _, by simp [-Option.bind_some], by simp [-Option.bind_some], by simp [-Option.bind_some]⟩ ?_ ?_
  · rintro k ds g ⟨hg, hq, x, a2, a3, a4, a5, a6, a7, a8, n, qs, rfl, hk, hnl, hqn, ow, hs, r1, r2⟩
    have w0 : IntKind.wrap .i64 ((l.length : Int) - n) = (l.length : Int) - n := wrap_i64 (by omega) (by omega)
    simp only [F1106_L0, nth_zero, nth_succ, bs, Option.bind_assoc, lens22 hd, dBin_sub, w0, dBin_geq]
    have stop : Stop (l.drop n) → (rd l).1 = qs.map (·.1) ∧ (rd l).2 = n := fun hst => by
      rw [rd_stop hst] at r1 r2
      exact ⟨by simpa [-Option.bind_some] using r1, by simpa [-Option.bind_some] using r2⟩
    refine Wp.dif ?_ ?_
    · intro h0
      have h0 : n + 8 ≤ l.length := by have : (8 : Int) ≤ (l.length : Int) - n := by simpa [-Option.bind_some] using h0
                                       omega
      have w1 : IntKind.wrap .i64 ((n : Int) + 4) = ((n + 4 : Nat) : Int) := by rw [wrap_i64 (by omega) (by omega)]; omega
      have w2 : IntKind.wrap .i64 ((n : Int) + 8) = ((n + 8 : Nat) : Int) := by rw [wrap_i64 (by omega) (by omega)]; omega
      obtain ⟨d6, e6, s6⟩ := cutC_by g hd n (n + 4) (by omega) (by omega)
      have l6 : (l.take (n + 4)).drop n = (l.drop n).take 4 := by rw [List.drop_take]; congr 1; omega
      rw [l6] at s6
      have hl4 : ((l.drop n).take 4).length = 4 := by simp [-Option.bind_some]; omega
      have hu4 : ∀ z ∈ (l.drop n).take 4, U8 z := fun z hz => hu z (List.mem_of_mem_drop (List.mem_of_mem_take hz))
      have en := s1110l _ d6 g s6 hl4 hu4
      have hN := num_four hl4 hu4
      unfold U32 at hN
      generalize hNN : num ((l.drop n).take 4) = N at en hN
      have w3 : IntKind.wrap .i64 N = N := wrap_i64 (by omega) (by omega)
      obtain ⟨m, hm⟩ : ∃ m : Nat, N = m := ⟨N.toNat, by omega⟩
      subst hm
      have w4 : IntKind.wrap .i64 ((l.length : Int) - ((n + 8 : Nat) : Int)) = (l.length : Int) - ((n + 8 : Nat) : Int) := wrap_i64 (by omega) (by omega)
      have hpick : ∀ (b1 b2 b3 : Bool) (K : D → Option Out), ((gd (.bool b1) false (some (.bool b2))).bind fun t31 => (dPick (.bool b1) (.bool true) t31).bind K) = K (.bool (b1 || b2)) := fun b1 b2 b3 K => by cases b1 <;> cases b2 <;> rfl
      by_cases hbad : m < 1 ∨ 8388608 < m ∨ l.length - n - 8 < m
      · have hst : Stop (l.drop n) := by
          unfold Stop
          rw [hNN, List.length_drop]
          simp only [Int.toNat_natCast]
          omega
        obtain ⟨q1, q2⟩ := stop hst
        have hb : (decide ((m : Int) < 1) || (decide ((m : Int) > 8388608) || decide ((m : Int) > (l.length : Int) - ((n + 8 : Nat) : Int)))) = true := by
          simp only [Bool.or_eq_true, decide_eq_true_eq]; omega
        simp only [dBin_add, w1, e6, bs, en, cv65_3, w3, w2, dBin_lss, dBin_gtr]
        by_cases c1 : (m : Int) < 1
        · simp only [c1, decide_true, gd_bool, reduceCtorEq, Bool.true_eq_false, if_false, bs, dPick_bool, dIf_bool, if_true]
          exact .some (.inr ⟨by simp [-Option.bind_some], rfl, hg, hq, _, _, _, _, _, _, _, _, n, qs, rfl, ow, hs, q1, q2⟩)
        · by_cases c2 : (m : Int) > 8388608
          · simp only [c1, c2, decide_true, decide_false, gd_bool, reduceCtorEq, Bool.true_eq_false, if_false, if_true, bs, dPick_bool, dIf_bool, dBin_gtr]
            exact .some (.inr ⟨by simp [-Option.bind_some], rfl, hg, hq, _, _, _, _, _, _, _, _, n, qs, rfl, ow, hs, q1, q2⟩)
          · have c3 : (m : Int) > (l.length : Int) - ((n + 8 : Nat) : Int) := by omega
            simp only [c1, c2, c3, decide_true, decide_false, gd_bool, reduceCtorEq, Bool.true_eq_false, Bool.false_eq_true, if_false, if_true, bs, dPick_bool, dIf_bool, dBin_gtr, lens22 hd, dBin_sub, w4]
            exact .some (.inr ⟨by simp [-Option.bind_some], rfl, hg, hq, _, _, _, _, _, _, _, _, n, qs, rfl, ow, hs, q1, q2⟩)
      · have c1 : ¬ (m : Int) < 1 := by omega
        have c2 : ¬ (m : Int) > 8388608 := by omega
        have c3 : ¬ (m : Int) > (l.length : Int) - ((n + 8 : Nat) : Int) := by omega
        have w5 : IntKind.wrap .i64 (((n + 8 : Nat) : Int) + (m : Int)) = ((n + 8 + m : Nat) : Int) := by rw [wrap_i64 (by omega) (by omega)]; omega
        obtain ⟨d9, e9, s9⟩ := cutC_by g hd (n + 8) (n + 8 + m) (by omega) (by omega)
        obtain ⟨d55, e55, s55⟩ := cutC_by g hd (n + 4) (n + 8) (by omega) (by omega)
        have l9 : (l.take (n + 8 + m)).drop (n + 8) = ((l.drop n).drop 8).take m := by rw [List.drop_take, List.drop_drop]; congr 1; omega
        have l55 : (l.take (n + 8)).drop (n + 4) = ((l.drop n).drop 4).take 4 := by rw [List.drop_take, List.drop_drop]; congr 1; omega
        rw [l9] at s9
        rw [l55] at s55
        have hl55 : (((l.drop n).drop 4).take 4).length = 4 := by simp [-Option.bind_some]; omega
        have hu55 : ∀ z ∈ ((l.drop n).drop 4).take 4, U8 z := fun z hz => hu z (List.mem_of_mem_drop (List.mem_of_mem_drop (List.mem_of_mem_take hz)))
        have e56 := s1110l _ d55 g s55 hl55 hu55
        have e59 := s1029 _ _ d6 d9 g s6 s9 (by simp [-Option.bind_some]; omega)
        simp only [dBin_add, w1, e6, bs, en, cv65_3, w3, w2, dBin_lss, dBin_gtr, c1, c2, c3, decide_true, decide_false, gd_bool, reduceCtorEq, Bool.true_eq_false, Bool.false_eq_true, if_false, if_true, dPick_bool, dIf_bool, lens22 hd, dBin_sub, w4, w5, e9, e55, e56, e59, dBin_neq]
        by_cases hcrc : num (((l.drop n).drop 4).take 4) = crc ((l.drop n).take 4 ++ ((l.drop n).drop 8).take m)
        · have hgo : ¬ Stop (l.drop n) := by
            unfold Stop
            rw [hNN, List.length_drop]
            simp only [Int.toNat_natCast]
            rintro (h1 | h1 | h1 | h1 | h1)
            · omega
            · omega
            · omega
            · omega
            · exact h1 hcrc
          rw [rd_go hgo, hNN] at r1 r2
          simp only [Int.toNat_natCast, List.drop_drop] at r1 r2
          simp only [hcrc, ne_eq, not_true, decide_false, dIf_bool, Bool.false_eq_true, if_false, bs, bs1031_1 d9 (slof_one s9)]
          refine wap1031 hg ow (rowsOf_sl _ _ _ _) (by simp [-Option.bind_some]; omega) fun x1 g1 ow1 len1 bel1 _ _ => ?_
          simp only [bs, dBin_add, w5]
          refine .some (.inl ⟨rfl, k - (8 + m), by omega, Nat.le_trans hg len1, fun q hq' => (bel1 q hq').trans (hq q hq'), _, _, _, _, _, _, _, _, n + 8 + m, qs ++ [(((l.drop n).drop 8).take m, d9)], rfl, by omega, by omega, by simp [-Option.bind_some]; omega, ?_, ?_, ?_, ?_⟩)
          · simpa [-Option.bind_some] using ow1
          · intro p hp
            rcases List.mem_append.1 hp with hp | hp
            · exact hs p hp
            · rw [List.mem_singleton.1 hp]; exact s9
          · rw [r1, List.drop_drop]
            simp only [List.map_append, List.map_cons, List.map_nil, List.append_assoc, List.singleton_append, Nat.add_assoc]
          · rw [r2]
            simp only [Nat.add_assoc]
        · have hst : Stop (l.drop n) := by
            unfold Stop
            rw [hNN]
            simp only [Int.toNat_natCast]
            exact .inr (.inr (.inr (.inr hcrc)))
          obtain ⟨q1, q2⟩ := stop hst
          simp only [hcrc, ne_eq, not_false_eq_true, decide_true, dIf_bool, if_true]
          exact .some (.inr ⟨by simp [-Option.bind_some], rfl, hg, hq, _, _, _, _, _, _, _, _, n, qs, rfl, ow, hs, q1, q2⟩)
    · intro h0
      have h0 : ¬ n + 8 ≤ l.length := by have : ¬ (8 : Int) ≤ (l.length : Int) - n := by simpa [-Option.bind_some] using h0
                                         omega
      obtain ⟨q1, q2⟩ := stop (.inl (by rw [List.length_drop]; omega))
      exact .some (.inr ⟨by simp [-Option.bind_some], rfl, hg, hq, _, _, _, _, _, _, _, _, n, qs, rfl, ow, hs, q1, q2⟩)
  · rintro ⟨ex, ds, g⟩ ⟨rfl, hg, hq, x, a2, a3, a4, a5, a6, a7, a8, v, qs, rfl, ow, hs, q1, q2⟩
    subst q2
    simp only [unblk_self, toEnd_nrm, bs, nth_zero, nth_succ, mkRes_two]
    have hsl := own_sl (f := fun p : List Int × D => [p.2]) (n0 := h.length) (n := 2) ow (Nat.le_refl _) (fun a ha d hd => by
      simp [-Option.bind_some] at hd; subst hd
      exact slof_frz (n := 1) (hs a ha) fun b _ => byr_frz _ g 1 b)
    rw [scope_eq (d' := .tup [frz h.length g 3 x, .int .i64 (rd l).2]) (by simp [-Option.bind_some]) (by
      refine .tup _ fun d hd => ?_
      simp [-Option.bind_some] at hd
      rcases hd with rfl | rfl
      · exact slof_ok hsl fun a ha d hd => by simp [-Option.bind_some] at hd; subst hd; exact slof_ok (hs a ha) fun b _ => byr_ok _ b
      · constructor) hg hq]
    exact .some ⟨rfl, _, rfl, qs, q1.symm, hsl, hs⟩
theorem nil_ob (q : Nat) : ¬ D.inOb .nils q := fun hh => by obtain ⟨z, n, hh⟩ := hh; cases hh
theorem own_live {h : Hp} {n0 e z : Nat} {rows : List (List D)} {d : D} (ow : Own h n0 e z rows d) {q : Nat} (hq : d.inOb q) : h[q]? = some (.row e z rows) := by
  obtain ⟨z', n, rfl⟩ := hq
  rcases ow with ⟨hd, _⟩ | ⟨o, ho, hd, hg⟩
  · cases hd
  · injection hd with _ h2
    subst h2
    exact hg
theorem own_apart {h : Hp} {n n' e e' z z' : Nat} {rows rows' : List (List D)} {d d' : D} (a : Own h n e z rows d) (b : Own h n' e' z' rows' d') (hne : e ≠ e') {q : Nat} (hq : d.inOb q) : ¬ d'.inOb q := fun hx => by
  have h1 := own_live a hq
  have h2 := own_live b hx
  rw [h1] at h2
  injection h2 with h2
  injection h2 with h3
  exact hne h3
theorem ty_ne : (ty5 : Nat) ≠ ty22 := by decide
theorem s1107 (l : List Int) (d : D) (h : Hp) (hd : SlOf 1 byr l d) (hl : l.length ≤ 100000000) (hu : ∀ z ∈ l, U8 z) : ∃ x, R fn1107 [d] h = some (.tup [x, .int .i64 (rd l).2], h) ∧ PartsOf (rd l).1 x := by
  suffices Wp (R fn1107 [d] h) (fun p => p.2 = h ∧ ∃ x, p.1 = .tup [x, .int .i64 (rd l).2] ∧ PartsOf (rd l).1 x) by
    obtain ⟨⟨x, h'⟩, h1, rfl, d', rfl, h2⟩ := this
    exact ⟨d', h1, h2⟩
  rw [e1107]
  simp only [F1107, bs, Option.bind_assoc]
  refine Wp.loop (fun k ds g => h.length ≤ g.length ∧ (∀ q, q < h.length → g[q]? = h[q]?) ∧ ∃ x a2 a3 a4 a5 a6, ∃ n : Nat, ∃ qs : List (List Int × D), ds = [x, .int .i64 n, a2, a3, a4, a5, a6] ∧ k + n = l.length ∧ n ≤ l.length ∧ qs.length ≤ n ∧ Own g h.length ty22 1 (qs.map fun p => [p.2]) x ∧ (∀ p ∈ qs, Own g h.length ty5 1 (p.1.map byr) p.2) ∧ (rd l).1 = qs.map (·.1) ++ (rd (l.drop n)).1 ∧ (rd l).2 = n + (rd (l.drop n)).2)
    (fun r => r.1 = .ext 0 ∧ h.length ≤ r.2.2.length ∧ (∀ q, q < h.length → r.2.2[q]? = h[q]?) ∧ ∃ x a2 a3 a4 a5 a6, ∃ v : Nat, ∃ qs : List (List Int × D), r.2.1 = [x, .int .i64 v, a2, a3, a4, a5, a6] ∧ Own r.2.2 h.length ty22 1 (qs.map fun p => [p.2]) x ∧ (∀ p ∈ qs, Own r.2.2 h.length ty5 1 (p.1.map byr) p.2) ∧ (rd l).1 = qs.map (·.1) ∧ (rd l).2 = v) l.length
    ⟨Nat.le_refl _, fun _ _ => rfl, _, _, _, _, _, _, 0, [], rfl, rfl, by omega, by simp [-Option.bind_some], Own.nils _ _ _ _, by simp [-Option.bind_some], by simp [-Option.bind_some], by simp [-Option.bind_some]⟩ ?_ ?_
  · rintro k ds g ⟨hg, hq, x, a2, a3, a4, a5, a6, n, qs, rfl, hk, hnl, hqn, ow, hs, r1, r2⟩
    have w0 : IntKind.wrap .i64 ((l.length : Int) - n) = (l.length : Int) - n := wrap_i64 (by omega) (by omega)
    simp only [F1107_L0, nth_zero, nth_succ, bs, Option.bind_assoc, lens22 hd, dBin_sub, w0, dBin_geq]
    have stop : Stop (l.drop n) → (rd l).1 = qs.map (·.1) ∧ (rd l).2 = n := fun hst => by
      rw [rd_stop hst] at r1 r2
      exact ⟨by simpa [-Option.bind_some] using r1, by simpa [-Option.bind_some] using r2⟩
    refine Wp.dif ?_ ?_
    · intro h0
      have h0 : n + 8 ≤ l.length := by have : (8 : Int) ≤ (l.length : Int) - n := by simpa [-Option.bind_some] using h0
                                       omega
      have w1 : IntKind.wrap .i64 ((n : Int) + 4) = ((n + 4 : Nat) : Int) := by rw [wrap_i64 (by omega) (by omega)]; omega
      have w2 : IntKind.wrap .i64 ((n : Int) + 8) = ((n + 8 : Nat) : Int) := by rw [wrap_i64 (by omega) (by omega)]; omega
      obtain ⟨d6, e6, s6⟩ := cut2_by hd n (n + 4) (by omega) (by omega)
      have l6 : (l.take (n + 4)).drop n = (l.drop n).take 4 := by rw [List.drop_take]; congr 1; omega
      rw [l6] at s6
      have hl4 : ((l.drop n).take 4).length = 4 := by simp [-Option.bind_some]; omega
      have hu4 : ∀ z ∈ (l.drop n).take 4, U8 z := fun z hz => hu z (List.mem_of_mem_drop (List.mem_of_mem_take hz))
      have en := s1111 _ d6 g s6 (by omega) hu4
      have hN := num_four hl4 hu4
      unfold U32 at hN
      generalize hNN : num ((l.drop n).take 4) = N at en hN
      have w3 : IntKind.wrap .i64 N = N := wrap_i64 (by omega) (by omega)
      obtain ⟨m, hm⟩ : ∃ m : Nat, N = m := ⟨N.toNat, by omega⟩
      subst hm
      have w4 : IntKind.wrap .i64 ((l.length : Int) - (n : Int) - 8) = (l.length : Int) - (n : Int) - 8 := wrap_i64 (by omega) (by omega)
      by_cases hbad : m < 1 ∨ 8388608 < m ∨ l.length - n - 8 < m
      · have hst : Stop (l.drop n) := by
          unfold Stop
          rw [hNN, List.length_drop]
          simp only [Int.toNat_natCast]
          omega
        obtain ⟨q1, q2⟩ := stop hst
        simp only [dBin_add, w1, e6, bs, en, cv1029_3, w3, dBin_eql]
        by_cases c1 : (m : Int) = 0
        · simp only [c1, beq_self_eq_true, decide_true, gd_bool, reduceCtorEq, Bool.true_eq_false, if_false, bs, dPick_bool, dIf_bool, if_true]
          exact .some (.inr ⟨by simp [-Option.bind_some], rfl, hg, hq, _, _, _, _, _, _, n, qs, rfl, ow, hs, q1, q2⟩)
        · have c1' : ((m : Int) == 0) = false := by simpa [-Option.bind_some] using c1
          by_cases c2 : (m : Int) > 8388608
          · simp only [c1, c1', c2, decide_true, decide_false, gd_bool, reduceCtorEq, Bool.true_eq_false, if_false, if_true, bs, dPick_bool, dIf_bool, dBin_gtr]
            exact .some (.inr ⟨by simp [-Option.bind_some], rfl, hg, hq, _, _, _, _, _, _, n, qs, rfl, ow, hs, q1, q2⟩)
          · have c3 : (m : Int) > (l.length : Int) - (n : Int) - 8 := by omega
            simp only [c1, c1', c2, c3, decide_true, decide_false, gd_bool, reduceCtorEq, Bool.true_eq_false, Bool.false_eq_true, if_false, if_true, bs, dPick_bool, dIf_bool, dBin_gtr, lens22 hd, dBin_sub, w0, w4]
            exact .some (.inr ⟨by simp [-Option.bind_some], rfl, hg, hq, _, _, _, _, _, _, n, qs, rfl, ow, hs, q1, q2⟩)
      · have c1 : ¬ (m : Int) = 0 := by omega
        have c1' : ((m : Int) == 0) = false := by
          have : ¬ (m : Int) = 0 := by omega
          simpa [-Option.bind_some] using this
        have c2 : ¬ (m : Int) > 8388608 := by omega
        have c3 : ¬ (m : Int) > (l.length : Int) - (n : Int) - 8 := by omega
        have w5 : IntKind.wrap .i64 (((n + 8 : Nat) : Int) + (m : Int)) = ((n + 8 + m : Nat) : Int) := by rw [wrap_i64 (by omega) (by omega)]; omega
        have w6 : IntKind.wrap .i64 ((8 : Int) + (m : Int)) = ((8 + m : Nat) : Int) := by rw [wrap_i64 (by omega) (by omega)]; omega
        have w7 : IntKind.wrap .i64 ((n : Int) + ((8 + m : Nat) : Int)) = ((n + (8 + m) : Nat) : Int) := by rw [wrap_i64 (by omega) (by omega)]; omega
        obtain ⟨d9, e9, s9⟩ := cut2_by hd (n + 8) (n + 8 + m) (by omega) (by omega)
        obtain ⟨d55, e55, s55⟩ := cut2_by hd (n + 4) (n + 8) (by omega) (by omega)
        have l9 : (l.take (n + 8 + m)).drop (n + 8) = ((l.drop n).drop 8).take m := by rw [List.drop_take, List.drop_drop]; congr 1; omega
        have l55 : (l.take (n + 8)).drop (n + 4) = ((l.drop n).drop 4).take 4 := by rw [List.drop_take, List.drop_drop]; congr 1; omega
        rw [l9] at s9
        rw [l55] at s55
        have hl55 : (((l.drop n).drop 4).take 4).length = 4 := by simp [-Option.bind_some]; omega
        have hu55 : ∀ z ∈ ((l.drop n).drop 4).take 4, U8 z := fun z hz => hu z (List.mem_of_mem_drop (List.mem_of_mem_drop (List.mem_of_mem_take hz)))
        simp only [dBin_add, w1, e6, bs, en, cv1029_3, w3, w2, dBin_eql, dBin_gtr, c1, c1', c2, c3, decide_true, decide_false, gd_bool, reduceCtorEq, Bool.true_eq_false, Bool.false_eq_true, if_false, if_true, dPick_bool, dIf_bool, lens22 hd, dBin_sub, w0, w4, w5, e9, e55]
        have hpl : (((l.drop n).drop 8).take m).length = m := by simp [-Option.bind_some]; omega
        generalize hPl : ((l.drop n).drop 8).take m = pl at s9 hpl
        obtain ⟨dp, g1, ep, Bp⟩ := app_b (l := []) (d := .nils) hg (Own.nils _ _ _ _) (rdB_rows (h := g) (.inl s9)) (by simp [-Option.bind_some]; omega)
        simp only [List.nil_append] at Bp
        have e56 := s1111 _ d55 g1 s55 (by omega) hu55
        obtain ⟨dc, g2, ec, Bc⟩ := app_b (n0 := g1.length) (h := g1) (l := []) (d := .nils) (Nat.le_refl _) (Own.nils _ _ _ _) (rdB_rows (h := g1) (.inl s6)) (by simp [-Option.bind_some]; omega)
        simp only [List.nil_append] at Bc
        have rp2 : RdB g2 pl dp := (RdB.own Bp.ow).keep fun q T z rows hq => Bc.old q (List.getElem?_eq_some_iff.1 hq).1 (nil_ob q)
        obtain ⟨dx, g3, ex, Bx⟩ := app_b (n0 := g1.length) Bc.len Bc.ow (rdB_rows rp2) (by simp [-Option.bind_some]; omega)
        have e59 := s1031 _ dx g3 (.inr ⟨_, _, Bx.ow⟩) (by simp [-Option.bind_some]; omega)
        have hc32 := crc_u32 ((l.drop n).take 4 ++ pl)
        unfold U32 at hc32
        have w8 : IntKind.wrap .u64 (crc ((l.drop n).take 4 ++ pl)) = crc ((l.drop n).take 4 ++ pl) := wrap_u64 (by omega) (by omega)
        have n1 : h.length ≤ g1.length := Nat.le_trans hg Bp.len
        have n2 : g1.length ≤ g2.length := Bc.len
        have n3 : h.length ≤ g3.length := Nat.le_trans (Nat.le_trans n1 n2) Bx.len
        have old3 : ∀ q, q < g1.length → g3[q]? = g1[q]? := fun q hq => (Bx.old q (by omega) (fun hx => by have := (Bc.ow.lt hx).1; omega)).trans (Bc.old q hq (nil_ob q))
        have old0 : ∀ q, q < g.length → g3[q]? = g[q]? := fun q hq => (old3 q (by have := Bp.len; omega)).trans (Bp.old q hq (nil_ob q))
        have ow3 : Own g3 h.length ty22 1 (qs.map fun p => [p.2]) x := ow.keep fun q _ hx => old0 q (ow.lt hx).2
        have hs3 : ∀ p ∈ qs, Own g3 h.length ty5 1 (p.1.map byr) p.2 := fun p hp => (hs p hp).keep fun q _ hx => old0 q ((hs p hp).lt hx).2
        have op3 : Own g3 h.length ty5 1 (pl.map byr) dp := Bp.ow.keep fun q _ hx => old3 q (Bp.ow.lt hx).2
        have hq3 : ∀ q, q < h.length → g3[q]? = h[q]? := fun q hq' => (old0 q (by omega)).trans (hq q hq')
        simp only [ep, e56, ec, ex, e59, bs, cv65_1029, w8, dBin_neq]
        by_cases hcrc : num (((l.drop n).drop 4).take 4) = crc ((l.drop n).take 4 ++ pl)
        · have hgo : ¬ Stop (l.drop n) := by
            unfold Stop
            rw [hNN, List.length_drop]
            simp only [Int.toNat_natCast]
            rw [hPl]
            rintro (h1 | h1 | h1 | h1 | h1)
            · omega
            · omega
            · omega
            · omega
            · exact h1 hcrc
          rw [rd_go hgo, hNN] at r1 r2
          simp only [Int.toNat_natCast] at r1 r2
          rw [hPl, List.drop_drop] at r1
          rw [List.drop_drop] at r2
          simp only [hcrc, ne_eq, not_true, decide_false, dIf_bool, Bool.false_eq_true, if_false, bs, bs1031_1 dp (own_one op3)]
          refine wap1031 n3 ow3 (rowsOf_sl _ _ _ _) (by simp [-Option.bind_some]; omega) fun x1 g4 ow4 len4 bel4 bel4' _ => ?_
          simp only [bs, dBin_add, w6, w7]
          have keep4 : ∀ {p : List Int} {d : D}, Own g3 h.length ty5 1 (p.map byr) d → Own g4 h.length ty5 1 (p.map byr) d := fun o => o.keep fun q _ hx => bel4' q (o.lt hx).2 (own_apart o ow3 ty_ne hx)
          refine .some (.inl ⟨rfl, k - (8 + m), by omega, Nat.le_trans n3 len4, fun q hq' => (bel4 q hq').trans (hq3 q hq'), _, _, _, _, _, _, n + (8 + m), qs ++ [(pl, dp)], rfl, by omega, by omega, by simp [-Option.bind_some]; omega, ?_, ?_, ?_, ?_⟩)
          · simpa [-Option.bind_some] using ow4
          · intro p hp
            rcases List.mem_append.1 hp with hp | hp
            · exact keep4 (hs3 p hp)
            · rw [List.mem_singleton.1 hp]; exact keep4 op3
          · rw [r1]
            simp only [List.map_append, List.map_cons, List.map_nil, List.append_assoc, List.singleton_append]
          · rw [r2]
            simp only [Nat.add_assoc]
        · have hst : Stop (l.drop n) := by
            unfold Stop
            rw [hNN]
            simp only [Int.toNat_natCast]
            rw [hPl]
            exact .inr (.inr (.inr (.inr hcrc)))
          obtain ⟨q1, q2⟩ := stop hst
          simp only [hcrc, ne_eq, not_false_eq_true, decide_true, dIf_bool, if_true]
          exact .some (.inr ⟨by simp [-Option.bind_some], rfl, n3, hq3, _, _, _, _, _, _, n, qs, rfl, ow3, hs3, q1, q2⟩)
    · intro h0
      have h0 : ¬ n + 8 ≤ l.length := by have : ¬ (8 : Int) ≤ (l.length : Int) - n := by simpa [-Option.bind_some] using h0
                                         omega
      obtain ⟨q1, q2⟩ := stop (.inl (by rw [List.length_drop]; omega))
      exact .some (.inr ⟨by simp [-Option.bind_some], rfl, hg, hq, _, _, _, _, _, _, n, qs, rfl, ow, hs, q1, q2⟩)
  · rintro ⟨ex, ds, g⟩ ⟨rfl, hg, hq, x, a2, a3, a4, a5, a6, v, qs, rfl, ow, hs, q1, q2⟩
    subst q2
    simp only [unblk_self, toEnd_nrm, bs, nth_zero, nth_succ, mkRes_two]
    have hin : ∀ p ∈ qs, SlOf 1 byr p.1 (frz h.length g 2 p.2) := fun p hp => own_sl (n := 1) (hs p hp) (Nat.le_refl _) fun a _ => byr_frz _ g 1 a
    have hsl : SlOf 1 (fun p : List Int × D => [p.2]) (qs.map fun p => (p.1, frz h.length g 2 p.2)) (frz h.length g 3 x) := by
      rcases ow with ⟨rfl, hn⟩ | ⟨o, ho, rfl, hgo⟩
      · have : qs = [] := by simpa [-Option.bind_some] using hn
        subst this
        exact .nils _ _
      · refine .inr ⟨false, ?_⟩
        have hb : Nat.ble h.length o = true := Nat.ble_eq_true_of_le ho
        simp only [frz, hb, hgo, List.drop_zero]
        rw [List.take_of_length_le (by simp [-Option.bind_some])]
        simp [-Option.bind_some, List.map_map, Function.comp_def]
    have hall : ∀ p ∈ qs.map (fun p => (p.1, frz h.length g 2 p.2)), SlOf 1 byr p.1 p.2 := fun p hp => by
      obtain ⟨p', hp', rfl⟩ := List.mem_map.1 hp
      exact hin p' hp'
    rw [scope_eq (d' := .tup [frz h.length g 3 x, .int .i64 (rd l).2]) (by simp [-Option.bind_some]) (by
      refine .tup _ fun d hd => ?_
      simp [-Option.bind_some] at hd
      rcases hd with rfl | rfl
      · exact slof_ok hsl fun a ha d hd => by simp [-Option.bind_some] at hd; subst hd; exact slof_ok (hall a ha) fun b _ => byr_ok _ b
      · constructor) hg hq]
    exact .some ⟨rfl, _, rfl, _, by rw [q1]; simp [-Option.bind_some], hsl, hall⟩
theorem scope_nil (g : Hp) (b : Bool) : scope [] g (.bool b) = some (.bool b, []) := scope_eq (by simp [-Option.bind_some]) (.bool _) (Nat.zero_le _) fun q hq => absurd hq (Nat.not_lt_zero q)
theorem rdB_frz {h : Hp} {l : List Int} {d : D} (hd : RdB h l d) : SlOf 1 byr l (frz 0 h 3 d) := by
  rcases hd with hd | ⟨ob, rfl, ho⟩
  · rw [slof_frz (n := 2) hd fun b _ => byr_frz _ h 2 b]; exact hd
  · refine .inr ⟨false, ?_⟩
    have hb : Nat.ble 0 ob = true := Nat.ble_eq_true_of_le (Nat.zero_le _)
    simp only [frz, hb, ho, List.drop_zero]
    rw [List.take_of_length_le (by simp [-Option.bind_some])]
    simp [-Option.bind_some, List.map_map, Function.comp_def, byr]
theorem cutF_by {l : List Int} {d : D} (hd : SlOf 1 byr l d) : ∃ d', dSliceAt tab ty22 false true true [d, .int .i64 l.length, .int .i64 l.length] = some d' ∧ ((d' = .nils ∧ l = []) ∨ d' = .sl 1 true (l.map byr)) := by
  have t1 : tab ty22 = some ti22 := id rfl
  have t2 : ti22.td = .sl ty5 := id rfl
  have t3 : tab ty5 = some ti5 := id rfl
  have t4 : ti5.sz = 1 := id rfl
  simp only [dSliceAt, dInt?, bs, dSlice3, t1, t2, t3]
  rcases hd with ⟨rfl, rfl⟩ | ⟨f, rfl⟩
  · exact ⟨_, rfl, .inl ⟨rfl, rfl⟩⟩
  · simp [-Option.bind_some, t4]
    rw [List.take_of_length_le (by simp [-Option.bind_some])]
theorem app_fullB {l m : List Int} {x y : D} {h : Hp} (hx : (x = .nils ∧ l = []) ∨ x = .sl 1 true (l.map byr)) (hy : dRowsOf h 1 y = some (m.map byr)) (hl : l.length + m.length ≤ 1000000000) : ∃ d' h', dAppend tab h ty22 ty22 x y = some (d', h') ∧ RdB h' (l ++ m) d' ∧ h.length ≤ h'.length ∧ ∀ q, q < h.length → h'[q]? = h[q]? := by
  rcases hx with ⟨rfl, rfl⟩ | rfl
  · obtain ⟨d', h', e, B⟩ := app_b (n0 := 0) (l := []) (d := .nils) (Nat.zero_le _) (Own.nils _ _ _ _) hy (by simpa [-Option.bind_some] using hl)
    exact ⟨d', h', e, RdB.own B.ow, B.len, fun q hq => B.old q hq (nil_ob q)⟩
  · have t1 : tab ty22 = some ti22 := id rfl
    have t2 : ti22.td = .sl ty5 := id rfl
    have t3 : tab ty5 = some ti5 := id rfl
    have t4 : ti5.sz = 1 := id rfl
    have t5 : ti5.by_ = 1 := id rfl
    have hs : dSrc h ti22 ti5 y = some (m.map byr) := by simp only [dSrc, t2, t4, hy]
    have hb : Nat.blt 0 1 = true := rfl
    unfold dAppend
    simp only [t1, t2, t3, t4, hs, hb]
    cases m with
    | nil => exact ⟨_, _, rfl, .inl (by rw [List.append_nil]; exact SlOf.mk _ _ _ _), Nat.le_refl _, fun _ _ => rfl⟩
    | cons z m =>
      simp only [List.map_cons, t5]
      have hlim : lim ((l.map byr).length + (byr z :: m.map byr).length) 1 = true := lim_ok (by simp [-Option.bind_some] at hl ⊢; omega) (by simp [-Option.bind_some] at hl ⊢; omega)
      simp only [hlim, and_self, if_true]
      refine ⟨_, _, rfl, .inr ⟨h.length, by simp [-Option.bind_some], ?_⟩, by simp [-Option.bind_some, dNew], fun q hq => dNew_old _ _ _ _ hq⟩
      rw [dNew_get]
      simp [-Option.bind_some]
theorem byr_set (z v : Int) : spl (byr z) 0 (cells1 (.int .u8 v)) = byr v := id rfl
theorem l1103 (qs : List (List Int × D)) (o : Nat) (g : Hp) (hlen : qs.length = 5) (ho : g[o]? = some (.row ty22 1 (qs.map fun p => [p.2]))) (hs : ∀ p ∈ qs, SlOf 1 byr p.1 p.2 ∧ p.1.length ≤ 100000000 ∧ ∀ z ∈ p.1, U8 z) (a0 a1 a2 a3 a4 a5 a6 : D) {β : Type} {K : Out → Option β} {Q : β → Prop}
    (k : ∀ b0 b1 b2 b3 b4 b5 b6 b7, Wp (K (.ext 0, [b0, b1, b2, b3, b4, b5, b6, b7], g)) Q) : Wp ((loopW (F1103_L0 (.msl 1 o 0 5)) [a0, .int .i64 0, a1, a2, a3, a4, a5, a6] g).bind K) Q := by
  refine Wp.loop (fun k ds g' => g' = g ∧ ∃ a0 a1 a2 a3 a4 a5 a6, ∃ n : Nat, ds = [a0, .int .i64 n, a1, a2, a3, a4, a5, a6] ∧ k + n = 5) (fun r => r.1 = .ext 0 ∧ r.2.2 = g ∧ ∃ b0 b1 b2 b3 b4 b5 b6 b7, r.2.1 = [b0, b1, b2, b3, b4, b5, b6, b7]) 5 ⟨rfl, _, _, _, _, _, _, _, 0, rfl, rfl⟩ ?_ ?_
  · rintro kk ds g' ⟨rfl, a0, a1, a2, a3, a4, a5, a6, n, rfl, hk⟩
    simp only [F1103_L0, nth_zero, nth_succ, bs, Option.bind_assoc, lenm1031, dBin_lss]
    refine Wp.dif ?_ ?_
    · intro h0
      have h0 : n < 5 := by have : (n : Int) < ((5 : Nat) : Int) := by simpa [-Option.bind_some] using h0
                            omega
      obtain ⟨p, hp⟩ : ∃ p, qs[n]? = some p := ⟨_, List.getElem?_eq_getElem (by omega)⟩
      obtain ⟨h1, h2, h3⟩ := hs p (List.mem_of_getElem? hp)
      have hw : IntKind.wrap .i64 ((n : Int) + 1) = ((n + 1 : Nat) : Int) := by
        rw [wrap_i64 (by omega) (by omega)]; omega
      have i0 : (0 : Int) ≤ (n : Int) ∧ (n : Int) < ((5 : Nat) : Int) := by omega
      have ix : dIndexAddr tab ty1031 (.msl 1 o 0 5) (.int .i64 (n : Int)) = some (.ptr o n 0) := by rw [ixm1031, if_pos i0]; simp [-Option.bind_some]
      have ld : dLoad tab g' ty22 (.ptr o n 0) = some p.2 := by rw [ldp22, row_of ho, List.getElem?_map, hp]; rfl
      obtain ⟨x, e1, x1⟩ := s1106 p.1 p.2 g' h1 h2 h3
      obtain ⟨y, e2, y1⟩ := s1107 p.1 p.2 g' h1 h2 h3
      have hb := rd_fst_len p.1.length p.1 (Nat.le_refl _)
      have e3 := s1108 (rd p.1).1 (rd p.1).1 x y g' x1 y1 (by omega) (fun q hq => by have := hb.2 q hq; omega)
      simp only [ix, ld, e1, e2, bs, dExtract_tup, List.getElem?_cons_zero, List.getElem?_cons_succ, dBin_neq, ne_eq, not_true, decide_false, gd_bool, gdW_bool, if_true, e3, decide_true, dUn_not, Bool.not_true, dPick_bool, Bool.false_eq_true, if_false, dIf_bool, dBin_add, hw]
      exact .some (.inl ⟨rfl, kk - 1, by omega, rfl, _, _, _, _, _, _, _, n + 1, rfl, by omega⟩)
    · intro h0
      exact .some (.inr ⟨by simp [-Option.bind_some], rfl, rfl, _, _, _, _, _, _, _, _, rfl⟩)
  · rintro ⟨ex, ds, g'⟩ ⟨rfl, q2, b0, b1, b2, b3, b4, b5, b6, b7, rfl⟩
    simp only at q2
    subst q2
    exact k _ _ _ _ _ _ _ _
theorem law1103 (js zs : List Int) (dj d : D) (at_ by_ : Int) (hj : Given .u8 js dj) (hju : ∀ z ∈ js, 0 ≤ z ∧ z < 256) (hd : Given .u8 zs d) (hz : ∀ z ∈ zs, 0 ≤ z ∧ z < 256) (hjl : js.length ≤ 9223372036854775807) : ∃ h', R fn1103 [dj, d, .int .i64 at_, .int .u8 by_] [] = some (.bool true, h') := by
  suffices Wp (R fn1103 [dj, d, .int .i64 at_, .int .u8 by_] []) (fun p => p.1 = .bool true) by
    obtain ⟨⟨x, h'⟩, h1, rfl⟩ := this
    exact ⟨h', h1⟩
  have hjs := given_by hj
  rw [e1103]
  simp only [F1103, bs, s1023, dUn_not, Bool.not_true, gd_bool, if_true, lens22 hjs, dBin_gtr, dPick_bool, Bool.false_eq_true, if_false, Option.bind_assoc]
  refine Wp.dif ?_ ?_
  · intro h0
    simp only [h0, bs, mkRes_one, scope_nil]
    exact .some rfl
  intro h0
  have h0 : js.length ≤ 2000 := by have : ¬ (js.length : Int) > 2000 := by simpa [-Option.bind_some] using h0
                                   omega
  obtain ⟨x, w, dw, g0, e0, hg0, hw, ps, rfl, hps, hwl⟩ := s1105 zs d [] hd hz
  refine Wp.step e0 ?_
  have hwu := jour_u8 ps hps
  generalize jour ps = w at hw hwl hwu
  simp only [bs, dExtract_tup, List.getElem?_cons_zero, List.getElem?_cons_succ]
  obtain ⟨dodd, g1, e1, B1⟩ := app_b (n0 := 0) (h := g0) (l := []) (d := .nils) (Nat.zero_le _) (Own.nils _ _ _ _) (rdB_rows (h := g0) (.inl hw)) (by simp [-Option.bind_some]; omega)
  simp only [List.nil_append] at B1
  have ro := RdB.own B1.ow
  refine Wp.step e1 ?_
  simp only [bs, rdB_len ro, dBin_gtr]
  refine Wp.join (P := fun r => r.1 = .nrm ∧ ∃ od : List Int, RdB r.2.2 od dodd ∧ od.length = w.length ∧ ∀ z ∈ od, U8 z) ?_ ?_ ?_
  · intro hp
    have hp : 0 < w.length := by have : (w.length : Int) > 0 := by simpa [-Option.bind_some] using hp
                                 omega
    obtain ⟨r, er, r0, r1, _⟩ := s1091g at_ w.length g1 (by omega)
    have r1 := r1 (by omega)
    obtain ⟨n, rfl⟩ := Int.eq_ofNat_of_zero_le r0
    obtain ⟨o, ho, rfl, hob⟩ := own_ix B1.ow (i := n) (by simp [-Option.bind_some]; omega)
    obtain ⟨z, hz'⟩ : ∃ z, w[n]? = some z := ⟨_, List.getElem?_eq_getElem (by omega)⟩
    have hr : (w.map byr)[n]? = some (byr z) := by rw [List.getElem?_map, hz']; rfl
    have i0 : (0 : Int) ≤ (n : Int) ∧ (n : Int) < ((w.map byr).length : Int) := by simp [-Option.bind_some]; omega
    have ix : dIndexAddr tab ty22 (.msl 1 o 0 (w.map byr).length) (.int .i64 (n : Int)) = some (.ptr o n 0) := by rw [ixm22, if_pos i0]; simp [-Option.bind_some]
    have ld : dLoad tab g1 ty5 (.ptr o n 0) = some (.int .u8 z) := by rw [ldp5, row_of hob, hr]; rfl
    simp only [er, bs, ix, ld, dBin_xor]
    refine wst5 hob hr (by rfl) (by simp [-Option.bind_some, byr]) (by rfl) fun g2 h2 _ => ?_
    rw [byr_set, ← List.map_set] at h2
    try simp only [bs]
    refine .some ⟨rfl, w.set n (IntKind.wrap .u8 (BitVec.ofInt IntKind.u8.bits z ^^^ BitVec.ofInt IntKind.u8.bits by_).toNat), .inr ⟨o, by simp [-Option.bind_some], h2⟩, by simp [-Option.bind_some], fun y hy => ?_⟩
    rcases List.mem_or_eq_of_mem_set hy with hy | rfl
    · exact hwu y hy
    · rw [wrap_u8m]; unfold U8; omega
  · intro hp
    exact .some ⟨rfl, w, ro, rfl, hwu⟩
  rintro ⟨ex, ds, g2⟩ ⟨rfl, od, hod, hol, hou⟩
  have wl : IntKind.wrap .i64 ((w.length : Int) + 1) = ((w.length + 1 : Nat) : Int) := by rw [wrap_i64 (by omega) (by omega)]; omega
  obtain ⟨r, er, r0, r1, _⟩ := s1091g at_ ((w.length + 1 : Nat) : Int) g2 (by omega)
  have r1 := r1 (by omega)
  obtain ⟨d57, e57, v57⟩ := slh22 hw (k := .i64) r0 (by omega)
  obtain ⟨d63, e63, v63⟩ := cutF_by hw
  obtain ⟨d65, g3, e65, v65, hg3, old3⟩ := app_fullB (h := g2) v63 (rdB_rows (h := g2) (.inl hjs)) (by omega)
  simp only [toEnd_nrm, bs, lens22 hw, dBin_add, wl, er, e57, e63, e65]
  have q0 : SlOf 1 byr js (frz 0 g3 3 dj) := rdB_frz (.inl hjs)
  have q1 : SlOf 1 byr w (frz 0 g3 3 dw) := rdB_frz (.inl hw)
  have q2 : SlOf 1 byr od (frz 0 g3 3 dodd) := rdB_frz (hod.keep fun q T z rows hq => old3 q (List.getElem?_eq_some_iff.1 hq).1)
  have q3 : SlOf 1 byr (w.take r.toNat) (frz 0 g3 3 d57) := rdB_frz (.inl v57)
  have q4 : SlOf 1 byr (w ++ js) (frz 0 g3 3 d65) := rdB_frz v65
  generalize frz 0 g3 3 dj = x0 at q0
  generalize frz 0 g3 3 dw = x1 at q1
  generalize frz 0 g3 3 dodd = x2 at q2
  generalize frz 0 g3 3 d57 = x3 at q3
  generalize frz 0 g3 3 d65 = x4 at q4
  rw [bsw1031_5 _ x0 x1 x2 x3 x4 (slof_one q0) (slof_one q1) (slof_one q2) (slof_one q3) (slof_one q4)]
  simp only [bs]
  have hju' : ∀ z ∈ js, U8 z := hju
  refine l1103 [(js, x0), (w, x1), (od, x2), (w.take r.toNat, x3), (w ++ js, x4)] _ _ rfl (dNew_get _ _ _ _) (fun p hp => ?_) _ _ _ _ _ _ _ fun b0 b1 b2 b3 b4 b5 b6 b7 => ?_
  · simp only [List.mem_cons, List.not_mem_nil, or_false] at hp
    rcases hp with rfl | rfl | rfl | rfl | rfl
    · exact ⟨q0, by simp only; omega, hju'⟩
    · exact ⟨q1, by simp only; omega, hwu⟩
    · exact ⟨q2, by simp only; omega, hou⟩
    · exact ⟨q3, by simp only [List.length_take]; omega, fun z hz => hwu z (List.mem_of_mem_take hz)⟩
    · refine ⟨q4, by simp only [List.length_append]; omega, fun z hz => ?_⟩
      rcases List.mem_append.1 hz with hz | hz
      · exact hwu z hz
      · exact hju' z hz
  · simp only [unblk_self, toEnd_nrm, bs, mkRes_one, scope_nil]
    exact .some rfl
end Go.Proofs.Ytjepklgnhdellaa
