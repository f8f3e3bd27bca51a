/- Laws, on plain data, about functions that the statement reaches. -/
import Derived.Test.YtjhmicmbbgkhpaaDoorL8
set_option linter.unusedSimpArgs false
set_option linter.unusedVariables false
set_option linter.unnecessarySimpa false
set_option maxRecDepth 100000
namespace Go.Proofs.YtjhmicmbbgkhpaaDoor
open Go.Eng Go.Pi
theorem s1161 (hs nu : Int) (a b : List It) (da db : D) (h : Hp) (ha : SlOf 11 itr a da) (hb : SlOf 11 itr b db) (hab : a.map riOf = b.map riOf) (hl : a.length ≤ 1000000000) : R fn1161 [.agg (batx hs nu da), .agg (batx hs nu db)] h = some (.bool true, h) := by
  suffices Wp (R fn1161 [.agg (batx hs nu da), .agg (batx hs nu db)] h) (fun p => p = (.bool true, h)) by
    obtain ⟨p, h1, rfl⟩ := this
    exact h1
  have hlen : a.length = b.length := by have := congrArg List.length hab; simpa [-Option.bind_some] using this
  rw [e1161]
  simp only [F1161, pBoxF_agg, bs, Option.bind_assoc, bx0, bx1, bx2, bxl, ld3, ld113, dBin_neq, ne_eq, not_true, decide_false, gd_bool, if_true, dPick_bool, Bool.false_eq_true, if_false, lens113 ha, lens113 hb, hlen, dIf_bool]
  refine Wp.loop (fun k ds g => g = h ∧ ∃ a1 a3 a4, ∃ n : Nat, ds = [a1, .int .i64 n, a3, a4] ∧ k + n = a.length) (fun r => r.1 = .ext 0 ∧ r.2.2 = h) a.length ⟨rfl, _, _, _, 0, rfl, rfl⟩ ?_ ?_
  · rintro k ds g ⟨rfl, a1, a3, a4, n, rfl, hk⟩
    simp only [F1161_L0, nth_zero, nth_succ, bs, Option.bind_assoc, bx2, ld113, lens113 ha, dBin_lss]
    refine Wp.dif ?_ ?_
    · intro h0
      have h0 : n < a.length := by have : (n : Int) < a.length := by simpa [-Option.bind_some] using h0
                                   omega
      obtain ⟨i, hi⟩ : ∃ i, a[n]? = some i := ⟨_, List.getElem?_eq_getElem h0⟩
      obtain ⟨j, hj⟩ : ∃ j, b[n]? = some j := ⟨_, List.getElem?_eq_getElem (by omega)⟩
      have hsm := (ri_cong (ri_get hab hi hj)).2.2.2
      have hw : IntKind.wrap .i64 ((n : Int) + 1) = ((n + 1 : Nat) : Int) := by
        rw [wrap_i64 (by omega) (by omega)]; omega
      have hii : dIndexAddr tab ty113 da (.int .i64 (n : Int)) = some (.fptr (itr i)) := by rw [ixs113 ha]; simp [-Option.bind_some, hi]
      have hjj : dIndexAddr tab ty113 db (.int .i64 (n : Int)) = some (.fptr (itr j)) := by rw [ixs113 hb]; simp [-Option.bind_some, hj]
      simp only [hii, hjj, ldIt, s82, hsm, bs, dUn_not, Bool.not_true, dIf_bool, Bool.false_eq_true, if_false, dBin_add, hw]
      exact .some (.inl ⟨rfl, k - 1, by omega, rfl, _, _, _, n + 1, rfl, by omega⟩)
    · intro h0
      exact .some (.inr ⟨by simp [-Option.bind_some], rfl, rfl⟩)
  · rintro ⟨ex, ds, g⟩ ⟨q1, q2⟩
    simp only at q1 q2
    subst q1; subst q2
    simp only [unblk_self, toEnd_nrm, bs, mkRes_one]
    exact .some rfl
/-- The bytes of an item are read back. -/
theorem dec_enc {i : It} (h : ItR i) (hb : (bodyI i).length ≤ 20000) (r : List Int) : decZ 0 (encI i ++ r) = (0, ((encI i).length : Int), riOf i) ∧ visI (((encI i ++ r).take (num ((encI i ++ r).take 4)).toNat).drop 4, false) = riOf i := by
  have hw : IntKind.wrap .u64 (((bodyI i).length : Int) + 4) = ((bodyI i).length : Int) + 4 := wrap_u64 (by omega) (by omega)
  obtain ⟨P, hP⟩ : ∃ P, P = putb 4 (IntKind.wrap .u64 (((bodyI i).length : Int) + 4)) := ⟨_, rfl⟩
  obtain ⟨C, hC⟩ : ∃ C, C = putb 4 (chkS (encH i)) := ⟨_, rfl⟩
  have hPl : P.length = 4 := by rw [hP, putb_len]
  have hCl : C.length = 4 := by rw [hC, putb_len]
  have hH : encH i = P ++ bodyI i := by rw [hP]; rfl
  have hHl : (encH i).length = (bodyI i).length + 4 := by rw [hH, List.length_append]; omega
  have hE : encI i ++ r = encH i ++ (C ++ r) := by rw [hC]; simp [-Option.bind_some, encI]
  have hE2 : encI i ++ r = P ++ (bodyI i ++ (C ++ r)) := by rw [hE, hH]; simp [-Option.bind_some]
  have hnP : num P = (((bodyI i).length + 4 : Nat) : Int) := by rw [hP, hw, num_putb 4 _ (by omega), p256_4]; omega
  have hcr := chkS_range (encH i)
  have hnC : num C = chkS (encH i) := by rw [hC, num_putb 4 _ hcr.1, p256_4]; omega
  have t4 : (encI i ++ r).take 4 = P := by rw [hE2]; exact List.take_left' hPl
  have tn : (encI i ++ r).take ((bodyI i).length + 4) = encH i := by rw [hE]; exact List.take_left' hHl
  have dn : (encI i ++ r).drop ((bodyI i).length + 4) = C ++ r := by rw [hE]; exact List.drop_left' hHl
  have tc : (C ++ r).take 4 = C := List.take_left' hCl
  have d4 : (encH i).drop 4 = bodyI i := by rw [hH]; exact List.drop_left' hPl
  obtain ⟨v1, v2⟩ := visI_app h []
  rw [List.append_nil] at v1 v2
  have hEl : (encI i ++ r).length = (bodyI i).length + 8 + r.length := by rw [List.length_append, encI_len]
  refine ⟨?_, by rw [t4, hnP, Int.toNat_natCast, tn, d4]; exact v1⟩
  unfold decZ
  rw [if_neg (by omega), t4, hnP, if_neg (by omega), Int.toNat_natCast, tn, dn, tc, hnC, if_neg (by simp [-Option.bind_some]), d4, v1, v2, if_neg (by simp [-Option.bind_some]), encI_len]
  have e : 4 + (((bodyI i).length + 4 : Nat) : Int) = (((bodyI i).length + 8 : Nat) : Int) := by omega
  rw [e]
theorem flat_drop {l : List It} {n : Nat} {x : It} (h : l[n]? = some x) : ((l.drop n).map encI).flatten = encI x ++ ((l.drop (n + 1)).map encI).flatten := by
  obtain ⟨hn, hx⟩ := List.getElem?_eq_some_iff.1 h
  rw [List.drop_eq_getElem_cons hn, hx]; simp [-Option.bind_some]
theorem s1159 (hs nu : Int) (its : List It) (dp : D) (h : Hp) (hp : SlOf 1 byr (batZ hs nu its) dp) (h1 : I64 hs) (h2 : I64 nu) (h40 : its.length ≤ 40) (hit : ∀ i ∈ its, RG hs i) : ∃ d' its', R fn1159 [dp] h = some (.tup [.agg (batx hs nu d'), .int .i64 0], h) ∧ SlOf 11 itr its' d' ∧ its'.map riOf = its.map riOf := by
  suffices Wp (R fn1159 [dp] h) (fun p => p.2 = h ∧ ∃ d' its', p.1 = .tup [.agg (batx hs nu d'), .int .i64 0] ∧ SlOf 11 itr its' d' ∧ its'.map riOf = its.map riOf) by
    obtain ⟨⟨x, h'⟩, h1, rfl, d', its', rfl, h2⟩ := this
    exact ⟨d', its', h1, h2⟩
  have hlen := batZ_len (nu := nu) h40 hit
  have hu := batZ_u8 hs nu its
  obtain ⟨S, hS⟩ : ∃ S, S = (its.map encI).flatten := ⟨_, rfl⟩
  have hSu : ∀ z ∈ S, U8 z := fun z hz => hu z (by rw [hS] at hz; unfold batZ; exact List.mem_append_right _ hz)
  have hSl : S.length ≤ 1000000 := by have := hlen.2; unfold batZ at this; rw [List.length_append, ← hS] at this; omega
  have t8 : (batZ hs nu its).take 8 = pI hs := by
    have : batZ hs nu its = pI hs ++ (pI nu ++ (pN its.length ++ S)) := by simp [-Option.bind_some, batZ, hS]
    rw [this]; exact List.take_left' (pI_len _)
  have t16 : ((batZ hs nu its).drop 8).take 8 = pI nu := by
    have : batZ hs nu its = pI hs ++ (pI nu ++ (pN its.length ++ S)) := by simp [-Option.bind_some, batZ, hS]
    rw [this, List.drop_left' (pI_len _)]; exact List.take_left' (pI_len _)
  have t20 : ((batZ hs nu its).drop 16).take 4 = pN its.length := by
    have : batZ hs nu its = (pI hs ++ pI nu) ++ (pN its.length ++ S) := by simp [-Option.bind_some, batZ, hS]
    rw [this, List.drop_left' (by rw [List.length_append, pI_len, pI_len])]; exact List.take_left' (pN_len _)
  have d20 : (batZ hs nu its).drop 20 = S := by
    have : batZ hs nu its = (pI hs ++ pI nu ++ pN its.length) ++ S := by simp [-Option.bind_some, batZ, hS]
    rw [this]; exact List.drop_left' (by simp only [List.length_append, pI_len, pN_len])
  obtain ⟨x8, e8, u8s⟩ := sll22 hp (k := .i64) (n := 8) (by omega) (by omega)
  obtain ⟨x16, e16, u16s⟩ := sll22 hp (k := .i64) (n := 16) (by omega) (by omega)
  obtain ⟨x20, e20, u20s⟩ := sll22 hp (k := .i64) (n := 20) (by omega) (by omega)
  have u8s : SlOf 1 byr ((batZ hs nu its).drop 8) x8 := u8s
  have u16s : SlOf 1 byr ((batZ hs nu its).drop 16) x16 := u16s
  have u20s : SlOf 1 byr ((batZ hs nu its).drop 20) x20 := u20s
  have q17 : ∀ g, R fn1163 [dp] g = some (.int .i64 hs, g) := fun g => by
    rw [s1163 _ dp g hp (by omega) hu, t8, num_pI h1]
  have q20 : ∀ g, R fn1163 [x8] g = some (.int .i64 nu, g) := fun g => by
    rw [s1163 _ x8 g u8s (by simp [-Option.bind_some]; omega) (fun z hz => hu z (List.mem_of_mem_drop hz)), t16, num_pI h2]
  have q26 : ∀ g, R fn1110 [x16] g = some (.int .u32 (its.length : Int), g) := fun g => by
    rw [s1110g _ x16 g u16s (by simp [-Option.bind_some]; omega) (fun z hz => hu z (List.mem_of_mem_drop hz)), t20, num_pN (by omega)]
  rw [d20] at u20s
  have hn20 : ¬ ((batZ hs nu its).length : Int) < 20 := by omega
  rw [e1159]
  simp only [F1159, bs, Option.bind_assoc, lens22 hp, dBin_lss, hn20, decide_false, dIf_bool, Bool.false_eq_true, if_false, q17, e8, q20, bd1064_0_1, e20, e16, q26]
  have a0 : (dNew h ty1064 3 [[.int .i64 0, .int .i64 0, .nils]])[h.length]? = some (.row ty1064 3 [[.int .i64 0, .int .i64 0, .nils]]) := dNew_get _ _ _ _
  have l0 : (dNew h ty1064 3 [[.int .i64 0, .int .i64 0, .nils]]).length = h.length + 1 := by simp [-Option.bind_some, dNew]
  have k0 : ∀ q, q < h.length → (dNew h ty1064 3 [[.int .i64 0, .int .i64 0, .nils]])[q]? = h[q]? := fun q hq => dNew_old _ _ _ _ hq
  generalize dNew h ty1064 3 [[.int .i64 0, .int .i64 0, .nils]] = g0 at *
  have a1 : (dNew g0 ty1064 3 [[.int .i64 0, .int .i64 0, .nils]])[h.length + 1]? = some (.row ty1064 3 [[.int .i64 0, .int .i64 0, .nils]]) := by rw [← l0]; exact dNew_get _ _ _ _
  have b1 : (dNew g0 ty1064 3 [[.int .i64 0, .int .i64 0, .nils]])[h.length]? = some (.row ty1064 3 [[.int .i64 0, .int .i64 0, .nils]]) := by rw [dNew_old _ _ _ _ (by omega)]; exact a0
  have k1 : ∀ q, q < h.length → (dNew g0 ty1064 3 [[.int .i64 0, .int .i64 0, .nils]])[q]? = h[q]? := fun q hq => by rw [dNew_old _ _ _ _ (by omega)]; exact k0 q hq
  generalize dNew g0 ty1064 3 [[.int .i64 0, .int .i64 0, .nils]] = g1 at *
  rw [l0]
  refine wst1064 (kk := 0) (off := 0) (row := [.int .i64 0, .int .i64 0, .nils]) (v := .agg [.int .i64 hs, .int .i64 nu, .nils]) a1 (by rfl) (by rfl) (by exact Nat.le_refl _) (by rfl) fun g2 a2 u2s => ?_
  have a2 : g2[h.length + 1]? = some (.row ty1064 3 [batx hs nu .nils]) := a2
  have b2 : g2[h.length]? = some (.row ty1064 3 [[.int .i64 0, .int .i64 0, .nils]]) := by rw [u2s.2 _ (by omega)]; exact b1
  have k2 : ∀ q, q < h.length → g2[q]? = h[q]? := fun q hq => by rw [u2s.2 q (by omega)]; exact k1 q hq
  try simp only [bs, q26, Option.bind_assoc]
  refine Wp.loop (fun k ds g => ∃ rest v3 v4 v5 v6 v7, ∃ m : Nat, ∃ ld, ∃ its' : List It, ds = [.int .i64 0, rest, .int .u32 ((its.length - m : Nat) : Int), v3, v4, v5, v6, v7] ∧ k + m = its.length ∧ SlOf 1 byr ((its.drop m).map encI).flatten rest
      ∧ g[h.length]? = some (.row ty1064 3 [[.int .i64 0, .int .i64 0, .nils]]) ∧ g[h.length + 1]? = some (.row ty1064 3 [batx hs nu ld]) ∧ Own g (h.length + 2) ty74 11 (its'.map itr) ld ∧ its'.map riOf = (its.take m).map riOf ∧ ∀ q, q < h.length → g[q]? = h[q]?)
    (fun r => r.1 = .ext 0 ∧ (∃ v0 v1 v2 v3 v4 v5 v6 v7, r.2.1 = [v0, v1, v2, v3, v4, v5, v6, v7]) ∧ ∃ ld, ∃ its' : List It, r.2.2[h.length]? = some (.row ty1064 3 [[.int .i64 0, .int .i64 0, .nils]]) ∧ r.2.2[h.length + 1]? = some (.row ty1064 3 [batx hs nu ld]) ∧ Own r.2.2 (h.length + 2) ty74 11 (its'.map itr) ld ∧ its'.map riOf = its.map riOf ∧ ∀ q, q < h.length → r.2.2[q]? = h[q]?)
    its.length ⟨x20, _, _, _, _, _, 0, .nils, [], rfl, rfl, by rw [List.drop_zero, ← hS]; exact u20s, b2, a2, Own.nils _ _ _ _, by simp [-Option.bind_some], k2⟩ ?_ ?_
  · rintro k ds g ⟨rest, v3, v4, v5, v6, v7, m, ld, its', rfl, hk, hr, b3, a3, ow, hri, k3⟩
    simp only [F1159_L0, nth_zero, nth_succ, bs, Option.bind_assoc, dBin_gtr, l0]
    by_cases hm : m < its.length
    · obtain ⟨i, hi⟩ : ∃ i, its[m]? = some i := ⟨_, List.getElem?_eq_getElem hm⟩
      have hB := hit i (List.mem_of_getElem? hi)
      have hil := hB.bl
      obtain ⟨r, hr0⟩ : ∃ r, r = ((its.drop (m + 1)).map encI).flatten := ⟨_, rfl⟩
      have hfd := flat_drop hi
      rw [← hr0] at hfd
      rw [hfd] at hr
      have hru : ∀ z ∈ encI i ++ r, U8 z := fun z hz => by
        refine hSu z ?_
        rw [hS, ← List.take_append_drop m its, List.map_append, List.flatten_append, hfd]
        exact List.mem_append_right _ hz
      have hrl : (encI i ++ r).length ≤ 1000000 := by
        have : (its.map encI).flatten = ((its.take m).map encI).flatten ++ (encI i ++ r) := by rw [← hfd, ← List.flatten_append, ← List.map_append, List.take_append_drop]
        rw [hS, this, List.length_append] at hSl
        omega
      have hEl := encI_len i
      have hrl2 : (encI i ++ r).length = (encI i).length + r.length := List.length_append
      obtain ⟨z1, z2⟩ := dec_enc hB.rd hil r
      obtain ⟨j, ej, hj⟩ := s1129 (encI i ++ r) rest 0 g hr (by omega) hru (fun j hj g => by
        rw [z2] at hj
        have hG := (ri_cong hj.symm).2.2.1 _ hB
        have := s1042 j g hG.fs
        rw [hG.ok] at this
        exact this)
      rw [z1] at ej hj
      have c1 : ((its.length - m : Nat) : Int) > 0 := by omega
      have c2 : ((encI i ++ r).length : Int) > 0 := by omega
      obtain ⟨x5, e5, u5s⟩ := sll22 hr (k := .i64) (n := ((encI i).length : Int)) (by omega) (by omega)
      rw [Int.toNat_natCast, List.drop_left' rfl] at u5s
      have ldl : dLoad tab g ty113 (.ptr (h.length + 1) 0 (0 + 2)) = some ld := by rw [ldp113, row_of a3]; rfl
      have hlit : pLitF tab ty113 1 [0] [.agg (itr j)] = some (.sl 11 true [itr j]) := id rfl
      have hll : its'.length = m := by have := congrArg List.length hri; simp [-Option.bind_some] at this; omega
      have w1 : IntKind.wrap .u32 (((its.length - m : Nat) : Int) - 1) = ((its.length - (m + 1) : Nat) : Int) := by rw [wrap_u32 (by omega) (by omega)]; omega
      simp only [c1, decide_true, gd_bool, if_true, lens22 hr, bs, dBin_gtr, c2, dPick_bool, dIf_bool, ej, dExtract_tup, List.getElem?_cons_zero, List.getElem?_cons_succ, boxIt, ldIt, dBin_neq, ne_eq, not_true, decide_false, Bool.false_eq_true, if_false, fap1064_2, ldl, hlit, Option.bind_assoc]
      have hgl : h.length + 2 ≤ g.length := (List.getElem?_eq_some_iff.1 a3).1
      refine wap113 (ys := [itr j]) hgl ow (rowsOf_sl _ _ _ _) (by simp [-Option.bind_some]; omega) fun ld2 g3 ow3 len3 bel3 old3 _ => ?_
      have a4 : g3[h.length + 1]? = some (.row ty1064 3 [batx hs nu ld]) := by rw [bel3 _ (by omega)]; exact a3
      simp only [bs, e5]
      refine wst113 (kk := 0) (row := batx hs nu ld) a4 (by rfl) (by rw [(one_cells (own_one ow3)).1]; rfl) (by simp [-Option.bind_some, batx]) (one_cells (own_one ow3)).2 fun g4 a5 u4s => ?_
      rw [(one_cells (own_one ow3)).1] at a5
      have a5 : g4[h.length + 1]? = some (.row ty1064 3 [batx hs nu ld2]) := a5
      simp only [bs, dBin_sub, w1]
      refine .some (.inl ⟨rfl, k - 1, by omega, _, _, _, _, _, _, m + 1, ld2, its' ++ [j], rfl, by omega, by rw [← hr0]; exact u5s, ?_, a5, ?_, ?_, fun q hq => ?_⟩)
      · rw [u4s.2 _ (by omega), bel3 _ (by omega)]; exact b3
      · rw [List.map_append]
        exact ow3.keep fun q hq hx => u4s.2 q (by omega)
      · rw [List.map_append, hri, List.take_add_one, hi]
        simp [-Option.bind_some, hj]
      · rw [u4s.2 q (by omega), bel3 q (by omega)]; exact k3 q hq
    · have hm : m = its.length := by omega
      subst hm
      have c1 : ¬ ((its.length - its.length : Nat) : Int) > 0 := by omega
      simp only [c1, decide_false, gd_bool, Bool.false_eq_true, reduceCtorEq, if_false, bs, dPick_bool, dIf_bool, gd_und]
      rw [List.take_length] at hri
      exact .some (.inr ⟨by simp [-Option.bind_some], rfl, ⟨_, _, _, _, _, _, _, _, rfl⟩, ld, its', b3, a3, ow, hri, k3⟩)
  · rintro ⟨ex, ds, g⟩ ⟨rfl, ⟨v0, v1, v2, v3, v4, v5, v6, v7, rfl⟩, ld, its', b3, a3, ow, hri, k3⟩
    have b3 : g[h.length]? = some (.row ty1064 3 [[.int .i64 0, .int .i64 0, .nils]]) := b3
    have a3 : g[h.length + 1]? = some (.row ty1064 3 [batx hs nu ld]) := a3
    have ow : Own g (h.length + 2) ty74 11 (its'.map itr) ld := ow
    have k3 : ∀ q, q < h.length → g[q]? = h[q]? := k3
    have hll : its'.length = its.length := by have := congrArg List.length hri; simpa [-Option.bind_some] using this
    have hit' : ∀ i ∈ its', RG hs i := fun j hj => by
      obtain ⟨n, hn⟩ := List.getElem?_of_mem hj
      obtain ⟨i, hi⟩ : ∃ i, its[n]? = some i := ⟨_, List.getElem?_eq_getElem (by have := (List.getElem?_eq_some_iff.1 hn).1; omega)⟩
      exact (ri_cong (ri_get hri hn hi).symm).2.2.1 _ (hit i (List.mem_of_getElem? hi))
    have ldb : dLoad tab g ty1064 (.ptr (h.length + 1) 0 0) = some (.agg (batx hs nu ld)) := by rw [ldp1064, row_of a3]; rfl
    obtain ⟨dz, ez, sz⟩ := s1158r hs nu its' ld g (.inr ⟨_, ow⟩) (by omega) hit'
    rw [batZ_cong hri] at sz
    have eb := s1164 _ dz dp g sz hp
    simp only [unblk_self, toEnd_nrm, bs, Option.bind_assoc, l0, ldb, ez, dExtract_tup, List.getElem?_cons_zero, List.getElem?_cons_succ, dBin_neq, ne_eq, not_true, decide_false, gd_bool, gdW_bool, if_true, eb, dUn_not, Bool.not_true, dPick_bool, Bool.false_eq_true, if_false, dIf_bool]
    have hgl : h.length ≤ g.length := by have := (List.getElem?_eq_some_iff.1 a3).1; omega
    have hok : (D.agg (batx hs nu ld)).okv = true := by
      have h1 := own_one ow
      rcases ow with ⟨rfl, _⟩ | ⟨_, _, rfl, _⟩ <;> rfl
    refine wst1064 (kk := 0) (off := 0) (row := [.int .i64 0, .int .i64 0, .nils]) (v := .agg (batx hs nu ld)) b3 (by rfl) (by rfl) (by exact Nat.le_refl _) hok fun g5 b5 u5s => ?_
    have b5 : g5[h.length]? = some (.row ty1064 3 [batx hs nu ld]) := b5
    have ld5 : dLoad tab g5 ty1064 (.ptr h.length 0 0) = some (.agg (batx hs nu ld)) := by rw [ldp1064, row_of b5]; rfl
    have ow5 : Own g5 (h.length + 2) ty74 11 (its'.map itr) ld := ow.keep fun q hq _ => u5s.2 q (by omega)
    have hsl := own_sl (n0 := h.length) (n := 1) ow5 (by omega) (fun a _ => itr_frz _ g5 0 a)
    simp only [ld5, bs, mkRes_two]
    rw [scope_eq (d' := .tup [.agg (batx hs nu (frz h.length g5 2 ld)), .int .i64 0]) rfl (by
      refine .tup _ fun d hd => ?_
      simp [-Option.bind_some] at hd
      rcases hd with rfl | rfl
      · refine .agg _ fun d hd => ?_
        simp [-Option.bind_some, batx] at hd
        rcases hd with rfl | rfl | rfl
        · constructor
        · constructor
        · exact slof_ok hsl fun a _ => itr_oks _ a
      · constructor) (by rw [u5s.1]; exact hgl) (fun q hq => by rw [u5s.2 q (by omega)]; exact k3 q hq)]
    exact .some ⟨rfl, _, its', rfl, hsl, hri⟩
/-- The batches drawn. -/
theorem s1105b (zs : List Int) (d : D) (h : Hp) (hd : Given .u8 zs d) (hz : ∀ z ∈ zs, 0 ≤ z ∧ z < 256) : ∃ x w dw h', R fn1105 [d] h = some (.tup [x, dw], h') ∧ h.length ≤ h'.length ∧ SlOf 1 byr w dw ∧ ∃ A : List Bat, SlOf 3 batr A x ∧ A.length ≤ 24 ∧ ∀ b ∈ A, BatOK 1 b := by
  suffices Wp (R fn1105 [d] h) (fun p => ∃ x w dw, p.1 = .tup [x, dw] ∧ h.length ≤ p.2.length ∧ SlOf 1 byr w dw ∧ ∃ A : List Bat, SlOf 3 batr A x ∧ A.length ≤ 24 ∧ ∀ b ∈ A, BatOK 1 b) by
    obtain ⟨⟨y, h'⟩, h1, x, w, dw, rfl, h2⟩ := this
    exact ⟨x, w, dw, h', h1, h2⟩
  rw [e1105]
  simp only [F1105, bs, Option.bind_assoc]
  obtain ⟨h0, e0, c0, hl0⟩ := d44 zs d 400 h hd (by omega) (by omega) hz
  refine Wp.step e0 ?_
  simp only [bs]
  obtain ⟨da, h1, ea, ca, sa, A, hA, hA1, hA2, hAb⟩ := d1088 c0 1 5 (by omega) (by omega) (by omega) (by omega)
  refine Wp.step ea ?_
  simp only [bs]
  refine Wp.loop (fun k ds g => g = h1 ∧ ∃ dj x, ∃ n : Nat, ∃ ps : List (List Int), ds = [dj, .int .i64 n, x] ∧ k + n = A.length ∧ SlOf 1 byr (jour ps) dj ∧ (∀ p ∈ ps, PayOK p) ∧ (jour ps).length ≤ n * 100100)
    (fun r => r.1 = .ext 0 ∧ r.2.2 = h1 ∧ ∃ dj x y, ∃ ps : List (List Int), r.2.1 = [dj, x, y] ∧ SlOf 1 byr (jour ps) dj ∧ (∀ p ∈ ps, PayOK p) ∧ (jour ps).length ≤ 3000000) A.length ⟨rfl, _, _, 0, [], rfl, rfl, .nils _ _, by simp [-Option.bind_some], by simp [-Option.bind_some, jour]⟩ ?_ ?_
  · rintro k ds g ⟨rfl, dj, x, n, ps, rfl, hk, hj, hp, hl⟩
    simp only [F1105_L0, nth_zero, nth_succ, bs, Option.bind_assoc, lens1059 hA, dBin_lss]
    refine Wp.dif ?_ ?_
    · intro h0
      have h0 : n < A.length := by have : (n : Int) < A.length := by simpa [-Option.bind_some] using h0
                                   omega
      obtain ⟨b, hi⟩ : ∃ b, A[n]? = some b := ⟨_, List.getElem?_eq_getElem h0⟩
      have hb := hAb b (List.mem_of_getElem? hi)
      have hw : IntKind.wrap .i64 ((n : Int) + 1) = ((n + 1 : Nat) : Int) := by
        rw [wrap_i64 (by omega) (by omega)]; omega
      have hii : dIndexAddr tab ty1059 da (.int .i64 (n : Int)) = some (.fptr (batr b)) := by rw [ixs1059 hA]; simp [-Option.bind_some, hi]
      have lb : ∀ g, dLoad tab g ty1064 (.fptr (batr b)) = some (.agg (batr b)) := fun g => id rfl
      have hn24 : n * 100100 ≤ 24 * 100100 := Nat.mul_le_mul_right _ (by omega)
      obtain ⟨d', e1, hd'⟩ := s1109 1 b hb (jour ps) dj g hj (by omega)
      have hBl := batB_len hb
      rw [← jour_snoc] at hd'
      simp only [hii, lb, e1, bs, dExtract_tup, List.getElem?_cons_zero, List.getElem?_cons_succ, dBin_add, hw]
      refine .some (.inl ⟨rfl, k - 1, by omega, rfl, _, _, n + 1, ps ++ [batB b], rfl, by omega, hd', fun p hp' => ?_, ?_⟩)
      · rcases List.mem_append.1 hp' with hp' | hp'
        · exact hp p hp'
        · simp [-Option.bind_some] at hp'
          subst hp'
          exact ⟨by omega, by omega, batB_u8 b⟩
      · rw [jour_snoc, List.length_append, rec_len, Nat.succ_mul]
        omega
    · intro h0
      have hn24 : n * 100100 ≤ 24 * 100100 := Nat.mul_le_mul_right _ (by omega)
      exact .some (.inr ⟨by simp [-Option.bind_some], rfl, rfl, _, _, _, ps, rfl, hj, hp, by omega⟩)
  · rintro ⟨ex, ds, g⟩ ⟨rfl, q2, dj, x, y, ps, rfl, q3, q4, q5⟩
    simp only at q2
    subst q2
    simp only [unblk_self, toEnd_nrm, bs, nth_zero, mkRes_two]
    have hgl := sa.1
    exact .some ⟨_, _, _, rfl, show h.length ≤ g.length by omega, q3, A, hA, hA2, hAb⟩
theorem chain_i64 : ∀ (ls : List Lin) (a b : Int), chain a ls b → 0 ≤ a → b ≤ 1000000 → ∀ l ∈ ls, LnR l
  | [], a, b, _, _, _, l, hl => by cases hl
  | x :: r, a, b, h, h0, h1, l, hl => by
    obtain ⟨g1, g2, g3, g4, g5⟩ := h
    have hle := chain_le r _ _ g5
    rcases List.mem_cons.1 hl with rfl | hl
    · exact ⟨by unfold I64; omega, by unfold I64; omega, by omega⟩
    · exact chain_i64 r _ _ g5 (by omega) h1 l hl
theorem rg_of {host : Int} {i : It} (h : BIt host i) : RG host i := by
  have hn := h.n6
  have hf := h.fs
  have pl : PlOK i.e := by
    rcases h.good with ⟨_, g⟩ | g
    · exact g.pl
    · exact g.pl
  have h1 := pl.h0; have h2 := pl.h9; have h3 := pl.f0; have h4 := pl.f9; have h5 := pl.a0; have h6 := pl.ab; have h7 := pl.b9
  have hr : i.r.length ≤ 32 ∧ i.e.s7.length ≤ 32 ∧ i.e.s8.length ≤ 32 ∧ I64 i.e.a5 ∧ I64 i.e.a6 ∧ ∀ p ∈ i.e.fs, p.1.length < 4294967296 ∧ p.2.length < 4294967296 := by
    rcases h.good with ⟨hr, g⟩ | g
    · have t0 := g.t0; have t9 := g.t9; have w1 := g.w1; have w2 := g.w2
      exact ⟨by rw [hr]; simp [-Option.bind_some], g.tr, g.st, by unfold I64; omega, by unfold I64; omega, fun p hp => ⟨by have := (g.fn p hp).2; omega, by have := g.fv p hp; omega⟩⟩
    · have t0 := g.tm; have w0 := g.w0
      exact ⟨g.r3, by rw [g.tr]; simp [-Option.bind_some], by rw [g.st]; simp [-Option.bind_some], by unfold I64; omega, by unfold I64; omega, fun p hp => by rw [g.fs] at hp; cases hp⟩
  obtain ⟨r1, r2, r3, r4, r5, r6⟩ := hr
  have hst : (i.r == ([42] : Str)) = false := by
    rcases h.rule with hr | hr
    · rw [hr]; rfl
    · have := lt98_4_dup _ hr
      simpa [-Option.bind_some] using this
  exact ⟨by omega, good_itE h.good, h.host, hst, bit_len h, ⟨by omega, by unfold I64; omega, by unfold I64; omega, by unfold I64; omega, by unfold I64; omega, by omega, chain_i64 _ _ _ h.ch h5 (by omega), r4, r5, by omega, by omega, by omega, r6⟩⟩
theorem rd_whole (ps : List (List Int)) (hps : ∀ p ∈ ps, PayOK p) : rd (jour ps) = (ps, (jour ps).length) := by
  have h1 := rd_jour ps hps []
  rw [List.append_nil, rd_stop (r := []) (.inl (by simp [-Option.bind_some]))] at h1
  rw [h1]
  simp [-Option.bind_some]
theorem boxB (hs nu : Int) (d : D) : boxN 3 (.agg (batx hs nu d)) = some (.fptr (batx hs nu d)) := boxN_agg 3 _ rfl
theorem ldB (b : Bat) (g : Hp) : dLoad tab g ty1064 (.fptr (batr b)) = some (.agg (batx b.hs b.nu b.d)) := id rfl
theorem law1157 (zs : List Int) (d : D) (hd : Given .u8 zs d) (hz : ∀ z ∈ zs, 0 ≤ z ∧ z < 256) : ∃ h', R fn1157 [d] [] = some (.bool true, h') := by
  suffices Wp (R fn1157 [d] []) (fun p => p.1 = .bool true) by
    obtain ⟨⟨x, h'⟩, h1, rfl⟩ := this
    exact ⟨h', h1⟩
  rw [e1157]
  simp only [F1157, bs, s1023o, dUn_not, Bool.not_true, dIf_bool, Bool.false_eq_true, if_false, Option.bind_assoc]
  obtain ⟨x, w, dw, g0, e0, hg0, hw, A, hA, hA2, hAb⟩ := s1105b zs d [] hd hz
  refine Wp.step e0 ?_
  simp only [bs, dExtract_tup, List.getElem?_cons_zero, List.getElem?_cons_succ, Option.bind_assoc]
  have hpay : ∀ p ∈ A.map batB, PayOK p := fun p hp => by
    obtain ⟨b, hb, rfl⟩ := List.mem_map.1 hp
    have := batB_len (hAb b hb)
    exact ⟨by omega, by omega, batB_u8 b⟩
  refine Wp.loop (fun k ds g => g = g0 ∧ ∃ a0 dj a3 a4 a5 a6 a7 a8 a9 b1, ∃ n : Nat, ds = [a0, dj, .int .i64 n, a3, a4, a5, a6, a7, a8, a9, b1] ∧ k + n = A.length ∧ SlOf 1 byr (jour ((A.take n).map batB)) dj ∧ (jour ((A.take n).map batB)).length ≤ n * 100100)
    (fun r => r.1 = .ext 0 ∧ r.2.2 = g0 ∧ ∃ a0 dj a2 a3 a4 a5 a6 a7 a8 a9 b1, r.2.1 = [a0, dj, a2, a3, a4, a5, a6, a7, a8, a9, b1] ∧ SlOf 1 byr (jour (A.map batB)) dj ∧ (jour (A.map batB)).length ≤ 3000000) A.length ⟨rfl, _, _, _, _, _, _, _, _, _, _, 0, rfl, rfl, .nils _ _, by simp [-Option.bind_some, jour]⟩ ?_ ?_
  · rintro k ds g ⟨rfl, a0, dj, a3, a4, a5, a6, a7, a8, a9, b1, n, rfl, hk, hj, hjl⟩
    simp only [F1157_L0, nth_zero, nth_succ, bs, Option.bind_assoc, lens1059 hA, dBin_lss]
    refine Wp.dif ?_ ?_
    · intro h0
      have h0 : n < A.length := by have : (n : Int) < A.length := by simpa [-Option.bind_some] using h0
                                   omega
      obtain ⟨b, hi⟩ : ∃ b, A[n]? = some b := ⟨_, List.getElem?_eq_getElem h0⟩
      have hb := hAb b (List.mem_of_getElem? hi)
      have hw : IntKind.wrap .i64 ((n : Int) + 1) = ((n + 1 : Nat) : Int) := by
        rw [wrap_i64 (by omega) (by omega)]; omega
      have hii : dIndexAddr tab ty1059 x (.int .i64 (n : Int)) = some (.fptr (batr b)) := by rw [ixs1059 hA]; simp [-Option.bind_some, hi]
      have hn24 : n * 100100 ≤ 24 * 100100 := Nat.mul_le_mul_right _ (by omega)
      have hn3 := hb.n3
      have hrg : ∀ i ∈ b.its, RG b.hs i := fun i hi => by rw [hb.hs]; exact rg_of (hb.it i hi)
      have hnu0 := hb.nu0
      have hnu9 := hb.nu9
      have hhs := hb.hs
      obtain ⟨d1, e1, q1⟩ := s1158r b.hs b.nu b.its b.d g (.inl b.hd) (by omega) hrg
      obtain ⟨d2, its2, e2, q2, q3⟩ := s1159 b.hs b.nu b.its d1 g q1 (by unfold I64; omega) (by unfold I64; omega) (by omega) hrg
      obtain ⟨d3, e3, q4⟩ := s1160 (jour ((A.take n).map batB)) b.hs b.nu b.its dj b.d g hj (by omega) (.inl b.hd) (by omega) hrg
      have hl2 : its2.length = b.its.length := by have := congrArg List.length q3; simpa [-Option.bind_some] using this
      have e4 := s1161 b.hs b.nu its2 b.its d2 b.d g q2 b.hd q3 (by omega)
      have hsn : jour ((A.take (n + 1)).map batB) = jour ((A.take n).map batB) ++ recOf (batZ b.hs b.nu b.its) := by
        rw [List.take_add_one, hi, Option.toList_some, List.map_append, List.map_cons, List.map_nil, jour_snoc, batB_Z]
      have hBl := batB_len hb
      rw [batB_Z] at hBl
      rw [← hsn] at q4
      simp only [hii, ldB, e1, e2, e3, bs, dExtract_tup, List.getElem?_cons_zero, List.getElem?_cons_succ, boxB, bxb, dBin_neq, ne_eq, not_true, decide_false, gd_bool, gdW_bool, if_true, e4, dUn_not, Bool.not_true, dPick_bool, Bool.false_eq_true, if_false, dIf_bool, dBin_add, hw]
      refine .some (.inl ⟨rfl, k - 1, by omega, rfl, _, _, _, _, _, _, _, _, _, _, n + 1, rfl, by omega, q4, ?_⟩)
      rw [hsn, List.length_append, rec_len, Nat.succ_mul]
      omega
    · intro h0
      have h0 : n = A.length := by have : ¬ (n : Int) < A.length := by simpa [-Option.bind_some] using h0
                                   omega
      subst h0
      rw [List.take_length] at hj hjl
      have hn24 : A.length * 100100 ≤ 24 * 100100 := Nat.mul_le_mul_right _ (by omega)
      exact .some (.inr ⟨by simp [-Option.bind_some], rfl, rfl, _, _, _, _, _, _, _, _, _, _, _, rfl, hj, by omega⟩)
  · rintro ⟨ex, ds, g⟩ ⟨rfl, u2, a0, dj, a2, a3, a4, a5, a6, a7, a8, a9, b1, rfl, hj, hjl⟩
    simp only at u2
    subst u2
    obtain ⟨xx, e6, qs, p1, p2, p3⟩ := s1106o _ dj g hj (by omega) (jour_u8 _ hpay)
    rw [rd_whole _ hpay] at e6 p1
    have hql : qs.length = A.length := by have := congrArg List.length p1; simpa [-Option.bind_some] using this
    simp only [unblk_self, toEnd_nrm, bs, nth_zero, nth_succ, Option.bind_assoc, e6, dExtract_tup, List.getElem?_cons_zero, List.getElem?_cons_succ, lens22 hj, dBin_neq, ne_eq, not_true, decide_false, gd_bool, if_true, lens1031 p2, lens1059 hA, hql, dPick_bool, Bool.false_eq_true, if_false, dIf_bool]
    refine Wp.loop (fun k ds g' => g' = g ∧ ∃ a0 a2 a3 a4 a5, ∃ n : Nat, ds = [a0, .int .i64 n, a2, a3, a4, a5] ∧ k + n = A.length)
      (fun r => r.1 = .ext 2 ∧ r.2.2 = g) A.length ⟨rfl, _, _, _, _, _, 0, rfl, rfl⟩ ?_ ?_
    · rintro k ds g' ⟨rfl, a0, a2, a3, a4, a5, n, rfl, hk⟩
      simp only [F1157_L1, nth_zero, nth_succ, bs, Option.bind_assoc, lens1031 p2, hql, dBin_lss]
      refine Wp.dif ?_ ?_
      · intro h0
        have h0 : n < A.length := by have : (n : Int) < A.length := by simpa [-Option.bind_some] using h0
                                     omega
        obtain ⟨b, hi⟩ : ∃ b, A[n]? = some b := ⟨_, List.getElem?_eq_getElem h0⟩
        obtain ⟨q, hq⟩ : ∃ q, qs[n]? = some q := ⟨_, List.getElem?_eq_getElem (by omega)⟩
        have hqb : q.1 = batZ b.hs b.nu b.its := by
          have := congrArg (fun l => l[n]?) p1
          simpa [-Option.bind_some, List.getElem?_map, hq, hi, batB_Z] using this
        have hb := hAb b (List.mem_of_getElem? hi)
        have hw : IntKind.wrap .i64 ((n : Int) + 1) = ((n + 1 : Nat) : Int) := by
          rw [wrap_i64 (by omega) (by omega)]; omega
        have hii : dIndexAddr tab ty1059 x (.int .i64 (n : Int)) = some (.fptr (batr b)) := by rw [ixs1059 hA]; simp [-Option.bind_some, hi]
        have hjj : dIndexAddr tab ty1031 xx (.int .i64 (n : Int)) = some (.fptr [q.2]) := by rw [ixs1031 p2]; simp [-Option.bind_some, hq]
        have hn3 := hb.n3
        have hrg : ∀ i ∈ b.its, RG b.hs i := fun i hi => by rw [hb.hs]; exact rg_of (hb.it i hi)
        have hnu0 := hb.nu0
        have hnu9 := hb.nu9
        have hhs := hb.hs
        have hqs := p3 q (List.mem_of_getElem? hq)
        rw [hqb] at hqs
        obtain ⟨d2, its2, e2, q2, q3⟩ := s1159 b.hs b.nu b.its q.2 g' hqs (by unfold I64; omega) (by unfold I64; omega) (by omega) hrg
        have hl2 : its2.length = b.its.length := by have := congrArg List.length q3; simpa [-Option.bind_some] using this
        have e4 := s1161 b.hs b.nu its2 b.its d2 b.d g' q2 b.hd q3 (by omega)
        simp only [hjj, parts_ld, hii, ldB, e2, bs, dExtract_tup, List.getElem?_cons_zero, List.getElem?_cons_succ, boxB, bxb, dBin_neq, ne_eq, not_true, decide_false, gd_bool, gdW_bool, if_true, e4, dUn_not, Bool.not_true, dPick_bool, Bool.false_eq_true, if_false, dIf_bool, dBin_add, hw]
        exact .some (.inl ⟨rfl, k - 1, by omega, rfl, _, _, _, _, _, n + 1, rfl, by omega⟩)
      · intro h0
        exact .some (.inr ⟨by simp [-Option.bind_some], rfl, rfl⟩)
    · rintro ⟨ex, ds, g'⟩ ⟨r1, r2⟩
      simp only at r1 r2
      subst r1; subst r2
      simp only [unblk_self, toEnd_nrm, bs, mkRes_one]
      exact .some rfl
end Go.Proofs.YtjhmicmbbgkhpaaDoor
