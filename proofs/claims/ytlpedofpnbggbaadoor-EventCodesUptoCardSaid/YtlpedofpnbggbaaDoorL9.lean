/- Laws, on plain data, about functions that the statement reaches. -/
import Derived.Test.YtlpedofpnbggbaaDoorL8
set_option linter.unusedSimpArgs false
set_option linter.unusedVariables false
set_option linter.unnecessarySimpa false
set_option maxRecDepth 100000
namespace Go.Proofs.YtlpedofpnbggbaaDoor
open Go.Eng Go.Pi
open Option (bind_some)
theorem s1137 {B : List Int} {d x : D} {s : Cur} (h : Hp) (hd : SlOf 1 byr B d) (hB : B.length ≤ 1000000000) (hu : ∀ z ∈ B, U8 z) (hx : RdS B d s x) (n : Nat) (hn : n ≤ 8) : ∃ x', R fn1137 [x, .int .i64 n] h = some (.tup [x', .int .u64 (num (takeS s n).1)], h) ∧ RdS B d (takeS s n).2 x' := by
  suffices Wp (R fn1137 [x, .int .i64 n] h) (fun p => p.2 = h ∧ ∃ x', p.1 = .tup [x', .int .u64 (num (takeS s n).1)] ∧ RdS B d (takeS s n).2 x') by
    obtain ⟨⟨y, h'⟩, h1, rfl, x', rfl, h2⟩ := this
    exact ⟨x', h1, h2⟩
  obtain ⟨a, rfl, ha, hs⟩ := hx
  have hl0 : (dNew h ty1108 3 [[d, .int .i64 a, .bool (!s.2)]]).length = h.length + 1 := by simp [-bind_some, dNew]
  have M := M2.new h ty1108 3 ty1108 3 [d, .int .i64 a, .bool (!s.2)] [.nils, .int .i64 0, .bool false]
  rw [e1137]
  simp only [F1137, wBox_agg ty1108 3 h [d, .int .i64 a, .bool (!s.2)] rfl (by omega), bs, Option.bind_assoc, hl0]
  generalize dNew (dNew h ty1108 3 [[d, .int .i64 a, .bool (!s.2)]]) ty1108 3 [[.nils, .int .i64 0, .bool false]] = g at *
  obtain ⟨l0, l1, l2, l3⟩ := rd_ld M.ha
  have wl : IntKind.wrap .i64 ((B.length : Int) - a) = (B.length : Int) - a := wrap_i64 (by omega) (by omega)
  have hsl : (s.1.length : Int) = (B.length : Int) - a := by rw [← hs]; simp [-bind_some]; omega
  simp only [fap1108_0, fap1108_1, fap1108_2, l2, dUn_not, bs, Bool.not_not]
  have bad : ∀ b : Bool, s = (s.1, b) → ((takeS s n).1 = [] ∧ (takeS s n).2 = (s.1, true)) → Wp ((dStore tab g ty4 (.ptr h.length 0 (0 + 2)) (.bool false)).bind fun h' => (dLoad tab h' ty1108 (.ptr h.length 0 0)).bind fun t22 => (dStore tab h' ty1108 (.ptr (h.length + 1) 0 0) t22).bind fun h' => (dLoad tab h' ty1108 (.ptr (h.length + 1) 0 0)).bind fun d => scope h h' (mkRes [d, .int .u64 0])) (fun p => p.2 = h ∧ ∃ x', p.1 = .tup [x', .int .u64 (num (takeS s n).1)] ∧ RdS B d (takeS s n).2 x') := by
    intro b _ ⟨t1, t2⟩
    refine rd_stok M.ha fun g1 p1 s1 => ?_
    have M1 := M.sta p1 s1
    simp only [(rd_ld M1.ha).2.2.2, bs]
    refine rd_st M1.hb fun g2 p2 s2 => ?_
    have M2' := M1.stb p2 s2
    simp only [(rd_ld M2'.hb).2.2.2, bs, mkRes_two]
    rw [rd_end hd (by simp) (by constructor) (by have := M2'.hl; omega) M2'.lo]
    exact .some ⟨rfl, _, by rw [t1]; rfl, a, by rw [t2]; rfl, ha, by rw [t2]; exact hs⟩
  cases hb : s.2 with
  | true =>
    simp only [gd_bool, if_true, reduceCtorEq, Bool.true_eq_false, if_false, bs, dPick_bool, dIf_bool, Bool.not_true, Bool.not_false]
    have ht : takeS s n = ([], (s.1, true)) := by unfold takeS; rw [if_pos (.inl hb)]
    exact bad true (by rw [← hb]) ⟨by rw [ht], by rw [ht]⟩
  | false =>
    simp only [gd_bool, if_true, l0, l1, lens22 hd, dBin_sub, wl, dBin_lss, bs, dPick_bool, dIf_bool, Bool.not_true, Bool.not_false, Bool.false_eq_true, if_false]
    by_cases hsh : (B.length : Int) - a < n
    · simp only [hsh, decide_true, if_true]
      have ht : takeS s n = ([], (s.1, true)) := by unfold takeS; rw [if_pos (.inr (.inr (by omega)))]
      exact bad false (by rw [← hb]) ⟨by rw [ht], by rw [ht]⟩
    · simp only [hsh, decide_false, Bool.false_eq_true, if_false]
      have ht : takeS s n = (s.1.take n, (s.1.drop n, false)) := by unfold takeS; rw [if_neg (by rw [hb]; simp [-bind_some]; omega), Int.toNat_natCast]
      rw [ht]
      have hln : n ≤ s.1.length := by omega
      refine Wp.loop (fun k ds g' => g' = g ∧ ∃ y, ∃ i : Nat, ds = [.int .u64 (num (s.1.take i)), .int .i64 i, y] ∧ k + i = n) (fun r => r.1 = .ext 0 ∧ r.2.2 = g ∧ ∃ y z, r.2.1 = [.int .u64 (num (s.1.take n)), y, z]) n ⟨rfl, _, 0, rfl, rfl⟩ ?_ ?_
      · rintro k ds g' ⟨rfl, y, i, rfl, hk⟩
        simp only [F1137_L0, nth_zero, nth_succ, bs, Option.bind_assoc, dBin_lss]
        refine Wp.dif ?_ ?_
        · intro h0
          have h0 : i < n := by have : (i : Int) < n := by simpa using h0
                                omega
          obtain ⟨z, hz⟩ : ∃ z, s.1[i]? = some z := ⟨_, List.getElem?_eq_getElem (by omega)⟩
          have hzB : B[a + i]? = some z := by rw [← hs, List.getElem?_drop] at hz; exact hz
          have hzu := hu z (List.mem_of_getElem? hzB)
          have hw : IntKind.wrap .i64 ((i : Int) + 1) = ((i + 1 : Nat) : Int) := by
            rw [wrap_i64 (by omega) (by omega)]; omega
          have hw2 : IntKind.wrap .i64 ((a : Int) + (i : Int)) = ((a + i : Nat) : Int) := by
            rw [wrap_i64 (by omega) (by omega)]; omega
          unfold U8 at hzu
          have hus : ∀ z ∈ s.1, U8 z := fun z hz => hu z (by rw [← hs] at hz; exact List.mem_of_mem_drop hz)
          obtain ⟨hn0, hn1⟩ := num_range i (s.1.take i) (by simp; omega) fun z hz => hus z (List.mem_of_mem_take hz)
          have hb : num (s.1.take i) < 72057594037927936 := by
            have : i = 0 ∨ i = 1 ∨ i = 2 ∨ i = 3 ∨ i = 4 ∨ i = 5 ∨ i = 6 ∨ i = 7 := by omega
            rcases this with rfl | rfl | rfl | rfl | rfl | rfl | rfl | rfl <;> omega
          have m3 : min ((8 : Int).toNat) IntKind.u64.bits = 8 := by decide
          have p3 : (2 : Int) ^ 8 = 256 := by decide
          have w1 : IntKind.wrap .u64 (num (s.1.take i) * 2 ^ 8) = num (s.1.take i) * 2 ^ 8 := by rw [p3]; exact wrap_u64 (by omega) (by omega)
          have w2 : IntKind.wrap .u64 z = z := wrap_u64 (by omega) (by omega)
          have w3 := or_u64 (x := num (s.1.take i)) (b := z) 8 hn0 (by omega) (by rw [p3]; omega) (by rw [p3]; omega)
          have hii0 : ∀ m : Nat, B[m]? = some z → dIndexAddr tab ty22 d (.int .i64 (m : Int)) = some (.fptr (byr z)) := fun m hm => by rw [ixs22 hd]; simp [-bind_some, hm]
          have hii := hii0 _ hzB
          rw [p3, ← num_take hz] at w3
          rw [p3] at w1
          simp only [fap1108_0, fap1108_1, l0, l1, dBin_add, hw2, hii, byr_ld, bs, dBin_shl, show ¬ (8 : Int) < 0 by omega, if_false, m3, p3, w1, cv5_1029, w2, dBin_or, w3, hw]
          exact .some (.inl ⟨rfl, k - 1, by omega, rfl, _, i + 1, rfl, by omega⟩)
        · intro h0
          have h0 : i = n := by have : ¬ (i : Int) < n := by simpa using h0
                                omega
          subst h0
          exact .some (.inr ⟨by simp, rfl, rfl, _, _, rfl⟩)
      · rintro ⟨ex, ds, g'⟩ ⟨rfl, q2, y, z, rfl⟩
        simp only at q2
        subst q2
        have hw2 : IntKind.wrap .i64 ((a : Int) + (n : Int)) = ((a + n : Nat) : Int) := by
          rw [wrap_i64 (by omega) (by omega)]; omega
        simp only [unblk_self, toEnd_nrm, bs, nth_zero, fap1108_1, l1, dBin_add, hw2]
        refine rd_stat M.ha fun g1 p1 s1 => ?_
        have M1 := M.sta p1 s1
        simp only [(rd_ld M1.ha).2.2.2, bs]
        refine rd_st M1.hb fun g2 p2 s2 => ?_
        have M2' := M1.stb p2 s2
        simp only [(rd_ld M2'.hb).2.2.2, bs, mkRes_two]
        rw [rd_end hd (by simp) (by constructor) (by have := M2'.hl; omega) M2'.lo]
        exact .some ⟨rfl, _, rfl, a + n, by rw [hb], by omega, by rw [← hs, List.drop_drop]⟩
theorem s1139 {B : List Int} {d x : D} {s : Cur} (h : Hp) (hd : SlOf 1 byr B d) (hB : B.length ≤ 1000000000) (hu : ∀ z ∈ B, U8 z) (hx : RdS B d s x) : ∃ x', R fn1139 [x] h = some (.tup [x', .int .i64 (numS s).1], h) ∧ RdS B d (numS s).2 x' := by
  suffices Wp (R fn1139 [x] h) (fun p => p.2 = h ∧ ∃ x', p.1 = .tup [x', .int .i64 (numS s).1] ∧ RdS B d (numS s).2 x') by
    obtain ⟨⟨y, h'⟩, h1, rfl, x', rfl, h2⟩ := this
    exact ⟨x', h1, h2⟩
  have hx0 := hx
  obtain ⟨a, rfl, ha, hs⟩ := hx
  have hl0 : (dNew h ty1108 3 [[d, .int .i64 a, .bool (!s.2)]]).length = h.length + 1 := by simp [-bind_some, dNew]
  have M := M2.new h ty1108 3 ty1108 3 [d, .int .i64 a, .bool (!s.2)] [.nils, .int .i64 0, .bool false]
  rw [e1139]
  simp only [F1139, wBox_agg ty1108 3 h [d, .int .i64 a, .bool (!s.2)] rfl (by omega), bs, Option.bind_assoc, hl0]
  generalize dNew (dNew h ty1108 3 [[d, .int .i64 a, .bool (!s.2)]]) ty1108 3 [[.nils, .int .i64 0, .bool false]] = g at *
  obtain ⟨l0, l1, l2, l3⟩ := rd_ld M.ha
  obtain ⟨x1, e1, r1⟩ := s1137 g hd hB hu hx0 8 (by omega)
  obtain ⟨a1, rfl, ha1, hs1⟩ := r1
  have e1 : R fn1137 [.agg [d, .int .i64 a, .bool (!s.2)], .int .i64 8] g = _ := e1
  simp only [l3, bs, e1, dExtract_tup, List.getElem?_cons_zero, List.getElem?_cons_succ]
  refine rd_st M.ha fun g1 p1 s1 => ?_
  have M1 := M.sta p1 s1
  simp only [(rd_ld M1.ha).2.2.2, cv1029_3, bs]
  refine rd_st M1.hb fun g2 p2 s2 => ?_
  have M2' := M1.stb p2 s2
  simp only [(rd_ld M2'.hb).2.2.2, bs, mkRes_two]
  rw [rd_end hd (by simp) (by constructor) (by have := M2'.hl; omega) M2'.lo]
  exact .some ⟨rfl, _, rfl, a1, rfl, ha1, hs1⟩
theorem lenS_num {s : Cur} (hu : ∀ z ∈ s.1, U8 z) : (lenS s).1 = num (takeS s 4).1 ∧ 0 ≤ num (takeS s 4).1 ∧ num (takeS s 4).1 < 4294967296 := by
  have h5 := takeS_u8 hu 4
  have hl : (takeS s 4).1.length ≤ 4 := takeS_len s 4
  obtain ⟨r0, r1⟩ := num_range _ _ rfl h5.1
  have r2 : num (takeS s 4).1 < 4294967296 := by
    have hc : (takeS s 4).1.length = 0 ∨ (takeS s 4).1.length = 1 ∨ (takeS s 4).1.length = 2 ∨ (takeS s 4).1.length = 3 ∨ (takeS s 4).1.length = 4 := by omega
    rcases hc with h | h | h | h | h <;> rw [h] at r1 <;> omega
  exact ⟨wrap_i64 (by omega) (by omega), r0, r2⟩
theorem s1138 {B : List Int} {d x : D} {s : Cur} (h : Hp) (hd : SlOf 1 byr B d) (hB : B.length ≤ 1000000000) (hu : ∀ z ∈ B, U8 z) (hx : RdS B d s x) : ∃ x', R fn1138 [x] h = some (.tup [x', .str ((textS s).1.getD [])], h) ∧ RdS B d (textS s).2 x' := by
  suffices Wp (R fn1138 [x] h) (fun p => p.2 = h ∧ ∃ x', p.1 = .tup [x', .str ((textS s).1.getD [])] ∧ RdS B d (textS s).2 x') by
    obtain ⟨⟨y, h'⟩, h1, rfl, x', rfl, h2⟩ := this
    exact ⟨x', h1, h2⟩
  have hx0 := hx
  obtain ⟨a, rfl, ha, hs⟩ := hx
  have hus : ∀ z ∈ s.1, U8 z := fun z hz => hu z (by rw [← hs] at hz; exact List.mem_of_mem_drop hz)
  have hl0 : (dNew h ty1108 3 [[d, .int .i64 a, .bool (!s.2)]]).length = h.length + 1 := by simp [-bind_some, dNew]
  have M := M2.new h ty1108 3 ty1108 3 [d, .int .i64 a, .bool (!s.2)] [.nils, .int .i64 0, .bool false]
  rw [e1138]
  simp only [F1138, wBox_agg ty1108 3 h [d, .int .i64 a, .bool (!s.2)] rfl (by omega), bs, Option.bind_assoc, hl0]
  generalize dNew (dNew h ty1108 3 [[d, .int .i64 a, .bool (!s.2)]]) ty1108 3 [[.nils, .int .i64 0, .bool false]] = g at *
  obtain ⟨l0, l1, l2, l3⟩ := rd_ld M.ha
  obtain ⟨x1, e1, r1⟩ := s1137 g hd hB hu hx0 4 (by omega)
  obtain ⟨a1, rfl, ha1, hs1⟩ := r1
  have e1 : R fn1137 [.agg [d, .int .i64 a, .bool (!s.2)], .int .i64 4] g = _ := e1
  obtain ⟨n1, n2, n3⟩ := lenS_num hus
  have hc4 : takeS s ((4 : Nat) : Int) = takeS s 4 := rfl
  rw [hc4] at e1 hs1
  have hc2 : (takeS s 4).2 = (lenS s).2 := rfl
  rw [hc2] at e1 hs1
  simp only [l3, bs, e1, dExtract_tup, List.getElem?_cons_zero, List.getElem?_cons_succ]
  rw [← n1] at n2 n3
  rw [← n1]
  refine rd_st M.ha fun g1 p1 s1 => ?_
  have M1 := M.sta p1 s1
  obtain ⟨k0, k1, k2, k3⟩ := rd_ld M1.ha
  unfold textS
  generalize (lenS s).2 = c at *
  generalize (lenS s).1 = N at *
  obtain ⟨n, rfl⟩ := Int.eq_ofNat_of_zero_le n2
  have wl : IntKind.wrap .i64 ((B.length : Int) - a1) = (B.length : Int) - a1 := wrap_i64 (by omega) (by omega)
  have wu : IntKind.wrap .u64 ((B.length : Int) - a1) = (B.length : Int) - a1 := wrap_u64 (by omega) (by omega)
  have wn : IntKind.wrap .i64 (n : Int) = (n : Int) := wrap_i64 (by omega) (by omega)
  have wan : IntKind.wrap .i64 ((a1 : Int) + (n : Int)) = ((a1 + n : Nat) : Int) := by
    rw [wrap_i64 (by omega) (by omega)]; omega
  have hsl : (c.1.length : Int) = (B.length : Int) - a1 := by rw [← hs1]; simp [-bind_some]; omega
  simp only [fap1108_0, fap1108_1, fap1108_2, k2, dUn_not, bs, Bool.not_not]
  have bad : takeS c n = ([], (c.1, true)) → Wp ((dStore tab g1 ty4 (.ptr h.length 0 (0 + 2)) (.bool false)).bind fun h' => (dLoad tab h' ty1108 (.ptr h.length 0 0)).bind fun t22 => (dStore tab h' ty1108 (.ptr (h.length + 1) 0 0) t22).bind fun h' => (dLoad tab h' ty1108 (.ptr (h.length + 1) 0 0)).bind fun d => scope h h' (mkRes [d, .str []])) (fun p => p.2 = h ∧ ∃ x', p.1 = .tup [x', .str ((if (takeS c n).2.2 = true then ((none : Option Str), (takeS c n).2) else (some (bys (takeS c n).1), (takeS c n).2)).1.getD [])] ∧ RdS B d (if (takeS c n).2.2 = true then ((none : Option Str), (takeS c n).2) else (some (bys (takeS c n).1), (takeS c n).2)).2 x') := by
    intro t1
    rw [t1]
    simp only [if_true]
    refine rd_stok M1.ha fun g2 p2 s2 => ?_
    have M2 := M1.sta p2 s2
    simp only [(rd_ld M2.ha).2.2.2, bs]
    refine rd_st M2.hb fun g3 p3 s3 => ?_
    have M3 := M2.stb p3 s3
    simp only [(rd_ld M3.hb).2.2.2, bs, mkRes_two]
    rw [rd_end hd (by simp) (by constructor) (by have := M3.hl; omega) M3.lo]
    exact .some ⟨rfl, _, rfl, a1, rfl, ha1, hs1⟩
  cases hb : c.2 with
  | true =>
    simp only [gd_bool, if_true, reduceCtorEq, Bool.true_eq_false, if_false, bs, dPick_bool, dIf_bool, Bool.not_true, Bool.not_false]
    have ht : takeS c n = ([], (c.1, true)) := by unfold takeS; rw [if_pos (.inl hb)]
    exact bad ht
  | false =>
    simp only [gd_bool, if_true, k0, k1, lens22 hd, dBin_sub, wl, cv3_1029, wu, dBin_gtr, bs, dPick_bool, dIf_bool, Bool.not_true, Bool.not_false, Bool.false_eq_true, if_false]
    by_cases hsh : (n : Int) > (B.length : Int) - a1
    · simp only [hsh, decide_true, if_true]
      have ht : takeS c n = ([], (c.1, true)) := by unfold takeS; rw [if_pos (.inr (.inr (by omega)))]
      exact bad ht
    · simp only [hsh, decide_false, Bool.false_eq_true, if_false]
      have ht : takeS c n = (c.1.take n, (c.1.drop n, false)) := by unfold takeS; rw [if_neg (by rw [hb]; simp [-bind_some]; omega), Int.toNat_natCast]
      rw [ht]
      obtain ⟨dc, ec, sc⟩ := cut2_by hd a1 (a1 + n) (by omega) (by omega)
      have lc : (B.take (a1 + n)).drop a1 = c.1.take n := by rw [← hs1, List.drop_take]; congr 1; omega
      rw [lc] at sc
      simp only [cv1029_3, wn, dBin_add, wan, ec, toStr_by sc, bs, Bool.false_eq_true, if_false]
      refine rd_stat M1.ha fun g2 p2 s2 => ?_
      have M2 := M1.sta p2 s2
      simp only [(rd_ld M2.ha).2.2.2, bs]
      refine rd_st M2.hb fun g3 p3 s3 => ?_
      have M3 := M2.stb p3 s3
      simp only [(rd_ld M3.hb).2.2.2, bs, mkRes_two]
      rw [rd_end hd (by simp) (by constructor) (by have := M3.hl; omega) M3.lo]
      exact .some ⟨rfl, _, rfl, a1 + n, by rw [hb], by omega, by rw [← hs1, List.drop_drop]⟩
def RdC (B : List Int) (d : D) (g : Hp) (o : Nat) (s : Cur) : Prop := ∃ n : Nat, g[o]? = some (.row ty1108 3 [[d, .int .i64 n, .bool (!s.2)]]) ∧ n ≤ B.length ∧ B.drop n = s.1
theorem RdC.keep {B : List Int} {d : D} {g g' : Hp} {o : Nat} {s : Cur} (C : RdC B d g o s) (h : g'[o]? = g[o]?) : RdC B d g' o s := by
  obtain ⟨n, h1, h2⟩ := C
  exact ⟨n, by rw [h]; exact h1, h2⟩
theorem RdC.lt {B : List Int} {d : D} {g : Hp} {o : Nat} {s : Cur} (C : RdC B d g o s) : o < g.length := by
  obtain ⟨n, h1, h2⟩ := C
  exact (List.getElem?_eq_some_iff.1 h1).1
theorem RdC.ok {B : List Int} {d : D} {g : Hp} {o : Nat} {s : Cur} (C : RdC B d g o s) : dLoad tab g ty4 (.ptr o 0 (0 + 2)) = some (.bool (!s.2)) := by
  obtain ⟨n, h1, h2⟩ := C
  exact (rd_ld h1).2.2.1
theorem RdC.all {B : List Int} {d : D} {g : Hp} {o : Nat} {s : Cur} (C : RdC B d g o s) : ∃ x, dLoad tab g ty1108 (.ptr o 0 0) = some x ∧ RdS B d s x := by
  obtain ⟨n, h1, h2⟩ := C
  exact ⟨_, (rd_ld h1).2.2.2, n, rfl, h2⟩
theorem RdC.st {B : List Int} {d x : D} {g : Hp} {o : Nat} {s s' : Cur} (C : RdC B d g o s) (hx : RdS B d s' x) {β : Type} {f : Hp → Option β} {Q : β → Prop} (k : ∀ g', RdC B d g' o s' → Same o g g' → Wp (f g') Q) : Wp ((dStore tab g ty1108 (.ptr o 0 0) x).bind f) Q := by
  obtain ⟨n, h1, h2⟩ := C
  obtain ⟨m, rfl, h3⟩ := hx
  exact rd_st h1 fun g' p s => k g' ⟨m, p, h3⟩ s
theorem rdI {B : List Int} {d : D} {g : Hp} {o : Nat} {s : Cur} (hd : SlOf 1 byr B d) (hB : B.length ≤ 1000000000) (hu : ∀ z ∈ B, U8 z) (C : RdC B d g o s) {β : Type} {f : D → Hp → Option β} {Q : β → Prop} (k : ∀ g', RdC B d g' o (numS s).2 → Same o g g' → Wp (f (.int .i64 (numS s).1) g') Q) :
    Wp ((dLoad tab g ty1108 (.ptr o 0 0)).bind fun t => (R fn1139 [t] g).bind fun p => (dExtract 0 p.1).bind fun a => (dExtract 1 p.1).bind fun b => (dStore tab p.2 ty1108 (.ptr o 0 0) a).bind fun g' => f b g') Q := by
  obtain ⟨x, l, r⟩ := C.all
  obtain ⟨x', e, r'⟩ := s1139 g hd hB hu r
  simp only [l, bs, e, dExtract_tup, List.getElem?_cons_zero, List.getElem?_cons_succ]
  exact C.st r' k
theorem rdT {B : List Int} {d : D} {g : Hp} {o : Nat} {s : Cur} (hd : SlOf 1 byr B d) (hB : B.length ≤ 1000000000) (hu : ∀ z ∈ B, U8 z) (C : RdC B d g o s) {β : Type} {f : D → Hp → Option β} {Q : β → Prop} (k : ∀ g', RdC B d g' o (textS s).2 → Same o g g' → Wp (f (.str ((textS s).1.getD [])) g') Q) :
    Wp ((dLoad tab g ty1108 (.ptr o 0 0)).bind fun t => (R fn1138 [t] g).bind fun p => (dExtract 0 p.1).bind fun a => (dExtract 1 p.1).bind fun b => (dStore tab p.2 ty1108 (.ptr o 0 0) a).bind fun g' => f b g') Q := by
  obtain ⟨x, l, r⟩ := C.all
  obtain ⟨x', e, r'⟩ := s1138 g hd hB hu r
  simp only [l, bs, e, dExtract_tup, List.getElem?_cons_zero, List.getElem?_cons_succ]
  exact C.st r' k
def rlnS : Nat → Cur → List Lin × Cur
  | 0, s => ([], s)
  | n + 1, s => if s.2 = true then ([], s) else ((linS s).1 :: (rlnS n (linS s).2).1, (rlnS n (linS s).2).2)
def rfdS : Nat → Cur → List (Str × Str) × Cur
  | 0, s => ([], s)
  | n + 1, s => if s.2 = true then ([], s) else ((fdS s).1 :: (rfdS n (fdS s).2).1, (rfdS n (fdS s).2).2)
theorem rlnS_bad (n : Nat) (s : Cur) (h : s.2 = true) : rlnS n s = ([], s) := by
  cases n with
  | zero => rfl
  | succ n => simp [-bind_some, rlnS, h]
theorem rfdS_bad (n : Nat) (s : Cur) (h : s.2 = true) : rfdS n s = ([], s) := by
  cases n with
  | zero => rfl
  | succ n => simp [-bind_some, rfdS, h]
theorem s1140 {B : List Int} {d x : D} {s : Cur} (h : Hp) (hd : SlOf 1 byr B d) (hB : B.length ≤ 1000000000) (hu : ∀ z ∈ B, U8 z) (hx : RdS B d s x) : ∃ x' ld, R fn1140 [x] h = some (.tup [x', ld], h) ∧ RdS B d (rlnS (lenS s).1.toNat (lenS s).2).2 x' ∧ SlOf 3 linr (rlnS (lenS s).1.toNat (lenS s).2).1 ld := by
  suffices Wp (R fn1140 [x] h) (fun p => p.2 = h ∧ ∃ x' ld, p.1 = .tup [x', ld] ∧ RdS B d (rlnS (lenS s).1.toNat (lenS s).2).2 x' ∧ SlOf 3 linr (rlnS (lenS s).1.toNat (lenS s).2).1 ld) by
    obtain ⟨⟨y, h'⟩, h1, rfl, x', ld, rfl, h2⟩ := this
    exact ⟨x', ld, h1, h2⟩
  have hx0 := hx
  obtain ⟨a, rfl, ha, hs⟩ := hx
  have hus : ∀ z ∈ s.1, U8 z := fun z hz => hu z (by rw [← hs] at hz; exact List.mem_of_mem_drop hz)
  have hl0 : (dNew h ty1108 3 [[d, .int .i64 a, .bool (!s.2)]]).length = h.length + 1 := by simp [-bind_some, dNew]
  have M := M2.new h ty1108 3 ty1108 3 [d, .int .i64 a, .bool (!s.2)] [.nils, .int .i64 0, .bool false]
  rw [e1140]
  simp only [F1140, wBox_agg ty1108 3 h [d, .int .i64 a, .bool (!s.2)] rfl (by omega), bs, Option.bind_assoc, hl0]
  generalize dNew (dNew h ty1108 3 [[d, .int .i64 a, .bool (!s.2)]]) ty1108 3 [[.nils, .int .i64 0, .bool false]] = g at *
  have l3 := (rd_ld M.ha).2.2.2
  obtain ⟨x1, e1, r1⟩ := s1137 g hd hB hu hx0 4 (by omega)
  obtain ⟨a1, rfl, ha1, hs1⟩ := r1
  have e1 : R fn1137 [.agg [d, .int .i64 a, .bool (!s.2)], .int .i64 4] g = _ := e1
  obtain ⟨n1, n2, n3⟩ := lenS_num hus
  have hc4 : takeS s ((4 : Nat) : Int) = takeS s 4 := rfl
  rw [hc4] at e1 hs1
  have hc2 : (takeS s 4).2 = (lenS s).2 := rfl
  rw [hc2] at e1 hs1
  simp only [l3, bs, e1, dExtract_tup, List.getElem?_cons_zero, List.getElem?_cons_succ]
  rw [← n1] at n2 n3
  rw [← n1]
  refine rd_st M.ha fun g1 p1 s1 => ?_
  have M1 := M.sta p1 s1
  have C1 : RdC B d g1 h.length (lenS s).2 := ⟨a1, p1, ha1, hs1⟩
  generalize (lenS s).2 = c at *
  generalize (lenS s).1 = N at *
  obtain ⟨n, rfl⟩ := Int.eq_ofNat_of_zero_le n2
  rw [Int.toNat_natCast]
  refine Wp.loop (fun k ds g' => ∃ y1 y2 ld, ∃ i : Nat, ∃ L : List Lin, ∃ s' : Cur, ds = [ld, .int .u64 i, y1, y2] ∧ k + i = n ∧ RdC B d g' h.length s' ∧ g'[h.length + 1]? = some (.row ty1108 3 [[.nils, .int .i64 0, .bool false]]) ∧ (∀ q, q < h.length → g'[q]? = h[q]?) ∧ Own g' (h.length + 2) ty78 3 (L.map linr) ld ∧ h.length + 2 ≤ g'.length ∧ L.length ≤ i ∧ L ++ (rlnS k s').1 = (rlnS n c).1 ∧ (rlnS k s').2 = (rlnS n c).2)
    (fun r => r.1 = .ext 0 ∧ ∃ y1 y2 y3 ld, r.2.1 = [ld, y1, y2, y3] ∧ RdC B d r.2.2 h.length (rlnS n c).2 ∧ r.2.2[h.length + 1]? = some (.row ty1108 3 [[.nils, .int .i64 0, .bool false]]) ∧ (∀ q, q < h.length → r.2.2[q]? = h[q]?) ∧ Own r.2.2 (h.length + 2) ty78 3 ((rlnS n c).1.map linr) ld ∧ h.length + 2 ≤ r.2.2.length) n ⟨_, _, .nils, 0, [], c, rfl, rfl, C1, M1.hb, M1.lo, Own.nils _ _ _ _, M1.hl, by simp, by simp, rfl⟩ ?_ ?_
  · rintro k ds g' ⟨y1, y2, ld, i, L, s', rfl, hk, C, hb, lo, ow, hgl, hL, q1, q2⟩
    simp only [F1140_L0, nth_zero, nth_succ, bs, Option.bind_assoc, fap1108_2, C.ok]
    have stop : (s'.2 = true ∨ k = 0) → rlnS k s' = ([], s') := by
      rintro (h0 | h0)
      · exact rlnS_bad k s' h0
      · rw [h0]; rfl
    have fin : (s'.2 = true ∨ k = 0) → ∀ u v w, Wp (some (Ex.ext 0, [ld, u, v, w], g')) (fun r => (r.1 = .nrm ∧ ∃ k' < k, ∃ y1 y2 ld, ∃ i : Nat, ∃ L : List Lin, ∃ s' : Cur, r.2.1 = [ld, .int .u64 i, y1, y2] ∧ k' + i = n ∧ RdC B d r.2.2 h.length s' ∧ r.2.2[h.length + 1]? = some (.row ty1108 3 [[.nils, .int .i64 0, .bool false]]) ∧ (∀ q, q < h.length → r.2.2[q]? = h[q]?) ∧ Own r.2.2 (h.length + 2) ty78 3 (L.map linr) ld ∧ h.length + 2 ≤ r.2.2.length ∧ L.length ≤ i ∧ L ++ (rlnS k' s').1 = (rlnS n c).1 ∧ (rlnS k' s').2 = (rlnS n c).2) ∨ (r.1 ≠ .nrm ∧ (r.1 = .ext 0 ∧ ∃ y1 y2 y3 ld, r.2.1 = [ld, y1, y2, y3] ∧ RdC B d r.2.2 h.length (rlnS n c).2 ∧ r.2.2[h.length + 1]? = some (.row ty1108 3 [[.nils, .int .i64 0, .bool false]]) ∧ (∀ q, q < h.length → r.2.2[q]? = h[q]?) ∧ Own r.2.2 (h.length + 2) ty78 3 ((rlnS n c).1.map linr) ld ∧ h.length + 2 ≤ r.2.2.length))) := by
      intro h0 u v w
      have h1 := stop h0
      rw [h1] at q1 q2
      simp only [List.append_nil] at q1 q2
      refine .some (.inr ⟨by simp, rfl, _, _, _, ld, rfl, by rw [← q2]; exact C, hb, lo, by rw [← q1]; exact ow, hgl⟩)
    cases hb2 : s'.2 with
    | true =>
      simp only [Bool.not_true, gd_bool, Bool.false_eq_true, reduceCtorEq, if_false, bs, dPick_bool, dIf_bool]
      exact fin (.inl hb2) _ _ _
    | false =>
      simp only [Bool.not_false, gd_bool, if_true, bs, dBin_lss, dPick_bool, dIf_bool]
      by_cases hin : i < n
      case neg =>
        have hin' : ¬ (i : Int) < (n : Int) := by omega
        simp only [hin', decide_false, Bool.false_eq_true, if_false]
        exact fin (.inr (by omega)) _ _ _
      have hin' : (i : Int) < (n : Int) := by omega
      simp only [hin', decide_true, if_true]
      obtain ⟨k', rfl⟩ : ∃ k', k = k' + 1 := ⟨k - 1, by omega⟩
      have hlS : rlnS (k' + 1) s' = ((linS s').1 :: (rlnS k' (linS s').2).1, (rlnS k' (linS s').2).2) := by simp [-bind_some, rlnS, hb2]
      rw [hlS] at q1 q2
      have hN0 : (dNew g' ty78 3 [zlinr])[g'.length]? = some (.row ty78 3 [zlinr]) := dNew_get _ _ _ _
      have hNl : (dNew g' ty78 3 [zlinr]).length = g'.length + 1 := by simp [-bind_some, dNew]
      have hNo : ∀ q, q < g'.length → (dNew g' ty78 3 [zlinr])[q]? = g'[q]? := fun q hq => dNew_old _ _ _ _ hq
      have hz : ([.int .i64 0, .int .i64 0, .str []] : List D) = zlinr := rfl
      have hob : ∀ q, ld.inOb q → q < g'.length := fun q hq => (List.getElem?_eq_some_iff.1 (own_live ow hq)).1
      have hCl := C.lt
      have C2 : RdC B d (dNew g' ty78 3 [zlinr]) h.length s' := C.keep (hNo _ hCl)
      try simp only [hz]
      generalize dNew g' ty78 3 [zlinr] = g2 at *
      refine rdI hd hB hu C2 fun g3 C3 s3 => ?_
      have p3 : g3[g'.length]? = some (.row ty78 3 [zlinr]) := by rw [s3.2 _ (by omega)]; exact hN0
      simp only [fap78_0, fap78_1, fap78_2]
      refine wst3 (kk := 0) (row := zlinr) p3 rfl rfl (by simp [-bind_some, zlinr]) rfl fun g4 p4 s4 => ?_
      have p4 : g4[g'.length]? = some (.row ty78 3 [[.int .i64 (numS s').1, .int .i64 0, .str []]]) := p4
      have C4 : RdC B d g4 h.length (numS s').2 := C3.keep (s4.2 _ (by omega))
      try simp only [bs]
      refine rdI hd hB hu C4 fun g5 C5 s5 => ?_
      have p5 : g5[g'.length]? = some (.row ty78 3 [[.int .i64 (numS s').1, .int .i64 0, .str []]]) := by rw [s5.2 _ (by omega)]; exact p4
      refine wst3 (kk := 0) p5 rfl rfl (by simp) rfl fun g6 p6 s6 => ?_
      have p6 : g6[g'.length]? = some (.row ty78 3 [[.int .i64 (numS s').1, .int .i64 (numS (numS s').2).1, .str []]]) := p6
      have C6 : RdC B d g6 h.length (numS (numS s').2).2 := C5.keep (s6.2 _ (by omega))
      try simp only [bs]
      refine rdT hd hB hu C6 fun g7 C7 s7 => ?_
      have p7 : g7[g'.length]? = some (.row ty78 3 [[.int .i64 (numS s').1, .int .i64 (numS (numS s').2).1, .str []]]) := by rw [s7.2 _ (by omega)]; exact p6
      refine wst9 (kk := 0) p7 rfl rfl (by simp) rfl fun g8 p8 s8 => ?_
      have p8 : g8[g'.length]? = some (.row ty78 3 [linr (linS s').1]) := p8
      have C8 : RdC B d g8 h.length (linS s').2 := C7.keep (s8.2 _ (by omega))
      have ld8 : dLoad tab g8 ty78 (.ptr g'.length 0 0) = some (.agg (linr (linS s').1)) := by rw [ldp78, row_of p8]; rfl
      have hbz : pLitF tab ty28 1 [0] [.agg (linr (linS s').1)] = some (.sl 3 true [linr (linS s').1]) := id rfl
      have hoth : ∀ q, q ≠ h.length → q < g'.length → g8[q]? = g'[q]? := fun q h1 h2 => by
        rw [s8.2 q (by omega), s7.2 q h1, s6.2 q (by omega), s5.2 q h1, s4.2 q (by omega), s3.2 q h1, hNo q h2]
      have hl8 : g8.length = g'.length + 1 := by rw [s8.1, s7.1, s6.1, s5.1, s4.1, s3.1, hNl]
      have ow8 : Own g8 (h.length + 2) ty78 3 (L.map linr) ld := ow.keep fun q hq hx => hoth q (by omega) (hob q hx)
      have wi : IntKind.wrap .u64 ((i : Int) + 1) = ((i + 1 : Nat) : Int) := by rw [wrap_u64 (by omega) (by omega)]; omega
      simp only [bs, ld8, hbz]
      refine wap28 (ys := [linr (linS s').1]) (by omega) ow8 (rowsOf_sl _ _ _ _) (by simp; omega) fun ld2 g9 ow9 len9 bel9 old9 _ => ?_
      simp only [bs, dBin_add, wi]
      refine .some (.inl ⟨rfl, k', by omega, _, _, ld2, i + 1, L ++ [(linS s').1], (linS s').2, rfl, by omega, C8.keep (bel9 _ (by omega)), ?_, fun q hq => ?_, by rw [List.map_append]; exact ow9, (by show _ ≤ g9.length; omega), by simp; omega, ?_, q2⟩)
      · rw [bel9 _ (by omega), hoth _ (by omega) (by omega)]; exact hb
      · rw [bel9 _ (by omega), hoth _ (by omega) (by omega)]; exact lo q hq
      · rw [← q1]; simp [-bind_some]
  · rintro ⟨ex, ds, g'⟩ ⟨rfl, y1, y2, y3, ld, rfl, C, hb, lo, ow, hgl⟩
    simp only at C hb lo ow hgl
    obtain ⟨m, hm, hm2, hm3⟩ := C
    simp only [unblk_self, toEnd_nrm, bs, nth_zero, (rd_ld hm).2.2.2]
    refine rd_st hb fun g2 p2 s2 => ?_
    have hob : ∀ q, ld.inOb q → q ≠ h.length + 1 := fun q hq hh => by
      rcases ow with ⟨rfl, _⟩ | ⟨o, h1, rfl, _⟩
      · exact nil_ob q hq
      · obtain ⟨z, n, hx⟩ := hq
        injection hx with _ h2
        omega
    have ow2 : Own g2 (h.length + 2) ty78 3 ((rlnS n c).1.map linr) ld := ow.keep fun q hq hx => s2.2 q (hob q hx)
    simp only [(rd_ld p2).2.2.2, bs, mkRes_two]
    have sl := own_sl (n0 := h.length) (n := 2) ow2 (by omega) fun a _ => linr_frz _ g2 _ a
    rw [scope_eq (d' := .tup [.agg [d, .int .i64 m, .bool (!(rlnS n c).2.2)], frz h.length g2 3 ld]) (by simp [-bind_some, byr_sfrz hd]) (by
      refine .tup _ fun y hy => ?_
      simp at hy
      rcases hy with rfl | rfl
      · refine .agg _ fun y hy => ?_
        simp at hy
        rcases hy with rfl | rfl | rfl
        · exact byr_sok hd _
        · constructor
        · constructor
      · exact slof_ok sl fun a _ => linr_ok _ a) (by rw [s2.1]; omega) (fun q hq => by rw [s2.2 q (by omega)]; exact lo q hq)]
    exact .some ⟨rfl, _, _, rfl, ⟨m, rfl, hm2, hm3⟩, sl⟩
theorem s1141 {B : List Int} {d x : D} {s : Cur} (h : Hp) (hd : SlOf 1 byr B d) (hB : B.length ≤ 1000000000) (hu : ∀ z ∈ B, U8 z) (hx : RdS B d s x) : ∃ x' ld, R fn1141 [x] h = some (.tup [x', ld], h) ∧ RdS B d (rfdS (lenS s).1.toNat (lenS s).2).2 x' ∧ SlOf 2 fld (rfdS (lenS s).1.toNat (lenS s).2).1 ld := by
  suffices Wp (R fn1141 [x] h) (fun p => p.2 = h ∧ ∃ x' ld, p.1 = .tup [x', ld] ∧ RdS B d (rfdS (lenS s).1.toNat (lenS s).2).2 x' ∧ SlOf 2 fld (rfdS (lenS s).1.toNat (lenS s).2).1 ld) by
    obtain ⟨⟨y, h'⟩, h1, rfl, x', ld, rfl, h2⟩ := this
    exact ⟨x', ld, h1, h2⟩
  have hx0 := hx
  obtain ⟨a, rfl, ha, hs⟩ := hx
  have hus : ∀ z ∈ s.1, U8 z := fun z hz => hu z (by rw [← hs] at hz; exact List.mem_of_mem_drop hz)
  have hl0 : (dNew h ty1108 3 [[d, .int .i64 a, .bool (!s.2)]]).length = h.length + 1 := by simp [-bind_some, dNew]
  have M := M2.new h ty1108 3 ty1108 3 [d, .int .i64 a, .bool (!s.2)] [.nils, .int .i64 0, .bool false]
  rw [e1141]
  simp only [F1141, wBox_agg ty1108 3 h [d, .int .i64 a, .bool (!s.2)] rfl (by omega), bs, Option.bind_assoc, hl0]
  generalize dNew (dNew h ty1108 3 [[d, .int .i64 a, .bool (!s.2)]]) ty1108 3 [[.nils, .int .i64 0, .bool false]] = g at *
  have l3 := (rd_ld M.ha).2.2.2
  obtain ⟨x1, e1, r1⟩ := s1137 g hd hB hu hx0 4 (by omega)
  obtain ⟨a1, rfl, ha1, hs1⟩ := r1
  have e1 : R fn1137 [.agg [d, .int .i64 a, .bool (!s.2)], .int .i64 4] g = _ := e1
  obtain ⟨n1, n2, n3⟩ := lenS_num hus
  have hc4 : takeS s ((4 : Nat) : Int) = takeS s 4 := rfl
  rw [hc4] at e1 hs1
  have hc2 : (takeS s 4).2 = (lenS s).2 := rfl
  rw [hc2] at e1 hs1
  simp only [l3, bs, e1, dExtract_tup, List.getElem?_cons_zero, List.getElem?_cons_succ]
  rw [← n1] at n2 n3
  rw [← n1]
  refine rd_st M.ha fun g1 p1 s1 => ?_
  have M1 := M.sta p1 s1
  have C1 : RdC B d g1 h.length (lenS s).2 := ⟨a1, p1, ha1, hs1⟩
  generalize (lenS s).2 = c at *
  generalize (lenS s).1 = N at *
  obtain ⟨n, rfl⟩ := Int.eq_ofNat_of_zero_le n2
  rw [Int.toNat_natCast]
  refine Wp.loop (fun k ds g' => ∃ y1 y2 ld, ∃ i : Nat, ∃ L : List (Str × Str), ∃ s' : Cur, ds = [ld, .int .u64 i, y1, y2] ∧ k + i = n ∧ RdC B d g' h.length s' ∧ g'[h.length + 1]? = some (.row ty1108 3 [[.nils, .int .i64 0, .bool false]]) ∧ (∀ q, q < h.length → g'[q]? = h[q]?) ∧ Own g' (h.length + 2) ty109 2 (L.map fld) ld ∧ h.length + 2 ≤ g'.length ∧ L.length ≤ i ∧ L ++ (rfdS k s').1 = (rfdS n c).1 ∧ (rfdS k s').2 = (rfdS n c).2)
    (fun r => r.1 = .ext 0 ∧ ∃ y1 y2 y3 ld, r.2.1 = [ld, y1, y2, y3] ∧ RdC B d r.2.2 h.length (rfdS n c).2 ∧ r.2.2[h.length + 1]? = some (.row ty1108 3 [[.nils, .int .i64 0, .bool false]]) ∧ (∀ q, q < h.length → r.2.2[q]? = h[q]?) ∧ Own r.2.2 (h.length + 2) ty109 2 ((rfdS n c).1.map fld) ld ∧ h.length + 2 ≤ r.2.2.length) n ⟨_, _, .nils, 0, [], c, rfl, rfl, C1, M1.hb, M1.lo, Own.nils _ _ _ _, M1.hl, by simp, by simp, rfl⟩ ?_ ?_
  · rintro k ds g' ⟨y1, y2, ld, i, L, s', rfl, hk, C, hb, lo, ow, hgl, hL, q1, q2⟩
    simp only [F1141_L0, nth_zero, nth_succ, bs, Option.bind_assoc, fap1108_2, C.ok]
    have stop : (s'.2 = true ∨ k = 0) → rfdS k s' = ([], s') := by
      rintro (h0 | h0)
      · exact rfdS_bad k s' h0
      · rw [h0]; rfl
    have fin : (s'.2 = true ∨ k = 0) → ∀ u v w, Wp (some (Ex.ext 0, [ld, u, v, w], g')) (fun r => (r.1 = .nrm ∧ ∃ k' < k, ∃ y1 y2 ld, ∃ i : Nat, ∃ L : List (Str × Str), ∃ s' : Cur, r.2.1 = [ld, .int .u64 i, y1, y2] ∧ k' + i = n ∧ RdC B d r.2.2 h.length s' ∧ r.2.2[h.length + 1]? = some (.row ty1108 3 [[.nils, .int .i64 0, .bool false]]) ∧ (∀ q, q < h.length → r.2.2[q]? = h[q]?) ∧ Own r.2.2 (h.length + 2) ty109 2 (L.map fld) ld ∧ h.length + 2 ≤ r.2.2.length ∧ L.length ≤ i ∧ L ++ (rfdS k' s').1 = (rfdS n c).1 ∧ (rfdS k' s').2 = (rfdS n c).2) ∨ (r.1 ≠ .nrm ∧ (r.1 = .ext 0 ∧ ∃ y1 y2 y3 ld, r.2.1 = [ld, y1, y2, y3] ∧ RdC B d r.2.2 h.length (rfdS n c).2 ∧ r.2.2[h.length + 1]? = some (.row ty1108 3 [[.nils, .int .i64 0, .bool false]]) ∧ (∀ q, q < h.length → r.2.2[q]? = h[q]?) ∧ Own r.2.2 (h.length + 2) ty109 2 ((rfdS n c).1.map fld) ld ∧ h.length + 2 ≤ r.2.2.length))) := by
      intro h0 u v w
      have h1 := stop h0
      rw [h1] at q1 q2
      simp only [List.append_nil] at q1 q2
      refine .some (.inr ⟨by simp, rfl, _, _, _, ld, rfl, by rw [← q2]; exact C, hb, lo, by rw [← q1]; exact ow, hgl⟩)
    cases hb2 : s'.2 with
    | true =>
      simp only [Bool.not_true, gd_bool, Bool.false_eq_true, reduceCtorEq, if_false, bs, dPick_bool, dIf_bool]
      exact fin (.inl hb2) _ _ _
    | false =>
      simp only [Bool.not_false, gd_bool, if_true, bs, dBin_lss, dPick_bool, dIf_bool]
      by_cases hin : i < n
      case neg =>
        have hin' : ¬ (i : Int) < (n : Int) := by omega
        simp only [hin', decide_false, Bool.false_eq_true, if_false]
        exact fin (.inr (by omega)) _ _ _
      have hin' : (i : Int) < (n : Int) := by omega
      simp only [hin', decide_true, if_true]
      obtain ⟨k', rfl⟩ : ∃ k', k = k' + 1 := ⟨k - 1, by omega⟩
      have hlS : rfdS (k' + 1) s' = ((fdS s').1 :: (rfdS k' (fdS s').2).1, (rfdS k' (fdS s').2).2) := by simp [-bind_some, rfdS, hb2]
      rw [hlS] at q1 q2
      have hN0 : (dNew g' ty109 2 [zfld])[g'.length]? = some (.row ty109 2 [zfld]) := dNew_get _ _ _ _
      have hNl : (dNew g' ty109 2 [zfld]).length = g'.length + 1 := by simp [-bind_some, dNew]
      have hNo : ∀ q, q < g'.length → (dNew g' ty109 2 [zfld])[q]? = g'[q]? := fun q hq => dNew_old _ _ _ _ hq
      have hz : ([.str [], .str []] : List D) = zfld := rfl
      have hob : ∀ q, ld.inOb q → q < g'.length := fun q hq => (List.getElem?_eq_some_iff.1 (own_live ow hq)).1
      have hCl := C.lt
      have C2 : RdC B d (dNew g' ty109 2 [zfld]) h.length s' := C.keep (hNo _ hCl)
      try simp only [hz]
      generalize dNew g' ty109 2 [zfld] = g2 at *
      refine rdT hd hB hu C2 fun g3 C3 s3 => ?_
      have p3 : g3[g'.length]? = some (.row ty109 2 [zfld]) := by rw [s3.2 _ (by omega)]; exact hN0
      simp only [fap109_0, fap109_1]
      refine wst9 (kk := 0) (row := zfld) p3 rfl rfl (by simp [-bind_some, zfld]) rfl fun g4 p4 s4 => ?_
      have p4 : g4[g'.length]? = some (.row ty109 2 [[.str ((textS s').1.getD []), .str []]]) := p4
      have C4 : RdC B d g4 h.length (textS s').2 := C3.keep (s4.2 _ (by omega))
      try simp only [bs]
      refine rdT hd hB hu C4 fun g7 C7 s7 => ?_
      have p7 : g7[g'.length]? = some (.row ty109 2 [[.str ((textS s').1.getD []), .str []]]) := by rw [s7.2 _ (by omega)]; exact p4
      refine wst9 (kk := 0) p7 rfl rfl (by simp) rfl fun g8 p8 s8 => ?_
      have p8 : g8[g'.length]? = some (.row ty109 2 [fld (fdS s').1]) := p8
      have C8 : RdC B d g8 h.length (fdS s').2 := C7.keep (s8.2 _ (by omega))
      have ld8 : dLoad tab g8 ty109 (.ptr g'.length 0 0) = some (.agg (fld (fdS s').1)) := by rw [ldp109, row_of p8]; rfl
      have hbz : pLitF tab ty29 1 [0] [.agg (fld (fdS s').1)] = some (.sl 2 true [fld (fdS s').1]) := id rfl
      have hoth : ∀ q, q ≠ h.length → q < g'.length → g8[q]? = g'[q]? := fun q h1 h2 => by
        rw [s8.2 q (by omega), s7.2 q h1, s4.2 q (by omega), s3.2 q h1, hNo q h2]
      have hl8 : g8.length = g'.length + 1 := by rw [s8.1, s7.1, s4.1, s3.1, hNl]
      have ow8 : Own g8 (h.length + 2) ty109 2 (L.map fld) ld := ow.keep fun q hq hx => hoth q (by omega) (hob q hx)
      have wi : IntKind.wrap .u64 ((i : Int) + 1) = ((i + 1 : Nat) : Int) := by rw [wrap_u64 (by omega) (by omega)]; omega
      simp only [bs, ld8, hbz]
      refine wap29 (ys := [fld (fdS s').1]) (by omega) ow8 (rowsOf_sl _ _ _ _) (by simp; omega) fun ld2 g9 ow9 len9 bel9 old9 _ => ?_
      simp only [bs, dBin_add, wi]
      refine .some (.inl ⟨rfl, k', by omega, _, _, ld2, i + 1, L ++ [(fdS s').1], (fdS s').2, rfl, by omega, C8.keep (bel9 _ (by omega)), ?_, fun q hq => ?_, by rw [List.map_append]; exact ow9, (by show _ ≤ g9.length; omega), by simp; omega, ?_, q2⟩)
      · rw [bel9 _ (by omega), hoth _ (by omega) (by omega)]; exact hb
      · rw [bel9 _ (by omega), hoth _ (by omega) (by omega)]; exact lo q hq
      · rw [← q1]; simp [-bind_some]
  · rintro ⟨ex, ds, g'⟩ ⟨rfl, y1, y2, y3, ld, rfl, C, hb, lo, ow, hgl⟩
    simp only at C hb lo ow hgl
    obtain ⟨m, hm, hm2, hm3⟩ := C
    simp only [unblk_self, toEnd_nrm, bs, nth_zero, (rd_ld hm).2.2.2]
    refine rd_st hb fun g2 p2 s2 => ?_
    have hob : ∀ q, ld.inOb q → q ≠ h.length + 1 := fun q hq hh => by
      rcases ow with ⟨rfl, _⟩ | ⟨o, h1, rfl, _⟩
      · exact nil_ob q hq
      · obtain ⟨z, n, hx⟩ := hq
        injection hx with _ h2
        omega
    have ow2 : Own g2 (h.length + 2) ty109 2 ((rfdS n c).1.map fld) ld := ow.keep fun q hq hx => s2.2 q (hob q hx)
    simp only [(rd_ld p2).2.2.2, bs, mkRes_two]
    have sl := own_sl (n0 := h.length) (n := 2) ow2 (by omega) fun a _ => fld_frz _ g2 _ a
    rw [scope_eq (d' := .tup [.agg [d, .int .i64 m, .bool (!(rfdS n c).2.2)], frz h.length g2 3 ld]) (by simp [-bind_some, byr_sfrz hd]) (by
      refine .tup _ fun y hy => ?_
      simp at hy
      rcases hy with rfl | rfl
      · refine .agg _ fun y hy => ?_
        simp at hy
        rcases hy with rfl | rfl | rfl
        · exact byr_sok hd _
        · constructor
        · constructor
      · exact slof_ok sl fun a _ => fld_ok _ a) (by rw [s2.1]; omega) (fun q hq => by rw [s2.2 q (by omega)]; exact lo q hq)]
    exact .some ⟨rfl, _, _, rfl, ⟨m, rfl, hm2, hm3⟩, sl⟩
def rvL (s : Cur) : List Lin × Cur := rlnS (lenS (visA s)).1.toNat (lenS (visA s)).2
def rvC (s : Cur) : Cur := (textS (textS (numS (numS (rvL s).2).2).2).2).2
def rvF (s : Cur) : List (Str × Str) × Cur := rfdS (lenS (rvC s)).1.toNat (lenS (rvC s)).2
def rvI (s : Cur) : RI :=
  { r := (textS s).1.getD [], a0 := (numS (textS s).2).1, a1 := (numS (numS (textS s).2).2).1, a2 := (numS (numS (numS (textS s).2).2).2).1, a3 := (numS (numS (numS (numS (textS s).2).2).2).2).1,
    ls := (rvL s).1, a5 := (numS (rvL s).2).1, a6 := (numS (numS (rvL s).2).2).1, t7 := (textS (numS (numS (rvL s).2).2).2).1.getD [], t8 := (textS (textS (numS (numS (rvL s).2).2).2).2).1.getD [],
    fs := (rvF s).1 }
def decR (c : Int) (l : List Int) : Int × Int × RI :=
  if l.length < 4 then (14, 0, ⟨[], 0, 0, 0, 0, [], 0, 0, [], [], []⟩)
  else if num (l.take 4) < 4 ∨ (l.length : Int) - 4 < num (l.take 4) then (14, 0, ⟨[], 0, 0, 0, 0, [], 0, 0, [], [], []⟩)
  else if chkS (l.take (num (l.take 4)).toNat) ≠ num ((l.drop (num (l.take 4)).toNat).take 4) then (15, 0, ⟨[], 0, 0, 0, 0, [], 0, 0, [], [], []⟩)
  else if (rvF ((l.take (num (l.take 4)).toNat).drop 4, false)).2.2 = true ∨ (rvF ((l.take (num (l.take 4)).toNat).drop 4, false)).2.1 ≠ [] ∨ c ≠ 0 then (1, 0, ⟨[], 0, 0, 0, 0, [], 0, 0, [], [], []⟩)
  else (0, num (l.take 4) + 4, rvI ((l.take (num (l.take 4)).toNat).drop 4, false))
theorem rlnS_len : ∀ (n : Nat) (s : Cur), (rlnS n s).1.length ≤ n
  | 0, s => Nat.le_refl _
  | n + 1, s => by
    have := rlnS_len n (linS s).2
    unfold rlnS
    split
    · simp [-bind_some]
    · simp only [List.length_cons]; omega
theorem rfdS_len : ∀ (n : Nat) (s : Cur), (rfdS n s).1.length ≤ n
  | 0, s => Nat.le_refl _
  | n + 1, s => by
    have := rfdS_len n (fdS s).2
    unfold rfdS
    split
    · simp [-bind_some]
    · simp only [List.length_cons]; omega
structure DcS (h g : Hp) (B : List Int) (d : D) (x : List D) (s : Cur) : Prop where
  hr : g[h.length]? = some (.row ty74 11 [itr zit])
  C : RdC B d g (h.length + 1) s
  hi : g[h.length + 2]? = some (.row ty74 11 [x])
  lo : ∀ q, q < h.length → g[q]? = h[q]?
theorem DcS.to {h g g' : Hp} {B : List Int} {d : D} {x y : List D} {s s' : Cur} (S : DcS h g B d x s) {g1 : Hp} (C : RdC B d g1 (h.length + 1) s') (s1 : Same (h.length + 1) g g1) (p : g'[h.length + 2]? = some (.row ty74 11 [y])) (s2 : Same (h.length + 2) g1 g') : DcS h g' B d y s' :=
  ⟨by rw [s2.2 _ (by omega), s1.2 _ (by omega)]; exact S.hr, C.keep (s2.2 _ (by omega)), p, fun q hq => by rw [s2.2 q (by omega), s1.2 q (by omega)]; exact S.lo q hq⟩
theorem setD (x : List D) (off : Nat) (v : D) (ho : off < x.length) (hv : v.one = true) : ([x].set 0 (spl x off (cells1 v))) = [x.set off v] := by
  rw [set_spl _ _ _ hv ho]; rfl
theorem dcI {h g : Hp} {B : List Int} {d : D} {x : List D} {s : Cur} (S : DcS h g B d x s) (hd : SlOf 1 byr B d) (hB : B.length ≤ 1000000000) (hu : ∀ z ∈ B, U8 z) {off : Nat} (ho : off < x.length) {β : Type} {f : Hp → Option β} {Q : β → Prop} (k : ∀ g', DcS h g' B d (x.set off (.int .i64 (numS s).1)) (numS s).2 → Wp (f g') Q) :
    Wp ((dLoad tab g ty1108 (.ptr (h.length + 1) 0 0)).bind fun t => (R fn1139 [t] g).bind fun p => (dExtract 0 p.1).bind fun a => (dExtract 1 p.1).bind fun b => (dStore tab p.2 ty1108 (.ptr (h.length + 1) 0 0) a).bind fun g' => (dStore tab g' ty3 (.ptr (h.length + 2) 0 off) b).bind f) Q := by
  refine rdI hd hB hu S.C fun g1 C1 s1 => ?_
  have p1 : g1[h.length + 2]? = some (.row ty74 11 [x]) := by rw [s1.2 _ (by omega)]; exact S.hi
  refine wst3 (kk := 0) (row := x) p1 rfl rfl (by omega) rfl fun g2 p2 s2 => ?_
  rw [setD x off _ ho rfl] at p2
  exact k g2 (S.to C1 s1 p2 s2)
theorem dcT {h g : Hp} {B : List Int} {d : D} {x : List D} {s : Cur} (S : DcS h g B d x s) (hd : SlOf 1 byr B d) (hB : B.length ≤ 1000000000) (hu : ∀ z ∈ B, U8 z) {off : Nat} (ho : off < x.length) {β : Type} {f : Hp → Option β} {Q : β → Prop} (k : ∀ g', DcS h g' B d (x.set off (.str ((textS s).1.getD []))) (textS s).2 → Wp (f g') Q) :
    Wp ((dLoad tab g ty1108 (.ptr (h.length + 1) 0 0)).bind fun t => (R fn1138 [t] g).bind fun p => (dExtract 0 p.1).bind fun a => (dExtract 1 p.1).bind fun b => (dStore tab p.2 ty1108 (.ptr (h.length + 1) 0 0) a).bind fun g' => (dStore tab g' ty9 (.ptr (h.length + 2) 0 off) b).bind f) Q := by
  refine rdT hd hB hu S.C fun g1 C1 s1 => ?_
  have p1 : g1[h.length + 2]? = some (.row ty74 11 [x]) := by rw [s1.2 _ (by omega)]; exact S.hi
  refine wst9 (kk := 0) (row := x) p1 rfl rfl (by omega) rfl fun g2 p2 s2 => ?_
  rw [setD x off _ ho rfl] at p2
  exact k g2 (S.to C1 s1 p2 s2)
theorem dcL {h g : Hp} {B : List Int} {d : D} {x : List D} {s : Cur} (S : DcS h g B d x s) (hd : SlOf 1 byr B d) (hB : B.length ≤ 1000000000) (hu : ∀ z ∈ B, U8 z) {off : Nat} (ho : off < x.length) {β : Type} {f : Hp → Option β} {Q : β → Prop} (k : ∀ g' ld, SlOf 3 linr (rlnS (lenS s).1.toNat (lenS s).2).1 ld → DcS h g' B d (x.set off ld) (rlnS (lenS s).1.toNat (lenS s).2).2 → Wp (f g') Q) :
    Wp ((dLoad tab g ty1108 (.ptr (h.length + 1) 0 0)).bind fun t => (R fn1140 [t] g).bind fun p => (dExtract 0 p.1).bind fun a => (dExtract 1 p.1).bind fun b => (dStore tab p.2 ty1108 (.ptr (h.length + 1) 0 0) a).bind fun g' => (dStore tab g' ty28 (.ptr (h.length + 2) 0 off) b).bind f) Q := by
  obtain ⟨y, l, r⟩ := S.C.all
  obtain ⟨x', ld, e, r', sl⟩ := s1140 g hd hB hu r
  simp only [l, bs, e, dExtract_tup, List.getElem?_cons_zero, List.getElem?_cons_succ]
  refine S.C.st r' fun g1 C1 s1 => ?_
  have p1 : g1[h.length + 2]? = some (.row ty74 11 [x]) := by rw [s1.2 _ (by omega)]; exact S.hi
  have o1 := slof_one sl
  refine wst28 (kk := 0) (row := x) p1 rfl (by rw [(one_cells o1).1]; rfl) (by omega) (one_cells o1).2 fun g2 p2 s2 => ?_
  rw [setD x off _ ho o1] at p2
  exact k g2 ld sl (S.to C1 s1 p2 s2)
theorem dcF {h g : Hp} {B : List Int} {d : D} {x : List D} {s : Cur} (S : DcS h g B d x s) (hd : SlOf 1 byr B d) (hB : B.length ≤ 1000000000) (hu : ∀ z ∈ B, U8 z) {off : Nat} (ho : off < x.length) {β : Type} {f : Hp → Option β} {Q : β → Prop} (k : ∀ g' ld, SlOf 2 fld (rfdS (lenS s).1.toNat (lenS s).2).1 ld → DcS h g' B d (x.set off ld) (rfdS (lenS s).1.toNat (lenS s).2).2 → Wp (f g') Q) :
    Wp ((dLoad tab g ty1108 (.ptr (h.length + 1) 0 0)).bind fun t => (R fn1141 [t] g).bind fun p => (dExtract 0 p.1).bind fun a => (dExtract 1 p.1).bind fun b => (dStore tab p.2 ty1108 (.ptr (h.length + 1) 0 0) a).bind fun g' => (dStore tab g' ty29 (.ptr (h.length + 2) 0 off) b).bind f) Q := by
  obtain ⟨y, l, r⟩ := S.C.all
  obtain ⟨x', ld, e, r', sl⟩ := s1141 g hd hB hu r
  simp only [l, bs, e, dExtract_tup, List.getElem?_cons_zero, List.getElem?_cons_succ]
  refine S.C.st r' fun g1 C1 s1 => ?_
  have p1 : g1[h.length + 2]? = some (.row ty74 11 [x]) := by rw [s1.2 _ (by omega)]; exact S.hi
  have o1 := slof_one sl
  refine wst29 (kk := 0) (row := x) p1 rfl (by rw [(one_cells o1).1]; rfl) (by omega) (one_cells o1).2 fun g2 p2 s2 => ?_
  rw [setD x off _ ho o1] at p2
  exact k g2 ld sl (S.to C1 s1 p2 s2)
theorem s1130 (l : List Int) (d : D) (c : Int) (h : Hp) (hd : SlOf 1 byr l d) (hl : l.length ≤ 1000000000) (hu : ∀ z ∈ l, U8 z)
    (hck : ∀ j : It, riOf j = rvI ((l.take (num (l.take 4)).toNat).drop 4, false) → ∀ g, R fn1004 [.agg (itr j)] g = some (.int .i64 c, g)) :
    ∃ j : It, R fn1130 [d] h = some (.tup [.agg (itr j), .int .i64 (decR c l).2.1, .int .i64 (decR c l).1], h) ∧ riOf j = (decR c l).2.2 := by
  suffices Wp (R fn1130 [d] h) (fun p => p.2 = h ∧ ∃ j : It, p.1 = .tup [.agg (itr j), .int .i64 (decR c l).2.1, .int .i64 (decR c l).1] ∧ riOf j = (decR c l).2.2) by
    obtain ⟨⟨x, h'⟩, h1, rfl, j, rfl, h2⟩ := this
    exact ⟨j, h1, h2⟩
  have hz74 : ([.str [], .int .i64 0, .int .i64 0, .int .i64 0, .int .i64 0, .nils, .int .i64 0, .int .i64 0, .str [], .str [], .nils] : List D) = itr zit := rfl
  have hbz : dBuild tab ty74 [] [] = some (.agg (itr zit)) := id rfl
  -- the result's variable is stored to and read
  have out : ∀ (g : Hp) (j : It) (a b : Int), g[h.length]? = some (.row ty74 11 [itr zit]) → (∀ q, q < h.length → g[q]? = h[q]?) → (a, b, riOf j) = ((decR c l).2.1, (decR c l).1, (decR c l).2.2) →
      Wp ((dStore tab g ty74 (.ptr h.length 0 0) (.agg (itr j))).bind fun h' => (dLoad tab h' ty74 (.ptr h.length 0 0)).bind fun d => scope h h' (mkRes [d, .int .i64 a, .int .i64 b])) (fun p => p.2 = h ∧ ∃ j : It, p.1 = .tup [.agg (itr j), .int .i64 (decR c l).2.1, .int .i64 (decR c l).1] ∧ riOf j = (decR c l).2.2) := by
    intro g j a b hg hgb he
    injection he with he1 he2
    injection he2 with he2 he3
    have hgl := (List.getElem?_eq_some_iff.1 hg).1
    refine wst74 (kk := 0) (off := 0) (row := itr zit) hg rfl rfl (Nat.le_refl _) (itr_okv j) fun g' h' s' => ?_
    have h' : g'[h.length]? = some (.row ty74 11 [itr j]) := by
      rw [h']
      have hs : spl (itr zit) 0 (cells1 (.agg (itr j))) = itr j := by
        have h11 : (itr j).length = 11 := rfl
        have h12 : (itr zit).length = 11 := rfl
        simp [-bind_some, spl, cells1, h11, h12]
      rw [hs]; rfl
    have ld : dLoad tab g' ty74 (.ptr h.length 0 0) = some (.agg (itr j)) := by rw [ldp74, row_of h']; rfl
    rw [ld]
    simp only [bs, mkRes_3]
    rw [dec_end (by rw [s'.1]; omega) (fun q hq => by rw [s'.2 q (by omega)]; exact hgb q hq)]
    exact .some ⟨rfl, j, by rw [he1, he2], he3⟩
  rw [e1130]
  simp only [F1130, hz74, bs, Option.bind_assoc, hbz, bd1108_0_2 d true (slof_one hd)]
  have hp2 : (dNew h ty74 11 [itr zit])[h.length]? = some (.row ty74 11 [itr zit]) := dNew_get _ _ _ _
  have hq2 : ∀ q, q < h.length → (dNew h ty74 11 [itr zit])[q]? = h[q]? := fun q hq => dNew_old _ _ _ _ hq
  have hl2 : (dNew h ty74 11 [itr zit]).length = h.length + 1 := by simp [-bind_some, dNew]
  generalize dNew h ty74 11 [itr zit] = g1 at *
  obtain ⟨x1, e1, r1⟩ := s1137 (s := (l, false)) g1 hd hl hu ⟨0, rfl, by omega, rfl⟩ 4 (by omega)
  obtain ⟨a1, rfl, ha1, hs1⟩ := r1
  have hc4 : takeS (l, false) ((4 : Nat) : Int) = takeS (l, false) 4 := rfl
  rw [hc4] at e1 hs1
  have e1 : R fn1137 [.agg [d, .int .i64 0, .bool true], .int .i64 4] g1 = _ := e1
  simp only [e1, bs, dExtract_tup, List.getElem?_cons_zero, List.getElem?_cons_succ, hl2]
  have hn0 : (dNew g1 ty1108 3 [[.nils, .int .i64 0, .bool false]])[h.length + 1]? = some (.row ty1108 3 [[.nils, .int .i64 0, .bool false]]) := by rw [← hl2]; exact dNew_get _ _ _ _
  have hno : ∀ q, q < g1.length → (dNew g1 ty1108 3 [[.nils, .int .i64 0, .bool false]])[q]? = g1[q]? := fun q hq => dNew_old _ _ _ _ hq
  have hnl : (dNew g1 ty1108 3 [[.nils, .int .i64 0, .bool false]]).length = h.length + 2 := by simp [-bind_some, dNew, hl2]
  generalize dNew g1 ty1108 3 [[.nils, .int .i64 0, .bool false]] = g2 at *
  refine rd_st hn0 fun g3 p3 s3 => ?_
  have hr3 : g3[h.length]? = some (.row ty74 11 [itr zit]) := by rw [s3.2 _ (by omega), hno _ (by omega)]; exact hp2
  have hq3 : ∀ q, q < h.length → g3[q]? = h[q]? := fun q hq => by rw [s3.2 _ (by omega), hno _ (by omega)]; exact hq2 q hq
  have hl3 : g3.length = h.length + 2 := by rw [s3.1, hnl]
  obtain ⟨-, -, k2, -⟩ := rd_ld p3
  simp only [fap1108_2, k2, dUn_not, bs, Bool.not_not]
  by_cases h0 : l.length < 4
  · have ht : takeS (l, false) 4 = ([], (l, true)) := by unfold takeS; rw [if_pos (.inr (.inr (by show (l.length : Int) < 4; omega)))]
    have hz : decR c l = (14, 0, ⟨[], 0, 0, 0, 0, [], 0, 0, [], [], []⟩) := by unfold decR; rw [if_pos h0]
    simp only [ht, gd_bool, reduceCtorEq, Bool.true_eq_false, if_false, if_true, bs, dPick_bool, dIf_bool]
    exact out g3 zit 0 14 hr3 hq3 (by rw [hz, zit_ri])
  have ht : takeS (l, false) 4 = (l.take 4, (l.drop 4, false)) := by
    unfold takeS
    rw [if_neg (by show ¬ (false = true ∨ (4 : Int) < 0 ∨ (l.length : Int) < 4); simp [-bind_some]; omega)]
    rfl
  rw [ht] at hs1 p3
  have hl4 : (l.take 4).length = 4 := by simp; omega
  have hu4 : ∀ z ∈ l.take 4, U8 z := fun z hz => hu z (List.mem_of_mem_take hz)
  obtain ⟨n0, n1⟩ := num_range 4 _ hl4 hu4
  rw [p256_4] at n1
  simp only [ht, gd_bool, Bool.false_eq_true, if_true, if_false, bs, dBin_lss, dPick_bool]
  obtain ⟨v, hv⟩ : ∃ v, v = decR c l := ⟨_, rfl⟩
  have hdec := hv
  unfold decR at hdec
  generalize hN : num (l.take 4) = N at *
  obtain ⟨n, rfl⟩ := Int.eq_ofNat_of_zero_le n0
  simp only [Int.toNat_natCast] at hck hdec
  have w6 : IntKind.wrap .i64 ((l.length : Int) - 4) = (l.length : Int) - 4 := wrap_i64 (by omega) (by omega)
  have w6u : IntKind.wrap .u64 ((l.length : Int) - 4) = (l.length : Int) - 4 := wrap_u64 (by omega) (by omega)
  have w5 : IntKind.wrap .i64 (n : Int) = (n : Int) := wrap_i64 (by omega) (by omega)
  by_cases hbad : (n : Int) < 4 ∨ (l.length : Int) - 4 < (n : Int)
  · have hz : decR c l = (14, 0, ⟨[], 0, 0, 0, 0, [], 0, 0, [], [], []⟩) := by unfold decR; rw [if_neg h0, hN, if_pos hbad]
    by_cases c1 : (n : Int) < 4
    · simp only [c1, decide_true, gd_bool, reduceCtorEq, Bool.true_eq_false, if_false, bs, dPick_bool, if_true, dIf_bool]
      exact out g3 zit 0 14 hr3 hq3 (by rw [hz, zit_ri])
    · have c2 : (n : Int) > (l.length : Int) - 4 := by omega
      simp only [c1, decide_false, gd_bool, if_true, bs, lens22 hd, dBin_sub, w6, cv3_1029, w6u, dBin_gtr, c2, decide_true, reduceCtorEq, Bool.true_eq_false, Bool.false_eq_true, if_false, dPick_bool, dIf_bool]
      exact out g3 zit 0 14 hr3 hq3 (by rw [hz, zit_ri])
  have c1 : ¬ (n : Int) < 4 := by omega
  have c2 : ¬ (n : Int) > (l.length : Int) - 4 := by omega
  simp only [c1, decide_false, gd_bool, if_true, bs, lens22 hd, dBin_sub, w6, cv3_1029, w6u, dBin_gtr, c2, reduceCtorEq, Bool.true_eq_false, Bool.false_eq_true, if_false, dPick_bool, dIf_bool, cv1029_3, w5, bd1108_0_1_2 d (n : Int) true (slof_one hd)]
  obtain ⟨x5, e5, r5⟩ := s1137 (s := (l.drop n, false)) g3 hd hl hu ⟨n, rfl, by omega, rfl⟩ 4 (by omega)
  have e5 : R fn1137 [.agg [d, .int .i64 n, .bool true], .int .i64 4] g3 = _ := e5
  obtain ⟨a5, rfl, -, -⟩ := r5
  have ht5 : takeS (l.drop n, false) ((4 : Nat) : Int) = ((l.drop n).take 4, ((l.drop n).drop 4, false)) := by
    unfold takeS
    rw [if_neg (by show ¬ (false = true ∨ (4 : Int) < 0 ∨ ((l.drop n).length : Int) < 4); simp [-bind_some]; omega)]
    rfl
  rw [ht5] at e5
  obtain ⟨dn, en, sn⟩ := slh22 hd (k := .i64) (n := (n : Int)) (by omega) (by omega)
  rw [Int.toNat_natCast] at sn
  have hun : ∀ z ∈ l.take n, U8 z := fun z hz => hu z (List.mem_of_mem_take hz)
  have hln : (l.take n).length = n := by simp; omega
  have e29 := s1117 (l.take n) dn g3 (.inl sn) (by omega) hun
  simp only [e5, bs, dExtract_tup, List.getElem?_cons_zero, List.getElem?_cons_succ, boxN_agg 3 [d, .int .i64 a5, .bool (!false)] rfl, en, e29, dBin_neq, ne_eq, dIf_bool]
  rw [if_neg h0, if_neg hbad] at hdec
  by_cases c3 : chkS (l.take n) = num ((l.drop n).take 4)
  case neg =>
    have c3' : ¬ num ((l.drop n).take 4) = chkS (l.take n) := fun hh => c3 hh.symm
    rw [if_pos c3] at hdec
    simp only [c3', not_false_eq_true, decide_true, if_true]
    exact out g3 zit 0 15 hr3 hq3 (by rw [← hv, hdec, zit_ri])
  rw [if_neg (fun hh => hh c3)] at hdec
  simp only [c3.symm, not_true, decide_false, Bool.false_eq_true, if_false, fap1108_0]
  have p3 : g3[h.length + 1]? = some (.row ty1108 3 [[d, .int .i64 a1, .bool (!false)]]) := p3
  have o1 := slof_one sn
  refine wst22 (kk := 0) (row := [d, .int .i64 a1, .bool (!false)]) p3 rfl (by rw [(one_cells o1).1]; rfl) (by simp) (one_cells o1).2 fun g4 p4 s4 => ?_
  rw [setD _ _ _ (by simp) o1] at p4
  have p4 : g4[h.length + 1]? = some (.row ty1108 3 [[dn, .int .i64 a1, .bool (!false)]]) := p4
  have ha4 : a1 = 4 := by
    have h1 : l.drop a1 = l.drop 4 := hs1
    have h2 := congrArg List.length h1
    simp at h2
    omega
  have hl4' : g4.length = h.length + 2 := by rw [s4.1, hl3]
  simp only [bs, hl4']
  have S0 : DcS h (dNew g4 ty74 11 [itr zit]) (l.take n) dn (itc [] 0 0 0 0 .nils 0 0 [] [] .nils) ((l.take n).drop 4, false) :=
    ⟨by rw [dNew_old _ _ _ _ (by omega), s4.2 _ (by omega)]; exact hr3, ⟨a1, by rw [dNew_old _ _ _ _ (by omega)]; exact p4, by omega, by rw [ha4]⟩, by rw [← hl4']; exact dNew_get _ _ _ _, fun q hq => by rw [dNew_old _ _ _ _ (by omega), s4.2 q (by omega)]; exact hq3 q hq⟩
  generalize dNew g4 ty74 11 [itr zit] = g5 at *
  have hB : (l.take n).length ≤ 1000000000 := by omega
  generalize hs0 : ((l.take n).drop 4, false) = s0 at *
  have s0f : ∀ z ∈ s0.1, U8 z := fun z hz => by
    rw [← hs0] at hz
    exact hun z (List.mem_of_mem_drop hz)
  simp only [fap74_0, fap74_1, fap31_0, fap31_1, fap31_2, fap31_3, fap31_4, fap31_5, fap31_6, fap31_7, fap31_8, fap31_9]
  refine dcT S0 sn hB hun (by simp [-bind_some, itc]) fun g6 S1 => ?_
  refine dcI S1 sn hB hun (by simp [-bind_some, itc]) fun g6 S2 => ?_
  refine dcI S2 sn hB hun (by simp [-bind_some, itc]) fun g6 S3 => ?_
  refine dcI S3 sn hB hun (by simp [-bind_some, itc]) fun g6 S4 => ?_
  refine dcI S4 sn hB hun (by simp [-bind_some, itc]) fun g6 S5 => ?_
  refine dcL S5 sn hB hun (by simp [-bind_some, itc]) fun g6 ld sl S6 => ?_
  refine dcI S6 sn hB hun (by simp [-bind_some, itc]) fun g6 S7 => ?_
  refine dcI S7 sn hB hun (by simp [-bind_some, itc]) fun g6 S8 => ?_
  refine dcT S8 sn hB hun (by simp [-bind_some, itc]) fun g6 S9 => ?_
  refine dcT S9 sn hB hun (by simp [-bind_some, itc]) fun g6 S10 => ?_
  refine dcF S10 sn hB hun (by simp [-bind_some, itc]) fun g6 fd sf S11 => ?_
  have S : DcS h g6 (l.take n) dn ((rvI s0).row ld fd) (rvF s0).2 := S11
  have sl : SlOf 3 linr (rvI s0).ls ld := sl
  have sf : SlOf 2 fld (rvI s0).fs fd := sf
  have lnb : ∀ s : Cur, (lenS s).1.toNat ≤ 9223372036854775807 := fun s => by
    have : (lenS s).1 ≤ 9223372036854775807 := by
      show IntKind.i64.wrap _ ≤ _
      rw [IntKind.wrap_i64]; omega
    omega
  obtain ⟨j, hj⟩ : ∃ j, j = mkIt (rvI s0) ld fd sl sf (Nat.le_trans (rlnS_len _ _) (lnb _)) (Nat.le_trans (rfdS_len _ _) (lnb _)) := ⟨_, rfl⟩
  have hji : itr j = (rvI s0).row ld fd := by rw [hj]; rfl
  have hjr : riOf j = rvI s0 := by rw [hj]; rfl
  rw [← hji] at S
  have hc := hck j hjr
  have ldj : dLoad tab g6 ty74 (.ptr (h.length + 2) 0 0) = some (.agg (itr j)) := by rw [ldp74, row_of S.hi]; rfl
  obtain ⟨m, hm, hm2, hm3⟩ := S.C
  obtain ⟨-, m1, m2, -⟩ := rd_ld hm
  have hmn : (m : Int) = (n : Int) ↔ (rvF s0).2.1 = [] := by
    rw [← hm3, List.drop_eq_nil_iff]
    omega
  have w7 : IntKind.wrap .i64 ((n : Int) + 4) = (n : Int) + 4 := wrap_i64 (by omega) (by omega)
  simp only [fap1108_1, fap1108_2, m1, m2, dUn_not, bs, Bool.not_not, Option.bind_assoc]
  by_cases b1 : (rvF s0).2.2 = true
  · rw [if_pos (.inl b1)] at hdec
    simp only [b1, gd_bool, reduceCtorEq, Bool.true_eq_false, if_false, if_true, bs, dPick_bool, gdW_bool, dIf_bool]
    exact out g6 zit 0 1 S.hr S.lo (by rw [← hv, hdec, zit_ri])
  have b1 : (rvF s0).2.2 = false := by simpa using b1
  simp only [b1, gd_bool, if_true, m1, dBin_neq, ne_eq, hmn, bs, dPick_bool, Bool.false_eq_true, if_false]
  by_cases b2 : (rvF s0).2.1 = []
  case neg =>
    rw [if_pos (.inr (.inl b2))] at hdec
    simp only [b2, not_false_eq_true, decide_true, gd_bool, reduceCtorEq, Bool.true_eq_false, if_false, if_true, bs, dPick_bool, gdW_bool, dIf_bool]
    exact out g6 zit 0 1 S.hr S.lo (by rw [← hv, hdec, zit_ri])
  simp only [b2, not_true, decide_false, gd_bool, gdW_bool, ldj, hc, if_true, bs, dBin_neq, ne_eq, dPick_bool, Bool.false_eq_true, if_false, dIf_bool]
  by_cases b3 : c = 0
  case neg =>
    rw [if_pos (.inr (.inr b3))] at hdec
    simp only [b3, not_false_eq_true, decide_true, if_true]
    exact out g6 zit 0 1 S.hr S.lo (by rw [← hv, hdec, zit_ri])
  rw [if_neg (by simp [-bind_some, b1, b2, b3])] at hdec
  have b3' : decide (¬ c = 0) = false := by simp [-bind_some, b3]
  simp only [b3', Bool.false_eq_true, if_false, bs, dBin_add, w7]
  exact out g6 j ((n : Int) + 4) 0 S.hr S.lo (by rw [← hv, hdec, hjr])
theorem takeS_ok {s : Cur} {n : Int} (h : (takeS s n).2.2 = false) : s.2 = false ∧ 0 ≤ n ∧ ((takeS s n).2.1.length : Int) + n = s.1.length := by
  unfold takeS at h ⊢
  split
  · rename_i hh; rw [if_pos hh] at h; cases h
  · rename_i hh
    have h1 : ¬ s.2 = true := fun x => hh (.inl x)
    have h2 : ¬ n < 0 := fun x => hh (.inr (.inl x))
    have h3 : ¬ (s.1.length : Int) < n := fun x => hh (.inr (.inr x))
    refine ⟨by simpa using h1, by omega, ?_⟩
    simp only [List.length_drop]
    omega
theorem numS_ok {s : Cur} (h : (numS s).2.2 = false) : s.2 = false ∧ (numS s).2.1.length + 8 = s.1.length := by
  obtain ⟨a, b, c⟩ := takeS_ok (s := s) (n := 8) h
  exact ⟨a, by have : ((numS s).2.1.length : Int) + 8 = s.1.length := c
               omega⟩
theorem lenS_ok {s : Cur} (h : (lenS s).2.2 = false) : s.2 = false ∧ (lenS s).2.1.length + 4 = s.1.length := by
  obtain ⟨a, b, c⟩ := takeS_ok (s := s) (n := 4) h
  exact ⟨a, by have : ((lenS s).2.1.length : Int) + 4 = s.1.length := c
               omega⟩
theorem textS_snd (s : Cur) : (textS s).2 = (takeS (lenS s).2 (lenS s).1).2 := by unfold textS; split <;> rfl
theorem textS_ok {s : Cur} (h : (textS s).2.2 = false) : s.2 = false ∧ (textS s).2.1.length + 4 ≤ s.1.length := by
  rw [textS_snd] at h ⊢
  obtain ⟨a, b, c⟩ := takeS_ok h
  obtain ⟨d, e⟩ := lenS_ok a
  exact ⟨d, by omega⟩
theorem linS_ok {s : Cur} (h : (linS s).2.2 = false) : s.2 = false ∧ (linS s).2.1.length + 8 ≤ s.1.length := by
  have h : (textS (numS (numS s).2).2).2.2 = false := h
  obtain ⟨a, b⟩ := textS_ok h
  obtain ⟨c, d⟩ := numS_ok a
  obtain ⟨e, f⟩ := numS_ok c
  exact ⟨e, by show (textS (numS (numS s).2).2).2.1.length + 8 ≤ _; omega⟩
theorem fdS_ok {s : Cur} (h : (fdS s).2.2 = false) : s.2 = false ∧ (fdS s).2.1.length + 8 ≤ s.1.length := by
  have h : (textS (textS s).2).2.2 = false := h
  obtain ⟨a, b⟩ := textS_ok h
  obtain ⟨c, d⟩ := textS_ok a
  exact ⟨c, by show (textS (textS s).2).2.1.length + 8 ≤ _; omega⟩
end Go.Proofs.YtlpedofpnbggbaaDoor
