/- Laws, on plain data, about functions that the statement reaches. -/
import Derived.Test.YthaajlepgblimaaGreatDoorL4
set_option linter.unusedSimpArgs false
set_option linter.unusedVariables false
set_option linter.unnecessarySimpa false
set_option maxRecDepth 100000
namespace Go.Proofs.YthaajlepgblimaaGreatDoor
open Go.Eng Go.Pi
open Option (bind_some)
theorem d1D (l : List Int) (d : D) (c : Int) (h : Hp) (hd : SlOf 1 byr l d) (hl : l.length ≤ 1000000000) (hu : ∀ z ∈ l, U8 z)
  (hck : ∀ j : It, a2S j = rvI ((l.take (num (l.take 4)).toNat).drop 4, false) → ∀ g, R a7r [.agg (itr j)] g = some (.int .i64 c, g)) :
  ∃ j : It, R b0x [d] h = some (.tup [.agg (itr j), .int .i64 (a8e c l).2.1, .int .i64 (a8e c l).1], h) ∧ a2S j = (a8e c l).2.2 := by
 suffices Wp (R b0x [d] h) (fun p => p.2 = h ∧ ∃ j : It, p.1 = .tup [.agg (itr j), .int .i64 (a8e c l).2.1, .int .i64 (a8e c l).1] ∧ a2S j = (a8e c l).2.2) by
  obtain ⟨⟨x, h'⟩, h1, rfl, j, rfl, h2⟩ := this
  exact ⟨j, h1, h2⟩
 have hz74 : ([.str [], .int .i64 0, .int .i64 0, .int .i64 0, .int .i64 0, .nils, .int .i64 0, .int .i64 0, .str [], .str [], .nils] : List D) = itr zit := rfl
 have hbz : a0X tab a0D [] [] = some (.agg (itr zit)) := id rfl
 -- the result's variable is stored to and read
 have out : ∀ (g : Hp) (j : It) (a b : Int), g[h.length]? = some (.row a0D 11 [itr zit]) → (∀ q, q < h.length → g[q]? = h[q]?) → (a, b, a2S j) = ((a8e c l).2.1, (a8e c l).1, (a8e c l).2.2) →
   Wp ((a0h tab g a0D (.ptr h.length 0 0) (.agg (itr j))).bind fun h' => (a0c tab h' a0D (.ptr h.length 0 0)).bind fun d => scope h h' (a0i [d, .int .i64 a, .int .i64 b])) (fun p => p.2 = h ∧ ∃ j : It, p.1 = .tup [.agg (itr j), .int .i64 (a8e c l).2.1, .int .i64 (a8e c l).1] ∧ a2S j = (a8e c l).2.2) := by
  intro g j a b hg hgb he
  injection he with he1 he2
  injection he2 with he2 he3
  have hgl := (d5p.1 hg).1
  refine b1e (kk := 0) (off := 0) (row := itr zit) hg rfl rfl (Nat.le_refl _) (b6v j) fun g' h' s' => ?_
  have h' : g'[h.length]? = some (.row a0D 11 [itr j]) := by
   rw [h']
   have hs : spl (itr zit) 0 (a0z (.agg (itr j))) = itr j := by
    have h11 : (itr j).length = 11 := rfl
    have h12 : (itr zit).length = 11 := rfl
    simp [-bind_some, spl, a0z, h11, h12]
   rw [hs]; rfl
  have ld : a0c tab g' a0D (.ptr h.length 0 0) = some (.agg (itr j)) := by rw [b0M, a0V h']; rfl
  rw [ld]
  simp only [bs, b1M]
  rw [b5p (by rw [s'.1]; omega) (fun q hq => by rw [s'.2 q (by omega)]; exact hgb q hq)]
  exact .some ⟨rfl, j, by rw [he1, he2], he3⟩
 rw [c8z]
 simp only [c3U, hz74, bs, d4X, hbz, b4a d true (a1z hd)]
 have hp2 : (a0F h a0D 11 [itr zit])[h.length]? = some (.row a0D 11 [itr zit]) := a1q _ _ _ _
 have hq2 : ∀ q, q < h.length → (a0F h a0D 11 [itr zit])[q]? = h[q]? := fun q hq => a0U _ _ _ _ hq
 have hl2 : (a0F h a0D 11 [itr zit]).length = h.length + 1 := by simp [-bind_some, a0F]
 generalize a0F h a0D 11 [itr zit] = g1 at *
 obtain ⟨x1, e1, r1⟩ := b4z (s := (l, false)) g1 hd hl hu ⟨0, rfl, by omega, rfl⟩ 4 (by omega)
 obtain ⟨a1, rfl, ha1, hs1⟩ := r1
 have hc4 : a0N (l, false) ((4 : Nat) : Int) = a0N (l, false) 4 := rfl
 rw [hc4] at e1 hs1
 have e1 : R a3d [.agg [d, .int .i64 0, .bool true], .int .i64 4] g1 = _ := e1
 simp only [e1, bs, a0A, d5a, d5b, hl2]
 have hn0 : (a0F g1 a0m 3 [[.nils, .int .i64 0, .bool false]])[h.length + 1]? = some (.row a0m 3 [[.nils, .int .i64 0, .bool false]]) := by rw [← hl2]; exact a1q _ _ _ _
 have hno : ∀ q, q < g1.length → (a0F g1 a0m 3 [[.nils, .int .i64 0, .bool false]])[q]? = g1[q]? := fun q hq => a0U _ _ _ _ hq
 have hnl : (a0F g1 a0m 3 [[.nils, .int .i64 0, .bool false]]).length = h.length + 2 := by simp [-bind_some, a0F, hl2]
 generalize a0F g1 a0m 3 [[.nils, .int .i64 0, .bool false]] = g2 at *
 refine a6p hn0 fun g3 p3 s3 => ?_
 have hr3 : g3[h.length]? = some (.row a0D 11 [itr zit]) := by rw [s3.2 _ (by omega), hno _ (by omega)]; exact hp2
 have hq3 : ∀ q, q < h.length → g3[q]? = h[q]? := fun q hq => by rw [s3.2 _ (by omega), hno _ (by omega)]; exact hq2 q hq
 have hl3 : g3.length = h.length + 2 := by rw [s3.1, hnl]
 obtain ⟨-, -, k2, -⟩ := a2V p3
 simp only [a3z, k2, a1m, bs, Bool.not_not]
 by_cases h0 : l.length < 4
 ·have ht : a0N (l, false) 4 = ([], (l, true)) := by unfold a0N; rw [if_pos (.inr (.inr (by show (l.length : Int) < 4; omega)))]
  have hz : a8e c l = (14, 0, ⟨[], 0, 0, 0, 0, [], 0, 0, [], [], []⟩) := by unfold a8e; rw [if_pos h0]
  simp only [ht, a0r, reduceCtorEq, d4Z, if_false, if_true, bs, a0e, a0d]
  exact out g3 zit 0 14 hr3 hq3 (by rw [hz, a3r])
 have ht : a0N (l, false) 4 = (l.take 4, (l.drop 4, false)) := by
  unfold a0N
  rw [if_neg (by show ¬ (false = true ∨ (4 : Int) < 0 ∨ (l.length : Int) < 4); simp [-bind_some]; omega)]
  rfl
 rw [ht] at hs1 p3
 have hl4 : (l.take 4).length = 4 := by simp; omega
 have hu4 : ∀ z ∈ l.take 4, U8 z := fun z hz => hu z (List.mem_of_mem_take hz)
 obtain ⟨n0, n1⟩ := a2m 4 _ hl4 hu4
 rw [b0Q] at n1
 simp only [ht, a0r, d4Y, if_true, if_false, bs, a0j, a0e]
 obtain ⟨v, hv⟩ : ∃ v, v = a8e c l := ⟨_, rfl⟩
 have hdec := hv
 unfold a8e at hdec
 generalize hN : num (l.take 4) = N at *
 obtain ⟨n, rfl⟩ := Int.eq_ofNat_of_zero_le n0
 simp only [d5h] at hck hdec
 have w6 : IntKind.wrap .i64 ((l.length : Int) - 4) = (l.length : Int) - 4 := wrap_i64 (by omega) (by omega)
 have w6u : IntKind.wrap .u64 ((l.length : Int) - 4) = (l.length : Int) - 4 := a1j (by omega) (by omega)
 have w5 : IntKind.wrap .i64 (n : Int) = (n : Int) := wrap_i64 (by omega) (by omega)
 by_cases hbad : (n : Int) < 4 ∨ (l.length : Int) - 4 < (n : Int)
 ·have hz : a8e c l = (14, 0, ⟨[], 0, 0, 0, 0, [], 0, 0, [], [], []⟩) := by unfold a8e; rw [if_neg h0, hN, if_pos hbad]
  by_cases c1 : (n : Int) < 4
  ·simp only [c1, decide_true, a0r, reduceCtorEq, d4Z, if_false, bs, a0e, if_true, a0d]
   exact out g3 zit 0 14 hr3 hq3 (by rw [hz, a3r])
  ·have c2 : (n : Int) > (l.length : Int) - 4 := by omega
   simp only [c1, decide_false, a0r, if_true, bs, a1l hd, a0B, w6, a2f, w6u, a0v, c2, decide_true, reduceCtorEq, d4Z, d4Y, if_false, a0e, a0d]
   exact out g3 zit 0 14 hr3 hq3 (by rw [hz, a3r])
 have c1 : ¬ (n : Int) < 4 := by omega
 have c2 : ¬ (n : Int) > (l.length : Int) - 4 := by omega
 simp only [c1, decide_false, a0r, if_true, bs, a1l hd, a0B, w6, a2f, w6u, a0v, c2, reduceCtorEq, d4Z, d4Y, if_false, a0e, a0d, a2T, w5, a9U d (n : Int) true (a1z hd)]
 obtain ⟨x5, e5, r5⟩ := b4z (s := (l.drop n, false)) g3 hd hl hu ⟨n, rfl, by omega, rfl⟩ 4 (by omega)
 have e5 : R a3d [.agg [d, .int .i64 n, .bool true], .int .i64 4] g3 = _ := e5
 obtain ⟨a5, rfl, -, -⟩ := r5
 have ht5 : a0N (l.drop n, false) ((4 : Nat) : Int) = ((l.drop n).take 4, ((l.drop n).drop 4, false)) := by
  unfold a0N
  rw [if_neg (by show ¬ (false = true ∨ (4 : Int) < 0 ∨ ((l.drop n).length : Int) < 4); simp [-bind_some]; omega)]
  rfl
 rw [ht5] at e5
 obtain ⟨dn, en, sn⟩ := b4B hd (k := .i64) (n := (n : Int)) (by omega) (by omega)
 rw [d5h] at sn
 have hun : ∀ z ∈ l.take n, U8 z := fun z hz => hu z (List.mem_of_mem_take hz)
 have hln : (l.take n).length = n := by simp; omega
 have e29 := c6j (l.take n) dn g3 (.inl sn) (by omega) hun
 simp only [e5, bs, a0A, d5a, d5b, a3i 3 [d, .int .i64 a5, .bool (!false)] rfl, en, e29, a0t, ne_eq, a0d]
 rw [if_neg h0, if_neg hbad] at hdec
 by_cases c3 : a3K (l.take n) = num ((l.drop n).take 4)
 case neg =>
  have c3' : ¬ num ((l.drop n).take 4) = a3K (l.take n) := fun hh => c3 hh.symm
  rw [if_pos c3] at hdec
  simp only [c3', not_false_eq_true, decide_true, if_true]
  exact out g3 zit 0 15 hr3 hq3 (by rw [← hv, hdec, a3r])
 rw [if_neg (fun hh => hh c3)] at hdec
 simp only [c3.symm, not_true, decide_false, d4Y, if_false, a5M]
 have p3 : g3[h.length + 1]? = some (.row a0m 3 [[d, .int .i64 a1, .bool (!false)]]) := p3
 have o1 := a1z sn
 refine c2H (kk := 0) (row := [d, .int .i64 a1, .bool (!false)]) p3 rfl (by rw [(a0T o1).1]; rfl) (by simp) (a0T o1).2 fun g4 p4 s4 => ?_
 rw [c6t _ _ _ (by simp) o1] at p4
 have p4 : g4[h.length + 1]? = some (.row a0m 3 [[dn, .int .i64 a1, .bool (!false)]]) := p4
 have ha4 : a1 = 4 := by
  have h1 : l.drop a1 = l.drop 4 := hs1
  have h2 := congrArg List.length h1
  simp at h2
  omega
 have hl4' : g4.length = h.length + 2 := by rw [s4.1, hl3]
 simp only [bs, hl4']
 have S0 : DcS h (a0F g4 a0D 11 [itr zit]) (l.take n) dn (itc [] 0 0 0 0 .nils 0 0 [] [] .nils) ((l.take n).drop 4, false) :=
  ⟨by rw [a0U _ _ _ _ (by omega), s4.2 _ (by omega)]; exact hr3, ⟨a1, by rw [a0U _ _ _ _ (by omega)]; exact p4, by omega, by rw [ha4]⟩, by rw [← hl4']; exact a1q _ _ _ _, fun q hq => by rw [a0U _ _ _ _ (by omega), s4.2 q (by omega)]; exact hq3 q hq⟩
 generalize a0F g4 a0D 11 [itr zit] = g5 at *
 have hB : (l.take n).length ≤ 1000000000 := by omega
 generalize hs0 : ((l.take n).drop 4, false) = s0 at *
 have s0f : ∀ z ∈ s0.1, U8 z := fun z hz => by
  rw [← hs0] at hz
  exact hun z (List.mem_of_mem_drop hz)
 simp only [b1w, a7p, b1u, b1v, a9i, a9j, a3t, a9k, a9l, a9m, a9n, a5f]
 refine dcT S0 sn hB hun (by simp [-bind_some, itc]) fun g6 S1 => ?_
 refine dcI S1 sn hB hun (by simp [-bind_some, itc]) fun g6 S2 => ?_
 refine dcI S2 sn hB hun (by simp [-bind_some, itc]) fun g6 S3 => ?_
 refine dcI S3 sn hB hun (by simp [-bind_some, itc]) fun g6 S4 => ?_
 refine dcI S4 sn hB hun (by simp [-bind_some, itc]) fun g6 S5 => ?_
 refine dcL S5 sn hB hun (by simp [-bind_some, itc]) fun g6 ld sl S6 => ?_
 refine dcI S6 sn hB hun (by simp [-bind_some, itc]) fun g6 S7 => ?_
 refine dcI S7 sn hB hun (by simp [-bind_some, itc]) fun g6 S8 => ?_
 refine dcT S8 sn hB hun (by simp [-bind_some, itc]) fun g6 S9 => ?_
 refine dcT S9 sn hB hun (by simp [-bind_some, itc]) fun g6 S10 => ?_
 refine dcF S10 sn hB hun (by simp [-bind_some, itc]) fun g6 fd sf S11 => ?_
 have S : DcS h g6 (l.take n) dn ((rvI s0).row ld fd) (rvF s0).2 := S11
 have sl : SlOf 3 a1p (rvI s0).ls ld := sl
 have sf : SlOf 2 fld (rvI s0).fs fd := sf
 have lnb : ∀ s : Cur, (a1B s).1.toNat ≤ 9223372036854775807 := fun s => by
  have : (a1B s).1 ≤ 9223372036854775807 := by
   show IntKind.i64.wrap _ ≤ _
   rw [IntKind.wrap_i64]; omega
  omega
 obtain ⟨j, hj⟩ : ∃ j, j = c5B (rvI s0) ld fd sl sf (Nat.le_trans (b3O _ _) (lnb _)) (Nat.le_trans (b3M _ _) (lnb _)) := ⟨_, rfl⟩
 have hji : itr j = (rvI s0).row ld fd := by rw [hj]; rfl
 have hjr : a2S j = rvI s0 := by rw [hj]; rfl
 rw [← hji] at S
 have hc := hck j hjr
 have ldj : a0c tab g6 a0D (.ptr (h.length + 2) 0 0) = some (.agg (itr j)) := by rw [b0M, a0V S.hi]; rfl
 obtain ⟨m, hm, hm2, hm3⟩ := S.C
 obtain ⟨-, m1, m2, -⟩ := a2V hm
 have hmn : (m : Int) = (n : Int) ↔ (rvF s0).2.1 = [] := by
  rw [← hm3, List.drop_eq_nil_iff]
  omega
 have w7 : IntKind.wrap .i64 ((n : Int) + 4) = (n : Int) + 4 := wrap_i64 (by omega) (by omega)
 simp only [a4q, a3z, m1, m2, a1m, bs, Bool.not_not, d4X]
 by_cases b1 : (rvF s0).2.2 = true
 ·rw [if_pos (.inl b1)] at hdec
  simp only [b1, a0r, reduceCtorEq, d4Z, if_false, if_true, bs, a0e, a0W, a0d]
  exact out g6 zit 0 1 S.hr S.lo (by rw [← hv, hdec, a3r])
 have b1 : (rvF s0).2.2 = false := by simpa using b1
 simp only [b1, a0r, if_true, m1, a0t, ne_eq, hmn, bs, a0e, d4Y, if_false]
 by_cases b2 : (rvF s0).2.1 = []
 case neg =>
  rw [if_pos (.inr (.inl b2))] at hdec
  simp only [b2, not_false_eq_true, decide_true, a0r, reduceCtorEq, d4Z, if_false, if_true, bs, a0e, a0W, a0d]
  exact out g6 zit 0 1 S.hr S.lo (by rw [← hv, hdec, a3r])
 simp only [b2, not_true, decide_false, a0r, a0W, ldj, hc, if_true, bs, a0t, ne_eq, a0e, d4Y, if_false, a0d]
 by_cases b3 : c = 0
 case neg =>
  rw [if_pos (.inr (.inr b3))] at hdec
  simp only [b3, not_false_eq_true, decide_true, if_true]
  exact out g6 zit 0 1 S.hr S.lo (by rw [← hv, hdec, a3r])
 rw [if_neg (by simp [-bind_some, b1, b2, b3])] at hdec
 have b3' : decide (¬ c = 0) = false := by simp [-bind_some, b3]
 simp only [b3', d4Y, if_false, bs, a0u, w7]
 exact out g6 j ((n : Int) + 4) 0 S.hr S.lo (by rw [← hv, hdec, hjr])
theorem a6V {s : Cur} {n : Int} (h : (a0N s n).2.2 = false) : s.2 = false ∧ 0 ≤ n ∧ ((a0N s n).2.1.length : Int) + n = s.1.length := by
 unfold a0N at h ⊢
 split
 ·rename_i hh; rw [if_pos hh] at h; cases h
 ·rename_i hh
  have h1 : ¬ s.2 = true := fun x => hh (.inl x)
  have h2 : ¬ n < 0 := fun x => hh (.inr (.inl x))
  have h3 : ¬ (s.1.length : Int) < n := fun x => hh (.inr (.inr x))
  refine ⟨by simpa using h1, by omega, ?_⟩
  simp only [d5s]
  omega
theorem a2H {s : Cur} (h : (a1k s).2.2 = false) : s.2 = false ∧ (a1k s).2.1.length + 8 = s.1.length := by
 obtain ⟨a, b, c⟩ := a6V (s := s) (n := 8) h
 exact ⟨a, by
  have : ((a1k s).2.1.length : Int) + 8 = s.1.length := c
  omega⟩
theorem a7C {s : Cur} (h : (a1B s).2.2 = false) : s.2 = false ∧ (a1B s).2.1.length + 4 = s.1.length := by
 obtain ⟨a, b, c⟩ := a6V (s := s) (n := 4) h
 exact ⟨a, by
  have : ((a1B s).2.1.length : Int) + 4 = s.1.length := c
  omega⟩
theorem a7J (s : Cur) : (a0O s).2 = (a0N (a1B s).2 (a1B s).1).2 := by unfold a0O; split <;> rfl
theorem a4d {s : Cur} (h : (a0O s).2.2 = false) : s.2 = false ∧ (a0O s).2.1.length + 4 ≤ s.1.length := by
 rw [a7J] at h ⊢
 obtain ⟨a, b, c⟩ := a6V h
 obtain ⟨d, e⟩ := a7C a
 exact ⟨d, by omega⟩
theorem b6I {s : Cur} (h : (a4z s).2.2 = false) : s.2 = false ∧ (a4z s).2.1.length + 8 ≤ s.1.length := by
 have h : (a0O (a1k (a1k s).2).2).2.2 = false := h
 obtain ⟨a, b⟩ := a4d h
 obtain ⟨c, d⟩ := a2H a
 obtain ⟨e, f⟩ := a2H c
 exact ⟨e, by show (a0O (a1k (a1k s).2).2).2.1.length + 8 ≤ _; omega⟩
theorem c0g {s : Cur} (h : (fdS s).2.2 = false) : s.2 = false ∧ (fdS s).2.1.length + 8 ≤ s.1.length := by
 have h : (a0O (a0O s).2).2.2 = false := h
 obtain ⟨a, b⟩ := a4d h
 obtain ⟨c, d⟩ := a4d a
 exact ⟨c, by show (a0O (a0O s).2).2.1.length + 8 ≤ _; omega⟩
theorem b7C : ∀ (n : Nat) (s : Cur), (a3w n s).2.2 = false → s.2 = false ∧ 8 * n + (a3w n s).2.1.length ≤ s.1.length ∧ a3w n s = a4n n s
 | 0, s, h => ⟨h, by simp [-bind_some, a3w], rfl⟩
 | n + 1, s, h => by
  by_cases hs : s.2 = true
  ·rw [b3N _ _ hs] at h
   rw [hs] at h; cases h
  ·unfold a3w at h ⊢
   rw [if_neg hs] at h ⊢
   obtain ⟨a, b, c⟩ := b7C n (a4z s).2 h
   obtain ⟨d, e⟩ := b6I a
   refine ⟨d, ?_, ?_⟩
   ·show 8 * (n + 1) + (a3w n (a4z s).2).2.1.length ≤ _
    omega
   ·rw [c]; rfl
theorem b6N : ∀ (n : Nat) (s : Cur), (a4n n s).2.2 = false → s.2 = false ∧ a3w n s = a4n n s
 | 0, s, h => ⟨h, rfl⟩
 | n + 1, s, h => by
  obtain ⟨a, c⟩ := b6N n (a4z s).2 h
  obtain ⟨d, e⟩ := b6I a
  refine ⟨d, ?_⟩
  unfold a3w
  rw [if_neg (by simp [-bind_some, d]), c]; rfl
theorem b1S : ∀ (n : Nat) (s : Cur), (a3v n s).2.2 = false → s.2 = false ∧ 8 * n + (a3v n s).2.1.length ≤ s.1.length ∧ a3v n s = a4r n s
 | 0, s, h => ⟨h, by simp [-bind_some, a3v], rfl⟩
 | n + 1, s, h => by
  by_cases hs : s.2 = true
  ·rw [b3L _ _ hs] at h
   rw [hs] at h; cases h
  ·unfold a3v at h ⊢
   rw [if_neg hs] at h ⊢
   obtain ⟨a, b, c⟩ := b1S n (fdS s).2 h
   obtain ⟨d, e⟩ := c0g a
   refine ⟨d, ?_, ?_⟩
   ·show 8 * (n + 1) + (a3v n (fdS s).2).2.1.length ≤ _
    omega
   ·rw [c]; rfl
theorem b1x : ∀ (n : Nat) (s : Cur), (a4r n s).2.2 = false → s.2 = false ∧ a3v n s = a4r n s
 | 0, s, h => ⟨h, rfl⟩
 | n + 1, s, h => by
  obtain ⟨a, c⟩ := b1x n (fdS s).2 h
  obtain ⟨d, e⟩ := c0g a
  refine ⟨d, ?_⟩
  unfold a3v
  rw [if_neg (by simp [-bind_some, d]), c]; rfl
theorem b0d {s : Cur} (h : (a1B s).2.2 = false) (hn : 8 * (a1B s).1.toNat ≤ (a1B s).2.1.length) : a0P s = a1B s := by
 unfold a0P
 rw [if_neg]
 rintro (hh | hh)
 ·rw [h] at hh; cases hh
 ·rw [Int.tdiv_eq_ediv_of_nonneg (by omega)] at hh
  omega
theorem a5A {s : Cur} (h : (a0P s).2.2 = false) : a0P s = a1B s := by
 unfold a0P at h ⊢
 split
 ·rename_i hh; rw [if_pos hh] at h; cases h
 ·rfl
theorem c5P {s : Cur} : ((rvL s).2.2 = false ∨ (a6F s).2 = false) → rvL s = a4n (a0P (a3M s)).1.toNat (a0P (a3M s)).2 := by
 rintro (h | h)
 ·obtain ⟨a, b, c⟩ := b7C _ _ h
  have hc := b0d a (by omega)
  rw [hc]; exact c
 ·obtain ⟨a, c⟩ := b6N _ _ h
  have hc := a5A a
  rw [hc] at c ⊢
  exact c
theorem c5N {s : Cur} (h : (rvC s).2 = false) : (rvL s).2.2 = false := by
 have h : (a0O (a0O (a1k (a1k (rvL s).2).2).2).2).2.2 = false := h
 exact (a2H (a2H (a4d (a4d h).1).1).1).1
theorem c2y {s : Cur} (h : (a6a s).2 = false) : (a6F s).2 = false := by
 have h : (a0O (a0O (a1k (a1k (a6F s)).2).2).2).2.2 = false := h
 exact (a2H (a2H (a4d (a4d h).1).1).1).1
theorem c5Q {s : Cur} (h : (rvF s).2.2 = false ∨ (a6G s).2 = false) : (rvF s).2 = a6G s ∧ rvI s = a1O s := by
 have hL : rvL s = a4n (a0P (a3M s)).1.toNat (a0P (a3M s)).2 := by
  apply c5P
  rcases h with h | h
  ·exact .inl (c5N (a7C (b1S _ _ h).1).1)
  ·have h1 := (b1x _ _ h).1
   have h2 := a5A h1
   rw [h2] at h1
   exact .inr (c2y (a7C h1).1)
 have hB : (rvL s).2 = a6F s := by rw [hL]; rfl
 have hC : rvC s = a6a s := by unfold rvC a6a; rw [hB]
 have hF : rvF s = a4r (a0P (a6a s)).1.toNat (a0P (a6a s)).2 := by
  unfold rvF at h ⊢
  rw [hC] at h ⊢
  rcases h with h | h
  ·obtain ⟨a, b, c⟩ := b1S _ _ h
   have hc := b0d a (by omega)
   rw [hc]; exact c
  ·obtain ⟨a, c⟩ := b1x _ _ h
   have hc := a5A a
   rw [hc] at c ⊢
   exact c
 refine ⟨by rw [hF]; rfl, ?_⟩
 unfold rvI a1O
 rw [hB, hF, hL]
theorem b8S (c c' : Int) (l : List Int) (hc : rvI ((l.take (num (l.take 4)).toNat).drop 4, false) = a1O ((l.take (num (l.take 4)).toNat).drop 4, false) → c = c') : a8e c l = a6b c' l := by
 unfold a8e a6b
 generalize hs : ((l.take (num (l.take 4)).toNat).drop 4, false) = s at hc ⊢
 by_cases h0 : l.length < 4
 ·rw [if_pos h0, if_pos h0]
 rw [if_neg h0, if_neg h0]
 by_cases h1 : num (l.take 4) < 4 ∨ (l.length : Int) - 4 < num (l.take 4)
 ·rw [if_pos h1, if_pos h1]
 rw [if_neg h1, if_neg h1]
 by_cases h2 : a3K (l.take (num (l.take 4)).toNat) ≠ num ((l.drop (num (l.take 4)).toNat).take 4)
 ·rw [if_pos h2, if_pos h2]
 rw [if_neg h2, if_neg h2]
 by_cases hg : (rvF s).2.2 = false ∨ (a6G s).2 = false
 ·obtain ⟨a, b⟩ := c5Q hg
  have := hc b
  subst this
  rw [a, b]
  have e : (a6G s).1 ≠ [] ↔ 0 < (a6G s).1.length := by
   rw [List.length_pos_iff]
  simp only [e]
  split
  ·rfl
  ·rw [Int.add_comm]
 ·have g1 : (rvF s).2.2 = true := by
    cases hh : (rvF s).2.2
    ·exact absurd (.inl hh) hg
    ·rfl
  have g2 : (a6G s).2 = true := by
   cases hh : (a6G s).2
   ·exact absurd (.inr hh) hg
   ·rfl
  rw [if_pos (.inl g1), if_pos (.inl g2)]
theorem b7W (s : Cur) (n : Int) : (a0N s n).1.length ≤ s.1.length := by
 unfold a0N
 split
 ·exact Nat.zero_le _
 ·simp [-bind_some]; omega
theorem b7X (s : Cur) : ((a0O s).1.getD []).length ≤ s.1.length := by
 have h1 := b7W (a1B s).2 (a1B s).1
 have h2 := a7B s
 unfold a0O
 split
 ·simp [-bind_some]
 ·simp [-bind_some, bys]; omega
theorem b7B : ∀ (n : Nat) (s : Cur), (a3w n s).2.1.length ≤ s.1.length
 | 0, s => Nat.le_refl _
 | n + 1, s => by
  have h1 := b7B n (a4z s).2
  have h2 := b6H s
  unfold a3w
  split
  ·exact Nat.le_refl _
  ·simp only; omega
theorem b7A : ∀ (n : Nat) (s : Cur), ∀ p ∈ (a3v n s).1, p.1.length ≤ s.1.length
 | 0, s, p, hp => by cases hp
 | n + 1, s, p, hp => by
  have h1 := b7X s
  have h2 := a3o s
  have h3 := a3o (a0O s).2
  unfold a3v at hp
  split at hp
  ·cases hp
  ·rcases d5u.1 hp with rfl | hp
   ·exact h1
   ·have := b7A n (fdS s).2 p hp
    have h4 : (fdS s).2.1.length = (a0O (a0O s).2).2.1.length := rfl
    omega
theorem c5O (s : Cur) : ∀ p ∈ (rvI s).fs, p.1.length ≤ s.1.length := by
 intro p hp
 have h1 := b7A _ _ p (show p ∈ (a3v (a1B (rvC s)).1.toNat (a1B (rvC s)).2).1 from hp)
 have h2 := a7B (rvC s)
 have h3 := a3o (a0O (a1k (a1k (rvL s).2).2).2).2
 have h4 := a3o (a1k (a1k (rvL s).2).2).2
 have h5 := a3u (a1k (rvL s).2).2
 have h6 := a3u (rvL s).2
 have h7 := b7B (a1B (a3M s)).1.toNat (a1B (a3M s)).2
 have h8 := a7B (a3M s)
 have h9 := b1Z s
 have e1 : (rvC s).1.length = (a0O (a0O (a1k (a1k (rvL s).2).2).2).2).2.1.length := rfl
 have e2 : (rvL s).2.1.length = (a3w (a1B (a3M s)).1.toNat (a1B (a3M s)).2).2.1.length := rfl
 omega
def b1m (hs : Int) : List It → Int
 | [] => 0
 | i :: r => if itE i ≠ 0 then itE i else if i.e.a0 ≠ hs then 24 else if i.r = [42] then 6 else b1m hs r
def a1n (hs : Int) (its : List It) : Int := if 40 < its.length then 4 else b1m hs its
theorem c6g (hs nu : Int) (its : List It) (d : D) (h : Hp) (hd : RdI h its d) : R b6a [.agg (a1X hs nu d)] h = some (.int .i64 (a1n hs its), h) := by
 apply Wp.val
 rw [c8l]
 simp only [c3I, a1b, bx2, a6j, a6o hd, bs, d4X, a0v]
 by_cases h40 : 40 < its.length
 ·have hlen : (its.length : Int) > 40 := by omega
  simp only [hlen, decide_true, a0d, if_true, a0g, a1n, h40]
  exact .some rfl
 have hlen : ¬ (its.length : Int) > 40 := by omega
 have hB : a1n hs its = b1m hs its := by simp only [a1n, h40, if_false]
 rw [hB]
 simp only [hlen, decide_false, a0d, d4Y, if_false]
 generalize hV : b1m hs its = V
 refine Wp.loop (fun k ds g => g = h ∧ ∃ a1 a2 a3 a4 a5 a6 a7, ∃ n : Nat, ds = [a1, a2, a3, .int .i64 n, a4, a5, a6, a7] ∧ k + n = its.length ∧ b1m hs (its.drop n) = V)
  (fun r => r.2.2 = h ∧ ((r.1 = .ext 0 ∧ V = 0) ∨ (r.1 = .ret ∧ nth 0 r.2.1 = .int .i64 V))) its.length ⟨rfl, _, _, _, _, _, _, _, 0, rfl, rfl, hV⟩ ?_ ?_
 ·rintro k ds g ⟨rfl, a1, a2, a3, a4, a5, a6, a7, n, rfl, hk, hch⟩
  simp only [b2p, a0f, a0n, bs, d4X, a0j]
  refine Wp.dif ?_ ?_
  ·intro h0
   have h0 : n < its.length := dl_ h0
   obtain ⟨i, hi⟩ := gx_ h0
   have hw := wi_ n (by omega)
   obtain ⟨q, hii, hq⟩ := b3J hd n i hi
   have hck := b7I i g
   have q0 : a0a tab a0E 0 (.fptr (evr i.e)) = some (.fptr (evr i.e)) := id rfl
   have q1 : a0c tab g ty3 (.fptr (evr i.e)) = some (.int .i64 i.e.a0) := id rfl
   rw [a3y hi] at hch
   unfold b1m at hch
   simp only [hii, hq, b4H, a9V, hck, bs, a0t]
   by_cases c1 : itE i = 0
   case neg =>
    rw [if_pos c1] at hch
    simp only [c1, ne_eq, not_false_eq_true, decide_true, a0d, if_true]
    exact .some (.inr ⟨by simp, rfl, .inr ⟨rfl, by rw [← hch]; rfl⟩⟩)
   rw [if_neg (fun hh => hh c1)] at hch
   simp only [c1, ne_eq, not_true, decide_false, a0d, d4Y, if_false, c0m, q0, q1, bx0, bxl, bs, a0t]
   by_cases c2 : i.e.a0 = hs
   case neg =>
    rw [if_pos c2] at hch
    simp only [c2, not_false_eq_true, decide_true, a0d, if_true]
    exact .some (.inr ⟨by simp, rfl, .inr ⟨rfl, by rw [← hch]; rfl⟩⟩)
   rw [if_neg (fun hh => hh c2)] at hch
   simp only [c2, not_true, decide_false, a0d, d4Y, if_false, c1J, c1K, a2c, bs]
   by_cases c3 : i.r = [42]
   ·rw [if_pos c3] at hch
    have c3' : (i.r == ([42] : Str)) = true := by simpa using c3
    simp only [c3', a0d, if_true]
    exact .some (.inr ⟨by simp, rfl, .inr ⟨rfl, by rw [← hch]; rfl⟩⟩)
   ·rw [if_neg c3] at hch
    have c3' : (i.r == ([42] : Str)) = false := by simpa using c3
    simp only [c3', a0d, d4Y, if_false, a0u, hw, bs]
    exact .some (.inl ⟨rfl, k - 1, by omega, rfl, _, _, _, _, _, _, _, n + 1, rfl, by omega, hch⟩)
  ·intro h0
   have h0 : its.length ≤ n := by
    have : ¬ (n : Int) < its.length := by simpa using h0
    omega
   rw [List.drop_of_length_le h0] at hch
   exact .some (.inr ⟨by simp, rfl, .inl ⟨rfl, hch.symm⟩⟩)
 ·rintro ⟨ex, ds, g⟩ ⟨q2, q1⟩
  simp only at q1 q2
  subst q2
  rcases q1 with ⟨rfl, rfl⟩ | ⟨rfl, hv⟩
  ·simp only [a0l, a0o, bs, a0g]
   exact .some rfl
  ·simp only [a1J, a1I, a1H, a0f, bs, hv, a0g]
   exact .some rfl
theorem c6i (hs nu : Int) (its : List It) (d : D) (h : Hp) (hd : RdI h its d) (hnm : ∀ i ∈ its, NmB i.e) : R b6b [.agg (a1X hs nu d)] h = some (.int .i64 (a1n hs its), h) := by
 apply Wp.val
 rw [c8q]
 simp only [c3L, a1b, bx2, a6j, a6o hd, bs, d4X, a0v]
 by_cases h40 : 40 < its.length
 ·have hlen : (its.length : Int) > 40 := by omega
  simp only [hlen, decide_true, a0d, if_true, a0g, a1n, h40]
  exact .some rfl
 have hlen : ¬ (its.length : Int) > 40 := by omega
 have hB : a1n hs its = b1m hs its := by simp only [a1n, h40, if_false]
 rw [hB]
 simp only [hlen, decide_false, a0d, d4Y, if_false]
 generalize hV : b1m hs its = V
 refine Wp.loop (fun k ds g => g = h ∧ ∃ a1 a3 a4 a5 a6 a7 a8, ∃ n : Nat, ds = [a1, .int .i64 n, a3, a4, a5, a6, a7, a8] ∧ k + n = its.length ∧ b1m hs (its.drop n) = V)
  (fun r => r.2.2 = h ∧ ((r.1 = .ext 0 ∧ V = 0) ∨ (r.1 = .ret ∧ nth 0 r.2.1 = .int .i64 V))) its.length ⟨rfl, _, _, _, _, _, _, _, 0, rfl, rfl, hV⟩ ?_ ?_
 ·rintro k ds g ⟨rfl, a1, a3, a4, a5, a6, a7, a8, n, rfl, hk, hch⟩
  simp only [b2t, a0f, a0n, bs, d4X, bx2, a6j, a6o hd, a0j]
  refine Wp.dif ?_ ?_
  ·intro h0
   have h0 : n < its.length := dl_ h0
   obtain ⟨i, hi⟩ := gx_ h0
   have hw := wi_ n (by omega)
   obtain ⟨q, hii, hq⟩ := b3J hd n i hi
   have hck := b7F i g (hnm i (d5m hi))
   have q0 : a0a tab a0E 0 (.fptr (evr i.e)) = some (.fptr (evr i.e)) := id rfl
   have q1 : a0c tab g ty3 (.fptr (evr i.e)) = some (.int .i64 i.e.a0) := id rfl
   rw [a3y hi] at hch
   unfold b1m at hch
   simp only [hii, hq, b4H, a9V, hck, bs, a0t]
   by_cases c1 : itE i = 0
   case neg =>
    rw [if_pos c1] at hch
    simp only [c1, ne_eq, not_false_eq_true, decide_true, a0d, if_true]
    exact .some (.inr ⟨by simp, rfl, .inr ⟨rfl, by rw [← hch]; rfl⟩⟩)
   rw [if_neg (fun hh => hh c1)] at hch
   simp only [c1, ne_eq, not_true, decide_false, a0d, d4Y, if_false, c0m, q0, q1, bx0, bxl, bs, a0t]
   by_cases c2 : i.e.a0 = hs
   case neg =>
    rw [if_pos c2] at hch
    simp only [c2, not_false_eq_true, decide_true, a0d, if_true]
    exact .some (.inr ⟨by simp, rfl, .inr ⟨rfl, by rw [← hch]; rfl⟩⟩)
   rw [if_neg (fun hh => hh c2)] at hch
   simp only [c2, not_true, decide_false, a0d, d4Y, if_false, c1J, c1K, a2c, bs]
   by_cases c3 : i.r = [42]
   ·rw [if_pos c3] at hch
    have c3' : (i.r == ([42] : Str)) = true := by simpa using c3
    simp only [c3', a0d, if_true]
    exact .some (.inr ⟨by simp, rfl, .inr ⟨rfl, by rw [← hch]; rfl⟩⟩)
   ·rw [if_neg c3] at hch
    have c3' : (i.r == ([42] : Str)) = false := by simpa using c3
    simp only [c3', a0d, d4Y, if_false, a0u, hw, bs]
    exact .some (.inl ⟨rfl, k - 1, by omega, rfl, _, _, _, _, _, _, _, n + 1, rfl, by omega, hch⟩)
  ·intro h0
   have h0 : its.length ≤ n := by
    have : ¬ (n : Int) < its.length := by simpa using h0
    omega
   rw [List.drop_of_length_le h0] at hch
   exact .some (.inr ⟨by simp, rfl, .inl ⟨rfl, hch.symm⟩⟩)
 ·rintro ⟨ex, ds, g⟩ ⟨q2, q1⟩
  simp only at q1 q2
  subst q2
  rcases q1 with ⟨rfl, rfl⟩ | ⟨rfl, hv⟩
  ·simp only [a0l, a0o, bs, a0g]
   exact .some rfl
  ·simp only [a1J, a1I, a1H, a0f, bs, hv, a0g]
   exact .some rfl
theorem c0b {hst : Int} {i : It} (h : BIt hst i) : NmB i.e := by
 intro p hp
 rcases h.good with ⟨_, hg⟩ | hg
 ·have := (hg.fn p hp).2
  omega
 ·rw [hg.fs] at hp; cases hp
theorem b2I {hs : Int} : ∀ {its : List It}, b1m hs its = 0 → ∀ i ∈ its, itE i = 0 ∧ i.e.a0 = hs ∧ i.r ≠ [42]
 | [], _, i, hi => by cases hi
 | x :: r, h, i, hi => by
  unfold b1m at h
  split at h
  ·rename_i hh; exact absurd h hh
  rename_i h1
  split at h
  ·cases h
  rename_i h2
  split at h
  ·cases h
  rename_i h3
  rcases d5u.1 hi with rfl | hi
  ·exact ⟨Decidable.not_not.1 h1, Decidable.not_not.1 h2, h3⟩
  ·exact b2I h i hi
theorem a2X {hs : Int} {its : List It} (h : a1n hs its = 0) : its.length ≤ 40 ∧ ∀ i ∈ its, itE i = 0 ∧ i.e.a0 = hs ∧ i.r ≠ [42] := by
 unfold a1n at h
 split at h
 ·cases h
 ·exact ⟨by omega, b2I h⟩
theorem c4F {h : Hp} {o : Nat} (hc : CD h o) (host most : Int) (h0 : 0 ≤ host) (h9 : host ≤ 999) (hm0 : 0 ≤ most) (hm1 : most ≤ 100) : ∃ x h', R b3d [.ptr o 0 0, .int .i64 host, .int .i64 most] h = some (x, h') ∧ CD h' o ∧ h.length ≤ h'.length ∧ (∀ q, q < h.length → q ≠ o → h'[q]? = h[q]?) ∧ ∃ bt : List (List It × D × Int), Own h' h.length a0q 3 (bt.map (a8W host)) x ∧ (∀ p ∈ bt, Own h' h.length a0D 11 (p.1.map itr) p.2.1 ∧ p.1.length ≤ 3 ∧ (∀ i ∈ p.1, BIt host i) ∧ 0 ≤ p.2.2 ∧ p.2.2 ≤ 12) ∧ 1 ≤ bt.length ∧ bt.length ≤ 24 := by
 suffices Wp (R b3d [.ptr o 0 0, .int .i64 host, .int .i64 most] h) (fun p => CD p.2 o ∧ h.length ≤ p.2.length ∧ (∀ q, q < h.length → q ≠ o → p.2[q]? = h[q]?) ∧ ∃ bt : List (List It × D × Int), Own p.2 h.length a0q 3 (bt.map (a8W host)) p.1 ∧ (∀ p' ∈ bt, Own p.2 h.length a0D 11 (p'.1.map itr) p'.2.1 ∧ p'.1.length ≤ 3 ∧ (∀ i ∈ p'.1, BIt host i) ∧ 0 ≤ p'.2.2 ∧ p'.2.2 ≤ 12) ∧ 1 ≤ bt.length ∧ bt.length ≤ 24) by
  obtain ⟨⟨x, h'⟩, h1, h2⟩ := this
  exact ⟨x, h', h1, h2⟩
 have ho := hc.lt
 rw [c8i]
 simp only [c3G, bs, d4X]
 obtain ⟨dps, g0, e0, c0, s0, ps, hps, hn3, hn1, hf⟩ := d2I hc host most hm0 hm1
 refine Wp.step e0 ?_
 simp only [b6F hps, d4y g0 ps.length (by omega), bs]
 have hg0 : g0.length = h.length := s0.1
 have B0 : BtI h o host ps g0.length (a0F g0 ty3 1 ((List.replicate ps.length 0).map atR)) .nils [] (List.replicate ps.length 0) := by
  refine ⟨by simp [-bind_some, a0F]; omega, fun q hq hn => ?_, c0.keep (a0U _ _ _ _ (by omega)), by omega, a1q _ _ _ _, by simp, fun f n p hn hp => ?_, Own.nils _ _ _ _, by simp⟩
  ·rw [a0U _ _ _ _ (by omega)]; exact s0.2 q hn
  ·have := d5m hn
   simp at this
   omega
 generalize hqa : g0.length = qa at B0
 generalize a0F g0 ty3 1 ((List.replicate ps.length 0).map atR) = g1 at B0
 generalize List.replicate ps.length 0 = ats0 at B0
 refine Wp.loop (fun k ds g => ∃ x a2 a3 a4 a5 a6 a7 a8 a9 b1 b2 b3 b4 b5 bt ats, ∃ n : Nat, ds = [x, .int .i64 n, a2, a3, a4, a5, a6, a7, a8, a9, b1, b2, b3, b4, b5] ∧ k + n = 12 ∧ BtI h o host ps qa g x bt ats ∧ bt.length ≤ 2 * n ∧ n ≤ bt.length)
  (fun r => ∃ x a1 a2 a3 a4 a5 a6 a7 a8 a9 b1 b2 b3 b4 b5 bt ats, r.1 = .ext 0 ∧ r.2.1 = [x, a1, a2, a3, a4, a5, a6, a7, a8, a9, b1, b2, b3, b4, b5] ∧ BtI h o host ps qa r.2.2 x bt ats ∧ 1 ≤ bt.length ∧ bt.length ≤ 24) 12
  ⟨_, _, _, _, _, _, _, _, _, _, _, _, _, _, [], ats0, 0, rfl, rfl, B0, by simp, by simp⟩ ?_ ?_
 ·rintro k ds g ⟨x, a2, a3, a4, a5, a6, a7, a8, a9, b1, b2, b3, b4, b5, bt, ats, n, rfl, hk, B, hbl, hbn⟩
  simp only [b2n, a0f, a0n, bs, d4X, a0j]
  refine Wp.dif ?_ ?_
  ·intro hlt
   have hlt : n < 12 := dl_ hlt
   have hwn := wi_ n (by omega)
   simp only [a6f, bs]
   have hgl := B.len
   have hold : ∀ q, q < g.length → (a0F g a0q 3 [[.int .i64 0, .int .i64 0, .nils]])[q]? = g[q]? := fun q hq => a0U _ _ _ _ hq
   have hzz : (a0F g a0q 3 [[.int .i64 0, .int .i64 0, .nils]])[g.length]? = some (.row a0q 3 [[.int .i64 0, .int .i64 0, .nils]]) := a1q _ _ _ _
   have hzl : (a0F g a0q 3 [[.int .i64 0, .int .i64 0, .nils]]).length = g.length + 1 := by simp [-bind_some, a0F]
   generalize hp11 : ((D.ptr g.length 0 0, a0F g a0q 3 [[.int .i64 0, .int .i64 0, .nils]]) : D × Hp) = p11
   have hp1 : p11.1 = .ptr g.length 0 0 := by rw [← hp11]
   generalize a0F g a0q 3 [[.int .i64 0, .int .i64 0, .nils]] = g2 at hold hzz hzl
   have qal := (d5p.1 B.at_).1
   have L : BtL h o qa g.length x bt := ⟨hgl, ho, qal, fun q hq => (B.out.lt hq).2, fun p hp q hq => ((B.its p hp).1.lt hq).2⟩
   refine a6s hzz (by rfl) (by rfl) (by simp) (by rfl) fun g3 q3 s3 => ?_
   replace q3 : g3[g.length]? = some (.row a0q 3 [[.int .i64 host, .int .i64 n, .nils]]) := q3
   have B3 := B.keep L (B.cd.keep ((s3.2 o (by omega)).trans (hold o (by omega)))) (by rw [s3.1]; omega) (fun q hq _ => (s3.2 q (by omega)).trans (hold q hq))
   have bn : BnI h o host ps qa x bt g.length n g3 ats [] .nils := ⟨B3, by rw [s3.1]; omega, q3, Own.nils _ _ _ _, by simp⟩
   try simp only [bs]
   obtain ⟨v, g4, e4, c4, s4, v0, v1⟩ := a2h bn.B.cd 3 (by omega) (by omega)
   refine Wp.step e4 ?_
   have bn4 := bn.next L c4 s4
   obtain ⟨m, rfl⟩ := Int.eq_ofNat_of_zero_le v0
   have hw1 : IntKind.wrap .i64 (1 + (m : Int)) = ((m + 1 : Nat) : Int) := by
    rw [wrap_i64 (by omega) (by omega)]; omega
   simp only [a0u, hw1, bs, d4X]
   refine Wp.loop (fun k ds g' => ∃ c1 c2 c3 c4 c5 c6 c7 c8 c9 ats its y, ds = [.int .i64 (k : Nat), c1, c2, c3, c4, c5, c6, c7, c8, c9] ∧ k ≤ 3 ∧ its.length + k ≤ 3 ∧ BnI h o host ps qa x bt g.length n g' ats its y)
    (fun r => ∃ c0 c1 c2 c3 c4 c5 c6 c7 c8 c9 ats its y, r.1 = .ext 2 ∧ r.2.1 = [c0, c1, c2, c3, c4, c5, c6, c7, c8, c9] ∧ its.length ≤ 3 ∧ BnI h o host ps qa x bt g.length n r.2.2 ats its y) (m + 1)
    ⟨_, _, _, _, _, _, _, _, _, ats, [], .nils, rfl, by omega, by simp; omega, bn4⟩ ?_ ?_
   ·rintro k' ds g' ⟨c1, c2, c3, c4, c5, c6, c7, c8, c9, ats', its', y', rfl, hk3, hlk, bn'⟩
    rcases Nat.eq_zero_or_pos k' with rfl | hpos
    ·simp only [a6I, a0f, a0n, bs, a0v]
     exact .some (.inr ⟨by simp, _, _, _, _, _, _, _, _, _, _, ats', its', y', rfl, rfl, by omega, bn'⟩)
    ·refine (c7g L hps hf hn1 hn3 hm1 h0 h9 bn' (by omega) p11 hp1 k' hpos (by omega) _ _ _ _ _ _ _ _ _).mono ?_
     rintro _ ⟨g'', ats'', its'', y'', d1, d2, d3, d4, d5, d6, d7, d8, d9, rfl, bn'', hl''⟩
     exact .inl ⟨rfl, k' - 1, by omega, d1, d2, d3, d4, d5, d6, d7, d8, d9, ats'', its'', y'', rfl, by omega, by omega, bn''⟩
   ·rintro ⟨ex, ds, g'⟩ ⟨c0', c1, c2, c3, c4, c5, c6, c7, c8, c9, ats', its', y', q1, q2, hl3, bn'⟩
    simp only at q1 q2 bn'
    subst q1; subst q2
    simp only [a0l, a0o, a0f, a0n, bs, d4X, hp1]
    have hld : a0c tab g' a0q (.ptr g.length 0 0) = some (.agg [.int .i64 host, .int .i64 n, y']) := by
     rw [a6k, a0V bn'.pr]; rfl
    simp only [hld, bs, b8F]
    have hpb := bn'.pg
    refine b9X bn'.B ho (by omega) (its', y', (n : Int)) ⟨bn'.ow.from (by omega), hl3, bn'.ok, by show (0 : Int) ≤ (n : Int); omega, by show (n : Int) ≤ 12; omega⟩ fun x1 g5 B5 fre5 len5 => ?_
    try simp only [bs]
    obtain ⟨u, g6, e6, c6, s6, u0, u1⟩ := a2h B5.cd 4 (by omega) (by omega)
    refine Wp.step e6 ?_
    have B6 := B5.same ho c6 s6
    have hlen : (bt ++ [(its', y', (n : Int))]).length = bt.length + 1 := by simp
    have hdec : decide ((0 : Int) < ((bt ++ [(its', y', (n : Int))]).length : Int)) = true := decide_eq_true (by rw [hlen]; omega)
    generalize bt ++ [(its', y', (n : Int))] = bt1 at B5 B6 hlen hdec
    have hlo := b3w B6.out
    rw [d5d] at hlo
    simp only [a0R, bs, a0r, hlo, a0v, hdec, d4X]
    have fin : ∀ (q : Bool) (R1 : Option D), (R1 = some (.bool q)) → True := fun _ _ _ => trivial
    generalize hq3 : decide (u = (3 : Int)) = b3
    have hpk : ((if b3 = true then some x1 else some D.und).bind fun t131 => (if b3 = true then a0y tab a1G t131 else some .und).bind fun t132 => (if b3 = true then a0k tab .gtr ty3 t132 (.int .i64 0) else some .und).bind fun t133 => a0M (.bool b3) t133 (.bool false)) = some (.bool b3) := by
     cases b3
     ·simp [-bind_some]
     ·simp only [if_true, bs, hlo, a0v, hdec, a0e]
    cases b3
    ·simp only [d4Y, if_false, bs, a0e, a0d, a0o, a1t, a0f, a0u, hwn]
     exact .some (.inl ⟨rfl, k - 1, by omega, x1, _, _, _, _, _, _, _, _, _, _, _, _, _, bt1, ats', n + 1, rfl, by omega, B6, by omega, by omega⟩)
    ·simp only [if_true, bs, hlo, a0v, hdec, a0e, a0d, d4X]
     obtain ⟨w, g7, e7, c7, s7, w0, w1⟩ := a2h B6.cd bt1.length (by omega) (by omega)
     refine Wp.step e7 ?_
     have B7 := B6.same ho c7 s7
     obtain ⟨j, rfl⟩ := Int.eq_ofNat_of_zero_le w0
     have hj : j < bt1.length := by omega
     obtain ⟨pj, hpj⟩ : ∃ p, bt1[j]? = some p := ⟨_, d5o hj⟩
     obtain ⟨ob, hob, rfl, hgo⟩ := a4k B7.out (i := j) (by simpa using hj)
     have hjj : (0 : Int) ≤ (j : Int) ∧ (j : Int) < (((bt1.map (a8W host)).length : Nat) : Int) := by rw [d5d]; omega
     have hr : (bt1.map (a8W host))[j]? = some (a8W host pj) := by rw [d5l, hpj]; rfl
     have hld2 : a0c tab g7 a0q (.ptr ob j 0) = some (.agg (a8W host pj)) := by
      rw [a6k, a0V hgo, hr]; rfl
     have hbl2 : a1h tab a1G 1 [0] [.agg (a8W host pj)] = some (.sl 3 true [a8W host pj]) := id rfl
     simp only [b6w, hjj, and_self, if_true, Nat.zero_add, d5h, bs, hld2, hbl2]
     refine b9X B7 ho (by omega) pj (B7.its pj (d5m hpj)) fun x2 g8 B8 fre8 len8 => ?_
     simp only [bs, a0o, a1t, a0f, a0u, hwn]
     exact .some (.inl ⟨rfl, k - 1, by omega, x2, _, _, _, _, _, _, _, _, _, _, _, _, _, bt1 ++ [pj], ats', n + 1, rfl, by omega, B8, by simp; omega, by simp; omega⟩)
  ·intro hge
   have hge : n = 12 := by
    have : ¬ (n : Int) < 12 := by simpa using hge
    omega
   exact .some (.inr ⟨by simp, x, _, _, _, _, _, _, _, _, _, _, _, _, _, _, bt, ats, rfl, rfl, B, by omega, by omega⟩)
 ·rintro ⟨ex, ds, g⟩ ⟨x, a1, a2, a3, a4, a5, a6, a7, a8, a9, b1, b2, b3, b4, b5, bt, ats, q1, q2, B, hl1, hl24⟩
  simp only at q1 q2 B
  subst q1; subst q2
  simp only [a0l, a0o, a0f, bs, a0g]
  exact .some ⟨B.cd, B.len, B.gr, bt, B.out, B.its, by omega, by omega⟩
def a9N (hs nu : Int) (its : List It) : List Int := if a1n hs its = 0 then a6e hs nu its else []
theorem b7N (hs nu : Int) (its : List It) (d : D) (h : Hp) (hd : RdI h its d) (hT0 : a1n hs its = 0 → (its.map a3L).flatten.length ≤ 790000000) : ∃ d', R a8l [.agg (a1X hs nu d)] h = some (.tup [d', .int .i64 (a1n hs its)], h) ∧ SlOf 1 byr (a9N hs nu its) d' := by
 have hchk := c6g hs nu its d h hd
 by_cases hc : a1n hs its = 0
 case neg =>
  refine ⟨.nils, ?_, by unfold a9N; rw [if_neg hc]; exact .nils _ _⟩
  rw [c4Q]
  have hcc : decide (a1n hs its ≠ 0) = true := decide_eq_true hc
  simp only [c1e, a1b, bs, bxb, hchk, a0t, hcc, a0d, if_true, a0S]
  exact a1i (by simp) (.tup _ fun d hd => by simp at hd; rcases hd with rfl | rfl <;> constructor) (Nat.le_refl _) fun _ _ => rfl
 obtain ⟨h40, hall⟩ := a2X hc
 have hT := hT0 hc
 unfold a9N
 rw [if_pos hc, hc]
 rw [hc] at hchk
 suffices Wp (R a8l [.agg (a1X hs nu d)] h) (fun p => p.2 = h ∧ ∃ d', p.1 = .tup [d', .int .i64 0] ∧ SlOf 1 byr (a6e hs nu its) d') by
  obtain ⟨⟨x, h'⟩, h1, rfl, d', rfl, h2⟩ := this
  exact ⟨d', h1, h2⟩
 obtain ⟨d1, h1, e1, o1, n1, k1⟩ := c6p [] hs .nils h (.inl (.nils _ _)) (by simp)
 have e1 : R b0B [.nils, .int .i64 hs] h = some (d1, h1) := e1
 obtain ⟨d2, h2, e2, o2, n2, k2⟩ := c6p _ nu d1 h1 (RdB.own o1) (by simp [-bind_some, a1d])
 have hw : IntKind.wrap .u32 (its.length : Int) = its.length := a3q (by omega) (by omega)
 have hw6 : IntKind.wrap .u64 (its.length : Int) = its.length := a1j (by omega) (by omega)
 have hpN : pN its.length = a2Y its.length := by unfold pN; rw [hw6, b7u]
 have B2 : Bw h.length h .nils h2 (([] ++ pI hs) ++ pI nu) d2 := ⟨c5E o2 n1, Nat.le_trans n1 n2, fun q hq _ => (k2 q (by omega)).trans (k1 q hq), fun q hq => .inr (by have := (o2.lt hq).1; omega)⟩
 rw [c4Q]
 simp only [c1e, a1b, bs, d4X, bxb, hchk, a0t, ne_eq, not_true, decide_false, a0d, d4Y, if_false, bx0, bx1, bx2, bxl, ld3, a6j, e1, e2, a6o hd, c0d, hw, c2i]
 refine b4N B2 (Nat.le_trans n1 n2) (a1g _ _ _ _) (by simp [-bind_some, a1d, a2v]) fun d3 h3 B3 n3 => ?_
 have hA : [] ++ pI hs ++ pI nu ++ a2Y its.length = pI hs ++ pI nu ++ pN its.length := by rw [hpN]; rfl
 rw [hA] at B3
 have hAl : (pI hs ++ pI nu ++ pN its.length).length = 20 := by simp only [d5c, a1d, a1x]
 simp only [a1D, bs, d4X]
 refine Wp.loop (fun k ds g => h.length ≤ g.length ∧ ∃ a0 a1 d' a3 a4 a5 a7 a8, ∃ n : Nat, ds = [a0, a1, d', a3, a4, a5, .int .i64 n, a7, a8] ∧ k + n = its.length ∧ Bw h.length h .nils g ((pI hs ++ pI nu ++ pN its.length) ++ ((its.take n).map a3L).flatten) d')
  (fun r => r.1 = .ext 0 ∧ h.length ≤ r.2.2.length ∧ (∃ a0 a1 d' a3 a4 a5 a6 a7 a8, r.2.1 = [a0, a1, d', a3, a4, a5, a6, a7, a8] ∧ Bw h.length h .nils r.2.2 (a6e hs nu its) d')) its.length ⟨n3, _, _, _, _, _, _, _, _, 0, rfl, rfl, by simpa using B3⟩ ?_ ?_
 ·rintro k ds g ⟨hg, a0, a1, d', a3, a4, a5, a7, a8, n, rfl, hk, B⟩
  simp only [b2A, a0f, a0n, bs, d4X, a0j]
  refine Wp.dif ?_ ?_
  ·intro h0
   have h0 : n < its.length := by have : (n : Int) < its.length := (by simpa using h0); omega
   obtain ⟨i, hi⟩ := gx_ h0
   have hB := (hall i (d5m hi)).1
   have hw := wi_ n (by omega)
   have hdg : RdI g its d := hd.keep fun q hq => B.old q hq (a8r q)
   obtain ⟨q, hii, hq⟩ := b3J hdg n i hi
   have hle := a5g a3L its (n + 1)
   rw [a1r a3L hi, d5c] at hle
   have hil := a3S i
   obtain ⟨de, ee, he⟩ := d1B i 0 g (fun g => by rw [← hB]; exact b7I i g) (by omega)
   rw [if_pos rfl] at he
   simp only [hii, hq, a9V, b4H, ee, bs, a0A, d5a, d5b, a0t, ne_eq, not_true, decide_false, a0d, d4Y, if_false]
   refine b4N B hg (a4b (.inl he)) (by simp only [d5c, a1d, a1x]; omega) fun d4 g4 B4 n4 => ?_
   simp only [bs, a0u, hw]
   refine .some (.inl ⟨rfl, k - 1, by omega, n4, _, _, _, _, _, _, _, _, n + 1, rfl, by omega, ?_⟩)
   rw [a1r a3L hi]
   simpa using B4
  ·intro h0
   have h0 : n = its.length := by have : ¬ (n : Int) < its.length := (by simpa using h0); omega
   subst h0
   rw [d5x] at B
   exact .some (.inr ⟨by simp, rfl, hg, _, _, _, _, _, _, _, _, _, rfl, B⟩)
 ·rintro ⟨ex, ds, g⟩ ⟨rfl, q2, a0, a1, d', a3, a4, a5, a6, a7, a8, rfl, B⟩
  simp only [a0l, a0o, bs, a0f, a0n, a0S]
  have hsl := a2C (n0 := h.length) (n := 2) B.ow (Nat.le_refl _) (fun a _ => a5d _ g 2 a)
  rw [a1i (d' := .tup [frz h.length g 3 d', .int .i64 0]) (by simp) (by
   refine .tup _ fun d hd => ?_
   simp at hd
   rcases hd with rfl | rfl
   ·exact a2e hsl fun a _ => a7X _ a
   ·constructor) q2 (fun q hq => B.old q hq (a8r q))]
  exact .some ⟨rfl, _, rfl, hsl⟩
theorem b7K (hs nu : Int) (its : List It) (d : D) (h : Hp) (hd : RdI h its d) (hnm : ∀ i ∈ its, NmB i.e) (hT0 : a1n hs its = 0 → (its.map a3L).flatten.length ≤ 790000000) : ∃ d', R a8k [.agg (a1X hs nu d)] h = some (.tup [d', .int .i64 (a1n hs its)], h) ∧ SlOf 1 byr (a9N hs nu its) d' := by
 have hchk := c6i hs nu its d h hd hnm
 by_cases hc : a1n hs its = 0
 case neg =>
  refine ⟨.nils, ?_, by unfold a9N; rw [if_neg hc]; exact .nils _ _⟩
  rw [c4O]
  have hcc : decide (a1n hs its ≠ 0) = true := decide_eq_true hc
  simp only [c1c, a1b, bs, bxb, hchk, a0t, hcc, a0d, if_true, a0S]
  exact a1i (by simp) (.tup _ fun d hd => by simp at hd; rcases hd with rfl | rfl <;> constructor) (Nat.le_refl _) fun _ _ => rfl
 obtain ⟨h40, hall⟩ := a2X hc
 have hT := hT0 hc
 unfold a9N
 rw [if_pos hc, hc]
 rw [hc] at hchk
 suffices Wp (R a8k [.agg (a1X hs nu d)] h) (fun p => p.2 = h ∧ ∃ d', p.1 = .tup [d', .int .i64 0] ∧ SlOf 1 byr (a6e hs nu its) d') by
  obtain ⟨⟨x, h'⟩, h1, rfl, d', rfl, h2⟩ := this
  exact ⟨d', h1, h2⟩
 rw [c4O]
 simp only [c1c, a1b, bs, d4X, bxb, hchk, a0t, ne_eq, not_true, decide_false, a0d, d4Y, if_false, bx0, bx1, bx2, bxl, ld3, a6j, a6o hd, a2f, a1D]
 have B0 : Bw h.length h .nils h [] .nils := Bw.refl (Own.nils _ _ _ _)
 obtain ⟨d1, h1, e1, B1⟩ := b7H (IntKind.wrap .u64 hs) 8 (by omega) h.length h [] .nils (Nat.le_refl _) B0.ow (by simp)
 have e1 : R a4s [.nils, .int .u64 (IntKind.wrap .u64 hs), .int .i64 8] h = some (d1, h1) := e1
 refine Wp.step e1 ?_
 simp only [bs]
 obtain ⟨d2, h2, e2, B2⟩ := b7H (IntKind.wrap .u64 nu) 8 (by omega) h.length h1 _ d1 B1.len B1.ow (by simp only [d5c, d5r, a1e]; omega)
 have e2 : R a4s [d1, .int .u64 (IntKind.wrap .u64 nu), .int .i64 8] h1 = some (d2, h2) := e2
 refine Wp.step e2 ?_
 simp only [bs]
 have n2 := Nat.le_trans B1.len B2.len
 obtain ⟨d3, h3, e3, B3⟩ := b7H (IntKind.wrap .u64 its.length) 4 (by omega) h.length h2 _ d2 n2 B2.ow (by simp only [d5c, d5r, a1e]; omega)
 have e3 : R a4s [d2, .int .u64 (IntKind.wrap .u64 its.length), .int .i64 4] h2 = some (d3, h3) := e3
 refine Wp.step e3 ?_
 simp only [bs, a1D]
 have hA : [] ++ a4l 8 (IntKind.wrap .u64 hs) ++ a4l 8 (IntKind.wrap .u64 nu) ++ a4l 4 (IntKind.wrap .u64 its.length) = pI hs ++ pI nu ++ pN its.length := by simp [-bind_some, pI, pN]
 rw [hA] at B3
 have BB := (B1.trans B2).trans B3
 have n3 := Nat.le_trans n2 B3.len
 refine Wp.loop (fun k ds g => h.length ≤ g.length ∧ ∃ d' x y, ∃ n : Nat, ds = [d', .int .i64 n, x, y] ∧ k + n = its.length ∧ Bw h.length h .nils g ((pI hs ++ pI nu ++ pN its.length) ++ ((its.take n).map a3L).flatten) d')
  (fun r => r.1 = .ext 0 ∧ h.length ≤ r.2.2.length ∧ (∃ d' x y z, r.2.1 = [d', x, y, z] ∧ Bw h.length h .nils r.2.2 (a6e hs nu its) d')) its.length ⟨n3, _, _, _, 0, rfl, rfl, by simpa using BB⟩ ?_ ?_
 ·rintro k ds g ⟨hg, d', x, y, n, rfl, hk, B⟩
  simp only [b2s, a0f, a0n, bs, d4X, bx2, a6j, a6o hd, a0j]
  refine Wp.dif ?_ ?_
  ·intro h0
   have h0 : n < its.length := by have : (n : Int) < its.length := (by simpa using h0); omega
   obtain ⟨i, hi⟩ := gx_ h0
   have hB := (hall i (d5m hi)).1
   have hw := wi_ n (by omega)
   have hdg : RdI g its d := hd.keep fun q hq => B.old q hq (a8r q)
   obtain ⟨q, hii, hq⟩ := b3J hdg n i hi
   have hil := a3S i
   have hle := a5g a3L its (n + 1)
   rw [a1r a3L hi, d5c] at hle
   obtain ⟨de, ee, he⟩ := d1x i 0 g (fun g => by rw [← hB]; exact b7F i g (hnm i (d5m hi))) (by omega)
   rw [if_pos rfl] at he
   simp only [hii, hq, ee, bs, a0A, d5a, d5b]
   refine b4N B hg (a4b (.inl he)) (by simp only [d5c, a1d, a1x]; omega) fun d4 g4 B4 n4 => ?_
   simp only [bs, a0u, hw]
   refine .some (.inl ⟨rfl, k - 1, by omega, n4, _, _, _, n + 1, rfl, by omega, ?_⟩)
   rw [a1r a3L hi]
   simpa using B4
  ·intro h0
   have h0 : n = its.length := by have : ¬ (n : Int) < its.length := (by simpa using h0); omega
   subst h0
   rw [d5x] at B
   exact .some (.inr ⟨by simp, rfl, hg, _, _, _, _, rfl, B⟩)
 ·rintro ⟨ex, ds, g⟩ ⟨rfl, q2, d', x, y, z, rfl, B⟩
  simp only [a0l, a0o, bs, a0f, a0S]
  have hsl := a2C (n0 := h.length) (n := 2) B.ow (Nat.le_refl _) (fun a _ => a5d _ g 2 a)
  rw [a1i (d' := .tup [frz h.length g 3 d', .int .i64 0]) (by simp) (by
   refine .tup _ fun d hd => ?_
   simp at hd
   rcases hd with rfl | rfl
   ·exact a2e hsl fun a _ => a7X _ a
   ·constructor) q2 (fun q hq => B.old q hq fun hh => by obtain ⟨z, n, hh⟩ := hh; cases hh)]
  exact .some ⟨rfl, _, rfl, hsl⟩
theorem a9g {hs nu : Int} {its : List It} (hT0 : a1n hs its = 0 → (its.map a3L).flatten.length ≤ 790000000) : (a9N hs nu its).length ≤ 790000020 := by
 unfold a9N
 split
 ·rename_i hc
  have hT := hT0 hc
  simp only [a6e, d5c, a1d, a1x]; omega
 ·simp [-bind_some]
def c6X (j : List Int) (hs nu : Int) (its : List It) : Int := if a1n hs its = 0 then a7T j (a9N hs nu its) else a1n hs its
def c2a (j : List Int) (hs nu : Int) (its : List It) : List Int := if a1n hs its = 0 then a9v j (a9N hs nu its) else []
theorem c6n (j : List Int) (hs nu : Int) (its : List It) (dj d : D) (h : Hp) (hj : SlOf 1 byr j dj) (hjl : j.length ≤ 10000000) (hd : RdI h its d) (hT0 : a1n hs its = 0 → (its.map a3L).flatten.length ≤ 790000000) :
  ∃ d', R b6f [dj, .agg (a1X hs nu d)] h = some (.tup [d', .int .i64 (c6X j hs nu its)], h) ∧ SlOf 1 byr (c2a j hs nu its) d' := by
 obtain ⟨d1, e1, h1⟩ := b7N hs nu its d h hd hT0
 have hl := a9g (hs := hs) (nu := nu) hT0
 obtain ⟨d2, e2, h2⟩ := c0H j (a9N hs nu its) dj d1 h hj h1 (by omega) (by omega)
 unfold c6X c2a
 rw [c8Q]
 by_cases hc : a1n hs its = 0
 ·rw [if_pos hc, if_pos hc]
  rw [hc] at e1
  refine ⟨d2, ?_, h2⟩
  simp only [c1g, a1b, bs, bxb, e1, a0A, d5a, d5b, a0t, ne_eq, not_true, decide_false, a0d, d4Y, if_false, e2, a0S]
 ·rw [if_neg hc, if_neg hc]
  have hcc : decide (a1n hs its ≠ 0) = true := decide_eq_true hc
  refine ⟨.nils, ?_, .nils _ _⟩
  simp only [c1g, a1b, bs, bxb, e1, a0A, d5a, d5b, a0t, hcc, a0d, if_true, a0S]
theorem c0I (j : List Int) (hs nu : Int) (its : List It) (dj d : D) (h : Hp) (hj : SlOf 1 byr j dj) (hjl : j.length ≤ 10000000) (hd : RdI h its d) (hnm : ∀ i ∈ its, NmB i.e) (hT0 : a1n hs its = 0 → (its.map a3L).flatten.length ≤ 790000000) :
  ∃ d', R b3g [dj, .agg (a1X hs nu d)] h = some (.tup [d', .int .i64 (c6X j hs nu its)], h) ∧ SlOf 1 byr (c2a j hs nu its) d' := by
 obtain ⟨d1, e1, h1⟩ := b7K hs nu its d h hd hnm hT0
 have hl := a9g (hs := hs) (nu := nu) hT0
 obtain ⟨d2, e2, h2⟩ := d1g j (a9N hs nu its) dj d1 h hj h1 (by omega) (by omega)
 unfold c6X c2a
 rw [c8o]
 by_cases hc : a1n hs its = 0
 ·rw [if_pos hc, if_pos hc]
  rw [hc] at e1
  refine ⟨d2, ?_, h2⟩
  simp only [c1b, a1b, bs, bxb, e1, a0A, d5a, d5b, a0t, ne_eq, not_true, decide_false, a0d, d4Y, if_false, e2, a0S]
 ·rw [if_neg hc, if_neg hc]
  have hcc : decide (a1n hs its ≠ 0) = true := decide_eq_true hc
  refine ⟨.nils, ?_, .nils _ _⟩
  simp only [c1b, a1b, bs, bxb, e1, a0A, d5a, d5b, a0t, hcc, a0d, if_true, a0S]
theorem a2Z {s : Cur} (h : (a0O s).2.2 = false) : s.2 = false ∧ (a0O s).2.1.length + 4 + ((a0O s).1.getD []).length = s.1.length := by
 have h' := h
 rw [a7J] at h'
 obtain ⟨a, b, c⟩ := a6V h'
 obtain ⟨d, e⟩ := a7C a
 have hl : ((a0N (a1B s).2 (a1B s).1).1.length : Int) = (a1B s).1 := by
  unfold a0N at h' ⊢
  split
  ·rename_i hh; rw [if_pos hh] at h'; cases h'
  ·rename_i hh
   simp only [d5t]
   omega
 have ht : (a0O s).1.getD [] = bys (a0N (a1B s).2 (a1B s).1).1 := by
  unfold a0O
  rw [if_neg (by rw [h']; simp [-bind_some])]; rfl
 rw [a7J, ht]
 refine ⟨d, ?_⟩
 simp only [bys, d5d]
 omega
theorem a7e {s : Cur} (h : (a0P s).2.2 = false) : s.2 = false ∧ (a0P s).2.1.length + 4 = s.1.length := by
 have := a5A h
 rw [this] at h ⊢
 exact a7C h
theorem b0N : ∀ (n : Nat) (s : Cur), (a4n n s).2.2 = false → s.2 = false ∧ (a4n n s).2.1.length + ((a4n n s).1.map lnB).flatten.length = s.1.length
 | 0, s, h => ⟨h, by simp [-bind_some, a4n]⟩
 | n + 1, s, h => by
  obtain ⟨a, b⟩ := b0N n (a4z s).2 h
  have a' : (a0O (a1k (a1k s).2).2).2.2 = false := a
  obtain ⟨c, d⟩ := a2Z a'
  obtain ⟨e, f⟩ := a2H c
  obtain ⟨g, i⟩ := a2H e
  refine ⟨g, ?_⟩
  have hb : (lnB (a4z s).1).length = 20 + ((a0O (a1k (a1k s).2).2).1.getD []).length := by
   simp only [lnB, a4z, pS, a6q, d5c, a1d, a1x]; omega
  have b' : (a4n n (a4z s).2).2.1.length + ((a4n n (a4z s).2).1.map lnB).flatten.length = (a0O (a1k (a1k s).2).2).2.1.length := b
  simp only [a4n, d5f, List.flatten_cons, d5c, hb]
  omega
theorem b0m : ∀ (n : Nat) (s : Cur), (a4r n s).2.2 = false → s.2 = false ∧ (a4r n s).2.1.length + ((a4r n s).1.map fdB).flatten.length = s.1.length
 | 0, s, h => ⟨h, by simp [-bind_some, a4r]⟩
 | n + 1, s, h => by
  obtain ⟨a, b⟩ := b0m n (fdS s).2 h
  have a' : (a0O (a0O s).2).2.2 = false := a
  obtain ⟨c, d⟩ := a2Z a'
  obtain ⟨e, f⟩ := a2Z c
  refine ⟨e, ?_⟩
  have hb : (fdB (fdS s).1).length = 8 + ((a0O s).1.getD []).length + ((a0O (a0O s).2).1.getD []).length := by
   simp only [fdB, fdS, pS, a6q, d5c, a1x]; omega
  have b' : (a4r n (fdS s).2).2.1.length + ((a4r n (fdS s).2).1.map fdB).flatten.length = (a0O (a0O s).2).2.1.length := b
  simp only [a4r, d5f, List.flatten_cons, d5c, hb]
  omega
theorem c2z {s : Cur} {j : It} (hj : a2S j = a1O s) (h : (a6G s).2 = false) : (a1S j).length + (a6G s).1.length = s.1.length := by
 obtain ⟨a1, b1⟩ := b0m _ _ (show (a4r (a0P (a6a s)).1.toNat (a0P (a6a s)).2).2.2 = false from h)
 obtain ⟨a2, b2⟩ := a7e a1
 obtain ⟨a3, b3⟩ := a2Z (show (a0O (a0O (a1k (a1k (a6F s)).2).2).2).2.2 = false from a2)
 obtain ⟨a4, b4⟩ := a2Z a3
 obtain ⟨a5, b5⟩ := a2H a4
 obtain ⟨a6, b6⟩ := a2H a5
 obtain ⟨a7, b7⟩ := b0N _ _ (show (a4n (a0P (a3M s)).1.toNat (a0P (a3M s)).2).2.2 = false from a6)
 obtain ⟨a8, b8⟩ := a7e a7
 obtain ⟨a9, b9⟩ := a2H (show (a1k (a1k (a1k (a1k (a0O s).2).2).2).2).2.2 = false from a8)
 obtain ⟨c1, d1⟩ := a2H a9
 obtain ⟨c2, d2⟩ := a2H c1
 obtain ⟨c3, d3⟩ := a2H c2
 obtain ⟨c4, d4⟩ := a2Z c3
 have e1 : (a6G s).1.length = (a4r (a0P (a6a s)).1.toNat (a0P (a6a s)).2).2.1.length := rfl
 have e2 : (a6a s).1.length = (a0O (a0O (a1k (a1k (a6F s)).2).2).2).2.1.length := rfl
 have e3 : (a6F s).1.length = (a4n (a0P (a3M s)).1.toNat (a0P (a3M s)).2).2.1.length := rfl
 have e4 : (a3M s).1.length = (a1k (a1k (a1k (a1k (a0O s).2).2).2).2).2.1.length := rfl
 have hr : j.r = (a0O s).1.getD [] := congrArg RI.r hj
 have h7 : j.e.s7 = (a0O (a1k (a1k (a6F s)).2).2).1.getD [] := congrArg RI.t7 hj
 have h8 : j.e.s8 = (a0O (a0O (a1k (a1k (a6F s)).2).2).2).1.getD [] := congrArg RI.t8 hj
 have hl : j.e.ls = (a4n (a0P (a3M s)).1.toNat (a0P (a3M s)).2).1 := congrArg RI.ls hj
 have hf : j.e.fs = (a4r (a0P (a6a s)).1.toNat (a0P (a6a s)).2).1 := congrArg RI.fs hj
 simp only [a1S, a4T, a3g, d5c, a1d, a1x, pS, a6q]
 rw [← hl] at b7
 rw [← hf] at b1
 rw [← h7] at b4
 rw [← h8] at b3
 rw [← hr] at d4
 omega
noncomputable def ckR (x : RI) : Int := @dite _ (∃ j : It, a2S j = x) (Classical.propDecidable _) (fun h => itE (Classical.choose h)) fun _ => 0
theorem c0c (j : It) : ckR (a2S j) = itE j := by
 have h : ∃ i : It, a2S i = a2S j := ⟨j, rfl⟩
 unfold ckR
 rw [dif_pos h]
 exact (a9E (Classical.choose_spec h)).2.1
noncomputable def a5E (l : List Int) : Int × Int × RI := a6b (ckR (a1O ((l.take (num (l.take 4)).toNat).drop 4, false))) l
theorem b5q (l : List Int) (d : D) (h : Hp) (hd : SlOf 1 byr l d) (hl : l.length ≤ 1000000000) (hu : ∀ z ∈ l, U8 z) :
  (∃ j : It, R b0w [d] h = some (.tup [.agg (itr j), .int .i64 (a5E l).2.1, .int .i64 (a5E l).1], h) ∧ a2S j = (a5E l).2.2) ∧ ∃ j : It, R b0x [d] h = some (.tup [.agg (itr j), .int .i64 (a5E l).2.1, .int .i64 (a5E l).1], h) ∧ a2S j = (a5E l).2.2 := by
 obtain ⟨j, e1, r1⟩ := d1C l d (ckR (a1O ((l.take (num (l.take 4)).toNat).drop 4, false))) h hd hl hu fun j hj g => by
  rw [← hj, c0c]; exact b7I j g
 obtain ⟨j', e2, r2⟩ := d1D l d (ckR (rvI ((l.take (num (l.take 4)).toNat).drop 4, false))) h hd hl hu fun j hj g => by
  rw [← hj, c0c]
  refine b7F j g fun p hp => ?_
  have hp : p ∈ (a2S j).fs := hp
  rw [hj] at hp
  have : p.1.length ≤ ((l.take (num (l.take 4)).toNat).drop 4).length := c5O _ p hp
  have h2 : ((l.take (num (l.take 4)).toNat).drop 4).length ≤ l.length := by simp; omega
  omega
 rw [b8S _ (ckR (a1O ((l.take (num (l.take 4)).toNat).drop 4, false))) l fun hh => by rw [hh]] at e2 r2
 exact ⟨⟨j, e1, r1⟩, j', e2, r2⟩
theorem b1q {l : List Int} (h : (a5E l).1 = 0) : 8 ≤ (a5E l).2.1 ∧ (a5E l).2.1 ≤ l.length ∧ ∀ j : It, a2S j = (a5E l).2.2 → ((a3L j).length : Int) = (a5E l).2.1 := by
 unfold a5E a6b at h ⊢
 by_cases h1 : l.length < 4
 ·rw [if_pos h1] at h; cases h
 by_cases h2 : num (l.take 4) < 4 ∨ (l.length : Int) - 4 < num (l.take 4)
 ·rw [if_neg h1, if_pos h2] at h; cases h
 by_cases h3 : a3K (l.take (num (l.take 4)).toNat) ≠ num ((l.drop (num (l.take 4)).toNat).take 4)
 ·rw [if_neg h1, if_neg h2, if_pos h3] at h; cases h
 by_cases h4 : (a6G ((l.take (num (l.take 4)).toNat).drop 4, false)).2 = true ∨ 0 < (a6G ((l.take (num (l.take 4)).toNat).drop 4, false)).1.length ∨ ckR (a1O ((l.take (num (l.take 4)).toNat).drop 4, false)) ≠ 0
 ·rw [if_neg h1, if_neg h2, if_neg h3, if_pos h4] at h; cases h
 rw [if_neg h1, if_neg h2, if_neg h3, if_neg h4]
 refine ⟨by simp only; omega, by simp only; omega, fun j hj => ?_⟩
 have hv := c2z hj (by
  cases hh : (a6G ((l.take (num (l.take 4)).toNat).drop 4, false)).2
  ·rfl
  ·exact absurd (.inl hh) h4)
 have h0 : (a6G ((l.take (num (l.take 4)).toNat).drop 4, false)).1.length = 0 := by
  apply Classical.byContradiction
  intro hh
  exact h4 (.inr (.inl (by omega)))
 rw [h0] at hv
 simp only [d5s, d5t] at hv
 rw [a3S]
 simp only
 omega
theorem b8Q : (a5E []).1 = 14 := rfl
noncomputable def a8d : Nat → List Int → Option (List RI × List Int)
 | 0, l => some ([], l)
 | k + 1, l => match a8d k l with
  | none => none
  | some (xs, r) => if (a5E r).1 = 0 then some (xs ++ [(a5E r).2.2], r.drop (a5E r).2.1.toNat) else none
theorem a7l {k : Nat} {l : List Int} (h : a8d k l = none) : ∀ m, k ≤ m → a8d m l = none := by
 intro m hm
 induction m with
 | zero => have : k = 0 := by omega
           subst this; exact h
 | succ m ih =>
  by_cases hk : k = m + 1
  ·rw [← hk]; exact h
  ·unfold a8d
   rw [ih (by omega)]
theorem a5F : ∀ {k : Nat} {l : List Int} {xs : List RI} {r : List Int}, a8d k l = some (xs, r) → xs.length = k ∧ (∃ q, r = l.drop q) ∧ ∀ its : List It, its.map a2S = xs → (its.map a3L).flatten.length + r.length = l.length
 | 0, l, xs, r, h => by
  unfold a8d at h
  injection h with h
  injection h with h1 h2
  subst h1; subst h2
  exact ⟨rfl, ⟨0, rfl⟩, fun its hi => by
   have : its = [] := by simpa using hi
   subst this; simp [-bind_some]⟩
 | k + 1, l, xs, r, h => by
  unfold a8d at h
  split at h
  ·cases h
  ·rename_i ys s hk
   split at h
   ·rename_i h0
    injection h with h
    injection h with h1 h2
    subst h1; subst h2
    obtain ⟨a, ⟨q, hq⟩, b⟩ := a5F hk
    obtain ⟨c1, c2, c3⟩ := b1q h0
    refine ⟨by simp [-bind_some, a], ⟨q + (a5E s).2.1.toNat, by rw [hq, List.drop_drop]⟩, fun its hi => ?_⟩
    obtain ⟨i1, i2, rfl, h1, h2⟩ := List.map_eq_append_iff.1 hi
    obtain ⟨j, rfl, hj⟩ := List.map_eq_singleton_iff.1 h2
    have hb := b i1 h1
    have hc := c3 j hj
    rw [d5e, List.flatten_append, d5c, d5s]
    simp only [d5f, d5g, List.flatten_cons, List.flatten_nil, List.append_nil]
    omega
   ·cases h
def bHs (p : List Int) : Int := IntKind.wrap .i64 (num (p.take 8))
def bNu (p : List Int) : Int := IntKind.wrap .i64 (num ((p.drop 8).take 8))
def bN (p : List Int) : Nat := (num ((p.drop 16).take 4)).toNat
def b9O (p : List Int) (xs : List RI) : Prop := 20 ≤ p.length ∧ bN p ≤ 40 ∧ (∃ r, a8d (bN p) (p.drop 20) = some (xs, r)) ∧ ∃ its : List It, its.map a2S = xs ∧ a1n (bHs p) its = 0 ∧ a6e (bHs p) (bNu p) its = p
theorem b5o {p : List Int} {xs ys : List RI} (h : b9O p xs) (k : b9O p ys) : xs = ys := by
 obtain ⟨_, _, ⟨r, h⟩, _⟩ := h
 obtain ⟨_, _, ⟨r', k⟩, _⟩ := k
 rw [h] at k
 injection k with k
 injection k
theorem b5d {hs : Int} : ∀ {a b : List It}, a.map a2S = b.map a2S → b1m hs a = b1m hs b
 | [], [], _ => rfl
 | [], _ :: _, h => by simp at h
 | _ :: _, [], h => by simp at h
 | i :: a, j :: b, h => by
  rw [d5f, d5f] at h
  injection h with h1 h2
  have e1 := (a9E h1).2.1
  have e2 : i.e.a0 = j.e.a0 := congrArg RI.a0 h1
  have e3 : i.r = j.r := congrArg RI.r h1
  unfold b1m
  rw [e1, e2, e3, b5d h2]
theorem a9Z {hs : Int} {a b : List It} (h : a.map a2S = b.map a2S) : a1n hs a = a1n hs b := by
 have : a.length = b.length := by have := congrArg List.length h; simpa using this
 unfold a1n
 rw [this, b5d h]
theorem b1T : ∀ (l : List Int), (∀ z ∈ l, U8 z) → sby (bys l) = l
 | [], _ => rfl
 | z :: l, h => by
  have ih := b1T l fun x hx => h x (by simp [-bind_some, hx])
  have hz := h z (by simp)
  unfold U8 at hz
  unfold bys sby at ih ⊢
  rw [d5f, d5f, ih]
  congr 1
  have : (UInt8.ofNat z.toNat).toNat = z.toNat := by simp; omega
  rw [this]
  omega
theorem c6r (l r : List Int) (d e : D) (h : Hp) (hd : SlOf 1 byr l d) (he : SlOf 1 byr r e) (hl : ∀ z ∈ l, U8 z) (hr : ∀ z ∈ r, U8 z) : R b6g [d, e] h = some (.bool (decide (l = r)), h) := by
 rw [c8U]
 have : (bys l == bys r) = decide (l = r) := by
  by_cases hlr : l = r
  ·subst hlr; simp [-bind_some]
  ·have : bys l ≠ bys r := fun hh => hlr (by rw [← b1T l hl, ← b1T r hr, hh])
   simp [-bind_some, hlr, this]
 simp only [c4o, bs, a6X hd, a6X he, a2c, this, a0g]
theorem a7c {h g : Hp} {hs nu : Int} {its : List It} {ld : D} (b3 : g[h.length]? = some (.row a0q 3 [a1X hs nu ld])) (ow : Own g (h.length + 2) a0D 11 (its.map itr) ld) (k3 : ∀ q, q < h.length → g[q]? = h[q]?) (e : Int) {Q : D × Hp → Prop}
  (hQ : ∀ d', SlOf 11 itr its d' → Q (.tup [.agg (a1X hs nu d'), .int .i64 e], h)) : Wp ((a0c tab g a0q (.ptr h.length 0 0)).bind fun d0 => scope h g (a0i [d0, .int .i64 e])) Q := by
 have ld5 : a0c tab g a0q (.ptr h.length 0 0) = some (.agg (a1X hs nu ld)) := by rw [a6k, a0V b3]; rfl
 have hgl : h.length ≤ g.length := by have := (d5p.1 b3).1; omega
 have hsl := a2C (n0 := h.length) (n := 1) ow (by omega) (fun a _ => a7y _ g 0 a)
 rw [ld5, bs, a0S, a1i (d' := .tup [.agg (a1X hs nu (frz h.length g 2 ld)), .int .i64 e]) rfl (by
   refine .tup _ fun d hd => ?_
   simp at hd
   rcases hd with rfl | rfl
   ·refine .agg _ fun d hd => ?_
    simp [-bind_some, a1X] at hd
    rcases hd with rfl | rfl | rfl
    ·constructor
    ·constructor
    ·exact a2e hsl fun a _ => b6u _ a
   ·constructor) hgl k3]
 exact .some (hQ _ hsl)
theorem a3O {h g : Hp} {hs nu hs0 nu0 : Int} {ld0 : D} {its : List It} {ld : D} (b3 : g[h.length]? = some (.row a0q 3 [a1X hs0 nu0 ld0])) (ow : Own g (h.length + 2) a0D 11 (its.map itr) ld) (k3 : ∀ q, q < h.length → g[q]? = h[q]?) (e : Int) {Q : D × Hp → Prop}
  (hQ : ∀ d', SlOf 11 itr its d' → Q (.tup [.agg (a1X hs nu d'), .int .i64 e], h)) : Wp ((a0h tab g a0q (.ptr h.length 0 0) (.agg (a1X hs nu ld))).bind fun h' => (a0c tab h' a0q (.ptr h.length 0 0)).bind fun d0 => scope h h' (a0i [d0, .int .i64 e])) Q := by
 have hok : (D.agg (a1X hs nu ld)).okv = true := by
  rcases ow with ⟨rfl, _⟩ | ⟨_, _, rfl, _⟩ <;> rfl
 refine a6s (kk := 0) (off := 0) (row := a1X hs0 nu0 ld0) (v := .agg (a1X hs nu ld)) b3 (by rfl) (by rfl) (by exact Nat.le_refl _) hok fun g5 b5 u5s => ?_
 have b5 : g5[h.length]? = some (.row a0q 3 [a1X hs nu ld]) := b5
 exact a7c b5 (ow.keep fun q hq _ => u5s.2 q (by omega)) (fun q hq => by rw [u5s.2 q (by omega)]; exact k3 q hq) e hQ
def c0R (f : Nat) (p : List Int) (d : D) (h : Hp) : Prop :=
 (∃ xs, b9O p xs ∧ ∃ its d', R f [d] h = some (.tup [.agg (a1X (bHs p) (bNu p) d'), .int .i64 0], h) ∧ SlOf 11 itr its d' ∧ its.map a2S = xs) ∨
 ((∀ xs, ¬ b9O p xs) ∧ ∃ d', R f [d] h = some (.tup [.agg (a1X 0 0 d'), .int .i64 22], h) ∧ SlOf 11 itr [] d')
theorem b2P {f : Nat} {p : List Int} {d : D} {h : Hp} (hw : Wp (R f [d] h) fun x => (∃ xs, b9O p xs ∧ ∃ its d', x = (.tup [.agg (a1X (bHs p) (bNu p) d'), .int .i64 0], h) ∧ SlOf 11 itr its d' ∧ its.map a2S = xs) ∨
  ((∀ xs, ¬ b9O p xs) ∧ ∃ d', x = (.tup [.agg (a1X 0 0 d'), .int .i64 22], h) ∧ SlOf 11 itr [] d')) : c0R f p d h := by
 obtain ⟨x, e, hx⟩ := hw
 rcases hx with ⟨xs, h1, its, d', rfl, h2⟩ | ⟨h1, d', rfl, h2⟩
 ·exact .inl ⟨xs, h1, its, d', e, h2⟩
 ·exact .inr ⟨h1, d', e, h2⟩
theorem c6m (p : List Int) (dp : D) (h : Hp) (hp : SlOf 1 byr p dp) (hl : p.length ≤ 790000020) (hu : ∀ z ∈ p, U8 z) : c0R b3o p dp h := by
 refine b2P ?_
 have a0 : (a0F h a0q 3 [[.int .i64 0, .int .i64 0, .nils]])[h.length]? = some (.row a0q 3 [a1X 0 0 .nils]) := a1q _ _ _ _
 have l0 : (a0F h a0q 3 [[.int .i64 0, .int .i64 0, .nils]]).length = h.length + 1 := by simp [-bind_some, a0F]
 have k0 : ∀ q, q < h.length → (a0F h a0q 3 [[.int .i64 0, .int .i64 0, .nils]])[q]? = h[q]? := fun q hq => a0U _ _ _ _ hq
 have hz : (D.agg [.int .i64 0, .int .i64 0, .nils]) = .agg (a1X 0 0 .nils) := rfl
 rw [c8P]
 by_cases hn20 : p.length < 20
 ·have hn : decide ((p.length : Int) < 20) = true := decide_eq_true (by omega)
  simp only [c1f, bs, d4X, a1l hp, a0j, hn, a0d, if_true, a3P, hz]
  exact a3O a0 (Own.nils _ _ _ _) k0 22 fun d' hd' => .inr ⟨fun xs hx => by have := hx.1; omega, d', rfl, hd'⟩
 have hn : decide ((p.length : Int) < 20) = false := decide_eq_false (by omega)
 obtain ⟨x8, e8, u8s⟩ := b1V hp (k := .i64) (n := 8) (by omega) (by omega)
 obtain ⟨x16, e16, u16s⟩ := b1V hp (k := .i64) (n := 16) (by omega) (by omega)
 obtain ⟨x20, e20, u20s⟩ := b1V hp (k := .i64) (n := 20) (by omega) (by omega)
 have u8s : SlOf 1 byr (p.drop 8) x8 := u8s
 have u16s : SlOf 1 byr (p.drop 16) x16 := u16s
 have u20s : SlOf 1 byr (p.drop 20) x20 := u20s
 have q17 : ∀ g, R a8m [dp] g = some (.int .i64 (bHs p), g) := fun g => c6q _ dp g hp (by omega) hu
 have q20 : ∀ g, R a8m [x8] g = some (.int .i64 (bNu p), g) := fun g => c6q _ x8 g u8s (by simp; omega) (fun z hz => hu z (List.mem_of_mem_drop hz))
 obtain ⟨nr0, nr1⟩ := a2m 4 ((p.drop 16).take 4) (by simp; omega) (fun z hz => hu z (List.mem_of_mem_drop (List.mem_of_mem_take hz)))
 have hN : ((bN p : Nat) : Int) = num ((p.drop 16).take 4) := by unfold bN; omega
 have q26 : ∀ g, R a7v [x16] g = some (.int .u32 ((bN p : Nat) : Int), g) := fun g => by
  rw [b7J _ x16 g u16s (by simp; omega) (fun z hz => hu z (List.mem_of_mem_drop hz)), hN]
 have hN32 : bN p < 4294967296 := by
  have : (256 : Int) ^ 4 = 4294967296 := by decide
  omega
 simp only [c1f, bs, d4X, a1l hp, a0j, hn, a0d, d4Y, if_false, q17, e8, q20, a6f, e20, e16, q26]
 generalize a0F h a0q 3 [[.int .i64 0, .int .i64 0, .nils]] = g0 at *
 have a1 : (a0F g0 a0q 3 [[.int .i64 0, .int .i64 0, .nils]])[h.length + 1]? = some (.row a0q 3 [a1X 0 0 .nils]) := by rw [← l0]; exact a1q _ _ _ _
 have b1 : (a0F g0 a0q 3 [[.int .i64 0, .int .i64 0, .nils]])[h.length]? = some (.row a0q 3 [a1X 0 0 .nils]) := by rw [a0U _ _ _ _ (by omega)]; exact a0
 have k1 : ∀ q, q < h.length → (a0F g0 a0q 3 [[.int .i64 0, .int .i64 0, .nils]])[q]? = h[q]? := fun q hq => by rw [a0U _ _ _ _ (by omega)]; exact k0 q hq
 generalize a0F g0 a0q 3 [[.int .i64 0, .int .i64 0, .nils]] = g1 at *
 rw [l0]
 refine a6s (kk := 0) (off := 0) (row := a1X 0 0 .nils) (v := .agg [.int .i64 (bHs p), .int .i64 (bNu p), .nils]) a1 (by rfl) (by rfl) (by exact Nat.le_refl _) (by rfl) fun g2 a2 u2s => ?_
 have a2 : g2[h.length + 1]? = some (.row a0q 3 [a1X (bHs p) (bNu p) .nils]) := a2
 have b2 : g2[h.length]? = some (.row a0q 3 [a1X 0 0 .nils]) := by rw [u2s.2 _ (by omega)]; exact b1
 have k2 : ∀ q, q < h.length → g2[q]? = h[q]? := fun q hq => by rw [u2s.2 q (by omega)]; exact k1 q hq
 try simp only [bs, q26, d4X]
 refine Wp.loop (fun k ds g => ∃ rest v3 v4 v5 v6 v7, ∃ m : Nat, ∃ ld xs r, ∃ its : List It, ds = [.int .i64 0, rest, .int .u32 ((bN p - m : Nat) : Int), v3, v4, v5, v6, v7] ∧ k + m = bN p ∧ SlOf 1 byr r rest ∧ a8d m (p.drop 20) = some (xs, r) ∧ its.map a2S = xs
   ∧ g[h.length]? = some (.row a0q 3 [a1X 0 0 .nils]) ∧ g[h.length + 1]? = some (.row a0q 3 [a1X (bHs p) (bNu p) ld]) ∧ Own g (h.length + 2) a0D 11 (its.map itr) ld ∧ ∀ q, q < h.length → g[q]? = h[q]?)
  (fun x => (∃ v0 v1 v2 v3 v4 v5 v6 v7, x.2.1 = [v0, v1, v2, v3, v4, v5, v6, v7] ∧ (x.1 = .ret → v0 = .int .i64 22)) ∧ (∀ q, q < h.length → x.2.2[q]? = h[q]?) ∧ x.2.2[h.length]? = some (.row a0q 3 [a1X 0 0 .nils]) ∧
   ((x.1 = .ret ∧ a8d (bN p) (p.drop 20) = none) ∨ (x.1 = .ext 0 ∧ ∃ ld xs r m, ∃ its : List It, a8d m (p.drop 20) = some (xs, r) ∧ its.map a2S = xs ∧ (m = bN p ∨ (m < bN p ∧ r = [])) ∧ x.2.2[h.length + 1]? = some (.row a0q 3 [a1X (bHs p) (bNu p) ld]) ∧ Own x.2.2 (h.length + 2) a0D 11 (its.map itr) ld)))
  (bN p) ⟨x20, _, _, _, _, _, 0, .nils, [], p.drop 20, [], rfl, rfl, u20s, rfl, rfl, b2, a2, Own.nils _ _ _ _, k2⟩ ?_ ?_
 ·rintro k ds g ⟨rest, v3, v4, v5, v6, v7, m, ld, xs, r, its, rfl, hk, hr, hdec, hri, b3, a3, ow, k3⟩
  obtain ⟨hxl, ⟨q0, hq0⟩, _⟩ := a5F hdec
  have hru : ∀ z ∈ r, U8 z := fun z hz => by rw [hq0] at hz; exact hu z (List.mem_of_mem_drop (List.mem_of_mem_drop hz))
  have hrl : r.length ≤ p.length := by rw [hq0, d5s, d5s]; omega
  simp only [b2B, a0f, a0n, bs, d4X, a0v, l0]
  by_cases hm : m < bN p
  ·have c1 : ((bN p - m : Nat) : Int) > 0 := by omega
   by_cases hr0 : r = []
   ·subst hr0
    simp only [c1, decide_true, a0r, if_true, a1l hr, bs, a0v, d5r, show decide (((0 : Nat) : Int) > 0) = false by decide, a0e, a0d, d4Y, if_false]
    exact .some (.inr ⟨by simp, ⟨_, _, _, _, _, _, _, _, rfl, fun hh => by cases hh⟩, k3, b3, .inr ⟨rfl, ld, xs, [], m, its, hdec, hri, .inr ⟨hm, rfl⟩, a3, ow⟩⟩)
   have hr1 : 0 < r.length := List.length_pos_iff.2 hr0
   have c2 : (r.length : Int) > 0 := by omega
   obtain ⟨⟨j, ej, hj⟩, _⟩ := b5q r rest g hr (by omega) hru
   by_cases he : (a5E r).1 = 0
   ·rw [he] at ej
    obtain ⟨s8, sl, _⟩ := b1q he
    obtain ⟨x5, e5, u5s⟩ := b1V hr (k := .i64) (n := (a5E r).2.1) (by omega) sl
    have ldl : a0c tab g a0K (.ptr (h.length + 1) 0 (0 + 2)) = some ld := by rw [b6B, a0V a3]; rfl
    have hlit : a1h tab a0K 1 [0] [.agg (itr j)] = some (.sl 11 true [itr j]) := id rfl
    have hll : its.length = m := by have := congrArg List.length hri; simp at this; omega
    have w1 : IntKind.wrap .u32 (((bN p - m : Nat) : Int) - 1) = ((bN p - (m + 1) : Nat) : Int) := by rw [a3q (by omega) (by omega)]; omega
    simp only [c1, decide_true, a0r, if_true, a1l hr, bs, a0v, c2, a0e, a0d, ej, a0A, d5a, d5b, a9V, b4H, a0t, ne_eq, not_true, decide_false, d4Y, if_false, a7o, ldl, hlit, d4X]
    have hgl : h.length + 2 ≤ g.length := (d5p.1 a3).1
    refine b3U (ys := [itr j]) hgl ow (a1g _ _ _ _) (by simp; omega) fun ld2 g3 ow3 len3 bel3 old3 _ => ?_
    have a4 : g3[h.length + 1]? = some (.row a0q 3 [a1X (bHs p) (bNu p) ld]) := by rw [bel3 _ (by omega)]; exact a3
    simp only [bs, e5]
    refine b8n (kk := 0) (row := a1X (bHs p) (bNu p) ld) a4 (by rfl) (by rw [(a0T (a2a ow3)).1]; rfl) (by simp [-bind_some, a1X]) (a0T (a2a ow3)).2 fun g4 a5 u4s => ?_
    rw [(a0T (a2a ow3)).1] at a5
    have a5 : g4[h.length + 1]? = some (.row a0q 3 [a1X (bHs p) (bNu p) ld2]) := a5
    simp only [bs, a0B, w1]
    refine .some (.inl ⟨rfl, k - 1, by omega, _, _, _, _, _, _, m + 1, ld2, xs ++ [(a5E r).2.2], r.drop (a5E r).2.1.toNat, its ++ [j], rfl, by omega, u5s, ?_, ?_, ?_, a5, ?_, fun q hq => ?_⟩)
    ·unfold a8d; simp only [hdec, he, if_true]
    ·rw [d5e, hri]; simp [-bind_some, hj]
    ·rw [u4s.2 _ (by omega), bel3 _ (by omega)]; exact b3
    ·rw [d5e]
     exact ow3.keep fun q hq hx => u4s.2 q (by omega)
    ·rw [u4s.2 q (by omega), bel3 q (by omega)]; exact k3 q hq
   ·have hee : decide ((a5E r).1 ≠ 0) = true := decide_eq_true he
    simp only [c1, decide_true, a0r, if_true, a1l hr, bs, a0v, c2, a0e, a0d, ej, a0A, d5a, d5b, a9V, a0t, hee, a3P, hz]
    refine a6s (kk := 0) (off := 0) (row := a1X 0 0 .nils) (v := .agg (a1X 0 0 .nils)) b3 (by rfl) (by rfl) (by exact Nat.le_refl _) (by rfl) fun g5 b5 u5s => ?_
    have b5 : g5[h.length]? = some (.row a0q 3 [a1X 0 0 .nils]) := b5
    refine .some (.inr ⟨by simp, ⟨_, _, _, _, _, _, _, _, rfl, fun _ => rfl⟩, fun q hq => by rw [u5s.2 q (by omega)]; exact k3 q hq, b5, .inl ⟨rfl, a7l (k := m + 1) ?_ _ (by omega)⟩⟩)
    unfold a8d; simp only [hdec, he, if_false]
  ·have hm : m = bN p := by omega
   subst hm
   have c1 : ¬ ((bN p - bN p : Nat) : Int) > 0 := by omega
   simp only [c1, decide_false, a0r, d4Y, reduceCtorEq, if_false, bs, a0e, a0d, a1f]
   exact .some (.inr ⟨by simp, ⟨_, _, _, _, _, _, _, _, rfl, fun hh => by cases hh⟩, k3, b3, .inr ⟨rfl, ld, xs, r, _, its, hdec, hri, .inl rfl, a3, ow⟩⟩)
 ·rintro ⟨ex, ds, g⟩ ⟨⟨v0, v1, v2, v3, v4, v5, v6, v7, rfl, hv0⟩, k3, b3, hcase⟩
  simp only at k3 b3 hcase hv0
  rcases hcase with ⟨rfl, hnone⟩ | ⟨rfl, ld, xs, r, m, its, hdec, hri, hmN, a3, ow⟩
  ·have := hv0 rfl
   subst this
   simp only [a1J, a1I, a1H, bs, a0f]
   exact a7c b3 (Own.nils _ _ _ _) k3 22 fun d' hd' => .inr ⟨(fun xs hx => by
    obtain ⟨_, _, ⟨r, hr⟩, _⟩ := hx
    rw [hnone] at hr
    cases hr), d', rfl, hd'⟩
  ·obtain ⟨hxl, _, htot⟩ := a5F hdec
   have hT := htot its hri
   simp only [d5s] at hT
   have hll : its.length = m := by have := congrArg List.length hri; simp at this; omega
   have ldb : a0c tab g a0q (.ptr (h.length + 1) 0 0) = some (.agg (a1X (bHs p) (bNu p) ld)) := by rw [a6k, a0V a3]; rfl
   obtain ⟨dz, ez, sz⟩ := b7N (bHs p) (bNu p) its ld g (.inr ⟨_, ow⟩) (fun _ => by omega)
   have no : a1n (bHs p) its ≠ 0 ∨ a6e (bHs p) (bNu p) its ≠ p → ∀ ys, ¬ b9O p ys := fun hc ys hy => by
    obtain ⟨_, h40, ⟨r', hr'⟩, its2, i1, i2, i3⟩ := hy
    have hm : m = bN p := by
     rcases hmN with hm | ⟨hm, rfl⟩
     ·exact hm
     ·exfalso
      have hn : a8d (m + 1) (p.drop 20) = none := by
       unfold a8d; rw [hdec]; simp only [b8Q]; rfl
      rw [a7l hn _ (by omega)] at hr'
      cases hr'
    rw [hm] at hdec
    rw [hdec] at hr'
    injection hr' with hr'
    injection hr' with hr' _
    have hm2 : its.map a2S = its2.map a2S := by rw [hri, i1, hr']
    rcases hc with hc | hc
    ·exact hc (by rw [a9Z hm2]; exact i2)
    ·exact hc (by rw [a9T hm2]; exact i3)
   by_cases hc : a1n (bHs p) its = 0
   ·rw [hc] at ez
    unfold a9N at sz
    rw [if_pos hc] at sz
    have eb := c6r _ p dz dp g sz hp (fun z hz => by have := b4Q (bHs p) (bNu p) its z hz; exact this) hu
    by_cases hbp : a6e (bHs p) (bNu p) its = p
    ·have hdt : decide (a6e (bHs p) (bNu p) its = p) = true := decide_eq_true hbp
     rw [hdt] at eb
     simp only [a0l, a0o, bs, d4X, l0, ldb, ez, a0A, d5a, d5b, a0t, ne_eq, not_true, decide_false, a0r, a0W, if_true, eb, a1m, d5i, a0e, d4Y, if_false, a0d]
     refine a3O b3 ow k3 0 fun d' hd' => .inl ⟨xs, ?_, its, d', rfl, hd', hri⟩
     obtain ⟨h40, _⟩ := a2X hc
     have t20 : (p.drop 16).take 4 = pN its.length := by
      rw [← hbp]
      have : a6e (bHs p) (bNu p) its = (pI (bHs p) ++ pI (bNu p)) ++ (pN its.length ++ (its.map a3L).flatten) := by simp [-bind_some, a6e]
      rw [this, List.drop_left' (by rw [d5c, a1d, a1d])]; exact List.take_left' (a1x _)
     have hNl : bN p = its.length := by
      have := hN
      rw [t20, c0w (by omega)] at this
      omega
     refine ⟨by omega, by omega, ⟨r, by rw [hNl, hll]; exact hdec⟩, its, hri, hc, hbp⟩
    ·have hdt : decide (a6e (bHs p) (bNu p) its = p) = false := decide_eq_false hbp
     rw [hdt] at eb
     simp only [a0l, a0o, bs, d4X, l0, ldb, ez, a0A, d5a, d5b, a0t, ne_eq, not_true, decide_false, a0r, a0W, if_true, eb, a1m, d5j, a0e, d4Y, if_false, a0d, a3P, hz]
     exact a3O b3 (Own.nils _ _ _ _) k3 22 fun d' hd' => .inr ⟨no (.inr hbp), d', rfl, hd'⟩
   ·have hcc : decide (a1n (bHs p) its ≠ 0) = true := decide_eq_true hc
    simp only [a0l, a0o, bs, d4X, l0, ldb, ez, a0A, d5a, d5b, a0t, hcc, a0r, a0W, d4Z, a1f, a3T, if_false, if_true, a0e, a0d, a3P, hz]
    exact a3O b3 (Own.nils _ _ _ _) k3 22 fun d' hd' => .inr ⟨no (.inl hc), d', rfl, hd'⟩
theorem c0J (p : List Int) (dp : D) (h : Hp) (hp : SlOf 1 byr p dp) (hl : p.length ≤ 790000020) (hu : ∀ z ∈ p, U8 z) : c0R b3q p dp h := by
 refine b2P ?_
 have a0 : (a0F h a0q 3 [[.int .i64 0, .int .i64 0, .nils]])[h.length]? = some (.row a0q 3 [a1X 0 0 .nils]) := a1q _ _ _ _
 have l0 : (a0F h a0q 3 [[.int .i64 0, .int .i64 0, .nils]]).length = h.length + 1 := by simp [-bind_some, a0F]
 have k0 : ∀ q, q < h.length → (a0F h a0q 3 [[.int .i64 0, .int .i64 0, .nils]])[q]? = h[q]? := fun q hq => a0U _ _ _ _ hq
 have hz : (D.agg [.int .i64 0, .int .i64 0, .nils]) = .agg (a1X 0 0 .nils) := rfl
 rw [c8W]
 by_cases hn20 : p.length < 20
 ·have hn : decide ((p.length : Int) < 20) = true := decide_eq_true (by omega)
  simp only [c1h, bs, d4X, a1l hp, a0j, hn, a0d, if_true, a3P, hz]
  exact a3O a0 (Own.nils _ _ _ _) k0 22 fun d' hd' => .inr ⟨fun xs hx => by have := hx.1; omega, d', rfl, hd'⟩
 have hn : decide ((p.length : Int) < 20) = false := decide_eq_false (by omega)
 obtain ⟨x8, e8, u8s⟩ := b4B hp (k := .i64) (n := 8) (by omega) (by omega)
 obtain ⟨x16, e16, u16s⟩ := a7h hp 8 16 (by omega) (by omega)
 obtain ⟨x20, e20, u20s⟩ := a7h hp 16 20 (by omega) (by omega)
 have u8s : SlOf 1 byr (p.take 8) x8 := u8s
 have e16 : a0G tab a0H true true false [dp, .int .i64 8, .int .i64 16] = some x16 := e16
 have e20 : a0G tab a0H true true false [dp, .int .i64 16, .int .i64 20] = some x20 := e20
 have u16s : SlOf 1 byr ((p.drop 8).take 8) x16 := by rw [List.drop_take] at u16s; exact u16s
 have u20s : SlOf 1 byr ((p.drop 16).take 4) x20 := by rw [List.drop_take] at u20s; exact u20s
 have q17 : ∀ g, R a6y [x8] g = some (.int .u64 (num (p.take 8)), g) := fun g => c2l _ x8 g u8s (by simp; omega) (fun z hz => hu z (List.mem_of_mem_take hz))
 have q20 : ∀ g, R a6y [x16] g = some (.int .u64 (num ((p.drop 8).take 8)), g) := fun g => c2l _ x16 g u16s (by simp; omega) (fun z hz => hu z (List.mem_of_mem_drop (List.mem_of_mem_take hz)))
 obtain ⟨nr0, nr1⟩ := a2m 4 ((p.drop 16).take 4) (by simp; omega) (fun z hz => hu z (List.mem_of_mem_drop (List.mem_of_mem_take hz)))
 have hN : ((bN p : Nat) : Int) = num ((p.drop 16).take 4) := by unfold bN; omega
 have q26 : ∀ g, R a6y [x20] g = some (.int .u64 ((bN p : Nat) : Int), g) := fun g => by
  rw [c2l _ x20 g u20s (by simp; omega) (fun z hz => hu z (List.mem_of_mem_drop (List.mem_of_mem_take hz))), hN]
 simp only [c1h, bs, d4X, a1l hp, a0j, hn, a0d, d4Y, if_false, e8, q17, a2T, e16, q20, a6f, e20, q26]
 generalize a0F h a0q 3 [[.int .i64 0, .int .i64 0, .nils]] = g0 at *
 have a1 : (a0F g0 a0q 3 [[.int .i64 0, .int .i64 0, .nils]])[h.length + 1]? = some (.row a0q 3 [a1X 0 0 .nils]) := by rw [← l0]; exact a1q _ _ _ _
 have b1 : (a0F g0 a0q 3 [[.int .i64 0, .int .i64 0, .nils]])[h.length]? = some (.row a0q 3 [a1X 0 0 .nils]) := by rw [a0U _ _ _ _ (by omega)]; exact a0
 have k1 : ∀ q, q < h.length → (a0F g0 a0q 3 [[.int .i64 0, .int .i64 0, .nils]])[q]? = h[q]? := fun q hq => by rw [a0U _ _ _ _ (by omega)]; exact k0 q hq
 generalize a0F g0 a0q 3 [[.int .i64 0, .int .i64 0, .nils]] = g1 at *
 rw [l0]
 refine a6s (kk := 0) (off := 0) (row := a1X 0 0 .nils) (v := .agg [.int .i64 (bHs p), .int .i64 (bNu p), .nils]) a1 (by rfl) (by rfl) (by exact Nat.le_refl _) (by rfl) fun g2 a2 u2s => ?_
 have a2 : g2[h.length + 1]? = some (.row a0q 3 [a1X (bHs p) (bNu p) .nils]) := a2
 have b2 : g2[h.length]? = some (.row a0q 3 [a1X 0 0 .nils]) := by rw [u2s.2 _ (by omega)]; exact b1
 have k2 : ∀ q, q < h.length → g2[q]? = h[q]? := fun q hq => by rw [u2s.2 q (by omega)]; exact k1 q hq
 by_cases h40 : 40 < bN p
 ·have h4 : decide (((bN p : Nat) : Int) > 40) = true := decide_eq_true (by omega)
  simp only [bs, q26, d4X, a0v, h4, a0d, if_true, a3P, hz]
  exact a3O b2 (Own.nils _ _ _ _) k2 22 fun d' hd' => .inr ⟨fun xs hx => by have := hx.2.1; omega, d', rfl, hd'⟩
 have h4 : decide (((bN p : Nat) : Int) > 40) = false := decide_eq_false (by omega)
 simp only [bs, q26, d4X, a0v, h4, a0d, d4Y, if_false]
 refine Wp.loop (fun k ds g => ∃ v3 v4 v5 v6 v7, ∃ m at_ : Nat, ∃ ld xs r, ∃ its : List It, ds = [.int .i64 0, .int .u64 ((bN p - m : Nat) : Int), .int .i64 (at_ : Nat), v3, v4, v5, v6, v7] ∧ k + m = bN p ∧ r = p.drop at_ ∧ at_ ≤ p.length ∧ a8d m (p.drop 20) = some (xs, r) ∧ its.map a2S = xs
   ∧ g[h.length]? = some (.row a0q 3 [a1X 0 0 .nils]) ∧ g[h.length + 1]? = some (.row a0q 3 [a1X (bHs p) (bNu p) ld]) ∧ Own g (h.length + 2) a0D 11 (its.map itr) ld ∧ ∀ q, q < h.length → g[q]? = h[q]?)
  (fun x => (∃ v0 v1 v2 v3 v4 v5 v6 v7, x.2.1 = [v0, v1, v2, v3, v4, v5, v6, v7] ∧ (x.1 = .ret → v0 = .int .i64 22)) ∧ (∀ q, q < h.length → x.2.2[q]? = h[q]?) ∧ x.2.2[h.length]? = some (.row a0q 3 [a1X 0 0 .nils]) ∧
   ((x.1 = .ret ∧ a8d (bN p) (p.drop 20) = none) ∨ (x.1 = .ext 0 ∧ ∃ ld xs r m, ∃ its : List It, a8d m (p.drop 20) = some (xs, r) ∧ its.map a2S = xs ∧ m = bN p ∧ x.2.2[h.length + 1]? = some (.row a0q 3 [a1X (bHs p) (bNu p) ld]) ∧ Own x.2.2 (h.length + 2) a0D 11 (its.map itr) ld)))
  (bN p) ⟨_, _, _, _, _, 0, 20, .nils, [], p.drop 20, [], rfl, rfl, rfl, by omega, rfl, rfl, b2, a2, Own.nils _ _ _ _, k2⟩ ?_ ?_
 ·rintro k ds g ⟨v3, v4, v5, v6, v7, m, at_, ld, xs, r, its, rfl, hk, hr0, hat, hdec, hri, b3, a3, ow, k3⟩
  obtain ⟨hxl, ⟨q0, hq0⟩, _⟩ := a5F hdec
  have hru : ∀ z ∈ r, U8 z := fun z hz => by rw [hq0] at hz; exact hu z (List.mem_of_mem_drop (List.mem_of_mem_drop hz))
  have hrl : r.length ≤ p.length := by rw [hq0, d5s, d5s]; omega
  simp only [b2E, a0f, a0n, bs, d4X, a0v, l0]
  by_cases hm : m < bN p
  ·have c1 : ((bN p - m : Nat) : Int) > 0 := by omega
   obtain ⟨rest, e38, hr⟩ := b1V hp (k := .i64) (n := (at_ : Nat)) (by omega) (by omega)
   rw [d5h, ← hr0] at hr
   obtain ⟨_, j, ej, hj⟩ := b5q r rest g hr (by omega) hru
   by_cases he : (a5E r).1 = 0
   ·rw [he] at ej
    obtain ⟨s8, sl, _⟩ := b1q he
    have hrn : r.length = p.length - at_ := by rw [hr0]; simp [-bind_some]
    have w2 : IntKind.wrap .i64 (((at_ : Nat) : Int) + (a5E r).2.1) = ((at_ + (a5E r).2.1.toNat : Nat) : Int) := by rw [wrap_i64 (by omega) (by omega)]; omega
    have ldl : a0c tab g a0K (.ptr (h.length + 1) 0 (0 + 2)) = some ld := by rw [b6B, a0V a3]; rfl
    have hlit : a1h tab a0K 1 [0] [.agg (itr j)] = some (.sl 11 true [itr j]) := id rfl
    have hll : its.length = m := by have := congrArg List.length hri; simp at this; omega
    have w1 : IntKind.wrap .u64 (((bN p - m : Nat) : Int) - 1) = ((bN p - (m + 1) : Nat) : Int) := by rw [a1j (by omega) (by omega)]; omega
    simp only [c1, decide_true, e38, if_true, bs, a0d, ej, a0A, d5a, d5b, a9V, b4H, a0t, ne_eq, not_true, decide_false, d4Y, if_false, a7o, ldl, hlit, d4X]
    have hgl : h.length + 2 ≤ g.length := (d5p.1 a3).1
    refine b3U (ys := [itr j]) hgl ow (a1g _ _ _ _) (by simp; omega) fun ld2 g3 ow3 len3 bel3 old3 _ => ?_
    have a4 : g3[h.length + 1]? = some (.row a0q 3 [a1X (bHs p) (bNu p) ld]) := by rw [bel3 _ (by omega)]; exact a3
    simp only [bs]
    refine b8n (kk := 0) (row := a1X (bHs p) (bNu p) ld) a4 (by rfl) (by rw [(a0T (a2a ow3)).1]; rfl) (by simp [-bind_some, a1X]) (a0T (a2a ow3)).2 fun g4 a5 u4s => ?_
    rw [(a0T (a2a ow3)).1] at a5
    have a5 : g4[h.length + 1]? = some (.row a0q 3 [a1X (bHs p) (bNu p) ld2]) := a5
    simp only [bs, a0u, w2, a0B, w1]
    refine .some (.inl ⟨rfl, k - 1, by omega, _, _, _, _, _, m + 1, at_ + (a5E r).2.1.toNat, ld2, xs ++ [(a5E r).2.2], r.drop (a5E r).2.1.toNat, its ++ [j], rfl, by omega, by rw [hr0, List.drop_drop], by omega, ?_, ?_, ?_, a5, ?_, fun q hq => ?_⟩)
    ·unfold a8d; simp only [hdec, he, if_true]
    ·rw [d5e, hri]; simp [-bind_some, hj]
    ·rw [u4s.2 _ (by omega), bel3 _ (by omega)]; exact b3
    ·rw [d5e]
     exact ow3.keep fun q hq hx => u4s.2 q (by omega)
    ·rw [u4s.2 q (by omega), bel3 q (by omega)]; exact k3 q hq
   ·have hee : decide ((a5E r).1 ≠ 0) = true := decide_eq_true he
    simp only [c1, decide_true, e38, if_true, bs, a0d, ej, a0A, d5a, d5b, a9V, a0t, hee, a3P, hz]
    refine a6s (kk := 0) (off := 0) (row := a1X 0 0 .nils) (v := .agg (a1X 0 0 .nils)) b3 (by rfl) (by rfl) (by exact Nat.le_refl _) (by rfl) fun g5 b5 u5s => ?_
    have b5 : g5[h.length]? = some (.row a0q 3 [a1X 0 0 .nils]) := b5
    refine .some (.inr ⟨by simp, ⟨_, _, _, _, _, _, _, _, rfl, fun _ => rfl⟩, fun q hq => by rw [u5s.2 q (by omega)]; exact k3 q hq, b5, .inl ⟨rfl, a7l (k := m + 1) ?_ _ (by omega)⟩⟩)
    unfold a8d; simp only [hdec, he, if_false]
  ·have hm : m = bN p := by omega
   subst hm
   have c1 : ¬ ((bN p - bN p : Nat) : Int) > 0 := by omega
   simp only [c1, decide_false, d4Y, if_false, bs, a0d]
   exact .some (.inr ⟨by simp, ⟨_, _, _, _, _, _, _, _, rfl, fun hh => by cases hh⟩, k3, b3, .inr ⟨rfl, ld, xs, r, _, its, hdec, hri, rfl, a3, ow⟩⟩)
 ·rintro ⟨ex, ds, g⟩ ⟨⟨v0, v1, v2, v3, v4, v5, v6, v7, rfl, hv0⟩, k3, b3, hcase⟩
  simp only at k3 b3 hcase hv0
  rcases hcase with ⟨rfl, hnone⟩ | ⟨rfl, ld, xs, r, m, its, hdec, hri, hmN, a3, ow⟩
  ·have := hv0 rfl
   subst this
   simp only [a1J, a1I, a1H, bs, a0f]
   exact a7c b3 (Own.nils _ _ _ _) k3 22 fun d' hd' => .inr ⟨(fun xs hx => by
    obtain ⟨_, _, ⟨r, hr⟩, _⟩ := hx
    rw [hnone] at hr
    cases hr), d', rfl, hd'⟩
  ·obtain ⟨hxl, _, htot⟩ := a5F hdec
   have hT := htot its hri
   simp only [d5s] at hT
   have hll : its.length = m := by have := congrArg List.length hri; simp at this; omega
   have ldb : a0c tab g a0q (.ptr (h.length + 1) 0 0) = some (.agg (a1X (bHs p) (bNu p) ld)) := by rw [a6k, a0V a3]; rfl
   have hnm : ∀ i ∈ its, NmB i.e := fun i hi q hq => by
    have h1 : (a3L i).length ≤ (its.map a3L).flatten.length := (List.sublist_flatten_of_mem (d5w.2 ⟨i, hi, rfl⟩)).length_le
    have h2 : (fdB q).length ≤ (i.e.fs.map fdB).flatten.length := (List.sublist_flatten_of_mem (d5w.2 ⟨q, hq, rfl⟩)).length_le
    rw [a3S] at h1
    simp only [a1S, d5c] at h1
    simp only [fdB, pS, d5c, a6q] at h2
    omega
   obtain ⟨dz, ez, sz⟩ := b7K (bHs p) (bNu p) its ld g (.inr ⟨_, ow⟩) hnm (fun _ => by omega)
   have no : a1n (bHs p) its ≠ 0 ∨ a6e (bHs p) (bNu p) its ≠ p → ∀ ys, ¬ b9O p ys := fun hc ys hy => by
    obtain ⟨_, h40, ⟨r', hr'⟩, its2, i1, i2, i3⟩ := hy
    rw [hmN] at hdec
    rw [hdec] at hr'
    injection hr' with hr'
    injection hr' with hr' _
    have hm2 : its.map a2S = its2.map a2S := by rw [hri, i1, hr']
    rcases hc with hc | hc
    ·exact hc (by rw [a9Z hm2]; exact i2)
    ·exact hc (by rw [a9T hm2]; exact i3)
   by_cases hc : a1n (bHs p) its = 0
   ·rw [hc] at ez
    unfold a9N at sz
    rw [if_pos hc] at sz
    have hbl : (a6e (bHs p) (bNu p) its).length ≤ 1000000000 := by simp only [a6e, d5c, a1d, a1x]; omega
    have eb := c2h _ p dz dp g sz hp (by omega)
    by_cases hbp : a6e (bHs p) (bNu p) its = p
    ·have hdt : decide (a6e (bHs p) (bNu p) its = p) = true := decide_eq_true hbp
     rw [hdt] at eb
     simp only [a0l, a0o, bs, d4X, l0, ldb, ez, a0A, d5a, d5b, a0t, ne_eq, not_true, decide_false, a0r, a0W, if_true, eb, a1m, d5i, a0e, d4Y, if_false, a0d]
     refine a3O b3 ow k3 0 fun d' hd' => .inl ⟨xs, ?_, its, d', rfl, hd', hri⟩
     obtain ⟨h41, _⟩ := a2X hc
     have t20 : (p.drop 16).take 4 = pN its.length := by
      rw [← hbp]
      have : a6e (bHs p) (bNu p) its = (pI (bHs p) ++ pI (bNu p)) ++ (pN its.length ++ (its.map a3L).flatten) := by simp [-bind_some, a6e]
      rw [this, List.drop_left' (by rw [d5c, a1d, a1d])]; exact List.take_left' (a1x _)
     have hNl : bN p = its.length := by
      have := hN
      rw [t20, c0w (by omega)] at this
      omega
     refine ⟨by omega, by omega, ⟨r, by rw [hNl, hll]; exact hdec⟩, its, hri, hc, hbp⟩
    ·have hdt : decide (a6e (bHs p) (bNu p) its = p) = false := decide_eq_false hbp
     rw [hdt] at eb
     simp only [a0l, a0o, bs, d4X, l0, ldb, ez, a0A, d5a, d5b, a0t, ne_eq, not_true, decide_false, a0r, a0W, if_true, eb, a1m, d5j, a0e, d4Y, if_false, a0d, a3P, hz]
     exact a3O b3 (Own.nils _ _ _ _) k3 22 fun d' hd' => .inr ⟨no (.inr hbp), d', rfl, hd'⟩
   ·have hcc : decide (a1n (bHs p) its ≠ 0) = true := decide_eq_true hc
    simp only [a0l, a0o, bs, d4X, l0, ldb, ez, a0A, d5a, d5b, a0t, hcc, a0r, a0W, d4Z, a1f, a3T, if_false, if_true, a0e, a0d, a3P, hz]
    exact a3O b3 (Own.nils _ _ _ _) k3 22 fun d' hd' => .inr ⟨no (.inl hc), d', rfl, hd'⟩
structure SmI (L : Nat) (i : It) : Prop where
 r : i.r.length ≤ L
 t7 : i.e.s7.length ≤ L
 t8 : i.e.s8.length ≤ L
 ls : i.e.ls.length ≤ L
 fs : i.e.fs.length ≤ L
 tx : ∀ l ∈ i.e.ls, l.txt.length ≤ L
 nv : ∀ p ∈ i.e.fs, p.1.length ≤ L ∧ p.2.length ≤ L
def b4d (i : It) : Nat := i.e.ls.length + i.e.fs.length
theorem c2o {i : It} (h : SmI 1048576 i) : (a3L i).length ≤ 3145828 + b4d i * 2097172 := by
 have h1 : (i.e.ls.map lnB).flatten.length ≤ i.e.ls.length * 1048596 := a2N lnB 1048596 i.e.ls (fun l hl => by
  have := h.tx l hl
  simp only [lnB, d5c, a1d, a1v]; omega)
 have h2 : (i.e.fs.map fdB).flatten.length ≤ i.e.fs.length * 2097160 := a2N fdB 2097160 i.e.fs (fun p hp => by
  have := h.nv p hp
  simp only [fdB, d5c, a1v]; omega)
 have h3 := h.r
 have h4 := h.t7
 have h5 := h.t8
 rw [a3S]
 unfold b4d
 simp only [a1S, a4T, a3g, d5c, a1d, a1x, a1v]
 omega
theorem b3Q : ∀ (its : List It), (∀ i ∈ its, SmI 1048576 i) → (its.map a3L).flatten.length ≤ its.length * 3145828 + (its.map b4d).sum * 2097172
 | [], _ => by simp
 | i :: r, h => by
  have h1 := c2o (h i (by simp))
  have h2 := b3Q r fun x hx => h x (by simp [-bind_some, hx])
  simp only [d5f, List.flatten_cons, d5c, List.sum_cons, d5q]
  omega
theorem c1Q (b : Bat) (P : Nat) (hL : b.its.length ≤ 1048576) (hP : P ≤ 1048576) (hc : ∀ i ∈ b.its, SmI 1048576 i) (x : D) (h : Hp) {β : Type} {K : Out → Option β} {Q : β → Prop}
  (k : ∀ (N : Nat) a c, (N ≤ 300 → N = b.its.length + P + (b.its.map b4d).sum) → N ≤ 4000000 → Wp (K (.ext 0, [.int .i64 (N : Nat), a, c], h)) Q) :
  Wp ((a0I (a8T (.fptr (a6N b))) [.int .i64 ((b.its.length + P : Nat) : Int), .int .i64 0, x] h).bind K) Q := by
 refine Wp.loop (fun m ds g => g = h ∧ ∃ c, ∃ n i : Nat, ds = [.int .i64 (n : Nat), .int .i64 (i : Nat), c] ∧ m + i = b.its.length ∧ n = b.its.length + P + ((b.its.take i).map b4d).sum ∧ n ≤ 4000000)
  (fun r => r.1 = .ext 0 ∧ r.2.2 = h ∧ ∃ (N : Nat) (a c : D), r.2.1 = [.int .i64 (N : Nat), a, c] ∧ (N ≤ 300 → N = b.its.length + P + (b.its.map b4d).sum) ∧ N ≤ 4000000) b.its.length
  ⟨rfl, _, _, 0, rfl, rfl, by simp, by omega⟩ ?_ ?_
 ·rintro m ds g ⟨rfl, c, n, i, rfl, hm, hn, hnl⟩
  have f2 : a0a tab a0q 2 (.fptr (a6N b)) = some (.fptr [b.d]) := id rfl
  simp only [a8T, a0f, a0n, bs, d4X, f2, a6j, a4y b.hd, a0j]
  by_cases hi : i < b.its.length
  ·have c1 : decide ((i : Int) < (b.its.length : Int)) = true := decide_eq_true (by omega)
   by_cases hn3 : n ≤ 300
   ·have c2 : decide ((n : Int) ≤ 300) = true := decide_eq_true (by omega)
    obtain ⟨y, hy⟩ := gx_ hi
    have hs := hc y (d5m hy)
    have h1 := hs.ls
    have h2 := hs.fs
    have hii : a0b tab a0K b.d (.int .i64 (i : Int)) = some (.fptr (itr y)) := by rw [a7z b.hd]; simp [-bind_some, hy]
    have q4 : a0a tab a0E 4 (.fptr (evr y.e)) = some (.fptr [y.e.ld, .int .i64 y.e.a5, .int .i64 y.e.a6, .str y.e.s7, .str y.e.s8, y.e.fd]) := id rfl
    have q9 : a0a tab a0E 9 (.fptr (evr y.e)) = some (.fptr [y.e.fd]) := id rfl
    have w1 : IntKind.wrap .i64 ((y.e.ls.length : Int) + (y.e.fs.length : Int)) = ((b4d y : Nat) : Int) := by unfold b4d; rw [wrap_i64 (by omega) (by omega)]; omega
    have w2 : IntKind.wrap .i64 ((n : Int) + ((b4d y : Nat) : Int)) = ((n + b4d y : Nat) : Int) := by unfold b4d; rw [wrap_i64 (by omega) (by omega)]; omega
    have w3 := wi_ i (by omega)
    simp only [c1, c2, a0r, if_true, bs, a1E, a0e, a0d, hii, c0m, q4, a8p, a2G y.e.hld, q9, b4u, a1W y.e.hfd, a0u, w1, w2, w3]
    refine .some (.inl ⟨rfl, m - 1, by omega, rfl, _, n + b4d y, i + 1, rfl, by omega, ?_, by unfold b4d; omega⟩)
    rw [d5k, hy, Option.toList_some, d5e, List.sum_append, hn]
    simp [-bind_some]; omega
   ·have c2 : decide ((n : Int) ≤ 300) = false := decide_eq_false (by omega)
    simp only [c1, c2, a0r, if_true, bs, a1E, a0e, a0d, d4Y, if_false]
    exact .some (.inr ⟨by simp, rfl, rfl, n, _, _, rfl, fun hh => absurd hh hn3, hnl⟩)
  ·have c1 : decide ((i : Int) < (b.its.length : Int)) = false := decide_eq_false (by omega)
   have hi : i = b.its.length := by omega
   subst hi
   rw [d5x] at hn
   simp only [c1, a0r, d4Y, if_false, bs, a0e, a0d]
   exact .some (.inr ⟨by simp, rfl, rfl, n, _, _, rfl, fun _ => hn, hnl⟩)
 ·rintro ⟨ex, ds, g⟩ ⟨r1, r2, N, a, c, r3, h1, h2⟩
  simp only at r1 r2 r3
  subst r1; subst r2; subst r3
  exact k N a c h1 h2
theorem c6h (zs : List Int) (d : D) (hd : a5w .u8 zs d) (hz : ∀ z ∈ zs, 0 ≤ z ∧ z < 256) : ∃ x dw h', R b3f [d] [] = some (.tup [x, dw], h') ∧ ∃ bt : List (List It × D × Int), Own h' 1 a0q 3 (bt.map (a8W 1)) x ∧
  (∀ p ∈ bt, Own h' 1 a0D 11 (p.1.map itr) p.2.1 ∧ p.1.length ≤ 3 ∧ ∀ i ∈ p.1, BIt 1 i) ∧ bt.length ≤ 24 ∧ 1 ≤ h'.length := by
 suffices Wp (R b3f [d] []) (fun p => ∃ x dw, p.1 = .tup [x, dw] ∧ ∃ bt : List (List It × D × Int), Own p.2 1 a0q 3 (bt.map (a8W 1)) x ∧
  (∀ q ∈ bt, Own p.2 1 a0D 11 (q.1.map itr) q.2.1 ∧ q.1.length ≤ 3 ∧ ∀ i ∈ q.1, BIt 1 i) ∧ bt.length ≤ 24 ∧ 1 ≤ p.2.length) by
  obtain ⟨⟨y, h'⟩, h1, x, dw, rfl, h2⟩ := this
  exact ⟨x, dw, h', h1, h2⟩
 rw [c8m]
 simp only [c3J, bs, d4X]
 obtain ⟨h0, e0, c0, hl0⟩ := d44 zs d 400 [] hd (by omega) (by omega) hz
 refine Wp.step e0 ?_
 simp only [bs]
 have hl0 : h0.length = 1 := hl0
 obtain ⟨x, h1, ea, ca, la, ka, bt, ow, its, n1, n24⟩ := c4F c0 1 5 (by omega) (by omega) (by omega) (by omega)
 rw [hl0] at la ka ow its
 refine Wp.step ea ?_
 simp only [bs]
 have hpn : ∀ p ∈ bt, (∀ i ∈ p.1, NmB i.e) ∧ (p.1.map a3L).flatten.length ≤ 60100 := fun p hp => by
  obtain ⟨_, h3, hi, _⟩ := its p hp
  refine ⟨fun i hii => c0b (hi i hii), ?_⟩
  have := a2N a3L 20008 p.1 fun i hii => by have := b4W (hi i hii); rw [a3S]; omega
  have h2 : p.1.length * 20008 ≤ 3 * 20008 := Nat.mul_le_mul_right _ h3
  omega
 refine Wp.loop (fun k ds g => g = h1 ∧ ∃ dj y, ∃ n : Nat, ∃ j : List Int, ds = [dj, .int .i64 n, y] ∧ k + n = bt.length ∧ SlOf 1 byr j dj ∧ j.length ≤ n * 60200)
  (fun r => r.1 = .ext 0 ∧ r.2.2 = h1 ∧ ∃ dj y z, r.2.1 = [dj, y, z]) bt.length ⟨rfl, _, _, 0, [], rfl, rfl, .nils _ _, by simp⟩ ?_ ?_
 ·rintro k ds g ⟨rfl, dj, y, n, j, rfl, hk, hj, hjl⟩
  simp only [b2q, a0f, a0n, bs, d4X, b3w ow, d5d, a0j]
  refine Wp.dif ?_ ?_
  ·intro h0
   have h0 : n < bt.length := dl_ h0
   obtain ⟨p, hi⟩ := gx_ h0
   obtain ⟨o, ho, rfl, hob⟩ := a4k ow (i := n) (by simpa using h0)
   obtain ⟨ow2, h3, hbi, _⟩ := its p (d5m hi)
   obtain ⟨hnm, hT⟩ := hpn p (d5m hi)
   have hn24 : n * 60200 ≤ 24 * 60200 := Nat.mul_le_mul_right _ (by omega)
   have hw := wi_ n (by omega)
   have hix : a0b tab a1G (.msl 3 o 0 (bt.map (a8W 1)).length) (.int .i64 (n : Int)) = some (.ptr o n 0) := by rw [b6w, if_pos (by simp; omega)]; simp [-bind_some]
   have hld : a0c tab g a0q (.ptr o n 0) = some (.agg (a1X 1 p.2.2 p.2.1)) := by rw [a6k, a0V hob, d5l, hi]; rfl
   obtain ⟨d', e1, hd'⟩ := c0I j 1 p.2.2 p.1 dj p.2.1 g hj (by omega) (.inr ⟨_, ow2⟩) hnm (fun _ => by omega)
   simp only [hix, hld, e1, bs, a0A, d5a, d5b, a0u, hw]
   refine .some (.inl ⟨rfl, k - 1, by omega, rfl, _, _, n + 1, _, rfl, by omega, hd', ?_⟩)
   unfold c2a a9v
   split
   ·rename_i hc
    split
    ·simp only [d5c, a2v, a9N, if_pos hc, a6e, a1d, a1x]; omega
    ·simp [-bind_some]
   ·simp [-bind_some]
  ·intro h0
   exact .some (.inr ⟨by simp, rfl, rfl, _, _, _, rfl⟩)
 ·rintro ⟨ex, ds, g⟩ ⟨r1, r2, dj, y, z, r3⟩
  simp only at r1 r2 r3
  subst r1; subst r2; subst r3
  simp only [a0l, a0o, bs, a0f, a0S]
  exact .some ⟨_, _, rfl, bt, ow, fun p hp => ⟨(its p hp).1, (its p hp).2.1, (its p hp).2.2.1⟩, n24, la⟩
theorem b8R (p : List Int) (q : D) (g : Hp) (hp : SlOf 1 byr p q) (hl : p.length ≤ 790000020) (hu : ∀ z ∈ p, U8 z) : ∃ (hs nu e : Int) (d1 d2 : D),
  R b3o [q] g = some (.tup [.agg (a1X hs nu d1), .int .i64 e], g) ∧ R b3q [q] g = some (.tup [.agg (a1X hs nu d2), .int .i64 e], g) ∧ R b3p [.agg (a1X hs nu d1), .agg (a1X hs nu d2)] g = some (.bool true, g) := by
 rcases c6m p q g hp hl hu with ⟨xs, h1, i1, d1, e1, s1, r1⟩ | ⟨h1, d1, e1, s1⟩
 ·rcases c0J p q g hp hl hu with ⟨ys, h2, i2, d2, e2, s2, r2⟩ | ⟨h2, _⟩
  ·have := b5o h1 h2
   subst this
   obtain ⟨_, _, _, i3, r3, c3, _⟩ := h1
   obtain ⟨h40, _⟩ := a2X c3
   have hl1 : i1.length = i3.length := by have := congrArg List.length (r1.trans r3.symm); simpa using this
   exact ⟨_, _, _, _, _, e1, e2, c6o _ _ i1 i2 d1 d2 g s1 s2 (r1.trans r2.symm) (by omega)⟩
  ·exact absurd h1 (h2 xs)
 ·rcases c0J p q g hp hl hu with ⟨ys, h2, _⟩ | ⟨_, d2, e2, s2⟩
  ·exact absurd h2 (h1 ys)
  ·exact ⟨_, _, _, _, _, e1, e2, c6o _ _ [] [] d1 d2 g s1 s2 rfl (by simp)⟩
theorem c7i (hs nu : Int) (d : D) : a6t 3 (.agg (a1X hs nu d)) = some (.fptr (a1X hs nu d)) := a3i 3 _ rfl
theorem c1R (xs : List D) (hx3 : xs.length = 3) (all : ∀ x ∈ xs, ∃ l, SlOf 1 byr l x ∧ l.length ≤ 790000020 ∧ ∀ z ∈ l, U8 z) (G : Hp) (o : Nat) (pG : G[o]? = some (.row a0H 1 (xs.map fun x => [x]))) (p162 : D × Hp) (hp : p162.1 = .msl 1 o 0 3) (ds : List D) (h6 : nth 6 ds = .int .i64 0)
  {β : Type} {K : Out → Option β} {Q : β → Prop} (k : ∀ ds', Wp (K (.ext 4, ds', G)) Q) : Wp ((a0I (a8U p162 (.int .i64 (3 : Nat))) ds G).bind K) Q := by
 refine Wp.loop (fun m ds g => g = G ∧ ∃ n : Nat, nth 6 ds = .int .i64 (n : Nat) ∧ m + n = 3) (fun r => r.1 = .ext 4 ∧ r.2.2 = G) 3 ⟨rfl, 0, h6, rfl⟩ ?_ ?_
 ·rintro m ds g ⟨rfl, n, hn, hm⟩
  simp only [a8U, hn, bs, d4X, a0j]
  refine Wp.dif ?_ ?_
  ·intro h0
   have h0 : n < 3 := by
    have : (n : Int) < ((3 : Nat) : Int) := by simpa using h0
    omega
   obtain ⟨q, hq⟩ : ∃ q, xs[n]? = some q := ⟨xs[n]'(by omega), d5o (by omega)⟩
   have hw := wi_ n (by omega)
   have hix : a0b tab a2i (.msl 1 o 0 3) (.int .i64 n) = some (.ptr o n 0) := by rw [c1O, if_pos (by omega)]; simp [-bind_some]
   have hld : a0c tab g a0H (.ptr o n 0) = some q := by rw [b9o, a0V pG, d5l, hq]; rfl
   obtain ⟨l, hsl, hll, hlu⟩ := all q (d5m hq)
   obtain ⟨hs, nu, e, d1, d2, e1, e2, e3⟩ := b8R l q g hsl hll hlu
   simp only [hp, hix, hld, e1, e2, c7i, bs, a0A, d5a, d5b, a0t, ne_eq, not_true, decide_false, a0r, a0W, if_true, a0e, d4Y, if_false, bxb, e3, a1m, d5i, a0d, a0u, hw]
   exact .some (.inl ⟨rfl, m - 1, by omega, rfl, n + 1, rfl, by omega⟩)
  ·intro h0
   exact .some (.inr ⟨by simp, rfl, rfl⟩)
 ·rintro ⟨ex, ds, g⟩ ⟨r1, r2⟩
  simp only at r1 r2
  subst r1; subst r2
  exact k _
theorem c1U (B0 : Bat) (rs : List Int) (dr : D) (zs : List Int) (d : D) (at_ by_ : Int) (hB0 : B0.its.length ≤ 1048576) (hsm : ∀ i ∈ B0.its, SmI 1048576 i) (hr : a5w .u8 rs dr) (hrz : ∀ z ∈ rs, 0 ≤ z ∧ z < 256) (hrl : rs.length ≤ 1048576) (hd : a5w .u8 zs d) (hz : ∀ z ∈ zs, 0 ≤ z ∧ z < 256) :
  ∃ h', R b6h [.agg (a6N B0), dr, d, .int .i64 at_, .int .u8 by_] [] = some (.bool true, h') := by
 suffices Wp (R b6h [.agg (a6N B0), dr, d, .int .i64 at_, .int .u8 by_] []) (fun p => p.1 = .bool true) by
  obtain ⟨⟨x, h'⟩, h1, rfl⟩ := this
  exact ⟨h', h1⟩
 have hrs : SlOf 1 byr rs dr := hr.imp id fun h => ⟨false, h⟩
 have hsc : ∀ g' : Hp, scope [] g' (.bool true) = some (.bool true, []) := fun g' => a1i (by simp) (.bool _) (by simp) (fun q hq => by cases hq)
 have f2 : a0a tab a0q 2 (.fptr (a6N B0)) = some (.fptr [B0.d]) := id rfl
 have lb : ∀ (b : Bat) (g : Hp), a0c tab g a0q (.fptr (a6N b)) = some (.agg (a6N b)) := fun b g => id rfl
 have w0 : IntKind.wrap .i64 ((B0.its.length : Int) + (rs.length : Int)) = ((B0.its.length + rs.length : Nat) : Int) := by rw [wrap_i64 (by omega) (by omega)]; omega
 rw [c8V]
 simp only [c4p, a1b, bs, f2, a6j, a4y B0.hd, a1l hrs, a0u, w0, d4X]
 refine c1Q B0 rs.length hB0 hrl hsm _ [] fun N a c hN hNl => ?_
 simp only [bs, a0l, a0o, c5U, a1m, d5i, a0r, if_true, a0f, a0v, a0e, d4Y, if_false, d4X]
 by_cases hN3 : 300 < N
 ·have hd3 : decide ((N : Int) > 300) = true := decide_eq_true (by omega)
  simp only [hd3, a0d, if_true, a0g, hsc]
  exact .some rfl
 have hd3 : decide ((N : Int) > 300) = false := decide_eq_false (by omega)
 have hN := hN (by omega)
 simp only [hd3, a0d, d4Y, if_false]
 obtain ⟨x, dw, g1, e1, bt, ow, its, n24, lg1⟩ := c6h zs d hd hz
 have hlit : a1h tab a1G 1 [0] [.agg (a6N B0)] = some (.sl 3 true [a6N B0]) := id rfl
 simp only [e1, bs, a0A, d5a, d5b, lb, hlit, d4X]
 refine b8i (n0 := 1) lg1 ow (a1g _ _ _ _) (by simp only [d5d, d5q, d5r]; omega) fun x5 g5 o5 l5q k5 k5' i5 => ?_
 obtain ⟨ob, hob, rfl, hgo⟩ := a4k o5 (i := 0) (by simp)
 have hA : ∃ A : List Bat, SlOf 3 a6N A (frz 0 g5 3 (.msl 3 ob 0 (bt.map (a8W 1) ++ [a6N B0]).length)) ∧ A.length ≤ 25 ∧ ∀ b ∈ A, (∀ i ∈ b.its, NmB i.e) ∧ (a1n b.hs b.its = 0 → (b.its.map a3L).flatten.length ≤ 790000000) := by
  have mk : ∀ l : List (List It × D × Int), (∀ p ∈ l, p ∈ bt) → ∃ A : List Bat, A.map a6N = (l.map (a8W 1)).map (fun row => row.map (frz 0 g5 2)) ∧ A.length = l.length ∧ ∀ b ∈ A, (∀ i ∈ b.its, NmB i.e) ∧ (a1n b.hs b.its = 0 → (b.its.map a3L).flatten.length ≤ 790000000) := by
   intro l
   induction l with
   | nil => exact fun _ => ⟨[], rfl, rfl, by simp⟩
   | cons p r ih =>
    intro hp
    obtain ⟨A, h1, h2, h3⟩ := ih fun q hq => hp q (by simp [-bind_some, hq])
    obtain ⟨ow1, hl3, hi⟩ := its p (hp p (by simp))
    have ow' := ow1.keep (h' := g5) fun q _ hin => k5' q (ow1.lt hin).2 fun hh => by
     rcases ow with ⟨hx, _⟩ | ⟨o', _, hx, hg'⟩
     ·rw [hx] at hh; obtain ⟨_, _, hh⟩ := hh; cases hh
     ·obtain ⟨_, _, hh⟩ := hh
      rw [hx] at hh
      injection hh with _ hh
      subst hh
      exact b7m ow1 hg' (by decide) hin
    have hsl := a2C (n0 := 0) (n := 1) ow' (by omega) (fun a _ => a7y _ g5 0 a)
    refine ⟨⟨1, p.2.2, p.1, _, hsl⟩ :: A, ?_, by simp [-bind_some, h2], fun b hb => ?_⟩
    ·simp only [d5f, h1]
     simp [-bind_some, a6N, a8W]
    ·rcases d5u.1 hb with rfl | hb
     ·refine ⟨fun i hii => c0b (hi i hii), fun _ => ?_⟩
      have h5 := a2N a3L 20008 p.1 fun i hii => by have := b4W (hi i hii); rw [a3S]; omega
      have h6 : p.1.length * 20008 ≤ 3 * 20008 := Nat.mul_le_mul_right _ hl3
      exact Nat.le_trans h5 (by omega)
     ·exact h3 b hb
  obtain ⟨A, h1, h2, h3⟩ := mk bt fun p hp => hp
  have hB : (a6N B0).map (frz 0 g5 2) = a6N B0 := by
   have := a3n (n0 := 0) (h := g5) (n := 1) B0.hd (fun a _ => a7y _ g5 0 a)
   simp [-bind_some, a6N, this]
  refine ⟨A ++ [B0], .inr ⟨false, ?_⟩, by simp; omega, fun b hb => ?_⟩
  ·rw [b1A (by omega) hgo]
   simp only [List.drop_zero, d5x, d5e, h1, d5f, d5g, hB]
  ·rcases d5v.1 hb with hb | hb
   ·exact h3 b hb
   ·rw [List.mem_singleton.1 hb]
    refine ⟨fun i hi p hp => by have := (hsm i hi).nv p hp; omega, fun hc => ?_⟩
    obtain ⟨h40, _⟩ := a2X hc
    have := b3Q B0.its hsm
    omega
 have hW : c6H 0 (D.msl 3 ob 0 (bt.map (a8W 1) ++ [a6N B0]).length, g5) = (frz 0 g5 3 (.msl 3 ob 0 (bt.map (a8W 1) ++ [a6N B0]).length), a4a 0 g5) := rfl
 obtain ⟨A, hA, hAl, hAn⟩ := hA
 simp only [hW, bs]
 generalize frz 0 g5 3 (.msl 3 ob 0 (bt.map (a8W 1) ++ [a6N B0]).length) = dA at hA ⊢
 generalize a4a 0 g5 = G0
 clear hW hgo hob o5 i5 k5 k5' l5q ow its e1 lg1
 refine Wp.loop (fun m ds g => ∃ n : Nat, nth 1 ds = .int .i64 (n : Nat) ∧ m + n = A.length) (fun r => r.1 = .ext 2) A.length ⟨0, rfl, rfl⟩ ?_ ?_
 ·rintro m ds g ⟨n, hn, hm⟩
  simp only [b2D, hn, bs, d4X, b9r hA, a0j]
  refine Wp.dif ?_ ?_
  ·intro h0
   have h0 : n < A.length := dl_ h0
   obtain ⟨b, hb⟩ := gx_ h0
   obtain ⟨hnm, hT⟩ := hAn b (d5m hb)
   have hw := wi_ n (by omega)
   have hix : a0b tab a1G dA (.int .i64 (n : Int)) = some (.fptr (a6N b)) := by rw [c1P hA, if_pos (by omega), d5h, hb]; rfl
   have hbl : ∀ g : Hp, a0c tab g a0q (.fptr (a6N b)) = some (.agg (a1X b.hs b.nu b.d)) := fun g => id rfl
   obtain ⟨d1, q1, s1⟩ := b7N b.hs b.nu b.its b.d g (.inl b.hd) hT
   obtain ⟨d2, q2, s2⟩ := b7K b.hs b.nu b.its b.d g (.inl b.hd) hnm hT
   obtain ⟨d3, q3, s3⟩ := c6n rs b.hs b.nu b.its dr b.d g hrs (by omega) (.inl b.hd) hT
   obtain ⟨d4, q4, s4⟩ := c0I rs b.hs b.nu b.its dr b.d g hrs (by omega) (.inl b.hd) hnm hT
   have hel := a9g (nu := b.nu) hT
   have heu : ∀ z ∈ a9N b.hs b.nu b.its, U8 z := fun z hz => by
    unfold a9N at hz
    split at hz
    ·exact b4Q _ _ _ z hz
    ·cases hz
   have hll : (c2a rs b.hs b.nu b.its).length ≤ 9000000000 := by
    unfold c2a a9v
    split
    ·split
     ·simp only [d5c, a2v]; omega
     ·simp [-bind_some]
    ·simp [-bind_some]
   have c1 := c2h _ _ d1 d2 g s1 s2 (by omega)
   have c2 := c2h _ _ d3 d4 g s3 s4 (by omega)
   simp only [hix, hbl, q1, q2, q3, q4, bs, a0A, d5a, d5b, a0t, ne_eq, not_true, decide_false, a0r, a0W, if_true, c1, c2, decide_true, a1m, d5i, a0e, d4Y, if_false, a0d]
   clear q1 q2 q3 q4 c1 c2 s1 s3 s4 hll hbl hix
   generalize a9N b.hs b.nu b.its = L at hel heu s2
   refine b1d (n0 := g.length) (rows := []) (Nat.le_refl _) (.nils _ _ _ _) (a3H _ s2) (by simp only [d5d, d5r]; omega) fun x6 g6 o6 l6q k6 _ _ => ?_
   rw [List.nil_append] at o6
   simp only [c0q o6, d5d, bs, a0v]
   refine Wp.bind (P := fun r : Out => r.1 = .nrm ∧ ∃ l1 : List Int, Own r.2.2 0 ty5 1 (l1.map byr) x6 ∧ l1.length = L.length ∧ ∀ z ∈ l1, U8 z) (Wp.dif ?_ ?_) ?_
   ·intro hL
    have hL : 0 < L.length := by
     have : (L.length : Int) > 0 := by simpa using hL
     omega
    obtain ⟨o, ho, rfl, p6⟩ := a4k o6 (i := 0) (by simpa using hL)
    obtain ⟨rr, er, r0, r1, _⟩ := c6f at_ (L.length : Int) g6 (by omega)
    have r1 := r1 (by omega)
    obtain ⟨p, rfl⟩ := Int.eq_ofNat_of_zero_le r0
    obtain ⟨z, hz1⟩ : ∃ z, L[p]? = some z := ⟨_, d5o (by omega)⟩
    have hixp : a0b tab a0H (.msl 1 o 0 (L.map byr).length) (.int .i64 (p : Int)) = some (.ptr o p 0) := by rw [b6x, if_pos (by simp; omega)]; simp [-bind_some]
    have hldp : a0c tab g6 ty5 (.ptr o p 0) = some (.int .u8 z) := by rw [c6W, a0V p6, d5l, hz1]; rfl
    simp only [er, bs, hixp, hldp, a5D, d4X]
    generalize hW : IntKind.wrap .u8 ((BitVec.ofInt IntKind.u8.bits z ^^^ BitVec.ofInt IntKind.u8.bits by_).toNat : Int) = W
    have hWu : U8 W := by
     rw [← hW, a6Z]; unfold U8; omega
    refine d4Q (kk := p) (off := 0) (row := byr z) (v := .int .u8 W) p6 (by rw [d5l, hz1]; rfl) (by rfl) (by simp [-bind_some, byr]) (by rfl) fun g7 p7 s7 => ?_
    have hset : (L.map byr).set p (spl (byr z) 0 (a0z (.int .u8 W))) = (L.set p W).map byr := by
     rw [show spl (byr z) 0 (a0z (.int .u8 W)) = byr W from rfl, List.map_set]
    rw [hset] at p7
    try simp only [bs]
    refine .some ⟨rfl, L.set p W, .inr ⟨o, by omega, by simp, p7⟩, by simp, fun x hx => ?_⟩
    rcases List.mem_or_eq_of_mem_set hx with hx | rfl
    ·exact heu x hx
    ·exact hWu
   ·intro _
    exact .some ⟨rfl, L, o6.from (by omega), rfl, heu⟩
   rintro ⟨ex, dx, G⟩ ⟨rfl, l1, ow1, hl1, hu1⟩
   simp only at ow1
   simp only [a0o]
   have fz : ∀ (l : List Int), ∀ a ∈ l, ∀ d ∈ byr a, frz 0 G 2 d = d := fun l a _ d hd => by
    simp only [byr, List.mem_singleton] at hd; subst hd; exact b6i _ _ _ _ _
   have f0 : SlOf 1 byr rs (frz 0 G 3 dr) := by rw [a3n hrs (fz rs)]; exact hrs
   have f1 : SlOf 1 byr L (frz 0 G 3 d2) := by rw [a3n s2 (fz L)]; exact s2
   have f2 : SlOf 1 byr l1 (frz 0 G 3 x6) := a2C (n0 := 0) ow1 (Nat.le_refl _) (fz l1)
   generalize frz 0 G 3 dr = y0 at *
   generalize frz 0 G 3 d2 = y1 at *
   generalize frz 0 G 3 x6 = y2 at *
   rw [b4Z _ y0 y1 y2 (a1z f0) (a1z f1) (a1z f2)]
   have all : ∀ x ∈ [y0, y1, y2], ∃ l, SlOf 1 byr l x ∧ l.length ≤ 790000020 ∧ ∀ z ∈ l, U8 z := fun x hx => by
    simp only [d5u, List.not_mem_nil, or_false] at hx
    rcases hx with rfl | rfl | rfl
    ·exact ⟨_, f0, by omega, hrz⟩
    ·exact ⟨_, f1, hel, heu⟩
    ·exact ⟨_, f2, by omega, hu1⟩
   generalize G.map (fun _ => Ob.dead) = gd
   have pG : (a0F gd a0H 1 [[y0], [y1], [y2]])[gd.length]? = some (.row a0H 1 ([y0, y1, y2].map fun x => [x])) := a1q _ _ _ _
   have hP : ((D.msl 1 gd.length 0 3, a0F gd a0H 1 [[y0], [y1], [y2]]) : D × Hp).1 = .msl 1 gd.length 0 3 := rfl
   simp only [bs, b9p]
   refine c1R [y0, y1, y2] rfl all _ gd.length pG _ hP _ rfl fun ds' => ?_
   simp only [bs, a0l, a1t, a0o, a0u, hw]
   exact .some (.inl ⟨rfl, m - 1, by omega, n + 1, rfl, by omega⟩)
  ·intro h0
   exact .some (.inr ⟨by simp, rfl⟩)
 ·rintro ⟨ex, ds, g⟩ rfl
  simp only [a0l, a0o, bs, a0g, hsc]
  exact .some rfl
end Go.Proofs.YthaajlepgblimaaGreatDoor
