/- Laws, on plain data, about functions that the statement reaches. -/
import Derived.Test.YtjhmicmbbgkhpaaDoorL4
set_option linter.unusedSimpArgs false
set_option linter.unusedVariables false
set_option linter.unnecessarySimpa false
set_option maxRecDepth 100000
namespace Go.Proofs.YtjhmicmbbgkhpaaDoor
open Go.Eng Go.Pi
theorem d1088 {h : Hp} {o : Nat} (hc : CD h o) (host most : Int) (h0 : 0 ≤ host) (h9 : host ≤ 999) (hm0 : 0 ≤ most) (hm1 : most ≤ 100) : ∃ x h', R fn1088 [.ptr o 0 0, .int .i64 host, .int .i64 most] h = some (x, h') ∧ CD h' o ∧ Same o h h' ∧ ∃ l : List Bat, SlOf 3 batr l x ∧ 1 ≤ l.length ∧ l.length ≤ 24 ∧ ∀ b ∈ l, BatOK host b := by
  suffices Wp (R fn1088 [.ptr o 0 0, .int .i64 host, .int .i64 most] h) (fun p => CD p.2 o ∧ Same o h p.2 ∧ ∃ l : List Bat, SlOf 3 batr l p.1 ∧ 1 ≤ l.length ∧ l.length ≤ 24 ∧ ∀ b ∈ l, BatOK host b) by
    obtain ⟨⟨x, h'⟩, h1, h2⟩ := this
    exact ⟨x, h', h1, h2⟩
  have ho := hc.lt
  rw [e1088]
  simp only [F1088, bs, Option.bind_assoc]
  obtain ⟨dps, g0, e0, c0, s0, ps, hps, hn3, hn1, hf⟩ := d71n hc host most hm0 hm1
  refine Wp.step e0 ?_
  simp only [lens111 hps, mk82 g0 ps.length (by omega), bs]
  have hg0 : g0.length = h.length := s0.1
  have B0 : BtI h o host ps g0.length (dNew g0 ty3 1 ((List.replicate ps.length 0).map atR)) .nils [] (List.replicate ps.length 0) := by
    refine ⟨by simp [-Option.bind_some, dNew]; omega, fun q hq hn => ?_, c0.keep (dNew_old _ _ _ _ (by omega)), by omega, dNew_get _ _ _ _, by simp [-Option.bind_some], fun f n p hn hp => ?_, Own.nils _ _ _ _, by simp [-Option.bind_some]⟩
    · rw [dNew_old _ _ _ _ (by omega)]; exact s0.2 q hn
    · have := List.mem_of_getElem? hn
      simp [-Option.bind_some] at this
      omega
  generalize hqa : g0.length = qa at B0
  generalize dNew g0 ty3 1 ((List.replicate ps.length 0).map atR) = g1 at B0
  generalize List.replicate ps.length 0 = ats0 at B0
  refine Wp.loop (fun k ds g => ∃ x a2 a3 a4 a5 a6 a7 a8 a9 b1 b2 b3 b4 b5 bt ats, ∃ n : Nat, ds = [x, .int .i64 n, a2, a3, a4, a5, a6, a7, a8, a9, b1, b2, b3, b4, b5] ∧ k + n = 12 ∧ BtI h o host ps qa g x bt ats ∧ bt.length ≤ 2 * n ∧ n ≤ bt.length)
    (fun r => ∃ x a1 a2 a3 a4 a5 a6 a7 a8 a9 b1 b2 b3 b4 b5 bt ats, r.1 = .ext 0 ∧ r.2.1 = [x, a1, a2, a3, a4, a5, a6, a7, a8, a9, b1, b2, b3, b4, b5] ∧ BtI h o host ps qa r.2.2 x bt ats ∧ 1 ≤ bt.length ∧ bt.length ≤ 24) 12
    ⟨_, _, _, _, _, _, _, _, _, _, _, _, _, _, [], ats0, 0, rfl, rfl, B0, by simp [-Option.bind_some], by simp [-Option.bind_some]⟩ ?_ ?_
  · rintro k ds g ⟨x, a2, a3, a4, a5, a6, a7, a8, a9, b1, b2, b3, b4, b5, bt, ats, n, rfl, hk, B, hbl, hbn⟩
    simp only [F1088_L0, nth_zero, nth_succ, bs, Option.bind_assoc, dBin_lss]
    refine Wp.dif ?_ ?_
    · intro hlt
      have hlt : n < 12 := by have : (n : Int) < 12 := by simpa [-Option.bind_some] using hlt
                              omega
      have hwn : IntKind.wrap .i64 ((n : Int) + 1) = ((n + 1 : Nat) : Int) := by
        rw [wrap_i64 (by omega) (by omega)]; omega
      simp only [bd1064_0_1, bs]
      have hgl := B.len
      have hold : ∀ q, q < g.length → (dNew g ty1064 3 [[.int .i64 0, .int .i64 0, .nils]])[q]? = g[q]? := fun q hq => dNew_old _ _ _ _ hq
      have hzz : (dNew g ty1064 3 [[.int .i64 0, .int .i64 0, .nils]])[g.length]? = some (.row ty1064 3 [[.int .i64 0, .int .i64 0, .nils]]) := dNew_get _ _ _ _
      have hzl : (dNew g ty1064 3 [[.int .i64 0, .int .i64 0, .nils]]).length = g.length + 1 := by simp [-Option.bind_some, dNew]
      generalize hp11 : ((D.ptr g.length 0 0, dNew g ty1064 3 [[.int .i64 0, .int .i64 0, .nils]]) : D × Hp) = p11
      have hp1 : p11.1 = .ptr g.length 0 0 := by rw [← hp11]
      generalize dNew g ty1064 3 [[.int .i64 0, .int .i64 0, .nils]] = g2 at hold hzz hzl
      have qal := (List.getElem?_eq_some_iff.1 B.at_).1
      have L : BtL h o qa g.length x bt := ⟨hgl, ho, qal, fun q hq => (B.out.lt hq).2, fun p hp q hq => ((B.its p hp).1.lt hq).2⟩
      refine wst1064 hzz (by rfl) (by rfl) (by simp [-Option.bind_some]) (by rfl) fun g3 q3 s3 => ?_
      replace q3 : g3[g.length]? = some (.row ty1064 3 [[.int .i64 host, .int .i64 n, .nils]]) := q3
      have B3 := B.keep L (B.cd.keep ((s3.2 o (by omega)).trans (hold o (by omega)))) (by rw [s3.1]; omega) (fun q hq _ => (s3.2 q (by omega)).trans (hold q hq))
      have bn : BnI h o host ps qa x bt g.length n g3 ats [] .nils := ⟨B3, by rw [s3.1]; omega, q3, Own.nils _ _ _ _, by simp [-Option.bind_some]⟩
      try simp only [bs]
      obtain ⟨v, g4, e4, c4, s4, v0, v1⟩ := next_b bn.B.cd 3 (by omega) (by omega)
      refine Wp.step e4 ?_
      have bn4 := bn.next L c4 s4
      obtain ⟨m, rfl⟩ := Int.eq_ofNat_of_zero_le v0
      have hw1 : IntKind.wrap .i64 (1 + (m : Int)) = ((m + 1 : Nat) : Int) := by
        rw [wrap_i64 (by omega) (by omega)]; omega
      simp only [dBin_add, hw1, bs, Option.bind_assoc]
      refine Wp.loop (fun k ds g' => ∃ c1 c2 c3 c4 c5 c6 c7 c8 c9 ats its y, ds = [.int .i64 (k : Nat), c1, c2, c3, c4, c5, c6, c7, c8, c9] ∧ k ≤ 3 ∧ its.length + k ≤ 3 ∧ BnI h o host ps qa x bt g.length n g' ats its y)
        (fun r => ∃ c0 c1 c2 c3 c4 c5 c6 c7 c8 c9 ats its y, r.1 = .ext 2 ∧ r.2.1 = [c0, c1, c2, c3, c4, c5, c6, c7, c8, c9] ∧ its.length ≤ 3 ∧ BnI h o host ps qa x bt g.length n r.2.2 ats its y) (m + 1)
        ⟨_, _, _, _, _, _, _, _, _, ats, [], .nils, rfl, by omega, by simp [-Option.bind_some]; omega, bn4⟩ ?_ ?_
      · rintro k' ds g' ⟨c1, c2, c3, c4, c5, c6, c7, c8, c9, ats', its', y', rfl, hk3, hlk, bn'⟩
        rcases Nat.eq_zero_or_pos k' with rfl | hpos
        · simp only [F1088_L1, nth_zero, nth_succ, bs, dBin_gtr]
          exact .some (.inr ⟨by simp [-Option.bind_some], _, _, _, _, _, _, _, _, _, _, ats', its', y', rfl, rfl, by omega, bn'⟩)
        · refine (b1088 L hps hf hn1 hn3 hm1 h0 h9 bn' (by omega) p11 hp1 k' hpos (by omega) _ _ _ _ _ _ _ _ _).mono ?_
          rintro _ ⟨g'', ats'', its'', y'', d1, d2, d3, d4, d5, d6, d7, d8, d9, rfl, bn'', hl''⟩
          exact .inl ⟨rfl, k' - 1, by omega, d1, d2, d3, d4, d5, d6, d7, d8, d9, ats'', its'', y'', rfl, by omega, by omega, bn''⟩
      · rintro ⟨ex, ds, g'⟩ ⟨c0', c1, c2, c3, c4, c5, c6, c7, c8, c9, ats', its', y', q1, q2, hl3, bn'⟩
        simp only at q1 q2 bn'
        subst q1; subst q2
        simp only [unblk_self, toEnd_nrm, nth_zero, nth_succ, bs, Option.bind_assoc, hp1]
        have hld : dLoad tab g' ty1064 (.ptr g.length 0 0) = some (.agg [.int .i64 host, .int .i64 n, y']) := by
          rw [ldp1064, row_of bn'.pr]; rfl
        simp only [hld, bs, bs1059_1]
        have hpb := bn'.pg
        refine app_bt bn'.B ho (by omega) (its', y', (n : Int)) ⟨bn'.ow.from (by omega), hl3, bn'.ok, by show (0 : Int) ≤ (n : Int); omega, by show (n : Int) ≤ 12; omega⟩ fun x1 g5 B5 fre5 len5 => ?_
        try simp only [bs]
        obtain ⟨u, g6, e6, c6, s6, u0, u1⟩ := next_b B5.cd 4 (by omega) (by omega)
        refine Wp.step e6 ?_
        have B6 := B5.same ho c6 s6
        have hlen : (bt ++ [(its', y', (n : Int))]).length = bt.length + 1 := by simp [-Option.bind_some]
        have hdec : decide ((0 : Int) < ((bt ++ [(its', y', (n : Int))]).length : Int)) = true := decide_eq_true (by rw [hlen]; omega)
        generalize bt ++ [(its', y', (n : Int))] = bt1 at B5 B6 hlen hdec
        have hlo := leno1059 B6.out
        rw [List.length_map] at hlo
        simp only [dBin_eql, bs, gd_bool, hlo, dBin_gtr, hdec, Option.bind_assoc]
        have fin : ∀ (q : Bool) (R1 : Option D), (R1 = some (.bool q)) → True := fun _ _ _ => trivial
        generalize hq3 : decide (u = (3 : Int)) = b3
        have hpk : ((if b3 = true then some x1 else some D.und).bind fun t131 => (if b3 = true then dLenT tab ty1059 t131 else some .und).bind fun t132 => (if b3 = true then dBin tab .gtr ty3 t132 (.int .i64 0) else some .und).bind fun t133 => dPick (.bool b3) t133 (.bool false)) = some (.bool b3) := by
          cases b3
          · simp [-Option.bind_some]
          · simp only [if_true, bs, hlo, dBin_gtr, hdec, dPick_bool]
        cases b3
        · simp only [Bool.false_eq_true, if_false, bs, dPick_bool, dIf_bool, toEnd_nrm, unblk_nrm, nth_zero, dBin_add, hwn]
          exact .some (.inl ⟨rfl, k - 1, by omega, x1, _, _, _, _, _, _, _, _, _, _, _, _, _, bt1, ats', n + 1, rfl, by omega, B6, by omega, by omega⟩)
        · simp only [if_true, bs, hlo, dBin_gtr, hdec, dPick_bool, dIf_bool, Option.bind_assoc]
          obtain ⟨w, g7, e7, c7, s7, w0, w1⟩ := next_b B6.cd bt1.length (by omega) (by omega)
          refine Wp.step e7 ?_
          have B7 := B6.same ho c7 s7
          obtain ⟨j, rfl⟩ := Int.eq_ofNat_of_zero_le w0
          have hj : j < bt1.length := by omega
          obtain ⟨pj, hpj⟩ : ∃ p, bt1[j]? = some p := ⟨_, List.getElem?_eq_getElem hj⟩
          obtain ⟨ob, hob, rfl, hgo⟩ := own_ix B7.out (i := j) (by simpa [-Option.bind_some] using hj)
          have hjj : (0 : Int) ≤ (j : Int) ∧ (j : Int) < (((bt1.map (bRow host)).length : Nat) : Int) := by rw [List.length_map]; omega
          have hr : (bt1.map (bRow host))[j]? = some (bRow host pj) := by rw [List.getElem?_map, hpj]; rfl
          have hld2 : dLoad tab g7 ty1064 (.ptr ob j 0) = some (.agg (bRow host pj)) := by
            rw [ldp1064, row_of hgo, hr]; rfl
          have hbl2 : pLitF tab ty1059 1 [0] [.agg (bRow host pj)] = some (.sl 3 true [bRow host pj]) := id rfl
          simp only [ixm1059, hjj, and_self, if_true, Nat.zero_add, Int.toNat_natCast, bs, hld2, hbl2]
          refine app_bt B7 ho (by omega) pj (B7.its pj (List.mem_of_getElem? hpj)) fun x2 g8 B8 fre8 len8 => ?_
          simp only [bs, toEnd_nrm, unblk_nrm, nth_zero, dBin_add, hwn]
          exact .some (.inl ⟨rfl, k - 1, by omega, x2, _, _, _, _, _, _, _, _, _, _, _, _, _, bt1 ++ [pj], ats', n + 1, rfl, by omega, B8, by simp [-Option.bind_some]; omega, by simp [-Option.bind_some]; omega⟩)
    · intro hge
      have hge : n = 12 := by have : ¬ (n : Int) < 12 := by simpa [-Option.bind_some] using hge
                              omega
      exact .some (.inr ⟨by simp [-Option.bind_some], x, _, _, _, _, _, _, _, _, _, _, _, _, _, _, bt, ats, rfl, rfl, B, by omega, by omega⟩)
  · rintro ⟨ex, ds, g⟩ ⟨x, a1, a2, a3, a4, a5, a6, a7, a8, a9, b1, b2, b3, b4, b5, bt, ats, q1, q2, B, hl1, hl24⟩
    simp only at q1 q2 B
    subst q1; subst q2
    simp only [unblk_self, toEnd_nrm, nth_zero, bs, mkRes_one]
    obtain ⟨l, h1, h2, h3⟩ := bats_of (g := g) bt B.its
    have hsl : SlOf 3 batr l (frz h.length g 4 x) := by
      rcases B.out with ⟨hx, hr⟩ | ⟨ob, hob, hx, hgo⟩
      · have : bt = [] := by simpa [-Option.bind_some] using hr
        subst this
        simp [-Option.bind_some] at hl1
      · right
        refine ⟨false, ?_⟩
        rw [hx, frz_msl hob hgo]
        simp only [List.drop_zero, List.take_length, h1]
    have S : St h o g := ⟨ho, B.cd, ⟨B.len, B.gr⟩⟩
    obtain ⟨h', hs, hcd, hsm⟩ := S.scope rfl (slof_ok hsl fun a _ => batr_oks _ a)
    rw [hs]
    exact .some ⟨hcd, hsm, l, hsl, by omega, by omega, h3⟩
theorem lnE_chain (to_ m : Int) (hm : 36 ≤ m) (ht : to_ ≤ 60000) : ∀ (ls : List Lin) (a : Int), 0 ≤ a → chain a ls to_ → lnE to_ m a ls = 0
  | [], a, _, _ => rfl
  | l :: r, a, ha, h => by
    obtain ⟨h1, h2, h3, h4, h5⟩ := h
    have hle := chain_le r _ _ h5
    have w1 : IntKind.wrap .i64 (to_ - a) = to_ - a := wrap_i64 (by omega) (by omega)
    have w2 : IntKind.wrap .i64 (a + l.len) = a + l.len := wrap_i64 (by omega) (by omega)
    unfold lnE
    rw [if_pos, if_neg (by omega), w2]
    · exact lnE_chain to_ m hm ht r _ (by omega) h5
    · rw [w1]
      refine ⟨h1, by omega, by omega, fun hh => ?_⟩
      obtain ⟨hr, hlt⟩ := hh
      subst hr
      have h5 : a + l.len = to_ := h5
      omega
theorem lines_chain {e : Ev} (m : Int) (hm : 36 ≤ m) (h0 : 0 ≤ e.a2) (ht : e.a3 ≤ 60000) (h1 : 1 ≤ e.ls.length) (h40 : e.ls.length ≤ 40) (hc : chain e.a2 e.ls e.a3) : linesE e m = 0 := by
  have g0 : ¬ e.ls.length = 0 := by omega
  have g1 : ¬ 40 < e.ls.length := by omega
  simp only [linesE, g0, g1, if_false]
  exact lnE_chain _ _ hm ht _ _ h0 hc
theorem good_itE {i : It} (h : (i.r = [] ∧ EvGood i.e) ∨ SkGood i) : itE i = 0 := by
  rcases h with ⟨hr, h⟩ | h
  · have pl := h.pl
    have hp : plB i.e = true := by
      have := pl.h0; have := pl.h9; have := pl.f0; have := pl.f9; have := pl.a0; have := pl.ab; have := pl.b9
      simp [-Option.bind_some, plB]
      omega
    have ht : (decide (0 ≤ i.e.a5) && decide (i.e.a5 ≤ 253402300799999)) = true := by
      have := h.t0; have := h.t9
      simp [-Option.bind_some]; omega
    have hl := lines_chain 2000 (by omega) pl.a0 pl.b9 h.l1 h.l4 h.ch
    have w1 : ¬ i.e.a6 < 1 := by have := h.w1; omega
    have htr : ¬ 32 < i.e.s7.length := by have := h.tr; omega
    have hst : ¬ 32 < i.e.s8.length := by have := h.st; omega
    have hs : sortF i.e.fs = (0, i.e.fs) := asc_sort h.fa h.f3 fun p hp => (h.fn p hp).1
    have hv : (i.e.fs.any fun p => decide (2000 < p.2.length)) = false := by
      rw [List.any_eq_false]
      intro p hp
      have := h.fv p hp
      simp [-Option.bind_some]; omega
    simp [-Option.bind_some, itE, hr, evE, hp, ht, w1, h.w3, hl, htr, hst, hs, hv]
  · have pl := h.pl
    have hp : plB i.e = true := by
      have := pl.h0; have := pl.h9; have := pl.f0; have := pl.f9; have := pl.a0; have := pl.ab; have := pl.b9
      simp [-Option.bind_some, plB]
      omega
    have hl := lines_chain 60000 (by omega) pl.a0 pl.b9 h.l1 h.l4 h.ch
    have hr3 : ¬ 32 < i.r.length := by have := h.r3; omega
    simp [-Option.bind_some, itE, h.r0, hr3, hp, hl, h.tm, h.w0, h.tr, h.st, h.fs]
    exact h.tx
theorem lt98_4_dup : ∀ s ∈ lt98_4, s ≠ ([42] : Str) := by decide
def U8 (z : Int) : Prop := 0 ≤ z ∧ z < 256
theorem U8.u32 {z : Int} (h : U8 z) : U32 z := ⟨h.1, by have := h.2; omega⟩
def num (l : List Int) : Int := l.foldl (fun v b => v * 256 + b) 0
theorem wrap_u8m (n : Int) : IntKind.wrap .u8 n = n % 256 := by
  unfold IntKind.wrap
  simp [-Option.bind_some, IntKind.signed, IntKind.bits, IntKind.min, IntKind.max]
theorem num4 (a b c d : Int) : num [a, b, c, d] = ((a * 256 + b) * 256 + c) * 256 + d := by simp [-Option.bind_some, num]
theorem num_fixb {n : Int} (h : U32 n) : num (fixb n) = n := by
  unfold fixb
  rw [num4]
  simp only [wrap_u8m]
  rw [Int.fdiv_eq_ediv_of_nonneg _ (by decide), Int.fdiv_eq_ediv_of_nonneg _ (by decide), Int.fdiv_eq_ediv_of_nonneg _ (by decide)]
  have e1 : (2 : Int) ^ 24 = 16777216 := by decide
  have e2 : (2 : Int) ^ 16 = 65536 := by decide
  have e3 : (2 : Int) ^ 8 = 256 := by decide
  rw [e1, e2, e3]
  unfold U32 at h
  omega
theorem fixb_u8 (n : Int) : ∀ z ∈ fixb n, U8 z := by
  intro z hz
  unfold fixb at hz
  simp only [wrap_u8m, List.mem_cons, List.not_mem_nil, or_false] at hz
  unfold U8
  rcases hz with rfl | rfl | rfl | rfl <;> omega
theorem num_u32 {a b c d : Int} (ha : U8 a) (hb : U8 b) (hc : U8 c) (hd : U8 d) : U32 (num [a, b, c, d]) := by
  rw [num4]
  unfold U8 U32 at *
  omega
/-- The records that stand first in bytes, and how many bytes they have. -/
def rdN : Nat → List Int → List (List Int) × Nat
  | 0, _ => ([], 0)
  | k + 1, r => if r.length < 8 ∨ (num (r.take 4)).toNat < 1 ∨ 8388608 < (num (r.take 4)).toNat ∨ r.length - 8 < (num (r.take 4)).toNat ∨ num ((r.drop 4).take 4) ≠ crc (r.take 4 ++ (r.drop 8).take (num (r.take 4)).toNat) then ([], 0)
    else ((r.drop 8).take (num (r.take 4)).toNat :: (rdN k (r.drop (8 + (num (r.take 4)).toNat))).1, 8 + (num (r.take 4)).toNat + (rdN k (r.drop (8 + (num (r.take 4)).toNat))).2)
theorem rdN_fuel : ∀ (k k' : Nat) (r : List Int), r.length ≤ k → r.length ≤ k' → rdN k r = rdN k' r
  | 0, 0, r, _, _ => rfl
  | 0, k' + 1, r, h, _ => by
    unfold rdN
    rw [if_pos (.inl (by omega))]
  | k + 1, 0, r, _, h => by
    unfold rdN
    rw [if_pos (.inl (by omega))]
  | k + 1, k' + 1, r, h, h' => by
    unfold rdN
    split
    · rfl
    · rename_i hc
      have hl : (r.drop (8 + (num (r.take 4)).toNat)).length ≤ k := by rw [List.length_drop]; omega
      have hl' : (r.drop (8 + (num (r.take 4)).toNat)).length ≤ k' := by rw [List.length_drop]; omega
      rw [rdN_fuel k k' _ hl hl']
def rd (r : List Int) : List (List Int) × Nat := rdN r.length r
def Stop (r : List Int) : Prop := r.length < 8 ∨ (num (r.take 4)).toNat < 1 ∨ 8388608 < (num (r.take 4)).toNat ∨ r.length - 8 < (num (r.take 4)).toNat ∨ num ((r.drop 4).take 4) ≠ crc (r.take 4 ++ (r.drop 8).take (num (r.take 4)).toNat)
theorem rd_stop {r : List Int} (h : Stop r) : rd r = ([], 0) := by
  unfold rd
  cases hr : r.length with
  | zero => rfl
  | succ k =>
    unfold rdN
    unfold Stop at h
    rw [if_pos h]
theorem rd_go {r : List Int} (h : ¬ Stop r) : rd r = ((r.drop 8).take (num (r.take 4)).toNat :: (rd (r.drop (8 + (num (r.take 4)).toNat))).1, 8 + (num (r.take 4)).toNat + (rd (r.drop (8 + (num (r.take 4)).toNat))).2) := by
  have h8 : ¬ r.length < 8 := fun hh => h (.inl hh)
  obtain ⟨k, hk⟩ : ∃ k, r.length = k + 1 := ⟨r.length - 1, by omega⟩
  have : rd r = rdN (k + 1) r := by unfold rd; rw [hk]
  rw [this]
  unfold rdN
  unfold Stop at h
  rw [if_neg h]
  have hl : (r.drop (8 + (num (r.take 4)).toNat)).length ≤ k := by rw [List.length_drop]; omega
  rw [rdN_fuel k _ _ hl (Nat.le_refl _)]
  rfl
def recOf (p : List Int) : List Int := fixb p.length ++ fixb (crc (fixb p.length ++ p)) ++ p
def jour (ps : List (List Int)) : List Int := (ps.map recOf).flatten
def PayOK (p : List Int) : Prop := 1 ≤ p.length ∧ p.length ≤ 8388608 ∧ ∀ z ∈ p, U8 z
theorem rec_len (p : List Int) : (recOf p).length = 8 + p.length := by simp [-Option.bind_some, recOf, fixb_len]; omega
theorem take4_rec (p t : List Int) : (recOf p ++ t).take 4 = fixb p.length := by simp [-Option.bind_some, recOf, fixb, List.take]
theorem drop4_rec (p t : List Int) : ((recOf p ++ t).drop 4).take 4 = fixb (crc (fixb p.length ++ p)) := by simp [-Option.bind_some, recOf, fixb, List.take]
theorem drop8_rec (p t : List Int) : (recOf p ++ t).drop 8 = p ++ t := by simp [-Option.bind_some, recOf, fixb]
theorem num_rec {p : List Int} (h : PayOK p) (t : List Int) : (num ((recOf p ++ t).take 4)).toNat = p.length := by
  rw [take4_rec, num_fixb ⟨by omega, by have := h.2.1; omega⟩]
  simp [-Option.bind_some]
theorem rd_rec {p : List Int} (h : PayOK p) (t : List Int) : rd (recOf p ++ t) = (p :: (rd t).1, 8 + p.length + (rd t).2) := by
  have hn := num_rec h t
  have hs : ¬ Stop (recOf p ++ t) := by
    have h1 := h.1; have h2 := h.2.1
    have hl : (recOf p ++ t).length = 8 + p.length + t.length := by simp [-Option.bind_some, rec_len]
    have ht : (p ++ t).take p.length = p := by simp [-Option.bind_some]
    unfold Stop
    rw [hn, drop4_rec, take4_rec, drop8_rec, num_fixb (crc_u32 _), ht, hl]
    rintro (h8 | h8 | h8 | h8 | h8)
    · omega
    · omega
    · omega
    · omega
    · exact h8 rfl
  rw [rd_go hs, hn, drop8_rec]
  have : (recOf p ++ t).drop (8 + p.length) = t := by rw [← rec_len p]; simp [-Option.bind_some]
  rw [this]
  simp [-Option.bind_some]
theorem rd_jour : ∀ (ps : List (List Int)), (∀ p ∈ ps, PayOK p) → ∀ t, rd (jour ps ++ t) = (ps ++ (rd t).1, (jour ps).length + (rd t).2)
  | [], _, t => by simp [-Option.bind_some, jour]
  | p :: ps, h, t => by
    have e : jour (p :: ps) = recOf p ++ jour ps := by simp [-Option.bind_some, jour]
    rw [e, List.append_assoc, rd_rec (h p (by simp [-Option.bind_some])), rd_jour ps (fun q hq => h q (by simp [-Option.bind_some, hq])) t]
    simp [-Option.bind_some, rec_len]
    omega
theorem jour_u8 : ∀ (ps : List (List Int)), (∀ p ∈ ps, PayOK p) → ∀ z ∈ jour ps, U8 z
  | [], _, z, hz => by simp [-Option.bind_some, jour] at hz
  | p :: ps, h, z, hz => by
    have e : jour (p :: ps) = recOf p ++ jour ps := by simp [-Option.bind_some, jour]
    rw [e] at hz
    rcases List.mem_append.1 hz with hz | hz
    · unfold recOf at hz
      rcases List.mem_append.1 hz with hz | hz
      · rcases List.mem_append.1 hz with hz | hz
        · exact fixb_u8 _ z hz
        · exact fixb_u8 _ z hz
      · exact (h p (by simp [-Option.bind_some])).2.2 z hz
    · exact jour_u8 ps (fun q hq => h q (by simp [-Option.bind_some, hq])) z hz
theorem jour_snoc (ps : List (List Int)) (p : List Int) : jour (ps ++ [p]) = jour ps ++ recOf p := by simp [-Option.bind_some, jour]
/-- The lowest n bytes of a number, the highest first. -/
def putb : Nat → Int → List Int
  | 0, _ => []
  | n + 1, v => IntKind.wrap .u8 (v.fdiv (2 ^ (8 * n))) :: putb n v
theorem putb_len : ∀ (n : Nat) (v : Int), (putb n v).length = n
  | 0, v => rfl
  | n + 1, v => by simp [-Option.bind_some, putb, putb_len n v]
theorem putb_fixb (v : Int) : putb 4 v = fixb v := by
  unfold fixb
  simp [-Option.bind_some, putb, Int.fdiv_eq_ediv_of_nonneg]
theorem putb_u8 : ∀ (n : Nat) (v : Int), ∀ z ∈ putb n v, U8 z
  | 0, v, z, hz => by cases hz
  | n + 1, v, z, hz => by
    rcases List.mem_cons.1 hz with rfl | hz
    · rw [wrap_u8m]; unfold U8; omega
    · exact putb_u8 n v z hz
def sby (s : Str) : List Int := s.map fun c => (c.toNat : Int)
theorem sby_len (s : Str) : (sby s).length = s.length := by simp [-Option.bind_some, sby]
theorem sby_u8 (s : Str) : ∀ z ∈ sby s, U8 z := by
  intro z hz
  obtain ⟨c, _, rfl⟩ := List.mem_map.1 hz
  have := c.toNat_lt
  unfold U8
  omega
theorem sby_rows (s : Str) : bytesRows s = (sby s).map byr := by simp [-Option.bind_some, bytesRows, sby, byr, List.map_map, Function.comp_def]
/-- Bytes that grew, and what stayed. -/
structure Bw (n0 : Nat) (h : Hp) (d : D) (h' : Hp) (l : List Int) (d' : D) : Prop where
  ow : Own h' n0 ty5 1 (l.map byr) d'
  len : h.length ≤ h'.length
  old : ∀ q, q < h.length → ¬ d.inOb q → h'[q]? = h[q]?
  new : ∀ q, d'.inOb q → d.inOb q ∨ h.length ≤ q
theorem Bw.trans {n0 : Nat} {h h1 h2 : Hp} {d d1 d2 : D} {l1 l2 : List Int} (a : Bw n0 h d h1 l1 d1) (b : Bw n0 h1 d1 h2 l2 d2) : Bw n0 h d h2 l2 d2 :=
  ⟨b.ow, Nat.le_trans a.len b.len, fun q hq hd => (b.old q (Nat.lt_of_lt_of_le hq a.len) fun hx => by rcases a.new q hx with h1 | h1; exact hd h1; omega).trans (a.old q hq hd),
    fun q hq => by rcases b.new q hq with h1 | h1; exact a.new q h1; exact .inr (Nat.le_trans a.len h1)⟩
theorem Bw.refl {n0 : Nat} {h : Hp} {d : D} {l : List Int} (ow : Own h n0 ty5 1 (l.map byr) d) : Bw n0 h d h l d := ⟨ow, Nat.le_refl _, fun _ _ _ => rfl, fun _ hq => .inl hq⟩
theorem Bw.low {n0 : Nat} {h h' : Hp} {d d' : D} {l l0 : List Int} (b : Bw n0 h d h' l d') (ow : Own h n0 ty5 1 (l0.map byr) d) (hn : n0 ≤ h.length) : ∀ q, q < n0 → h'[q]? = h[q]? := fun q hq => b.old q (by omega) fun hx => by have := (ow.lt hx).1; omega
theorem app_b {n0 : Nat} {h : Hp} {d y : D} {l m : List Int} (hn : n0 ≤ h.length) (ow : Own h n0 ty5 1 (l.map byr) d) (hy : dRowsOf h 1 y = some (m.map byr)) (hl : l.length + m.length ≤ 1000000000) : ∃ d' h', dAppend tab h ty22 ty22 d y = some (d', h') ∧ Bw n0 h d h' (l ++ m) d' := by
  have key := @wap22 h n0 hn (l.map byr) d y ow _ hy (by simp [-Option.bind_some]; omega) _ (fun r => some r) (fun r => Bw n0 h d r.2 (l ++ m) r.1) (fun x' h' a b _ c e => .some ⟨by rw [List.map_append]; exact a, b, c, e⟩)
  obtain ⟨⟨x', g⟩, e1, B⟩ := key
  refine ⟨x', g, ?_, B⟩
  cases hq : dAppend tab h ty22 ty22 d y with
  | none => rw [hq] at e1; cases e1
  | some r => rw [hq] at e1; exact e1
theorem aps22 (h : Hp) (x : D) (s : Str) : dAppend tab h ty22 ty9 x (.str s) = dAppend tab h ty22 ty22 x (.sl 1 true (bytesRows s)) := id rfl
theorem app_s {n0 : Nat} {h : Hp} {d : D} {l : List Int} (hn : n0 ≤ h.length) (ow : Own h n0 ty5 1 (l.map byr) d) (s : Str) (hl : l.length + s.length ≤ 1000000000) : ∃ d' h', dAppend tab h ty22 ty9 d (.str s) = some (d', h') ∧ Bw n0 h d h' (l ++ sby s) d' := by
  rw [aps22, sby_rows]
  exact app_b hn ow (rowsOf_sl _ _ _ _) (by rw [sby_len]; exact hl)
theorem l1116 (v : Int) (n0 : Nat) : ∀ (k : Nat), k ≤ 8 → ∀ (h : Hp) (l : List Int) (d a : D), n0 ≤ h.length → Own h n0 ty5 1 (l.map byr) d → l.length + k ≤ 1000000000 → ∃ d' h' b, loopW (F1116_L0 (.int .u64 v)) [d, .int .i64 ((k : Int) - 1), a] h = some (.ext 0, [d', b, .bool false], h') ∧ Bw n0 h d h' (l ++ putb k v) d' := by
  intro k
  induction k with
  | zero =>
    intro _ h l d a hn ow hr
    rw [loopW_eq]
    refine ⟨d, h, _, by simp [-Option.bind_some, F1116_L0]; rfl, ?_⟩
    simpa [-Option.bind_some, putb] using Bw.refl ow
  | succ k ih =>
    intro hk h l d a hn ow hr
    have hg : (0 : Int) ≤ ((k + 1 : Nat) : Int) - 1 := by omega
    have hw1 : IntKind.wrap .i64 (8 * (((k + 1 : Nat) : Int) - 1)) = 8 * (k : Int) := by rw [wrap_i64 (by omega) (by omega)]; omega
    have hw2 : IntKind.wrap .i64 (((k + 1 : Nat) : Int) - 1 - 1) = (k : Int) - 1 := by rw [wrap_i64 (by omega) (by omega)]; omega
    have hw3 : IntKind.wrap .u64 (8 * (k : Int)) = 8 * (k : Int) := wrap_u64 (by omega) (by omega)
    have h8 : ¬ (8 * (k : Int)) < 0 := by omega
    have hmn : min (8 * (k : Int)).toNat IntKind.u64.bits = 8 * k := by
      have : IntKind.u64.bits = 64 := rfl
      rw [this]; omega
    obtain ⟨x', g, e1, B1⟩ := app_b (y := .sl 1 true [byr (IntKind.wrap .u8 (v.fdiv (2 ^ (8 * k))))]) (m := [IntKind.wrap .u8 (v.fdiv (2 ^ (8 * k)))]) hn ow (rowsOf_sl _ _ _ _) (by simp [-Option.bind_some]; omega)
    obtain ⟨d', h', b, e2, B2⟩ := ih (by omega) g _ x' (.bool true) (Nat.le_trans hn B1.len) B1.ow (by simp [-Option.bind_some]; omega)
    refine ⟨d', h', b, ?_, ?_⟩
    · rw [loopW_eq]
      simp only [F1116_L0, nth_zero, nth_succ, bs, dBin_geq, decide_eq_true hg, dIf_bool, if_true, dBin_mul, hw1, cv3_134, hw3, dBin_shr, h8, if_false, hmn, cv1029_5, bs22_1, show ∀ z, ([[D.int .u8 z]] : List (List D)) = [byr z] from fun _ => rfl, e1, dBin_sub, hw2]
      exact e2
    · have := B1.trans B2
      simpa [-Option.bind_some, putb] using this
theorem s1116 (v : Int) (k : Nat) (hk : k ≤ 8) (n0 : Nat) (h : Hp) (l : List Int) (d : D) (hn : n0 ≤ h.length) (ow : Own h n0 ty5 1 (l.map byr) d) (hr : l.length ≤ 999999000) : ∃ d' h', R fn1116 [d, .int .u64 v, .int .i64 k] h = some (d', h') ∧ Bw n0 h d h' (l ++ putb k v) d' := by
  obtain ⟨d', h', b, e1, B⟩ := l1116 v n0 k hk h l d .any hn ow (by omega)
  refine ⟨d', h', ?_, B⟩
  rw [e1116]
  have hw : IntKind.wrap .i64 ((k : Int) - 1) = (k : Int) - 1 := by rw [wrap_i64 (by omega) (by omega)]
  simp only [F1116, bs, dBin_sub, hw, Option.bind_assoc, e1, unblk_self, toEnd_nrm, nth_zero, mkRes_one]
theorem l1030g (v : Int) (n0 : Nat) : ∀ (k : Nat), k ≤ 8 → ∀ (h : Hp) (l : List Int) (d a : D), n0 ≤ h.length → Own h n0 ty5 1 (l.map byr) d → l.length + k ≤ 1000000000 → ∃ d' h' b, loopW (F1030_L0 (.int .u64 v)) [d, .int .i64 ((k : Int) - 1), a] h = some (.ext 0, [d', b, .bool false], h') ∧ Bw n0 h d h' (l ++ putb k v) d' := by
  intro k
  induction k with
  | zero =>
    intro _ h l d a hn ow hr
    rw [loopW_eq]
    refine ⟨d, h, _, by simp [-Option.bind_some, F1030_L0]; rfl, ?_⟩
    simpa [-Option.bind_some, putb] using Bw.refl ow
  | succ k ih =>
    intro hk h l d a hn ow hr
    have hg : (0 : Int) ≤ ((k + 1 : Nat) : Int) - 1 := by omega
    have hw1 : IntKind.wrap .i64 (8 * (((k + 1 : Nat) : Int) - 1)) = 8 * (k : Int) := by rw [wrap_i64 (by omega) (by omega)]; omega
    have hw2 : IntKind.wrap .i64 (((k + 1 : Nat) : Int) - 1 - 1) = (k : Int) - 1 := by rw [wrap_i64 (by omega) (by omega)]; omega
    have h8 : ¬ (8 * (k : Int)) < 0 := by omega
    have hmn : min (8 * (k : Int)).toNat IntKind.u64.bits = 8 * k := by
      have : IntKind.u64.bits = 64 := rfl
      rw [this]; omega
    obtain ⟨x', g, e1, B1⟩ := app_b (y := .sl 1 true [byr (IntKind.wrap .u8 (v.fdiv (2 ^ (8 * k))))]) (m := [IntKind.wrap .u8 (v.fdiv (2 ^ (8 * k)))]) hn ow (rowsOf_sl _ _ _ _) (by simp [-Option.bind_some]; omega)
    obtain ⟨d', h', b, e2, B2⟩ := ih (by omega) g _ x' (.bool true) (Nat.le_trans hn B1.len) B1.ow (by simp [-Option.bind_some]; omega)
    refine ⟨d', h', b, ?_, ?_⟩
    · rw [loopW_eq]
      simp only [F1030_L0, nth_zero, nth_succ, bs, dBin_geq, decide_eq_true hg, dIf_bool, if_true, dBin_mul, hw1, dBin_shr, h8, if_false, hmn, cv1029_5, bs22_1, show ∀ z, ([[D.int .u8 z]] : List (List D)) = [byr z] from fun _ => rfl, e1, dBin_sub, hw2]
      exact e2
    · have := B1.trans B2
      simpa [-Option.bind_some, putb] using this
theorem s1030g (v : Int) (k : Nat) (hk : k ≤ 8) (n0 : Nat) (h : Hp) (l : List Int) (d : D) (hn : n0 ≤ h.length) (ow : Own h n0 ty5 1 (l.map byr) d) (hr : l.length ≤ 999999000) : ∃ d' h', R fn1030 [d, .int .u64 v, .int .i64 k] h = some (d', h') ∧ Bw n0 h d h' (l ++ putb k v) d' := by
  obtain ⟨d', h', b, e1, B⟩ := l1030g v n0 k hk h l d .any hn ow (by omega)
  refine ⟨d', h', ?_, B⟩
  rw [e1030]
  have hw : IntKind.wrap .i64 ((k : Int) - 1) = (k : Int) - 1 := by rw [wrap_i64 (by omega) (by omega)]
  simp only [F1030, bs, dBin_sub, hw, Option.bind_assoc, e1, unblk_self, toEnd_nrm, nth_zero, mkRes_one]
def pI (n : Int) : List Int := putb 8 (IntKind.wrap .u64 n)
def pN (n : Nat) : List Int := putb 4 (IntKind.wrap .u64 n)
def pS (s : Str) : List Int := pN s.length ++ sby s
theorem pI_len (n : Int) : (pI n).length = 8 := putb_len _ _
theorem pN_len (n : Nat) : (pN n).length = 4 := putb_len _ _
theorem pS_len (s : Str) : (pS s).length = 4 + s.length := by simp [-Option.bind_some, pS, pN_len, sby_len]
theorem s1119 (n : Int) (n0 : Nat) (h : Hp) (l : List Int) (d : D) (hn : n0 ≤ h.length) (ow : Own h n0 ty5 1 (l.map byr) d) (hr : l.length ≤ 999999000) : ∃ d' h', R fn1119 [d, .int .i64 n] h = some (d', h') ∧ Bw n0 h d h' (l ++ pI n) d' := by
  obtain ⟨d', h', e1, B⟩ := s1116 (IntKind.wrap .u64 n) 8 (by omega) n0 h l d hn ow hr
  refine ⟨d', h', ?_, B⟩
  rw [e1119]
  have e1 : R fn1116 [d, .int .u64 (IntKind.wrap .u64 n), .int .i64 8] h = some (d', h') := e1
  simp only [F1119, bs, cv3_1029, e1, mkRes_one]
theorem s1118 (s : Str) (n0 : Nat) (h : Hp) (l : List Int) (d : D) (hn : n0 ≤ h.length) (ow : Own h n0 ty5 1 (l.map byr) d) (hr : l.length + s.length ≤ 999998000) : ∃ d' h', R fn1118 [d, .str s] h = some (d', h') ∧ Bw n0 h d h' (l ++ pS s) d' := by
  obtain ⟨d1, h1, e1, B1⟩ := s1116 (IntKind.wrap .u64 s.length) 4 (by omega) n0 h l d hn ow (by omega)
  obtain ⟨d2, h2, e2, B2⟩ := app_s (Nat.le_trans hn B1.len) B1.ow s (by simp [-Option.bind_some, putb_len]; omega)
  have B := B1.trans B2
  refine ⟨d2, h2, ?_, by simpa [-Option.bind_some, pS, pN] using B⟩
  rw [e1118]
  have e1 : R fn1116 [d, .int .u64 (IntKind.wrap .u64 s.length), .int .i64 4] h = some (d1, h1) := e1
  simp only [F1118, bs, len9, cv3_1029, e1, e2, mkRes_one]
theorem putS_wp {n0 : Nat} {h0 h : Hp} {d0 d : D} {l : List Int} (B : Bw n0 h0 d0 h l d) (hn : n0 ≤ h.length) (s : Str) (hr : l.length + s.length ≤ 999998000) {β : Type} {f : D × Hp → Option β} {Q : β → Prop}
    (k : ∀ d' h', Bw n0 h0 d0 h' (l ++ pS s) d' → n0 ≤ h'.length → Wp (f (d', h')) Q) : Wp ((R fn1118 [d, .str s] h).bind f) Q := by
  obtain ⟨d', h', e, B1⟩ := s1118 s n0 h l d hn B.ow hr
  exact Wp.step e (k d' h' (B.trans B1) (Nat.le_trans hn B1.len))
theorem putI_wp {n0 : Nat} {h0 h : Hp} {d0 d : D} {l : List Int} (B : Bw n0 h0 d0 h l d) (hn : n0 ≤ h.length) (n : Int) (hr : l.length ≤ 999999000) {β : Type} {f : D × Hp → Option β} {Q : β → Prop}
    (k : ∀ d' h', Bw n0 h0 d0 h' (l ++ pI n) d' → n0 ≤ h'.length → Wp (f (d', h')) Q) : Wp ((R fn1119 [d, .int .i64 n] h).bind f) Q := by
  obtain ⟨d', h', e, B1⟩ := s1119 n n0 h l d hn B.ow hr
  exact Wp.step e (k d' h' (B.trans B1) (Nat.le_trans hn B1.len))
theorem putN_wp {n0 : Nat} {h0 h : Hp} {d0 d : D} {l : List Int} (B : Bw n0 h0 d0 h l d) (hn : n0 ≤ h.length) (v : Int) (hr : l.length ≤ 999999000) {β : Type} {f : D × Hp → Option β} {Q : β → Prop}
    (k : ∀ d' h', Bw n0 h0 d0 h' (l ++ putb 4 v) d' → n0 ≤ h'.length → Wp (f (d', h')) Q) : Wp ((R fn1116 [d, .int .u64 v, .int .i64 4] h).bind f) Q := by
  obtain ⟨d', h', e, B1⟩ := s1116 v 4 (by omega) n0 h l d hn B.ow hr
  exact Wp.step e (k d' h' (B.trans B1) (Nat.le_trans hn B1.len))
theorem app_bw {n0 : Nat} {h0 h : Hp} {d0 d y : D} {l m : List Int} (B : Bw n0 h0 d0 h l d) (hn : n0 ≤ h.length) (hy : dRowsOf h 1 y = some (m.map byr)) (hl : l.length + m.length ≤ 1000000000) {β : Type} {f : D × Hp → Option β} {Q : β → Prop}
    (k : ∀ d' h', Bw n0 h0 d0 h' (l ++ m) d' → n0 ≤ h'.length → Wp (f (d', h')) Q) : Wp ((dAppend tab h ty22 ty22 d y).bind f) Q := by
  obtain ⟨d', h', e, B1⟩ := app_b hn B.ow hy hl
  exact Wp.step e (k d' h' (B.trans B1) (Nat.le_trans hn B1.len))
def lnB (l : Lin) : List Int := pI l.off ++ pI l.len ++ pS l.txt
def fdB (f : Str × Str) : List Int := pS f.1 ++ pS f.2
def bodyA (i : It) : List Int := pS i.r ++ pI i.e.a0 ++ pI i.e.a1 ++ pI i.e.a2 ++ pI i.e.a3 ++ pN i.e.ls.length
def bodyB (i : It) : List Int := bodyA i ++ (i.e.ls.map lnB).flatten ++ pI i.e.a5 ++ pI i.e.a6 ++ pS i.e.s7 ++ pS i.e.s8 ++ pN i.e.fs.length
def bodyI (i : It) : List Int := bodyB i ++ (i.e.fs.map fdB).flatten
theorem eF0 (e : Ev) : dFieldAddr tab ty31 0 (.fptr (evr e)) = some (.fptr ((evr e).drop 0)) := id rfl
theorem eF1 (e : Ev) : dFieldAddr tab ty31 1 (.fptr (evr e)) = some (.fptr ((evr e).drop 1)) := id rfl
theorem eF2 (e : Ev) : dFieldAddr tab ty31 2 (.fptr (evr e)) = some (.fptr ((evr e).drop 2)) := id rfl
theorem eF3 (e : Ev) : dFieldAddr tab ty31 3 (.fptr (evr e)) = some (.fptr ((evr e).drop 3)) := id rfl
theorem eF4 (e : Ev) : dFieldAddr tab ty31 4 (.fptr (evr e)) = some (.fptr ((evr e).drop 4)) := id rfl
theorem eF5 (e : Ev) : dFieldAddr tab ty31 5 (.fptr (evr e)) = some (.fptr ((evr e).drop 5)) := id rfl
theorem eF6 (e : Ev) : dFieldAddr tab ty31 6 (.fptr (evr e)) = some (.fptr ((evr e).drop 6)) := id rfl
theorem eF7 (e : Ev) : dFieldAddr tab ty31 7 (.fptr (evr e)) = some (.fptr ((evr e).drop 7)) := id rfl
theorem eF8 (e : Ev) : dFieldAddr tab ty31 8 (.fptr (evr e)) = some (.fptr ((evr e).drop 8)) := id rfl
theorem eF9 (e : Ev) : dFieldAddr tab ty31 9 (.fptr (evr e)) = some (.fptr ((evr e).drop 9)) := id rfl
theorem eL0 (e : Ev) (g : Hp) : dLoad tab g ty3 (.fptr ((evr e).drop 0)) = some (.int .i64 e.a0) := id rfl
theorem eL1 (e : Ev) (g : Hp) : dLoad tab g ty3 (.fptr ((evr e).drop 1)) = some (.int .i64 e.a1) := id rfl
theorem eL2 (e : Ev) (g : Hp) : dLoad tab g ty3 (.fptr ((evr e).drop 2)) = some (.int .i64 e.a2) := id rfl
theorem eL3 (e : Ev) (g : Hp) : dLoad tab g ty3 (.fptr ((evr e).drop 3)) = some (.int .i64 e.a3) := id rfl
theorem eL4 (e : Ev) (g : Hp) : dLoad tab g ty28 (.fptr ((evr e).drop 4)) = some e.ld := ld28 _ _ _
theorem eL5 (e : Ev) (g : Hp) : dLoad tab g ty3 (.fptr ((evr e).drop 5)) = some (.int .i64 e.a5) := id rfl
theorem eL6 (e : Ev) (g : Hp) : dLoad tab g ty3 (.fptr ((evr e).drop 6)) = some (.int .i64 e.a6) := id rfl
theorem eL7 (e : Ev) (g : Hp) : dLoad tab g ty9 (.fptr ((evr e).drop 7)) = some (.str e.s7) := id rfl
theorem eL8 (e : Ev) (g : Hp) : dLoad tab g ty9 (.fptr ((evr e).drop 8)) = some (.str e.s8) := id rfl
theorem eL9 (e : Ev) (g : Hp) : dLoad tab g ty29 (.fptr ((evr e).drop 9)) = some e.fd := ld29 _ _ _
theorem lF0 (l : Lin) : dFieldAddr tab ty78 0 (.fptr (linr l)) = some (.fptr (linr l)) := id rfl
theorem lF1 (l : Lin) : dFieldAddr tab ty78 1 (.fptr (linr l)) = some (.fptr [.int .i64 l.len, .str l.txt]) := id rfl
theorem lF2 (l : Lin) : dFieldAddr tab ty78 2 (.fptr (linr l)) = some (.fptr [.str l.txt]) := id rfl
theorem lL0 (l : Lin) (g : Hp) : dLoad tab g ty3 (.fptr (linr l)) = some (.int .i64 l.off) := id rfl
theorem fF0 (p : Str × Str) : dFieldAddr tab ty109 0 (.fptr (fld p)) = some (.fptr (fld p)) := id rfl
theorem fF1 (p : Str × Str) : dFieldAddr tab ty109 1 (.fptr (fld p)) = some (.fptr [.str p.2]) := id rfl
theorem fL0 (p : Str × Str) (g : Hp) : dLoad tab g ty9 (.fptr (fld p)) = some (.str p.1) := id rfl
theorem flat_take {α : Type} (f : α → List Int) {l : List α} {n : Nat} {x : α} (h : l[n]? = some x) : ((l.take (n + 1)).map f).flatten = ((l.take n).map f).flatten ++ f x := by
  rw [List.take_add_one, h]; simp [-Option.bind_some]
theorem flat_le {α : Type} (f : α → List Int) (l : List α) (n : Nat) : ((l.take n).map f).flatten.length ≤ (l.map f).flatten.length := by
  conv => rhs; rw [← List.take_append_drop n l, List.map_append, List.flatten_append, List.length_append]
  omega
theorem ln_wp (e : Ev) {n0 : Nat} {h0 h : Hp} {d0 d : D} {p : List Int} (B : Bw n0 h0 d0 h p d) (hn : n0 ≤ h.length) (hb : p.length + (e.ls.map lnB).flatten.length ≤ 900000000) (x : D) {β : Type} {K : Out → Option β} {Q : β → Prop}
    (k : ∀ d' h' a b, Bw n0 h0 d0 h' (p ++ (e.ls.map lnB).flatten) d' → n0 ≤ h'.length → Wp (K (.ext 0, [d', a, b], h')) Q) : Wp ((loopW (F1115_L0 (.fptr (evr e))) [d, .int .i64 0, x] h).bind K) Q := by
  refine Wp.loop (fun k ds g => n0 ≤ g.length ∧ ∃ d' x, ∃ n : Nat, ds = [d', .int .i64 n, x] ∧ k + n = e.ls.length ∧ Bw n0 h0 d0 g (p ++ ((e.ls.take n).map lnB).flatten) d')
    (fun r => r.1 = .ext 0 ∧ n0 ≤ r.2.2.length ∧ (∃ d' a b, r.2.1 = [d', a, b] ∧ Bw n0 h0 d0 r.2.2 (p ++ (e.ls.map lnB).flatten) d')) e.ls.length ⟨hn, _, _, 0, rfl, rfl, by simpa [-Option.bind_some] using B⟩ ?_ ?_
  · rintro k ds g ⟨hg, d', x, n, rfl, hk, B⟩
    have hll := e.hll
    simp only [F1115_L0, nth_zero, nth_succ, bs, Option.bind_assoc, eF4, eL4, lens28 e.hld, dBin_lss]
    refine Wp.dif ?_ ?_
    · intro h0
      have h0 : n < e.ls.length := by have : (n : Int) < e.ls.length := by simpa [-Option.bind_some] using h0
                                      omega
      obtain ⟨l, hl⟩ : ∃ l, e.ls[n]? = some l := ⟨_, List.getElem?_eq_getElem h0⟩
      have hw : IntKind.wrap .i64 ((n : Int) + 1) = ((n + 1 : Nat) : Int) := by
        rw [wrap_i64 (by omega) (by omega)]; omega
      have hle := flat_le lnB e.ls (n + 1)
      rw [flat_take lnB hl, List.length_append] at hle
      have hln : (lnB l).length = 20 + l.txt.length := by simp [-Option.bind_some, lnB, pI_len, pS_len]; omega
      have hix : dIndexAddr tab ty28 e.ld (.int .i64 (n : Int)) = some (.fptr (linr l)) := by rw [ixs28 e.hld]; simp [-Option.bind_some, hl]
      simp only [hix, bs, lF0, lF1, lF2, lL0, ld3, ld9, chk_true]
      refine putI_wp B hg l.off (by simp only [List.length_append, List.length_nil, pI_len, pN_len, pS_len, putb_len]; omega) fun d1 g1 B1 n1 => ?_
      simp only [bs]
      refine putI_wp B1 n1 l.len (by simp only [List.length_append, List.length_nil, pI_len, pN_len, pS_len, putb_len]; omega) fun d2 g2 B2 n2 => ?_
      simp only [bs]
      refine putS_wp B2 n2 l.txt (by simp only [List.length_append, List.length_nil, pI_len, pN_len, pS_len, putb_len]; omega) fun d3 g3 B3 n3 => ?_
      simp only [bs, chk_true, dBin_add, hw]
      refine .some (.inl ⟨rfl, k - 1, by omega, n3, _, _, n + 1, rfl, by omega, ?_⟩)
      rw [flat_take lnB hl]
      simpa [-Option.bind_some, lnB] using B3
    · intro h0
      have h0 : n = e.ls.length := by have : ¬ (n : Int) < e.ls.length := by simpa [-Option.bind_some] using h0
                                      omega
      subst h0
      rw [List.take_length] at B
      exact .some (.inr ⟨by simp [-Option.bind_some], rfl, hg, _, _, _, rfl, B⟩)
  · rintro ⟨ex, ds, g⟩ ⟨rfl, q2, d', a, b, rfl, q3⟩
    exact k d' g a b q3 q2
theorem fd_wp (e : Ev) {n0 : Nat} {h0 h : Hp} {d0 d : D} {p : List Int} (B : Bw n0 h0 d0 h p d) (hn : n0 ≤ h.length) (hb : p.length + (e.fs.map fdB).flatten.length ≤ 900000000) (x : D) {β : Type} {K : Out → Option β} {Q : β → Prop}
    (k : ∀ d' h' a b, Bw n0 h0 d0 h' (p ++ (e.fs.map fdB).flatten) d' → n0 ≤ h'.length → Wp (K (.ext 2, [d', a, b], h')) Q) : Wp ((loopW (F1115_L1 (.fptr (evr e))) [d, .int .i64 0, x] h).bind K) Q := by
  refine Wp.loop (fun k ds g => n0 ≤ g.length ∧ ∃ d' x, ∃ n : Nat, ds = [d', .int .i64 n, x] ∧ k + n = e.fs.length ∧ Bw n0 h0 d0 g (p ++ ((e.fs.take n).map fdB).flatten) d')
    (fun r => r.1 = .ext 2 ∧ n0 ≤ r.2.2.length ∧ (∃ d' a b, r.2.1 = [d', a, b] ∧ Bw n0 h0 d0 r.2.2 (p ++ (e.fs.map fdB).flatten) d')) e.fs.length ⟨hn, _, _, 0, rfl, rfl, by simpa [-Option.bind_some] using B⟩ ?_ ?_
  · rintro k ds g ⟨hg, d', x, n, rfl, hk, B⟩
    have hll := e.hl
    simp only [F1115_L1, nth_zero, nth_succ, bs, Option.bind_assoc, eF9, eL9, lens29 e.hfd, dBin_lss]
    refine Wp.dif ?_ ?_
    · intro h0
      have h0 : n < e.fs.length := by have : (n : Int) < e.fs.length := by simpa [-Option.bind_some] using h0
                                      omega
      obtain ⟨l, hl⟩ : ∃ l, e.fs[n]? = some l := ⟨_, List.getElem?_eq_getElem h0⟩
      have hw : IntKind.wrap .i64 ((n : Int) + 1) = ((n + 1 : Nat) : Int) := by
        rw [wrap_i64 (by omega) (by omega)]; omega
      have hle := flat_le fdB e.fs (n + 1)
      rw [flat_take fdB hl, List.length_append] at hle
      have hln : (fdB l).length = 8 + l.1.length + l.2.length := by simp [-Option.bind_some, fdB, pS_len]; omega
      have hix : dIndexAddr tab ty29 e.fd (.int .i64 (n : Int)) = some (.fptr (fld l)) := by rw [ixs29 e.hfd]; simp [-Option.bind_some, hl]
      simp only [hix, bs, fF0, fF1, fL0, ld9, chk_true]
      refine putS_wp B hg l.1 (by simp only [List.length_append, List.length_nil, pI_len, pN_len, pS_len, putb_len]; omega) fun d1 g1 B1 n1 => ?_
      simp only [bs]
      refine putS_wp B1 n1 l.2 (by simp only [List.length_append, List.length_nil, pI_len, pN_len, pS_len, putb_len]; omega) fun d3 g3 B3 n3 => ?_
      simp only [bs, chk_true, dBin_add, hw]
      refine .some (.inl ⟨rfl, k - 1, by omega, n3, _, _, n + 1, rfl, by omega, ?_⟩)
      rw [flat_take fdB hl]
      simpa [-Option.bind_some, fdB] using B3
    · intro h0
      have h0 : n = e.fs.length := by have : ¬ (n : Int) < e.fs.length := by simpa [-Option.bind_some] using h0
                                      omega
      subst h0
      rw [List.take_length] at B
      exact .some (.inr ⟨by simp [-Option.bind_some], rfl, hg, _, _, _, rfl, B⟩)
  · rintro ⟨ex, ds, g⟩ ⟨rfl, q2, d', a, b, rfl, q3⟩
    exact k d' g a b q3 q2
theorem s1115 (i : It) (n0 : Nat) (h : Hp) (hn : n0 ≤ h.length) (hb : (bodyI i).length ≤ 900000000) : ∃ d' h', R fn1115 [.agg (itr i)] h = some (d', h') ∧ Bw n0 h .nils h' (bodyI i) d' := by
  suffices Wp (R fn1115 [.agg (itr i)] h) (fun p => Bw n0 h .nils p.2 (bodyI i) p.1) by
    obtain ⟨⟨x, h'⟩, h1, h2⟩ := this
    exact ⟨x, h', h1, h2⟩
  have hbx : boxN 10 (.agg (evr i.e)) = some (.fptr (evr i.e)) := boxN_agg 10 _ rfl
  have hbb := hb
  simp only [bodyI, bodyB, bodyA, List.length_append, pI_len, pN_len, pS_len] at hbb
  rw [e1115]
  simp only [F1115, pBoxF_agg, bs, Option.bind_assoc, itF0, itF1, itL0, evL, hbx, eF0, eF1, eF2, eF3, eF4, eF5, eF6, eF7, eF8, eF9, eL0, eL1, eL2, eL3, eL4, eL5, eL6, eL7, eL8, eL9, lens28 i.e.hld, lens29 i.e.hfd, cv3_1029, chk_true]
  have B0 : Bw n0 h .nils h [] .nils := Bw.refl (Own.nils _ _ _ _)
  refine putS_wp B0 hn i.r (by simp only [List.length_append, List.length_nil, pI_len, pN_len, pS_len, putb_len]; omega) fun d1 g1 B1 n1 => ?_
  simp only [bs]
  refine putI_wp B1 n1 _ (by simp only [List.length_append, List.length_nil, pI_len, pN_len, pS_len, putb_len]; omega) fun d2 g2 B2 n2 => ?_
  simp only [bs]
  refine putI_wp B2 n2 _ (by simp only [List.length_append, List.length_nil, pI_len, pN_len, pS_len, putb_len]; omega) fun d3 g3 B3 n3 => ?_
  simp only [bs]
  refine putI_wp B3 n3 _ (by simp only [List.length_append, List.length_nil, pI_len, pN_len, pS_len, putb_len]; omega) fun d4 g4 B4 n4 => ?_
  simp only [bs]
  refine putI_wp B4 n4 _ (by simp only [List.length_append, List.length_nil, pI_len, pN_len, pS_len, putb_len]; omega) fun d5 g5 B5 n5 => ?_
  simp only [bs, chk_true]
  refine putN_wp B5 n5 _ (by simp only [List.length_append, List.length_nil, pI_len, pN_len, pS_len, putb_len]; omega) fun d6 g6 B6 n6 => ?_
  simp only [bs]
  have hA : [] ++ pS i.r ++ pI i.e.a0 ++ pI i.e.a1 ++ pI i.e.a2 ++ pI i.e.a3 ++ putb 4 (IntKind.wrap .u64 i.e.ls.length) = bodyA i := by simp [-Option.bind_some, bodyA, pN]
  rw [hA] at B6
  have hAl : (bodyA i).length = 4 + i.r.length + 36 := by simp [-Option.bind_some, bodyA, pS_len, pI_len, pN_len]
  refine ln_wp i.e B6 n6 (by omega) _ fun d7 g7 a b B7 n7 => ?_
  simp only [bs, unblk_self, toEnd_nrm, nth_zero]
  refine putI_wp B7 n7 _ (by simp only [List.length_append, List.length_nil, pI_len, pN_len, pS_len, putb_len]; omega) fun d8 g8 B8 n8 => ?_
  simp only [bs]
  refine putI_wp B8 n8 _ (by simp only [List.length_append, List.length_nil, pI_len, pN_len, pS_len, putb_len]; omega) fun d9 g9 B9 n9 => ?_
  simp only [bs]
  refine putS_wp B9 n9 _ (by simp only [List.length_append, List.length_nil, pI_len, pN_len, pS_len, putb_len]; omega) fun d10 g10 B10 n10 => ?_
  simp only [bs]
  refine putS_wp B10 n10 _ (by simp only [List.length_append, List.length_nil, pI_len, pN_len, pS_len, putb_len]; omega) fun d11 g11 B11 n11 => ?_
  simp only [bs, chk_true]
  refine putN_wp B11 n11 _ (by simp only [List.length_append, List.length_nil, pI_len, pN_len, pS_len, putb_len]; omega) fun d12 g12 B12 n12 => ?_
  simp only [bs]
  have hB : bodyA i ++ (i.e.ls.map lnB).flatten ++ pI i.e.a5 ++ pI i.e.a6 ++ pS i.e.s7 ++ pS i.e.s8 ++ putb 4 (IntKind.wrap .u64 i.e.fs.length) = bodyB i := by simp [-Option.bind_some, bodyB, pN]
  rw [hB] at B12
  have hBl : (bodyB i).length = (bodyA i).length + (i.e.ls.map lnB).flatten.length + 16 + (4 + i.e.s7.length) + (4 + i.e.s8.length) + 4 := by simp only [bodyB, List.length_append, pI_len, pS_len, pN_len]
  refine fd_wp i.e B12 n12 (by omega) _ fun d13 g13 a b B13 n13 => ?_
  simp only [bs, unblk_self, toEnd_nrm, nth_zero, mkRes_one]
  exact .some B13
/-- Bytes that can be read. -/
def RdB (h : Hp) (l : List Int) (d : D) : Prop := SlOf 1 byr l d ∨ ∃ ob, d = .msl 1 ob 0 l.length ∧ h[ob]? = some (Ob.row ty5 1 (l.map byr))
theorem RdB.own {h : Hp} {n0 : Nat} {l : List Int} {d : D} (ow : Own h n0 ty5 1 (l.map byr) d) : RdB h l d := by
  rcases ow with ⟨rfl, hl⟩ | ⟨o, _, rfl, hg⟩
  · exact .inl (.inl ⟨rfl, by simpa [-Option.bind_some] using hl⟩)
  · exact .inr ⟨o, by simp [-Option.bind_some], hg⟩
theorem rdB_len {h : Hp} {l : List Int} {d : D} (hd : RdB h l d) : dLenT tab ty22 d = some (.int .i64 l.length) := by
  rcases hd with hd | ⟨ob, rfl, _⟩
  · exact lens22 hd
  · exact lenm22 _ _ _ _
theorem rdB_ix {h : Hp} {l : List Int} {d : D} (hd : RdB h l d) (i : Nat) (z : Int) (hz : l[i]? = some z) : ∃ q, dIndexAddr tab ty22 d (.int .i64 i) = some q ∧ dLoad tab h ty5 q = some (.int .u8 z) := by
  rcases hd with hd | ⟨ob, rfl, ho⟩
  · exact ⟨.fptr (byr z), by rw [ixs22 hd]; simp [-Option.bind_some, hz], byr_ld z h⟩
  · have hlt := (List.getElem?_eq_some_iff.1 hz).1
    refine ⟨.ptr ob (0 + i) 0, by rw [ixm22]; simp [-Option.bind_some, hlt], ?_⟩
    rw [ldp5, row_of ho, List.getElem?_map]
    simp [-Option.bind_some, hz, byr]
theorem rdB_rows {h : Hp} {l : List Int} {d : D} (hd : RdB h l d) : dRowsOf h 1 d = some (l.map byr) := by
  rcases hd with hd | ⟨ob, rfl, ho⟩
  · rcases hd with ⟨rfl, rfl⟩ | ⟨b, rfl⟩
    · rfl
    · exact rowsOf_sl _ _ _ _
  · simp only [dRowsOf, if_true, ho, List.drop_zero]
    rw [List.take_of_length_le (by simp [-Option.bind_some])]
theorem RdB.keep {h h' : Hp} {l : List Int} {d : D} (hd : RdB h l d) (hk : ∀ (q T z : Nat) (rows : List (List D)), h[q]? = some (Ob.row T z rows) → h'[q]? = h[q]?) : RdB h' l d := by
  rcases hd with hd | ⟨ob, rfl, ho⟩
  · exact .inl hd
  · exact .inr ⟨ob, rfl, by rw [hk _ _ _ _ ho]; exact ho⟩
def chkS (l : List Int) : Int := l.foldl (fun c z => (c * 31 + z) % 4294967291) 1
theorem chkS_take {l : List Int} {n : Nat} {z : Int} (h : l[n]? = some z) : chkS (l.take (n + 1)) = (chkS (l.take n) * 31 + z) % 4294967291 := by
  unfold chkS
  rw [List.take_add_one, h]
  simp [-Option.bind_some]
theorem chkS_range : ∀ (l : List Int), 0 ≤ chkS l ∧ chkS l < 4294967291 := by
  intro l
  unfold chkS
  generalize hc : (1 : Int) = c
  have h0 : 0 ≤ c ∧ c < 4294967291 := by omega
  clear hc
  induction l generalizing c with
  | nil => exact h0
  | cons z r ih =>
    simp only [List.foldl_cons]
    exact ih _ (by omega)
theorem s1117 (l : List Int) (d : D) (h : Hp) (hd : RdB h l d) (hl : l.length ≤ 9223372036854775806) (hu : ∀ z ∈ l, U8 z) : R fn1117 [d] h = some (.int .u64 (chkS l), h) := by
  suffices Wp (R fn1117 [d] h) (fun p => p = (.int .u64 (chkS l), h)) by
    obtain ⟨p, h1, rfl⟩ := this
    exact h1
  rw [e1117]
  simp only [F1117, bs, Option.bind_assoc]
  refine Wp.loop (fun k ds g => g = h ∧ ∃ x, ∃ n : Nat, ds = [.int .u64 (chkS (l.take n)), .int .i64 n, x] ∧ k + n = l.length) (fun r => r.1 = .ext 0 ∧ r.2.2 = h ∧ ∃ a b, r.2.1 = [.int .u64 (chkS l), a, b]) l.length ⟨rfl, _, 0, rfl, rfl⟩ ?_ ?_
  · rintro k ds g ⟨rfl, x, n, rfl, hk⟩
    simp only [F1117_L0, nth_zero, nth_succ, bs, Option.bind_assoc, rdB_len hd, dBin_lss]
    refine Wp.dif ?_ ?_
    · intro h0
      have h0 : n < l.length := by have : (n : Int) < l.length := by simpa [-Option.bind_some] using h0
                                   omega
      obtain ⟨z, hz⟩ : ∃ z, l[n]? = some z := ⟨_, List.getElem?_eq_getElem h0⟩
      have hzu := hu z (List.mem_of_getElem? hz)
      obtain ⟨q, q1, q2⟩ := rdB_ix hd n z hz
      have hr := chkS_range (l.take n)
      have hw : IntKind.wrap .i64 ((n : Int) + 1) = ((n + 1 : Nat) : Int) := by
        rw [wrap_i64 (by omega) (by omega)]; omega
      unfold U8 at hzu
      have w1 : IntKind.wrap .u64 (chkS (l.take n) * 31) = chkS (l.take n) * 31 := wrap_u64 (by omega) (by omega)
      have w2 : IntKind.wrap .u64 z = z := wrap_u64 (by omega) (by omega)
      have w3 : IntKind.wrap .u64 (chkS (l.take n) * 31 + z) = chkS (l.take n) * 31 + z := wrap_u64 (by omega) (by omega)
      have w4 : (chkS (l.take n) * 31 + z).tmod 4294967291 = chkS (l.take (n + 1)) := by
        rw [chkS_take hz, Int.tmod_eq_emod_of_nonneg (by omega)]
      simp only [dBin_mul, w1, q1, q2, cv5_1029, w2, dBin_add, w3, bs, dBin_rem, show ¬ ((4294967291 : Int) = 0) by omega, if_false, w4, hw]
      exact .some (.inl ⟨rfl, k - 1, by omega, rfl, _, n + 1, rfl, by omega⟩)
    · intro h0
      have h0 : n = l.length := by have : ¬ (n : Int) < l.length := by simpa [-Option.bind_some] using h0
                                   omega
      subst h0
      rw [List.take_length]
      exact .some (.inr ⟨by simp [-Option.bind_some], rfl, rfl, _, _, rfl⟩)
  · rintro ⟨ex, ds, g⟩ ⟨rfl, q2, a, b, rfl⟩
    simp only at q2
    subst q2
    simp only [unblk_self, toEnd_nrm, bs, nth_zero, mkRes_one]
    exact .some rfl
theorem bodyI_u8 (i : It) : ∀ z ∈ bodyI i, U8 z := by
  have hI : ∀ n, ∀ z ∈ pI n, U8 z := fun n => putb_u8 _ _
  have hN : ∀ n, ∀ z ∈ pN n, U8 z := fun n => putb_u8 _ _
  have hS : ∀ s, ∀ z ∈ pS s, U8 z := fun s z hz => by
    rcases List.mem_append.1 hz with h | h
    · exact hN _ z h
    · exact sby_u8 _ z h
  intro z hz
  simp only [bodyI, bodyB, bodyA, List.mem_append, List.mem_flatten, List.mem_map] at hz
  rcases hz with ((((((((((((h | h) | h) | h) | h) | h) | ⟨_, ⟨l, _, rfl⟩, h⟩) | h) | h) | h) | h) | h)) | ⟨_, ⟨l, _, rfl⟩, h⟩
  · exact hS _ z h
  · exact hI _ z h
  · exact hI _ z h
  · exact hI _ z h
  · exact hI _ z h
  · exact hN _ z h
  · simp only [lnB, List.mem_append] at h
    rcases h with (h | h) | h
    · exact hI _ z h
    · exact hI _ z h
    · exact hS _ z h
  · exact hI _ z h
  · exact hI _ z h
  · exact hS _ z h
  · exact hS _ z h
  · exact hN _ z h
  · simp only [fdB, List.mem_append] at h
    rcases h with h | h
    · exact hS _ z h
    · exact hS _ z h
/-- The bytes of an item before its checksum. -/
def encH (i : It) : List Int := putb 4 (IntKind.wrap .u64 (((bodyI i).length : Int) + 4)) ++ bodyI i
def encI (i : It) : List Int := encH i ++ putb 4 (chkS (encH i))
theorem encH_u8 (i : It) : ∀ z ∈ encH i, U8 z := fun z hz => by
  rcases List.mem_append.1 hz with h | h
  · exact putb_u8 _ _ z h
  · exact bodyI_u8 i z h
theorem encI_u8 (i : It) : ∀ z ∈ encI i, U8 z := fun z hz => by
  rcases List.mem_append.1 hz with h | h
  · exact encH_u8 i z h
  · exact putb_u8 _ _ z h
theorem encI_len (i : It) : (encI i).length = (bodyI i).length + 8 := by
  simp only [encI, encH, List.length_append, putb_len]; omega
theorem ldItB (i : It) (h : Hp) : dLoad tab h ty74 (.fptr (itr i)) = some (.agg (itr i)) := id rfl
theorem s1114 (i : It) (c : Int) (h : Hp) (hc : ∀ g, R fn1004 [.agg (itr i)] g = some (.int .i64 c, g)) (hb : (bodyI i).length ≤ 900000000) : ∃ d', R fn1114 [.agg (itr i)] h = some (.tup [d', .int .i64 c], h) ∧ SlOf 1 byr (if c = 0 then encI i else []) d' := by
  suffices Wp (R fn1114 [.agg (itr i)] h) (fun p => p.2 = h ∧ ∃ d', p.1 = .tup [d', .int .i64 c] ∧ SlOf 1 byr (if c = 0 then encI i else []) d') by
    obtain ⟨⟨x, h'⟩, h1, rfl, d', rfl, h2⟩ := this
    exact ⟨d', h1, h2⟩
  rw [e1114]
  simp only [F1114, pBoxF_agg, bs, Option.bind_assoc, ldItB, hc, dBin_neq]
  refine Wp.dif ?_ ?_
  · intro h0
    have h0 : ¬ c = 0 := by simpa [-Option.bind_some] using h0
    simp only [bs, mkRes_two]
    rw [scope_eq (d' := .tup [.nils, .int .i64 c]) (by simp [-Option.bind_some]) (.tup _ fun d hd => by simp [-Option.bind_some] at hd; rcases hd with rfl | rfl <;> constructor) (Nat.le_refl _) fun _ _ => rfl]
    exact .some ⟨rfl, _, rfl, by rw [if_neg h0]; exact .nils _ _⟩
  · intro h0
    have h0 : c = 0 := by simpa [-Option.bind_some] using h0
    subst h0
    obtain ⟨d1, h1, e1, B1⟩ := s1115 i h.length h (Nat.le_refl _) hb
    have w1 : IntKind.wrap .i64 (((bodyI i).length : Int) + 4) = ((bodyI i).length : Int) + 4 := wrap_i64 (by omega) (by omega)
    have r1 := RdB.own B1.ow
    refine Wp.step e1 ?_
    simp only [bs, rdB_len r1, dBin_add, w1, cv3_1029]
    obtain ⟨d2, h2, e2, B2⟩ := s1116 (IntKind.wrap .u64 (((bodyI i).length : Int) + 4)) 4 (by omega) h1.length h1 [] .nils (Nat.le_refl _) (Own.nils _ _ _ _) (by simp [-Option.bind_some])
    have e2 : R fn1116 [.nils, .int .u64 (IntKind.wrap .u64 (((bodyI i).length : Int) + 4)), .int .i64 4] h1 = some (d2, h2) := e2
    refine Wp.step e2 ?_
    simp only [bs]
    have r2 : RdB h2 (bodyI i) d1 := by
      rcases B1.ow with ⟨hx, hl⟩ | ⟨o, ho, hx, hg⟩
      · exact .inl (.inl ⟨hx, by simpa [-Option.bind_some] using hl⟩)
      · refine .inr ⟨o, by rw [hx]; simp [-Option.bind_some], ?_⟩
        have holt := (List.getElem?_eq_some_iff.1 hg).1
        rw [B2.old o holt (fun hh => by obtain ⟨z, n, hh⟩ := hh; cases hh)]
        exact hg
    have ow2 : Own h2 h.length ty5 1 ((([] : List Int) ++ putb 4 (IntKind.wrap .u64 (((bodyI i).length : Int) + 4))).map byr) d2 := B2.ow.from B1.len
    obtain ⟨d3, h3, e3, B3⟩ := app_b (Nat.le_trans B1.len B2.len) ow2 (rdB_rows r2) (by simp only [List.length_append, List.length_nil, putb_len]; omega)
    refine Wp.step e3 ?_
    simp only [bs]
    have hH : [] ++ putb 4 (IntKind.wrap .u64 (((bodyI i).length : Int) + 4)) ++ bodyI i = encH i := by simp [-Option.bind_some, encH]
    rw [hH] at B3
    have hHl : (encH i).length = 4 + (bodyI i).length := by simp only [encH, List.length_append, putb_len]
    have e4 := s1117 (encH i) d3 h3 (RdB.own B3.ow) (by omega) (encH_u8 i)
    refine Wp.step e4 ?_
    simp only [bs]
    have hn3 : h.length ≤ h3.length := Nat.le_trans (Nat.le_trans B1.len B2.len) B3.len
    obtain ⟨d5, h5, e5, B5⟩ := s1116 (chkS (encH i)) 4 (by omega) h.length h3 (encH i) d3 hn3 B3.ow (by omega)
    have e5 : R fn1116 [d3, .int .u64 (chkS (encH i)), .int .i64 4] h3 = some (d5, h5) := e5
    refine Wp.step e5 ?_
    have hE : encH i ++ putb 4 (chkS (encH i)) = encI i := rfl
    rw [hE] at B5
    simp only [bs, mkRes_two]
    have hsl := own_sl (n0 := h.length) (n := 2) B5.ow (Nat.le_refl _) (fun a _ => byr_frz _ h5 2 a)
    have hlow : ∀ q, q < h.length → h5[q]? = h[q]? := fun q hq => by
      have nd : ∀ {d : D} {g : Hp} {l : List Int}, Own g h.length ty5 1 (l.map byr) d → ¬ d.inOb q := fun ow hx => by have := (ow.lt hx).1; omega
      rw [B5.old q (by omega) (nd B3.ow), B3.old q (by have := B1.len; have := B2.len; omega) (nd ow2), B2.old q (by have := B1.len; omega) (fun hh => by obtain ⟨z, n, hh⟩ := hh; cases hh),
        B1.old q hq (fun hh => by obtain ⟨z, n, hh⟩ := hh; cases hh)]
    rw [scope_eq (d' := .tup [frz h.length h5 3 d5, .int .i64 0]) (by simp [-Option.bind_some]) (by
      refine .tup _ fun d hd => ?_
      simp [-Option.bind_some] at hd
      rcases hd with rfl | rfl
      · exact slof_ok hsl fun a _ => byr_ok _ a
      · constructor) (Nat.le_trans hn3 B5.len) hlow]
    exact .some ⟨rfl, _, rfl, by simpa [-Option.bind_some] using hsl⟩
theorem flat_bound {α : Type} (f : α → List Int) (m : Nat) : ∀ (l : List α), (∀ a ∈ l, (f a).length ≤ m) → (l.map f).flatten.length ≤ l.length * m
  | [], _ => by simp [-Option.bind_some]
  | a :: l, h => by
    have h1 := h a (by simp [-Option.bind_some])
    have h2 := flat_bound f m l fun b hb => h b (by simp [-Option.bind_some, hb])
    simp only [List.map_cons, List.flatten_cons, List.length_append, List.length_cons, Nat.succ_mul]
    omega
theorem chain_txt : ∀ (ls : List Lin) (a b : Int), chain a ls b → ∀ l ∈ ls, l.txt.length ≤ 36
  | [], a, b, _, l, hl => by cases hl
  | x :: r, a, b, h, l, hl => by
    unfold chain at h
    rcases List.mem_cons.1 hl with rfl | hl
    · have h1 := h.2.2.1; have h2 := h.2.2.2.1; omega
    · exact chain_txt r _ _ h.2.2.2.2 l hl
theorem bit_len {host : Int} {i : It} (h : BIt host i) : (bodyI i).length ≤ 20000 := by
  have h1 := flat_bound lnB 56 i.e.ls (fun l hl => by
    have := chain_txt _ _ _ h.ch l hl
    simp only [lnB, List.length_append, pI_len, pS_len]; omega)
  have h2 : (i.e.fs.map fdB).flatten.length ≤ i.e.fs.length * 3008 := flat_bound fdB 3008 i.e.fs (fun p hp => by
    rcases h.good with ⟨_, hg⟩ | hg
    · have a1 := (hg.fn p hp).2
      have a2 := hg.fv p hp
      simp only [fdB, List.length_append, pS_len]; omega
    · rw [hg.fs] at hp; cases hp)
  have h3 := h.n6
  have h4 := h.fs
  have h5 : i.r.length ≤ 32 ∧ i.e.s7.length ≤ 32 ∧ i.e.s8.length ≤ 32 := by
    rcases h.good with ⟨hr, hg⟩ | hg
    · exact ⟨by rw [hr]; simp [-Option.bind_some], hg.tr, hg.st⟩
    · exact ⟨hg.r3, by rw [hg.tr]; simp [-Option.bind_some], by rw [hg.st]; simp [-Option.bind_some]⟩
  obtain ⟨h5, h6, h7⟩ := h5
  have h8 : (i.e.fs.length * 3008 : Nat) ≤ 4 * 3008 := Nat.mul_le_mul_right _ h4
  have h9 : (i.e.ls.length * 56 : Nat) ≤ 6 * 56 := Nat.mul_le_mul_right _ h3
  simp only [bodyI, bodyB, bodyA, List.length_append, pI_len, pS_len, pN_len]
  omega
theorem s1113 (host : Int) (b : Bat) (h : Hp) (hb : BatOK host b) : R fn1113 [.agg (batr b)] h = some (.int .i64 0, h) := by
  suffices Wp (R fn1113 [.agg (batr b)] h) (fun p => p = (.int .i64 0, h)) by
    obtain ⟨p, h1, rfl⟩ := this
    exact h1
  have hn := hb.n3
  have hlen : ¬ (40 : Int) < (b.its.length : Int) := by omega
  rw [e1113]
  simp only [F1113, pBoxF_agg, batr, fa1064_2, ld113, lens113 b.hd, bs, Option.bind_assoc, dBin_gtr, hlen, decide_false, dIf_bool, Bool.false_eq_true, if_false]
  refine Wp.loop (fun k ds g => g = h ∧ ∃ a1 a3 a4 a5 a6 a7 a8, ∃ n : Nat, ds = [a1, .int .i64 n, a3, a4, a5, a6, a7, a8] ∧ k + n = b.its.length) (fun r => r.1 = .ext 0 ∧ r.2.2 = h) b.its.length ⟨rfl, _, _, _, _, _, _, _, 0, rfl, rfl⟩ ?_ ?_
  · rintro k ds g ⟨rfl, a1, a3, a4, a5, a6, a7, a8, n, rfl, hk⟩
    simp only [F1113_L0, nth_zero, nth_succ, bs, Option.bind_assoc, fa1064_2, ld113, lens113 b.hd, dBin_lss]
    refine Wp.dif ?_ ?_
    · intro h0
      have h0 : n < b.its.length := by have : (n : Int) < b.its.length := by simpa [-Option.bind_some] using h0
                                       omega
      obtain ⟨i, hi⟩ : ∃ i, b.its[n]? = some i := ⟨_, List.getElem?_eq_getElem h0⟩
      have hB := hb.it i (List.mem_of_getElem? hi)
      have hw : IntKind.wrap .i64 ((n : Int) + 1) = ((n + 1 : Nat) : Int) := by
        rw [wrap_i64 (by omega) (by omega)]; omega
      have hii : dIndexAddr tab ty113 b.d (.int .i64 (n : Int)) = some (.fptr (itr i)) := by rw [ixs113 b.hd]; simp [-Option.bind_some, hi]
      have hck := s1004 i g hB.good
      have q0 : dFieldAddr tab ty31 0 (.fptr (evr i.e)) = some (.fptr (evr i.e)) := id rfl
      have q1 : dLoad tab g ty3 (.fptr (evr i.e)) = some (.int .i64 i.e.a0) := id rfl
      have hr : (i.r == ([42] : Str)) = false := by
        rcases hB.rule with hr | hr
        · rw [hr]; rfl
        · have := lt98_4_dup _ hr
          simpa [-Option.bind_some] using this
      simp only [hii, ldIt, boxIt, hck, bs, dBin_neq, ne_eq, not_true, decide_false, dIf_bool, Bool.false_eq_true, if_false, itF1, q0, q1, fa1064_0, ld3, hB.host, hb.hs, itF0, itL0, dBin_seql, hr, dBin_add, hw]
      exact .some (.inl ⟨rfl, k - 1, by omega, rfl, _, _, _, _, _, _, _, n + 1, rfl, by omega⟩)
    · intro h0
      exact .some (.inr ⟨by simp [-Option.bind_some], rfl, rfl⟩)
  · rintro ⟨ex, ds, g⟩ ⟨q1, q2⟩
    simp only at q1 q2
    subst q1; subst q2
    simp only [unblk_self, toEnd_nrm, bs, mkRes_one]
    exact .some rfl
def batA (b : Bat) : List Int := pI b.hs ++ pI b.nu ++ pN b.its.length
def batB (b : Bat) : List Int := batA b ++ (b.its.map encI).flatten
theorem batA_len (b : Bat) : (batA b).length = 20 := by simp only [batA, List.length_append, pI_len, pN_len]
theorem batB_u8 (b : Bat) : ∀ z ∈ batB b, U8 z := by
  intro z hz
  simp only [batB, batA, List.mem_append, List.mem_flatten, List.mem_map] at hz
  rcases hz with ((h | h) | h) | ⟨_, ⟨i, _, rfl⟩, h⟩
  · exact putb_u8 _ _ z h
  · exact putb_u8 _ _ z h
  · exact putb_u8 _ _ z h
  · exact encI_u8 i z h
theorem batB_len {host : Int} {b : Bat} (hb : BatOK host b) : 20 ≤ (batB b).length ∧ (batB b).length ≤ 100000 := by
  have h1 := flat_bound encI 20008 b.its fun i hi => by
    have := bit_len (hb.it i hi)
    rw [encI_len]; omega
  have h3 := hb.n3
  have h4 : b.its.length * 20008 ≤ 3 * 20008 := Nat.mul_le_mul_right _ h3
  simp only [batB, List.length_append, batA_len]
  omega
end Go.Proofs.YtjhmicmbbgkhpaaDoor
