/- Laws, on plain data, about functions that the statement reaches. -/
import Derived.Test.YtlpedofpnbggbaaDoorL4
set_option linter.unusedSimpArgs false
set_option linter.unusedVariables false
set_option linter.unnecessarySimpa false
set_option maxRecDepth 100000
namespace Go.Proofs.YtlpedofpnbggbaaDoor
open Go.Eng Go.Pi
theorem c1152 {g : Hp} {oc : Nat} {s : Cur} (hc : CuO g oc s) (m : D) {β : Type} {f : D × Hp → Option β} {Q : β → Prop}
    (K : ∀ g', CuO g' oc (countS s).2 → Same oc g g' → Wp (f (.int .i64 (countS s).1, g')) Q) : Wp ((R fn1152 [.ptr oc 0 0, m] g).bind f) Q := by
  obtain ⟨d, g1, e1, e2, h2, h3⟩ := c_len hc
  obtain ⟨dd, x1, x2, x3, x4⟩ := h2
  obtain ⟨l1, l2⟩ := cu_ld x1
  rw [e1152]
  have hn : (lenS s).1 = IntKind.wrap .i64 (num (takeS s 4).1) := rfl
  have wq : IntKind.wrap .i64 (((lenS s).2.1.length : Int).tdiv 8) = ((lenS s).2.1.length : Int).tdiv 8 := by
    rw [Int.tdiv_eq_ediv_of_nonneg (by omega)]
    exact wrap_i64 (by omega) (by omega)
  have bad1 : ∀ {γ : Type} (F : Hp → Option γ) (Q : γ → Prop), (∀ g', CuO g' oc ((lenS s).2.1, true) → Same oc g g' → Wp (F g') Q) → Wp ((dStore tab g1 ty4 (.ptr oc 0 (0 + 1)) (.bool true)).bind F) Q := fun F Q k => by
    refine wst4 x1 (by rfl) (by rfl) (by simp [-Option.bind_some]) (by rfl) fun g' h' s' => ?_
    exact k g' ⟨dd, h', x2, x3, x4⟩ (h3.trans s')
  simp only [F1152, bs, e1, e2, cv1029_3, ← hn, nilCheck_ptr, fap1106_0, fap1106_1, l1, l2, gd_bool, lens22 x2, Option.bind_assoc]
  cases hb : (lenS s).2.2 with
  | true =>
    have ht : countS s = (0, ((lenS s).2.1, true)) := by unfold countS; rw [if_pos (.inl hb)]
    rw [ht] at K
    simp only [gd_bool, nilCheck_ptr, fap1106_0, l1, lens22 x2, reduceCtorEq, Bool.true_eq_false, if_false, bs, dPick_bool, if_true, dIf_bool, Option.bind_assoc]
    refine bad1 _ _ fun g' h1 h2 => ?_
    simp only [bs, mkRes_one]
    exact K g' h1 h2
  | false =>
    by_cases hgt : (lenS s).1 > ((lenS s).2.1.length : Int).tdiv 8
    · have ht : countS s = (0, ((lenS s).2.1, true)) := by unfold countS; rw [if_pos (.inr hgt)]
      rw [ht] at K
      simp only [gd_bool, nilCheck_ptr, fap1106_0, l1, lens22 x2, if_true, bs, dBin_quo, show ¬ ((8 : Int) = 0) by omega, if_false, wq, dBin_gtr, hgt, decide_true, reduceCtorEq, Bool.true_eq_false, Bool.false_eq_true, dPick_bool, dIf_bool, Option.bind_assoc]
      refine bad1 _ _ fun g' h1 h2 => ?_
      simp only [bs, mkRes_one]
      exact K g' h1 h2
    · have ht : countS s = lenS s := by unfold countS; rw [if_neg (by rw [hb]; simp only [Bool.false_eq_true, false_or]; exact hgt)]
      rw [ht] at K
      simp only [gd_bool, nilCheck_ptr, fap1106_0, l1, lens22 x2, if_true, bs, dBin_quo, show ¬ ((8 : Int) = 0) by omega, if_false, wq, dBin_gtr, hgt, decide_false, reduceCtorEq, Bool.true_eq_false, Bool.false_eq_true, dPick_bool, dIf_bool, Option.bind_assoc, mkRes_one]
      exact K g1 ⟨dd, x1, x2, x3, x4⟩ h3
def linS (s : Cur) : Lin × Cur := (⟨(numS s).1, (numS (numS s).2).1, (textS (numS (numS s).2).2).1.getD []⟩, (textS (numS (numS s).2).2).2)
def lnsS : Nat → Cur → List Lin × Cur
  | 0, s => ([], s)
  | n + 1, s => ((linS s).1 :: (lnsS n (linS s).2).1, (lnsS n (linS s).2).2)
def fdS (s : Cur) : (Str × Str) × Cur := (((textS s).1.getD [], (textS (textS s).2).1.getD []), (textS (textS s).2).2)
def fdsS : Nat → Cur → List (Str × Str) × Cur
  | 0, s => ([], s)
  | n + 1, s => ((fdS s).1 :: (fdsS n (fdS s).2).1, (fdsS n (fdS s).2).2)
theorem nmN2 (d : D) : dNilCheck tab (.fn (.method "logtide/event.number") [.iface ty1104 d] []) = some (.fn (.method "logtide/event.number") [.iface ty1104 d] []) := by kernel_rfl
theorem nmT2 (d : D) : dNilCheck tab (.fn (.method "logtide/event.text") [.iface ty1104 d] []) = some (.fn (.method "logtide/event.text") [.iface ty1104 d] []) := by kernel_rfl
theorem nmC2 (d : D) : dNilCheck tab (.fn (.method "logtide/event.count") [.iface ty1104 d] []) = some (.fn (.method "logtide/event.count") [.iface ty1104 d] []) := by kernel_rfl
/-- What a reader's visit keeps: the item's cells, the cursor. -/
structure ViS (n0 oi oc : Nat) (h0 g : Hp) (row : List D) (s : Cur) : Prop where
  hi : g[oi]? = some (.row ty74 11 [row])
  hc : CuO g oc s
  lo : ∀ q, q < n0 → g[q]? = h0[q]?
  ni : n0 ≤ oi
  nc : n0 ≤ oc
theorem ViS.ne {n0 oi oc : Nat} {h0 g : Hp} {row : List D} {s : Cur} (v : ViS n0 oi oc h0 g row s) : oi ≠ oc := fun hh => by
  obtain ⟨d, h1, _⟩ := v.hc
  rw [← hh, v.hi] at h1
  injection h1 with h1
  injection h1 with h2
  exact absurd h2 (by decide)
theorem ViS.ln {n0 oi oc : Nat} {h0 g : Hp} {row : List D} {s : Cur} (v : ViS n0 oi oc h0 g row s) : n0 ≤ g.length := by
  have := (List.getElem?_eq_some_iff.1 v.hi).1
  have := v.ni
  omega
theorem row_apart {g : Hp} {n e z o T z' : Nat} {rows : List (List D)} {rr : List (List D)} {d : D} (ow : Own g n e z rows d) (ho : g[o]? = some (.row T z' rr)) (hne : e ≠ T) {q : Nat} (hq : d.inOb q) : q ≠ o := fun hh => by
  have := own_live ow hq
  rw [hh, ho] at this
  injection this with this
  injection this with h2
  exact hne h2.symm
/-- Own slices stay while other objects are written. -/
theorem Own.wrt {g g' : Hp} {oc o n e z : Nat} {rows : List (List D)} {d : D} (ow : Own g n e z rows d) (hw : Wrt g g' oc o) {T1 z1 T2 z2 : Nat} {r1 r2 : List (List D)} (h1 : g[oc]? = some (.row T1 z1 r1)) (h2 : g[o]? = some (.row T2 z2 r2)) (e1 : e ≠ T1) (e2 : e ≠ T2) : Own g' n e z rows d :=
  ow.keep fun q _ hx => hw.2 q (row_apart ow h1 e1 hx) (row_apart ow h2 e2 hx)
theorem vnum {n0 oi oc : Nat} {h0 g : Hp} {row : List D} {s : Cur} (v : ViS n0 oi oc h0 g row s) (off : Nat) (hoff : off < row.length) {β : Type} {f : D × Hp → Option β} {Q : β → Prop}
    (K : ∀ g', ViS n0 oi oc h0 g' (row.set off (.int .i64 (numS s).1)) (numS s).2 → Wrt g g' oc oi → Wp (f (mkRes [], g')) Q) : Wp ((R fn1153 [.ptr oc 0 0, .ptr oi 0 off] g).bind f) Q :=
  c1153 v.hc ⟨v.hi, rfl, hoff, v.ne⟩ fun g' h1 h2 h3 => K g' ⟨h2, h1, fun q hq => by rw [h3.2 q (by have := v.nc; omega) (by have := v.ni; omega)]; exact v.lo q hq, v.ni, v.nc⟩ h3
theorem vtext {n0 oi oc : Nat} {h0 g : Hp} {row : List D} {s : Cur} (v : ViS n0 oi oc h0 g row s) (off : Nat) {u : Str} (hu : row[off]? = some (.str u)) {β : Type} {f : D × Hp → Option β} {Q : β → Prop}
    (K : ∀ g', ViS n0 oi oc h0 g' (row.set off (.str ((textS s).1.getD u))) (textS s).2 → Wrt g g' oc oi → Wp (f (mkRes [], g')) Q) : Wp ((R fn1154 [.ptr oc 0 0, .ptr oi 0 off] g).bind f) Q :=
  c1154 v.hc ⟨v.hi, rfl, (List.getElem?_eq_some_iff.1 hu).1, v.ne⟩ hu fun g' h1 h2 h3 => K g' ⟨h2, h1, fun q hq => by rw [h3.2 q (by have := v.nc; omega) (by have := v.ni; omega)]; exact v.lo q hq, v.ni, v.nc⟩ h3
theorem vcount {n0 oi oc : Nat} {h0 g : Hp} {row : List D} {s : Cur} (v : ViS n0 oi oc h0 g row s) (m : D) {β : Type} {f : D × Hp → Option β} {Q : β → Prop}
    (K : ∀ g', ViS n0 oi oc h0 g' row (countS s).2 → Wrt g g' oc oi → Wp (f (.int .i64 (countS s).1, g')) Q) : Wp ((R fn1152 [.ptr oc 0 0, m] g).bind f) Q :=
  c1152 v.hc m fun g' h1 h2 => K g' ⟨by rw [h2.2 oi v.ne]; exact v.hi, h1, fun q hq => by rw [h2.2 q (by have := v.nc; omega)]; exact v.lo q hq, v.ni, v.nc⟩ ⟨h2.1, fun q a _ => h2.2 q a⟩
theorem countS_range {g : Hp} {oc : Nat} {s : Cur} (hc : CuO g oc s) : 0 ≤ (countS s).1 ∧ (countS s).1 ≤ 1000000000 := by
  obtain ⟨d, h1, h2, h3, h4⟩ := hc
  have h5 := takeS_u8 h3 4
  have hl : (takeS s 4).1.length ≤ 4 := takeS_len s 4
  obtain ⟨r0, r1⟩ := num_range _ _ rfl h5.1
  have r2 : num (takeS s 4).1 < 4294967296 := by
    have hc : (takeS s 4).1.length = 0 ∨ (takeS s 4).1.length = 1 ∨ (takeS s 4).1.length = 2 ∨ (takeS s 4).1.length = 3 ∨ (takeS s 4).1.length = 4 := by omega
    rcases hc with h | h | h | h | h <;> rw [h] at r1 <;> omega
  have hn : (lenS s).1 = num (takeS s 4).1 := wrap_i64 (by omega) (by omega)
  unfold countS
  split
  · exact ⟨by simp [-Option.bind_some], by simp [-Option.bind_some]⟩
  · rename_i hh
    have h6 : ((lenS s).2.1.length : Int) ≤ 1000000000 := by
      have : (lenS s).2.1.length ≤ s.1.length := h5.2.2
      omega
    rw [Int.tdiv_eq_ediv_of_nonneg (by omega)] at hh
    have h7 : ¬ ((lenS s).2.1.length : Int) / 8 < (lenS s).1 := fun hx => hh (.inr hx)
    rw [hn] at h7
    rw [hn]
    omega
def itc (r : Str) (a0 a1 a2 a3 : Int) (ld : D) (a5 a6 : Int) (s7 s8 : Str) (fd : D) : List D := [.str r, .int .i64 a0, .int .i64 a1, .int .i64 a2, .int .i64 a3, ld, .int .i64 a5, .int .i64 a6, .str s7, .str s8, fd]
theorem itcL {g : Hp} {oi : Nat} {r : Str} {a0 a1 a2 a3 : Int} {ld : D} {a5 a6 : Int} {t7 t8 : Str} {fd : D} (h : g[oi]? = some (.row ty74 11 [itc r a0 a1 a2 a3 ld a5 a6 t7 t8 fd])) : dLoad tab g ty28 (.ptr oi 0 (0 + 1 + 4)) = some ld ∧ dLoad tab g ty29 (.ptr oi 0 (0 + 1 + 9)) = some fd := ⟨by rw [ldp28, row_of h]; rfl, by rw [ldp29, row_of h]; rfl⟩
def zlinr : List D := [.int .i64 0, .int .i64 0, .str []]
theorem vlines {n0 oi oc : Nat} {h0 : Hp} {r : Str} {a0 a1 a2 a3 : Int} {a5 a6 : Int} {t7 t8 : Str} {fd : D} {g : Hp} {s : Cur} (N : Nat) (hN : N ≤ 1000000000) {pp : D × Hp} (hpp : pp.1 = .int .i64 N) (v : ViS n0 oi oc h0 g (itc r a0 a1 a2 a3 .nils a5 a6 t7 t8 fd) s) (hfd : fd = .nils) (x1 x2 x3 x4 : D) {β : Type} {K : Out → Option β} {Q : β → Prop}
    (k : ∀ g' ld b1 b2 b3 b4 b5, ViS n0 oi oc h0 g' (itc r a0 a1 a2 a3 ld a5 a6 t7 t8 fd) (lnsS N s).2 → Own g' n0 ty78 3 ((lnsS N s).1.map linr) ld → Wp (K (.ext 2, [b1, b2, b3, b4, b5], g')) Q) : Wp ((loopW (F1133_L1 (.iface ty1104 (.ptr oc 0 0)) (.ptr oi 0 (0 + 1)) pp) [x1, x2, .int .i64 0, x3, x4] g).bind K) Q := by
  refine Wp.loop (fun kk ds g' => ∃ b1 b2 b4 b5 ld, ∃ n : Nat, ∃ L : List Lin, ∃ s' : Cur, ds = [b1, b2, .int .i64 n, b4, b5] ∧ kk + n = N ∧ ViS n0 oi oc h0 g' (itc r a0 a1 a2 a3 ld a5 a6 t7 t8 fd) s' ∧ Own g' n0 ty78 3 (L.map linr) ld ∧ L.length = n ∧ L ++ (lnsS (N - n) s').1 = (lnsS N s).1 ∧ (lnsS (N - n) s').2 = (lnsS N s).2)
    (fun r2 => r2.1 = .ext 2 ∧ ∃ b1 b2 b3 b4 b5 ld, r2.2.1 = [b1, b2, b3, b4, b5] ∧ ViS n0 oi oc h0 r2.2.2 (itc r a0 a1 a2 a3 ld a5 a6 t7 t8 fd) (lnsS N s).2 ∧ Own r2.2.2 n0 ty78 3 ((lnsS N s).1.map linr) ld) N ⟨_, _, _, _, .nils, 0, [], s, rfl, rfl, v, Own.nils _ _ _ _, rfl, by simp [-Option.bind_some], by simp [-Option.bind_some]⟩ ?_ ?_
  · rintro kk ds g' ⟨b1, b2, b4, b5, ld, n, L, s', rfl, hk, v', ow, hL, e1, e2⟩
    simp only [F1133_L1, nth_zero, nth_succ, bs, Option.bind_assoc, hpp, dBin_lss]
    refine Wp.dif ?_ ?_
    · intro h1
      have h1 : n < N := by have : (n : Int) < (N : Int) := by simpa [-Option.bind_some] using h1
                            omega
      have hw : IntKind.wrap .i64 ((n : Int) + 1) = ((n + 1 : Nat) : Int) := by
        rw [wrap_i64 (by omega) (by omega)]; omega
      have hll : ((L.map linr).length : Int) = n := by simp [-Option.bind_some, hL]
      have hbz : pLitF tab ty28 1 [0] [.agg zlinr] = some (.sl 3 true [zlinr]) := id rfl
      have hzl : dBuild tab ty78 [] [] = some (.agg zlinr) := id rfl
      simp only [nilCheck_ptr, fap31_4, (itcL v'.hi).1, leno28 ow, hll, bs, dBin_eql, decide_true, dIf_bool, if_true, hzl, hbz, Option.bind_assoc]
      refine wap28 (ys := [zlinr]) v'.ln ow (rowsOf_sl _ _ _ _) (by simp [-Option.bind_some]; omega) fun ld2 g2 ow2 len2 bel2 old2 _ => ?_
      obtain ⟨dc, c1, c2, c3, c4⟩ := v'.hc
      have hi2 : g2[oi]? = some (.row ty74 11 [itc r a0 a1 a2 a3 ld a5 a6 t7 t8 fd]) := by rw [old2 oi (List.getElem?_eq_some_iff.1 v'.hi).1 (fun hx => row_apart ow v'.hi (by decide) hx rfl)]; exact v'.hi
      have hc2 : g2[oc]? = some (.row ty1106 2 [[dc, .bool s'.2]]) := by rw [old2 oc (List.getElem?_eq_some_iff.1 c1).1 (fun hx => row_apart ow c1 (by decide) hx rfl)]; exact c1
      simp only [bs]
      refine wst28 hi2 (by rfl) (by rw [(one_cells (own_one ow2)).1]; rfl) (by simp [-Option.bind_some, itc]) (one_cells (own_one ow2)).2 fun g3 p3 s3 => ?_
      rw [(one_cells (own_one ow2)).1] at p3
      have p3 : g3[oi]? = some (.row ty74 11 [itc r a0 a1 a2 a3 ld2 a5 a6 t7 t8 fd]) := p3
      have hc3 : g3[oc]? = some (.row ty1106 2 [[dc, .bool s'.2]]) := by rw [s3.2 oc (Ne.symm v'.ne)]; exact hc2
      have ow3 : Own g3 n0 ty78 3 (L.map linr ++ [zlinr]) ld2 := ow2.keep fun q _ hx => s3.2 q (row_apart ow2 hi2 (by decide) hx)
      have v3 : ViS n0 oi oc h0 g3 (itc r a0 a1 a2 a3 ld2 a5 a6 t7 t8 fd) s' := ⟨p3, ⟨dc, hc3, c2, c3, c4⟩, fun q hq => by rw [s3.2 q (by have := v'.ni; omega), bel2 q hq]; exact v'.lo q hq, v'.ni, v'.nc⟩
      obtain ⟨ol, hol, hld2, ho3⟩ := own_ix ow3 (i := n) (by simp [-Option.bind_some]; omega)
      have hlen3 : (L.map linr ++ [zlinr]).length = n + 1 := by simp [-Option.bind_some, hL]
      have hrn : (L.map linr ++ [zlinr])[n]? = some zlinr := by rw [List.getElem?_append_right (by simp [-Option.bind_some, hL])]; simp [-Option.bind_some, hL]
      have hne3 : ol ≠ oc := fun hh => by rw [hh, hc3] at ho3; injection ho3 with ho3; injection ho3 with h2; exact absurd h2 (by decide)
      have hne3i : ol ≠ oi := fun hh => by rw [hh, p3] at ho3; injection ho3 with ho3; injection ho3 with h2; exact absurd h2 (by decide)
      have i0 : (0 : Int) ≤ (n : Int) ∧ (n : Int) < (((L.map linr ++ [zlinr]).length : Nat) : Int) := by omega
      have hix : dIndexAddr tab ty28 ld2 (.int .i64 (n : Int)) = some (.ptr ol n 0) := by rw [hld2, ixm28, if_pos i0]; simp [-Option.bind_some]
      simp only [bs, toEnd_nrm, nilCheck_ptr, fap31_4, (itcL v3.hi).1, hix, fap78_0, fap78_1, fap78_2, nmN2, nmT2, inv1104_number, inv1104_text, Option.bind_assoc]
      refine c1153 v3.hc ⟨ho3, hrn, by simp [-Option.bind_some, zlinr], hne3⟩ fun g4 q1 q2 q3 => ?_
      have hsn : ∀ (x : List D), (L.map linr ++ [zlinr]).set n x = L.map linr ++ [x] := fun x => by rw [List.set_append_right _ _ (by simp [-Option.bind_some, hL])]; simp [-Option.bind_some, hL]
      rw [hsn] at q2
      have hgn : ∀ (x : List D), (L.map linr ++ [x])[n]? = some x := fun x => by rw [List.getElem?_append_right (by simp [-Option.bind_some, hL])]; simp [-Option.bind_some, hL]
      have hsn' : ∀ (y x : List D), (L.map linr ++ [y]).set n x = L.map linr ++ [x] := fun y x => by rw [List.set_append_right _ _ (by simp [-Option.bind_some, hL])]; simp [-Option.bind_some, hL]
      simp only [bs]
      refine c1153 q1 ⟨q2, hgn _, by simp [-Option.bind_some, zlinr], hne3⟩ fun g5 q4 q5 q6 => ?_
      rw [hsn'] at q5
      simp only [bs]
      refine c1154 q4 ⟨q5, hgn _, by simp [-Option.bind_some, zlinr], hne3⟩ (u := []) (by rfl) fun g6 q7 q8 q9 => ?_
      rw [hsn'] at q8
      have q8 : g6[ol]? = some (.row ty78 3 (L.map linr ++ [linr (linS s').1])) := q8
      simp only [bs, dBin_add, hw]
      have hN : N - n = (N - (n + 1)) + 1 := by omega
      rw [hN] at e1 e2
      refine .some (.inl ⟨rfl, kk - 1, by omega, _, _, _, _, ld2, n + 1, L ++ [(linS s').1], (linS s').2, rfl, by omega, ⟨?_, q7, fun q hq => ?_, v'.ni, v'.nc⟩, ?_, by simp [-Option.bind_some, hL], ?_, ?_⟩)
      · rw [q9.2 oi v3.ne (Ne.symm hne3i), q6.2 oi v3.ne (Ne.symm hne3i), q3.2 oi v3.ne (Ne.symm hne3i)]; exact p3
      · have a1 := v'.nc
        rw [q9.2 q (by omega) (by omega), q6.2 q (by omega) (by omega), q3.2 q (by omega) (by omega)]
        exact v3.lo q hq
      · refine .inr ⟨ol, hol, ?_, by rw [q8]; simp [-Option.bind_some]⟩
        rw [hld2, hlen3]; simp [-Option.bind_some, hL]
      · rw [← e1]; simp [-Option.bind_some, lnsS]
      · rw [← e2]; simp [-Option.bind_some, lnsS]
    · intro h1
      have h1 : n = N := by have : ¬ (n : Int) < (N : Int) := by simpa [-Option.bind_some] using h1
                            omega
      subst h1
      rw [Nat.sub_self] at e1 e2
      have f1 : L ++ [] = (lnsS n s).1 := e1
      have f2 : s' = (lnsS n s).2 := e2
      rw [List.append_nil] at f1
      rw [f2] at v'
      exact .some (.inr ⟨by simp [-Option.bind_some], rfl, _, _, _, _, _, ld, rfl, v', by rw [← f1]; exact ow⟩)
  · rintro ⟨ex, ds, g'⟩ ⟨rfl, b1, b2, b3, b4, b5, ld, rfl, v', ow⟩
    exact k g' ld b1 b2 b3 b4 b5 v' ow
def zfld : List D := [.str [], .str []]
theorem vfields {n0 oi oc : Nat} {h0 : Hp} {r : Str} {a0 a1 a2 a3 : Int} {a5 a6 : Int} {t7 t8 : Str} {ld : D} {L : List Lin} {g : Hp} {s : Cur} (N : Nat) (hN : N ≤ 1000000000) {pp : D × Hp} (hpp : pp.1 = .int .i64 N) (v : ViS n0 oi oc h0 g (itc r a0 a1 a2 a3 ld a5 a6 t7 t8 .nils) s) (hld : Own g n0 ty78 3 (L.map linr) ld) (x1 x2 x3 : D) {β : Type} {K : Out → Option β} {Q : β → Prop}
    (k : ∀ g' fd b1 b2 b3 b4, ViS n0 oi oc h0 g' (itc r a0 a1 a2 a3 ld a5 a6 t7 t8 fd) (fdsS N s).2 → Own g' n0 ty78 3 (L.map linr) ld → Own g' n0 ty109 2 ((fdsS N s).1.map fld) fd → Wp (K (.ext 4, [b1, b2, b3, b4], g')) Q) : Wp ((loopW (F1133_L2 (.iface ty1104 (.ptr oc 0 0)) (.ptr oi 0 (0 + 1)) pp) [x1, .int .i64 0, x2, x3] g).bind K) Q := by
  refine Wp.loop (fun kk ds g' => ∃ b1 b4 b5 fd, ∃ n : Nat, ∃ M : List (Str × Str), ∃ s' : Cur, ds = [b1, .int .i64 n, b4, b5] ∧ kk + n = N ∧ ViS n0 oi oc h0 g' (itc r a0 a1 a2 a3 ld a5 a6 t7 t8 fd) s' ∧ Own g' n0 ty78 3 (L.map linr) ld ∧ Own g' n0 ty109 2 (M.map fld) fd ∧ M.length = n ∧ M ++ (fdsS (N - n) s').1 = (fdsS N s).1 ∧ (fdsS (N - n) s').2 = (fdsS N s).2)
    (fun r2 => r2.1 = .ext 4 ∧ ∃ b1 b2 b3 b4 fd, r2.2.1 = [b1, b2, b3, b4] ∧ ViS n0 oi oc h0 r2.2.2 (itc r a0 a1 a2 a3 ld a5 a6 t7 t8 fd) (fdsS N s).2 ∧ Own r2.2.2 n0 ty78 3 (L.map linr) ld ∧ Own r2.2.2 n0 ty109 2 ((fdsS N s).1.map fld) fd) N ⟨_, _, _, .nils, 0, [], s, rfl, rfl, v, hld, Own.nils _ _ _ _, rfl, by simp [-Option.bind_some], by simp [-Option.bind_some]⟩ ?_ ?_
  · rintro kk ds g' ⟨b1, b4, b5, fd, n, M, s', rfl, hk, v', owL, ow, hL, e1, e2⟩
    simp only [F1133_L2, nth_zero, nth_succ, bs, Option.bind_assoc, hpp, dBin_lss]
    refine Wp.dif ?_ ?_
    · intro h1
      have h1 : n < N := by have : (n : Int) < (N : Int) := by simpa [-Option.bind_some] using h1
                            omega
      have hw : IntKind.wrap .i64 ((n : Int) + 1) = ((n + 1 : Nat) : Int) := by
        rw [wrap_i64 (by omega) (by omega)]; omega
      have hll : ((M.map fld).length : Int) = n := by simp [-Option.bind_some, hL]
      have hbz : pLitF tab ty29 1 [0] [.agg zfld] = some (.sl 2 true [zfld]) := id rfl
      have hzl : dBuild tab ty109 [] [] = some (.agg zfld) := id rfl
      simp only [nilCheck_ptr, fap31_9, (itcL v'.hi).2, leno29 ow, hll, bs, dBin_eql, decide_true, dIf_bool, if_true, hzl, hbz, Option.bind_assoc]
      refine wap29 (ys := [zfld]) v'.ln ow (rowsOf_sl _ _ _ _) (by simp [-Option.bind_some]; omega) fun fd2 g2 ow2 len2 bel2 old2 _ => ?_
      obtain ⟨dc, c1, c2, c3, c4⟩ := v'.hc
      have hi2 : g2[oi]? = some (.row ty74 11 [itc r a0 a1 a2 a3 ld a5 a6 t7 t8 fd]) := by rw [old2 oi (List.getElem?_eq_some_iff.1 v'.hi).1 (fun hx => row_apart ow v'.hi (by decide) hx rfl)]; exact v'.hi
      have hc2 : g2[oc]? = some (.row ty1106 2 [[dc, .bool s'.2]]) := by rw [old2 oc (List.getElem?_eq_some_iff.1 c1).1 (fun hx => row_apart ow c1 (by decide) hx rfl)]; exact c1
      have owL2 : Own g2 n0 ty78 3 (L.map linr) ld := owL.keep fun q _ hx => old2 q (owL.lt hx).2 (own_apart owL ow (by decide) hx)
      simp only [bs]
      refine wst29 hi2 (by rfl) (by rw [(one_cells (own_one ow2)).1]; rfl) (by simp [-Option.bind_some, itc]) (one_cells (own_one ow2)).2 fun g3 p3 s3 => ?_
      rw [(one_cells (own_one ow2)).1] at p3
      have p3 : g3[oi]? = some (.row ty74 11 [itc r a0 a1 a2 a3 ld a5 a6 t7 t8 fd2]) := p3
      have hc3 : g3[oc]? = some (.row ty1106 2 [[dc, .bool s'.2]]) := by rw [s3.2 oc (Ne.symm v'.ne)]; exact hc2
      have ow3 : Own g3 n0 ty109 2 (M.map fld ++ [zfld]) fd2 := ow2.keep fun q _ hx => s3.2 q (row_apart ow2 hi2 (by decide) hx)
      have owL3 : Own g3 n0 ty78 3 (L.map linr) ld := owL2.keep fun q _ hx => s3.2 q (row_apart owL2 hi2 (by decide) hx)
      have v3 : ViS n0 oi oc h0 g3 (itc r a0 a1 a2 a3 ld a5 a6 t7 t8 fd2) s' := ⟨p3, ⟨dc, hc3, c2, c3, c4⟩, fun q hq => by rw [s3.2 q (by have := v'.ni; omega), bel2 q hq]; exact v'.lo q hq, v'.ni, v'.nc⟩
      obtain ⟨ol, hol, hld2, ho3⟩ := own_ix ow3 (i := n) (by simp [-Option.bind_some]; omega)
      have hlen3 : (M.map fld ++ [zfld]).length = n + 1 := by simp [-Option.bind_some, hL]
      have hrn : (M.map fld ++ [zfld])[n]? = some zfld := by rw [List.getElem?_append_right (by simp [-Option.bind_some, hL])]; simp [-Option.bind_some, hL]
      have hne3 : ol ≠ oc := fun hh => by rw [hh, hc3] at ho3; injection ho3 with ho3; injection ho3 with h2; exact absurd h2 (by decide)
      have hne3i : ol ≠ oi := fun hh => by rw [hh, p3] at ho3; injection ho3 with ho3; injection ho3 with h2; exact absurd h2 (by decide)
      have i0 : (0 : Int) ≤ (n : Int) ∧ (n : Int) < (((M.map fld ++ [zfld]).length : Nat) : Int) := by omega
      have hix : dIndexAddr tab ty29 fd2 (.int .i64 (n : Int)) = some (.ptr ol n 0) := by rw [hld2, ixm29, if_pos i0]; simp [-Option.bind_some]
      simp only [bs, toEnd_nrm, nilCheck_ptr, fap31_9, (itcL v3.hi).2, hix, fap109_0, fap109_1, nmN2, nmT2, inv1104_number, inv1104_text, Option.bind_assoc]
      have hsn : ∀ (x : List D), (M.map fld ++ [zfld]).set n x = M.map fld ++ [x] := fun x => by rw [List.set_append_right _ _ (by simp [-Option.bind_some, hL])]; simp [-Option.bind_some, hL]
      have hgn : ∀ (x : List D), (M.map fld ++ [x])[n]? = some x := fun x => by rw [List.getElem?_append_right (by simp [-Option.bind_some, hL])]; simp [-Option.bind_some, hL]
      have hsn' : ∀ (y x : List D), (M.map fld ++ [y]).set n x = M.map fld ++ [x] := fun y x => by rw [List.set_append_right _ _ (by simp [-Option.bind_some, hL])]; simp [-Option.bind_some, hL]
      refine c1154 v3.hc ⟨ho3, hrn, by simp [-Option.bind_some, zfld], hne3⟩ (u := []) (by rfl) fun g4 q1 q2 q3 => ?_
      rw [hsn] at q2
      have hi4 : g4[oi]? = some (.row ty74 11 [itc r a0 a1 a2 a3 ld a5 a6 t7 t8 fd2]) := by rw [q3.2 oi v3.ne (Ne.symm hne3i)]; exact p3
      simp only [bs, (itcL hi4).2, hix, fap109_1, nilCheck_ptr, inv1104_text]
      refine c1154 q1 ⟨q2, hgn _, by simp [-Option.bind_some, zfld], hne3⟩ (u := []) (by rfl) fun g6 q7 q8 q9 => ?_
      rw [hsn'] at q8
      have q8 : g6[ol]? = some (.row ty109 2 (M.map fld ++ [fld (fdS s').1])) := q8
      simp only [bs, dBin_add, hw]
      have hN : N - n = (N - (n + 1)) + 1 := by omega
      rw [hN] at e1 e2
      have keepL : Own g6 n0 ty78 3 (L.map linr) ld := by
        have k4 : Own g4 n0 ty78 3 (L.map linr) ld := owL3.keep fun q _ hx => q3.2 q (row_apart owL3 hc3 (by decide) hx) (row_apart owL3 ho3 (by decide) hx)
        obtain ⟨dd, y1, _⟩ := q1
        exact k4.keep fun q _ hx => q9.2 q (row_apart k4 y1 (by decide) hx) (row_apart k4 q2 (by decide) hx)
      refine .some (.inl ⟨rfl, kk - 1, by omega, _, _, _, fd2, n + 1, M ++ [(fdS s').1], (fdS s').2, rfl, by omega, ⟨?_, q7, fun q hq => ?_, v'.ni, v'.nc⟩, keepL, ?_, by simp [-Option.bind_some, hL], ?_, ?_⟩)
      · rw [q9.2 oi v3.ne (Ne.symm hne3i)]; exact hi4
      · have a1 := v'.nc
        rw [q9.2 q (by omega) (by omega), q3.2 q (by omega) (by omega)]
        exact v3.lo q hq
      · refine .inr ⟨ol, hol, ?_, by rw [q8]; simp [-Option.bind_some]⟩
        rw [hld2, hlen3]; simp [-Option.bind_some, hL]
      · rw [← e1]; simp [-Option.bind_some, fdsS]
      · rw [← e2]; simp [-Option.bind_some, fdsS]
    · intro h1
      have h1 : n = N := by have : ¬ (n : Int) < (N : Int) := by simpa [-Option.bind_some] using h1
                            omega
      subst h1
      rw [Nat.sub_self] at e1 e2
      have f1 : M ++ [] = (fdsS n s).1 := e1
      have f2 : s' = (fdsS n s).2 := e2
      rw [List.append_nil] at f1
      rw [f2] at v'
      exact .some (.inr ⟨by simp [-Option.bind_some], rfl, _, _, _, _, fd, rfl, v', owL, by rw [← f1]; exact ow⟩)
  · rintro ⟨ex, ds, g'⟩ ⟨rfl, b1, b2, b3, b4, fd, rfl, v', owL, ow⟩
    exact k g' fd b1 b2 b3 b4 v' owL ow
/-- An item as its bytes tell it. -/
structure RI where
  r : Str
  a0 : Int
  a1 : Int
  a2 : Int
  a3 : Int
  ls : List Lin
  a5 : Int
  a6 : Int
  t7 : Str
  t8 : Str
  fs : List (Str × Str)
def visA (s : Cur) : Cur := (numS (numS (numS (numS (textS s).2).2).2).2).2
def visB (s : Cur) : Cur := (lnsS (countS (visA s)).1.toNat (countS (visA s)).2).2
def visC (s : Cur) : Cur := (textS (textS (numS (numS (visB s)).2).2).2).2
def visI (s : Cur) : RI :=
  { r := (textS s).1.getD [], a0 := (numS (textS s).2).1, a1 := (numS (numS (textS s).2).2).1, a2 := (numS (numS (numS (textS s).2).2).2).1, a3 := (numS (numS (numS (numS (textS s).2).2).2).2).1,
    ls := (lnsS (countS (visA s)).1.toNat (countS (visA s)).2).1, a5 := (numS (visB s)).1, a6 := (numS (numS (visB s)).2).1, t7 := (textS (numS (numS (visB s)).2).2).1.getD [], t8 := (textS (textS (numS (numS (visB s)).2).2).2).1.getD [],
    fs := (fdsS (countS (visC s)).1.toNat (countS (visC s)).2).1 }
def visE (s : Cur) : Cur := (fdsS (countS (visC s)).1.toNat (countS (visC s)).2).2
def RI.row (x : RI) (ld fd : D) : List D := itc x.r x.a0 x.a1 x.a2 x.a3 ld x.a5 x.a6 x.t7 x.t8 fd
theorem v1133 {n0 oi oc : Nat} {h0 g : Hp} {s : Cur} (v : ViS n0 oi oc h0 g (itc [] 0 0 0 0 .nils 0 0 [] [] .nils) s) {β : Type} {f : D × Hp → Option β} {Q : β → Prop}
    (k : ∀ g2 ld fd, ViS n0 oi oc h0 g2 ((visI s).row ld fd) (visE s) → Own g2 n0 ty78 3 ((visI s).ls.map linr) ld → Own g2 n0 ty109 2 ((visI s).fs.map fld) fd → Wp (f (mkRes [], g2)) Q) : Wp ((R fn1133 [.iface ty1104 (.ptr oc 0 0), .ptr oi 0 0] g).bind f) Q := by
  rw [e1133]
  simp only [F1133, bs, Option.bind_assoc, nilCheck_ptr, fap74_0, fap74_1, nmT2, nmN2, nmC2, inv1104_text, inv1104_number, inv1104_count, fap31_0, fap31_1, fap31_2, fap31_3]
  refine vtext v 0 (u := []) (by rfl) fun g1 v1 _ => ?_
  have v1 : ViS n0 oi oc h0 g1 (itc (visI s).r 0 0 0 0 .nils 0 0 [] [] .nils) (textS s).2 := v1
  simp only [bs, bs1133_4 (.ptr oi 0 (0 + 1 + 0)) (.ptr oi 0 (0 + 1 + 1)) (.ptr oi 0 (0 + 1 + 2)) (.ptr oi 0 (0 + 1 + 3)) rfl rfl rfl rfl, show ([[.ptr oi 0 (0 + 1 + 0)], [.ptr oi 0 (0 + 1 + 1)], [.ptr oi 0 (0 + 1 + 2)], [.ptr oi 0 (0 + 1 + 3)]] : List (List D)) = pl4 oi from rfl, len1133, show (pl4 oi).length = 4 from rfl]
  refine Wp.loop (fun kk ds g' => ∃ a b, ∃ n : Nat, ds = [a, .int .i64 n, b] ∧ kk + n = 4 ∧ ((n = 0 ∧ ViS n0 oi oc h0 g' (itc (visI s).r 0 0 0 0 .nils 0 0 [] [] .nils) (textS s).2) ∨ (n = 1 ∧ ViS n0 oi oc h0 g' (itc (visI s).r (visI s).a0 0 0 0 .nils 0 0 [] [] .nils) (numS (textS s).2).2) ∨
      (n = 2 ∧ ViS n0 oi oc h0 g' (itc (visI s).r (visI s).a0 (visI s).a1 0 0 .nils 0 0 [] [] .nils) (numS (numS (textS s).2).2).2) ∨ (n = 3 ∧ ViS n0 oi oc h0 g' (itc (visI s).r (visI s).a0 (visI s).a1 (visI s).a2 0 .nils 0 0 [] [] .nils) (numS (numS (numS (textS s).2).2).2).2) ∨
      (n = 4 ∧ ViS n0 oi oc h0 g' (itc (visI s).r (visI s).a0 (visI s).a1 (visI s).a2 (visI s).a3 .nils 0 0 [] [] .nils) (visA s))))
    (fun r => r.1 = .ext 0 ∧ (∃ a b c, r.2.1 = [a, b, c]) ∧ ViS n0 oi oc h0 r.2.2 (itc (visI s).r (visI s).a0 (visI s).a1 (visI s).a2 (visI s).a3 .nils 0 0 [] [] .nils) (visA s)) 4 ⟨_, _, 0, rfl, rfl, .inl ⟨rfl, v1⟩⟩ ?_ ?_
  · rintro kk ds g' ⟨a, b, n, rfl, hk, hv⟩
    simp only [F1133_L0, nth_zero, nth_succ, bs, Option.bind_assoc, dBin_lss]
    have ix : ∀ j : Nat, j < 4 → dIndexAddr tab ty1133 (.sl 1 true (pl4 oi)) (.int .i64 j) = some (.fptr [.ptr oi 0 (0 + 1 + j)]) := fun j hj => by
      have : j = 0 ∨ j = 1 ∨ j = 2 ∨ j = 3 := by omega
      rcases this with rfl | rfl | rfl | rfl <;> (rw [ix1133]; rfl)
    rcases hv with ⟨rfl, v'⟩ | ⟨rfl, v'⟩ | ⟨rfl, v'⟩ | ⟨rfl, v'⟩ | ⟨rfl, v'⟩
    · simp only [show decide (((0 : Nat) : Int) < ((4 : Nat) : Int)) = true from rfl, dIf_bool, if_true, ix 0 (by omega), ld1132, bs, inv1104_number]
      refine vnum v' (0 + 1 + 0) (by simp [-Option.bind_some, itc]) fun g2 v2 _ => ?_
      simp only [bs, dBin_add]
      exact .some (.inl ⟨rfl, 3, by omega, _, _, 1, rfl, rfl, .inr (.inl ⟨rfl, v2⟩)⟩)
    · simp only [show decide (((1 : Nat) : Int) < ((4 : Nat) : Int)) = true from rfl, dIf_bool, if_true, ix 1 (by omega), ld1132, bs, inv1104_number]
      refine vnum v' (0 + 1 + 1) (by simp [-Option.bind_some, itc]) fun g2 v2 _ => ?_
      simp only [bs, dBin_add]
      exact .some (.inl ⟨rfl, 2, by omega, _, _, 2, rfl, rfl, .inr (.inr (.inl ⟨rfl, v2⟩))⟩)
    · simp only [show decide (((2 : Nat) : Int) < ((4 : Nat) : Int)) = true from rfl, dIf_bool, if_true, ix 2 (by omega), ld1132, bs, inv1104_number]
      refine vnum v' (0 + 1 + 2) (by simp [-Option.bind_some, itc]) fun g2 v2 _ => ?_
      simp only [bs, dBin_add]
      exact .some (.inl ⟨rfl, 1, by omega, _, _, 3, rfl, rfl, .inr (.inr (.inr (.inl ⟨rfl, v2⟩)))⟩)
    · simp only [show decide (((3 : Nat) : Int) < ((4 : Nat) : Int)) = true from rfl, dIf_bool, if_true, ix 3 (by omega), ld1132, bs, inv1104_number]
      refine vnum v' (0 + 1 + 3) (by simp [-Option.bind_some, itc]) fun g2 v2 _ => ?_
      simp only [bs, dBin_add]
      exact .some (.inl ⟨rfl, 0, by omega, _, _, 4, rfl, rfl, .inr (.inr (.inr (.inr ⟨rfl, v2⟩)))⟩)
    · simp only [show decide (((4 : Nat) : Int) < ((4 : Nat) : Int)) = false from rfl, dIf_bool, Bool.false_eq_true, if_false]
      exact .some (.inr ⟨by simp [-Option.bind_some], rfl, ⟨_, _, _, rfl⟩, v'⟩)
  rintro ⟨ex, ds, g2⟩ ⟨rfl, ⟨a, b, c, rfl⟩, v2⟩
  have v2 : ViS n0 oi oc h0 g2 (itc (visI s).r (visI s).a0 (visI s).a1 (visI s).a2 (visI s).a3 .nils 0 0 [] [] .nils) (visA s) := v2
  simp only [unblk_self, toEnd_nrm, bs, Option.bind_assoc, nilCheck_ptr, fap31_4, (itcL v2.hi).1, lenn28, nmC2, inv1104_count]
  have hcr := countS_range v2.hc
  refine vcount v2 _ fun g3 v3 _ => ?_
  obtain ⟨N, hN⟩ : ∃ N : Nat, (countS (visA s)).1 = N := ⟨(countS (visA s)).1.toNat, by omega⟩
  have hNt : (countS (visA s)).1.toNat = N := by omega
  simp only [bs]
  refine vlines N (by omega) (by rw [hN]) v3 rfl _ _ _ _ fun g4 ld b1 b2 b3 b4 b5 v4 ow4 => ?_
  have hB : (lnsS N (countS (visA s)).2).2 = visB s := by unfold visB; rw [hNt]
  have hL : (lnsS N (countS (visA s)).2).1 = (visI s).ls := by unfold visI; simp only [hNt]
  rw [hB] at v4
  rw [hL] at ow4
  simp only [unblk_self, toEnd_nrm, bs, Option.bind_assoc, nilCheck_ptr, fap31_5, fap31_6, fap31_7, fap31_8, fap31_9, nmN2, nmT2, nmC2, inv1104_number, inv1104_text, inv1104_count]
  have keep : ∀ {g g' : Hp} {row : List D} {s' : Cur}, Own g n0 ty78 3 ((visI s).ls.map linr) ld → ViS n0 oi oc h0 g row s' → Wrt g g' oc oi → Own g' n0 ty78 3 ((visI s).ls.map linr) ld := fun ow v w => by
    obtain ⟨d, h1, _⟩ := v.hc
    exact Own.wrt ow w h1 v.hi (by decide) (by decide)
  refine vnum v4 (0 + 1 + 5) (by simp [-Option.bind_some, itc]) fun g5 v5 w5 => ?_
  have ow5 := keep ow4 v4 w5
  have v5 : ViS n0 oi oc h0 g5 (itc (visI s).r (visI s).a0 (visI s).a1 (visI s).a2 (visI s).a3 ld (visI s).a5 0 [] [] .nils) (numS (visB s)).2 := v5
  simp only [bs]
  refine vnum v5 (0 + 1 + 6) (by simp [-Option.bind_some, itc]) fun g6 v6 w6 => ?_
  have ow6 := keep ow5 v5 w6
  have v6 : ViS n0 oi oc h0 g6 (itc (visI s).r (visI s).a0 (visI s).a1 (visI s).a2 (visI s).a3 ld (visI s).a5 (visI s).a6 [] [] .nils) (numS (numS (visB s)).2).2 := v6
  simp only [bs]
  refine vtext v6 (0 + 1 + 7) (u := []) (by rfl) fun g7 v7 w7 => ?_
  have ow7 := keep ow6 v6 w7
  have v7 : ViS n0 oi oc h0 g7 (itc (visI s).r (visI s).a0 (visI s).a1 (visI s).a2 (visI s).a3 ld (visI s).a5 (visI s).a6 (visI s).t7 [] .nils) (textS (numS (numS (visB s)).2).2).2 := v7
  simp only [bs]
  refine vtext v7 (0 + 1 + 8) (u := []) (by rfl) fun g8 v8 w8 => ?_
  have ow8 := keep ow7 v7 w8
  have v8 : ViS n0 oi oc h0 g8 (itc (visI s).r (visI s).a0 (visI s).a1 (visI s).a2 (visI s).a3 ld (visI s).a5 (visI s).a6 (visI s).t7 (visI s).t8 .nils) (visC s) := v8
  simp only [bs, (itcL v8.hi).2, lenn29]
  have hcr2 := countS_range v8.hc
  refine vcount v8 _ fun g9 v9 w9 => ?_
  have ow9 := keep ow8 v8 w9
  obtain ⟨M, hM⟩ : ∃ M : Nat, (countS (visC s)).1 = M := ⟨(countS (visC s)).1.toNat, by omega⟩
  have hMt : (countS (visC s)).1.toNat = M := by omega
  simp only [bs]
  refine vfields M (by omega) (by rw [hM]) v9 ow9 _ _ _ fun g10 fd b1 b2 b3 b4 v10 owL owF => ?_
  have hE : (fdsS M (countS (visC s)).2).2 = visE s := by unfold visE; rw [hMt]
  have hF : (fdsS M (countS (visC s)).2).1 = (visI s).fs := by unfold visI; simp only [hMt]
  rw [hE] at v10
  rw [hF] at owF
  simp only [unblk_self, exEnd_nrm, bs, Option.bind_assoc]
  exact k g10 ld fd v10 owL owF
theorem num_cons (z : Int) (l : List Int) : num (z :: l) = z * 256 ^ l.length + num l := by
  have key : ∀ (l : List Int) (c : Int), l.foldl (fun v b => v * 256 + b) c = c * 256 ^ l.length + l.foldl (fun v b => v * 256 + b) 0 := by
    intro l
    induction l with
    | nil => intro c; simp [-Option.bind_some]
    | cons a r ih =>
      intro c
      simp only [List.foldl_cons, List.length_cons]
      rw [ih (c * 256 + a), ih (0 * 256 + a), Int.pow_succ]
      generalize (256 : Int) ^ r.length = P
      generalize List.foldl (fun v b => v * 256 + b) 0 r = F
      simp only [Int.add_mul, Int.zero_mul, Int.zero_add]
      rw [Int.mul_assoc, Int.mul_comm 256 P, Int.add_assoc]
  unfold num
  simp only [List.foldl_cons]
  rw [key l (0 * 256 + z)]
  simp [-Option.bind_some]
theorem num_putb : ∀ (k : Nat) (v : Int), 0 ≤ v → num (putb k v) = v % 256 ^ k
  | 0, v, _ => by simp [-Option.bind_some, putb, num]
  | k + 1, v, h => by
    simp only [putb]
    rw [num_cons, putb_len, num_putb k v h, wrap_u8m]
    have hP : (2 : Int) ^ (8 * k) = 256 ^ k := by rw [Int.pow_mul]; rfl
    rw [hP]
    have hpos : (0 : Int) < 256 ^ k := Int.pow_pos (by omega)
    rw [Int.fdiv_eq_ediv_of_nonneg _ (by omega)]
    rw [Int.pow_succ]
    generalize (256 : Int) ^ k = P at hpos
    have h1 := Int.mul_ediv_add_emod v P
    have h2 := Int.mul_ediv_add_emod (v / P) 256
    have h3 := Int.emod_nonneg v (show P ≠ 0 by omega)
    have h4 := Int.emod_lt_of_pos v hpos
    have h5 := Int.emod_nonneg (v / P) (show (256 : Int) ≠ 0 by omega)
    have h6 := Int.emod_lt_of_pos (v / P) (show (0 : Int) < 256 by omega)
    generalize v % P = r at *
    generalize hq : v / P = q at *
    generalize q % 256 = s at *
    generalize q / 256 = t at *
    have e : v = (s * P + r) + (P * 256) * t := by
      rw [← h1, ← h2]
      simp only [Int.mul_add, Int.add_mul]
      rw [Int.mul_comm P s, ← Int.mul_assoc P 256 t]
      omega
    rw [e, Int.add_mul_emod_self_left]
    have hsP : s * P + P ≤ P * 256 := by
      have : (s + 1) * P ≤ 256 * P := Int.mul_le_mul_of_nonneg_right (by omega) (by omega)
      rw [Int.add_mul, Int.one_mul, Int.mul_comm 256 P] at this
      exact this
    have hs0 : 0 ≤ s * P := Int.mul_nonneg h5 (by omega)
    exact (Int.emod_eq_of_lt (by omega) (by omega)).symm
def I64 (n : Int) : Prop := -9223372036854775808 ≤ n ∧ n < 9223372036854775808
theorem wrap_u64m (n : Int) : IntKind.wrap .u64 n = n % 18446744073709551616 := by
  unfold IntKind.wrap
  simp [-Option.bind_some, IntKind.signed, IntKind.bits, IntKind.min, IntKind.max]
theorem p256_8 : (256 : Int) ^ 8 = 18446744073709551616 := by decide
theorem p256_4 : (256 : Int) ^ 4 = 4294967296 := by decide
theorem num_pI {n : Int} (h : I64 n) : IntKind.wrap .i64 (num (pI n)) = n := by
  unfold pI
  rw [num_putb 8 _ (by rw [wrap_u64m]; omega), p256_8, wrap_u64m]
  unfold I64 at h
  unfold IntKind.wrap
  simp [-Option.bind_some, IntKind.signed, IntKind.bits, IntKind.min, IntKind.max]
  omega
theorem num_pN {n : Nat} (h : n < 4294967296) : num (pN n) = n := by
  unfold pN
  rw [wrap_u64 (by omega) (by omega), num_putb 4 _ (by omega), p256_4]
  omega
theorem takeS_app (p r : List Int) (n : Nat) (hn : p.length = n) : takeS (p ++ r, false) n = (p, (r, false)) := by
  unfold takeS
  rw [if_neg (by simp [-Option.bind_some]; omega)]
  subst hn
  simp [-Option.bind_some]
theorem numS_app {n : Int} (h : I64 n) (r : List Int) : numS (pI n ++ r, false) = (n, (r, false)) := by
  unfold numS
  rw [show (8 : Int) = ((8 : Nat) : Int) from rfl, takeS_app (pI n) r 8 (pI_len n), num_pI h]
theorem lenS_app {n : Nat} (h : n < 4294967296) (r : List Int) : lenS (pN n ++ r, false) = ((n : Int), (r, false)) := by
  unfold lenS
  rw [show (4 : Int) = ((4 : Nat) : Int) from rfl, takeS_app (pN n) r 4 (pN_len n), num_pN h]
  rw [wrap_i64 (by omega) (by omega)]
theorem textS_app {s : Str} (h : s.length < 4294967296) (r : List Int) : textS (pS s ++ r, false) = (some s, (r, false)) := by
  have e : pS s ++ r = pN s.length ++ (sby s ++ r) := by simp [-Option.bind_some, pS]
  unfold textS
  rw [e, lenS_app h, takeS_app (sby s) r s.length (sby_len s)]
  simp [-Option.bind_some, bys_sby]
theorem countS_app {n : Nat} (h : n < 4294967296) (r : List Int) (hr : 8 * n ≤ r.length) : countS (pN n ++ r, false) = ((n : Int), (r, false)) := by
  unfold countS
  rw [lenS_app h, if_neg]
  simp only [Bool.false_eq_true, false_or]
  rw [Int.tdiv_eq_ediv_of_nonneg (by omega)]
  omega
structure LnR (l : Lin) : Prop where
  o : I64 l.off
  n : I64 l.len
  t : l.txt.length < 4294967296
theorem linS_app {l : Lin} (h : LnR l) (r : List Int) : linS (lnB l ++ r, false) = (l, (r, false)) := by
  have e : lnB l ++ r = pI l.off ++ (pI l.len ++ (pS l.txt ++ r)) := by simp [-Option.bind_some, lnB]
  unfold linS
  rw [e, numS_app h.o]
  simp only
  rw [numS_app h.n]
  simp only
  rw [textS_app h.t]
  rfl
theorem lnsS_app : ∀ (ls : List Lin), (∀ l ∈ ls, LnR l) → ∀ r, lnsS ls.length ((ls.map lnB).flatten ++ r, false) = (ls, (r, false))
  | [], _, r => rfl
  | l :: ls, h, r => by
    have e : ((l :: ls).map lnB).flatten ++ r = lnB l ++ ((ls.map lnB).flatten ++ r) := by simp [-Option.bind_some]
    rw [e, List.length_cons]
    unfold lnsS
    rw [linS_app (h l (by simp [-Option.bind_some]))]
    simp only
    rw [lnsS_app ls (fun x hx => h x (by simp [-Option.bind_some, hx])) r]
theorem fdS_app {p : Str × Str} (h1 : p.1.length < 4294967296) (h2 : p.2.length < 4294967296) (r : List Int) : fdS (fdB p ++ r, false) = (p, (r, false)) := by
  have e : fdB p ++ r = pS p.1 ++ (pS p.2 ++ r) := by simp [-Option.bind_some, fdB]
  unfold fdS
  rw [e, textS_app h1]
  simp only
  rw [textS_app h2]
  rfl
theorem fdsS_app : ∀ (fs : List (Str × Str)), (∀ p ∈ fs, p.1.length < 4294967296 ∧ p.2.length < 4294967296) → ∀ r, fdsS fs.length ((fs.map fdB).flatten ++ r, false) = (fs, (r, false))
  | [], _, r => rfl
  | p :: fs, h, r => by
    have e : ((p :: fs).map fdB).flatten ++ r = fdB p ++ ((fs.map fdB).flatten ++ r) := by simp [-Option.bind_some]
    rw [e, List.length_cons]
    unfold fdsS
    rw [fdS_app (h p (by simp [-Option.bind_some])).1 (h p (by simp [-Option.bind_some])).2]
    simp only
    rw [fdsS_app fs (fun x hx => h x (by simp [-Option.bind_some, hx])) r]
/-- The numbers of an item are numbers of the machine. -/
structure ItR (i : It) : Prop where
  r : i.r.length < 4294967296
  a0 : I64 i.e.a0
  a1 : I64 i.e.a1
  a2 : I64 i.e.a2
  a3 : I64 i.e.a3
  nl : i.e.ls.length < 4294967296
  ls : ∀ l ∈ i.e.ls, LnR l
  a5 : I64 i.e.a5
  a6 : I64 i.e.a6
  t7 : i.e.s7.length < 4294967296
  t8 : i.e.s8.length < 4294967296
  nf : i.e.fs.length < 4294967296
  fs : ∀ p ∈ i.e.fs, p.1.length < 4294967296 ∧ p.2.length < 4294967296
def riOf (i : It) : RI := ⟨i.r, i.e.a0, i.e.a1, i.e.a2, i.e.a3, i.e.ls, i.e.a5, i.e.a6, i.e.s7, i.e.s8, i.e.fs⟩
theorem flat_min {α : Type} (f : α → List Int) (m : Nat) : ∀ (l : List α), (∀ a ∈ l, m ≤ (f a).length) → m * l.length ≤ (l.map f).flatten.length
  | [], _ => by simp [-Option.bind_some]
  | a :: l, h => by
    have h1 := h a (by simp [-Option.bind_some])
    have h2 := flat_min f m l fun b hb => h b (by simp [-Option.bind_some, hb])
    simp only [List.map_cons, List.flatten_cons, List.length_append, List.length_cons, Nat.mul_succ]
    omega
theorem visI_app {i : It} (h : ItR i) (r : List Int) : visI (bodyI i ++ r, false) = riOf i ∧ visE (bodyI i ++ r, false) = (r, false) := by
  have e : bodyI i ++ r = pS i.r ++ (pI i.e.a0 ++ (pI i.e.a1 ++ (pI i.e.a2 ++ (pI i.e.a3 ++ (pN i.e.ls.length ++ ((i.e.ls.map lnB).flatten ++ (pI i.e.a5 ++ (pI i.e.a6 ++ (pS i.e.s7 ++ (pS i.e.s8 ++ (pN i.e.fs.length ++ ((i.e.fs.map fdB).flatten ++ r)))))))))))) := by simp [-Option.bind_some, bodyI, bodyB, bodyA]
  have hl8 := flat_min lnB 8 i.e.ls fun l _ => by simp only [lnB, List.length_append, pI_len, pS_len]; omega
  have hf8 := flat_min fdB 8 i.e.fs fun l _ => by simp only [fdB, List.length_append, pS_len]; omega
  rw [e]
  have hA : visA (pS i.r ++ (pI i.e.a0 ++ (pI i.e.a1 ++ (pI i.e.a2 ++ (pI i.e.a3 ++ (pN i.e.ls.length ++ ((i.e.ls.map lnB).flatten ++ (pI i.e.a5 ++ (pI i.e.a6 ++ (pS i.e.s7 ++ (pS i.e.s8 ++ (pN i.e.fs.length ++ ((i.e.fs.map fdB).flatten ++ r)))))))))))), false) = (pN i.e.ls.length ++ ((i.e.ls.map lnB).flatten ++ (pI i.e.a5 ++ (pI i.e.a6 ++ (pS i.e.s7 ++ (pS i.e.s8 ++ (pN i.e.fs.length ++ ((i.e.fs.map fdB).flatten ++ r))))))), false) := by
    unfold visA
    rw [textS_app h.r]; simp only
    rw [numS_app h.a0]; simp only
    rw [numS_app h.a1]; simp only
    rw [numS_app h.a2]; simp only
    rw [numS_app h.a3]
  have hc1 := countS_app h.nl ((i.e.ls.map lnB).flatten ++ (pI i.e.a5 ++ (pI i.e.a6 ++ (pS i.e.s7 ++ (pS i.e.s8 ++ (pN i.e.fs.length ++ ((i.e.fs.map fdB).flatten ++ r))))))) (by rw [List.length_append]; omega)
  have hls := lnsS_app i.e.ls h.ls (pI i.e.a5 ++ (pI i.e.a6 ++ (pS i.e.s7 ++ (pS i.e.s8 ++ (pN i.e.fs.length ++ ((i.e.fs.map fdB).flatten ++ r))))))
  have hB : visB (pS i.r ++ (pI i.e.a0 ++ (pI i.e.a1 ++ (pI i.e.a2 ++ (pI i.e.a3 ++ (pN i.e.ls.length ++ ((i.e.ls.map lnB).flatten ++ (pI i.e.a5 ++ (pI i.e.a6 ++ (pS i.e.s7 ++ (pS i.e.s8 ++ (pN i.e.fs.length ++ ((i.e.fs.map fdB).flatten ++ r)))))))))))), false) = (pI i.e.a5 ++ (pI i.e.a6 ++ (pS i.e.s7 ++ (pS i.e.s8 ++ (pN i.e.fs.length ++ ((i.e.fs.map fdB).flatten ++ r))))), false) := by
    unfold visB
    rw [hA, hc1]; simp only [Int.toNat_natCast]
    rw [hls]
  have hC : visC (pS i.r ++ (pI i.e.a0 ++ (pI i.e.a1 ++ (pI i.e.a2 ++ (pI i.e.a3 ++ (pN i.e.ls.length ++ ((i.e.ls.map lnB).flatten ++ (pI i.e.a5 ++ (pI i.e.a6 ++ (pS i.e.s7 ++ (pS i.e.s8 ++ (pN i.e.fs.length ++ ((i.e.fs.map fdB).flatten ++ r)))))))))))), false) = (pN i.e.fs.length ++ ((i.e.fs.map fdB).flatten ++ r), false) := by
    unfold visC
    rw [hB, numS_app h.a5]; simp only
    rw [numS_app h.a6]; simp only
    rw [textS_app h.t7]; simp only
    rw [textS_app h.t8]
  have hc2 := countS_app h.nf ((i.e.fs.map fdB).flatten ++ r) (by rw [List.length_append]; omega)
  have hfs := fdsS_app i.e.fs h.fs r
  refine ⟨?_, ?_⟩
  · unfold visI riOf
    rw [hA, hB, hC, hc1, hc2]
    simp only [Int.toNat_natCast]
    rw [hls, hfs, textS_app h.r]
    simp only [Option.getD_some]
    rw [numS_app h.a0]; simp only
    rw [numS_app h.a1]; simp only
    rw [numS_app h.a2]; simp only
    rw [numS_app h.a3, numS_app h.a5]; simp only
    rw [numS_app h.a6]; simp only
    rw [textS_app h.t7]; simp only [Option.getD_some]
    rw [textS_app h.t8]
    simp only [Option.getD_some]
  · unfold visE
    rw [hC, hc2]
    simp only [Int.toNat_natCast]
    rw [hfs]
theorem own_snap {h : Hp} {n1 e z : Nat} {α : Type} {f : α → List D} {l : List α} {d : D} {n : Nat} (hd : Own h n1 e z (l.map f) d) (hr : ∀ a ∈ l, ∀ d ∈ f a, snap h n d = d) : SlOf z f l (snap h (n + 1) d) := by
  rcases hd with ⟨rfl, hn⟩ | ⟨o, ho, rfl, hg⟩
  · exact .inl ⟨rfl, by simpa [-Option.bind_some] using hn⟩
  · refine .inr ⟨false, ?_⟩
    simp only [snap, hg, List.drop_zero]
    rw [List.take_of_length_le (by simp [-Option.bind_some])]
    congr 1
    rw [List.map_map]
    refine List.map_congr_left fun a ha => ?_
    simp only [Function.comp]
    conv => rhs; rw [← List.map_id (f a)]
    exact List.map_congr_left fun d hd => hr a ha d hd
theorem linr_snap (h : Hp) (n : Nat) (l : Lin) : ∀ d ∈ linr l, snap h n d = d := by
  intro d hd
  simp only [linr, List.mem_cons, List.not_mem_nil, or_false] at hd
  cases n <;> rcases hd with rfl | rfl | rfl <;> rfl
theorem fld_snap (h : Hp) (n : Nat) (p : Str × Str) : ∀ d ∈ fld p, snap h n d = d := by
  intro d hd
  simp only [fld, List.mem_cons, List.not_mem_nil, or_false] at hd
  cases n <;> rcases hd with rfl | rfl <;> rfl
theorem takeS_le (s : Cur) (n : Int) : (takeS s n).2.1.length ≤ s.1.length := by
  unfold takeS
  split
  · exact Nat.le_refl _
  · simp [-Option.bind_some]
theorem numS_le (s : Cur) : (numS s).2.1.length ≤ s.1.length := takeS_le s 8
theorem lenS_le (s : Cur) : (lenS s).2.1.length ≤ s.1.length := takeS_le s 4
theorem textS_le (s : Cur) : (textS s).2.1.length ≤ s.1.length := by
  have h1 := takeS_le (lenS s).2 (lenS s).1
  have h2 := lenS_le s
  unfold textS
  split
  · simp only; omega
  · simp only; omega
theorem countS_le (s : Cur) : (countS s).1.toNat ≤ s.1.length ∧ (countS s).2.1.length ≤ s.1.length := by
  have h2 := lenS_le s
  unfold countS
  split
  · exact ⟨by simp [-Option.bind_some], h2⟩
  · rename_i hh
    refine ⟨?_, h2⟩
    have h3 : ¬ ((lenS s).2.1.length : Int).tdiv 8 < (lenS s).1 := fun hx => hh (.inr hx)
    rw [Int.tdiv_eq_ediv_of_nonneg (by omega)] at h3
    omega
theorem linS_le (s : Cur) : (linS s).2.1.length ≤ s.1.length := by
  have h1 := numS_le s
  have h2 := numS_le (numS s).2
  have h3 := textS_le (numS (numS s).2).2
  unfold linS
  simp only
  omega
theorem lnsS_le : ∀ (n : Nat) (s : Cur), (lnsS n s).1.length = n ∧ (lnsS n s).2.1.length ≤ s.1.length
  | 0, s => ⟨rfl, Nat.le_refl _⟩
  | n + 1, s => by
    have h1 := lnsS_le n (linS s).2
    have h2 := linS_le s
    exact ⟨by simp [-Option.bind_some, lnsS, h1.1], Nat.le_trans h1.2 h2⟩
theorem fdsS_len : ∀ (n : Nat) (s : Cur), (fdsS n s).1.length = n
  | 0, s => rfl
  | n + 1, s => by simp [-Option.bind_some, fdsS, fdsS_len n]
theorem visA_le (s : Cur) : (visA s).1.length ≤ s.1.length := by
  have h0 := textS_le s
  have h1 := numS_le (textS s).2
  have h2 := numS_le (numS (textS s).2).2
  have h3 := numS_le (numS (numS (textS s).2).2).2
  have h4 := numS_le (numS (numS (numS (textS s).2).2).2).2
  unfold visA
  omega
theorem visC_le (s : Cur) : (visC s).1.length ≤ s.1.length := by
  have h0 := visA_le s
  have h1 := (countS_le (visA s)).2
  have h2 := (lnsS_le (countS (visA s)).1.toNat (countS (visA s)).2).2
  have hB : (visB s).1.length ≤ s.1.length := by unfold visB; omega
  have h3 := numS_le (visB s)
  have h4 := numS_le (numS (visB s)).2
  have h5 := textS_le (numS (numS (visB s)).2).2
  have h6 := textS_le (textS (numS (numS (visB s)).2).2).2
  unfold visC
  omega
theorem visI_len (s : Cur) : (visI s).ls.length ≤ s.1.length ∧ (visI s).fs.length ≤ s.1.length := by
  have h0 := visA_le s
  have h1 := (countS_le (visA s)).1
  have h2 := (lnsS_le (countS (visA s)).1.toNat (countS (visA s)).2).1
  have h3 := visC_le s
  have h4 := (countS_le (visC s)).1
  have h5 := fdsS_len (countS (visC s)).1.toNat (countS (visC s)).2
  refine ⟨?_, ?_⟩
  · show (lnsS (countS (visA s)).1.toNat (countS (visA s)).2).1.length ≤ _
    omega
  · show (fdsS (countS (visC s)).1.toNat (countS (visC s)).2).1.length ≤ _
    omega
def mkIt (x : RI) (ld fd : D) (h1 : SlOf 3 linr x.ls ld) (h2 : SlOf 2 fld x.fs fd) (h3 : x.ls.length ≤ 9223372036854775807) (h4 : x.fs.length ≤ 9223372036854775807) : It := ⟨x.r, ⟨x.a0, x.a1, x.a2, x.a3, x.ls, ld, x.a5, x.a6, x.t7, x.t8, x.fs, fd, h2, h4, h1, h3⟩⟩
theorem mkIt_ri (x : RI) (ld fd : D) (h1 : SlOf 3 linr x.ls ld) (h2 : SlOf 2 fld x.fs fd) (h3 : x.ls.length ≤ 9223372036854775807) (h4 : x.fs.length ≤ 9223372036854775807) : riOf (mkIt x ld fd h1 h2 h3 h4) = x := rfl
/-- The error of bytes, their size as an item, and what they tell; c: the check's answer. -/
def decZ (c : Int) (l : List Int) : Int × Int × RI :=
  if l.length < 4 then (14, 0, ⟨[], 0, 0, 0, 0, [], 0, 0, [], [], []⟩)
  else if num (l.take 4) < 4 ∨ (l.length : Int) - 4 < num (l.take 4) then (14, 0, ⟨[], 0, 0, 0, 0, [], 0, 0, [], [], []⟩)
  else if chkS (l.take (num (l.take 4)).toNat) ≠ num ((l.drop (num (l.take 4)).toNat).take 4) then (15, 0, ⟨[], 0, 0, 0, 0, [], 0, 0, [], [], []⟩)
  else if (visE ((l.take (num (l.take 4)).toNat).drop 4, false)).2 = true ∨ 0 < (visE ((l.take (num (l.take 4)).toNat).drop 4, false)).1.length ∨ c ≠ 0 then (1, 0, ⟨[], 0, 0, 0, 0, [], 0, 0, [], [], []⟩)
  else (0, 4 + num (l.take 4), visI ((l.take (num (l.take 4)).toNat).drop 4, false))
def zit : It := ⟨[], ⟨0, 0, 0, 0, [], .nils, 0, 0, [], [], [], .nils, SlOf.nils _ _, by simp [-Option.bind_some], SlOf.nils _ _, by simp [-Option.bind_some]⟩⟩
theorem zit_ri : riOf zit = ⟨[], 0, 0, 0, 0, [], 0, 0, [], [], []⟩ := rfl
theorem dec_end {h g : Hp} {a b : Int} {j : It} (hl : h.length ≤ g.length) (hb : ∀ q, q < h.length → g[q]? = h[q]?) : scope h g (.tup [.agg (itr j), .int .i64 a, .int .i64 b]) = some (.tup [.agg (itr j), .int .i64 a, .int .i64 b], h) := by
  refine scope_eq ?_ ?_ hl hb
  · have h1 : (itr j).map (frz h.length g 2) = itr j := by
      conv => rhs; rw [← List.map_id (itr j)]
      exact List.map_congr_left fun d hd => itr_frz _ g 1 j d hd
    show D.tup [D.agg ((itr j).map (frz h.length g 2)), .int .i64 a, .int .i64 b] = _
    rw [h1]
  · refine .tup _ fun d hd => ?_
    simp [-Option.bind_some] at hd
    rcases hd with rfl | rfl | rfl
    · exact itr_ok _ j
    · constructor
    · constructor
theorem mkRes_3 (a b c : D) : mkRes [a, b, c] = .tup [a, b, c] := rfl
end Go.Proofs.YtlpedofpnbggbaaDoor
