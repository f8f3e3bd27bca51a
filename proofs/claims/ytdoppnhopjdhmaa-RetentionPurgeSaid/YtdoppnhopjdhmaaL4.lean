/- Laws, on plain data, about functions that the statement reaches. -/
import Derived.Test.YtdoppnhopjdhmaaL3
set_option linter.unusedSimpArgs false
set_option linter.unusedVariables false
set_option linter.unnecessarySimpa false
set_option maxRecDepth 100000
namespace Go.Proofs.Ytdoppnhopjdhmaa
open Go.Eng Go.Pi
theorem s28 (ps : List Pol) (dp : D) (hs : List Hld) (dh : D) (now : Int) (es : List Ev) (de : D) (h : Hp) (hdp : SlOf 4 polr ps dp) (hlp : ps.length ≤ 1000000000) (hdh : SlOf 5 hldr hs dh) (hlh : hs.length ≤ 1000000000) (he : SlOf 10 evr es de) (hel : es.length ≤ 100000) :
    ∃ dk dt, R fn28 [dp, dh, .int .i64 now, de] h = some (.tup [dk, dt], h) ∧ SlOf 10 evr (keptE ps hs now es) dk ∧ SlOf 3 talr (talE ps hs now es) dt ∧ TAsc (talE ps hs now es) ∧ (talE ps hs now es).length ≤ es.length := by
  suffices Wp (R fn28 [dp, dh, .int .i64 now, de] h) (fun p => p.2 = h ∧ ∃ dk dt, p.1 = .tup [dk, dt] ∧ SlOf 10 evr (keptE ps hs now es) dk ∧ SlOf 3 talr (talE ps hs now es) dt ∧ TAsc (talE ps hs now es) ∧ (talE ps hs now es).length ≤ es.length) by
    obtain ⟨⟨x, h'⟩, h1, rfl, dk, dt, rfl, h2⟩ := this
    exact ⟨dk, dt, h1, h2⟩
  rw [e28]
  simp only [F28, bs, Option.bind_assoc, lens40 he]
  refine Wp.loop (fun k ds g => h.length ≤ g.length ∧ (∀ q, q < h.length → g[q]? = h[q]?) ∧ ∃ x y b c e f, ∃ i : Nat, ds = [x, y, .int .i64 i, b, c, e, f] ∧ k + i = es.length ∧ Own g h.length ty31 10 ((keptE ps hs now (es.take i)).map evr) x
        ∧ SlOf 3 talr (talE ps hs now (es.take i)) y ∧ TAsc (talE ps hs now (es.take i)) ∧ (talE ps hs now (es.take i)).length ≤ i)
      (fun r => r.1 = .ext 0 ∧ h.length ≤ r.2.2.length ∧ (∀ q, q < h.length → r.2.2[q]? = h[q]?) ∧ Own r.2.2 h.length ty31 10 ((keptE ps hs now es).map evr) (nth 0 r.2.1)
        ∧ SlOf 3 talr (talE ps hs now es) (nth 1 r.2.1) ∧ TAsc (talE ps hs now es) ∧ (talE ps hs now es).length ≤ es.length)
      es.length ⟨Nat.le_refl _, fun _ _ => rfl, _, _, _, _, _, _, 0, rfl, rfl, Own.nils _ _ _ _, SlOf.nils _ _, List.Pairwise.nil, Nat.le_refl _⟩ ?_ ?_
  · rintro k ds g ⟨hgl, hgq, x, y, b, c, e, f, i, rfl, hk, ow, hy, hasc, hlen⟩
    simp only [F28_L0, nth_zero, nth_succ, bs, Option.bind_assoc, lens40 he, dBin_lss]
    refine Wp.dif ?_ ?_
    · intro h0
      have h0 : i < es.length := by have : (i : Int) < es.length := by simpa [-Option.bind_some] using h0
                                    omega
      have hg : es[i]? = some es[i] := List.getElem?_eq_getElem h0
      have hw : IntKind.wrap .i64 ((i : Int) + 1) = ((i + 1 : Nat) : Int) := by
        rw [wrap_i64 (by omega) (by omega)]; omega
      have htk : es.take (i + 1) = es.take i ++ [es[i]] := by rw [List.take_add_one, hg]; rfl
      have hfl : (keptE ps hs now (es.take i)).length ≤ i := Nat.le_trans (List.length_filter_le _ _) (by simp [-Option.bind_some]; omega)
      generalize es[i] = ev at hg htk
      have hbx : boxN 10 (.agg (evr ev)) = some (.fptr (evr ev)) := boxN_agg 10 _ rfl
      have hix : dIndexAddr tab ty40 de (.int .i64 i) = some (.fptr (evr ev)) := by rw [ixs40 he]; simp [-Option.bind_some, hg]
      have f0 : dFieldAddr tab ty31 0 (.fptr (evr ev)) = some (.fptr (evr ev)) := id rfl
      have l0 : dLoad tab g ty3 (.fptr (evr ev)) = some (.int .i64 ev.a0) := id rfl
      have f4 : (dFieldAddr tab ty31 4 (.fptr (evr ev))).bind (fun q => dLoad tab g ty28 q) = some ev.ld := id rfl
      have hll := ev.hll
      simp only [hix, evL, bs, s17 ps dp hs dh now ev g hdp (by omega) hdh (by omega), expD, dExtract_tup, List.getElem?_cons_zero, List.getElem?_cons_succ]
      cases hx : expi ps hs now ev with
      | none =>
        have hb : pLitF tab ty40 1 [0] [.agg (evr ev)] = some (.sl 10 true [evr ev]) := by simp [-Option.bind_some, evr]
        simp only [Option.isSome_none, dIf_bool, Bool.false_eq_true, if_false, hix, evL, hb, bs, Option.bind_assoc]
        refine wap40 hgl ow (rowsOf_sl _ _ _ _) (by simp [-Option.bind_some]; omega) fun x1 g1 ow1 len1 bel1 _ _ => ?_
        simp only [bs, toEnd_nrm, unblk_nrm, nth_zero, nth_succ, dBin_add, hw]
        have hke : keptE ps hs now (es.take i ++ [ev]) = keptE ps hs now (es.take i) ++ [ev] := by simp [-Option.bind_some, keptE, hx]
        have hte : talE ps hs now (es.take i ++ [ev]) = talE ps hs now (es.take i) := by rw [talE_snoc]; simp [-Option.bind_some, stepT, hx]
        refine .some (.inl ⟨rfl, k - 1, by omega, Nat.le_trans hgl len1, fun q hq => (bel1 q (by omega)).trans (hgq q hq), _, _, _, _, _, _, i + 1, rfl, by omega, ?_, ?_, ?_, ?_⟩)
        · rw [htk, hke, List.map_append]; exact ow1
        · rw [htk, hte]; exact hy
        · rw [htk, hte]; exact hasc
        · rw [htk, hte]; omega
      | some nm =>
        obtain ⟨d', e1, hd'⟩ := s60 (talE ps hs now (es.take i)) y ev.a0 nm ev.ls.length g hy (by omega) (by omega)
        have hll := ev.hll
        simp only [Option.isSome_some, dIf_bool, if_true, hix, f0, l0, Option.getD_some, bs]
        have f4' : ∀ {β : Type} (k : D → Option β), ((dFieldAddr tab ty31 4 (.fptr (evr ev))).bind fun q => (dLoad tab g ty28 q).bind k) = k ev.ld := fun k => by
          rw [← Option.bind_assoc, f4]; rfl
        rw [f4']
        simp only [lens28 ev.hld, bs, e1, toEnd_nrm, unblk_nrm, nth_zero, nth_succ, dBin_add, hw]
        have hke : keptE ps hs now (es.take i ++ [ev]) = keptE ps hs now (es.take i) := by simp [-Option.bind_some, keptE, hx]
        have hte : talE ps hs now (es.take i ++ [ev]) = addT (talE ps hs now (es.take i)) ev.a0 nm ev.ls.length := by rw [talE_snoc]; simp [-Option.bind_some, stepT, hx]
        refine .some (.inl ⟨rfl, k - 1, by omega, hgl, hgq, _, _, _, _, _, _, i + 1, rfl, by omega, ?_, ?_, ?_, ?_⟩)
        · rw [htk, hke]; exact ow
        · rw [htk, hte]; exact hd'
        · rw [htk, hte]; exact addT_asc hasc _ _ _
        · rw [htk, hte]; have := addT_len (talE ps hs now (es.take i)) ev.a0 nm ev.ls.length; omega
    · intro h0
      have h0 : i = es.length := by have : ¬ (i : Int) < es.length := by simpa [-Option.bind_some] using h0
                                    omega
      subst h0
      rw [List.take_length] at ow hy hasc hlen
      exact .some (.inr ⟨by simp [-Option.bind_some], rfl, hgl, hgq, ow, hy, hasc, hlen⟩)
  · rintro ⟨ex, ds, g⟩ ⟨q1, hgl, hgq, ow, hy, hasc, hlen⟩
    simp only at q1 hgl hgq ow hy
    subst q1
    simp only [unblk_self, toEnd_nrm, nth_zero, nth_succ, bs, mkRes_two] at hy ⊢
    have hsl := own_sl (n0 := h.length) (n := 2) ow (Nat.le_refl _) (fun a _ => evr_frz _ g 1 a)
    rw [scope_eq (d' := .tup [frz h.length g 3 (nth 0 ds), nth 0 (tlD ds)]) (by simp [-Option.bind_some, talr_frz' hy]; rfl) (by
      refine .tup _ fun d hd => ?_
      simp [-Option.bind_some] at hd
      rcases hd with rfl | rfl
      · exact slof_ok hsl fun a _ => evr_ok _ a
      · exact slof_ok hy fun a _ => talr_ok _ a) hgl hgq]
    exact .some ⟨rfl, _, _, rfl, hsl, hy, hasc, hlen⟩
theorem s30r (l : List Tal) (da db : D) (h : Hp) (ha : SlOf 3 talr l da) (hb : SlOf 3 talr l db) (hl : l.length ≤ 1000000) : R fn30 [da, db] h = some (.bool true, h) := by
  suffices Wp (R fn30 [da, db] h) (fun p => p = (.bool true, h)) by
    obtain ⟨p, h1, rfl⟩ := this
    exact h1
  rw [e30]
  simp only [F30, bs, Option.bind_assoc, lens58 ha, lens58 hb, dBin_neq, ne_eq, not_true, decide_false, dIf_bool, Bool.false_eq_true, if_false]
  refine Wp.loop (fun n ds g => g = h ∧ ∃ x y z, ∃ i : Nat, ds = [x, .int .i64 i, y, z] ∧ n + i = l.length)
    (fun r => r.1 = .ext 0 ∧ r.2.2 = h) l.length ⟨rfl, _, _, _, 0, rfl, rfl⟩ ?_ ?_
  · rintro n ds g ⟨rfl, x, y, z, i, rfl, hi⟩
    simp only [F30_L0, nth_zero, nth_succ, bs, Option.bind_assoc, lens58 ha, dBin_lss]
    refine Wp.dif ?_ ?_
    · intro h0
      have h0 : i < l.length := by have : (i : Int) < l.length := by simpa [-Option.bind_some] using h0
                                   omega
      have hg : l[i]? = some l[i] := List.getElem?_eq_getElem h0
      generalize l[i] = u at hg
      have ia : dIndexAddr tab ty58 da (.int .i64 i) = some (.fptr (talr u)) := by rw [ixs58 ha]; simp [-Option.bind_some, hg]
      have ib : dIndexAddr tab ty58 db (.int .i64 i) = some (.fptr (talr u)) := by rw [ixs58 hb]; simp [-Option.bind_some, hg]
      have hw : IntKind.wrap .i64 ((i : Int) + 1) = ((i + 1 : Nat) : Int) := by
        rw [wrap_i64 (by omega) (by omega)]; omega
      have hn : dBin tab .neq ty106 (.agg (talr u)) (.agg (talr u)) = some (.bool false) := by
        have := bneq106 u.h u.h u.r u.r u.n u.n
        simpa [-Option.bind_some, talr] using this
      simp only [ia, ib, talr_ld, hn, bs, dIf_bool, Bool.false_eq_true, if_false, dBin_add, hw]
      exact .some (.inl ⟨rfl, n - 1, by omega, rfl, _, _, _, i + 1, rfl, by omega⟩)
    · intro _
      exact .some (.inr ⟨by simp [-Option.bind_some], rfl, rfl⟩)
  · rintro ⟨ex, ds, g⟩ ⟨q1, q2⟩
    simp only at q1 q2
    subst q1; subst q2
    simp only [unblk_self, toEnd_nrm, bs, mkRes_one]
    exact .some rfl
theorem s31 (l : List Tal) (d : D) (host : Int) (h : Hp) (hd : SlOf 3 talr l d) (hl : l.length ≤ 1000000) {m : Int} (hb : TB l m) (hm : m ≤ 1000000000) : R fn31 [d, .int .i64 host] h = some (.int .i64 (sm (nH host) l), h) := by
  suffices Wp (R fn31 [d, .int .i64 host] h) (fun p => p = (.int .i64 (sm (nH host) l), h)) by
    obtain ⟨p, h1, rfl⟩ := this
    exact h1
  rw [e31]
  simp only [F31, bs, Option.bind_assoc]
  refine Wp.loop (fun n ds g => g = h ∧ ∃ y z, ∃ i : Nat, ds = [.int .i64 (sm (nH host) (l.take i)), .int .i64 i, y, z] ∧ n + i = l.length)
    (fun r => r.1 = .ext 0 ∧ r.2.2 = h ∧ nth 0 r.2.1 = .int .i64 (sm (nH host) l)) l.length ⟨rfl, _, _, 0, rfl, rfl⟩ ?_ ?_
  · rintro n ds g ⟨rfl, y, z, i, rfl, hi⟩
    simp only [F31_L0, nth_zero, nth_succ, bs, Option.bind_assoc, lens58 hd, dBin_lss]
    refine Wp.dif ?_ ?_
    · intro h0
      have h0 : i < l.length := by have : (i : Int) < l.length := by simpa [-Option.bind_some] using h0
                                   omega
      have hg : l[i]? = some l[i] := List.getElem?_eq_getElem h0
      have htk : l.take (i + 1) = l.take i ++ [l[i]] := by rw [List.take_add_one, hg]; rfl
      generalize l[i] = u at hg htk
      have ia : dIndexAddr tab ty58 d (.int .i64 i) = some (.fptr (talr u)) := by rw [ixs58 hd]; simp [-Option.bind_some, hg]
      have hw : IntKind.wrap .i64 ((i : Int) + 1) = ((i + 1 : Nat) : Int) := by
        rw [wrap_i64 (by omega) (by omega)]; omega
      have f0 : dFieldAddr tab ty106 0 (.fptr (talr u)) = some (.fptr (talr u)) := id rfl
      have l0 : dLoad tab g ty3 (.fptr (talr u)) = some (.int .i64 u.h) := id rfl
      have f2 : dFieldAddr tab ty106 2 (.fptr (talr u)) = some (.fptr [.int .i64 u.n]) := id rfl
      have l2 : dLoad tab g ty3 (.fptr [.int .i64 u.n]) = some (.int .i64 u.n) := id rfl
      have hsum : sm (nH host) (l.take (i + 1)) = sm (nH host) (l.take i) + nH host u := by rw [htk, sm_app]; simp [-Option.bind_some, sm]
      have hnn : ∀ t ∈ l.take i, 0 ≤ t.n := fun t ht => hb.1 t (List.mem_of_mem_take ht)
      have hp := sm_nH host hnn
      have htot : sm nA l = sm nA (l.take i) + sm nA (l.drop i) := by rw [← sm_app, List.take_append_drop]
      have hdn := (TB.le (l := l.drop i) (m := sm nA (l.drop i)) ⟨fun t ht => hb.1 t (List.mem_of_mem_drop ht), Int.le_refl _⟩)
      have hu := hdn.2 u (List.mem_of_getElem? (show (l.drop i)[0]? = some u by rw [List.getElem?_drop]; simpa [-Option.bind_some] using hg))
      have hu0 := hb.1 u (List.mem_of_getElem? hg)
      have hb2 := hb.2
      simp only [ia, f0, l0, bs, dBin_eql]
      by_cases hh : u.h = host
      · have hn : nH host u = u.n := by simp [-Option.bind_some, nH, hh]
        have hw2 : IntKind.wrap .i64 (sm (nH host) (l.take i) + u.n) = sm (nH host) (l.take (i + 1)) := by
          rw [hsum, hn]; exact wrap_i64 (by omega) (by omega)
        simp only [hh, decide_true, dIf_bool, if_true, ia, f2, l2, bs, dBin_add, hw2, toEnd_nrm, unblk_nrm, nth_zero, nth_succ, hw]
        exact .some (.inl ⟨rfl, n - 1, by omega, rfl, _, _, i + 1, rfl, by omega⟩)
      · have hn : nH host u = 0 := by simp [-Option.bind_some, nH, hh]
        have hw2 : sm (nH host) (l.take i) = sm (nH host) (l.take (i + 1)) := by rw [hsum, hn]; omega
        simp only [hh, decide_false, dIf_bool, Bool.false_eq_true, if_false, bs, toEnd_nrm, unblk_nrm, nth_zero, nth_succ, dBin_add, hw]
        exact .some (.inl ⟨rfl, n - 1, by omega, rfl, _, _, i + 1, by rw [hw2], by omega⟩)
    · intro h0
      have h0 : i = l.length := by have : ¬ (i : Int) < l.length := by simpa [-Option.bind_some] using h0
                                   omega
      subst h0
      rw [List.take_length]
      exact .some (.inr ⟨by simp [-Option.bind_some], rfl, rfl, rfl⟩)
  · rintro ⟨ex, ds, g⟩ ⟨q1, q2, q3⟩
    simp only at q1 q2 q3
    subst q1; subst q2
    simp only [unblk_self, toEnd_nrm, nth_zero, q3, bs, mkRes_one]
    exact .some rfl
theorem linesT_len : ∀ (es : List Ev) (t : List Tal), (es.foldl stepL t).length ≤ t.length + es.length
  | [], t => by simp [-Option.bind_some]
  | e :: r, t => by
    have h1 := linesT_len r (stepL t e)
    have h2 := addT_len t e.a0 [] e.ls.length
    rw [List.foldl_cons]
    simp only [List.length_cons]
    have h3 : (stepL t e).length = (addT t e.a0 [] e.ls.length).length := rfl
    omega
theorem s32 (es : List Ev) (d : D) (h : Hp) (hd : SlOf 10 evr es d) (hl : es.length ≤ 100000) : ∃ d', R fn32 [d] h = some (d', h) ∧ SlOf 3 talr (linesT es) d' := by
  suffices Wp (R fn32 [d] h) (fun p => p.2 = h ∧ SlOf 3 talr (linesT es) p.1) by
    obtain ⟨⟨x, h'⟩, h1, rfl, h2⟩ := this
    exact ⟨x, h1, h2⟩
  rw [e32]
  simp only [F32, bs, Option.bind_assoc]
  refine Wp.loop (fun n ds g => g = h ∧ ∃ x y, ∃ i : Nat, ds = [x, .int .i64 i, y] ∧ n + i = es.length ∧ SlOf 3 talr (linesT (es.take i)) x)
    (fun r => r.1 = .ext 0 ∧ r.2.2 = h ∧ SlOf 3 talr (linesT es) (nth 0 r.2.1)) es.length ⟨rfl, _, _, 0, rfl, rfl, SlOf.nils _ _⟩ ?_ ?_
  · rintro n ds g ⟨rfl, x, y, i, rfl, hi, hx⟩
    simp only [F32_L0, nth_zero, nth_succ, bs, Option.bind_assoc, lens40 hd, dBin_lss]
    refine Wp.dif ?_ ?_
    · intro h0
      have h0 : i < es.length := by have : (i : Int) < es.length := by simpa [-Option.bind_some] using h0
                                    omega
      have hg : es[i]? = some es[i] := List.getElem?_eq_getElem h0
      have htk : es.take (i + 1) = es.take i ++ [es[i]] := by rw [List.take_add_one, hg]; rfl
      generalize es[i] = ev at hg htk
      have ia : dIndexAddr tab ty40 d (.int .i64 i) = some (.fptr (evr ev)) := by rw [ixs40 hd]; simp [-Option.bind_some, hg]
      have hw : IntKind.wrap .i64 ((i : Int) + 1) = ((i + 1 : Nat) : Int) := by
        rw [wrap_i64 (by omega) (by omega)]; omega
      have f0 : dFieldAddr tab ty31 0 (.fptr (evr ev)) = some (.fptr (evr ev)) := id rfl
      have l0 : dLoad tab g ty3 (.fptr (evr ev)) = some (.int .i64 ev.a0) := id rfl
      have f4 : (dFieldAddr tab ty31 4 (.fptr (evr ev))).bind (fun q => dLoad tab g ty28 q) = some ev.ld := id rfl
      have f4' : ∀ {β : Type} (k : D → Option β), ((dFieldAddr tab ty31 4 (.fptr (evr ev))).bind fun q => (dLoad tab g ty28 q).bind k) = k ev.ld := fun k => by
        rw [← Option.bind_assoc, f4]; rfl
      have hll := ev.hll
      have hlen := linesT_len (es.take i) []
      have hlen' : (linesT (es.take i)).length ≤ 1000000 := by
        have : (es.take i).length ≤ i := by simp [-Option.bind_some]; omega
        have h2 : (linesT (es.take i)).length ≤ 0 + (es.take i).length := hlen
        omega
      obtain ⟨d', e1, hd'⟩ := s60 (linesT (es.take i)) x ev.a0 [] ev.ls.length g hx hlen' (by omega)
      simp only [ia, f0, l0, bs]
      rw [f4']
      simp only [lens28 ev.hld, bs, e1, dBin_add, hw]
      refine .some (.inl ⟨rfl, n - 1, by omega, rfl, _, _, i + 1, rfl, by omega, ?_⟩)
      rw [htk]
      have : linesT (es.take i ++ [ev]) = addT (linesT (es.take i)) ev.a0 [] ev.ls.length := by simp [-Option.bind_some, linesT, stepL]
      rw [this]
      exact hd'
    · intro h0
      have h0 : i = es.length := by have : ¬ (i : Int) < es.length := by simpa [-Option.bind_some] using h0
                                    omega
      subst h0
      rw [List.take_length] at hx
      exact .some (.inr ⟨by simp [-Option.bind_some], rfl, rfl, hx⟩)
  · rintro ⟨ex, ds, g⟩ ⟨q1, q2, q3⟩
    simp only at q1 q2 q3
    subst q1; subst q2
    simp only [unblk_self, toEnd_nrm, nth_zero, bs, mkRes_one]
    exact .some ⟨rfl, q3⟩
theorem law6 (zs : List Int) (d : D) (hd : Given .u8 zs d) (hz : ∀ z ∈ zs, 0 ≤ z ∧ z < 256) : ∃ h', R fn6 [d] [] = some (.bool true, h') := by
  generalize ([] : Hp) = h
  suffices Wp (R fn6 [d] h) (fun p => p.1 = .bool true) by
    obtain ⟨⟨x, h'⟩, h1, rfl⟩ := this
    exact ⟨h', h1⟩
  rw [e6]
  simp only [F6, bs, s14, dUn_not, dIf_bool, Bool.not_true, Bool.false_eq_true, if_false]
  obtain ⟨dp, dh, de, now, h1, ps, hs, es, e1, c1, hl1, hp, hpl, hpb, hh, hhl, he, heo, hel, hn0, hn1⟩ := s15s zs d h hd hz
  refine Wp.step e1 ?_
  simp only [bs, dExtract_tup, List.getElem?_cons_zero, List.getElem?_cons_succ, Option.bind_assoc]
  obtain ⟨dk, dt, f1, hdk, hdt, _, htl⟩ := s27 ps dp hs dh now es de h1 hp (by omega) hh (by omega) he (by omega)
  refine Wp.step f1 ?_
  simp only [bs, dExtract_tup, List.getElem?_cons_zero, List.getElem?_cons_succ, Option.bind_assoc]
  obtain ⟨dk2, dt2, f2, hdk2, hdt2, _, _⟩ := s28 ps dp hs dh now es de h1 hp (by omega) hh (by omega) he (by omega)
  refine Wp.step f2 ?_
  have hkl := kept_len ps hs now es
  have hev : ∀ e ∈ es, 1 ≤ e.ls.length ∧ e.ls.length ≤ 3 := fun e hm => ⟨(heo.1 e hm).1.n1, (heo.1 e hm).1.n3⟩
  have hevk : ∀ e ∈ keptE ps hs now es, 1 ≤ e.ls.length ∧ e.ls.length ≤ 3 := fun e hm => hev e (List.mem_filter.1 hm).1
  simp only [bs, dExtract_tup, List.getElem?_cons_zero, List.getElem?_cons_succ, Option.bind_assoc, s29r (keptE ps hs now es) dk dk2 h1 hdk hdk2 (by omega), s30r (talE ps hs now es) dt dt2 h1 hdt hdt2 (by omega), dUn_not, Bool.not_true, gd_bool, if_true, gdW_bool, dPick_bool, dIf_bool, Bool.false_eq_true, if_false]
  refine Wp.loop (fun n ds g => g = h1 ∧ ∃ x y z, ∃ i : Nat, ds = [x, .int .i64 i, y, z] ∧ n + i = 3)
    (fun r => r.1 = .ext 0) 2 ⟨rfl, _, _, _, 1, rfl, rfl⟩ ?_ ?_
  · rintro n ds g ⟨rfl, x, y, z, i, rfl, hi⟩
    simp only [F6_L0, nth_zero, nth_succ, bs, Option.bind_assoc, dBin_leq]
    refine Wp.dif ?_ ?_
    · intro h0
      have h0 : (i : Int) ≤ 2 := by simpa [-Option.bind_some] using h0
      have hw : IntKind.wrap .i64 ((i : Int) + 1) = ((i + 1 : Nat) : Int) := by
        rw [wrap_i64 (by omega) (by omega)]; omega
      obtain ⟨d1, g1, hd1⟩ := s32 (keptE ps hs now es) dk g hdk (by omega)
      obtain ⟨d2, g2, hd2⟩ := s32 es de g he (by omega)
      have t1 := (lines_sum i (keptE ps hs now es) [] 0 nil_TB (by omega) hevk).1
      have t2 := (lines_sum i es [] 0 nil_TB (by omega) hev).1
      have t3 := (tal_sum ps hs now i es [] 0 nil_TB (by omega) hev).1
      have q1 : (linesT (keptE ps hs now es)).length ≤ 0 + (keptE ps hs now es).length := linesT_len _ []
      have q2 : (linesT es).length ≤ 0 + es.length := linesT_len _ []
      have r1 := s31 (linesT (keptE ps hs now es)) d1 i g hd1 (by omega) t1 (by omega)
      have r2 := s31 (linesT es) d2 i g hd2 (by omega) t2 (by omega)
      have r3 := s31 (talE ps hs now es) dt i g hdt (by omega) t3 (by omega)
      have hc := conserved ps hs now i es (by omega) hev
      have b1 := sm_nH (i : Int) (l := linesT (keptE ps hs now es)) t1.1
      have b3 := sm_nH (i : Int) (l := talE ps hs now es) t3.1
      have u1 : sm nA (linesT (keptE ps hs now es)) ≤ 0 + 3 * (keptE ps hs now es).length := t1.2
      have u3 : sm nA (talE ps hs now es) ≤ 0 + 3 * es.length := t3.2
      have hw2 : IntKind.wrap .i64 (sm (nH i) (linesT (keptE ps hs now es)) + sm (nH i) (talE ps hs now es)) = sm (nH i) (linesT es) := by
        rw [wrap_i64 (by omega) (by omega)]; exact hc
      simp only [g1, g2, r1, r2, r3, bs, dBin_add, hw2, dBin_neq, ne_eq, not_true, decide_false, dIf_bool, Bool.false_eq_true, if_false, hw]
      exact .some (.inl ⟨rfl, n - 1, by omega, rfl, _, _, _, i + 1, rfl, by omega⟩)
    · intro _
      exact .some (.inr ⟨by simp [-Option.bind_some], rfl⟩)
  · rintro ⟨ex, ds, g⟩ q1
    simp only at q1
    subst q1
    simp only [unblk_self, toEnd_nrm, bs, mkRes_one]
    exact .some rfl
end Go.Proofs.Ytdoppnhopjdhmaa
