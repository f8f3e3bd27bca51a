/- Laws, on plain data, about functions that the statement reaches. -/
import Derived.Test.YteglojieneaojaaL5
set_option linter.unusedSimpArgs false
set_option linter.unusedVariables false
set_option linter.unnecessarySimpa false
set_option maxRecDepth 100000
namespace Go.Proofs.Yteglojieneaojaa
open Go.Eng Go.Pi
/-- The names of a table. -/
theorem d1174 {h : Hp} {o : Nat} (hc : CD h o) : ∃ ns dn h', R fn1174 [.ptr o 0 0] h = some (dn, h') ∧ CD h' o ∧ Same o h h' ∧ CtOK ns dn := by
  suffices Wp (R fn1174 [.ptr o 0 0] h) (fun p => CD p.2 o ∧ Same o h p.2 ∧ ∃ ns, CtOK ns p.1) by
    obtain ⟨⟨x, h'⟩, h1, h2, h3, ns, h4⟩ := this
    exact ⟨ns, x, h', h1, h2, h3, h4⟩
  have ok45 : ∀ s ∈ lt98_45, nmOK s := by unfold nmOK; decide
  have ok46 : ∀ s ∈ lt98_46, nmOK s := by unfold nmOK; decide
  rw [e1174]
  simp only [F1174, bs, Option.bind_assoc, lt98_45_ok]
  obtain ⟨v, h1, e1, c1, s1, v0, v1⟩ := next_b hc 5 (by omega) (by omega)
  obtain ⟨s, hs, hg⟩ := pick_of lt98_45 v v0 v1
  have S1 : St h o h1 := (St.refl hc).next c1 s1
  refine Wp.step e1 ?_
  simp only [bs, Option.bind_assoc]
  have hix : dIndexAddr tab ty98 (.sl 1 true (lt98_45.map fun s => [D.str s])) (.int .i64 v) = some (.fptr [.str s]) := by
    have := ixs98 (SlOf.mk 1 (fun s => [D.str s]) lt98_45 true) v
    rw [this, if_pos v0, hg]; rfl
  simp only [hix, str_ld, bs98_1, bs, Option.bind_assoc]
  obtain ⟨w, h2, e2, c2, s2, w0, w1⟩ := next_b S1.cd 2 (by omega) (by omega)
  have S2 := S1.next c2 s2
  refine Wp.step e2 ?_
  simp only [dBin_eql, bs]
  refine Wp.join (P := fun r => ∃ x g, ∃ ns : List Str, r = (.nrm, [x], g) ∧ St h o g ∧ (SlOf 1 (fun s => [D.str s]) ns x ∨ Own g h.length ty9 1 (ns.map fun s => [D.str s]) x) ∧ ns.length ≤ 2 ∧ ∀ n ∈ ns, nmOK n) ?_ ?_ ?_
  · intro _
    obtain ⟨u, h3, e3, c3, s3, hu⟩ := d1186 S2.cd
    have S3 := S2.next c3 s3
    refine Wp.step e3 ?_
    simp only [bs98_1, bs, Option.bind_assoc]
    obtain ⟨x', g, e4, l4, q4, o4⟩ := app_lit (T := tab) (t := ty98) (i := ti98) (j := ti9) (id rfl) (id rfl) (id rfl) (by decide) (h := h3) (rows := [[.str s]]) (y := .sl 1 true [[.str u]]) (ys := [[.str u]]) (rowsOf_sl _ _ _ _) (by rfl) (by simp [-Option.bind_some])
    have e4 : dAppend tab h3 ty98 ty98 (.sl 1 true [[.str s]]) (.sl 1 true [[.str u]]) = some (x', g) := e4
    simp only [e4, bs]
    refine .some ⟨x', g, [s, u], rfl, S3.app l4 fun q hq => q4 q (by have := S3.le; omega), .inr (o4.from S3.le), by simp [-Option.bind_some], fun n hn => ?_⟩
    simp [-Option.bind_some] at hn
    rcases hn with rfl | rfl
    · exact ok45 _ hs
    · exact ok46 _ hu
  · intro _
    exact .some ⟨_, _, [s], rfl, S2, .inl (.inr ⟨true, rfl⟩), by simp [-Option.bind_some], fun n hn => by simp [-Option.bind_some] at hn; subst hn; exact ok45 _ hs⟩
  · rintro r ⟨x, g, ns, rfl, S, hx, hl, hn⟩
    simp only [toEnd_nrm, bs, nth_zero, mkRes_one]
    have hs4 : SlOf 1 (fun s => [D.str s]) ns (frz h.length g 4 x) := by
      rcases hx with hx | hx
      · rw [str_frz _ _ 3 hx]; exact hx
      · exact own_sl hx (Nat.le_refl _) fun a _ y hy => by simp [-Option.bind_some] at hy; subst hy; exact frz_str _ _ _ _
    obtain ⟨h', e, cd, sm⟩ := S.scope (d := x) rfl (str_ok _ hs4)
    rw [e]
    exact .some ⟨cd, sm, ns, hs4, by omega, hn⟩
/-- What is drawn: names, events, a size, the codes. -/
theorem s1169 (zs : List Int) (d : D) (h : Hp) (hd : Given .u8 zs d) (hz : ∀ z ∈ zs, 0 ≤ z ∧ z < 256) : ∃ (ns : List Str) (l : List Ev) (dn dl : D) (sz : Int) (o : Nat) (h' : Hp), R fn1169 [d] h = some (.tup [dn, dl, .int .i64 sz, .ptr o 0 0], h') ∧ CD h' o ∧ CtOK ns dn ∧ SlOf 10 evr l dl ∧ EvsOK l ∧ l.length ≤ 600 ∧ 1 ≤ sz ∧ sz ≤ 5 := by
  obtain ⟨h0, e0, c0, l0⟩ := d44 zs d 500 h hd (by omega) (by omega) hz
  obtain ⟨ns, dn, h1, e1, c1, s1, C⟩ := d1174 c0
  obtain ⟨dl, h2, e2, c2, s2, l, hl, hok, hll⟩ := d48 c1 7 (by omega) (by omega)
  obtain ⟨v, h3, e3, c3, s3, v0, v1⟩ := next_b c2 5 (by omega) (by omega)
  have w : IntKind.wrap .i64 (1 + v) = 1 + v := wrap_i64 (by omega) (by omega)
  refine ⟨ns, l, dn, dl, 1 + v, h.length, h3, ?_, c3, C, hl, hok, hll, by omega, by omega⟩
  rw [e1169]
  simp only [F1169, bs, e0, e1, e2, e3, dBin_add, w]
  rfl
/-- Keys in order are different. -/
def KAsc (l : List (List Str × Int)) : Prop := l.Pairwise fun a b => kcmp a.1 b.1 < 0
theorem mgP_mem : ∀ (l : List (List Str × Int)) (x z : List Str × Int), z ∈ mgP l x → z.1 = x.1 ∨ ∃ y ∈ l, z.1 = y.1
  | [], x, z, h => by simp [-Option.bind_some, mgP] at h; subst h; exact .inl rfl
  | y :: r, x, z, h => by
    unfold mgP at h
    split at h
    · rcases List.mem_cons.1 h with rfl | h
      · exact .inr ⟨z, by simp [-Option.bind_some], rfl⟩
      · rcases mgP_mem r x z h with h | ⟨w, hw, h⟩
        · exact .inl h
        · exact .inr ⟨w, by simp [-Option.bind_some, hw], h⟩
    · split at h
      · rcases List.mem_cons.1 h with rfl | h
        · exact .inl rfl
        · exact .inr ⟨z, h, rfl⟩
      · rcases List.mem_cons.1 h with rfl | h
        · exact .inr ⟨y, by simp [-Option.bind_some], rfl⟩
        · exact .inr ⟨z, by simp [-Option.bind_some, h], rfl⟩
theorem mgP_asc : ∀ (l : List (List Str × Int)) (x : List Str × Int), KAsc l → KAsc (mgP l x)
  | [], x, _ => by simp [-Option.bind_some, mgP, KAsc]
  | y :: r, x, h => by
    have hr := List.pairwise_cons.1 h
    have ih := mgP_asc r x hr.2
    unfold mgP
    split
    · rename_i h1
      refine List.pairwise_cons.2 ⟨fun z hz => ?_, ih⟩
      rcases mgP_mem r x z hz with e | ⟨w, hw, e⟩
      · rw [e]; exact h1
      · rw [e]; exact hr.1 w hw
    · split
      · rename_i h1 h2
        have hxy : kcmp x.1 y.1 < 0 := by rw [kcmp_neg] ; omega
        refine List.pairwise_cons.2 ⟨fun z hz => ?_, h⟩
        rcases List.mem_cons.1 hz with rfl | hz
        · exact hxy
        · exact kcmp_tr hxy (hr.1 z hz)
      · exact List.pairwise_cons.2 ⟨fun z hz => hr.1 z hz, hr.2⟩
theorem cntE_asc (ns : List Str) (l : List Ev) : KAsc (cntE ns l) := by
  have : ∀ (l : List Ev) (c : List (List Str × Int)), KAsc c → KAsc (l.foldl (fun c e => mgP c (keyE ns e, e.a6)) c) := by
    intro l
    induction l with
    | nil => intro c h; exact h
    | cons e l ih => intro c h; exact ih _ (mgP_asc _ _ h)
  exact this l [] List.Pairwise.nil
theorem KAsc.nodup {l : List (List Str × Int)} (h : KAsc l) : (l.map Prod.fst).Nodup := by
  rw [List.Nodup, List.pairwise_map]
  exact h.imp fun {a b} hab he => by
    rw [he] at hab
    have := (kcmp_zero b.1 b.1).2 rfl
    omega
/-- The rows of counts. -/
theorem rows_facts {ns : List Str} {l : List Ev} {L : List Rw} (h : L.map rcont = (cntE ns l).map rowC) : (L.map Rw.k).Nodup ∧ ∀ r ∈ L, r.n ≠ [] := by
  constructor
  · have e : L.map Rw.k = (cntE ns l).map Prod.fst := by
      have := congrArg (List.map Prod.fst) h
      simpa [-Option.bind_some, rcont, rowC, Function.comp_def] using this
    rw [e]; exact (cntE_asc ns l).nodup
  · intro r hr
    have : rcont r ∈ (cntE ns l).map rowC := by rw [← h]; exact List.mem_map.2 ⟨r, hr, rfl⟩
    obtain ⟨c, _, hc⟩ := List.mem_map.1 this
    have : r.n = [c.2] := by
      have := congrArg (fun z : List Str × List Int × Int => z.2.1) hc
      exact this.symm
    rw [this]; simp [-Option.bind_some]
theorem ev_small {l : List Ev} (h : EvsOK l) : ∀ e ∈ l, 0 ≤ e.a0 ∧ e.a0 ≤ 9 ∧ FsOK e.fs := fun e he => by
  obtain ⟨h1, h2, h3, _⟩ := h.1 e he
  obtain ⟨_, _, _, _, _, _, h4, _⟩ := h1.ev rfl
  exact ⟨by omega, by omega, h4⟩
def rwa : Rw := ⟨[], .nils, .nils _ _, by simp [-Option.bind_some], [1], .sl 1 true [[.int .i64 1]], .inr ⟨true, rfl⟩, by simp [-Option.bind_some], 0⟩
def rwb : Rw := ⟨[[98]], .sl 1 true [[.str [98]]], .inr ⟨true, rfl⟩, by simp [-Option.bind_some], [2], .sl 1 true [[.int .i64 2]], .inr ⟨true, rfl⟩, by simp [-Option.bind_some], 0⟩
theorem s1168 (h : Hp) : R fn1168 [] h = some (.bool true, h) := by
  obtain ⟨C, d', e, hp, hs, hd⟩ := s1172 [rwa, rwb] (.sl 3 true [rowr rwa, rowr rwb]) 1 h (.inl (.inr ⟨true, rfl⟩)) (by simp [-Option.bind_some])
  have hE : [rwb, rwa].Pairwise rS := by
    refine List.pairwise_cons.2 ⟨fun x hx => ?_, by simp [-Option.bind_some]⟩
    simp [-Option.bind_some] at hx
    subst hx
    rw [rS_iff]
    left
    decide
  have hC : C = [rwb, rwa] := rS_uniq hs hE (hp.trans (List.Perm.swap _ _ _)) (by
    have := (hp.map Rw.k).nodup_iff
    rw [this]
    simp [-Option.bind_some, rwa, rwb])
  subst hC
  have hcut : cutN 1 ([rwa, rwb] : List Rw).length = 1 := by decide
  rw [hcut] at hd
  have hd : SlOf 3 rowr [rwb] d' := hd
  have hb1 : dBuild tab ty1146 [1] [.sl 1 true [[.int .i64 1]]] = some (.agg (rowr rwa)) := id rfl
  have hb2 : dBuild tab ty1146 [0, 1] [.sl 1 true [[.str [98]]], .sl 1 true [[.int .i64 2]]] = some (.agg (rowr rwb)) := id rfl
  have hl : pLitF tab ty1144 2 [0, 1] [.agg (rowr rwa), .agg (rowr rwb)] = some (.sl 3 true [rowr rwa, rowr rwb]) := bs1144_2 _ _ _ _ _ _
  have h1 : pLitF tab ty82 1 [0] [.int .i64 1] = some (.sl 1 true [[.int .i64 1]]) := id rfl
  have h2 : pLitF tab ty82 1 [0] [.int .i64 2] = some (.sl 1 true [[.int .i64 2]]) := id rfl
  have h3 : pLitF tab ty98 1 [0] [.str [98]] = some (.sl 1 true [[.str [98]]]) := id rfl
  have hix : dIndexAddr tab ty1144 d' (.int .i64 0) = some (.fptr (rowr rwb)) := by rw [ixs1144 hd]; rfl
  have hn : dLenT tab ty82 rwb.nd = some (.int .i64 1) := id rfl
  have hi : dIndexAddr tab ty82 rwb.nd (.int .i64 0) = some (.fptr [.int .i64 2]) := id rfl
  rw [e1168]
  simp only [F1168, bs, h1, h2, h3, hb1, hb2, hl, e, lens1144 hd, List.length_singleton, Int.natCast_one, dBin_eql, decide_true, gd_bool, if_true, hix, rwF1, rwL1, hn, dPick_bool, hi, inr_ld, mkRes_one]
/-- Both answers say the same. -/
theorem exact_same {l : List Rw} {C E : List Rw} (hn : (l.map Rw.k).Nodup) (c1 : C.Perm l) (c2 : C.Pairwise rS) (e1 : E.Perm l) (e2 : E.Pairwise rS) : C = E :=
  rS_uniq c2 e2 (c1.trans e1.symm) ((c1.map Rw.k).nodup_iff.2 hn)
theorem law1166 (zs : List Int) (d : D) (ms : List Int) (dm : D) (n : Int) (hd : Given .u8 zs d) (hz : ∀ z ∈ zs, 0 ≤ z ∧ z < 256) (hm : Given .i64 ms dm) : ∃ h', R fn1166 [d, dm, .int .i64 n] [] = some (.bool true, h') := by
  suffices Wp (R fn1166 [d, dm, .int .i64 n] []) (fun p => p.1 = .bool true) by
    obtain ⟨⟨x, h'⟩, h1, rfl⟩ := this
    exact ⟨h', h1⟩
  have hms : SlOf 1 inr ms dm := hm.imp id fun h => ⟨false, h⟩
  have fin : ∀ (g : Hp), scope [] g (.bool true) = some (.bool true, []) := fun g => scope_eq (by simp [-Option.bind_some]) (.bool _) (by simp [-Option.bind_some]) (fun q hq => by cases hq)
  rw [e1166]
  simp only [F1166, bs, s1168, dUn_not, Bool.not_true, gd_bool, if_true, lens82 hms, dBin_gtr, dPick_bool, Bool.false_eq_true, if_false]
  by_cases h100 : ms.length > 100
  · have d1 : decide ((ms.length : Int) > 100) = true := decide_eq_true (by omega)
    simp only [d1, dIf_bool, if_true, lens82 hms, bs, dBin_gtr, mkRes_one, fin]
    exact .some rfl
  have d1 : decide ((ms.length : Int) > 100) = false := decide_eq_false (by omega)
  simp only [d1, dIf_bool, Bool.false_eq_true, if_false, Option.bind_assoc]
  obtain ⟨ns, l, dn, dl, sz, o, g0, e0, c0, C, hl, hok, hll, _, _⟩ := s1169 zs d [] hd hz
  have ho := c0.lt
  simp only [e0, bs, dExtract_tup, List.getElem?_cons_zero, List.getElem?_cons_succ, Option.bind_assoc]
  refine Wp.loop (fun k ds g => ∃ x a, ∃ (i : Nat) (L : List Rw), ds = [x, .int .i64 (i : Int), a] ∧ k + i = ms.length ∧ CD g o ∧ g0.length ≤ g.length ∧ Own g g0.length ty1146 3 (L.map rowr) x ∧ L.length = i ∧ ∀ (j : Nat) r, L[j]? = some r → (∃ w, r.k = [w, [UInt8.ofNat j]]) ∧ r.n ≠ [])
    (fun r => r.1 = .ext 0 ∧ ∃ x, nth 0 r.2.1 = x ∧ ∃ L : List Rw, CD r.2.2 o ∧ g0.length ≤ r.2.2.length ∧ Own r.2.2 g0.length ty1146 3 (L.map rowr) x ∧ L.length ≤ 100 ∧ ∀ (j : Nat) r, L[j]? = some r → (∃ w, r.k = [w, [UInt8.ofNat j]]) ∧ r.n ≠ []) ms.length
    ⟨_, _, 0, [], rfl, rfl, c0, Nat.le_refl _, Own.nils _ _ _ _, rfl, fun j r hr => by simp [-Option.bind_some] at hr⟩ ?_ ?_
  · rintro k ds g ⟨x, a, i, L, rfl, hk, cd, hg, ow, hLl, hLk⟩
    simp only [F1166_L0, nth_zero, nth_succ, bs, Option.bind_assoc, lens82 hms, dBin_lss]
    refine Wp.dif ?_ ?_
    · intro h0
      have h0 : i < ms.length := by have : (i : Int) < ms.length := by simpa [-Option.bind_some] using h0
                                    omega
      obtain ⟨z, hzz⟩ : ∃ z, ms[i]? = some z := ⟨_, List.getElem?_eq_getElem h0⟩
      have hw : IntKind.wrap .i64 ((i : Int) + 1) = ((i + 1 : Nat) : Int) := by rw [wrap_i64 (by omega) (by omega)]; omega
      have hw8 : IntKind.wrap .u8 (i : Int) = (i : Int) := by rw [wrap_u8m]; omega
      obtain ⟨s, g1, e1, c1, s1, _⟩ := d102 cd
      have ts : ∀ g : Hp, dToStr g (.sl 1 true [[.int .u8 (i : Int)]]) = some (.str [UInt8.ofNat i]) := fun g => by simp [-Option.bind_some, dToStr, dRowsOf, dBytes]
      have l22 : pLitF tab ty22 1 [0] [.int .u8 (i : Int)] = some (.sl 1 true [[.int .u8 (i : Int)]]) := bs22_1 _
      have l98 : pLitF tab ty98 2 [0, 1] [.str s, .str [UInt8.ofNat i]] = some (.sl 1 true [[.str s], [.str [UInt8.ofNat i]]]) := id rfl
      have hix : dIndexAddr tab ty82 dm (.int .i64 (i : Int)) = some (.fptr [.int .i64 z]) := by rw [ixs82 hms]; simp [-Option.bind_some, hzz, inr]
      refine Wp.step e1 ?_
      simp only [cv3_5, hw8, l22, ts, l98, hix, inr_ld, bs, Option.bind_assoc]
      obtain ⟨v, g2, e2, c2, s2, _, _⟩ := d47 c1
      refine Wp.step e2 ?_
      have l82 : pLitF tab ty82 2 [0, 1] [.int .i64 z, .int .i64 v] = some (.sl 1 true [[.int .i64 z], [.int .i64 v]]) := id rfl
      have hrow : ∃ r : Rw, rowr r = [.sl 1 true [[.str s], [.str [UInt8.ofNat i]]], .sl 1 true [[.int .i64 z], [.int .i64 v]], .int .i64 0] ∧ r.k = [s, [UInt8.ofNat i]] ∧ r.n = [z, v] := ⟨⟨[s, [UInt8.ofNat i]], _, .inr ⟨true, rfl⟩, by simp [-Option.bind_some], [z, v], _, .inr ⟨true, rfl⟩, by simp [-Option.bind_some], 0⟩, rfl, rfl, rfl⟩
      obtain ⟨r, hr, hrk, hrn⟩ := hrow
      have hb : dBuild tab ty1146 [0, 1] [.sl 1 true [[.str s], [.str [UInt8.ofNat i]]], .sl 1 true [[.int .i64 z], [.int .i64 v]]] = some (.agg (rowr r)) := by rw [hr]; exact bd1146_0_1 _ _ rfl rfl
      have hlit : pLitF tab ty1144 1 [0] [.agg (rowr r)] = some (.sl 3 true [rowr r]) := bs1144_1 _ _ _
      simp only [l82, hb, hlit, bs, Option.bind_assoc]
      have ow2 := (ow.same s1 ho).same s2 ho
      refine wap1144 (n0 := g0.length) (by rw [s2.1, s1.1]; exact hg) ow2 (rowsOf_sl _ _ _ _) (by simp only [List.length_map, List.length_cons, List.length_nil]; omega) fun x3 g3 o3 l3 b3 _ _ => ?_
      have hmap : L.map rowr ++ [rowr r] = (L ++ [r]).map rowr := by simp [-Option.bind_some]
      rw [hmap] at o3
      simp only [ts, inr_ld, chk_true, bs, dBin_add, hw]
      refine .some (.inl ⟨rfl, k - 1, by omega, _, _, i + 1, L ++ [r], rfl, by omega, c2.keep (b3 o ho), by show g0.length ≤ g3.length; have := s2.1; have := s1.1; omega, o3, by simp [-Option.bind_some, hLl], fun j r' hj => ?_⟩)
      by_cases hji : j < L.length
      · rw [List.getElem?_append_left hji] at hj
        exact hLk j r' hj
      · rw [List.getElem?_append_right (by omega)] at hj
        have hj0 : j = i := by
          have := (List.getElem?_eq_some_iff.1 hj).1
          simp [-Option.bind_some] at this; omega
        subst hj0
        rw [hLl, Nat.sub_self] at hj
        simp [-Option.bind_some] at hj
        subst hj
        exact ⟨⟨s, hrk⟩, by rw [hrn]; simp [-Option.bind_some]⟩
    · intro h0
      exact .some (.inr ⟨by simp [-Option.bind_some], rfl, _, rfl, L, cd, hg, ow, by omega, hLk⟩)
  · rintro ⟨ex, ds, g⟩ ⟨rfl, x, hx0, L, cd, hg, ow, hLl, hLk⟩
    replace hx0 : nth 0 ds = x := hx0
    simp only [unblk_self, toEnd_nrm, bs, nth_zero, hx0, Option.bind_assoc]
    have hnd : (L.map Rw.k).Nodup := by
      rw [List.Nodup, List.pairwise_iff_getElem]
      intro i j hi hj hij he
      simp only [List.length_map] at hi hj
      simp only [List.getElem_map] at he
      obtain ⟨⟨w1, k1⟩, _⟩ := hLk i L[i] (List.getElem?_eq_getElem hi)
      obtain ⟨⟨w2, k2⟩, _⟩ := hLk j L[j] (List.getElem?_eq_getElem hj)
      rw [k1, k2] at he
      simp only [List.cons.injEq, and_true] at he
      have h1 := congrArg UInt8.toNat he.2
      simp [-Option.bind_some] at h1
      omega
    have hnn : ∀ r ∈ L, r.n ≠ [] := fun r hr => by
      obtain ⟨j, hj⟩ := List.getElem?_of_mem hr
      exact (hLk j r hj).2
    have hRd : RdR g L x := RdR.own ow
    obtain ⟨M, dM, e1, m1, m2, m3⟩ := s1170 C l dl g hl (by omega) (ev_small hok)
    obtain ⟨mn, mk⟩ := rows_facts m2
    refine Wp.step e1 ?_
    simp only [bs, Option.bind_assoc]
    obtain ⟨v, g1, e2, c2, s2, v0, v1⟩ := next_b cd 6 (by omega) (by omega)
    refine Wp.step e2 ?_
    have hRd1 : RdR g1 L x := RdR.own (ow.same s2 ho)
    obtain ⟨C1, d1', f1, p1, q1, r1⟩ := s1172 L x n g1 hRd1 (by omega)
    obtain ⟨C2, d2', f2, p2, q2, r2⟩ := s1173 L x n g1 hRd1 (by omega) hnn
    have e12 := exact_same hnd p1 q1 p2 q2
    subst e12
    have t1 := s1171 _ _ d1' d2' g1 r1 r2 rfl (by have := p1.length_eq; simp [-Option.bind_some]; omega)
    obtain ⟨C3, d3', f3, p3, q3, r3⟩ := s1172 M dM v g1 (.inl m1) (by omega)
    obtain ⟨C4, d4', f4, p4, q4, r4⟩ := s1173 M dM v g1 (.inl m1) (by omega) mk
    have e34 := exact_same mn p3 q3 p4 q4
    subst e34
    have t2 := s1171 _ _ d3' d4' g1 r3 r4 rfl (by have := p3.length_eq; simp [-Option.bind_some]; omega)
    simp only [f1, f2, t1, bs, gd_bool, gdW_bool, if_true, f3, f4, t2, dPick_bool, mkRes_one, fin]
    exact .some rfl
end Go.Proofs.Yteglojieneaojaa
