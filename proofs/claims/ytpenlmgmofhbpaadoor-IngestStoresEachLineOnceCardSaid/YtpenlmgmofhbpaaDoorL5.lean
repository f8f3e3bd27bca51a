/- Laws, on plain data, about functions that the statement reaches. -/
import Derived.Test.YtpenlmgmofhbpaaDoorL4
set_option linter.unusedSimpArgs false
set_option linter.unusedVariables false
set_option linter.unnecessarySimpa false
set_option maxRecDepth 100000
namespace Go.Proofs.YtpenlmgmofhbpaaDoor
open Go.Eng Go.Pi
theorem b1088 {h : Hp} {o : Nat} {host most : Int} {ps : List (List It × D)} {qa : Nat} {x dps : D} {bt : List (List It × D × Int)} {pb : Nat} {nu : Int} {g : Hp} {ats : List Nat} {its : List It} {y : D} (L : BtL h o qa pb x bt)
    (hps : SlOf 1 (fun p : List It × D => [p.2]) ps dps) (hf : FilesOK host most (SlOf 11 itr) ps) (hn1 : 1 ≤ ps.length) (hn3 : ps.length ≤ 3) (hm : most ≤ 100) (h0 : 0 ≤ host) (h9 : host ≤ 999)
    (b : BnI h o host ps qa x bt pb nu g ats its y) (hl : its.length ≤ 100) (p11 : D × Hp) (hp : p11.1 = .ptr pb 0 0) (k : Nat) (hk : 0 < k) (hk2 : k ≤ 100) (a1 a2 a3 a4 a5 a6 a7 a8 a9 : D) :
    Wp (F1088_L1 (.ptr o 0 0) dps (.msl 1 qa 0 ps.length) p11 [.int .i64 k, a1, a2, a3, a4, a5, a6, a7, a8, a9] g) (fun r => ∃ g' ats' its' y' c1 c2 c3 c4 c5 c6 c7 c8 c9, r = (.nrm, [.int .i64 ((k - 1 : Nat) : Int), c1, c2, c3, c4, c5, c6, c7, c8, c9], g') ∧ BnI h o host ps qa x bt pb nu g' ats' its' y' ∧ its'.length ≤ its.length + 1) := by
  have hk' : (0 : Int) < (k : Int) := by omega
  have hw : IntKind.wrap .i64 ((k : Int) - 1) = ((k - 1 : Nat) : Int) := by
    rw [wrap_i64 (by omega) (by omega)]; omega
  simp only [F1088_L1, nth_zero, nth_succ, bs, Option.bind_assoc, dBin_gtr, hk', decide_true, dIf_bool, if_true, lens111 hps, hp]
  obtain ⟨v, g1, e1, c1, s1, v0, v1⟩ := next_b b.B.cd ps.length (by omega) (by omega)
  refine Wp.step e1 ?_
  have b1 := b.next L c1 s1
  obtain ⟨f, rfl⟩ := Int.eq_ofNat_of_zero_le v0
  have hfl : f < ps.length := by omega
  obtain ⟨a, ha⟩ : ∃ a, ats[f]? = some a := ⟨_, List.getElem?_eq_getElem (by rw [b.B.al]; exact hfl)⟩
  obtain ⟨p, hpf⟩ : ∃ p, ps[f]? = some p := ⟨_, List.getElem?_eq_getElem hfl⟩
  obtain ⟨hpd, hpl, po, hit⟩ := hf f p hpf
  have hab := b.B.ab f a p ha hpf
  have ix := ix_at (qa := qa) (n := ps.length) b1.B.at_ b1.B.al ha
  have hmem : dIndexAddr tab ty111 dps (.int .i64 (f : Int)) = some (.fptr [p.2]) := by rw [ixs111 hps]; simp [-Option.bind_some, hpf]
  simp only [ix.1, ix.2, hmem, ld113, lens113 hpd, bs, dBin_geq]
  refine Wp.join (P := fun r => ∃ g' ats' its' y' c1 c2 c3 c4 c5 c6 c7 c8, r = (.nrm, [c1, c2, c3, c4, c5, c6, c7, c8], g') ∧ BnI h o host ps qa x bt pb nu g' ats' its' y' ∧ its'.length ≤ its.length + 1) ?_ ?_ ?_
  · intro _
    exact .some ⟨g1, ats, its, y, _, _, _, _, _, _, _, _, rfl, b1, by omega⟩
  · intro hlt
    have hlt : a < p.1.length := by have : ¬ (p.1.length : Int) ≤ (a : Int) := by simpa [-Option.bind_some] using hlt
                                    omega
    obtain ⟨i, hi⟩ : ∃ i, p.1[a]? = some i := ⟨_, List.getElem?_eq_getElem hlt⟩
    obtain ⟨fr, hio, hfr0, hfr1, _⟩ := items_get host _ p.1 0 po hit a i hi
    have hBi : BIt host i := bit_of hio h0 h9 (by omega) (by omega) hfr0 (by omega)
    have hii : dIndexAddr tab ty113 p.2 (.int .i64 (a : Int)) = some (.fptr (itr i)) := by rw [ixs113 hpd]; simp [-Option.bind_some, hi]
    simp only [hii, ldIt, bs]
    generalize hZ : ([.str [], .int .i64 0, .int .i64 0, .int .i64 0, .int .i64 0, .nils, .int .i64 0, .int .i64 0, .str [], .str [], .nils] : List D) = Z
    have hZl : Z.length = 11 := by subst hZ; rfl
    have hold : ∀ q, q < g1.length → (dNew g1 ty74 11 [Z])[q]? = g1[q]? := fun q hq => dNew_old _ _ _ _ hq
    have hzz : (dNew g1 ty74 11 [Z])[g1.length]? = some (.row ty74 11 [Z]) := dNew_get _ _ _ _
    have hzl : (dNew g1 ty74 11 [Z]).length = g1.length + 1 := by simp [-Option.bind_some, dNew]
    have b2 := b1.new L (g' := dNew g1 ty74 11 [Z]) (by omega) hold
    have hzy : ¬ y.inOb g1.length := fun hh => by have := (b1.ow.lt hh).2; omega
    have hzp : pb < g1.length := b1.pg
    generalize dNew g1 ty74 11 [Z] = g2 at hzz hzl b2
    generalize hzg : List.length g1 = z at hzz hzl hzy hzp
    clear hold
    have ix2 := ix_at (qa := qa) (n := ps.length) b2.B.at_ b2.B.al ha
    simp only [ix2.2]
    refine Wp.chk trivial (Wp.chk trivial (Wp.chk trivial ?_))
    refine put_it hzz hZl fun g3 hz3 s3 => ?_
    have b3 := b2.put L hzp hzy s3
    have hl3 : g3.length = z + 1 := by rw [s3.1, hzl]
    try simp only [bs]
    obtain ⟨u, g4, e4, c4, s4, u0, u1⟩ := next_b b3.B.cd 8 (by omega) (by omega)
    refine Wp.step e4 ?_
    have b4 := b3.next L c4 s4
    have hoz : z ≠ o := by have := L.hh; have := L.ho; omega
    have hz4 := (s4.2 z hoz).trans hz3
    have hl4 : g4.length = z + 1 := by rw [s4.1, hl3]
    have ix4 := ix_at (qa := qa) (n := ps.length) b4.B.at_ b4.B.al ha
    simp only [dBin_eql, bs]
    refine Wp.join (P := fun r => (∃ g' i' c1 c2, r = (.nrm, [c1, c2], g') ∧ BnI h o host ps qa x bt pb nu g' ats its y ∧ g'[z]? = some (.row ty74 11 [itr i']) ∧ BIt host i' ∧ g'.length = z + 1) ∨ (∃ g' i' y' c1 c2, r = (.ext 3, [c1, c2], g') ∧ BnI h o host ps qa x bt pb nu g' ats (its ++ [i']) y')) ?_ ?_ ?_
    · intro _
      simp only [ix4.1, ix4.2, bs, dBin_gtr]
      refine Wp.join (P := fun r => ∃ g' i', r = (.nrm, [], g') ∧ BnI h o host ps qa x bt pb nu g' ats its y ∧ g'[z]? = some (.row ty74 11 [itr i']) ∧ BIt host i' ∧ g'.length = z + 1) ?_ ?_ ?_
      · intro ha0
        have ha0 : 0 < a := by have : (0 : Int) < (a : Int) := by simpa [-Option.bind_some] using ha0
                               omega
        have hw2 : IntKind.wrap .i64 ((a : Int) - 1) = ((a - 1 : Nat) : Int) := by
          rw [wrap_i64 (by omega) (by omega)]; omega
        obtain ⟨ib, hib⟩ : ∃ i, p.1[a - 1]? = some i := ⟨_, List.getElem?_eq_getElem (by omega)⟩
        obtain ⟨fb, hbo, hfb0, hfb1, hnx⟩ := items_get host _ p.1 0 po hit (a - 1) ib hib
        have hio2 := hnx i (by rw [show a - 1 + 1 = a by omega]; exact hi)
        have hib2 : dIndexAddr tab ty113 p.2 (.int .i64 ((a - 1 : Nat) : Int)) = some (.fptr (itr ib)) := by rw [ixs113 hpd]; simp [-Option.bind_some, hib]
        have n1 := hbo.n1
        have n3 := hbo.n3
        have n5 := hio2.n3
        obtain ⟨j, ej, hj⟩ := s1093 ib i g4 (by omega) (by omega) n1
        have hBj : BIt host j := bit_tog hbo hio2 rfl h0 h9 (by omega) (by omega) hfb0 (by omega) hj
        simp only [dBin_sub, hw2, bs, hib2, ldIt, ldIt0 hz4, hmem, ld113]
        refine Wp.step ej ?_
        simp only [bs]
        refine put_it hz4 rfl fun g5 hz5 s5 => ?_
        try simp only [bs]
        exact .some ⟨g5, j, rfl, b4.put L hzp hzy s5, hz5, hBj, by rw [s5.1, hl4]⟩
      · intro _
        exact .some ⟨g4, i, rfl, b4, hz4, hBi, hl4⟩
      rintro _ ⟨g', i', rfl, b', hz', hB', hl'⟩
      simp only [bs]
      exact .some (.inl ⟨g', i', _, _, rfl, b', hz', hB', hl'⟩)
    · intro _
      refine Wp.dif ?_ ?_
      · intro _
        have hw2 : IntKind.wrap .i64 ((a : Int) + 1) = ((a + 1 : Nat) : Int) := by
          rw [wrap_i64 (by omega) (by omega)]; omega
        have hw3 : IntKind.wrap .i64 ((p.1.length : Int) - 1) = ((p.1.length - 1 : Nat) : Int) := by
          rw [wrap_i64 (by omega) (by omega)]; omega
        obtain ⟨c, hmc, hc⟩ : ∃ c : Nat, dMin (.int .i64 ((a + 1 : Nat) : Int)) (.int .i64 ((p.1.length - 1 : Nat) : Int)) = some (.int .i64 c) ∧ c < p.1.length := by
          rw [dMin_int]
          split
          · exact ⟨a + 1, rfl, by omega⟩
          · exact ⟨p.1.length - 1, rfl, by omega⟩
        obtain ⟨ib, hib⟩ : ∃ i, p.1[c]? = some i := ⟨_, List.getElem?_eq_getElem hc⟩
        obtain ⟨fb, hbo, hfb0, hfb1, hnx⟩ := items_get host _ p.1 0 po hit c ib hib
        have hBb : BIt host ib := bit_of hbo h0 h9 (by omega) (by omega) hfb0 (by omega)
        have hib2 : dIndexAddr tab ty113 p.2 (.int .i64 (c : Int)) = some (.fptr (itr ib)) := by rw [ixs113 hpd]; simp [-Option.bind_some, hib]
        simp only [ix4.1, ix4.2, bs, hmem, ld113, lens113 hpd, dBin_add, dBin_sub, hw2, hw3, hmc, hib2, ldIt]
        refine put_it hz4 rfl fun g5 hz5 s5 => ?_
        have b5 := b4.put L hzp hzy s5
        try simp only [bs]
        refine app_it b5 L (by omega) hz5 hBb fun g6 y6 b6 => ?_
        try simp only [bs]
        exact .some (.inr ⟨g6, ib, y6, _, _, rfl, b6⟩)
      · intro _
        exact .some (.inl ⟨g4, i, _, _, rfl, b4, hz4, hBi, hl4⟩)
    rintro _ (⟨g', i', d1, d2, rfl, b', hz', hB', hl'⟩ | ⟨g', i', y', d1, d2, rfl, b'⟩)
    · simp only [unblk_nrm, toEnd_nrm, nth_zero, nth_succ, Option.bind_assoc, bs]
      refine app_it b' L (by omega) hz' hB' fun g6 y6 b6 => ?_
      try simp only [bs]
      obtain ⟨w, g7, e7, c7, s7, w0, w1⟩ := next_b b6.B.cd 4 (by omega) (by omega)
      refine Wp.step e7 ?_
      have b7 := b6.next L c7 s7
      simp only [dBin_gtr, bs]
      refine Wp.join (P := fun r => ∃ g' ats', r = (.nrm, [], g') ∧ BnI h o host ps qa x bt pb nu g' ats' (its ++ [i']) y6) ?_ ?_ ?_
      · intro _
        have ix7 := ix_at (qa := qa) (n := ps.length) b7.B.at_ b7.B.al ha
        have hw2 : IntKind.wrap .i64 ((a : Int) + 1) = ((a + 1 : Nat) : Int) := by
          rw [wrap_i64 (by omega) (by omega)]; omega
        simp only [ix7.1, ix7.2, bs, dBin_add, hw2, Option.bind_assoc]
        have hrow : (ats.map atR)[f]? = some (atR a) := by rw [List.getElem?_map, ha]; rfl
        refine wst3 b7.B.at_ hrow (by rfl) (by simp [-Option.bind_some, atR]) (by rfl) fun g8 q8 s8 => ?_
        have hset : (ats.map atR).set f (spl (atR a) 0 (cells1 (.int .i64 ((a + 1 : Nat) : Int)))) = (ats.set f (a + 1)).map atR := by
          rw [List.map_set]; rfl
        rw [hset] at q8
        try simp only [bs]
        have lh := L.hh
        have lo := L.ho
        have lq := L.hqa
        have q0 := b7.B.qa0
        refine .some ⟨g8, ats.set f (a + 1), rfl, ⟨⟨by have := b7.B.len; have := s8.1; omega, fun q hq hn => (s8.2 q (by omega)).trans (b7.B.gr q hq hn), b7.B.cd.keep (s8.2 o (by omega)), q0, q8, by rw [List.length_set]; exact b7.B.al, fun f' n' p' hn' hp' => ?_, b7.B.out.keep fun q hq hin => s8.2 q ?_, fun p' hp' => ⟨(b7.B.its p' hp').1.keep fun q hq hin => s8.2 q ?_, (b7.B.its p' hp').2⟩⟩, by have := b7.pg; have := s8.1; omega, (s8.2 pb (by omega)).trans b7.pr, b7.ow.keep fun q hq hin => s8.2 q (by omega), b7.ok⟩⟩
        · rw [List.getElem?_set] at hn'
          split at hn'
          · rename_i hff
            subst hff
            split at hn'
            · injection hn' with hn'
              rw [hpf] at hp'
              injection hp' with hp'
              subst hp'
              omega
            · cases hn'
          · exact b7.B.ab f' n' p' hn' hp'
        · rcases b7.B.out with ⟨hx, _⟩ | ⟨ob, _, hx, hg⟩
          · rw [hx] at hin; obtain ⟨_, _, hin⟩ := hin; cases hin
          · rw [hx] at hin
            obtain ⟨_, _, hin⟩ := hin
            injection hin with _ hin
            subst hin
            rintro rfl
            have e := hg.symm.trans b7.B.at_
            injection e with e
            injection e with e
            exact absurd e (by decide)
        · rcases (b7.B.its p' hp').1 with ⟨hx, _⟩ | ⟨ob, _, hx, hg⟩
          · rw [hx] at hin; obtain ⟨_, _, hin⟩ := hin; cases hin
          · rw [hx] at hin
            obtain ⟨_, _, hin⟩ := hin
            injection hin with _ hin
            subst hin
            rintro rfl
            have e := hg.symm.trans b7.B.at_
            injection e with e
            injection e with e
            exact absurd e (by decide)
      · intro _
        exact .some ⟨g7, ats, rfl, b7⟩
      rintro _ ⟨g', ats', rfl, b'⟩
      simp only [unblk_nrm]
      exact .some ⟨g', ats', _, y6, _, _, _, _, _, _, _, _, rfl, b', by simp [-Option.bind_some]⟩
    · have hu : unblk 4 (.ext 3) = .ext 3 := by simp [-Option.bind_some, unblk]
      simp only [hu, toEnd_ext, unblk_self, nth_zero, nth_succ]
      exact .some ⟨g', ats, _, y', _, _, _, _, _, _, _, _, rfl, b', by simp [-Option.bind_some]⟩
  rintro _ ⟨g', ats', its', y', d1, d2, d3, d4, d5, d6, d7, d8, rfl, b', hl'⟩
  simp only [toEnd_nrm, nth_zero, nth_succ, dBin_sub, bs, hw]
  exact .some ⟨g', ats', its', y', _, _, _, _, _, _, _, _, _, rfl, b', hl'⟩
/-- A batch. -/
structure Bat where
  hs : Int
  nu : Int
  its : List It
  d : D
  hd : SlOf 11 itr its d
def batr (b : Bat) : List D := [.int .i64 b.hs, .int .i64 b.nu, b.d]
structure BatOK (host : Int) (b : Bat) : Prop where
  hs : b.hs = host
  n3 : b.its.length ≤ 3
  it : ∀ i ∈ b.its, BIt host i
theorem batr_oks (n : Nat) (b : Bat) : ∀ d ∈ batr b, Ok n d := by
  intro d hd
  simp [-Option.bind_some, batr] at hd
  rcases hd with rfl | rfl | rfl
  · constructor
  · constructor
  · exact slof_ok b.hd fun i _ => itr_oks _ i
/-- Objects of rows of different things are different. -/
theorem row_ne {g : Hp} {a b T z T' z' : Nat} {r r' : List (List D)} (ha : g[a]? = some (.row T z r)) (hb : g[b]? = some (.row T' z' r')) (hn : T ≠ T') : a ≠ b := by
  rintro rfl
  have e := ha.symm.trans hb
  injection e with e
  injection e with e
  exact hn e
theorem own_ne {g : Hp} {b n e z T' z' : Nat} {rows r' : List (List D)} {d : D} (ha : Own g n e z rows d) (hb : g[b]? = some (.row T' z' r')) (hn : e ≠ T') : ¬ d.inOb b := by
  rintro ⟨z1, n1, hin⟩
  rcases ha with ⟨hx, _⟩ | ⟨ob, _, hx, hg⟩
  · rw [hx] at hin; cases hin
  · rw [hx] at hin
    injection hin with _ hin
    exact row_ne hg hb hn hin
theorem app_bt {h : Hp} {o : Nat} {host : Int} {ps : List (List It × D)} {qa : Nat} {g : Hp} {x : D} {bt : List (List It × D × Int)} {ats : List Nat} (B : BtI h o host ps qa g x bt ats) (ho : o < h.length) (hl : bt.length ≤ 1000) (p : List It × D × Int)
    (hp : Own g h.length ty74 11 (p.1.map itr) p.2.1 ∧ p.1.length ≤ 3 ∧ ∀ i ∈ p.1, BIt host i) {β : Type} {f : D × Hp → Option β} {Q : β → Prop} (k : ∀ x' g', BtI h o host ps qa g' x' (bt ++ [p]) ats → (∀ q, x'.inOb q → x.inOb q ∨ g.length ≤ q) → g.length ≤ g'.length → Wp (f (x', g')) Q) :
    Wp ((dAppend tab g ty1059 ty1059 x (.sl 3 true [bRow host p])).bind f) Q := by
  refine wap1059 B.len B.out (rowsOf_sl _ _ _ _) (by simp [-Option.bind_some]; omega) fun x' g' ow len bel keep fre => k x' g' ?_ fre len
  have qal := (List.getElem?_eq_some_iff.1 B.at_).1
  refine ⟨Nat.le_trans B.len len, fun q hq hn => (bel q hq).trans (B.gr q hq hn), B.cd.keep (bel o ho), B.qa0, (keep qa qal (own_ne B.out B.at_ (by decide))).trans B.at_, B.al, B.ab, ?_, fun p' hp' => ?_⟩
  · rw [List.map_append]; exact ow
  · have kp : ∀ p' : List It × D × Int, Own g h.length ty74 11 (p'.1.map itr) p'.2.1 → Own g' h.length ty74 11 (p'.1.map itr) p'.2.1 := fun p' w => w.keep fun q hq hin => keep q (w.lt hin).2 (own_dis w B.out (by decide) hin)
    rcases List.mem_append.1 hp' with hm | hm
    · exact ⟨kp _ (B.its p' hm).1, (B.its p' hm).2⟩
    · simp only [List.mem_singleton] at hm
      subst hm
      exact ⟨kp _ hp.1, hp.2⟩
theorem BtI.same {h : Hp} {o : Nat} {host : Int} {ps : List (List It × D)} {qa : Nat} {g g' : Hp} {x : D} {bt : List (List It × D × Int)} {ats : List Nat} (B : BtI h o host ps qa g x bt ats) (ho : o < h.length) (hcd : CD g' o) (hs : Same o g g') : BtI h o host ps qa g' x bt ats := by
  have h1 := B.qa0
  exact ⟨by rw [hs.1]; exact B.len, fun q hq hn => (hs.2 q hn).trans (B.gr q hq hn), hcd, B.qa0, (hs.2 qa (by omega)).trans B.at_, B.al, B.ab, B.out.same hs ho, fun p hp => ⟨(B.its p hp).1.same hs ho, (B.its p hp).2⟩⟩
theorem bats_of {h g : Hp} {host : Int} : ∀ (bt : List (List It × D × Int)), (∀ p ∈ bt, Own g h.length ty74 11 (p.1.map itr) p.2.1 ∧ p.1.length ≤ 3 ∧ ∀ i ∈ p.1, BIt host i) →
    ∃ l : List Bat, l.map batr = (bt.map (bRow host)).map (fun row => row.map (frz h.length g 3)) ∧ l.length = bt.length ∧ ∀ b ∈ l, BatOK host b
  | [], _ => ⟨[], rfl, rfl, by simp [-Option.bind_some]⟩
  | p :: r, hp => by
    obtain ⟨l, h1, h2, h3⟩ := bats_of r fun q hq => hp q (by simp [-Option.bind_some, hq])
    obtain ⟨ow, hl, hi⟩ := hp p (by simp [-Option.bind_some])
    have hsl := own_sl (n0 := h.length) (n := 2) ow (Nat.le_refl _) (fun a _ => itr_frz _ g 1 a)
    refine ⟨⟨host, p.2.2, p.1, _, hsl⟩ :: l, ?_, by simp [-Option.bind_some, h2], fun b hb => ?_⟩
    · simp only [List.map_cons, h1]
      simp [-Option.bind_some, batr, bRow]
    · rcases List.mem_cons.1 hb with rfl | hb
      · exact ⟨rfl, hl, hi⟩
      · exact h3 b hb
theorem mk82 (g : Hp) (n : Nat) (hn : n ≤ 100) : dMake tab g ty82 (.int .i64 n) (.int .i64 n) = some (.msl 1 g.length 0 n, dNew g ty3 1 ((List.replicate n 0).map atR)) := by
  have h1 : tab ty82 = some ti82 := id rfl
  have h2 : ti82.td = .sl ty3 := id rfl
  have h3 : tab ty3 = some ti3 := id rfl
  have h4 : ti3.sz = 1 := id rfl
  have h5 : ti3.zero = atR 0 := id rfl
  have h6 : lim n ti3.by_ = true := lim_ok (by have : ti3.by_ = 8 := rfl; rw [this]; omega) (by omega)
  have h7 : (0 : Int) ≤ (n : Int) := by omega
  simp [-Option.bind_some, dMake, h1, h2, h3, h4, h5, h6]
theorem d1088 {h : Hp} {o : Nat} (hc : CD h o) (host most : Int) (h0 : 0 ≤ host) (h9 : host ≤ 999) (hm0 : 0 ≤ most) (hm1 : most ≤ 100) : ∃ x h', R fn1088 [.ptr o 0 0, .int .i64 host, .int .i64 most] h = some (x, h') ∧ CD h' o ∧ Same o h h' ∧ ∃ l : List Bat, SlOf 3 batr l x ∧ 1 ≤ l.length ∧ l.length ≤ 24 ∧ ∀ b ∈ l, BatOK host b := by
  suffices Wp (R fn1088 [.ptr o 0 0, .int .i64 host, .int .i64 most] h) (fun p => CD p.2 o ∧ Same o h p.2 ∧ ∃ l : List Bat, SlOf 3 batr l p.1 ∧ 1 ≤ l.length ∧ l.length ≤ 24 ∧ ∀ b ∈ l, BatOK host b) by
    obtain ⟨⟨x, h'⟩, h1, h2⟩ := this
    exact ⟨x, h', h1, h2⟩
  have ho := hc.lt
  rw [e1088]
  simp only [F1088, bs, Option.bind_assoc]
  obtain ⟨dps, g0, e0, c0, s0, ps, hps, hn3, hn1, hf⟩ := d71n hc host most hm0 hm1
  refine Wp.step e0 ?_
  simp only [lens111 hps, mk82 g0 ps.length (by omega), bs]
  have hg0 : g0.length = h.length := s0.1
  have B0 : BtI h o host ps g0.length (dNew g0 ty3 1 ((List.replicate ps.length 0).map atR)) .nils [] (List.replicate ps.length 0) := by
    refine ⟨by simp [-Option.bind_some, dNew]; omega, fun q hq hn => ?_, c0.keep (dNew_old _ _ _ _ (by omega)), by omega, dNew_get _ _ _ _, by simp [-Option.bind_some], fun f n p hn hp => ?_, Own.nils _ _ _ _, by simp [-Option.bind_some]⟩
    · rw [dNew_old _ _ _ _ (by omega)]; exact s0.2 q hn
    · have := List.mem_of_getElem? hn
      simp [-Option.bind_some] at this
      omega
  generalize hqa : g0.length = qa at B0
  generalize dNew g0 ty3 1 ((List.replicate ps.length 0).map atR) = g1 at B0
  generalize List.replicate ps.length 0 = ats0 at B0
  refine Wp.loop (fun k ds g => ∃ x a2 a3 a4 a5 a6 a7 a8 a9 b1 b2 b3 b4 b5 bt ats, ∃ n : Nat, ds = [x, .int .i64 n, a2, a3, a4, a5, a6, a7, a8, a9, b1, b2, b3, b4, b5] ∧ k + n = 12 ∧ BtI h o host ps qa g x bt ats ∧ bt.length ≤ 2 * n ∧ n ≤ bt.length)
    (fun r => ∃ x a1 a2 a3 a4 a5 a6 a7 a8 a9 b1 b2 b3 b4 b5 bt ats, r.1 = .ext 0 ∧ r.2.1 = [x, a1, a2, a3, a4, a5, a6, a7, a8, a9, b1, b2, b3, b4, b5] ∧ BtI h o host ps qa r.2.2 x bt ats ∧ 1 ≤ bt.length ∧ bt.length ≤ 24) 12
    ⟨_, _, _, _, _, _, _, _, _, _, _, _, _, _, [], ats0, 0, rfl, rfl, B0, by simp [-Option.bind_some], by simp [-Option.bind_some]⟩ ?_ ?_
  · rintro k ds g ⟨x, a2, a3, a4, a5, a6, a7, a8, a9, b1, b2, b3, b4, b5, bt, ats, n, rfl, hk, B, hbl, hbn⟩
    simp only [F1088_L0, nth_zero, nth_succ, bs, Option.bind_assoc, dBin_lss]
    refine Wp.dif ?_ ?_
    · intro hlt
      have hlt : n < 12 := by have : (n : Int) < 12 := by simpa [-Option.bind_some] using hlt
                              omega
      have hwn : IntKind.wrap .i64 ((n : Int) + 1) = ((n + 1 : Nat) : Int) := by
        rw [wrap_i64 (by omega) (by omega)]; omega
      simp only [bd1064_0_1, bs]
      have hgl := B.len
      have hold : ∀ q, q < g.length → (dNew g ty1064 3 [[.int .i64 0, .int .i64 0, .nils]])[q]? = g[q]? := fun q hq => dNew_old _ _ _ _ hq
      have hzz : (dNew g ty1064 3 [[.int .i64 0, .int .i64 0, .nils]])[g.length]? = some (.row ty1064 3 [[.int .i64 0, .int .i64 0, .nils]]) := dNew_get _ _ _ _
      have hzl : (dNew g ty1064 3 [[.int .i64 0, .int .i64 0, .nils]]).length = g.length + 1 := by simp [-Option.bind_some, dNew]
      generalize hp11 : ((D.ptr g.length 0 0, dNew g ty1064 3 [[.int .i64 0, .int .i64 0, .nils]]) : D × Hp) = p11
      have hp1 : p11.1 = .ptr g.length 0 0 := by rw [← hp11]
      generalize dNew g ty1064 3 [[.int .i64 0, .int .i64 0, .nils]] = g2 at hold hzz hzl
      have qal := (List.getElem?_eq_some_iff.1 B.at_).1
      have L : BtL h o qa g.length x bt := ⟨hgl, ho, qal, fun q hq => (B.out.lt hq).2, fun p hp q hq => ((B.its p hp).1.lt hq).2⟩
      refine wst1064 hzz (by rfl) (by rfl) (by simp [-Option.bind_some]) (by rfl) fun g3 q3 s3 => ?_
      replace q3 : g3[g.length]? = some (.row ty1064 3 [[.int .i64 host, .int .i64 n, .nils]]) := q3
      have B3 := B.keep L (B.cd.keep ((s3.2 o (by omega)).trans (hold o (by omega)))) (by rw [s3.1]; omega) (fun q hq _ => (s3.2 q (by omega)).trans (hold q hq))
      have bn : BnI h o host ps qa x bt g.length n g3 ats [] .nils := ⟨B3, by rw [s3.1]; omega, q3, Own.nils _ _ _ _, by simp [-Option.bind_some]⟩
      try simp only [bs]
      obtain ⟨v, g4, e4, c4, s4, v0, v1⟩ := next_b bn.B.cd 3 (by omega) (by omega)
      refine Wp.step e4 ?_
      have bn4 := bn.next L c4 s4
      obtain ⟨m, rfl⟩ := Int.eq_ofNat_of_zero_le v0
      have hw1 : IntKind.wrap .i64 (1 + (m : Int)) = ((m + 1 : Nat) : Int) := by
        rw [wrap_i64 (by omega) (by omega)]; omega
      simp only [dBin_add, hw1, bs, Option.bind_assoc]
      refine Wp.loop (fun k ds g' => ∃ c1 c2 c3 c4 c5 c6 c7 c8 c9 ats its y, ds = [.int .i64 (k : Nat), c1, c2, c3, c4, c5, c6, c7, c8, c9] ∧ k ≤ 3 ∧ its.length + k ≤ 3 ∧ BnI h o host ps qa x bt g.length n g' ats its y)
        (fun r => ∃ c0 c1 c2 c3 c4 c5 c6 c7 c8 c9 ats its y, r.1 = .ext 2 ∧ r.2.1 = [c0, c1, c2, c3, c4, c5, c6, c7, c8, c9] ∧ its.length ≤ 3 ∧ BnI h o host ps qa x bt g.length n r.2.2 ats its y) (m + 1)
        ⟨_, _, _, _, _, _, _, _, _, ats, [], .nils, rfl, by omega, by simp [-Option.bind_some]; omega, bn4⟩ ?_ ?_
      · rintro k' ds g' ⟨c1, c2, c3, c4, c5, c6, c7, c8, c9, ats', its', y', rfl, hk3, hlk, bn'⟩
        rcases Nat.eq_zero_or_pos k' with rfl | hpos
        · simp only [F1088_L1, nth_zero, nth_succ, bs, dBin_gtr]
          exact .some (.inr ⟨by simp [-Option.bind_some], _, _, _, _, _, _, _, _, _, _, ats', its', y', rfl, rfl, by omega, bn'⟩)
        · refine (b1088 L hps hf hn1 hn3 hm1 h0 h9 bn' (by omega) p11 hp1 k' hpos (by omega) _ _ _ _ _ _ _ _ _).mono ?_
          rintro _ ⟨g'', ats'', its'', y'', d1, d2, d3, d4, d5, d6, d7, d8, d9, rfl, bn'', hl''⟩
          exact .inl ⟨rfl, k' - 1, by omega, d1, d2, d3, d4, d5, d6, d7, d8, d9, ats'', its'', y'', rfl, by omega, by omega, bn''⟩
      · rintro ⟨ex, ds, g'⟩ ⟨c0', c1, c2, c3, c4, c5, c6, c7, c8, c9, ats', its', y', q1, q2, hl3, bn'⟩
        simp only at q1 q2 bn'
        subst q1; subst q2
        simp only [unblk_self, toEnd_nrm, nth_zero, nth_succ, bs, Option.bind_assoc, hp1]
        have hld : dLoad tab g' ty1064 (.ptr g.length 0 0) = some (.agg [.int .i64 host, .int .i64 n, y']) := by
          rw [ldp1064, row_of bn'.pr]; rfl
        simp only [hld, bs, bs1059_1]
        have hpb := bn'.pg
        refine app_bt bn'.B ho (by omega) (its', y', (n : Int)) ⟨bn'.ow.from (by omega), hl3, bn'.ok⟩ fun x1 g5 B5 fre5 len5 => ?_
        try simp only [bs]
        obtain ⟨u, g6, e6, c6, s6, u0, u1⟩ := next_b B5.cd 4 (by omega) (by omega)
        refine Wp.step e6 ?_
        have B6 := B5.same ho c6 s6
        have hlen : (bt ++ [(its', y', (n : Int))]).length = bt.length + 1 := by simp [-Option.bind_some]
        have hdec : decide ((0 : Int) < ((bt ++ [(its', y', (n : Int))]).length : Int)) = true := decide_eq_true (by rw [hlen]; omega)
        generalize bt ++ [(its', y', (n : Int))] = bt1 at B5 B6 hlen hdec
        have hlo := leno1059 B6.out
        rw [List.length_map] at hlo
        simp only [dBin_eql, bs, gd_bool, hlo, dBin_gtr, hdec, Option.bind_assoc]
        have fin : ∀ (q : Bool) (R1 : Option D), (R1 = some (.bool q)) → True := fun _ _ _ => trivial
        generalize hq3 : decide (u = (3 : Int)) = b3
        have hpk : ((if b3 = true then some x1 else some D.und).bind fun t131 => (if b3 = true then dLenT tab ty1059 t131 else some .und).bind fun t132 => (if b3 = true then dBin tab .gtr ty3 t132 (.int .i64 0) else some .und).bind fun t133 => dPick (.bool b3) t133 (.bool false)) = some (.bool b3) := by
          cases b3
          · simp [-Option.bind_some]
          · simp only [if_true, bs, hlo, dBin_gtr, hdec, dPick_bool]
        cases b3
        · simp only [Bool.false_eq_true, if_false, bs, dPick_bool, dIf_bool, toEnd_nrm, unblk_nrm, nth_zero, dBin_add, hwn]
          exact .some (.inl ⟨rfl, k - 1, by omega, x1, _, _, _, _, _, _, _, _, _, _, _, _, _, bt1, ats', n + 1, rfl, by omega, B6, by omega, by omega⟩)
        · simp only [if_true, bs, hlo, dBin_gtr, hdec, dPick_bool, dIf_bool, Option.bind_assoc]
          obtain ⟨w, g7, e7, c7, s7, w0, w1⟩ := next_b B6.cd bt1.length (by omega) (by omega)
          refine Wp.step e7 ?_
          have B7 := B6.same ho c7 s7
          obtain ⟨j, rfl⟩ := Int.eq_ofNat_of_zero_le w0
          have hj : j < bt1.length := by omega
          obtain ⟨pj, hpj⟩ : ∃ p, bt1[j]? = some p := ⟨_, List.getElem?_eq_getElem hj⟩
          obtain ⟨ob, hob, rfl, hgo⟩ := own_ix B7.out (i := j) (by simpa [-Option.bind_some] using hj)
          have hjj : (0 : Int) ≤ (j : Int) ∧ (j : Int) < (((bt1.map (bRow host)).length : Nat) : Int) := by rw [List.length_map]; omega
          have hr : (bt1.map (bRow host))[j]? = some (bRow host pj) := by rw [List.getElem?_map, hpj]; rfl
          have hld2 : dLoad tab g7 ty1064 (.ptr ob j 0) = some (.agg (bRow host pj)) := by
            rw [ldp1064, row_of hgo, hr]; rfl
          have hbl2 : pLitF tab ty1059 1 [0] [.agg (bRow host pj)] = some (.sl 3 true [bRow host pj]) := id rfl
          simp only [ixm1059, hjj, and_self, if_true, Nat.zero_add, Int.toNat_natCast, bs, hld2, hbl2]
          refine app_bt B7 ho (by omega) pj (B7.its pj (List.mem_of_getElem? hpj)) fun x2 g8 B8 fre8 len8 => ?_
          simp only [bs, toEnd_nrm, unblk_nrm, nth_zero, dBin_add, hwn]
          exact .some (.inl ⟨rfl, k - 1, by omega, x2, _, _, _, _, _, _, _, _, _, _, _, _, _, bt1 ++ [pj], ats', n + 1, rfl, by omega, B8, by simp [-Option.bind_some]; omega, by simp [-Option.bind_some]; omega⟩)
    · intro hge
      have hge : n = 12 := by have : ¬ (n : Int) < 12 := by simpa [-Option.bind_some] using hge
                              omega
      exact .some (.inr ⟨by simp [-Option.bind_some], x, _, _, _, _, _, _, _, _, _, _, _, _, _, _, bt, ats, rfl, rfl, B, by omega, by omega⟩)
  · rintro ⟨ex, ds, g⟩ ⟨x, a1, a2, a3, a4, a5, a6, a7, a8, a9, b1, b2, b3, b4, b5, bt, ats, q1, q2, B, hl1, hl24⟩
    simp only at q1 q2 B
    subst q1; subst q2
    simp only [unblk_self, toEnd_nrm, nth_zero, bs, mkRes_one]
    obtain ⟨l, h1, h2, h3⟩ := bats_of (g := g) bt B.its
    have hsl : SlOf 3 batr l (frz h.length g 4 x) := by
      rcases B.out with ⟨hx, hr⟩ | ⟨ob, hob, hx, hgo⟩
      · have : bt = [] := by simpa [-Option.bind_some] using hr
        subst this
        simp [-Option.bind_some] at hl1
      · right
        refine ⟨false, ?_⟩
        rw [hx, frz_msl hob hgo]
        simp only [List.drop_zero, List.take_length, h1]
    have S : St h o g := ⟨ho, B.cd, ⟨B.len, B.gr⟩⟩
    obtain ⟨h', hs, hcd, hsm⟩ := S.scope rfl (slof_ok hsl fun a _ => batr_oks _ a)
    rw [hs]
    exact .some ⟨hcd, hsm, l, hsl, by omega, by omega, h3⟩
theorem lnE_chain (to_ m : Int) (hm : 36 ≤ m) (ht : to_ ≤ 60000) : ∀ (ls : List Lin) (a : Int), 0 ≤ a → chain a ls to_ → lnE to_ m a ls = 0
  | [], a, _, _ => rfl
  | l :: r, a, ha, h => by
    obtain ⟨h1, h2, h3, h4, h5⟩ := h
    have hle := chain_le r _ _ h5
    have w1 : IntKind.wrap .i64 (to_ - a) = to_ - a := wrap_i64 (by omega) (by omega)
    have w2 : IntKind.wrap .i64 (a + l.len) = a + l.len := wrap_i64 (by omega) (by omega)
    unfold lnE
    rw [if_pos, if_neg (by omega), w2]
    · exact lnE_chain to_ m hm ht r _ (by omega) h5
    · rw [w1]
      refine ⟨h1, by omega, by omega, fun hh => ?_⟩
      obtain ⟨hr, hlt⟩ := hh
      subst hr
      have h5 : a + l.len = to_ := h5
      omega
theorem lines_chain {e : Ev} (m : Int) (hm : 36 ≤ m) (h0 : 0 ≤ e.a2) (ht : e.a3 ≤ 60000) (h1 : 1 ≤ e.ls.length) (h40 : e.ls.length ≤ 40) (hc : chain e.a2 e.ls e.a3) : linesE e m = 0 := by
  have g0 : ¬ e.ls.length = 0 := by omega
  have g1 : ¬ 40 < e.ls.length := by omega
  simp only [linesE, g0, g1, if_false]
  exact lnE_chain _ _ hm ht _ _ h0 hc
theorem good_itE {i : It} (h : (i.r = [] ∧ EvGood i.e) ∨ SkGood i) : itE i = 0 := by
  rcases h with ⟨hr, h⟩ | h
  · have pl := h.pl
    have hp : plB i.e = true := by
      have := pl.h0; have := pl.h9; have := pl.f0; have := pl.f9; have := pl.a0; have := pl.ab; have := pl.b9
      simp [-Option.bind_some, plB]
      omega
    have ht : (decide (0 ≤ i.e.a5) && decide (i.e.a5 ≤ 253402300799999)) = true := by
      have := h.t0; have := h.t9
      simp [-Option.bind_some]; omega
    have hl := lines_chain 2000 (by omega) pl.a0 pl.b9 h.l1 h.l4 h.ch
    have w1 : ¬ i.e.a6 < 1 := by have := h.w1; omega
    have htr : ¬ 32 < i.e.s7.length := by have := h.tr; omega
    have hst : ¬ 32 < i.e.s8.length := by have := h.st; omega
    have hs : sortF i.e.fs = (0, i.e.fs) := asc_sort h.fa h.f3 fun p hp => (h.fn p hp).1
    have hv : (i.e.fs.any fun p => decide (2000 < p.2.length)) = false := by
      rw [List.any_eq_false]
      intro p hp
      have := h.fv p hp
      simp [-Option.bind_some]; omega
    simp [-Option.bind_some, itE, hr, evE, hp, ht, w1, h.w3, hl, htr, hst, hs, hv]
  · have pl := h.pl
    have hp : plB i.e = true := by
      have := pl.h0; have := pl.h9; have := pl.f0; have := pl.f9; have := pl.a0; have := pl.ab; have := pl.b9
      simp [-Option.bind_some, plB]
      omega
    have hl := lines_chain 60000 (by omega) pl.a0 pl.b9 h.l1 h.l4 h.ch
    have hr3 : ¬ 32 < i.r.length := by have := h.r3; omega
    simp [-Option.bind_some, itE, h.r0, hr3, hp, hl, h.tm, h.w0, h.tr, h.st, h.fs]
    exact h.tx
theorem lt98_4_dup : ∀ s ∈ lt98_4, s ≠ ([42] : Str) := by decide
theorem s1094 (host : Int) (b : Bat) (h : Hp) (hb : BatOK host b) : R fn1094 [.agg (batr b)] h = some (.int .i64 0, h) := by
  suffices Wp (R fn1094 [.agg (batr b)] h) (fun p => p = (.int .i64 0, h)) by
    obtain ⟨p, h1, rfl⟩ := this
    exact h1
  have hn := hb.n3
  have hlen : ¬ (40 : Int) < (b.its.length : Int) := by omega
  rw [e1094]
  simp only [F1094, pBoxF_agg, batr, fa1064_2, ld113, lens113 b.hd, bs, Option.bind_assoc, dBin_gtr, hlen, decide_false, dIf_bool, Bool.false_eq_true, if_false]
  refine Wp.loop (fun k ds g => g = h ∧ ∃ a1 a2 a3 a4 a5 a6 a7, ∃ n : Nat, ds = [a1, a2, a3, .int .i64 n, a4, a5, a6, a7] ∧ k + n = b.its.length) (fun r => r.1 = .ext 0 ∧ r.2.2 = h) b.its.length ⟨rfl, _, _, _, _, _, _, _, 0, rfl, rfl⟩ ?_ ?_
  · rintro k ds g ⟨rfl, a1, a2, a3, a4, a5, a6, a7, n, rfl, hk⟩
    simp only [F1094_L0, nth_zero, nth_succ, bs, Option.bind_assoc, dBin_lss]
    refine Wp.dif ?_ ?_
    · intro h0
      have h0 : n < b.its.length := by have : (n : Int) < b.its.length := by simpa [-Option.bind_some] using h0
                                       omega
      obtain ⟨i, hi⟩ : ∃ i, b.its[n]? = some i := ⟨_, List.getElem?_eq_getElem h0⟩
      have hB := hb.it i (List.mem_of_getElem? hi)
      have hw : IntKind.wrap .i64 ((n : Int) + 1) = ((n + 1 : Nat) : Int) := by
        rw [wrap_i64 (by omega) (by omega)]; omega
      have hii : dIndexAddr tab ty113 b.d (.int .i64 (n : Int)) = some (.fptr (itr i)) := by rw [ixs113 b.hd]; simp [-Option.bind_some, hi]
      have hck := s1042 i g (by have := hB.fs; omega)
      rw [good_itE hB.good] at hck
      have q0 : dFieldAddr tab ty31 0 (.fptr (evr i.e)) = some (.fptr (evr i.e)) := id rfl
      have q1 : dLoad tab g ty3 (.fptr (evr i.e)) = some (.int .i64 i.e.a0) := id rfl
      have hr : (i.r == ([42] : Str)) = false := by
        rcases hB.rule with hr | hr
        · rw [hr]; rfl
        · have := lt98_4_dup _ hr
          simpa [-Option.bind_some] using this
      simp only [hii, ldIt, boxIt, hck, bs, dBin_neq, ne_eq, not_true, decide_false, dIf_bool, Bool.false_eq_true, if_false, itF1, q0, q1, fa1064_0, ld3, hB.host, hb.hs, itF0, itL0, dBin_seql, hr, dBin_add, hw]
      exact .some (.inl ⟨rfl, k - 1, by omega, rfl, _, _, _, _, _, _, _, n + 1, rfl, by omega⟩)
    · intro h0
      exact .some (.inr ⟨by simp [-Option.bind_some], rfl, rfl⟩)
  · rintro ⟨ex, ds, g⟩ ⟨q1, q2⟩
    simp only at q1 q2
    subst q1; subst q2
    simp only [unblk_self, toEnd_nrm, bs, mkRes_one]
    exact .some rfl
/-- A slice of marks that can be read here. -/
def RdM (h : Hp) (l : List Mrk) (d : D) : Prop := SlOf 3 mrkr l d ∨ ∃ ob, d = .msl 3 ob 0 l.length ∧ h[ob]? = some (.row ty1006 3 (l.map mrkr))
theorem rdM_len {h : Hp} {l : List Mrk} {d : D} (hd : RdM h l d) : dLenT tab ty1007 d = some (.int .i64 l.length) := by
  rcases hd with hd | ⟨ob, rfl, _⟩
  · exact lens1007 hd
  · exact lenm1007 _ _ _ _
theorem rdM_ix {h : Hp} {l : List Mrk} {d : D} (hd : RdM h l d) (i : Nat) (p : Mrk) (hp : l[i]? = some p) : ∃ q, dIndexAddr tab ty1007 d (.int .i64 i) = some q ∧ dLoad tab h ty1006 q = some (.agg (mrkr p)) ∧ ∃ q2, dFieldAddr tab ty1006 2 q = some q2 ∧ dLoad tab h ty3 q2 = some (.int .i64 p.o) := by
  have hi := (List.getElem?_eq_some_iff.1 hp).1
  rcases hd with hd | ⟨ob, rfl, ho⟩
  · exact ⟨.fptr (mrkr p), by rw [ixs1007 hd]; simp [-Option.bind_some, hp], mrkr_ld p h, .fptr [.int .i64 p.o], rfl, rfl⟩
  · have hr : (l.map mrkr)[i]? = some (mrkr p) := by rw [List.getElem?_map, hp]; rfl
    have hh : (0 : Int) ≤ (i : Int) ∧ (i : Int) < (l.length : Int) := by omega
    refine ⟨.ptr ob i 0, by rw [ixm1007]; simp [-Option.bind_some, hh], ?_, .ptr ob i 2, rfl, ?_⟩
    · rw [ldp1006, row_of ho, hr]; rfl
    · rw [ldp3, row_of ho, hr]; rfl
theorem s1016r (l : List Mrk) (d : D) (t : Mrk) (fn : D) (c : Mrk → Int) (h : Hp) (hd : RdM h l d) (hl : l.length ≤ 1000000) (hf : ∀ x, callV R fn [.agg (mrkr x), .agg (mrkr t)] h = some (.int .i64 (c x), h))
   (k : Nat) (hk : k ≤ l.length) (h1 : ∀ i x, l[i]? = some x → i < k → c x < 0) (h2 : ∀ i x, l[i]? = some x → k ≤ i → 0 ≤ c x) :
   R fn1016 [d, .agg (mrkr t), fn] h = some (.tup [.int .i64 k, .bool (match l[k]? with | some x => decide (c x = 0) | none => false)], h) := by
  suffices Wp (R fn1016 [d, .agg (mrkr t), fn] h) (fun p => p = (.tup [.int .i64 k, .bool (match l[k]? with | some x => decide (c x = 0) | none => false)], h)) by
    obtain ⟨p, h1, rfl⟩ := this
    exact h1
  rw [e1016]
  simp only [F1016, pBoxF_agg, bs, Option.bind_assoc, rdM_len hd]
  refine Wp.loop (fun n ds g => g = h ∧ ∃ a b e, ∃ lo hi : Nat, ds = [.int .i64 lo, .int .i64 hi, a, b, e] ∧ lo ≤ k ∧ k ≤ hi ∧ hi ≤ l.length ∧ n = hi - lo)
      (fun x => x.1 = .ext 0 ∧ x.2.2 = h ∧ nth 0 x.2.1 = .int .i64 k) l.length ⟨rfl, _, _, _, 0, l.length, rfl, by omega, hk, Nat.le_refl _, rfl⟩ ?_ ?_
  · rintro n ds g ⟨rfl, a, b, e, lo, hi, rfl, hlo, hhi, hle, rfl⟩
    simp only [F1016_L0, nth_zero, nth_succ, bs, Option.bind_assoc, dBin_lss]
    refine Wp.dif ?_ ?_
    · intro h0
      have h0 : lo < hi := by have : (lo : Int) < hi := by simpa [-Option.bind_some] using h0
                              omega
      have hw : IntKind.wrap .i64 ((lo : Int) + hi) = ((lo + hi : Nat) : Int) := by
        rw [wrap_i64 (by omega) (by omega)]; omega
      have hw2 : IntKind.wrap .u64 ((lo + hi : Nat) : Int) = ((lo + hi : Nat) : Int) := by
        unfold IntKind.wrap
        simp [-Option.bind_some, IntKind.signed, IntKind.bits, IntKind.min, IntKind.max]
        omega
      have hw3 : (((lo + hi : Nat) : Int)).fdiv (2 ^ (min (Int.toNat 1) IntKind.u64.bits)) = (((lo + hi) / 2 : Nat) : Int) := by
        rw [show (2 : Int) ^ (min (Int.toNat 1) IntKind.u64.bits) = 2 by decide]
        rw [Int.fdiv_eq_ediv_of_nonneg _ (by omega)]
        omega
      have hw4 : IntKind.wrap .i64 (((lo + hi) / 2 : Nat) : Int) = (((lo + hi) / 2 : Nat) : Int) := wrap_i64 (by omega) (by omega)
      have hw5 : IntKind.wrap .i64 ((((lo + hi) / 2 : Nat) : Int) + 1) = (((lo + hi) / 2 + 1 : Nat) : Int) := by
        rw [wrap_i64 (by omega) (by omega)]; omega
      have hm : (lo + hi) / 2 < l.length := by omega
      have hm1 : lo ≤ (lo + hi) / 2 := by omega
      have hm2 : (lo + hi) / 2 < hi := by omega
      generalize (lo + hi) / 2 = mid at *
      have hg : l[mid]? = some l[mid] := List.getElem?_eq_getElem hm
      generalize l[mid] = x at hg
      obtain ⟨q0, i0, i1, _⟩ := rdM_ix hd mid x hg
      simp only [dBin_add, hw, cv3_134, cv134_3, bs, hw2, dBin_shr, show ¬ (1 : Int) < 0 by omega, if_false, hw3, hw4, i0, i1, mrkr_ld, hf, dBin_lss]
      by_cases hc : c x < 0
      · have hkm : mid < k := by
          rcases Nat.lt_or_ge mid k with hh | hh
          · exact hh
          · have := h2 mid x hg hh
            omega
        simp only [hc, decide_true, dIf_bool, if_true, bs, hw5, unblk_nrm, nth_zero, nth_succ]
        exact .some (.inl ⟨rfl, hi - (mid + 1), by omega, rfl, _, _, _, mid + 1, hi, rfl, by omega, hhi, hle, rfl⟩)
      · have hkm : k ≤ mid := by
          rcases Nat.lt_or_ge mid k with hh | hh
          · exact absurd (h1 mid x hg hh) hc
          · exact hh
        simp only [hc, decide_false, dIf_bool, Bool.false_eq_true, if_false, bs, unblk_nrm, nth_zero, nth_succ]
        exact .some (.inl ⟨rfl, mid - lo, by omega, rfl, _, _, _, lo, mid, rfl, hlo, hkm, by omega, rfl⟩)
    · intro h0
      have h0 : lo = k := by have : ¬ (lo : Int) < hi := by simpa [-Option.bind_some] using h0
                             omega
      subst h0
      exact .some (.inr ⟨by simp [-Option.bind_some], rfl, rfl, rfl⟩)
  · rintro ⟨ex, ds, g⟩ ⟨q1, q2, q3⟩
    simp only at q1 q2 q3
    subst q1; subst q2
    simp only [unblk_self, toEnd_nrm, nth_zero, q3, bs, dBin_lss]
    by_cases hkl : k < l.length
    · have hg : l[k]? = some l[k] := List.getElem?_eq_getElem hkl
      have hlt : (k : Int) < l.length := by omega
      generalize l[k] = x at hg
      obtain ⟨q0, i0, i1, _⟩ := rdM_ix hd k x hg
      simp only [hlt, decide_true, gd_bool, if_true, bs, i0, i1, hg, mrkr_ld, gdW_bool, hf, dBin_eql, dPick_bool, mkRes_two]
      exact .some rfl
    · have hg : l[k]? = none := List.getElem?_eq_none (by omega)
      have hlt : ¬ (k : Int) < l.length := by omega
      simp only [hlt, decide_false, gd_bool, Bool.false_eq_true, if_false, bs, gdW_bool, dPick_bool, mkRes_two, hg]
      exact .some rfl
theorem s1013r (l : List Mrk) (d : D) (hst fil : Int) (h : Hp) (hd : RdM h l d) (hl : l.length ≤ 1000000)
   (k : Nat) (hk : k ≤ l.length) (h1 : ∀ i x, l[i]? = some x → i < k → cmpM x ⟨hst, fil, 0⟩ < 0) (h2 : ∀ i x, l[i]? = some x → k ≤ i → 0 ≤ cmpM x ⟨hst, fil, 0⟩) :
   R fn1013 [d, .int .i64 hst, .int .i64 fil] h = some (.tup [.int .i64 k, .bool (match l[k]? with | some x => decide (cmpM x ⟨hst, fil, 0⟩ = 0) | none => false)], h) := by
  have hb : dBuild tab ty1006 [0, 1] [.int .i64 hst, .int .i64 fil] = some (.agg (mrkr ⟨hst, fil, 0⟩)) := id rfl
  rw [e1013]
  simp only [F1013, bs, hb, Option.bind_assoc]
  rw [s1016r l d ⟨hst, fil, 0⟩ (.fn (.func fn1017) [] []) (fun x => cmpM x ⟨hst, fil, 0⟩) h hd hl (fun x => by rw [callV_some]; exact s1017 x _ h) k hk h1 h2]
  rfl
theorem s1005r (l : List Mrk) (d dt : D) (hst fil : Int) (h : Hp) (hd : RdM h l d) (hl : l.length ≤ 1000000) (hs : MAsc l) : R fn1005 [.agg [d, dt], .int .i64 hst, .int .i64 fil] h = some (.int .i64 (markOf l hst fil), h) := by
  have hk := kM_le ⟨hst, fil, 0⟩ l
  have h13 := s1013r l d hst fil h hd hl (kM ⟨hst, fil, 0⟩ l) hk (kM_lt _ l) (kM_ge _ l hs)
  rw [e1005]
  unfold markOf
  generalize kM ⟨hst, fil, 0⟩ l = k at hk h13
  simp only [F1005, pBoxF_agg, bs, fa1009_0, ld1007, h13, dExtract_tup, List.getElem?_cons_zero, List.getElem?_cons_succ]
  cases hg : l[k]? with
  | none => simp [-Option.bind_some]
  | some x =>
    obtain ⟨q0, i0, i1, q2, i2, i3⟩ := rdM_ix hd k x hg
    by_cases hc : cmpM x ⟨hst, fil, 0⟩ = 0
    · simp [-Option.bind_some, hc, i0, i2, i3]
    · simp [-Option.bind_some, hc]
theorem u1095 (l : List Mrk) (d : D) (h : Hp) (hd : SlOf 3 mrkr l d) (hl : l.length ≤ 1000000) : ∃ d' h', R fn1095 [d] h = some (d', h') ∧ h.length ≤ h'.length ∧ (∀ q, q < h.length → h'[q]? = h[q]?) ∧
    ((l = [] ∧ (d' = .nils ∨ d' = .sl 3 true [])) ∨ ∃ ob, h.length ≤ ob ∧ d' = .msl 3 ob 0 l.length ∧ h'[ob]? = some (.row ty1006 3 (l.map mrkr))) := by
  rw [e1095]
  rcases hd with ⟨rfl, rfl⟩ | ⟨b, rfl⟩
  · exact ⟨.nils, h, by
      have hne : dBin tab .eql ty1007 .nils .nils = some (.bool true) := id rfl
      simp [-Option.bind_some, F1095, hne], Nat.le_refl _, fun _ _ => rfl, .inl ⟨rfl, .inl rfl⟩⟩
  · obtain ⟨x', h', e, hl', hq, ho⟩ := app_full (T := tab) (t := ty1007) (i := ti1007) (j := ti1006) (h := h) (id rfl) (id rfl) (id rfl) (by decide) (y := .sl 3 b (l.map mrkr)) (rowsOf_sl _ _ _ _) (lim_ok (by have : ti1006.by_ = 24 := rfl; rw [this, List.length_map]; omega) (by rw [List.length_map]; omega))
    have e' : dAppend tab h ty1007 ty1007 (.sl 3 true []) (.sl 3 b (l.map mrkr)) = some (x', h') := e
    have hne : dBin tab .eql ty1007 (.sl 3 b (l.map mrkr)) .nils = some (.bool false) := id rfl
    refine ⟨x', h', ?_, hl', hq, ?_⟩
    · simp only [F1095, bs, hne, dIf_bool, Bool.false_eq_true, if_false, bs1007_0, e', mkRes_one]
    · rcases ho with ⟨rfl, hn⟩ | ⟨rfl, hn⟩ | ⟨ob, h1, rfl, h2⟩
      · have : l = [] := by simpa [-Option.bind_some] using hn
        exact .inl ⟨this, .inr rfl⟩
      · have : l = [] := by simpa [-Option.bind_some] using hn
        exact .inl ⟨this, .inl rfl⟩
      · exact .inr ⟨ob, h1, by rw [List.length_map]; rfl, h2⟩
theorem u79r (l : List Tal) (d : D) (h : Hp) (hd : RdT h l d) (hl : l.length ≤ 1000000) : ∃ d' h', R fn79 [d] h = some (d', h') ∧ h.length ≤ h'.length ∧ (∀ q, q < h.length → h'[q]? = h[q]?) ∧
    ((l = [] ∧ (d' = .nils ∨ d' = .sl 3 true [])) ∨ ∃ ob, h.length ≤ ob ∧ d' = .msl 3 ob 0 l.length ∧ h'[ob]? = some (.row ty106 3 (l.map talr))) := by
  rcases hd with hd | ⟨ob0, rfl, ho0⟩
  · exact u79 l d h hd hl
  rw [e79]
  by_cases hl0 : l = []
  · subst hl0
    exact ⟨.sl 3 true [], h, by
      have hne : dBin tab .eql ty58 (.msl 3 ob0 0 0) .nils = some (.bool false) := id rfl
      have hap : dAppend tab h ty58 ty58 (.sl 3 true []) (.msl 3 ob0 0 0) = some (.sl 3 true [], h) := by
        have hsrc : dSrc h ti58 ti106 (.msl 3 ob0 0 0) = some [] := by
          have h1 : dRowsOf h 3 (.msl 3 ob0 0 0) = some [] := by simp [-Option.bind_some, dRowsOf, ho0]
          have h2 : ti58.td = .sl ty106 := id rfl
          have h3 : ti106.sz = 3 := id rfl
          simp only [dSrc, h2, h3, h1]
        have h4 : tab ty58 = some ti58 := id rfl
        have h5 : ti58.td = .sl ty106 := id rfl
        have h6 : tab ty106 = some ti106 := id rfl
        have h7 : Nat.blt 0 ti106.sz = true := id rfl
        simp only [dAppend, h4, h5, h6, h7, hsrc]
      simp [-Option.bind_some, F79, hne, hap], Nat.le_refl _, fun _ _ => rfl, .inl ⟨rfl, .inr rfl⟩⟩
  · obtain ⟨x', h', e, hl', hq, ho⟩ := app_full (T := tab) (t := ty58) (i := ti58) (j := ti106) (h := h) (id rfl) (id rfl) (id rfl) (by decide) (y := .msl 3 ob0 0 l.length) (show dRowsOf h 3 _ = some (l.map talr) by simp [-Option.bind_some, dRowsOf, ho0]; exact List.take_of_length_le (by simp [-Option.bind_some])) (lim_ok (by have : ti106.by_ = 32 := rfl; rw [this, List.length_map]; omega) (by rw [List.length_map]; omega))
    have e' : dAppend tab h ty58 ty58 (.sl 3 true []) (.msl 3 ob0 0 l.length) = some (x', h') := e
    have hne : dBin tab .eql ty58 (.msl 3 ob0 0 l.length) .nils = some (.bool false) := id rfl
    refine ⟨x', h', ?_, hl', hq, ?_⟩
    · simp only [F79, bs, hne, dIf_bool, Bool.false_eq_true, if_false, bs58_0, e', mkRes_one]
    · rcases ho with ⟨rfl, hn⟩ | ⟨rfl, hn⟩ | ⟨ob, h1, rfl, h2⟩
      · have : l = [] := by simpa [-Option.bind_some] using hn
        exact .inl ⟨this, .inr rfl⟩
      · have : l = [] := by simpa [-Option.bind_some] using hn
        exact .inl ⟨this, .inl rfl⟩
      · exact .inr ⟨ob, h1, by rw [List.length_map]; rfl, h2⟩
theorem s59r (l : List Tal) (d : D) (hst : Int) (rule : Str) (n : Int) (h : Hp) (hd : RdT h l d) (hl : l.length ≤ 1000000) (hs : TAsc l) :
    ∃ d', R fn59 [d, .int .i64 hst, .str rule, .int .i64 n] h = some (d', h) ∧ SlOf 3 talr (addT l hst rule n) d' := by
  suffices Wp (R fn59 [d, .int .i64 hst, .str rule, .int .i64 n] h) (fun p => p.2 = h ∧ SlOf 3 talr (addT l hst rule n) p.1) by
    obtain ⟨⟨x, h'⟩, h1, rfl, h2⟩ := this
    exact ⟨x, h1, h2⟩
  rw [e59]
  obtain ⟨d1, h1, e1, hl1, hb1, hd1⟩ := u79r l d h hd hl
  simp only [F59, bs, e1, dBin_lss]
  refine Wp.dif (fun hn => ?_) (fun hn => ?_)
  · have hn : n < 1 := by simpa [-Option.bind_some] using hn
    have ha : addT l hst rule n = l := by simp [-Option.bind_some, addT, hn]
    rw [ha]
    rcases hd1 with ⟨rfl, rfl | rfl⟩ | ⟨ob, hob, rfl, ho⟩
    · simp only [mkRes_one, bs]
      rw [scope_eq rfl (by simp [-Option.bind_some]; exact .nils) hl1 hb1]
      exact .some ⟨rfl, by simpa [-Option.bind_some] using SlOf.nils _ _⟩
    · have hsl : SlOf 3 talr [] (.sl 3 true []) := .inr ⟨true, rfl⟩
      simp only [mkRes_one, bs]
      rw [scope_eq (d' := .sl 3 true []) rfl (slof_ok hsl fun a _ => talr_ok _ a) hl1 hb1]
      exact .some ⟨rfl, hsl⟩
    · have ow : Own h1 h.length ty106 3 (l.map talr) (.msl 3 ob 0 l.length) := .inr ⟨ob, hob, by simp [-Option.bind_some], ho⟩
      have hsl := own_sl (n0 := h.length) (n := 3) ow (Nat.le_refl _) (fun a _ => talr_frz _ h1 _ a)
      simp only [mkRes_one, bs]
      rw [scope_eq rfl (slof_ok hsl fun a _ => talr_ok _ a) hl1 hb1]
      exact .some ⟨rfl, hsl⟩
  · have hn : ¬ n < 1 := by simpa [-Option.bind_some] using hn
    have ha : addT l hst rule n = addK l hst rule n (kT ⟨hst, rule, 0⟩ l) := by simp [-Option.bind_some, addT, hn]
    rw [ha]
    have hrd : RdT h1 l d1 := by
      rcases hd1 with ⟨rfl, rfl | rfl⟩ | ⟨ob, hob, rfl, ho⟩
      · exact .inl (.nils _ _)
      · exact .inl (.inr ⟨true, rfl⟩)
      · exact .inr ⟨ob, rfl, ho⟩
    have hk := kT_le ⟨hst, rule, 0⟩ l
    have h80 := s80 l d1 hst rule h1 hrd hl (kT ⟨hst, rule, 0⟩ l) hk (kT_lt _ l) (kT_ge _ l hs)
    generalize kT ⟨hst, rule, 0⟩ l = k at hk h80
    simp only [h80, bs, dExtract_tup, List.getElem?_cons_zero, List.getElem?_cons_succ, dUn_not]
    refine Wp.join (P := fun r => ∃ (d2 : D) (h2 : Hp) (ob : Nat) (L : List Tal) (x : Tal), r = (.nrm, [d2], h2) ∧ d2 = .msl 3 ob 0 L.length ∧ h.length ≤ ob ∧ h.length ≤ h2.length ∧ (∀ q, q < h.length → h2[q]? = h[q]?) ∧ h2[ob]? = some (.row ty106 3 (L.map talr)) ∧ L[k]? = some x ∧ L.set k ⟨x.h, x.r, IntKind.wrap .i64 (x.n + n)⟩ = addK l hst rule n k) ?_ ?_ ?_
    · intro hf
      have hadd : addK l hst rule n k = l.take k ++ [⟨hst, rule, IntKind.wrap .i64 (0 + n)⟩] ++ l.drop k := by
        unfold addK
        cases hg : l[k]? with
        | none => rfl
        | some x =>
          rw [hg] at hf
          have : ¬ cmpT x ⟨hst, rule, 0⟩ = 0 := by simpa [-Option.bind_some] using hf
          simp [-Option.bind_some, this]
      have hlt : (l.take k).length = k := by simp [-Option.bind_some]; omega
      have hL : (l.take k ++ [(⟨hst, rule, 0⟩ : Tal)] ++ l.drop k)[k]? = some ⟨hst, rule, 0⟩ := by
        rw [List.append_assoc, List.getElem?_append_right (by omega), hlt]; simp [-Option.bind_some]
      have hset : (l.take k ++ [(⟨hst, rule, 0⟩ : Tal)] ++ l.drop k).set k ⟨hst, rule, IntKind.wrap .i64 (0 + n)⟩ = l.take k ++ [⟨hst, rule, IntKind.wrap .i64 (0 + n)⟩] ++ l.drop k := by
        rw [List.append_assoc, List.set_append_right _ _ (by omega), hlt]; simp [-Option.bind_some]
      have hlen : (l.take k ++ [(⟨hst, rule, 0⟩ : Tal)] ++ l.drop k).length = l.length + 1 := by simp [-Option.bind_some]; omega
      have hmap : (l.take k ++ [(⟨hst, rule, 0⟩ : Tal)] ++ l.drop k).map talr = (l.map talr).take k ++ [[.int .i64 hst, .str rule, .int .i64 0]] ++ (l.map talr).drop k := by
        rw [List.map_append, List.map_append, List.map_take, List.map_drop]; rfl
      have hz : ti106.sz = 3 := rfl
      have hlim : lim (l.length + 1) ti106.by_ = true := lim106 (by omega)
      have hlim1 : lim 1 ti106.by_ = true := lim106 (by omega)
      simp only [bd106_0_1, bs58_1, bs, xins81]
      rcases hd1 with ⟨rfl, hdd⟩ | ⟨ob, hob, rfl, ho⟩
      · have hk0 : k = 0 := by simpa [-Option.bind_some] using hk
        subst hk0
        have hi : dIns ty106 ti106 [d1, .int .i64 ((0 : Nat) : Int), .sl 3 true [[.int .i64 hst, .str rule, .int .i64 0]]] h1 = some (.msl 3 h1.length 0 1, dNew h1 ty106 3 [[.int .i64 hst, .str rule, .int .i64 0]]) := by
          rcases hdd with rfl | rfl <;> simp [-Option.bind_some, dIns, hz, hlim1]
        rw [hi]
        simp only [bs]
        refine .some ⟨_, _, h1.length, [⟨hst, rule, 0⟩], ⟨hst, rule, 0⟩, rfl, rfl, hl1, ?_, fun q hq => ?_, dNew_get _ _ _ _, rfl, ?_⟩
        · simp [-Option.bind_some, dNew]; omega
        · rw [dNew_old _ _ _ _ (by omega)]; exact hb1 q hq
        · rw [hadd]; simp [-Option.bind_some]
      · have hi : dIns ty106 ti106 [.msl 3 ob 0 l.length, .int .i64 (k : Int), .sl 3 true [[.int .i64 hst, .str rule, .int .i64 0]]] h1 = some (.msl 3 h1.length 0 (l.length + 1), dNew (h1.set ob .dead) ty106 3 ((l.map talr).take k ++ [[.int .i64 hst, .str rule, .int .i64 0]] ++ (l.map talr).drop k)) := by
          have hkl : (k : Int) ≤ (l.length : Int) := by omega
          simp [-Option.bind_some, dIns, hz, hlim, ho, hkl]
        rw [hi]
        simp only [bs]
        refine .some ⟨_, _, h1.length, l.take k ++ [⟨hst, rule, 0⟩] ++ l.drop k, ⟨hst, rule, 0⟩, rfl, by rw [hlen], hl1, ?_, fun q hq => ?_, ?_, hL, by rw [hadd]; exact hset⟩
        · simp [-Option.bind_some, dNew]; omega
        · rw [dNew_old _ _ _ _ (by simp [-Option.bind_some]; omega), List.getElem?_set_ne (by omega)]; exact hb1 q hq
        · have := dNew_get (h1.set ob .dead) ty106 3 ((l.take k ++ [(⟨hst, rule, 0⟩ : Tal)] ++ l.drop k).map talr)
          simp only [List.length_set] at this
          rw [hmap] at this ⊢
          exact this
    · intro hf
      cases hg : l[k]? with
      | none => rw [hg] at hf; simp [-Option.bind_some] at hf
      | some x =>
        rw [hg] at hf
        have hc : cmpT x ⟨hst, rule, 0⟩ = 0 := by simpa [-Option.bind_some] using hf
        rcases hd1 with ⟨rfl, hdd⟩ | ⟨ob, hob, rfl, ho⟩
        · simp [-Option.bind_some] at hg
        · refine .some ⟨_, _, ob, l, x, rfl, rfl, hob, hl1, hb1, ho, hg, ?_⟩
          simp [-Option.bind_some, addK, hg, hc]
    · rintro _ ⟨d2, h2, ob, L, x, rfl, rfl, hob, hl2, hb2, ho, hx, hfin⟩
      have hkL : k < L.length := (List.getElem?_eq_some_iff.1 hx).1
      have hkl2 : (0 : Int) ≤ (k : Int) ∧ (k : Int) < (L.length : Int) := by omega
      have hr : (L.map talr)[k]? = some (talr x) := by rw [List.getElem?_map, hx]; rfl
      simp only [toEnd_nrm, nth_zero, bs, ixm58, hkl2, and_self, if_true, fap106_2, Int.toNat_natCast, Nat.zero_add, ldp3, row_of ho, hr]
      simp only [talr, List.drop_succ_cons, List.drop_zero, List.head?_cons, bs, dBin_add]
      simp only [Option.bind_assoc, bs]
      refine wst3 (off := 2) (v := .int .i64 (IntKind.wrap .i64 (x.n + n))) ho hr rfl (by simp [-Option.bind_some, talr]) rfl fun h3 q3 s3 => ?_
      have hset : (L.map talr).set k (spl (talr x) 2 (cells1 (.int .i64 (IntKind.wrap .i64 (x.n + n))))) = (addK l hst rule n k).map talr := by
        rw [← hfin, List.map_set]; rfl
      rw [hset] at q3
      simp only [bs, mkRes_one]
      have hlen : (addK l hst rule n k).length = L.length := by rw [← hfin]; simp [-Option.bind_some]
      have ow : Own h3 h.length ty106 3 ((addK l hst rule n k).map talr) (.msl 3 ob 0 L.length) := .inr ⟨ob, hob, by simp [-Option.bind_some, hlen], q3⟩
      have hsl := own_sl (n0 := h.length) (n := 3) ow (Nat.le_refl _) (fun a _ => talr_frz _ h3 _ a)
      rw [scope_eq rfl (slof_ok hsl fun a _ => talr_ok _ a) (by have := s3.1; omega) (fun q hq => (s3.2 q (by omega)).trans (hb2 q hq))]
      exact .some ⟨rfl, hsl⟩
theorem s1097 {g : Hp} {w : Nat} {dm dt de : D} {ts : List Tal} (hw : g[w]? = some (.row ty1073 3 [[dm, dt, de]])) (ht : RdT g ts dt) (hl : ts.length ≤ 1000000) (hs : TAsc ts) (hst : Int) (rule : Str) (n : Int) :
    ∃ dt' g', R fn1097 [.ptr w 0 0, .int .i64 hst, .str rule, .int .i64 n] g = some (.tup [], g') ∧ g'[w]? = some (.row ty1073 3 [[dm, dt', de]]) ∧ SlOf 3 talr (addT ts hst rule n) dt' ∧ Same w g g' := by
  suffices Wp (R fn1097 [.ptr w 0 0, .int .i64 hst, .str rule, .int .i64 n] g) (fun p => p.1 = .tup [] ∧ ∃ dt', p.2[w]? = some (.row ty1073 3 [[dm, dt', de]]) ∧ SlOf 3 talr (addT ts hst rule n) dt' ∧ Same w g p.2) by
    obtain ⟨⟨x, g'⟩, h1, rfl, dt', h2⟩ := this
    exact ⟨dt', g', h1, h2⟩
  rw [e1097]
  obtain ⟨d', hs', hd'⟩ := s59r ts dt hst rule n g ht hl hs
  have oc := one_cells (slof_one hd')
  simp only [F1097, bs, nilCheck_ptr, fap1073_0, fap1009_1, ldp58, row_of hw, List.getElem?_cons_zero, Nat.zero_add, List.drop_succ_cons, List.drop_zero, List.head?_cons, hs', Option.bind_assoc]
  refine wst58 (off := 1) hw rfl (by rw [oc.1]; rfl) (by simp [-Option.bind_some]) oc.2 fun g' q s => ?_
  rw [oc.1] at q
  try simp only [bs]
  exact .some ⟨rfl, d', q, hd', s⟩
/-- Fields in an object of one's own. -/
def LvF (h : Hp) (n0 : Nat) (l : List (Str × Str)) (d : D) : Prop := (l = [] ∧ SlOf 2 fld [] d) ∨ ∃ ob, n0 ≤ ob ∧ d = .msl 2 ob 0 l.length ∧ h[ob]? = some (.row ty109 2 (l.map fld))
theorem LvF.one {h : Hp} {n0 : Nat} {l : List (Str × Str)} {d : D} (hd : LvF h n0 l d) : d.one = true := by
  rcases hd with ⟨_, hd⟩ | ⟨ob, _, rfl, _⟩
  · exact slof_one hd
  · rfl
theorem LvF.keep {h h' : Hp} {n0 : Nat} {l : List (Str × Str)} {d : D} (hd : LvF h n0 l d) (hk : ∀ q, n0 ≤ q → h'[q]? = h[q]?) : LvF h' n0 l d := by
  rcases hd with hd | ⟨ob, h1, h2, h3⟩
  · exact .inl hd
  · exact .inr ⟨ob, h1, h2, (hk ob h1).trans h3⟩
theorem LvF.frz {h : Hp} {n0 n1 n : Nat} {l : List (Str × Str)} {d : D} (hd : LvF h n1 l d) (hn : n0 ≤ n1) : SlOf 2 fld l (frz n0 h (n + 1) d) := by
  rcases hd with ⟨rfl, hd⟩ | ⟨ob, h1, rfl, h3⟩
  · rw [slof_frz hd (fun a ha => by cases ha)]; exact hd
  · have ow : Own h n1 ty109 2 (l.map fld) (.msl 2 ob 0 l.length) := .inr ⟨ob, h1, by simp [-Option.bind_some], h3⟩
    exact own_sl ow hn (fun a _ => fld_frz _ h _ a)
end Go.Proofs.YtpenlmgmofhbpaaDoor
