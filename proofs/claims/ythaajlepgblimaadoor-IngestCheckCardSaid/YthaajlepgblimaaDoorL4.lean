/- Laws, on plain data, about functions that the statement reaches. -/
import Derived.Test.YthaajlepgblimaaDoorL3
set_option linter.unusedSimpArgs false
set_option linter.unusedVariables false
set_option linter.unnecessarySimpa false
set_option maxRecDepth 100000
namespace Go.Proofs.YthaajlepgblimaaDoor
open Go.Eng Go.Pi
open Option (bind_some)
theorem b1088 {h : Hp} {o : Nat} {host most : Int} {ps : List (List It × D)} {qa : Nat} {x dps : D} {bt : List (List It × D × Int)} {pb : Nat} {nu : Int} {g : Hp} {ats : List Nat} {its : List It} {y : D} (L : BtL h o qa pb x bt)
    (hps : SlOf 1 (fun p : List It × D => [p.2]) ps dps) (hf : FilesOK host most (SlOf 11 itr) ps) (hn1 : 1 ≤ ps.length) (hn3 : ps.length ≤ 3) (hm : most ≤ 100) (h0 : 0 ≤ host) (h9 : host ≤ 999)
    (b : BnI h o host ps qa x bt pb nu g ats its y) (hl : its.length ≤ 100) (p11 : D × Hp) (hp : p11.1 = .ptr pb 0 0) (k : Nat) (hk : 0 < k) (hk2 : k ≤ 100) (a1 a2 a3 a4 a5 a6 a7 a8 a9 : D) :
    Wp (F1088_L1 (.ptr o 0 0) dps (.msl 1 qa 0 ps.length) p11 [.int .i64 k, a1, a2, a3, a4, a5, a6, a7, a8, a9] g) (fun r => ∃ g' ats' its' y' c1 c2 c3 c4 c5 c6 c7 c8 c9, r = (.nrm, [.int .i64 ((k - 1 : Nat) : Int), c1, c2, c3, c4, c5, c6, c7, c8, c9], g') ∧ BnI h o host ps qa x bt pb nu g' ats' its' y' ∧ its'.length ≤ its.length + 1) := by
  have hk' : (0 : Int) < (k : Int) := by omega
  have hw : IntKind.wrap .i64 ((k : Int) - 1) = ((k - 1 : Nat) : Int) := by
    rw [wrap_i64 (by omega) (by omega)]; omega
  simp only [F1088_L1, nth_zero, nth_succ, bs, Option.bind_assoc, dBin_gtr, hk', decide_true, dIf_bool, if_true, lens111 hps, hp]
  obtain ⟨v, g1, e1, c1, s1, v0, v1⟩ := next_b b.B.cd ps.length (by omega) (by omega)
  refine Wp.step e1 ?_
  have b1 := b.next L c1 s1
  obtain ⟨f, rfl⟩ := Int.eq_ofNat_of_zero_le v0
  have hfl : f < ps.length := by omega
  obtain ⟨a, ha⟩ : ∃ a, ats[f]? = some a := ⟨_, List.getElem?_eq_getElem (by rw [b.B.al]; exact hfl)⟩
  obtain ⟨p, hpf⟩ : ∃ p, ps[f]? = some p := ⟨_, List.getElem?_eq_getElem hfl⟩
  obtain ⟨hpd, hpl, po, hit⟩ := hf f p hpf
  have hab := b.B.ab f a p ha hpf
  have ix := ix_at (qa := qa) (n := ps.length) b1.B.at_ b1.B.al ha
  have hmem : dIndexAddr tab ty111 dps (.int .i64 (f : Int)) = some (.fptr [p.2]) := by rw [ixs111 hps]; simp [-bind_some, hpf]
  simp only [ix.1, ix.2, hmem, ld113, lens113 hpd, bs, dBin_geq]
  refine Wp.join (P := fun r => ∃ g' ats' its' y' c1 c2 c3 c4 c5 c6 c7 c8, r = (.nrm, [c1, c2, c3, c4, c5, c6, c7, c8], g') ∧ BnI h o host ps qa x bt pb nu g' ats' its' y' ∧ its'.length ≤ its.length + 1) ?_ ?_ ?_
  · intro _
    exact .some ⟨g1, ats, its, y, _, _, _, _, _, _, _, _, rfl, b1, by omega⟩
  · intro hlt
    have hlt : a < p.1.length := by have : ¬ (p.1.length : Int) ≤ (a : Int) := by simpa using hlt
                                    omega
    obtain ⟨i, hi⟩ : ∃ i, p.1[a]? = some i := ⟨_, List.getElem?_eq_getElem hlt⟩
    obtain ⟨fr, hio, hfr0, hfr1, _⟩ := items_get host _ p.1 0 po hit a i hi
    have hBi : BIt host i := bit_of hio h0 h9 (by omega) (by omega) hfr0 (by omega)
    have hii : dIndexAddr tab ty113 p.2 (.int .i64 (a : Int)) = some (.fptr (itr i)) := by rw [ixs113 hpd]; simp [-bind_some, hi]
    simp only [hii, ldIt, bs]
    generalize hZ : ([.str [], .int .i64 0, .int .i64 0, .int .i64 0, .int .i64 0, .nils, .int .i64 0, .int .i64 0, .str [], .str [], .nils] : List D) = Z
    have hZl : Z.length = 11 := by subst hZ; rfl
    have hold : ∀ q, q < g1.length → (dNew g1 ty74 11 [Z])[q]? = g1[q]? := fun q hq => dNew_old _ _ _ _ hq
    have hzz : (dNew g1 ty74 11 [Z])[g1.length]? = some (.row ty74 11 [Z]) := dNew_get _ _ _ _
    have hzl : (dNew g1 ty74 11 [Z]).length = g1.length + 1 := by simp [-bind_some, dNew]
    have b2 := b1.new L (g' := dNew g1 ty74 11 [Z]) (by omega) hold
    have hzy : ¬ y.inOb g1.length := fun hh => by have := (b1.ow.lt hh).2; omega
    have hzp : pb < g1.length := b1.pg
    generalize dNew g1 ty74 11 [Z] = g2 at hzz hzl b2
    generalize hzg : List.length g1 = z at hzz hzl hzy hzp
    clear hold
    have ix2 := ix_at (qa := qa) (n := ps.length) b2.B.at_ b2.B.al ha
    simp only [ix2.2]
    refine Wp.chk trivial (Wp.chk trivial (Wp.chk trivial ?_))
    refine put_it hzz hZl fun g3 hz3 s3 => ?_
    have b3 := b2.put L hzp hzy s3
    have hl3 : g3.length = z + 1 := by rw [s3.1, hzl]
    try simp only [bs]
    obtain ⟨u, g4, e4, c4, s4, u0, u1⟩ := next_b b3.B.cd 8 (by omega) (by omega)
    refine Wp.step e4 ?_
    have b4 := b3.next L c4 s4
    have hoz : z ≠ o := by have := L.hh; have := L.ho; omega
    have hz4 := (s4.2 z hoz).trans hz3
    have hl4 : g4.length = z + 1 := by rw [s4.1, hl3]
    have ix4 := ix_at (qa := qa) (n := ps.length) b4.B.at_ b4.B.al ha
    simp only [dBin_eql, bs]
    refine Wp.join (P := fun r => (∃ g' i' c1 c2, r = (.nrm, [c1, c2], g') ∧ BnI h o host ps qa x bt pb nu g' ats its y ∧ g'[z]? = some (.row ty74 11 [itr i']) ∧ BIt host i' ∧ g'.length = z + 1) ∨ (∃ g' i' y' c1 c2, r = (.ext 3, [c1, c2], g') ∧ BnI h o host ps qa x bt pb nu g' ats (its ++ [i']) y')) ?_ ?_ ?_
    · intro _
      simp only [ix4.1, ix4.2, bs, dBin_gtr]
      refine Wp.join (P := fun r => ∃ g' i', r = (.nrm, [], g') ∧ BnI h o host ps qa x bt pb nu g' ats its y ∧ g'[z]? = some (.row ty74 11 [itr i']) ∧ BIt host i' ∧ g'.length = z + 1) ?_ ?_ ?_
      · intro ha0
        have ha0 : 0 < a := by have : (0 : Int) < (a : Int) := by simpa using ha0
                               omega
        have hw2 : IntKind.wrap .i64 ((a : Int) - 1) = ((a - 1 : Nat) : Int) := by
          rw [wrap_i64 (by omega) (by omega)]; omega
        obtain ⟨ib, hib⟩ : ∃ i, p.1[a - 1]? = some i := ⟨_, List.getElem?_eq_getElem (by omega)⟩
        obtain ⟨fb, hbo, hfb0, hfb1, hnx⟩ := items_get host _ p.1 0 po hit (a - 1) ib hib
        have hio2 := hnx i (by rw [show a - 1 + 1 = a by omega]; exact hi)
        have hib2 : dIndexAddr tab ty113 p.2 (.int .i64 ((a - 1 : Nat) : Int)) = some (.fptr (itr ib)) := by rw [ixs113 hpd]; simp [-bind_some, hib]
        have n1 := hbo.n1
        have n3 := hbo.n3
        have n5 := hio2.n3
        obtain ⟨j, ej, hj⟩ := s1093 ib i g4 (by omega) (by omega) n1
        have hBj : BIt host j := bit_tog hbo hio2 rfl h0 h9 (by omega) (by omega) hfb0 (by omega) hj
        simp only [dBin_sub, hw2, bs, hib2, ldIt, ldIt0 hz4, hmem, ld113]
        refine Wp.step ej ?_
        simp only [bs]
        refine put_it hz4 rfl fun g5 hz5 s5 => ?_
        try simp only [bs]
        exact .some ⟨g5, j, rfl, b4.put L hzp hzy s5, hz5, hBj, by rw [s5.1, hl4]⟩
      · intro _
        exact .some ⟨g4, i, rfl, b4, hz4, hBi, hl4⟩
      rintro _ ⟨g', i', rfl, b', hz', hB', hl'⟩
      simp only [bs]
      exact .some (.inl ⟨g', i', _, _, rfl, b', hz', hB', hl'⟩)
    · intro _
      refine Wp.dif ?_ ?_
      · intro _
        have hw2 : IntKind.wrap .i64 ((a : Int) + 1) = ((a + 1 : Nat) : Int) := by
          rw [wrap_i64 (by omega) (by omega)]; omega
        have hw3 : IntKind.wrap .i64 ((p.1.length : Int) - 1) = ((p.1.length - 1 : Nat) : Int) := by
          rw [wrap_i64 (by omega) (by omega)]; omega
        obtain ⟨c, hmc, hc⟩ : ∃ c : Nat, dMin (.int .i64 ((a + 1 : Nat) : Int)) (.int .i64 ((p.1.length - 1 : Nat) : Int)) = some (.int .i64 c) ∧ c < p.1.length := by
          rw [dMin_int]
          split
          · exact ⟨a + 1, rfl, by omega⟩
          · exact ⟨p.1.length - 1, rfl, by omega⟩
        obtain ⟨ib, hib⟩ : ∃ i, p.1[c]? = some i := ⟨_, List.getElem?_eq_getElem hc⟩
        obtain ⟨fb, hbo, hfb0, hfb1, hnx⟩ := items_get host _ p.1 0 po hit c ib hib
        have hBb : BIt host ib := bit_of hbo h0 h9 (by omega) (by omega) hfb0 (by omega)
        have hib2 : dIndexAddr tab ty113 p.2 (.int .i64 (c : Int)) = some (.fptr (itr ib)) := by rw [ixs113 hpd]; simp [-bind_some, hib]
        simp only [ix4.1, ix4.2, bs, hmem, ld113, lens113 hpd, dBin_add, dBin_sub, hw2, hw3, hmc, hib2, ldIt]
        refine put_it hz4 rfl fun g5 hz5 s5 => ?_
        have b5 := b4.put L hzp hzy s5
        try simp only [bs]
        refine app_it b5 L (by omega) hz5 hBb fun g6 y6 b6 => ?_
        try simp only [bs]
        exact .some (.inr ⟨g6, ib, y6, _, _, rfl, b6⟩)
      · intro _
        exact .some (.inl ⟨g4, i, _, _, rfl, b4, hz4, hBi, hl4⟩)
    rintro _ (⟨g', i', d1, d2, rfl, b', hz', hB', hl'⟩ | ⟨g', i', y', d1, d2, rfl, b'⟩)
    · simp only [unblk_nrm, toEnd_nrm, nth_zero, nth_succ, Option.bind_assoc, bs]
      refine app_it b' L (by omega) hz' hB' fun g6 y6 b6 => ?_
      try simp only [bs]
      obtain ⟨w, g7, e7, c7, s7, w0, w1⟩ := next_b b6.B.cd 4 (by omega) (by omega)
      refine Wp.step e7 ?_
      have b7 := b6.next L c7 s7
      simp only [dBin_gtr, bs]
      refine Wp.join (P := fun r => ∃ g' ats', r = (.nrm, [], g') ∧ BnI h o host ps qa x bt pb nu g' ats' (its ++ [i']) y6) ?_ ?_ ?_
      · intro _
        have ix7 := ix_at (qa := qa) (n := ps.length) b7.B.at_ b7.B.al ha
        have hw2 : IntKind.wrap .i64 ((a : Int) + 1) = ((a + 1 : Nat) : Int) := by
          rw [wrap_i64 (by omega) (by omega)]; omega
        simp only [ix7.1, ix7.2, bs, dBin_add, hw2, Option.bind_assoc]
        have hrow : (ats.map atR)[f]? = some (atR a) := by rw [List.getElem?_map, ha]; rfl
        refine wst3 b7.B.at_ hrow (by rfl) (by simp [-bind_some, atR]) (by rfl) fun g8 q8 s8 => ?_
        have hset : (ats.map atR).set f (spl (atR a) 0 (cells1 (.int .i64 ((a + 1 : Nat) : Int)))) = (ats.set f (a + 1)).map atR := by
          rw [List.map_set]; rfl
        rw [hset] at q8
        try simp only [bs]
        have lh := L.hh
        have lo := L.ho
        have lq := L.hqa
        have q0 := b7.B.qa0
        refine .some ⟨g8, ats.set f (a + 1), rfl, ⟨⟨by have := b7.B.len; have := s8.1; omega, fun q hq hn => (s8.2 q (by omega)).trans (b7.B.gr q hq hn), b7.B.cd.keep (s8.2 o (by omega)), q0, q8, by rw [List.length_set]; exact b7.B.al, fun f' n' p' hn' hp' => ?_, b7.B.out.keep fun q hq hin => s8.2 q ?_, fun p' hp' => ⟨(b7.B.its p' hp').1.keep fun q hq hin => s8.2 q ?_, (b7.B.its p' hp').2⟩⟩, by have := b7.pg; have := s8.1; omega, (s8.2 pb (by omega)).trans b7.pr, b7.ow.keep fun q hq hin => s8.2 q (by omega), b7.ok⟩⟩
        · rw [List.getElem?_set] at hn'
          split at hn'
          · rename_i hff
            subst hff
            split at hn'
            · injection hn' with hn'
              rw [hpf] at hp'
              injection hp' with hp'
              subst hp'
              omega
            · cases hn'
          · exact b7.B.ab f' n' p' hn' hp'
        · rcases b7.B.out with ⟨hx, _⟩ | ⟨ob, _, hx, hg⟩
          · rw [hx] at hin; obtain ⟨_, _, hin⟩ := hin; cases hin
          · rw [hx] at hin
            obtain ⟨_, _, hin⟩ := hin
            injection hin with _ hin
            subst hin
            rintro rfl
            have e := hg.symm.trans b7.B.at_
            injection e with e
            injection e with e
            exact absurd e (by decide)
        · rcases (b7.B.its p' hp').1 with ⟨hx, _⟩ | ⟨ob, _, hx, hg⟩
          · rw [hx] at hin; obtain ⟨_, _, hin⟩ := hin; cases hin
          · rw [hx] at hin
            obtain ⟨_, _, hin⟩ := hin
            injection hin with _ hin
            subst hin
            rintro rfl
            have e := hg.symm.trans b7.B.at_
            injection e with e
            injection e with e
            exact absurd e (by decide)
      · intro _
        exact .some ⟨g7, ats, rfl, b7⟩
      rintro _ ⟨g', ats', rfl, b'⟩
      simp only [unblk_nrm]
      exact .some ⟨g', ats', _, y6, _, _, _, _, _, _, _, _, rfl, b', by simp⟩
    · have hu : unblk 4 (.ext 3) = .ext 3 := by simp [-bind_some, unblk]
      simp only [hu, toEnd_ext, unblk_self, nth_zero, nth_succ]
      exact .some ⟨g', ats, _, y', _, _, _, _, _, _, _, _, rfl, b', by simp⟩
  rintro _ ⟨g', ats', its', y', d1, d2, d3, d4, d5, d6, d7, d8, rfl, b', hl'⟩
  simp only [toEnd_nrm, nth_zero, nth_succ, dBin_sub, bs, hw]
  exact .some ⟨g', ats', its', y', _, _, _, _, _, _, _, _, _, rfl, b', hl'⟩
structure Bat where
  hs : Int
  nu : Int
  its : List It
  d : D
  hd : SlOf 11 itr its d
def batr (b : Bat) : List D := [.int .i64 b.hs, .int .i64 b.nu, b.d]
structure BatOK (host : Int) (b : Bat) : Prop where
  hs : b.hs = host
  n3 : b.its.length ≤ 3
  it : ∀ i ∈ b.its, BIt host i
  nu0 : 0 ≤ b.nu
  nu9 : b.nu ≤ 12
theorem batr_oks (n : Nat) (b : Bat) : ∀ d ∈ batr b, Ok n d := by
  intro d hd
  simp [-bind_some, batr] at hd
  rcases hd with rfl | rfl | rfl
  · constructor
  · constructor
  · exact slof_ok b.hd fun i _ => itr_oks _ i
theorem row_ne {g : Hp} {a b T z T' z' : Nat} {r r' : List (List D)} (ha : g[a]? = some (.row T z r)) (hb : g[b]? = some (.row T' z' r')) (hn : T ≠ T') : a ≠ b := by
  rintro rfl
  have e := ha.symm.trans hb
  injection e with e
  injection e with e
  exact hn e
theorem own_ne {g : Hp} {b n e z T' z' : Nat} {rows r' : List (List D)} {d : D} (ha : Own g n e z rows d) (hb : g[b]? = some (.row T' z' r')) (hn : e ≠ T') : ¬ d.inOb b := by
  rintro ⟨z1, n1, hin⟩
  rcases ha with ⟨hx, _⟩ | ⟨ob, _, hx, hg⟩
  · rw [hx] at hin; cases hin
  · rw [hx] at hin
    injection hin with _ hin
    exact row_ne hg hb hn hin
theorem app_bt {h : Hp} {o : Nat} {host : Int} {ps : List (List It × D)} {qa : Nat} {g : Hp} {x : D} {bt : List (List It × D × Int)} {ats : List Nat} (B : BtI h o host ps qa g x bt ats) (ho : o < h.length) (hl : bt.length ≤ 1000) (p : List It × D × Int)
    (hp : Own g h.length ty74 11 (p.1.map itr) p.2.1 ∧ p.1.length ≤ 3 ∧ (∀ i ∈ p.1, BIt host i) ∧ 0 ≤ p.2.2 ∧ p.2.2 ≤ 12) {β : Type} {f : D × Hp → Option β} {Q : β → Prop} (k : ∀ x' g', BtI h o host ps qa g' x' (bt ++ [p]) ats → (∀ q, x'.inOb q → x.inOb q ∨ g.length ≤ q) → g.length ≤ g'.length → Wp (f (x', g')) Q) :
    Wp ((dAppend tab g ty1059 ty1059 x (.sl 3 true [bRow host p])).bind f) Q := by
  refine wap1059 B.len B.out (rowsOf_sl _ _ _ _) (by simp; omega) fun x' g' ow len bel keep fre => k x' g' ?_ fre len
  have qal := (List.getElem?_eq_some_iff.1 B.at_).1
  refine ⟨Nat.le_trans B.len len, fun q hq hn => (bel q hq).trans (B.gr q hq hn), B.cd.keep (bel o ho), B.qa0, (keep qa qal (own_ne B.out B.at_ (by decide))).trans B.at_, B.al, B.ab, ?_, fun p' hp' => ?_⟩
  · rw [List.map_append]; exact ow
  · have kp : ∀ p' : List It × D × Int, Own g h.length ty74 11 (p'.1.map itr) p'.2.1 → Own g' h.length ty74 11 (p'.1.map itr) p'.2.1 := fun p' w => w.keep fun q hq hin => keep q (w.lt hin).2 (own_dis w B.out (by decide) hin)
    rcases List.mem_append.1 hp' with hm | hm
    · exact ⟨kp _ (B.its p' hm).1, (B.its p' hm).2⟩
    · simp only [List.mem_singleton] at hm
      subst hm
      exact ⟨kp _ hp.1, hp.2⟩
theorem BtI.same {h : Hp} {o : Nat} {host : Int} {ps : List (List It × D)} {qa : Nat} {g g' : Hp} {x : D} {bt : List (List It × D × Int)} {ats : List Nat} (B : BtI h o host ps qa g x bt ats) (ho : o < h.length) (hcd : CD g' o) (hs : Same o g g') : BtI h o host ps qa g' x bt ats := by
  have h1 := B.qa0
  exact ⟨by rw [hs.1]; exact B.len, fun q hq hn => (hs.2 q hn).trans (B.gr q hq hn), hcd, B.qa0, (hs.2 qa (by omega)).trans B.at_, B.al, B.ab, B.out.same hs ho, fun p hp => ⟨(B.its p hp).1.same hs ho, (B.its p hp).2⟩⟩
theorem bats_of {h g : Hp} {host : Int} : ∀ (bt : List (List It × D × Int)), (∀ p ∈ bt, Own g h.length ty74 11 (p.1.map itr) p.2.1 ∧ p.1.length ≤ 3 ∧ (∀ i ∈ p.1, BIt host i) ∧ 0 ≤ p.2.2 ∧ p.2.2 ≤ 12) →
    ∃ l : List Bat, l.map batr = (bt.map (bRow host)).map (fun row => row.map (frz h.length g 3)) ∧ l.length = bt.length ∧ ∀ b ∈ l, BatOK host b
  | [], _ => ⟨[], rfl, rfl, by simp⟩
  | p :: r, hp => by
    obtain ⟨l, h1, h2, h3⟩ := bats_of r fun q hq => hp q (by simp [-bind_some, hq])
    obtain ⟨ow, hl, hi, hu0, hu9⟩ := hp p (by simp)
    have hsl := own_sl (n0 := h.length) (n := 2) ow (Nat.le_refl _) (fun a _ => itr_frz _ g 1 a)
    refine ⟨⟨host, p.2.2, p.1, _, hsl⟩ :: l, ?_, by simp [-bind_some, h2], fun b hb => ?_⟩
    · simp only [List.map_cons, h1]
      simp [-bind_some, batr, bRow]
    · rcases List.mem_cons.1 hb with rfl | hb
      · exact ⟨rfl, hl, hi, hu0, hu9⟩
      · exact h3 b hb
theorem mk82 (g : Hp) (n : Nat) (hn : n ≤ 100) : dMake tab g ty82 (.int .i64 n) (.int .i64 n) = some (.msl 1 g.length 0 n, dNew g ty3 1 ((List.replicate n 0).map atR)) := by
  have h1 : tab ty82 = some ti82 := id rfl
  have h2 : ti82.td = .sl ty3 := id rfl
  have h3 : tab ty3 = some ti3 := id rfl
  have h4 : ti3.sz = 1 := id rfl
  have h5 : ti3.zero = atR 0 := id rfl
  have h6 : lim n ti3.by_ = true := lim_ok (by have : ti3.by_ = 8 := rfl; rw [this]; omega) (by omega)
  have h7 : (0 : Int) ≤ (n : Int) := by omega
  simp [-bind_some, dMake, h1, h2, h3, h4, h5, h6]
theorem d1088 {h : Hp} {o : Nat} (hc : CD h o) (host most : Int) (h0 : 0 ≤ host) (h9 : host ≤ 999) (hm0 : 0 ≤ most) (hm1 : most ≤ 100) : ∃ x h', R fn1088 [.ptr o 0 0, .int .i64 host, .int .i64 most] h = some (x, h') ∧ CD h' o ∧ Same o h h' ∧ ∃ l : List Bat, SlOf 3 batr l x ∧ 1 ≤ l.length ∧ l.length ≤ 24 ∧ ∀ b ∈ l, BatOK host b := by
  suffices Wp (R fn1088 [.ptr o 0 0, .int .i64 host, .int .i64 most] h) (fun p => CD p.2 o ∧ Same o h p.2 ∧ ∃ l : List Bat, SlOf 3 batr l p.1 ∧ 1 ≤ l.length ∧ l.length ≤ 24 ∧ ∀ b ∈ l, BatOK host b) by
    obtain ⟨⟨x, h'⟩, h1, h2⟩ := this
    exact ⟨x, h', h1, h2⟩
  have ho := hc.lt
  rw [e1088]
  simp only [F1088, bs, Option.bind_assoc]
  obtain ⟨dps, g0, e0, c0, s0, ps, hps, hn3, hn1, hf⟩ := d71n hc host most hm0 hm1
  refine Wp.step e0 ?_
  simp only [lens111 hps, mk82 g0 ps.length (by omega), bs]
  have hg0 : g0.length = h.length := s0.1
  have B0 : BtI h o host ps g0.length (dNew g0 ty3 1 ((List.replicate ps.length 0).map atR)) .nils [] (List.replicate ps.length 0) := by
    refine ⟨by simp [-bind_some, dNew]; omega, fun q hq hn => ?_, c0.keep (dNew_old _ _ _ _ (by omega)), by omega, dNew_get _ _ _ _, by simp, fun f n p hn hp => ?_, Own.nils _ _ _ _, by simp⟩
    · rw [dNew_old _ _ _ _ (by omega)]; exact s0.2 q hn
    · have := List.mem_of_getElem? hn
      simp at this
      omega
  generalize hqa : g0.length = qa at B0
  generalize dNew g0 ty3 1 ((List.replicate ps.length 0).map atR) = g1 at B0
  generalize List.replicate ps.length 0 = ats0 at B0
  refine Wp.loop (fun k ds g => ∃ x a2 a3 a4 a5 a6 a7 a8 a9 b1 b2 b3 b4 b5 bt ats, ∃ n : Nat, ds = [x, .int .i64 n, a2, a3, a4, a5, a6, a7, a8, a9, b1, b2, b3, b4, b5] ∧ k + n = 12 ∧ BtI h o host ps qa g x bt ats ∧ bt.length ≤ 2 * n ∧ n ≤ bt.length)
    (fun r => ∃ x a1 a2 a3 a4 a5 a6 a7 a8 a9 b1 b2 b3 b4 b5 bt ats, r.1 = .ext 0 ∧ r.2.1 = [x, a1, a2, a3, a4, a5, a6, a7, a8, a9, b1, b2, b3, b4, b5] ∧ BtI h o host ps qa r.2.2 x bt ats ∧ 1 ≤ bt.length ∧ bt.length ≤ 24) 12
    ⟨_, _, _, _, _, _, _, _, _, _, _, _, _, _, [], ats0, 0, rfl, rfl, B0, by simp, by simp⟩ ?_ ?_
  · rintro k ds g ⟨x, a2, a3, a4, a5, a6, a7, a8, a9, b1, b2, b3, b4, b5, bt, ats, n, rfl, hk, B, hbl, hbn⟩
    simp only [F1088_L0, nth_zero, nth_succ, bs, Option.bind_assoc, dBin_lss]
    refine Wp.dif ?_ ?_
    · intro hlt
      have hlt : n < 12 := by have : (n : Int) < 12 := by simpa using hlt
                              omega
      have hwn : IntKind.wrap .i64 ((n : Int) + 1) = ((n + 1 : Nat) : Int) := by
        rw [wrap_i64 (by omega) (by omega)]; omega
      simp only [bd1064_0_1, bs]
      have hgl := B.len
      have hold : ∀ q, q < g.length → (dNew g ty1064 3 [[.int .i64 0, .int .i64 0, .nils]])[q]? = g[q]? := fun q hq => dNew_old _ _ _ _ hq
      have hzz : (dNew g ty1064 3 [[.int .i64 0, .int .i64 0, .nils]])[g.length]? = some (.row ty1064 3 [[.int .i64 0, .int .i64 0, .nils]]) := dNew_get _ _ _ _
      have hzl : (dNew g ty1064 3 [[.int .i64 0, .int .i64 0, .nils]]).length = g.length + 1 := by simp [-bind_some, dNew]
      generalize hp11 : ((D.ptr g.length 0 0, dNew g ty1064 3 [[.int .i64 0, .int .i64 0, .nils]]) : D × Hp) = p11
      have hp1 : p11.1 = .ptr g.length 0 0 := by rw [← hp11]
      generalize dNew g ty1064 3 [[.int .i64 0, .int .i64 0, .nils]] = g2 at hold hzz hzl
      have qal := (List.getElem?_eq_some_iff.1 B.at_).1
      have L : BtL h o qa g.length x bt := ⟨hgl, ho, qal, fun q hq => (B.out.lt hq).2, fun p hp q hq => ((B.its p hp).1.lt hq).2⟩
      refine wst1064 hzz (by rfl) (by rfl) (by simp) (by rfl) fun g3 q3 s3 => ?_
      replace q3 : g3[g.length]? = some (.row ty1064 3 [[.int .i64 host, .int .i64 n, .nils]]) := q3
      have B3 := B.keep L (B.cd.keep ((s3.2 o (by omega)).trans (hold o (by omega)))) (by rw [s3.1]; omega) (fun q hq _ => (s3.2 q (by omega)).trans (hold q hq))
      have bn : BnI h o host ps qa x bt g.length n g3 ats [] .nils := ⟨B3, by rw [s3.1]; omega, q3, Own.nils _ _ _ _, by simp⟩
      try simp only [bs]
      obtain ⟨v, g4, e4, c4, s4, v0, v1⟩ := next_b bn.B.cd 3 (by omega) (by omega)
      refine Wp.step e4 ?_
      have bn4 := bn.next L c4 s4
      obtain ⟨m, rfl⟩ := Int.eq_ofNat_of_zero_le v0
      have hw1 : IntKind.wrap .i64 (1 + (m : Int)) = ((m + 1 : Nat) : Int) := by
        rw [wrap_i64 (by omega) (by omega)]; omega
      simp only [dBin_add, hw1, bs, Option.bind_assoc]
      refine Wp.loop (fun k ds g' => ∃ c1 c2 c3 c4 c5 c6 c7 c8 c9 ats its y, ds = [.int .i64 (k : Nat), c1, c2, c3, c4, c5, c6, c7, c8, c9] ∧ k ≤ 3 ∧ its.length + k ≤ 3 ∧ BnI h o host ps qa x bt g.length n g' ats its y)
        (fun r => ∃ c0 c1 c2 c3 c4 c5 c6 c7 c8 c9 ats its y, r.1 = .ext 2 ∧ r.2.1 = [c0, c1, c2, c3, c4, c5, c6, c7, c8, c9] ∧ its.length ≤ 3 ∧ BnI h o host ps qa x bt g.length n r.2.2 ats its y) (m + 1)
        ⟨_, _, _, _, _, _, _, _, _, ats, [], .nils, rfl, by omega, by simp; omega, bn4⟩ ?_ ?_
      · rintro k' ds g' ⟨c1, c2, c3, c4, c5, c6, c7, c8, c9, ats', its', y', rfl, hk3, hlk, bn'⟩
        rcases Nat.eq_zero_or_pos k' with rfl | hpos
        · simp only [F1088_L1, nth_zero, nth_succ, bs, dBin_gtr]
          exact .some (.inr ⟨by simp, _, _, _, _, _, _, _, _, _, _, ats', its', y', rfl, rfl, by omega, bn'⟩)
        · refine (b1088 L hps hf hn1 hn3 hm1 h0 h9 bn' (by omega) p11 hp1 k' hpos (by omega) _ _ _ _ _ _ _ _ _).mono ?_
          rintro _ ⟨g'', ats'', its'', y'', d1, d2, d3, d4, d5, d6, d7, d8, d9, rfl, bn'', hl''⟩
          exact .inl ⟨rfl, k' - 1, by omega, d1, d2, d3, d4, d5, d6, d7, d8, d9, ats'', its'', y'', rfl, by omega, by omega, bn''⟩
      · rintro ⟨ex, ds, g'⟩ ⟨c0', c1, c2, c3, c4, c5, c6, c7, c8, c9, ats', its', y', q1, q2, hl3, bn'⟩
        simp only at q1 q2 bn'
        subst q1; subst q2
        simp only [unblk_self, toEnd_nrm, nth_zero, nth_succ, bs, Option.bind_assoc, hp1]
        have hld : dLoad tab g' ty1064 (.ptr g.length 0 0) = some (.agg [.int .i64 host, .int .i64 n, y']) := by
          rw [ldp1064, row_of bn'.pr]; rfl
        simp only [hld, bs, bs1059_1]
        have hpb := bn'.pg
        refine app_bt bn'.B ho (by omega) (its', y', (n : Int)) ⟨bn'.ow.from (by omega), hl3, bn'.ok, by show (0 : Int) ≤ (n : Int); omega, by show (n : Int) ≤ 12; omega⟩ fun x1 g5 B5 fre5 len5 => ?_
        try simp only [bs]
        obtain ⟨u, g6, e6, c6, s6, u0, u1⟩ := next_b B5.cd 4 (by omega) (by omega)
        refine Wp.step e6 ?_
        have B6 := B5.same ho c6 s6
        have hlen : (bt ++ [(its', y', (n : Int))]).length = bt.length + 1 := by simp
        have hdec : decide ((0 : Int) < ((bt ++ [(its', y', (n : Int))]).length : Int)) = true := decide_eq_true (by rw [hlen]; omega)
        generalize bt ++ [(its', y', (n : Int))] = bt1 at B5 B6 hlen hdec
        have hlo := leno1059 B6.out
        rw [List.length_map] at hlo
        simp only [dBin_eql, bs, gd_bool, hlo, dBin_gtr, hdec, Option.bind_assoc]
        have fin : ∀ (q : Bool) (R1 : Option D), (R1 = some (.bool q)) → True := fun _ _ _ => trivial
        generalize hq3 : decide (u = (3 : Int)) = b3
        have hpk : ((if b3 = true then some x1 else some D.und).bind fun t131 => (if b3 = true then dLenT tab ty1059 t131 else some .und).bind fun t132 => (if b3 = true then dBin tab .gtr ty3 t132 (.int .i64 0) else some .und).bind fun t133 => dPick (.bool b3) t133 (.bool false)) = some (.bool b3) := by
          cases b3
          · simp [-bind_some]
          · simp only [if_true, bs, hlo, dBin_gtr, hdec, dPick_bool]
        cases b3
        · simp only [Bool.false_eq_true, if_false, bs, dPick_bool, dIf_bool, toEnd_nrm, unblk_nrm, nth_zero, dBin_add, hwn]
          exact .some (.inl ⟨rfl, k - 1, by omega, x1, _, _, _, _, _, _, _, _, _, _, _, _, _, bt1, ats', n + 1, rfl, by omega, B6, by omega, by omega⟩)
        · simp only [if_true, bs, hlo, dBin_gtr, hdec, dPick_bool, dIf_bool, Option.bind_assoc]
          obtain ⟨w, g7, e7, c7, s7, w0, w1⟩ := next_b B6.cd bt1.length (by omega) (by omega)
          refine Wp.step e7 ?_
          have B7 := B6.same ho c7 s7
          obtain ⟨j, rfl⟩ := Int.eq_ofNat_of_zero_le w0
          have hj : j < bt1.length := by omega
          obtain ⟨pj, hpj⟩ : ∃ p, bt1[j]? = some p := ⟨_, List.getElem?_eq_getElem hj⟩
          obtain ⟨ob, hob, rfl, hgo⟩ := own_ix B7.out (i := j) (by simpa using hj)
          have hjj : (0 : Int) ≤ (j : Int) ∧ (j : Int) < (((bt1.map (bRow host)).length : Nat) : Int) := by rw [List.length_map]; omega
          have hr : (bt1.map (bRow host))[j]? = some (bRow host pj) := by rw [List.getElem?_map, hpj]; rfl
          have hld2 : dLoad tab g7 ty1064 (.ptr ob j 0) = some (.agg (bRow host pj)) := by
            rw [ldp1064, row_of hgo, hr]; rfl
          have hbl2 : pLitF tab ty1059 1 [0] [.agg (bRow host pj)] = some (.sl 3 true [bRow host pj]) := id rfl
          simp only [ixm1059, hjj, and_self, if_true, Nat.zero_add, Int.toNat_natCast, bs, hld2, hbl2]
          refine app_bt B7 ho (by omega) pj (B7.its pj (List.mem_of_getElem? hpj)) fun x2 g8 B8 fre8 len8 => ?_
          simp only [bs, toEnd_nrm, unblk_nrm, nth_zero, dBin_add, hwn]
          exact .some (.inl ⟨rfl, k - 1, by omega, x2, _, _, _, _, _, _, _, _, _, _, _, _, _, bt1 ++ [pj], ats', n + 1, rfl, by omega, B8, by simp; omega, by simp; omega⟩)
    · intro hge
      have hge : n = 12 := by have : ¬ (n : Int) < 12 := by simpa using hge
                              omega
      exact .some (.inr ⟨by simp, x, _, _, _, _, _, _, _, _, _, _, _, _, _, _, bt, ats, rfl, rfl, B, by omega, by omega⟩)
  · rintro ⟨ex, ds, g⟩ ⟨x, a1, a2, a3, a4, a5, a6, a7, a8, a9, b1, b2, b3, b4, b5, bt, ats, q1, q2, B, hl1, hl24⟩
    simp only at q1 q2 B
    subst q1; subst q2
    simp only [unblk_self, toEnd_nrm, nth_zero, bs, mkRes_one]
    obtain ⟨l, h1, h2, h3⟩ := bats_of (g := g) bt B.its
    have hsl : SlOf 3 batr l (frz h.length g 4 x) := by
      rcases B.out with ⟨hx, hr⟩ | ⟨ob, hob, hx, hgo⟩
      · have : bt = [] := by simpa using hr
        subst this
        simp at hl1
      · right
        refine ⟨false, ?_⟩
        rw [hx, frz_msl hob hgo]
        simp only [List.drop_zero, List.take_length, h1]
    have S : St h o g := ⟨ho, B.cd, ⟨B.len, B.gr⟩⟩
    obtain ⟨h', hs, hcd, hsm⟩ := S.scope rfl (slof_ok hsl fun a _ => batr_oks _ a)
    rw [hs]
    exact .some ⟨hcd, hsm, l, hsl, by omega, by omega, h3⟩
theorem lnE_chain (to_ m : Int) (hm : 36 ≤ m) (ht : to_ ≤ 60000) : ∀ (ls : List Lin) (a : Int), 0 ≤ a → chain a ls to_ → lnE to_ m a ls = 0
  | [], a, _, _ => rfl
  | l :: r, a, ha, h => by
    obtain ⟨h1, h2, h3, h4, h5⟩ := h
    have hle := chain_le r _ _ h5
    have w1 : IntKind.wrap .i64 (to_ - a) = to_ - a := wrap_i64 (by omega) (by omega)
    have w2 : IntKind.wrap .i64 (a + l.len) = a + l.len := wrap_i64 (by omega) (by omega)
    unfold lnE
    rw [if_pos, if_neg (by omega), w2]
    · exact lnE_chain to_ m hm ht r _ (by omega) h5
    · rw [w1]
      refine ⟨h1, by omega, by omega, fun hh => ?_⟩
      obtain ⟨hr, hlt⟩ := hh
      subst hr
      have h5 : a + l.len = to_ := h5
      omega
theorem lines_chain {e : Ev} (m : Int) (hm : 36 ≤ m) (h0 : 0 ≤ e.a2) (ht : e.a3 ≤ 60000) (h1 : 1 ≤ e.ls.length) (h40 : e.ls.length ≤ 40) (hc : chain e.a2 e.ls e.a3) : linesE e m = 0 := by
  have g0 : ¬ e.ls.length = 0 := by omega
  have g1 : ¬ 40 < e.ls.length := by omega
  simp only [linesE, g0, g1, if_false]
  exact lnE_chain _ _ hm ht _ _ h0 hc
theorem good_itE {i : It} (h : (i.r = [] ∧ EvGood i.e) ∨ SkGood i) : itE i = 0 := by
  rcases h with ⟨hr, h⟩ | h
  · have pl := h.pl
    have hp : plB i.e = true := by
      have := pl.h0; have := pl.h9; have := pl.f0; have := pl.f9; have := pl.a0; have := pl.ab; have := pl.b9
      simp [-bind_some, plB]
      omega
    have ht : (decide (0 ≤ i.e.a5) && decide (i.e.a5 ≤ 253402300799999)) = true := by
      have := h.t0; have := h.t9
      simp [-bind_some]; omega
    have hl := lines_chain 2000 (by omega) pl.a0 pl.b9 h.l1 h.l4 h.ch
    have w1 : ¬ i.e.a6 < 1 := by have := h.w1; omega
    have htr : ¬ 32 < i.e.s7.length := by have := h.tr; omega
    have hst : ¬ 32 < i.e.s8.length := by have := h.st; omega
    have hs : sortF i.e.fs = (0, i.e.fs) := asc_sort h.fa h.f3 fun p hp => (h.fn p hp).1
    have hv : (i.e.fs.any fun p => decide (2000 < p.2.length)) = false := by
      rw [List.any_eq_false]
      intro p hp
      have := h.fv p hp
      simp [-bind_some]; omega
    simp [-bind_some, itE, hr, evE, hp, ht, w1, h.w3, hl, htr, hst, hs, hv]
  · have pl := h.pl
    have hp : plB i.e = true := by
      have := pl.h0; have := pl.h9; have := pl.f0; have := pl.f9; have := pl.a0; have := pl.ab; have := pl.b9
      simp [-bind_some, plB]
      omega
    have hl := lines_chain 60000 (by omega) pl.a0 pl.b9 h.l1 h.l4 h.ch
    have hr3 : ¬ 32 < i.r.length := by have := h.r3; omega
    simp [-bind_some, itE, h.r0, hr3, hp, hl, h.tm, h.w0, h.tr, h.st, h.fs]
    exact h.tx
theorem lt98_4_dup : ∀ s ∈ lt98_4, s ≠ ([42] : Str) := by decide
theorem s1094 (host : Int) (b : Bat) (h : Hp) (hb : BatOK host b) : R fn1094 [.agg (batr b)] h = some (.int .i64 0, h) := by
  suffices Wp (R fn1094 [.agg (batr b)] h) (fun p => p = (.int .i64 0, h)) by
    obtain ⟨p, h1, rfl⟩ := this
    exact h1
  have hn := hb.n3
  have hlen : ¬ (40 : Int) < (b.its.length : Int) := by omega
  rw [e1094]
  simp only [F1094, pBoxF_agg, batr, fa1064_2, ld113, lens113 b.hd, bs, Option.bind_assoc, dBin_gtr, hlen, decide_false, dIf_bool, Bool.false_eq_true, if_false]
  refine Wp.loop (fun k ds g => g = h ∧ ∃ a1 a2 a3 a4 a5 a6 a7, ∃ n : Nat, ds = [a1, a2, a3, .int .i64 n, a4, a5, a6, a7] ∧ k + n = b.its.length) (fun r => r.1 = .ext 0 ∧ r.2.2 = h) b.its.length ⟨rfl, _, _, _, _, _, _, _, 0, rfl, rfl⟩ ?_ ?_
  · rintro k ds g ⟨rfl, a1, a2, a3, a4, a5, a6, a7, n, rfl, hk⟩
    simp only [F1094_L0, nth_zero, nth_succ, bs, Option.bind_assoc, dBin_lss]
    refine Wp.dif ?_ ?_
    · intro h0
      have h0 : n < b.its.length := by have : (n : Int) < b.its.length := by simpa using h0
                                       omega
      obtain ⟨i, hi⟩ : ∃ i, b.its[n]? = some i := ⟨_, List.getElem?_eq_getElem h0⟩
      have hB := hb.it i (List.mem_of_getElem? hi)
      have hw : IntKind.wrap .i64 ((n : Int) + 1) = ((n + 1 : Nat) : Int) := by
        rw [wrap_i64 (by omega) (by omega)]; omega
      have hii : dIndexAddr tab ty113 b.d (.int .i64 (n : Int)) = some (.fptr (itr i)) := by rw [ixs113 b.hd]; simp [-bind_some, hi]
      have hck := s1042 i g (by have := hB.fs; omega)
      rw [good_itE hB.good] at hck
      have q0 : dFieldAddr tab ty31 0 (.fptr (evr i.e)) = some (.fptr (evr i.e)) := id rfl
      have q1 : dLoad tab g ty3 (.fptr (evr i.e)) = some (.int .i64 i.e.a0) := id rfl
      have hr : (i.r == ([42] : Str)) = false := by
        rcases hB.rule with hr | hr
        · rw [hr]; rfl
        · have := lt98_4_dup _ hr
          simpa using this
      simp only [hii, ldIt, boxIt, hck, bs, dBin_neq, ne_eq, not_true, decide_false, dIf_bool, Bool.false_eq_true, if_false, itF1, q0, q1, fa1064_0, ld3, hB.host, hb.hs, itF0, itL0, dBin_seql, hr, dBin_add, hw]
      exact .some (.inl ⟨rfl, k - 1, by omega, rfl, _, _, _, _, _, _, _, n + 1, rfl, by omega⟩)
    · intro h0
      exact .some (.inr ⟨by simp, rfl, rfl⟩)
  · rintro ⟨ex, ds, g⟩ ⟨q1, q2⟩
    simp only at q1 q2
    subst q1; subst q2
    simp only [unblk_self, toEnd_nrm, bs, mkRes_one]
    exact .some rfl
structure SOrd {α : Type} (c : α → α → Int) (S Pre : α → α → Prop) : Prop where
  tr : ∀ x y z, S x y → S y z → S x z
  lt : ∀ x y, Pre x y → c y x < 0 → S y x
  ge : ∀ x y, Pre x y → ¬ c y x < 0 → S x y
theorem pw_ins {α : Type} {c : α → α → Int} {S Pre : α → α → Prop} (o : SOrd c S Pre) {A1 A2 : List α} {x : α} (hA : (A1 ++ A2).Pairwise S) (hp : ∀ y ∈ A1 ++ A2, Pre y x)
    (h2 : A2 = [] ∨ ∃ y r, A2 = y :: r ∧ c x y < 0) (h1 : A1 = [] ∨ ∃ y r, A1 = r ++ [y] ∧ ¬ c x y < 0) : (A1 ++ x :: A2).Pairwise S := by
  rw [List.pairwise_append] at hA ⊢
  obtain ⟨p1, p2, p3⟩ := hA
  have q1 : ∀ a ∈ A1, S a x := by
    rcases h1 with rfl | ⟨y, r, rfl, hy⟩
    · intro a ha; cases ha
    · intro a ha
      have hyx : S y x := o.ge y x (hp y (by simp)) hy
      rw [List.pairwise_append] at p1
      rcases List.mem_append.1 ha with ha | ha
      · exact o.tr _ _ _ (p1.2.2 a ha y (by simp)) hyx
      · simp at ha; subst ha; exact hyx
  have q2 : ∀ b ∈ A2, S x b := by
    rcases h2 with rfl | ⟨y, r, rfl, hy⟩
    · intro a ha; cases ha
    · intro b hb
      have hxy : S x y := o.lt y x (hp y (by simp)) hy
      rw [List.pairwise_cons] at p2
      rcases List.mem_cons.1 hb with rfl | hb
      · exact hxy
      · exact o.tr _ _ _ hxy (p2.1 b hb)
  refine ⟨p1, List.pairwise_cons.2 ⟨q2, p2⟩, fun a ha b hb => ?_⟩
  rcases List.mem_cons.1 hb with rfl | hb
  · exact q1 a ha
  · exact p3 a ha b hb
theorem dn_spec {α : Type} (c : α → α → Int) (P : List α) (x : α) : ∀ (R : List α) (Q : List α), ∃ A1 A2, R.reverse = A1 ++ A2 ∧ dn c P.length (P.length + R.length) (P ++ R.reverse ++ x :: Q) = P ++ A1 ++ x :: A2 ++ Q ∧
    (A2 = [] ∨ ∃ y r, A2 = y :: r ∧ c x y < 0) ∧ (A1 = [] ∨ ∃ y r, A1 = r ++ [y] ∧ ¬ c x y < 0)
  | [], Q => ⟨[], [], rfl, by
      cases P with
      | nil => simp [-bind_some, dn]
      | cons p P =>
        simp only [List.length_cons, List.length_nil, Nat.add_zero, List.reverse_nil, List.append_nil]
        unfold dn
        split
        · rw [if_neg (by omega)]; simp [-bind_some]
        · simp [-bind_some], .inl rfl, .inl rfl⟩
  | y :: R, Q => by
    have g1 : (P ++ (y :: R).reverse ++ x :: Q)[P.length + R.length + 1]? = some x := by
      rw [List.getElem?_append_right (by simp; omega)]
      simp [-bind_some]
      try (have : P.length + R.length + 1 - (P.length + (R.length + 1)) = 0 := by omega
           rw [this]; rfl)
    have g0 : (P ++ (y :: R).reverse ++ x :: Q)[P.length + R.length]? = some y := by
      rw [List.getElem?_append_left (by simp), List.getElem?_append_right (by omega)]
      simp [-bind_some]
    rw [List.length_cons, ← Nat.add_assoc]
    unfold dn
    rw [g1, g0]
    simp only
    by_cases hc : c x y < 0
    · rw [if_pos ⟨by omega, hc⟩]
      have hs : ((P ++ (y :: R).reverse ++ x :: Q).set (P.length + R.length + 1) y).set (P.length + R.length) x = P ++ R.reverse ++ x :: (y :: Q) := by
        have e1 : P ++ (y :: R).reverse ++ x :: Q = (P ++ R.reverse) ++ y :: x :: Q := by simp
        rw [e1]
        have l1 : (P ++ R.reverse).length = P.length + R.length := by simp
        rw [List.set_append_right _ _ (by omega), List.set_append_right _ _ (by omega), l1]
        have : P.length + R.length + 1 - (P.length + R.length) = 1 := by omega
        rw [this, Nat.sub_self]
        rfl
      rw [hs]
      obtain ⟨A1, A2, h1, h2, h3, h4⟩ := dn_spec c P x R (y :: Q)
      refine ⟨A1, A2 ++ [y], by simp [-bind_some, h1], by rw [h2]; simp [-bind_some], ?_, h4⟩
      rcases h3 with rfl | ⟨u, r, rfl, hu⟩
      · exact .inr ⟨y, [], rfl, hc⟩
      · exact .inr ⟨u, r ++ [y], rfl, hu⟩
    · rw [if_neg (fun hh => hc hh.2)]
      exact ⟨(y :: R).reverse, [], by simp, by simp, .inl rfl, .inr ⟨y, R.reverse, by simp, hc⟩⟩
theorem dn_ins {α : Type} (c : α → α → Int) (P A Q : List α) (x : α) : ∃ A1 A2, A = A1 ++ A2 ∧ dn c P.length (P.length + A.length) (P ++ A ++ x :: Q) = P ++ A1 ++ x :: A2 ++ Q ∧
    (A2 = [] ∨ ∃ y r, A2 = y :: r ∧ c x y < 0) ∧ (A1 = [] ∨ ∃ y r, A1 = r ++ [y] ∧ ¬ c x y < 0) := by
  have := dn_spec c P x A.reverse Q
  simpa using this
theorem isr_ok {α : Type} {c : α → α → Int} {S Pre : α → α → Prop} (o : SOrd c S Pre) (P Q : List α) : ∀ (B A : List α), A.Pairwise S → (∀ x ∈ A, ∀ y ∈ B, Pre x y) → B.Pairwise Pre →
    ∃ C, isr c P.length (P.length + A.length) B.length (P ++ A ++ B ++ Q) = P ++ C ++ Q ∧ C.Perm (A ++ B) ∧ C.Pairwise S
  | [], A, hA, _, _ => ⟨A, by simp [-bind_some, isr], by simp, hA⟩
  | x :: B, A, hA, hp, hB => by
    rw [List.pairwise_cons] at hB
    obtain ⟨A1, A2, rfl, h2, h3, h4⟩ := dn_ins c P A (B ++ Q) x
    have hA' : (A1 ++ x :: A2).Pairwise S := pw_ins o hA (fun y hy => hp y hy x (by simp)) h3 h4
    have e1 : P ++ (A1 ++ A2) ++ x :: B ++ Q = P ++ (A1 ++ A2) ++ x :: (B ++ Q) := by simp
    have hpm : (A1 ++ x :: A2).Perm (x :: (A1 ++ A2)) := List.perm_middle
    obtain ⟨C, q1, q2, q3⟩ := isr_ok o P Q B (A1 ++ x :: A2) hA' (fun u hu v hv => by
      rcases List.mem_cons.1 (hpm.mem_iff.1 hu) with rfl | hu
      · exact hB.1 v hv
      · exact hp u hu v (by simp [-bind_some, hv])) hB.2
    refine ⟨C, ?_, q2.trans ?_, q3⟩
    · rw [List.length_cons]
      unfold isr
      rw [e1, h2, ← q1]
      have e2 : P.length + (A1 ++ A2).length + 1 = P.length + (A1 ++ x :: A2).length := by simp; omega
      have e3 : P ++ A1 ++ x :: A2 ++ (B ++ Q) = P ++ (A1 ++ x :: A2) ++ B ++ Q := by simp
      rw [e2, e3]
    · have : ((A1 ++ x :: A2) ++ B).Perm ((x :: (A1 ++ A2)) ++ B) := hpm.append_right B
      refine this.trans ?_
      simpa using (List.perm_middle (l₁ := A1 ++ A2) (l₂ := B) (a := x)).symm
inductive Blk {α : Type} (S Pre : α → α → Prop) (k : Nat) : List α → Prop
  | last (A : List α) (hl : A.length ≤ k) (hs : A.Pairwise S) : Blk S Pre k A
  | cons (A Y : List α) (hl : A.length = k) (hs : A.Pairwise S) (hp : ∀ x ∈ A, ∀ y ∈ Y, Pre x y) (hY : Blk S Pre k Y) : Blk S Pre k (A ++ Y)
theorem Blk.all {α : Type} {S Pre : α → α → Prop} {k : Nat} {l : List α} (h : Blk S Pre k l) (hl : l.length ≤ k) : l.Pairwise S := by
  cases h with
  | last _ _ hs => exact hs
  | cons A Y hA hs hp hY =>
    have : Y = [] := by
      simp at hl
      exact List.length_eq_zero_iff.1 (by omega)
    subst this
    simpa using hs
theorem Blk.fst {α : Type} {S Pre : α → α → Prop} {k : Nat} {l : List α} (h : Blk S Pre k l) (hl : k ≤ l.length) : ∃ A Y, l = A ++ Y ∧ A.length = k ∧ A.Pairwise S ∧ (∀ x ∈ A, ∀ y ∈ Y, Pre x y) ∧ Blk S Pre k Y := by
  cases h with
  | last _ h1 hs => exact ⟨l, [], by simp, by omega, hs, by simp, .last [] (by simp) List.Pairwise.nil⟩
  | cons A Y hA hs hp hY => exact ⟨A, Y, rfl, hA, hs, hp, hY⟩
def CtxB {α : Type} (S Pre : α → α → Prop) (k : Nat) (X Y : List α) : Prop := ∀ Z : List α, Z.Perm Y → Blk S Pre k Z → Blk S Pre k (X ++ Z)
theorem CtxB.nil {α : Type} {S Pre : α → α → Prop} {k : Nat} {Y : List α} : CtxB S Pre k [] Y := fun Z _ h => h
theorem CtxB.step {α : Type} {S Pre : α → α → Prop} {k : Nat} {X A Y C : List α} (h : CtxB S Pre k X (A ++ Y)) (hC : C.Perm A) (hl : C.length = k) (hs : C.Pairwise S) (hp : ∀ x ∈ A, ∀ y ∈ Y, Pre x y) : CtxB S Pre k (X ++ C) Y := fun Z hZ hb => by
  rw [List.append_assoc]
  exact h (C ++ Z) (hC.append hZ) (.cons C Z hl hs (fun x hx y hy => hp x (hC.mem_iff.1 hx) y (hZ.mem_iff.1 hy)) hb)
theorem CtxB.done {α : Type} {S Pre : α → α → Prop} {k : Nat} {X Y Z : List α} (h : CtxB S Pre k X Y) (hZ : Z.Perm Y) (hl : Z.length ≤ k) (hs : Z.Pairwise S) : Blk S Pre k (X ++ Z) := h Z hZ (.last Z hl hs)
theorem halves {α : Type} {c : α → α → Int} {S Pre : α → α → Prop} (o : SOrd c S Pre) {A1 A2 B1 B2 C1 C2 : List α} (hA : (A1 ++ A2).Pairwise S) (hB : (B1 ++ B2).Pairwise S) (hp : ∀ x ∈ A1 ++ A2, ∀ y ∈ B1 ++ B2, Pre x y)
    (h1 : A1 = [] ∨ B2 = [] ∨ ∃ x y r s, A1 = r ++ [x] ∧ B2 = y :: s ∧ ¬ c y x < 0) (h2 : A2 = [] ∨ B1 = [] ∨ ∃ x y r s, B1 = r ++ [y] ∧ A2 = x :: s ∧ c y x < 0)
    (p1 : C1.Perm (A1 ++ B1)) (s1 : C1.Pairwise S) (p2 : C2.Perm (A2 ++ B2)) (s2 : C2.Pairwise S) : (C1 ++ C2).Perm ((A1 ++ A2) ++ (B1 ++ B2)) ∧ (C1 ++ C2).Pairwise S := by
  rw [List.pairwise_append] at hA hB
  have x1 : ∀ x ∈ A1, ∀ y ∈ B2, S x y := by
    intro x hx y hy
    rcases h1 with rfl | rfl | ⟨u, v, r, s, rfl, rfl, huv⟩
    · cases hx
    · cases hy
    · have huv : S u v := o.ge u v (hp u (by simp) v (by simp)) huv
      have q1 : x = u ∨ S x u := by
        have := hA.1
        rw [List.pairwise_append] at this
        rcases List.mem_append.1 hx with hx | hx
        · exact .inr (this.2.2 x hx u (by simp))
        · simp at hx; exact .inl hx
      have q2 : y = v ∨ S v y := by
        have := hB.2.1
        rw [List.pairwise_cons] at this
        rcases List.mem_cons.1 hy with rfl | hy
        · exact .inl rfl
        · exact .inr (this.1 y hy)
      rcases q1 with rfl | q1 <;> rcases q2 with rfl | q2
      · exact huv
      · exact o.tr _ _ _ huv q2
      · exact o.tr _ _ _ q1 huv
      · exact o.tr _ _ _ (o.tr _ _ _ q1 huv) q2
  have x2 : ∀ y ∈ B1, ∀ x ∈ A2, S y x := by
    intro y hy x hx
    rcases h2 with rfl | rfl | ⟨u, v, r, s, rfl, rfl, huv⟩
    · cases hx
    · cases hy
    · have huv : S v u := o.lt u v (hp u (by simp) v (by simp)) huv
      have q1 : y = v ∨ S y v := by
        have := hB.1
        rw [List.pairwise_append] at this
        rcases List.mem_append.1 hy with hy | hy
        · exact .inr (this.2.2 y hy v (by simp))
        · simp at hy; exact .inl hy
      have q2 : x = u ∨ S u x := by
        have := hA.2.1
        rw [List.pairwise_cons] at this
        rcases List.mem_cons.1 hx with rfl | hx
        · exact .inl rfl
        · exact .inr (this.1 x hx)
      rcases q1 with rfl | q1 <;> rcases q2 with rfl | q2
      · exact huv
      · exact o.tr _ _ _ huv q2
      · exact o.tr _ _ _ q1 huv
      · exact o.tr _ _ _ (o.tr _ _ _ q1 huv) q2
  refine ⟨?_, List.pairwise_append.2 ⟨s1, s2, fun a ha b hb => ?_⟩⟩
  · refine (p1.append p2).trans ?_
    have : (B1 ++ (A2 ++ B2)).Perm (A2 ++ (B1 ++ B2)) := by
      rw [← List.append_assoc, ← List.append_assoc]
      exact List.perm_append_comm.append_right B2
    simpa using this.append_left A1
  · rcases List.mem_append.1 (p1.mem_iff.1 ha) with ha | ha <;> rcases List.mem_append.1 (p2.mem_iff.1 hb) with hb | hb
    · exact hA.2.2 a ha b hb
    · exact x1 a ha b hb
    · exact x2 a ha b hb
    · exact hB.2.2 a ha b hb
theorem set_spl (row : List D) (off : Nat) (v : D) (hv : v.one = true) (ho : off < row.length) : spl row off (cells1 v) = row.set off v := by
  rw [(one_cells hv).1]
  simp only [spl, List.length_singleton]
  rw [List.set_eq_take_append_cons_drop, if_pos ho]
  simp [-bind_some]
def RdI (g : Hp) (its : List It) (d : D) : Prop := SlOf 11 itr its d ∨ ∃ n0, Own g n0 ty74 11 (its.map itr) d
theorem RdI.keep {g g' : Hp} {its : List It} {d : D} (hd : RdI g its d) (hk : ∀ q, q < g.length → g'[q]? = g[q]?) : RdI g' its d := by
  rcases hd with hd | ⟨n0, ow⟩
  · exact .inl hd
  · exact .inr ⟨n0, ow.keep fun q _ hx => hk q (ow.lt hx).2⟩
theorem rdI_len {g : Hp} {its : List It} {d : D} (hd : RdI g its d) : dLenT tab ty113 d = some (.int .i64 its.length) := by
  rcases hd with hd | ⟨n0, ow⟩
  · exact lens113 hd
  · rw [leno113 ow, List.length_map]
theorem rdI_ix {g : Hp} {its : List It} {d : D} (hd : RdI g its d) (n : Nat) (i : It) (hi : its[n]? = some i) : ∃ q, dIndexAddr tab ty113 d (.int .i64 n) = some q ∧ dLoad tab g ty74 q = some (.agg (itr i)) := by
  rcases hd with hd | ⟨n0, ow⟩
  · exact ⟨.fptr (itr i), by rw [ixs113 hd]; simp [-bind_some, hi], ldIt i g⟩
  · have hn : n < its.length := (List.getElem?_eq_some_iff.1 hi).1
    obtain ⟨o, ho, rfl, hob⟩ := own_ix ow (i := n) (by simpa using hn)
    refine ⟨.ptr o n 0, ?_, ?_⟩
    · rw [ixm113, if_pos (by simp; omega)]; simp [-bind_some]
    · have hr : (its.map itr)[n]? = some (itr i) := by rw [List.getElem?_map, hi]; rfl
      rw [ldp74, row_of hob, hr]
      rfl
def batx (hs nu : Int) (d : D) : List D := [.int .i64 hs, .int .i64 nu, d]
theorem bx0 (hs nu : Int) (d : D) : dFieldAddr tab ty1064 0 (.fptr (batx hs nu d)) = some (.fptr (batx hs nu d)) := id rfl
theorem bx2 (hs nu : Int) (d : D) : dFieldAddr tab ty1064 2 (.fptr (batx hs nu d)) = some (.fptr [d]) := id rfl
theorem bxl (hs nu : Int) (d : D) (g : Hp) : dLoad tab g ty3 (.fptr (batx hs nu d)) = some (.int .i64 hs) := id rfl
theorem set_mid {α : Type} (A B : List α) (x y : α) (n : Nat) (hn : A.length = n) : (A ++ x :: B).set n y = A ++ y :: B := by
  subst hn
  rw [List.set_append_right _ _ (Nat.le_refl _)]
  simp [-bind_some]
theorem get_midn {α : Type} (A B : List α) (x : α) (n : Nat) (hn : A.length = n) : (A ++ x :: B)[n]? = some x := by
  subst hn
  simp [-bind_some]
theorem fldL {g : Hp} {o n : Nat} {rows : List (Str × Str)} {p : Str × Str} (ho : g[o]? = some (.row ty109 2 (rows.map fld))) (hp : rows[n]? = some p) : dLoad tab g ty109 (.ptr o n 0) = some (.agg (fld p)) := by
  have hr : (rows.map fld)[n]? = some (fld p) := by rw [List.getElem?_map, hp]; rfl
  rw [ldp109, row_of ho, hr]
  rfl
theorem w1069 {g : Hp} {o N : Nat} {P X M Y Q : List (Str × Str)} (hN : N ≤ 1000000000) (hlen : (P ++ X ++ M ++ Y ++ Q).length = N) (hxy : X.length = Y.length) (ho : g[o]? = some (.row ty109 2 ((P ++ X ++ M ++ Y ++ Q).map fld))) (cmp : D) (a b k : Int) (ha : a = P.length) (hb : b = (P.length + X.length + M.length : Nat)) (hk : k = X.length) {β : Type} {f : D × Hp → Option β} {R1 : β → Prop}
    (K : ∀ g', g'[o]? = some (.row ty109 2 ((P ++ Y ++ M ++ X ++ Q).map fld)) → Same o g g' → Wp (f (mkRes [], g')) R1) : Wp ((R fn1069 [.msl 2 o 0 N, .int .i64 a, .int .i64 b, .int .i64 k, cmp] g).bind f) R1 := by
  subst ha hb hk
  rw [e1069]
  simp only [F1069, bs, Option.bind_assoc]
  simp only [List.length_append] at hlen
  refine Wp.loop (fun kk ds g' => ∃ x, ∃ i : Nat, ds = [.int .i64 i, x] ∧ kk + i = X.length ∧ Same o g g' ∧ g'[o]? = some (.row ty109 2 ((P ++ Y.take i ++ X.drop i ++ M ++ X.take i ++ Y.drop i ++ Q).map fld)))
    (fun r => r.1 = .ext 0 ∧ (∃ x y, r.2.1 = [x, y]) ∧ Same o g r.2.2 ∧ r.2.2[o]? = some (.row ty109 2 ((P ++ Y ++ M ++ X ++ Q).map fld))) X.length ⟨_, 0, rfl, rfl, ⟨rfl, fun _ _ => rfl⟩, by simpa using ho⟩ ?_ ?_
  · rintro kk ds g' ⟨x1, i, rfl, hk, sm, ho'⟩
    simp only [F1069_L0, nth_zero, nth_succ, bs, Option.bind_assoc, dBin_lss]
    refine Wp.dif ?_ ?_
    · intro h0
      have h0 : i < X.length := by have : (i : Int) < X.length := by simpa using h0
                                   omega
      obtain ⟨x, hx⟩ : ∃ x, X[i]? = some x := ⟨_, List.getElem?_eq_getElem h0⟩
      obtain ⟨y, hy⟩ : ∃ y, Y[i]? = some y := ⟨_, List.getElem?_eq_getElem (by omega)⟩
      have hdx : X.drop i = x :: X.drop (i + 1) := by
        obtain ⟨hn, hh⟩ := List.getElem?_eq_some_iff.1 hx
        rw [List.drop_eq_getElem_cons hn, hh]
      have hdy : Y.drop i = y :: Y.drop (i + 1) := by
        obtain ⟨hn, hh⟩ := List.getElem?_eq_some_iff.1 hy
        rw [List.drop_eq_getElem_cons hn, hh]
      have hw : IntKind.wrap .i64 ((i : Int) + 1) = ((i + 1 : Nat) : Int) := by
        rw [wrap_i64 (by omega) (by omega)]; omega
      have wa : IntKind.wrap .i64 ((P.length : Int) + i) = ((P.length + i : Nat) : Int) := by
        rw [wrap_i64 (by omega) (by omega)]; omega
      have wb : IntKind.wrap .i64 (((P.length + X.length + M.length : Nat) : Int) + i) = ((P.length + X.length + M.length + i : Nat) : Int) := by
        rw [wrap_i64 (by omega) (by omega)]; omega
      have e1 : P ++ Y.take i ++ X.drop i ++ M ++ X.take i ++ Y.drop i ++ Q = (P ++ Y.take i) ++ x :: (X.drop (i + 1) ++ M ++ X.take i ++ y :: (Y.drop (i + 1) ++ Q)) := by rw [hdx, hdy]; simp [-bind_some]
      have e2 : (P ++ Y.take i) ++ x :: (X.drop (i + 1) ++ M ++ X.take i ++ y :: (Y.drop (i + 1) ++ Q)) = (P ++ Y.take i ++ x :: (X.drop (i + 1) ++ M ++ X.take i)) ++ y :: (Y.drop (i + 1) ++ Q) := by simp
      have e3 : (P ++ Y.take i) ++ y :: (X.drop (i + 1) ++ M ++ X.take i ++ y :: (Y.drop (i + 1) ++ Q)) = (P ++ Y.take i ++ y :: (X.drop (i + 1) ++ M ++ X.take i)) ++ y :: (Y.drop (i + 1) ++ Q) := by simp
      have e4 : (P ++ Y.take i ++ y :: (X.drop (i + 1) ++ M ++ X.take i)) ++ x :: (Y.drop (i + 1) ++ Q) = P ++ Y.take (i + 1) ++ X.drop (i + 1) ++ M ++ X.take (i + 1) ++ Y.drop (i + 1) ++ Q := by
        rw [List.take_add_one, List.take_add_one, hx, hy]; simp [-bind_some]
      have n1 : (P ++ Y.take i).length = P.length + i := by simp; omega
      have n2 : ∀ z, (P ++ Y.take i ++ z :: (X.drop (i + 1) ++ M ++ X.take i)).length = P.length + X.length + M.length + i := fun z => by simp; omega
      rw [e1] at ho'
      have la := fldL ho' (get_midn _ _ x _ n1)
      have lb := fldL ho' (by rw [e2]; exact get_midn _ _ y _ (n2 x))
      have ia : dIndexAddr tab ty29 (.msl 2 o 0 N) (.int .i64 ((P.length + i : Nat) : Int)) = some (.ptr o (P.length + i) 0) := by rw [ixm29, if_pos (by omega), Int.toNat_natCast, Nat.zero_add]
      have ib : dIndexAddr tab ty29 (.msl 2 o 0 N) (.int .i64 ((P.length + X.length + M.length + i : Nat) : Int)) = some (.ptr o (P.length + X.length + M.length + i) 0) := by rw [ixm29, if_pos (by omega), Int.toNat_natCast, Nat.zero_add]
      simp only [dBin_add, wa, wb, ia, ib, la, lb, bs, Option.bind_assoc]
      have ra : (((P ++ Y.take i) ++ x :: (X.drop (i + 1) ++ M ++ X.take i ++ y :: (Y.drop (i + 1) ++ Q))).map fld)[P.length + i]? = some (fld x) := by rw [List.getElem?_map, get_midn _ _ x _ n1]; rfl
      refine wst109 (off := 0) (row := fld x) (v := .agg (fld y)) ho' ra (by rfl) (by exact Nat.le_refl _) (by rfl) fun g1 p1 w1 => ?_
      have p1 : g1[o]? = some (.row ty109 2 (((P ++ Y.take i ++ y :: (X.drop (i + 1) ++ M ++ X.take i)) ++ y :: (Y.drop (i + 1) ++ Q)).map fld)) := by
        rw [p1, show spl (fld x) 0 (cells1 (.agg (fld y))) = fld y from rfl, ← List.map_set, set_mid _ _ x y _ n1, e3]
      try simp only [bs]
      have rb : (((P ++ Y.take i ++ y :: (X.drop (i + 1) ++ M ++ X.take i)) ++ y :: (Y.drop (i + 1) ++ Q)).map fld)[P.length + X.length + M.length + i]? = some (fld y) := by rw [List.getElem?_map, get_midn _ _ y _ (n2 y)]; rfl
      refine wst109 (off := 0) (row := fld y) (v := .agg (fld x)) p1 rb (by rfl) (by exact Nat.le_refl _) (by rfl) fun g2 p2 w2 => ?_
      have p2 : g2[o]? = some (.row ty109 2 ((P ++ Y.take (i + 1) ++ X.drop (i + 1) ++ M ++ X.take (i + 1) ++ Y.drop (i + 1) ++ Q).map fld)) := by
        rw [p2, show spl (fld y) 0 (cells1 (.agg (fld x))) = fld x from rfl, ← List.map_set, set_mid _ _ y x _ (n2 y), e4]
      simp only [bs, hw]
      exact .some (.inl ⟨rfl, kk - 1, by omega, _, i + 1, rfl, by omega, (sm.trans w1).trans w2, p2⟩)
    · intro h0
      have h0 : i = X.length := by have : ¬ (i : Int) < X.length := by simpa using h0
                                   omega
      subst h0
      refine .some (.inr ⟨by simp, rfl, ⟨_, _, rfl⟩, sm, ?_⟩)
      rw [ho', hxy, List.take_length, List.drop_length, ← hxy, List.take_length, List.drop_length]
      simp [-bind_some]
  · rintro ⟨ex, ds, g'⟩ ⟨rfl, ⟨x, y, rfl⟩, sm, p⟩
    simp only [unblk_self, exEnd_nrm, bs]
    exact K g' p sm
theorem w1068 {g : Hp} {o N : Nat} {P U V Q : List (Str × Str)} (hN : N ≤ 1000000000) (hlen : (P ++ U ++ V ++ Q).length = N) (hU : 0 < U.length) (hV : 0 < V.length) (ho : g[o]? = some (.row ty109 2 ((P ++ U ++ V ++ Q).map fld))) (cmp : D) (a m b : Int) (ha : a = P.length) (hm : m = (P.length + U.length : Nat)) (hb : b = (P.length + U.length + V.length : Nat)) {β : Type} {f : D × Hp → Option β} {R1 : β → Prop}
    (K : ∀ g', g'[o]? = some (.row ty109 2 ((P ++ V ++ U ++ Q).map fld)) → Same o g g' → Wp (f (mkRes [], g')) R1) : Wp ((R fn1068 [.msl 2 o 0 N, .int .i64 a, .int .i64 m, .int .i64 b, cmp] g).bind f) R1 := by
  obtain ⟨mm, hmm⟩ : ∃ mm : Nat, mm = P.length + U.length := ⟨_, rfl⟩
  rw [← hmm] at hm
  subst ha hm hb
  have hl := hlen
  simp only [List.length_append] at hl
  have w1 : IntKind.wrap .i64 ((mm : Int) - (P.length : Int)) = (U.length : Int) := by rw [wrap_i64 (by omega) (by omega)]; omega
  have w2 : IntKind.wrap .i64 (((P.length + U.length + V.length : Nat) : Int) - (mm : Int)) = (V.length : Int) := by rw [wrap_i64 (by omega) (by omega)]; omega
  rw [e1068]
  simp only [F1068, bs, Option.bind_assoc, dBin_sub, w1, w2]
  refine Wp.loop (fun kk ds g' => ∃ x y, ∃ P' U' V' Q' : List (Str × Str), ds = [.int .i64 U'.length, .int .i64 V'.length, x, y] ∧ kk = U'.length + V'.length ∧ 0 < U'.length ∧ 0 < V'.length ∧ P'.length + U'.length = mm ∧ P' ++ V' ++ U' ++ Q' = P ++ V ++ U ++ Q ∧ (P' ++ U' ++ V' ++ Q').length = N ∧ Same o g g' ∧ g'[o]? = some (.row ty109 2 ((P' ++ U' ++ V' ++ Q').map fld)))
    (fun r => r.1 = .ext 0 ∧ ∃ x y, ∃ P' U' V' Q' : List (Str × Str), r.2.1 = [.int .i64 U'.length, .int .i64 V'.length, x, y] ∧ U'.length = V'.length ∧ P'.length + U'.length = mm ∧ P' ++ V' ++ U' ++ Q' = P ++ V ++ U ++ Q ∧ (P' ++ U' ++ V' ++ Q').length = N ∧ Same o g r.2.2 ∧ r.2.2[o]? = some (.row ty109 2 ((P' ++ U' ++ V' ++ Q').map fld)))
    (U.length + V.length) ⟨_, _, P, U, V, Q, rfl, rfl, hU, hV, by omega, rfl, hlen, ⟨rfl, fun _ _ => rfl⟩, ho⟩ ?_ ?_
  · rintro kk ds g' ⟨x, y, P', U', V', Q', rfl, hk, h1, h2, h3, h4, h5, sm, ho'⟩
    have hl' := h5
    simp only [List.length_append] at hl'
    simp only [F1068_L0, nth_zero, nth_succ, bs, Option.bind_assoc, dBin_neq]
    refine Wp.dif ?_ ?_
    · intro h0
      have h0 : U'.length ≠ V'.length := by have : ¬ (U'.length : Int) = V'.length := by simpa using h0
                                            omega
      simp only [dBin_gtr, bs]
      have wi : IntKind.wrap .i64 ((mm : Int) - (U'.length : Int)) = (P'.length : Int) := by rw [wrap_i64 (by omega) (by omega)]; omega
      by_cases hgt : V'.length < U'.length
      · have hd : decide ((U'.length : Int) > (V'.length : Int)) = true := decide_eq_true (by omega)
        obtain ⟨X, M, hXM, hXl⟩ : ∃ X M, U' = X ++ M ∧ X.length = V'.length := ⟨U'.take V'.length, U'.drop V'.length, (List.take_append_drop _ _).symm, by simp; omega⟩
        subst hXM
        simp only [List.length_append] at *
        have wd : IntKind.wrap .i64 (((X.length + M.length : Nat) : Int) - (V'.length : Int)) = (M.length : Int) := by rw [wrap_i64 (by omega) (by omega)]; omega
        simp only [hd, dIf_bool, if_true, dBin_sub, wi, wd, bs, Option.bind_assoc]
        refine w1069 (P := P') (X := X) (M := M) (Y := V') (Q := Q') hN (by simp only [List.length_append]; omega) hXl (by simpa using ho') cmp _ _ _ rfl (by omega) (by omega) fun g1 p1 s1' => ?_
        simp only [bs, unblk_nrm, nth_zero, nth_succ]
        rw [← hXl]
        refine .some (.inl ⟨rfl, M.length + X.length, by omega, _, _, P' ++ V', M, X, Q', rfl, rfl, by omega, by omega, by simp only [List.length_append]; omega, by rw [← h4]; simp [-bind_some], by simp only [List.length_append]; omega, sm.trans s1', by rw [p1]⟩)
      · have hd : decide ((U'.length : Int) > (V'.length : Int)) = false := decide_eq_false (by omega)
        obtain ⟨M, Y, hMY, hYl⟩ : ∃ M Y, V' = M ++ Y ∧ Y.length = U'.length := ⟨V'.take (V'.length - U'.length), V'.drop (V'.length - U'.length), (List.take_append_drop _ _).symm, by simp; omega⟩
        subst hMY
        simp only [List.length_append] at *
        have we : IntKind.wrap .i64 ((mm : Int) + ((M.length + Y.length : Nat) : Int)) = ((mm + (M.length + Y.length) : Nat) : Int) := by rw [wrap_i64 (by omega) (by omega)]; omega
        have wf' : IntKind.wrap .i64 (((mm + (M.length + Y.length) : Nat) : Int) - (U'.length : Int)) = ((P'.length + U'.length + M.length : Nat) : Int) := by rw [wrap_i64 (by omega) (by omega)]; omega
        have wd : IntKind.wrap .i64 (((M.length + Y.length : Nat) : Int) - (U'.length : Int)) = (M.length : Int) := by rw [wrap_i64 (by omega) (by omega)]; omega
        simp only [hd, dIf_bool, Bool.false_eq_true, if_false, dBin_sub, dBin_add, wi, we, wf', wd, bs, Option.bind_assoc]
        refine w1069 (P := P') (X := U') (M := M) (Y := Y) (Q := Q') hN (by simp only [List.length_append]; omega) hYl.symm (by simpa using ho') cmp _ _ _ rfl rfl rfl fun g1 p1 s1' => ?_
        simp only [bs, unblk_nrm, nth_zero, nth_succ]
        rw [← hYl]
        refine .some (.inl ⟨rfl, Y.length + M.length, by omega, _, _, P', Y, M, U' ++ Q', rfl, rfl, by omega, by omega, by omega, by rw [← h4]; simp [-bind_some], by simp only [List.length_append]; omega, sm.trans s1', by rw [p1]; simp [-bind_some]⟩)
    · intro h0
      have h0 : U'.length = V'.length := by have : (U'.length : Int) = V'.length := by simpa using h0
                                            omega
      exact .some (.inr ⟨by simp, rfl, _, _, P', U', V', Q', rfl, h0, h3, h4, h5, sm, ho'⟩)
  · rintro ⟨ex, ds, g'⟩ ⟨rfl, x, y, P', U', V', Q', rfl, h0, h3, h4, h5, sm, ho'⟩
    have hl' := h5
    simp only [List.length_append] at hl'
    have wi : IntKind.wrap .i64 ((mm : Int) - (U'.length : Int)) = (P'.length : Int) := by rw [wrap_i64 (by omega) (by omega)]; omega
    simp only [unblk_self, toEnd_nrm, nth_zero, nth_succ, bs, Option.bind_assoc, dBin_sub, wi]
    refine w1069 (P := P') (X := U') (M := []) (Y := V') (Q := Q') hN (by simp only [List.length_append, List.length_nil]; omega) h0 (by simpa using ho') cmp _ _ _ rfl (by simp only [List.length_nil]; omega) rfl fun g1 p1 s1' => ?_
    simp only [bs]
    refine K g1 ?_ (sm.trans s1')
    rw [p1, ← h4]
    simp [-bind_some]
theorem swap_wp {g : Hp} {o : Nat} {A B : List (Str × Str)} {x y : Str × Str} {n : Nat} (hn : A.length = n) (ho : g[o]? = some (.row ty109 2 ((A ++ x :: y :: B).map fld))) {β : Type} {f : Hp → Option β} {Q : β → Prop}
    (K : ∀ g', g'[o]? = some (.row ty109 2 ((A ++ y :: x :: B).map fld)) → Same o g g' → Wp (f g') Q) : Wp ((dStore tab g ty109 (.ptr o n 0) (.agg (fld y))).bind fun g1 => (dStore tab g1 ty109 (.ptr o (n + 1) 0) (.agg (fld x))).bind f) Q := by
  have ra : ((A ++ x :: y :: B).map fld)[n]? = some (fld x) := by rw [List.getElem?_map, get_midn _ _ x _ hn]; rfl
  refine wst109 (off := 0) (row := fld x) (v := .agg (fld y)) ho ra (by rfl) (by exact Nat.le_refl _) (by rfl) fun g1 p1 w1 => ?_
  have e1 : A ++ y :: y :: B = (A ++ [y]) ++ y :: B := by simp
  have n1 : (A ++ [y]).length = n + 1 := by simp [-bind_some, hn]
  have p1 : g1[o]? = some (.row ty109 2 (((A ++ [y]) ++ y :: B).map fld)) := by
    rw [p1, show spl (fld x) 0 (cells1 (.agg (fld y))) = fld y from rfl, ← List.map_set, set_mid _ _ x y _ hn, e1]
  have rb : (((A ++ [y]) ++ y :: B).map fld)[n + 1]? = some (fld y) := by rw [List.getElem?_map, get_midn _ _ y _ n1]; rfl
  refine wst109 (off := 0) (row := fld y) (v := .agg (fld x)) p1 rb (by rfl) (by exact Nat.le_refl _) (by rfl) fun g2 p2 w2 => ?_
  refine K g2 ?_ (w1.trans w2)
  rw [p2, show spl (fld y) 0 (cells1 (.agg (fld x))) = fld x from rfl, ← List.map_set, set_mid _ _ y x _ n1]
  simp [-bind_some]
end Go.Proofs.YthaajlepgblimaaDoor
