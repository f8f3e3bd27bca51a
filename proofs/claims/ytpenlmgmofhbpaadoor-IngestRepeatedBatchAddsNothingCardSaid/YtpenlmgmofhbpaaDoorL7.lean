/- Laws, on plain data, about functions that the statement reaches. -/
import Derived.Test.YtpenlmgmofhbpaaDoorL6
set_option linter.unusedSimpArgs false
set_option linter.unusedVariables false
set_option linter.unnecessarySimpa false
set_option maxRecDepth 100000
namespace Go.Proofs.YtpenlmgmofhbpaaDoor
open Go.Eng Go.Pi
theorem l1087_1 {l : List Bat} {d : D} (hd : SlOf 3 batr l d) {i : Nat} {b : Bat} (hi : l[i]? = some b) (hb : b.its.length ≤ 3) {ds : List D} (hds : nth 1 ds = .int .i64 i) {x : D} {g : Hp} {β : Type} {f : Out → Option β} {Q : β → Prop}
    (kk : ∀ r, (r.1 = .ext 2 ∧ nth 0 r.2.1 = .int .i64 (linesI b.its) ∧ r.2.2 = g) → Wp (f r) Q) : Wp ((loopW (F1087_L1 ds d) [.int .i64 0, .int .i64 0, x] g).bind f) Q := by
  refine Wp.loop (fun n ds' g' => g' = g ∧ ∃ a, ∃ k : Nat, ds' = [.int .i64 (linesI (b.its.take k)), .int .i64 k, a] ∧ n + k = b.its.length) (fun r => r.1 = .ext 2 ∧ nth 0 r.2.1 = .int .i64 (linesI b.its) ∧ r.2.2 = g) b.its.length ⟨rfl, _, 0, rfl, rfl⟩ ?_ kk
  rintro n ds' g' ⟨rfl, a, k, rfl, hn⟩
  have hix := bt_ix hd hi g'
  simp only [F1087_L1, nth_zero, nth_succ, bs, hds, hix.1, btF2, ld113, lens113 b.hd, dBin_lss]
  refine Wp.dif ?_ ?_
  · intro h0
    have h0 : k < b.its.length := by have : (k : Int) < b.its.length := by simpa [-Option.bind_some] using h0
                                     omega
    obtain ⟨it, hit⟩ : ∃ it, b.its[k]? = some it := ⟨_, List.getElem?_eq_getElem h0⟩
    have hii : dIndexAddr tab ty113 b.d (.int .i64 (k : Int)) = some (.fptr (itr it)) := by rw [ixs113 b.hd]; simp [-Option.bind_some, hit]
    have hw : IntKind.wrap .i64 ((k : Int) + 1) = ((k + 1 : Nat) : Int) := by
      rw [wrap_i64 (by omega) (by omega)]; omega
    simp only [hii, bs, itF1, itE4, itE4l, lens28 it.e.hld, dBin_add, hw]
    exact .some (.inl ⟨rfl, n - 1, by omega, rfl, _, k + 1, by rw [linesI_succ hit], by omega⟩)
  · intro h0
    have h0 : k = b.its.length := by have : ¬ (k : Int) < b.its.length := by simpa [-Option.bind_some] using h0
                                     omega
    subst h0
    rw [List.take_length]
    exact .some (.inr ⟨by simp [-Option.bind_some], rfl, rfl, rfl⟩)
theorem law1087 (zs : List Int) (d : D) (hd : Given .u8 zs d) (hz : ∀ z ∈ zs, 0 ≤ z ∧ z < 256) : ∃ h', R fn1087 [d] [] = some (.bool true, h') := by
  suffices Wp (R fn1087 [d] []) (fun p => p.1 = .bool true) by
    obtain ⟨⟨x, h'⟩, h1, rfl⟩ := this
    exact ⟨h', h1⟩
  rw [e1087]
  simp only [F1087, bs, s1001, dUn_not, dIf_bool, Bool.not_true, Bool.false_eq_true, if_false, Option.bind_assoc]
  obtain ⟨h0, e0, c0, hl0⟩ := d44 zs d 400 [] hd (by omega) (by omega) hz
  refine Wp.step e0 ?_
  simp only [bs]
  obtain ⟨da, h1, ea, ca, sa, A, hA, hA1, hA2, hAb⟩ := d1088 c0 1 6 (by omega) (by omega) (by omega) (by omega)
  refine Wp.step ea ?_
  simp only [bs]
  have i5 : InO (dNew h1 ty1009 2 [[.nils, .nils]]) h1.length ([], []) := ⟨_, _, dNew_get _ _ _ _, .nils _ _, .nils _ _⟩
  have hp5 : ((D.ptr h1.length 0 0, dNew h1 ty1009 2 [[.nils, .nils]]) : D × Hp).1 = .ptr h1.length 0 0 := rfl
  generalize hP5 : ((D.ptr h1.length 0 0, dNew h1 ty1009 2 [[.nils, .nils]]) : D × Hp) = p5 at hp5
  generalize h1.length = o5 at hp5 i5
  refine Wp.loop (fun k ds g => ∃ (i : Nat) (s : List Mrk × List Tal) (a0 a1 a2 a3 a4 a5 a6 a7 a8 a9 a10 a11 : D), ds = [a0, .int .i64 i, a1, a2, a3, a4, a5, a6, a7, a8, a9, a10, a11] ∧ k + i = A.length ∧ InO g o5 s ∧ GS i s ∧ RgT s.2)
    (fun r => r.1 = .ext 0) A.length ⟨0, ([], []), _, _, _, _, _, _, _, _, _, _, _, _, rfl, rfl, i5, gs_nil, rgT_nil⟩ ?_ ?_
  · rintro k ds g ⟨i, s, a0, a1, a2, a3, a4, a5, a6, a7, a8, a9, a10, a11, rfl, hk, j5, gs, rg⟩
    simp only [F1087_L0, nth_zero, nth_succ, bs, lens1059 hA, dBin_lss]
    refine Wp.dif ?_ ?_
    · intro hlt
      have hlt : i < A.length := by have : (i : Int) < A.length := by simpa [-Option.bind_some] using hlt
                                    omega
      obtain ⟨b, hb⟩ : ∃ b, A[i]? = some b := ⟨_, List.getElem?_eq_getElem hlt⟩
      have hbb := hAb b (List.mem_of_getElem? hb)
      have hix := fun g => bt_ix hA hb g
      have hw : IntKind.wrap .i64 ((i : Int) + 1) = ((i + 1 : Nat) : Int) := by
        rw [wrap_i64 (by omega) (by omega)]; omega
      have h5lt := j5.lt
      have j5' := j5
      obtain ⟨dm, dt, k1, k2, k3⟩ := j5
      have g1 := gs.ml
      have g2 := gs.tl
      have hag := ap_gs gs (.inl rfl) hbb
      obtain ⟨x, ex, hp⟩ := s1089 hbb g k2 k3 gs.ma gs.ta (by omega) (by omega)
      simp only [(hix g).1, (hix g).2, bs, hp5, ld_ino k1, ex, Option.bind_assoc]
      unfold ApPost at hp
      cases ha : apS s.1 s.2 b.its with
      | none =>
        rw [ha] at hp
        subst hp
        simp only [dExtract_tup, List.getElem?_cons_zero, List.getElem?_cons_succ, bs]
        refine new_st (okv2 k2 k3) fun g1 q1 o1 => ?_
        simp only [bs, dBin_neq, show decide ((23 : Int) ≠ 0) = true by decide, dIf_bool, if_true, toEnd_nrm, dBin_add, hw, nth_zero, nth_succ]
        exact .some (.inl ⟨rfl, k - 1, by omega, i + 1, s, _, _, _, _, _, _, _, _, _, _, _, _, rfl, by omega, j5'.old h5lt o1, ⟨gs.ma, gs.ta, by omega, by omega, gs.mh, gs.th⟩, rg⟩)
      | some s' =>
        rw [ha] at hp
        obtain ⟨dm', dt', de, es, rfl, h3, h4, h5, h6, h7⟩ := hp
        have eap : ap s b = s' := by unfold ap; rw [ha]; rfl
        rw [eap] at hag
        have rg' := apS_rg b.its s.1 s.2 s' gs.ta rg ha
        obtain ⟨_, _, hmx⟩ := apS_mono 1 b.its s.1 s.2 s' gs.ma ha
        have hagain := apS_again b.its s'.1 s'.2 hmx
        simp only [dExtract_tup, List.getElem?_cons_zero, List.getElem?_cons_succ, bs]
        refine new_st (okv2 h3 h4) fun g1 q1 o1 => ?_
        simp only [bs, dBin_neq, ne_eq, not_true, decide_false, dIf_bool, Bool.false_eq_true, if_false, Option.bind_assoc]
        refine l1087_1 hA hb hbb.n3 rfl ?_
        rintro ⟨ex1, ds1, g1'⟩ ⟨r1, r2, rfl⟩
        simp only at r1 r2
        subst r1
        have g3 := hag.ml
        have g4 := hag.tl
        obtain ⟨x2, ex2, hp2⟩ := s1089 hbb g1' h3 h4 hag.ma hag.ta (by omega) (by omega)
        unfold ApPost at hp2
        rw [hagain] at hp2
        obtain ⟨dm2, dt2, de2, es2, rfl, u3, u4, u5, u6, u7⟩ := hp2
        have hes2 := apE_again b.its s'.1 es2 hmx u6
        subst hes2
        have hl2 : dLenT tab ty40 de2 = some (.int .i64 0) := lens40 u5
        have h1lt : g.length < g1'.length := (List.getElem?_eq_some_iff.1 q1).1
        simp only [unblk_self, toEnd_nrm, bs, ld_ino q1, (hix g1').1, (hix g1').2, ex2, dExtract_tup, List.getElem?_cons_zero, List.getElem?_cons_succ, Option.bind_assoc]
        refine new_st (okv2 (s := (s'.1, dupT s'.2 b.its)) u3 u4) fun g2 q2 o2 => ?_
        have q1' : g2[g.length]? = some (.row ty1009 2 [[dm', dt']]) := (o2 _ h1lt).trans q1
        have hdc := dup_counts 1 b.its s'.2 hag.ta fun it hit => ⟨(hbb.it it hit).host, (hbb.it it hit).n1⟩
        have hdl := dup_lines b.its s'.2 rg' 1
        have hul : (dupT s'.2 b.its).length ≤ 1000000 := by
          have := ap_gs hag (.inl rfl) hbb
          have e2 : ap s' b = (s'.1, dupT s'.2 b.its) := by unfold ap; rw [hagain]; rfl
          rw [e2] at this
          have := this.tl
          simp only at this
          omega
        have c1 := s1078 (dupT s'.2 b.its) dt2 dm2 1 [42] g2 u4 hul hdc.1
        have c2 := s1078 s'.2 dt' dm' 1 [42] g2 h4 (by omega) hag.ta
        have c3 := s1078 (dupT s'.2 b.its) dt2 dm2 1 [] g2 u4 hul hdc.1
        have c4 := s1078 s'.2 dt' dm' 1 [] g2 h4 (by omega) hag.ta
        have hsm := s1092r s'.1 dm' dm2 g2 h3 u3 (by omega)
        have e5 : countT (dupT s'.2 b.its) 1 [42] = IntKind.wrap .i64 (countT s'.2 1 [42] + linesI b.its) := hdc.2.2.trans hdl.symm
        simp only [bs, dBin_neq, ne_eq, not_true, decide_false, gd_bool, if_true, hl2, dPick_bool, Bool.false_eq_true, if_false, fap1009_0, ld_ino0 q1', ld_ino0 q2, gdW_bool, hsm, dUn_not, Bool.not_true, ld_ino q1', ld_ino q2, c1, c2, c3, c4, nth_zero, nth_succ, r2, dBin_add, e5, hdc.2.1, dIf_bool, chk_true, Option.bind_assoc]
        have j5'' : InO g2 o5 s := (j5'.old h5lt o1).old (Nat.lt_trans h5lt h1lt) o2
        obtain ⟨vm, vt, v1, _, _⟩ := j5''
        refine wst1009 (off := 0) v1 (by rfl) (by rfl) (by simp [-Option.bind_some]) (okv2 h3 h4) fun g3 q3 s3 => ?_
        simp only [bs, toEnd_nrm, nth_zero, nth_succ, dBin_add, hw]
        exact .some (.inl ⟨rfl, k - 1, by omega, i + 1, s', _, _, _, _, _, _, _, _, _, _, _, _, rfl, by omega, ⟨dm', dt', by exact q3, h3, h4⟩, hag, rg'⟩)
    · intro hge
      exact .some (.inr ⟨by simp [-Option.bind_some], rfl⟩)
  rintro ⟨ex, ds, g⟩ q1
  simp only at q1
  subst q1
  simp only [unblk_self, toEnd_nrm, bs, mkRes_one]
  rw [scope_eq (by simp [-Option.bind_some]) (.bool true) (Nat.zero_le _) (fun q hq => by simp [-Option.bind_some] at hq)]
  exact .some rfl
end Go.Proofs.YtpenlmgmofhbpaaDoor
