/- Laws, on plain data, about functions that the statement reaches. -/
import Derived.Test.YtpenlmgmofhbpaaDoorL7
set_option linter.unusedSimpArgs false
set_option linter.unusedVariables false
set_option linter.unnecessarySimpa false
set_option maxRecDepth 100000
namespace Go.Proofs.YtpenlmgmofhbpaaDoor
open Go.Eng Go.Pi
theorem law1086 (zs : List Int) (d : D) (hd : Given .u8 zs d) (hz : ∀ z ∈ zs, 0 ≤ z ∧ z < 256) : ∃ h', R fn1086 [d] [] = some (.bool true, h') := by
  suffices Wp (R fn1086 [d] []) (fun p => p.1 = .bool true) by
    obtain ⟨⟨x, h'⟩, h1, rfl⟩ := this
    exact ⟨h', h1⟩
  rw [e1086]
  simp only [F1086, bs, s1001, dUn_not, dIf_bool, Bool.not_true, Bool.false_eq_true, if_false, Option.bind_assoc]
  obtain ⟨h0, e0, c0, hl0⟩ := d44 zs d 400 [] hd (by omega) (by omega) hz
  refine Wp.step e0 ?_
  simp only [bs]
  obtain ⟨da, h1, ea, ca, sa, A, hA, hA1, hA2, hAb⟩ := d1088 c0 1 6 (by omega) (by omega) (by omega) (by omega)
  refine Wp.step ea ?_
  simp only [bs]
  have hl5 : (dNew h1 ty1009 2 [[.nils, .nils]]).length = h1.length + 1 := by simp [-Option.bind_some, dNew]
  have i5 : InO (dNew (dNew h1 ty1009 2 [[.nils, .nils]]) ty1066 16 [arr fun _ => 0]) h1.length ([], []) := ⟨_, _, by rw [dNew_old _ _ _ _ (by omega)]; exact dNew_get _ _ _ _, .nils _ _, .nils _ _⟩
  have i6 : ArrO (dNew (dNew h1 ty1009 2 [[.nils, .nils]]) ty1066 16 [arr fun _ => 0]) (h1.length + 1) (fun _ => 0) := by
    unfold ArrO
    rw [← hl5]
    exact dNew_get _ _ _ _
  have hp6 : ((D.ptr (dNew h1 ty1009 2 [[.nils, .nils]]).length 0 0, dNew (dNew h1 ty1009 2 [[.nils, .nils]]) ty1066 16 [arr fun _ => 0]) : D × Hp).1 = .ptr (h1.length + 1) 0 0 := by rw [← hl5]
  have hp5 : ((D.ptr h1.length 0 0, dNew h1 ty1009 2 [[.nils, .nils]]) : D × Hp).1 = .ptr h1.length 0 0 := rfl
  have ha0 : [D.int .i64 0, .int .i64 0, .int .i64 0, .int .i64 0, .int .i64 0, .int .i64 0, .int .i64 0, .int .i64 0, .int .i64 0, .int .i64 0, .int .i64 0, .int .i64 0, .int .i64 0, .int .i64 0, .int .i64 0, .int .i64 0] = arr fun _ => 0 := rfl
  rw [ha0]
  generalize hP5 : ((D.ptr h1.length 0 0, dNew h1 ty1009 2 [[.nils, .nils]]) : D × Hp) = p5 at hp5
  generalize hP6 : ((D.ptr (dNew h1 ty1009 2 [[.nils, .nils]]).length 0 0, dNew (dNew h1 ty1009 2 [[.nils, .nils]]) ty1066 16 [arr fun _ => 0]) : D × Hp) = p6 at hp6
  generalize h1.length = o5 at hp5 hp6 i5 i6
  refine Wp.loop (fun k ds g => ∃ (i : Nat) (s : List Mrk × List Tal) (nx : Int → Int) (a3 a4 a5 a6 a7 a8 a9 a10 a11 : D), ds = [.bool false, .int .i64 (countT s.2 1 []), .int .i64 i, a3, a4, a5, a6, a7, a8, a9, a10, a11] ∧ k + i = A.length ∧ InO g o5 s ∧ GS i s ∧ ArrO g (o5 + 1) nx ∧ ∀ f, nx f ≤ markOf s.1 1 f)
    (fun r => r.1 = .ext 0 ∧ ∃ (i : Nat) (s : List Mrk × List Tal), i ≤ 24 ∧ nth 1 r.2.1 = .int .i64 (countT s.2 1 []) ∧ InO r.2.2 o5 s ∧ GS i s) A.length ⟨0, ([], []), fun _ => 0, _, _, _, _, _, _, _, _, _, rfl, rfl, i5, gs_nil, i6, fun f => Int.le_refl _⟩ ?_ ?_
  · rintro k ds g ⟨i, s, nx, a3, a4, a5, a6, a7, a8, a9, a10, a11, rfl, hk, j5, gs, ga, hnx⟩
    simp only [F1086_L0, nth_zero, nth_succ, bs, lens1059 hA, dBin_lss]
    refine Wp.dif ?_ ?_
    · intro hlt
      have hlt : i < A.length := by have : (i : Int) < A.length := by simpa [-Option.bind_some] using hlt
                                    omega
      obtain ⟨b, hb⟩ : ∃ b, A[i]? = some b := ⟨_, List.getElem?_eq_getElem hlt⟩
      have hbb := hAb b (List.mem_of_getElem? hb)
      have hix := fun g => bt_ix hA hb g
      have hw : IntKind.wrap .i64 ((i : Int) + 1) = ((i + 1 : Nat) : Int) := by
        rw [wrap_i64 (by omega) (by omega)]; omega
      have h5lt := j5.lt
      have h6lt : o5 + 1 < g.length := (List.getElem?_eq_some_iff.1 ga).1
      obtain ⟨dm, dt, k1, k2, k3⟩ := j5
      have g1 := gs.ml
      have g2 := gs.tl
      have hag := ap_gs gs (.inl rfl) hbb
      obtain ⟨x, ex, hp⟩ := s1089 hbb g k2 k3 gs.ma gs.ta (by omega) (by omega)
      simp only [(hix g).1, (hix g).2, bs, hp5, ld_ino k1, ex, Option.bind_assoc]
      unfold ApPost at hp
      cases ha : apS s.1 s.2 b.its with
      | none =>
        rw [ha] at hp
        subst hp
        simp only [dExtract_tup, List.getElem?_cons_zero, List.getElem?_cons_succ, bs]
        refine new_st (okv2 k2 k3) fun g1 q1 o1 => ?_
        have k1' := (o1 o5 h5lt).trans k1
        have hs := s1090r s.1 s.2 dm dm dt dt g1 k2 k2 k3 k3 (by omega) (by omega)
        simp only [bs, dBin_neq, show decide ((23 : Int) ≠ 0) = true by decide, gd_bool, if_true, lenn40, ne_eq, not_true, decide_false, Bool.false_eq_true, if_false, ld_ino k1', ld_ino q1, gdW_bool, hs, dUn_not, Bool.not_true, dPick_bool, dIf_bool, Option.bind_assoc]
        refine l1086_1 (es := []) (.nils _ _) (by simp [-Option.bind_some]) hp5 hp6 rfl k2 k2 gs.ma gs.ma (by omega) (by omega) k1' q1 (nx := nx) ((o1 _ h6lt).trans ga) (by omega) (by simp only; omega) trivial ?_
        rintro ⟨ex1, ds1, g2⟩ ⟨r1, r2, r3, r4, r5⟩
        simp only at r1 r2 r3 r4 r5
        subst r1
        have k2' := (r5.2 o5 (by omega)).trans k1'
        have q2 := (r5.2 g.length (by omega)).trans q1
        simp only [unblk_self, toEnd_nrm, bs, ld_ino q2, Option.bind_assoc]
        refine wst1009 (off := 0) k2' (by rfl) (by rfl) (by simp [-Option.bind_some]) (okv2 k2 k3) fun g3 q3 s3 => ?_
        simp only [bs, toEnd_nrm, nth_zero, nth_succ, dBin_add, hw, r2, r3]
        exact .some (.inl ⟨rfl, k - 1, by omega, i + 1, s, nx, _, _, _, _, _, _, _, _, _, rfl, by omega, ⟨dm, dt, by exact q3, k2, k3⟩, ⟨gs.ma, gs.ta, by omega, by omega, gs.mh, gs.th⟩, (s3.2 _ (by omega)).trans r4, hnx⟩)
      | some s' =>
        rw [ha] at hp
        obtain ⟨dm', dt', de, es, rfl, h3, h4, h5, h6, h7⟩ := hp
        have eap : ap s b = s' := by unfold ap; rw [ha]; rfl
        rw [eap] at hag
        have g3 := hag.ml
        have g4 := hag.tl
        have hn3 := hbb.n3
        obtain ⟨hseq, hnx'⟩ := apE_seq 1 (markOf s.1 1) (markOf s'.1 1) b.its s.1 s.2 s' es nx hbb.it gs.ma ha h6 hnx (fun f => Int.le_refl _) (fun f => Int.le_refl _)
        have hlin := apE_lines 1 b.its s.1 s.2 s' es hbb.it gs.ta ha h6
        simp only [dExtract_tup, List.getElem?_cons_zero, List.getElem?_cons_succ, bs]
        refine new_st (okv2 h3 h4) fun g1 q1 o1 => ?_
        have k1' := (o1 o5 h5lt).trans k1
        simp only [bs, dBin_neq, ne_eq, not_true, decide_false, gd_bool, gd_und, gdW_und, Bool.false_eq_true, if_false, dPick_bool, dIf_bool, Option.bind_assoc]
        refine l1086_1 h5 (by omega) hp5 hp6 rfl k2 h3 gs.ma hag.ma (by omega) (by omega) k1' q1 (nx := nx) ((o1 _ h6lt).trans ga) (by omega) (by simp only; omega) hseq ?_
        rintro ⟨ex1, ds1, g2⟩ ⟨r1, r2, r3, r4, r5⟩
        simp only at r1 r2 r3 r4 r5
        subst r1
        have k2' := (r5.2 o5 (by omega)).trans k1'
        have q2 := (r5.2 g.length (by omega)).trans q1
        simp only [unblk_self, toEnd_nrm, bs, ld_ino q2, Option.bind_assoc]
        refine wst1009 (off := 0) k2' (by rfl) (by rfl) (by simp [-Option.bind_some]) (okv2 h3 h4) fun g3 q3 s3 => ?_
        simp only [bs, toEnd_nrm, nth_zero, nth_succ, dBin_add, hw, r2, r3]
        exact .some (.inl ⟨rfl, k - 1, by omega, i + 1, s', nxE nx es, _, _, _, _, _, _, _, _, _, by rw [hlin], by omega, ⟨dm', dt', by exact q3, h3, h4⟩, hag, (s3.2 _ (by omega)).trans r4, hnx'⟩)
    · intro hge
      exact .some (.inr ⟨by simp [-Option.bind_some], rfl, i, s, by omega, rfl, j5, gs⟩)
  rintro ⟨ex, ds, g⟩ ⟨q1, i, s, hi, q2, j5, gs⟩
  simp only at q1 q2 j5
  subst q1
  obtain ⟨dm, dt, k1, k2, k3⟩ := j5
  have g2 := gs.tl
  have hc := s1078 s.2 dt dm 1 [] g k3 (by omega) gs.ta
  simp only [unblk_self, toEnd_nrm, bs, hp5, ld_ino k1, hc, nth_zero, nth_succ, q2, dBin_eql, decide_true, mkRes_one]
  rw [scope_eq (by simp [-Option.bind_some]) (.bool true) (Nat.zero_le _) (fun q hq => by simp [-Option.bind_some] at hq)]
  exact .some rfl
end Go.Proofs.YtpenlmgmofhbpaaDoor
