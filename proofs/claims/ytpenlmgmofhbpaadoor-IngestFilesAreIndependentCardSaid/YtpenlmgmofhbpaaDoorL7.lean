/- Laws, on plain data, about functions that the statement reaches. -/
import Derived.Test.YtpenlmgmofhbpaaDoorL6
set_option linter.unusedSimpArgs false
set_option linter.unusedVariables false
set_option linter.unnecessarySimpa false
set_option maxRecDepth 100000
namespace Go.Proofs.YtpenlmgmofhbpaaDoor
open Go.Eng Go.Pi
/-- Batches of two hosts, one of each in turn. -/
theorem l1085_2 {A B : List Bat} {da db : D} (hA : SlOf 3 batr A da) (hB : SlOf 3 batr B db) (hA2 : A.length ≤ 24) (hB2 : B.length ≤ 24) (hAb : ∀ b ∈ A, BatOK 1 b) (hBb : ∀ b ∈ B, BatOK 2 b) {p7 : D × Hp} {o6 : Nat} (h71 : p7.1 = .ptr (o6 + 1) 0 0) {SB : List Mrk × List Tal} {g : Hp} (j6 : InO g o6 SB) (j7 : InO g (o6 + 1) ([], []))
    {x y z : D} {β : Type} {f : Out → Option β} {Q : β → Prop}
    (kk : ∀ r, (r.1 = .ext 4 ∧ ∃ (m : Nat) (t : List Mrk × List Tal), InO r.2.2 o6 SB ∧ InO r.2.2 (o6 + 1) t ∧ GS m t ∧ m ≤ 200 ∧ prj 1 t = A.foldl ap ([], []) ∧ prj 2 t = B.foldl ap ([], [])) → Wp (f r) Q) : Wp ((loopW (F1085_L2 da db p7) [.int .i64 0, x, y, z] g).bind f) Q := by
  refine Wp.loop (fun k ds g => ∃ (i m : Nat) (a b c : D) (t : List Mrk × List Tal), ds = [.int .i64 i, a, b, c] ∧ k + i = A.length + B.length ∧ InO g o6 SB ∧ InO g (o6 + 1) t ∧ GS m t ∧ m ≤ 2 * i ∧ prj 1 t = (A.take i).foldl ap ([], []) ∧ prj 2 t = (B.take i).foldl ap ([], []))
    (fun r => r.1 = .ext 4 ∧ ∃ (m : Nat) (t : List Mrk × List Tal), InO r.2.2 o6 SB ∧ InO r.2.2 (o6 + 1) t ∧ GS m t ∧ m ≤ 200 ∧ prj 1 t = A.foldl ap ([], []) ∧ prj 2 t = B.foldl ap ([], [])) (A.length + B.length) ⟨0, 0, _, _, _, ([], []), rfl, by omega, j6, j7, gs_nil, by omega, rfl, rfl⟩ ?_ kk
  rintro k ds g ⟨i, m, a, b, c, t, rfl, hk, j6, j7, gs, hm, p1, p2⟩
  have hw : IntKind.wrap .i64 ((i : Int) + 1) = ((i + 1 : Nat) : Int) := by
    rw [wrap_i64 (by omega) (by omega)]; omega
  by_cases hdone : ¬ i < A.length ∧ ¬ i < B.length
  · have d1 : decide ((i : Int) < (A.length : Int)) = false := decide_eq_false (by omega)
    have d2 : decide ((i : Int) < (B.length : Int)) = false := decide_eq_false (by omega)
    simp only [F1085_L2, nth_zero, nth_succ, bs, lens1059 hA, lens1059 hB, dBin_lss, d1, d2, gd_bool, if_true, dPick_bool, Bool.false_eq_true, if_false, dIf_bool]
    rw [List.take_of_length_le (by omega)] at p1 p2
    exact .some (.inr ⟨by simp [-Option.bind_some], rfl, m, t, j6, j7, gs, by omega, p1, p2⟩)
  · have hor : decide ((i : Int) < (A.length : Int)) = true ∨ (decide ((i : Int) < (A.length : Int)) = false ∧ decide ((i : Int) < (B.length : Int)) = true) := by
      by_cases h1 : i < A.length
      · exact .inl (decide_eq_true (by omega))
      · exact .inr ⟨decide_eq_false (by omega), decide_eq_true (by omega)⟩
    have key : Wp (F1085_L2 da db p7 [.int .i64 i, a, b, c] g) (fun r => r.1 = .nrm ∧ ∃ (m' : Nat) (a' b' c' : D) (t' : List Mrk × List Tal), r.2.1 = [.int .i64 ((i + 1 : Nat) : Int), a', b', c'] ∧ InO r.2.2 o6 SB ∧ InO r.2.2 (o6 + 1) t' ∧ GS m' t' ∧ m' ≤ m + 2 ∧ prj 1 t' = (A.take (i + 1)).foldl ap ([], []) ∧ prj 2 t' = (B.take (i + 1)).foldl ap ([], [])) := by
      simp only [F1085_L2, nth_zero, nth_succ, bs, lens1059 hA, lens1059 hB, dBin_lss, gd_bool, dPick_bool, Option.bind_assoc]
      have e : ∀ (F : D → Option Out) (QQ : Out → Prop), (decide ((i : Int) < (A.length : Int)) = true → Wp (F .und) QQ) → (¬ decide ((i : Int) < (A.length : Int)) = true → Wp (F (.bool true)) QQ) → Wp ((if decide ((i : Int) < (A.length : Int)) = false then some (D.int .i64 (i : Int)) else some D.und).bind fun t56 => (if decide ((i : Int) < (A.length : Int)) = false then some db else some D.und).bind fun t57 => (if decide ((i : Int) < (A.length : Int)) = false then dLenT tab ty1059 t57 else some D.und).bind fun t58 => (if decide ((i : Int) < (A.length : Int)) = false then dBin tab .lss ty3 t56 t58 else some D.und).bind fun t59 => F t59) QQ := by
        intro F QQ h1 h2
        rcases hor with h | ⟨h, h'⟩
        · simp only [h, Bool.true_eq_false, if_false, if_true, bs]
          exact h1 h
        · simp only [h, if_true, bs, lens1059 hB, dBin_lss, h', Bool.false_eq_true, if_false]
          exact h2 (by rw [h]; simp [-Option.bind_some])
      refine e _ _ (fun h => ?_) (fun h => ?_)
      all_goals
        first
          | simp only [if_pos h]
          | simp only [if_neg h]
        simp only [show ∀ (x y : Option Out), dIf (.bool true) x y = x from fun _ _ => rfl]
        refine Wp.join (P := fun r => ∃ (g' : Hp) (m' : Nat) (t' : List Mrk × List Tal), r = (.nrm, [], g') ∧ InO g' o6 SB ∧ InO g' (o6 + 1) t' ∧ GS m' t' ∧ m' ≤ m + 1 ∧ prj 1 t' = (A.take i).foldl ap ([], []) ∧ prj 2 t' = (B.take (i + 1)).foldl ap ([], [])) ?_ ?_ ?_
        · intro hlt
          have hlt : i < B.length := by have : (i : Int) < B.length := by simpa [-Option.bind_some] using hlt
                                        omega
          obtain ⟨b, hb⟩ : ∃ b, B[i]? = some b := ⟨_, List.getElem?_eq_getElem hlt⟩
          have hbb := hBb b (List.mem_of_getElem? hb)
          have hix := bt_ix hB hb g
          obtain ⟨dm, dt, k1, k2, k3⟩ := j7
          simp only [hix.1, hix.2, bs, h71, Option.bind_assoc]
          refine ap_step k1 k2 k3 gs (by omega) hbb fun g' dm' dt' q1 q2 q3 s => ?_
          try simp only [bs]
          exact .some ⟨g', m + 1, ap t b, rfl, j6.same s (by omega), ⟨dm', dt', q1, q2, q3⟩, ap_gs gs (.inr rfl) hbb, by omega, (ap_prj' gs hbb 1 (by omega)).trans p1, by rw [ap_prj gs hbb, p2, foldl_take_succ ap _ B i b hb]⟩
        · intro hge
          have hge : ¬ i < B.length := by have : ¬ (i : Int) < B.length := by simpa [-Option.bind_some] using hge
                                          omega
          exact .some ⟨g, m, t, rfl, j6, j7, gs, by omega, p1, by rw [p2, List.take_of_length_le (by omega), List.take_of_length_le (by omega)]⟩
        rintro _ ⟨g', m', t', rfl, j6, j7, gs', hm', p1', p2'⟩
        simp only [toEnd_nrm]
        refine Wp.join (P := fun r => ∃ (g'' : Hp) (m'' : Nat) (t'' : List Mrk × List Tal), r = (.nrm, [], g'') ∧ InO g'' o6 SB ∧ InO g'' (o6 + 1) t'' ∧ GS m'' t'' ∧ m'' ≤ m + 2 ∧ prj 1 t'' = (A.take (i + 1)).foldl ap ([], []) ∧ prj 2 t'' = (B.take (i + 1)).foldl ap ([], [])) ?_ ?_ ?_
        · intro hlt
          have hlt : i < A.length := by have : (i : Int) < A.length := by simpa [-Option.bind_some] using hlt
                                        omega
          obtain ⟨b, hb⟩ : ∃ b, A[i]? = some b := ⟨_, List.getElem?_eq_getElem hlt⟩
          have hbb := hAb b (List.mem_of_getElem? hb)
          have hix := bt_ix hA hb g'
          obtain ⟨dm, dt, k1, k2, k3⟩ := j7
          simp only [hix.1, hix.2, bs, h71, Option.bind_assoc]
          refine ap_step k1 k2 k3 gs' (by omega) hbb fun g'' dm' dt' q1 q2 q3 s => ?_
          try simp only [bs]
          exact .some ⟨g'', m' + 1, ap t' b, rfl, j6.same s (by omega), ⟨dm', dt', q1, q2, q3⟩, ap_gs gs' (.inl rfl) hbb, by omega, by rw [ap_prj gs' hbb, p1', foldl_take_succ ap _ A i b hb], (ap_prj' gs' hbb 2 (by omega)).trans p2'⟩
        · intro hge
          have hge : ¬ i < A.length := by have : ¬ (i : Int) < A.length := by simpa [-Option.bind_some] using hge
                                          omega
          exact .some ⟨g', m', t', rfl, j6, j7, gs', by omega, by rw [p1', List.take_of_length_le (by omega), List.take_of_length_le (by omega)], p2'⟩
        rintro _ ⟨g'', m'', t'', rfl, j6, j7, gs'', hm'', p1'', p2''⟩
        simp only [unblk_nrm, toEnd_nrm, dBin_add, bs, hw]
        exact .some ⟨rfl, m'', _, _, _, t'', rfl, j6, j7, gs'', hm'', p1'', p2''⟩
    refine key.mono ?_
    rintro ⟨x, ds, g'⟩ ⟨rfl, m', a', b', c', t', rfl, j6, j7, gs', hm', p1', p2'⟩
    exact .inl ⟨rfl, k - 1, by omega, i + 1, m', a', b', c', t', rfl, by omega, j6, j7, gs', by omega, p1', p2'⟩
theorem l1085_0 {A : List Bat} {da : D} (hA : SlOf 3 batr A da) (hA2 : A.length ≤ 24) (hAb : ∀ b ∈ A, BatOK 1 b) {p6 : D × Hp} {o6 : Nat} (h61 : p6.1 = .ptr o6 0 0) {g : Hp} (s6 : InO g o6 ([], [])) (s7 : InO g (o6 + 1) ([], [])) {x : D} {β : Type} {f : Out → Option β} {Q : β → Prop}
    (kk : ∀ r, (r.1 = .ext 0 ∧ InO r.2.2 o6 (A.foldl ap ([], [])) ∧ InO r.2.2 (o6 + 1) ([], [])) → Wp (f r) Q) : Wp ((loopW (F1085_L0 da p6) [.int .i64 0, x] g).bind f) Q := by
  have tkA : ∀ i, ∀ b ∈ A.take i, BatOK 1 b := fun i b hb => hAb b (List.mem_of_mem_take hb)
  have foldA := fun i => fold_gs (.inl rfl) (A.take i) (tkA i) gs_nil
  refine Wp.loop (fun k ds g => ∃ (i : Nat) (a : D), ds = [.int .i64 i, a] ∧ k + i = A.length ∧ InO g o6 ((A.take i).foldl ap ([], [])) ∧ InO g (o6 + 1) ([], []))
    (fun r => r.1 = .ext 0 ∧ InO r.2.2 o6 (A.foldl ap ([], [])) ∧ InO r.2.2 (o6 + 1) ([], [])) A.length ⟨0, _, rfl, rfl, s6, s7⟩ ?_ kk
  rintro k ds g ⟨i, a, rfl, hk, j6, j7⟩
  simp only [F1085_L0, nth_zero, nth_succ, bs, lens1059 hA, dBin_lss]
  refine Wp.dif ?_ ?_
  · intro hlt
    have hlt : i < A.length := by have : (i : Int) < A.length := by simpa [-Option.bind_some] using hlt
                                  omega
    obtain ⟨b, hb⟩ : ∃ b, A[i]? = some b := ⟨_, List.getElem?_eq_getElem hlt⟩
    have hbb := hAb b (List.mem_of_getElem? hb)
    have hix := bt_ix hA hb g
    have hw : IntKind.wrap .i64 ((i : Int) + 1) = ((i + 1 : Nat) : Int) := by
      rw [wrap_i64 (by omega) (by omega)]; omega
    obtain ⟨dm, dt, k1, k2, k3⟩ := j6
    simp only [hix.1, hix.2, bs, h61, Option.bind_assoc]
    refine ap_step k1 k2 k3 (foldA i).1 (by simp [-Option.bind_some]; omega) hbb fun g' dm' dt' q1 q2 q3 s => ?_
    simp only [bs, dBin_add, hw]
    exact .some (.inl ⟨rfl, k - 1, by omega, i + 1, _, rfl, by omega, ⟨dm', dt', q1, by rw [foldl_take_succ ap _ A i b hb]; exact q2, by rw [foldl_take_succ ap _ A i b hb]; exact q3⟩, j7.same s (by omega)⟩)
  · intro hge
    have hge : i = A.length := by have : ¬ (i : Int) < A.length := by simpa [-Option.bind_some] using hge
                                  omega
    subst hge
    rw [List.take_length] at j6
    exact .some (.inr ⟨by simp [-Option.bind_some], rfl, j6, j7⟩)
theorem l1085_1 {B : List Bat} {db : D} (hB : SlOf 3 batr B db) (hB2 : B.length ≤ 24) (hBb : ∀ b ∈ B, BatOK 2 b) {p6 : D × Hp} {o6 : Nat} (h61 : p6.1 = .ptr o6 0 0) {SA : List Mrk × List Tal} {n : Nat} (hSA : GS n SA) (hn : n ≤ 100) {g : Hp} (j6 : InO g o6 SA) (j7 : InO g (o6 + 1) ([], [])) {x : D} {β : Type} {f : Out → Option β} {Q : β → Prop}
    (kk : ∀ r, (r.1 = .ext 2 ∧ InO r.2.2 o6 (B.foldl ap SA) ∧ InO r.2.2 (o6 + 1) ([], [])) → Wp (f r) Q) : Wp ((loopW (F1085_L1 db p6) [.int .i64 0, x] g).bind f) Q := by
  have tkB : ∀ i, ∀ b ∈ B.take i, BatOK 2 b := fun i b hb => hBb b (List.mem_of_mem_take hb)
  have foldB := fun i => fold_gs (.inr rfl) (B.take i) (tkB i) hSA
  refine Wp.loop (fun k ds g => ∃ (i : Nat) (a : D), ds = [.int .i64 i, a] ∧ k + i = B.length ∧ InO g o6 ((B.take i).foldl ap SA) ∧ InO g (o6 + 1) ([], []))
    (fun r => r.1 = .ext 2 ∧ InO r.2.2 o6 (B.foldl ap SA) ∧ InO r.2.2 (o6 + 1) ([], [])) B.length ⟨0, _, rfl, rfl, j6, j7⟩ ?_ kk
  rintro k ds g ⟨i, a, rfl, hk, j6, j7⟩
  simp only [F1085_L1, nth_zero, nth_succ, bs, lens1059 hB, dBin_lss]
  refine Wp.dif ?_ ?_
  · intro hlt
    have hlt : i < B.length := by have : (i : Int) < B.length := by simpa [-Option.bind_some] using hlt
                                  omega
    obtain ⟨b, hb⟩ : ∃ b, B[i]? = some b := ⟨_, List.getElem?_eq_getElem hlt⟩
    have hbb := hBb b (List.mem_of_getElem? hb)
    have hix := bt_ix hB hb g
    have hw : IntKind.wrap .i64 ((i : Int) + 1) = ((i + 1 : Nat) : Int) := by
      rw [wrap_i64 (by omega) (by omega)]; omega
    obtain ⟨dm, dt, k1, k2, k3⟩ := j6
    simp only [hix.1, hix.2, bs, h61, Option.bind_assoc]
    refine ap_step k1 k2 k3 (foldB i).1 (by simp [-Option.bind_some]; omega) hbb fun g' dm' dt' q1 q2 q3 s => ?_
    simp only [bs, dBin_add, hw]
    exact .some (.inl ⟨rfl, k - 1, by omega, i + 1, _, rfl, by omega, ⟨dm', dt', q1, by rw [foldl_take_succ ap _ B i b hb]; exact q2, by rw [foldl_take_succ ap _ B i b hb]; exact q3⟩, j7.same s (by omega)⟩)
  · intro hge
    have hge : i = B.length := by have : ¬ (i : Int) < B.length := by simpa [-Option.bind_some] using hge
                                  omega
    subst hge
    rw [List.take_length] at j6
    exact .some (.inr ⟨by simp [-Option.bind_some], rfl, j6, j7⟩)
theorem law1085 (zs : List Int) (d : D) (hd : Given .u8 zs d) (hz : ∀ z ∈ zs, 0 ≤ z ∧ z < 256) : ∃ h', R fn1085 [d] [] = some (.bool true, h') := by
  suffices Wp (R fn1085 [d] []) (fun p => p.1 = .bool true) by
    obtain ⟨⟨x, h'⟩, h1, rfl⟩ := this
    exact ⟨h', h1⟩
  rw [e1085]
  simp only [F1085, bs, s1001, dUn_not, dIf_bool, Bool.not_true, Bool.false_eq_true, if_false, Option.bind_assoc]
  obtain ⟨h0, e0, c0, hl0⟩ := d44 zs d 400 [] hd (by omega) (by omega) hz
  refine Wp.step e0 ?_
  simp only [bs]
  obtain ⟨da, h1, ea, ca, sa, A, hA, hA1, hA2, hAb⟩ := d1088 c0 1 4 (by omega) (by omega) (by omega) (by omega)
  refine Wp.step ea ?_
  simp only [bs]
  obtain ⟨db, h2, eb, cb, sb, B, hB, hB1, hB2, hBb⟩ := d1088 ca 2 4 (by omega) (by omega) (by omega) (by omega)
  refine Wp.step eb ?_
  simp only [bs, Option.bind_assoc]
  have hl6 : (dNew h2 ty1009 2 [[.nils, .nils]]).length = h2.length + 1 := by simp [-Option.bind_some, dNew]
  have q6 : (dNew (dNew h2 ty1009 2 [[.nils, .nils]]) ty1009 2 [[.nils, .nils]])[h2.length]? = some (.row ty1009 2 [[.nils, .nils]]) := by
    rw [dNew_old _ _ _ _ (by omega)]; exact dNew_get _ _ _ _
  have q7 : (dNew (dNew h2 ty1009 2 [[.nils, .nils]]) ty1009 2 [[.nils, .nils]])[h2.length + 1]? = some (.row ty1009 2 [[.nils, .nils]]) := by
    rw [← hl6]; exact dNew_get _ _ _ _
  generalize hP6 : ((D.ptr h2.length 0 0, dNew h2 ty1009 2 [[.nils, .nils]]) : D × Hp) = p6
  have h61 : p6.1 = .ptr h2.length 0 0 := by rw [← hP6]
  have h62 : p6.2 = dNew h2 ty1009 2 [[.nils, .nils]] := by rw [← hP6]
  generalize hP7 : ((D.ptr (dNew h2 ty1009 2 [[.nils, .nils]]).length 0 0, dNew (dNew h2 ty1009 2 [[.nils, .nils]]) ty1009 2 [[.nils, .nils]]) : D × Hp) = p7
  have h71 : p7.1 = .ptr (h2.length + 1) 0 0 := by
    rw [← hP7, ← hl6]
  have h72 : p7.2 = dNew (dNew h2 ty1009 2 [[.nils, .nils]]) ty1009 2 [[.nils, .nils]] := by rw [← hP7]
  have i6 : InO p7.2 h2.length ([], []) := ⟨_, _, by rw [h72]; exact q6, .nils _ _, .nils _ _⟩
  have i7 : InO p7.2 (h2.length + 1) ([], []) := ⟨_, _, by rw [h72]; exact q7, .nils _ _, .nils _ _⟩
  generalize h2.length = o6 at h61 h71 i6 i7 hl6
  have s6 : InO (dNew (dNew h2 ty1009 2 [[.nils, .nils]]) ty1009 2 [[.nils, .nils]]) o6 ([], []) := by rw [← h72]; exact i6
  have s7 : InO (dNew (dNew h2 ty1009 2 [[.nils, .nils]]) ty1009 2 [[.nils, .nils]]) (o6 + 1) ([], []) := by rw [← h72]; exact i7
  clear q6 q7 h62 hP6 hP7
  have tkA : ∀ i, ∀ b ∈ A.take i, BatOK 1 b := fun i b hb => hAb b (List.mem_of_mem_take hb)
  have tkB : ∀ i, ∀ b ∈ B.take i, BatOK 2 b := fun i b hb => hBb b (List.mem_of_mem_take hb)
  have foldA := fun i => fold_gs (.inl rfl) (A.take i) (tkA i) gs_nil
  refine l1085_0 hA hA2 hAb h61 s6 s7 ?_
  rintro ⟨ex, ds, g⟩ ⟨q1, j6, j7⟩
  simp only at q1 j6 j7
  subst q1
  have hA0 := foldA A.length
  rw [List.take_length] at hA0
  generalize hSA : A.foldl ap ([], []) = SA at j6 hA0
  have foldB := fun i => fold_gs (.inr rfl) (B.take i) (tkB i) hA0.1
  simp only [unblk_self, toEnd_nrm, bs, Option.bind_assoc]
  refine l1085_1 hB hB2 hBb h61 hA0.1 (by omega) j6 j7 ?_
  rintro ⟨ex, ds, g⟩ ⟨q1, j6, j7⟩
  simp only at q1 j6 j7
  subst q1
  have hB0 := foldB B.length
  rw [List.take_length] at hB0
  generalize hSB : B.foldl ap SA = SB at j6 hB0
  simp only [unblk_self, toEnd_nrm, bs, Option.bind_assoc]
  refine l1085_2 hA hB hA2 hB2 hAb hBb h71 j6 j7 ?_
  rintro ⟨ex, ds, g⟩ ⟨q1, m, t, j6, j7, gs, hm, p1, p2⟩
  simp only at q1 j6 j7
  subst q1
  have hst : SB = t := by
    refine gs_ext hB0.1 gs ?_ ?_
    · rw [p1, hB0.2.2 1 (by omega), hA0.2.1]
      rfl
    · rw [p2, hB0.2.1, hA0.2.2 2 (by omega)]
      rfl
  subst hst
  obtain ⟨dm, dt, k1, k2, k3⟩ := j6
  obtain ⟨dm', dt', l1, l2, l3⟩ := j7
  have lq : dLoad tab g ty1009 (.ptr o6 0 0) = some (.agg [dm, dt]) := by rw [ldp1009, row_of k1]; rfl
  have lq' : dLoad tab g ty1009 (.ptr (o6 + 1) 0 0) = some (.agg [dm', dt']) := by rw [ldp1009, row_of l1]; rfl
  have g1 := gs.ml
  have g2 := gs.tl
  simp only [unblk_self, toEnd_nrm, bs, h61, h71, hl6, lq, lq', s1090r SB.1 SB.2 dm dm' dt dt' g k2 l2 k3 l3 (by omega) (by omega), mkRes_one]
  rw [scope_eq (by simp [-Option.bind_some]) (.bool true) (Nat.zero_le _) (fun q hq => by simp [-Option.bind_some] at hq)]
  exact .some rfl
theorem InO.old {g g' : Hp} {q z : Nat} {s : List Mrk × List Tal} (h : InO g q s) (hz : q < z) (hs : ∀ o, o < z → g'[o]? = g[o]?) : InO g' q s := by
  obtain ⟨dm, dt, h1, h2⟩ := h
  exact ⟨dm, dt, (hs q hz).trans h1, h2⟩
theorem InO.lt {g : Hp} {q : Nat} {s : List Mrk × List Tal} (h : InO g q s) : q < g.length := by
  obtain ⟨dm, dt, h1, h2⟩ := h
  exact (List.getElem?_eq_some_iff.1 h1).1
end Go.Proofs.YtpenlmgmofhbpaaDoor
