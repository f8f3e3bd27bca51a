/- Laws, on plain data, about functions that the statement reaches. -/
import Derived.Test.YthaajlepgblimaaDoorL4
set_option linter.unusedSimpArgs false
set_option linter.unusedVariables false
set_option linter.unnecessarySimpa false
set_option maxRecDepth 100000
namespace Go.Proofs.YthaajlepgblimaaDoor
open Go.Eng Go.Pi
open Option (bind_some)
theorem law1207 (zs : List Int) (d : D) (B0 : Bat) (hd : Given .u8 zs d) (hz : ∀ z ∈ zs, 0 ≤ z ∧ z < 256) (hB0 : B0.its.length ≤ 9223372036854775807) (hnm : ∀ i ∈ B0.its, NmB i.e) : ∃ h', R fn1207 [d, .agg (batr B0)] [] = some (.bool true, h') := by
 suffices Wp (R fn1207 [d, .agg (batr B0)] []) (fun p => p.1 = .bool true) by
  obtain ⟨⟨x, h'⟩, h1, rfl⟩ := this
  exact ⟨h', h1⟩
 have hsc : ∀ g' : Hp, scope [] g' (.bool true) = some (.bool true, []) := fun g' => scope_eq (by simp) (.bool _) (by simp) (fun q hq => by cases hq)
 obtain ⟨v, hv⟩ := s1208 B0 [] hB0
 have hlb : ∀ (b : Bat) (g : Hp), dLoad tab g ty1064 (.fptr (batr b)) = some (.agg (batr b)) := fun b g => id rfl
 have hbz : dBuild tab ty1009 [] [] = some (.agg [.nils, .nils]) := id rfl
 rw [e1207]
 simp only [F1207, pBoxF_agg, bs, s1001, dUn_not, Bool.not_true, gd_bool, gdW_bool, if_true, hlb, hv, dPick_bool, Bool.false_eq_true, if_false, Option.bind_assoc]
 cases v
 ·simp only [Bool.not_false, dIf_bool, if_true, mkRes_one, hsc]
  exact .some rfl
 simp only [Bool.not_true, dIf_bool, Bool.false_eq_true, if_false]
 obtain ⟨h0, e0, c0, hl0⟩ := d44 zs d 400 [] hd (by omega) (by omega) hz
 have o0 : ([] : Hp).length = 0 := rfl
 rw [o0] at e0 c0 hl0
 refine Wp.step e0 ?_
 have hl0 : h0.length = 1 := hl0
 have hl1 : (dNew h0 ty1009 2 [[.nils, .nils]]).length = 2 := by simp [-bind_some, dNew, hl0]
 simp only [bs, hbz, hl0, hl1]
 have q1 : (dNew (dNew h0 ty1009 2 [[.nils, .nils]]) ty1009 2 [[.nils, .nils]])[1]? = some (.row ty1009 2 [[.nils, .nils]]) := by
  rw [dNew_old _ _ _ _ (by omega), ← hl0]; exact dNew_get _ _ _ _
 have q2 : (dNew (dNew h0 ty1009 2 [[.nils, .nils]]) ty1009 2 [[.nils, .nils]])[2]? = some (.row ty1009 2 [[.nils, .nils]]) := by
  have hq := dNew_get (dNew h0 ty1009 2 [[.nils, .nils]]) ty1009 2 [[.nils, .nils]]
  rw [hl1] at hq; exact hq
 have c2 : CD (dNew (dNew h0 ty1009 2 [[.nils, .nils]]) ty1009 2 [[.nils, .nils]]) 0 := c0.keep (by rw [dNew_old _ _ _ _ (by omega), dNew_old _ _ _ _ (by omega)])
 have l2q : (dNew (dNew h0 ty1009 2 [[.nils, .nils]]) ty1009 2 [[.nils, .nils]]).length = 3 := by simp [-bind_some, dNew, hl0]
 generalize dNew (dNew h0 ty1009 2 [[.nils, .nils]]) ty1009 2 [[.nils, .nils]] = g1 at *
 refine wst1009 (kk := 0) (off := 0) (row := [.nils, .nils]) (v := .agg [.nils, .nils]) q1 (by rfl) (by rfl) (by simp) (by rfl) fun g2 u2 s2 => ?_
 replace u2 : g2[1]? = some (.row ty1009 2 [[.nils, .nils]]) := u2
 refine wst1009 (kk := 0) (off := 0) (row := [.nils, .nils]) (v := .agg [.nils, .nils]) (by rw [s2.2 _ (by omega)]; exact q2) (by rfl) (by rfl) (by simp) (by rfl) fun g3 u3 s3 => ?_
 replace u3 : g3[2]? = some (.row ty1009 2 [[.nils, .nils]]) := u3
 have u2' : g3[1]? = some (.row ty1009 2 [[.nils, .nils]]) := by rw [s3.2 _ (by omega)]; exact u2
 have c3 : CD g3 0 := c2.keep (by rw [s3.2 _ (by omega), s2.2 _ (by omega)])
 have l3q : g3.length = 3 := by rw [s3.1, s2.1, l2q]
 obtain ⟨x4, g4, e4, c4, l4q, k4, bt, ow4, its4, n41, n424⟩ := d1088u c3 1 6 (by omega) (by omega) (by omega) (by omega)
 rw [l3q] at l4q k4 ow4 its4
 have hbs : pLitF tab ty1059 1 [0] [.agg (batr B0)] = some (.sl 3 true [batr B0]) := id rfl
 simp only [bs, e4, hbs, hlb, chk_true, Option.bind_assoc]
 refine wap1059 (n0 := 3) l4q ow4 (rowsOf_sl _ _ _ _) (by simp only [List.length_map, List.length_cons, List.length_nil]; omega) fun x5 g5 o5 l5q k5 k5' i5 => ?_
 obtain ⟨ob, hob, rfl, hgo⟩ := own_ix o5 (i := 0) (by simp)
 have hA : ∃ A : List Bat, SlOf 3 batr A (frz 3 g5 3 (.msl 3 ob 0 (bt.map (bRow 1) ++ [batr B0]).length)) ∧ A.length ≤ 25 ∧ ∀ b ∈ A, ∀ i ∈ b.its, NmB i.e := by
  have mk : ∀ l : List (List It × D × Int), (∀ p ∈ l, p ∈ bt) → ∃ A : List Bat, A.map batr = (l.map (bRow 1)).map (fun row => row.map (frz 3 g5 2)) ∧ A.length = l.length ∧ ∀ b ∈ A, ∀ i ∈ b.its, NmB i.e := by
   intro l
   induction l with
   | nil => exact fun _ => ⟨[], rfl, rfl, by simp⟩
   | cons p r ih =>
    intro hp
    obtain ⟨A, h1, h2, h3⟩ := ih fun q hq => hp q (by simp [-bind_some, hq])
    obtain ⟨ow, hl, hi, hu0, hu9⟩ := its4 p (hp p (by simp))
    have ow' := ow.keep (h' := g5) fun q _ hin => k5' q (ow.lt hin).2 fun hh => by
     rcases ow4 with ⟨hx, _⟩ | ⟨o', _, hx, hg'⟩
     ·rw [hx] at hh; obtain ⟨_, _, hh⟩ := hh; cases hh
     ·obtain ⟨_, _, hh⟩ := hh
      rw [hx] at hh
      injection hh with _ hh
      subst hh
      exact own_ne ow hg' (by decide) hin
    have hsl := own_sl (n0 := 3) (n := 1) ow' (Nat.le_refl _) (fun a _ => itr_frz _ g5 0 a)
    refine ⟨⟨1, p.2.2, p.1, _, hsl⟩ :: A, ?_, by simp [-bind_some, h2], fun b hb => ?_⟩
    ·simp only [List.map_cons, h1]
     simp [-bind_some, batr, bRow]
    ·rcases List.mem_cons.1 hb with rfl | hb
     ·exact fun i hii => bit_nm (hi i hii)
     ·exact h3 b hb
  obtain ⟨A, h1, h2, h3⟩ := mk bt fun p hp => hp
  have hB : (batr B0).map (frz 3 g5 2) = batr B0 := by
   have := slof_frz (n0 := 3) (h := g5) (n := 1) B0.hd (fun a _ => itr_frz _ g5 0 a)
   simp [-bind_some, batr, this]
  refine ⟨A ++ [B0], .inr ⟨false, ?_⟩, by simp; omega, fun b hb => ?_⟩
  ·rw [frz_msl hob hgo]
   simp only [List.drop_zero, List.take_length, List.map_append, h1, List.map_cons, List.map_nil, hB]
  ·rcases List.mem_append.1 hb with hb | hb
   ·exact h3 b hb
   ·rw [List.mem_singleton.1 hb]; exact hnm
 have hW : aftC 3 (D.msl 3 ob 0 (bt.map (bRow 1) ++ [batr B0]).length, g5) = (frz 3 g5 3 (.msl 3 ob 0 (bt.map (bRow 1) ++ [batr B0]).length), offFrom 3 g5) := rfl
 obtain ⟨A, hA, hAl, hAn⟩ := hA
 simp only [hW, bs]
 generalize frz 3 g5 3 (.msl 3 ob 0 (bt.map (bRow 1) ++ [batr B0]).length) = dA at hA ⊢
 have hoff : ∀ q, q < 3 → (offFrom 3 g5)[q]? = g5[q]? := fun q hq => by
  unfold offFrom
  rw [List.getElem?_append_left (by simp; omega), List.getElem?_take, if_pos (by omega)]
 have w1 : (offFrom 3 g5)[1]? = some (.row ty1009 2 [[.nils, .nils]]) := by rw [hoff _ (by omega), k5 _ (by omega), k4 _ (by omega) (by omega)]; exact u2'
 have w2 : (offFrom 3 g5)[2]? = some (.row ty1009 2 [[.nils, .nils]]) := by rw [hoff _ (by omega), k5 _ (by omega), k4 _ (by omega) (by omega)]; exact u3
 have w3 : 3 ≤ (offFrom 3 g5).length := by simp [-bind_some, offFrom]; omega
 generalize offFrom 3 g5 = G at w1 w2 w3 ⊢
 clear hoff hW hgo hob ow4 its4 k4 k5 k5' i5 l5q o5 e4
 have hok : ∀ {x y : D}, x.one = true → y.one = true → (D.agg [x, y]).okv = true := fun {x y} h1 h2 => by
  cases x <;> first | (cases y <;> first | rfl | (simp [-bind_some, D.one] at h2)) | (simp [-bind_some, D.one] at h1)
 refine Wp.loop (fun k ds g => ∃ a b c e f u w x y, ∃ n : Nat, ∃ (ms : List Mrk) (ts : List Tal) (dm dt dm' dt' : D), ds = [a, .int .i64 n, b, c, e, f, u, w, x, y] ∧ k + n = A.length ∧ 3 ≤ g.length ∧ g[1]? = some (.row ty1009 2 [[dm, dt]]) ∧ g[2]? = some (.row ty1009 2 [[dm', dt']]) ∧
   SlOf 3 mrkr ms dm ∧ SlOf 3 talr ts dt ∧ SlOf 3 mrkr ms dm' ∧ SlOf 3 talr ts dt' ∧ MAsc ms ∧ TAsc ts ∧ ms.length ≤ 40 * n ∧ ts.length ≤ 80 * n)
  (fun r => r.1 = .ext 0) A.length ⟨_, _, _, _, _, _, _, _, _, 0, [], [], _, _, _, _, rfl, rfl, w3, w1, w2, .nils _ _, .nils _ _, .nils _ _, .nils _ _, List.Pairwise.nil, List.Pairwise.nil, by simp, by simp⟩ ?_ ?_
 ·rintro k ds g ⟨a, b, c, e, f, u, w, x, y, n, ms, ts, dm, dt, dm', dt', rfl, hk, g3l, r1, r2, hm, ht, hm', ht', hma, hta, hml, htl⟩
  simp only [F1207_L0, nth_zero, nth_succ, bs, Option.bind_assoc, lens1059 hA, dBin_lss]
  refine Wp.dif ?_ ?_
  ·intro hn
   have hn : n < A.length := by have : (n : Int) < A.length := by simpa using hn
                                omega
   obtain ⟨bb, hbb⟩ : ∃ bb, A[n]? = some bb := ⟨_, List.getElem?_eq_getElem hn⟩
   have hw : IntKind.wrap .i64 ((n : Int) + 1) = ((n + 1 : Nat) : Int) := by rw [wrap_i64 (by omega) (by omega)]; omega
   have hix : dIndexAddr tab ty1059 dA (.int .i64 (n : Int)) = some (.fptr (batr bb)) := by rw [ixs1059 hA, if_pos (by omega), Int.toNat_natCast, hbb]; rfl
   have la : ∀ {g' : Hp} {o : Nat} {p q : D}, g'[o]? = some (.row ty1009 2 [[p, q]]) → dLoad tab g' ty1009 (.ptr o 0 0) = some (.agg [p, q]) := fun hg => by rw [ldp1009, row_of hg]; rfl
   obtain ⟨hf1, hf2, hf3, hf4⟩ := apF_facts bb hma hta
   obtain ⟨a1, a2, a3, es, e1, sa1, sa2, sa3, ev1⟩ := s1089f bb g hm ht hma hta (by omega) (by omega)
   simp only [la r1, hix, hlb, e1, bs, dExtract_tup, List.getElem?_cons_zero, List.getElem?_cons_succ]
   have p5 : (dNew g ty1009 2 [[.nils, .nils]])[g.length]? = some (.row ty1009 2 [[.nils, .nils]]) := dNew_get _ _ _ _
   have k5 : ∀ q, q < g.length → (dNew g ty1009 2 [[.nils, .nils]])[q]? = g[q]? := fun q hq => dNew_old _ _ _ _ hq
   have l5q : (dNew g ty1009 2 [[.nils, .nils]]).length = g.length + 1 := by simp [-bind_some, dNew]
   generalize dNew g ty1009 2 [[.nils, .nils]] = g5 at p5 k5 l5q ⊢
   refine wst1009 (kk := 0) (off := 0) (row := [.nils, .nils]) (v := .agg [a1, a2]) p5 (by rfl) (by rfl) (by simp) (hok (slof_one sa1) (slof_one sa2)) fun g6 p6 s6 => ?_
   replace p6 : g6[g.length]? = some (.row ty1009 2 [[a1, a2]]) := p6
   have r26 : g6[2]? = some (.row ty1009 2 [[dm', dt']]) := by rw [s6.2 _ (by omega), k5 _ (by omega)]; exact r2
   have r16 : g6[1]? = some (.row ty1009 2 [[dm, dt]]) := by rw [s6.2 _ (by omega), k5 _ (by omega)]; exact r1
   have l6q : g6.length = g.length + 1 := by rw [s6.1, l5q]
   obtain ⟨b1, b2, b3, es', e2, sb1, sb2, sb3, ev2⟩ := s1209f bb (hAn bb (List.mem_of_getElem? hbb)) g6 hm' ht' (by omega) (by omega)
   simp only [la r26, hix, hlb, e2, bs, dExtract_tup, List.getElem?_cons_zero, List.getElem?_cons_succ, l6q]
   have p7 : (dNew g6 ty1009 2 [[.nils, .nils]])[g.length + 1]? = some (.row ty1009 2 [[.nils, .nils]]) := by rw [← l6q]; exact dNew_get _ _ _ _
   have k7 : ∀ q, q < g.length + 1 → (dNew g6 ty1009 2 [[.nils, .nils]])[q]? = g6[q]? := fun q hq => dNew_old _ _ _ _ (by omega)
   have l7q : (dNew g6 ty1009 2 [[.nils, .nils]]).length = g.length + 2 := by simp [-bind_some, dNew, l6q]
   generalize dNew g6 ty1009 2 [[.nils, .nils]] = g7 at p7 k7 l7q ⊢
   refine wst1009 (kk := 0) (off := 0) (row := [.nils, .nils]) (v := .agg [b1, b2]) p7 (by rfl) (by rfl) (by simp) (hok (slof_one sb1) (slof_one sb2)) fun g8 p8 s8 => ?_
   replace p8 : g8[g.length + 1]? = some (.row ty1009 2 [[b1, b2]]) := p8
   have q8 : g8[g.length]? = some (.row ty1009 2 [[a1, a2]]) := by rw [s8.2 _ (by omega), k7 _ (by omega)]; exact p6
   have r18 : g8[1]? = some (.row ty1009 2 [[dm, dt]]) := by rw [s8.2 _ (by omega), k7 _ (by omega)]; exact r16
   have r28 : g8[2]? = some (.row ty1009 2 [[dm', dt']]) := by rw [s8.2 _ (by omega), k7 _ (by omega)]; exact r26
   have l8q : g8.length = g.length + 2 := by rw [s8.1, l7q]
   obtain ⟨hee, hel⟩ := evP_det ev1 ev2
   have e90 := s1090r (apF bb ms ts).2.1 (apF bb ms ts).2.2 a1 b1 a2 b2 g8 sa1 sb1 sa2 sb2 (by omega) (by omega)
   have e29 := s29q es es' a3 b3 g8 sa3 sb3 hee (by omega)
   simp only [dBin_neq, ne_eq, not_true, decide_false, gd_bool, gdW_bool, if_true, la q8, la p8, e90, bs, dUn_not, Bool.not_true, dPick_bool, Bool.false_eq_true, if_false, e29, dIf_bool]
   refine wst1009 (kk := 0) (off := 0) (row := [dm, dt]) (v := .agg [a1, a2]) r18 (by rfl) (by rfl) (by simp) (hok (slof_one sa1) (slof_one sa2)) fun g9 p9 s9 => ?_
   replace p9 : g9[1]? = some (.row ty1009 2 [[a1, a2]]) := p9
   rw [chk_true _ _ (la (by rw [s9.2 _ (by omega)]; exact p8))]
   refine wst1009 (kk := 0) (off := 0) (row := [dm', dt']) (v := .agg [b1, b2]) (by rw [s9.2 _ (by omega)]; exact r28) (by rfl) (by rfl) (by simp) (hok (slof_one sb1) (slof_one sb2)) fun g10 p10 s10 => ?_
   replace p10 : g10[2]? = some (.row ty1009 2 [[b1, b2]]) := p10
   simp only [dBin_add, hw, bs]
   exact .some (.inl ⟨rfl, k - 1, by omega, _, _, _, _, _, _, _, _, _, n + 1, _, _, a1, a2, b1, b2, rfl, by omega, by rw [s10.1, s9.1]; omega, by rw [s10.2 _ (by omega)]; exact p9, p10, sa1, sa2, sb1, sb2, hf1, hf2, by omega, by omega⟩)
  ·intro _
   exact .some (.inr ⟨by simp, rfl⟩)
 ·rintro ⟨ex, ds, g⟩ rfl
  simp only [unblk_self, toEnd_nrm, bs, mkRes_one, hsc]
  exact .some rfl
end Go.Proofs.YthaajlepgblimaaDoor
