/- Laws, on plain data, about functions that the statement reaches. -/
import Derived.Test.YtlpedofpnbggbaaDoorL4
set_option linter.unusedSimpArgs false
set_option linter.unusedVariables false
set_option linter.unnecessarySimpa false
set_option maxRecDepth 100000
namespace Go.Proofs.YtlpedofpnbggbaaDoor
open Go.Eng Go.Pi
open Option (bind_some)
theorem w1151 {n0 oi ow : Nat} {h0 : Hp} {it : List D} {g : Hp} {l : List Int} (s : WrS n0 oi ow h0 it g l) (hn : n0 ≤ ow) (u : Str) (hl : l.length + u.length ≤ 999998000) (t : D) (ht : dNilCheck tab t = some t) (hld : ∀ g' : Hp, g'[oi]? = some (.row ty74 11 [it]) → dLoad tab g' ty9 t = some (.str u)) {β : Type} {f : D × Hp → Option β} {Q : β → Prop}
    (k : ∀ g2, WrS n0 oi ow h0 it g2 (l ++ pS u) → Wp (f (mkRes [], g2)) Q) : Wp ((R fn1151 [.ptr ow 0 0, t] g).bind f) Q := by
  obtain ⟨d, hw, hb⟩ := s.hw
  obtain ⟨d1, g1, e1, B1⟩ := s1134 (IntKind.wrap .u64 u.length) 4 (by omega) n0 g l d s.ln hb (by omega)
  have e1 : R fn1134 [d, .int .u64 (IntKind.wrap .u64 u.length), .int .i64 4] g = some (d1, g1) := e1
  obtain ⟨d2, g2, e2, B2⟩ := app_s (Nat.le_trans s.ln B1.len) B1.ow u (by simp only [List.length_append, putb_len]; omega)
  have hi1 : g1[oi]? = some (.row ty74 11 [it]) := by
    rw [B1.old oi (List.getElem?_eq_some_iff.1 s.hi).1 (fun hx => by
      have := own_live hb hx
      rw [s.hi] at this
      injection this with this
      injection this with h1
      exact absurd h1 (by decide))]
    exact s.hi
  have B := B1.trans B2
  have hpS : l ++ putb 4 (IntKind.wrap .u64 u.length) ++ sby u = l ++ pS u := by simp [-bind_some, pS, pN]
  rw [hpS] at B
  rw [e1151]
  simp only [F1151, bs, nilCheck_ptr, fap1101_0, ldw hw, ht, hld g s.hi, len9, cv3_1029, e1, hld g1 hi1, e2, Option.bind_assoc]
  refine s.put hn hw hb B fun g2 s2 => ?_
  simp only [bs, chk_true]
  exact k g2 s2
theorem nmN (d : D) : dNilCheck tab (.fn (.method "logtide/event.number") [.iface ty1099 d] []) = some (.fn (.method "logtide/event.number") [.iface ty1099 d] []) := by kernel_rfl
theorem nmT (d : D) : dNilCheck tab (.fn (.method "logtide/event.text") [.iface ty1099 d] []) = some (.fn (.method "logtide/event.text") [.iface ty1099 d] []) := by kernel_rfl
theorem nmC (d : D) : dNilCheck tab (.fn (.method "logtide/event.count") [.iface ty1099 d] []) = some (.fn (.method "logtide/event.count") [.iface ty1099 d] []) := by kernel_rfl
theorem nilCheck_fp (cs : List D) : dNilCheck tab (.fptr cs) = some (.fptr cs) := id rfl
theorem itA {g : Hp} {oi : Nat} {i : It} (h : g[oi]? = some (.row ty74 11 [itr i])) : dLoad tab g ty9 (.ptr oi 0 (0 + 0)) = some (.str i.r) ∧ dLoad tab g ty3 (.ptr oi 0 (0 + 1 + 0)) = some (.int .i64 i.e.a0) ∧ dLoad tab g ty3 (.ptr oi 0 (0 + 1 + 1)) = some (.int .i64 i.e.a1) ∧
    dLoad tab g ty3 (.ptr oi 0 (0 + 1 + 2)) = some (.int .i64 i.e.a2) ∧ dLoad tab g ty3 (.ptr oi 0 (0 + 1 + 3)) = some (.int .i64 i.e.a3) ∧ dLoad tab g ty28 (.ptr oi 0 (0 + 1 + 4)) = some i.e.ld ∧ dLoad tab g ty3 (.ptr oi 0 (0 + 1 + 5)) = some (.int .i64 i.e.a5) ∧
    dLoad tab g ty3 (.ptr oi 0 (0 + 1 + 6)) = some (.int .i64 i.e.a6) ∧ dLoad tab g ty9 (.ptr oi 0 (0 + 1 + 7)) = some (.str i.e.s7) ∧ dLoad tab g ty9 (.ptr oi 0 (0 + 1 + 8)) = some (.str i.e.s8) ∧ dLoad tab g ty29 (.ptr oi 0 (0 + 1 + 9)) = some i.e.fd := by
  refine ⟨?_, ?_, ?_, ?_, ?_, ?_, ?_, ?_, ?_, ?_, ?_⟩
  · rw [ldp9, row_of h]; rfl
  · rw [ldp3, row_of h]; rfl
  · rw [ldp3, row_of h]; rfl
  · rw [ldp3, row_of h]; rfl
  · rw [ldp3, row_of h]; rfl
  · rw [ldp28, row_of h]; rfl
  · rw [ldp3, row_of h]; rfl
  · rw [ldp3, row_of h]; rfl
  · rw [ldp9, row_of h]; rfl
  · rw [ldp9, row_of h]; rfl
  · rw [ldp29, row_of h]; rfl
def pl4 (oi : Nat) : List (List D) := [[.ptr oi 0 (0 + 1 + 0)], [.ptr oi 0 (0 + 1 + 1)], [.ptr oi 0 (0 + 1 + 2)], [.ptr oi 0 (0 + 1 + 3)]]
def four4 (i : It) : List Int := [i.e.a0, i.e.a1, i.e.a2, i.e.a3]
theorem four_ld {g : Hp} {oi : Nat} {i : It} (h : g[oi]? = some (.row ty74 11 [itr i])) (n : Nat) (hn : n < 4) : ∃ t a, dIndexAddr tab ty1133 (.sl 1 true (pl4 oi)) (.int .i64 n) = some (.fptr [t]) ∧ dNilCheck tab t = some t ∧ dLoad tab g ty3 t = some (.int .i64 a) ∧ (four4 i)[n]? = some a := by
  obtain ⟨_, h0, h1, h2, h3, _⟩ := itA h
  have : n = 0 ∨ n = 1 ∨ n = 2 ∨ n = 3 := by omega
  rcases this with rfl | rfl | rfl | rfl
  · exact ⟨_, _, by rw [ix1133]; rfl, nilCheck_ptr _ _ _ _, h0, rfl⟩
  · exact ⟨_, _, by rw [ix1133]; rfl, nilCheck_ptr _ _ _ _, h1, rfl⟩
  · exact ⟨_, _, by rw [ix1133]; rfl, nilCheck_ptr _ _ _ _, h2, rfl⟩
  · exact ⟨_, _, by rw [ix1133]; rfl, nilCheck_ptr _ _ _ _, h3, rfl⟩
theorem w1133 (i : It) {n0 oi ow : Nat} {h0 g : Hp} {l : List Int} (s : WrS n0 oi ow h0 (itr i) g l) (hn : n0 ≤ ow) (hl : l.length + (bodyI i).length ≤ 900000000) {β : Type} {f : D × Hp → Option β} {Q : β → Prop}
    (k : ∀ g2, WrS n0 oi ow h0 (itr i) g2 (l ++ bodyI i) → Wp (f (mkRes [], g2)) Q) : Wp ((R fn1133 [.iface ty1099 (.ptr ow 0 0), .ptr oi 0 0] g).bind f) Q := by
  have hbb := hl
  simp only [bodyI, bodyB, bodyA, List.length_append, pI_len, pN_len, pS_len] at hbb
  have hll := i.e.hll
  have hlf := i.e.hl
  rw [e1133]
  simp only [F1133, bs, Option.bind_assoc, nilCheck_ptr, fap74_0, fap74_1, nmT, nmN, nmC, inv1099_text, inv1099_number, inv1099_count, fap31_0, fap31_1, fap31_2, fap31_3]
  refine w1151 s hn i.r (by omega) _ (nilCheck_ptr _ _ _ _) (fun g' h => (itA h).1) fun g1 s1 => ?_
  simp only [bs, bs1133_4 (.ptr oi 0 (0 + 1 + 0)) (.ptr oi 0 (0 + 1 + 1)) (.ptr oi 0 (0 + 1 + 2)) (.ptr oi 0 (0 + 1 + 3)) rfl rfl rfl rfl, show ([[.ptr oi 0 (0 + 1 + 0)], [.ptr oi 0 (0 + 1 + 1)], [.ptr oi 0 (0 + 1 + 2)], [.ptr oi 0 (0 + 1 + 3)]] : List (List D)) = pl4 oi from rfl, len1133, show (pl4 oi).length = 4 from rfl]
  refine Wp.loop (fun kk ds g' => ∃ a b, ∃ n : Nat, ds = [a, .int .i64 n, b] ∧ kk + n = 4 ∧ WrS n0 oi ow h0 (itr i) g' (l ++ pS i.r ++ (((four4 i).take n).map pI).flatten))
    (fun r => r.1 = .ext 0 ∧ (∃ a b c, r.2.1 = [a, b, c]) ∧ WrS n0 oi ow h0 (itr i) r.2.2 (l ++ pS i.r ++ ((four4 i).map pI).flatten)) 4 ⟨_, _, 0, rfl, rfl, by simpa using s1⟩ ?_ ?_
  · rintro kk ds g' ⟨a, b, n, rfl, hk, s'⟩
    simp only [F1133_L0, nth_zero, nth_succ, bs, Option.bind_assoc, dBin_lss]
    refine Wp.dif ?_ ?_
    · intro h1
      have h1 : n < 4 := by have : (n : Int) < ((4 : Nat) : Int) := by simpa using h1
                            omega
      obtain ⟨t, v, q1, q2, q3, q4⟩ := four_ld s'.hi n h1
      have hw : IntKind.wrap .i64 ((n : Int) + 1) = ((n + 1 : Nat) : Int) := by
        rw [wrap_i64 (by omega) (by omega)]; omega
      have hle := flat_le pI (four4 i) n
      have hl32 : ((four4 i).map pI).flatten.length = 32 := by simp only [four4, List.map_cons, List.map_nil, List.flatten_cons, List.flatten_nil, List.length_append, pI_len, List.length_nil]
      simp only [q1, ld1132, bs, inv1099_number]
      refine w1150 s' hn (by simp only [List.length_append, pS_len]; omega) t v q2 q3 fun g2 s2 => ?_
      simp only [bs, dBin_add, hw]
      refine .some (.inl ⟨rfl, kk - 1, by omega, _, _, n + 1, rfl, by omega, ?_⟩)
      rw [flat_take pI q4]
      simpa using s2
    · intro h1
      have h1 : n = 4 := by have : ¬ (n : Int) < ((4 : Nat) : Int) := by simpa using h1
                            omega
      subst h1
      exact .some (.inr ⟨by simp, rfl, ⟨_, _, _, rfl⟩, s'⟩)
  rintro ⟨ex, ds, g2⟩ ⟨rfl, ⟨a, b, c, rfl⟩, s2⟩
  have s2 : WrS n0 oi ow h0 (itr i) g2 (l ++ pS i.r ++ ((four4 i).map pI).flatten) := s2
  have h4 : ((four4 i).map pI).flatten = pI i.e.a0 ++ pI i.e.a1 ++ pI i.e.a2 ++ pI i.e.a3 := by simp [-bind_some, four4]
  rw [h4] at s2
  simp only [unblk_self, toEnd_nrm, bs, Option.bind_assoc, nilCheck_ptr, fap31_4, (itA s2.hi).2.2.2.2.2.1, lens28 i.e.hld, nmC, inv1099_count]
  refine w1149 s2 hn (by simp only [List.length_append, pI_len, pS_len]; omega) i.e.ls.length fun g3 s3 => ?_
  have hA : l ++ pS i.r ++ (pI i.e.a0 ++ pI i.e.a1 ++ pI i.e.a2 ++ pI i.e.a3) ++ pN i.e.ls.length = l ++ bodyA i := by simp [-bind_some, bodyA]
  rw [hA] at s3
  have hAl : (bodyA i).length = 4 + i.r.length + 36 := by simp only [bodyA, List.length_append, pS_len, pI_len, pN_len]
  simp only [bs]
  refine Wp.loop (fun kk ds g' => ∃ a b c d, ∃ n : Nat, ds = [a, b, .int .i64 n, c, d] ∧ kk + n = i.e.ls.length ∧ WrS n0 oi ow h0 (itr i) g' (l ++ bodyA i ++ ((i.e.ls.take n).map lnB).flatten))
    (fun r => r.1 = .ext 2 ∧ (∃ a b c d e, r.2.1 = [a, b, c, d, e]) ∧ WrS n0 oi ow h0 (itr i) r.2.2 (l ++ bodyA i ++ (i.e.ls.map lnB).flatten)) i.e.ls.length ⟨_, _, _, _, 0, rfl, rfl, by simpa using s3⟩ ?_ ?_
  · rintro kk ds g' ⟨a, b, c, d, n, rfl, hk, s'⟩
    simp only [F1133_L1, nth_zero, nth_succ, bs, Option.bind_assoc, dBin_lss]
    refine Wp.dif ?_ ?_
    · intro h1
      have h1 : n < i.e.ls.length := by have : (n : Int) < i.e.ls.length := by simpa using h1
                                        omega
      obtain ⟨x, hx⟩ : ∃ x, i.e.ls[n]? = some x := ⟨_, List.getElem?_eq_getElem h1⟩
      have hw : IntKind.wrap .i64 ((n : Int) + 1) = ((n + 1 : Nat) : Int) := by
        rw [wrap_i64 (by omega) (by omega)]; omega
      have hix : dIndexAddr tab ty28 i.e.ld (.int .i64 (n : Int)) = some (.fptr (linr x)) := by rw [ixs28 i.e.hld]; simp [-bind_some, hx]
      have hle := flat_le lnB i.e.ls (n + 1)
      rw [flat_take lnB hx, List.length_append] at hle
      have hln : (lnB x).length = 20 + x.txt.length := by simp only [lnB, List.length_append, pI_len, pS_len]; omega
      have hne : ¬ (n : Int) = (i.e.ls.length : Int) := by omega
      simp only [nilCheck_ptr, fap31_4, bs, (itA s'.hi).2.2.2.2.2.1, lens28 i.e.hld, dBin_eql, hne, decide_false, dIf_bool, Bool.false_eq_true, if_false, toEnd_nrm, hix, nilCheck_fp, lF0, lF1, lF2, nmN, nmT, inv1099_number, inv1099_text]
      refine w1150 s' hn (by simp only [List.length_append]; omega) _ x.off (nilCheck_fp _) (lL0 x g') fun g4 s4 => ?_
      simp only [bs]
      refine w1150 s4 hn (by simp only [List.length_append, pI_len]; omega) _ x.len (nilCheck_fp _) (ld3 _ _ _) fun g5 s5 => ?_
      simp only [bs]
      refine w1151 s5 hn x.txt (by simp only [List.length_append, pI_len]; omega) _ (nilCheck_fp _) (fun g' _ => ld9 _ _ _) fun g6 s6 => ?_
      simp only [bs, dBin_add, hw]
      refine .some (.inl ⟨rfl, kk - 1, by omega, _, _, _, _, n + 1, rfl, by omega, ?_⟩)
      rw [flat_take lnB hx]
      simpa [-bind_some, lnB] using s6
    · intro h1
      have h1 : n = i.e.ls.length := by have : ¬ (n : Int) < i.e.ls.length := by simpa using h1
                                        omega
      subst h1
      rw [List.take_length] at s'
      exact .some (.inr ⟨by simp, rfl, ⟨_, _, _, _, _, rfl⟩, s'⟩)
  rintro ⟨ex, ds, g4⟩ ⟨rfl, ⟨a, b, c, d, e, rfl⟩, s4⟩
  have s4 : WrS n0 oi ow h0 (itr i) g4 (l ++ bodyA i ++ (i.e.ls.map lnB).flatten) := s4
  simp only [unblk_self, toEnd_nrm, bs, Option.bind_assoc, nilCheck_ptr, fap31_5, fap31_6, fap31_7, fap31_8, fap31_9, nmN, nmT, nmC, inv1099_number, inv1099_text, inv1099_count]
  refine w1150 s4 hn (by simp only [List.length_append]; omega) _ i.e.a5 (nilCheck_ptr _ _ _ _) (itA s4.hi).2.2.2.2.2.2.1 fun g5 s5 => ?_
  simp only [bs]
  refine w1150 s5 hn (by simp only [List.length_append, pI_len]; omega) _ i.e.a6 (nilCheck_ptr _ _ _ _) (itA s5.hi).2.2.2.2.2.2.2.1 fun g6 s6 => ?_
  simp only [bs]
  refine w1151 s6 hn i.e.s7 (by simp only [List.length_append, pI_len]; omega) _ (nilCheck_ptr _ _ _ _) (fun g' h => (itA h).2.2.2.2.2.2.2.2.1) fun g7 s7' => ?_
  simp only [bs]
  refine w1151 s7' hn i.e.s8 (by simp only [List.length_append, pI_len, pS_len]; omega) _ (nilCheck_ptr _ _ _ _) (fun g' h => (itA h).2.2.2.2.2.2.2.2.2.1) fun g8 s8' => ?_
  simp only [bs, (itA s8'.hi).2.2.2.2.2.2.2.2.2.2, lens29 i.e.hfd]
  refine w1149 s8' hn (by simp only [List.length_append, pI_len, pS_len]; omega) i.e.fs.length fun g9 s9 => ?_
  have hB : l ++ bodyA i ++ (i.e.ls.map lnB).flatten ++ pI i.e.a5 ++ pI i.e.a6 ++ pS i.e.s7 ++ pS i.e.s8 ++ pN i.e.fs.length = l ++ bodyB i := by simp [-bind_some, bodyB]
  rw [hB] at s9
  have hBl : (bodyB i).length = (bodyA i).length + (i.e.ls.map lnB).flatten.length + 16 + (4 + i.e.s7.length) + (4 + i.e.s8.length) + 4 := by simp only [bodyB, List.length_append, pI_len, pS_len, pN_len]
  simp only [bs]
  refine Wp.loop (fun kk ds g' => ∃ a b c, ∃ n : Nat, ds = [a, .int .i64 n, b, c] ∧ kk + n = i.e.fs.length ∧ WrS n0 oi ow h0 (itr i) g' (l ++ bodyB i ++ ((i.e.fs.take n).map fdB).flatten))
    (fun r => r.1 = .ext 4 ∧ (∃ a b c d, r.2.1 = [a, b, c, d]) ∧ WrS n0 oi ow h0 (itr i) r.2.2 (l ++ bodyI i)) i.e.fs.length ⟨_, _, _, 0, rfl, rfl, by simpa using s9⟩ ?_ ?_
  · rintro kk ds g' ⟨a, b, c, n, rfl, hk, s'⟩
    simp only [F1133_L2, nth_zero, nth_succ, bs, Option.bind_assoc, dBin_lss]
    refine Wp.dif ?_ ?_
    · intro h1
      have h1 : n < i.e.fs.length := by have : (n : Int) < i.e.fs.length := by simpa using h1
                                        omega
      obtain ⟨x, hx⟩ : ∃ x, i.e.fs[n]? = some x := ⟨_, List.getElem?_eq_getElem h1⟩
      have hw : IntKind.wrap .i64 ((n : Int) + 1) = ((n + 1 : Nat) : Int) := by
        rw [wrap_i64 (by omega) (by omega)]; omega
      have hix : dIndexAddr tab ty29 i.e.fd (.int .i64 (n : Int)) = some (.fptr (fld x)) := by rw [ixs29 i.e.hfd]; simp [-bind_some, hx]
      have hle := flat_le fdB i.e.fs (n + 1)
      rw [flat_take fdB hx, List.length_append] at hle
      have hln : (fdB x).length = 8 + x.1.length + x.2.length := by simp only [fdB, List.length_append, pS_len]; omega
      have hne : ¬ (n : Int) = (i.e.fs.length : Int) := by omega
      simp only [nilCheck_ptr, fap31_9, bs, (itA s'.hi).2.2.2.2.2.2.2.2.2.2, lens29 i.e.hfd, dBin_eql, hne, decide_false, dIf_bool, Bool.false_eq_true, if_false, toEnd_nrm, hix, nilCheck_fp, fF0, nmN, nmT, inv1099_number, inv1099_text]
      refine w1151 s' hn x.1 (by simp only [List.length_append]; omega) _ (nilCheck_fp _) (fun g' _ => fL0 x g') fun g4 s4 => ?_
      simp only [bs, (itA s4.hi).2.2.2.2.2.2.2.2.2.2, hix, fF1]
      refine w1151 s4 hn x.2 (by simp only [List.length_append, pS_len]; omega) _ (nilCheck_fp _) (fun g' _ => ld9 _ _ _) fun g6 s6 => ?_
      simp only [bs, dBin_add, hw]
      refine .some (.inl ⟨rfl, kk - 1, by omega, _, _, _, n + 1, rfl, by omega, ?_⟩)
      rw [flat_take fdB hx]
      simpa [-bind_some, fdB] using s6
    · intro h1
      have h1 : n = i.e.fs.length := by have : ¬ (n : Int) < i.e.fs.length := by simpa using h1
                                        omega
      subst h1
      rw [List.take_length] at s'
      exact .some (.inr ⟨by simp, rfl, ⟨_, _, _, _, rfl⟩, by simpa [-bind_some, bodyI] using s'⟩)
  rintro ⟨ex, ds, gz⟩ ⟨rfl, ⟨a, b, c, d, rfl⟩, sz⟩
  simp only [unblk_self, exEnd_nrm, bs, Option.bind_assoc]
  exact k gz sz
theorem mk22_4 (g : Hp) : dMake tab g ty22 (.int .i64 4) (.int .i64 4) = some (.msl 1 g.length 0 4, dNew g ty5 1 ([0, 0, 0, 0].map byr)) := by
  have h1 : tab ty22 = some ti22 := id rfl
  have h2 : ti22.td = .sl ty5 := id rfl
  have h3 : tab ty5 = some ti5 := id rfl
  have h4 : ti5.sz = 1 := id rfl
  have h5 : ti5.zero = byr 0 := id rfl
  have h6 : lim 4 ti5.by_ = true := lim_ok (by have : ti5.by_ = 1 := rfl; rw [this]; omega) (by omega)
  have h7 : (4 : Int).toNat = 4 := rfl
  simp only [dMake, h1, h2, h3, h4, h5, h7, h6, show (0 : Int) ≤ 4 ∧ (4 : Int) ≤ 4 ∧ true = true ∧ 0 < 1 from ⟨by omega, by omega, rfl, by omega⟩, if_true]
  rfl
theorem cp22 {g : Hp} {o : Nat} {p m r : List Int} {y : D} (ho : g[o]? = some (.row ty5 1 ((p ++ r).map byr))) (hy : dRowsOf g 1 y = some (m.map byr)) (hl : m.length = p.length) : ∃ g', dCopy tab g ty22 ty22 (.msl 1 o 0 (p ++ r).length) y = some (.int .i64 m.length, g') ∧ g'[o]? = some (.row ty5 1 ((m ++ r).map byr)) ∧ Same o g g' := by
  have h1 : tab ty22 = some ti22 := id rfl
  have h2 : ti22.td = .sl ty5 := id rfl
  have h3 : tab ty5 = some ti5 := id rfl
  have h4 : ti5.sz = 1 := id rfl
  have hs : dSrc g ti22 ti5 y = some (m.map byr) := by simp only [dSrc, h2, h4, hy]
  have hn : notInt ti22 = true := rfl
  have hb : Nat.blt 0 1 = true := rfl
  have holt := (List.getElem?_eq_some_iff.1 ho).1
  have hmin : min (m.map byr).length (p ++ r).length = m.length := by simp; omega
  refine ⟨g.set o (.row ty5 1 (((p ++ r).map byr).take 0 ++ (m.map byr).take (p ++ r).length ++ ((p ++ r).map byr).drop (0 + m.length))), ?a1, ?a2, ?a3⟩
  case a1 => simp only [dCopy, h1, h2, hn, h3, h4, hb, hs, ho, and_self, if_true, hmin]
  case a2 =>
    rw [List.getElem?_set_self holt]
    have e1 : (m.map byr).take (p ++ r).length = m.map byr := List.take_of_length_le (by simp; omega)
    rw [e1, List.take_zero, List.nil_append, Nat.zero_add, hl, List.map_append, List.drop_left' (by simp), List.map_append]
  case a3 => exact ⟨by simp, fun q hq => List.getElem?_set_ne (Ne.symm hq)⟩
theorem s1128 (i : It) (c : Int) (h : Hp) (hc : ∀ g, R fn1042 [.agg (itr i)] g = some (.int .i64 c, g)) (hb : (bodyI i).length ≤ 800000000) : ∃ d', R fn1128 [.agg (itr i)] h = some (.tup [d', .int .i64 c], h) ∧ SlOf 1 byr (if c = 0 then encI i else []) d' := by
  suffices Wp (R fn1128 [.agg (itr i)] h) (fun p => p.2 = h ∧ ∃ d', p.1 = .tup [d', .int .i64 c] ∧ SlOf 1 byr (if c = 0 then encI i else []) d') by
    obtain ⟨⟨x, h'⟩, h1, rfl, d', rfl, h2⟩ := this
    exact ⟨d', h1, h2⟩
  have hi0 : (dNew h ty74 11 [itr i])[h.length]? = some (.row ty74 11 [itr i]) := dNew_get _ _ _ _
  have ld0 : dLoad tab (dNew h ty74 11 [itr i]) ty74 (.ptr h.length 0 0) = some (.agg (itr i)) := by rw [ldp74, row_of hi0]; rfl
  have hl0 : (dNew h ty74 11 [itr i]).length = h.length + 1 := by simp [-bind_some, dNew]
  rw [e1128]
  simp only [F1128, wBox_agg ty74 11 h (itr i) rfl (by omega), bs, Option.bind_assoc, ld0, hc, dBin_neq]
  refine Wp.dif ?_ ?_
  · intro h0
    have h0 : ¬ c = 0 := by simpa using h0
    simp only [bs, mkRes_two]
    rw [scope_eq (d' := .tup [.nils, .int .i64 c]) (by simp) (.tup _ fun d hd => by simp at hd; rcases hd with rfl | rfl <;> constructor) (by omega) fun q hq => dNew_old _ _ _ _ hq]
    exact .some ⟨rfl, _, rfl, by rw [if_neg h0]; exact .nils _ _⟩
  · intro h0
    have h0 : c = 0 := by simpa using h0
    subst h0
    generalize hg0 : dNew h ty74 11 [itr i] = g0 at *
    have hl1 : (dNew g0 ty5 1 ([0, 0, 0, 0].map byr)).length = h.length + 2 := by simp [-bind_some, dNew, hl0]
    have hb1 : (dNew g0 ty5 1 ([0, 0, 0, 0].map byr))[h.length + 1]? = some (.row ty5 1 ([0, 0, 0, 0].map byr)) := by rw [← hl0]; exact dNew_get _ _ _ _
    have hi1 : (dNew g0 ty5 1 ([0, 0, 0, 0].map byr))[h.length]? = some (.row ty74 11 [itr i]) := by rw [dNew_old _ _ _ _ (by omega)]; exact hi0
    have hq1 : ∀ q, q < h.length → (dNew g0 ty5 1 ([0, 0, 0, 0].map byr))[q]? = h[q]? := fun q hq => by rw [dNew_old _ _ _ _ (by omega), ← hg0, dNew_old _ _ _ _ hq]
    simp only [mk22_4, bs, hl0]
    generalize dNew g0 ty5 1 ([0, 0, 0, 0].map byr) = g1 at *
    simp only [bd1101_0 (.msl 1 (h.length + 1) 0 4) rfl, bs, wBox_agg ty1101 1 g1 [.msl 1 (h.length + 1) 0 4] rfl (by omega), hl1]
    have hw2 : (dNew g1 ty1101 1 [[.msl 1 (h.length + 1) 0 4]])[h.length + 2]? = some (.row ty1101 1 [[.msl 1 (h.length + 1) 0 4]]) := by rw [← hl1]; exact dNew_get _ _ _ _
    have S0 : WrS h.length h.length (h.length + 2) h (itr i) (dNew g1 ty1101 1 [[.msl 1 (h.length + 1) 0 4]]) [0, 0, 0, 0] :=
      ⟨by rw [dNew_old _ _ _ _ (by omega)]; exact hi1, ⟨_, hw2, .inr ⟨h.length + 1, by omega, rfl, by rw [dNew_old _ _ _ _ (by omega)]; exact hb1⟩⟩, fun q hq => by rw [dNew_old _ _ _ _ (by omega)]; exact hq1 q hq, by simp [-bind_some, dNew]; omega⟩
    refine w1133 i S0 (by omega) (by simp; omega) fun g2 S => ?_
    obtain ⟨d, hw, ho⟩ := S.hw
    have ldd := ldw hw
    have hlen : ([0, 0, 0, 0] ++ bodyI i : List Int).length = (bodyI i).length + 4 := by simp
    obtain ⟨P, hP⟩ : ∃ P, P = putb 4 (IntKind.wrap .u64 (((bodyI i).length : Int) + 4)) := ⟨_, rfl⟩
    have hPl : P.length = ([0, 0, 0, 0] : List Int).length := by rw [hP, putb_len]; rfl
    have hH : P ++ bodyI i = encH i := by rw [hP]; rfl
    have rb := RdB.own ho
    have hli : (([0, 0, 0, 0] ++ bodyI i : List Int).length : Int) = ((bodyI i).length : Int) + 4 := by rw [hlen]; omega
    obtain ⟨dp, g3, e3, B3⟩ := s1134 (IntKind.wrap .u64 (((bodyI i).length : Int) + 4)) 4 (by omega) g2.length g2 [] .nils (Nat.le_refl _) (Own.nils _ _ _ _) (by simp)
    rw [List.nil_append, ← hP] at B3
    have e3 : R fn1134 [.nils, .int .u64 (IntKind.wrap .u64 (((bodyI i).length : Int) + 4)), .int .i64 4] g2 = some (dp, g3) := e3
    simp only [bs, nilCheck_ptr, fap1101_0, ldd, rdB_len rb, hli, cv3_1029]
    refine Wp.step e3 ?_
    have old3 : ∀ q, q < g2.length → g3[q]? = g2[q]? := fun q hq => B3.old q hq (nil_ob q)
    have hw3 : g3[h.length + 2]? = some (.row ty1101 1 [[d]]) := by rw [old3 _ (List.getElem?_eq_some_iff.1 hw).1]; exact hw
    have ldd3 := ldw hw3
    have ho3 : Own g3 h.length ty5 1 (([0, 0, 0, 0] ++ bodyI i : List Int).map byr) d := ho.keep fun q _ hx => old3 q (ho.lt hx).2
    obtain ⟨o, hon, hdo, hob⟩ := own_ix ho3 (i := 0) (by simp)
    rw [List.length_map] at hdo
    obtain ⟨g4, e4, ho4, s4⟩ := cp22 hob (rdB_rows (RdB.own B3.ow)) hPl
    rw [← hdo] at e4
    have hne : h.length + 2 ≠ o := fun hh => by
      rw [hh, hob] at hw3
      injection hw3 with hw3
      injection hw3 with h1
      exact absurd h1 (by decide)
    have hw4 : g4[h.length + 2]? = some (.row ty1101 1 [[d]]) := by rw [s4.2 _ hne]; exact hw3
    have ldd4 := ldw hw4
    have ho4' : g4[o]? = some (.row ty5 1 ((encH i).map byr)) := by rw [← hH]; exact ho4
    have hHl : (encH i).length = 4 + (bodyI i).length := by simp only [encH, List.length_append, putb_len]
    have own4 : Own g4 h.length ty5 1 ((encH i).map byr) d := .inr ⟨o, hon, by rw [hdo, hlen, List.length_map, hHl, Nat.add_comm], ho4'⟩
    have hn4 : h.length ≤ g4.length := by have := s4.1; have := B3.len; have := S.ln; omega
    have e5 := s1135 (encH i) _ g4 (RdB.own own4) (by omega) (encH_u8 i)
    obtain ⟨d5, g5, e6, B5⟩ := s1134 (chkS (encH i)) 4 (by omega) h.length g4 (encH i) _ hn4 own4 (by omega)
    have e6 : R fn1134 [d, .int .u64 (chkS (encH i)), .int .i64 4] g4 = some (d5, g5) := e6
    simp only [bs, e4, ldd3, ldd4, e5, e6, chk_true, mkRes_two]
    have hE : encH i ++ putb 4 (chkS (encH i)) = encI i := rfl
    rw [hE] at B5
    have hsl := own_sl (n0 := h.length) (n := 2) B5.ow (Nat.le_refl _) (fun a _ => byr_frz _ g5 2 a)
    have hlow : ∀ q, q < h.length → g5[q]? = h[q]? := fun q hq => by
      rw [B5.old q (by omega) (fun hx => by have := (own4.lt hx).1; omega), s4.2 q (by omega), old3 q (by have := S.ln; omega)]
      exact S.lo q hq
    rw [scope_eq (d' := .tup [frz h.length g5 3 d5, .int .i64 0]) (by simp) (by
      refine .tup _ fun d hd => ?_
      simp at hd
      rcases hd with rfl | rfl
      · exact slof_ok hsl fun a _ => byr_ok _ a
      · constructor) (Nat.le_trans hn4 B5.len) hlow]
    exact .some ⟨rfl, _, rfl, by simpa using hsl⟩
def bys (l : List Int) : Str := l.map fun z => UInt8.ofNat z.toNat
theorem dBytes_by : ∀ (l : List Int), dBytes (l.map byr) = some (bys l)
  | [] => rfl
  | z :: l => by
    simp only [List.map_cons, byr, dBytes]
    rw [dBytes_by l]
    rfl
theorem toStr_by {h : Hp} {l : List Int} {d : D} (hd : SlOf 1 byr l d) : dToStr h d = some (.str (bys l)) := by
  simp only [dToStr, rdB_rows (h := h) (.inl hd), dBytes_by]
theorem num_range : ∀ (n : Nat) (l : List Int), l.length = n → (∀ z ∈ l, U8 z) → 0 ≤ num l ∧ num l < 256 ^ n
  | 0, l, h, _ => by
    have : l = [] := List.length_eq_zero_iff.1 h
    subst this
    simp [-bind_some, num]
  | n + 1, l, h, hu => by
    have hz : l[n]? = some l[n] := List.getElem?_eq_getElem (by omega)
    have h1 := num_take hz
    rw [List.take_of_length_le (by omega)] at h1
    have h2 := num_range n (l.take n) (by simp; omega) fun z hz => hu z (List.mem_of_mem_take hz)
    have h3 := hu l[n] (List.getElem_mem _)
    unfold U8 at h3
    rw [h1, Int.pow_succ]
    omega
theorem s1136 (l : List Int) (d : D) (h : Hp) (hd : SlOf 1 byr l d) (hl : l.length ≤ 8) (hu : ∀ z ∈ l, U8 z) : R fn1136 [d] h = some (.int .u64 (num l), h) := by
  suffices Wp (R fn1136 [d] h) (fun p => p = (.int .u64 (num l), h)) by
    obtain ⟨p, h1, rfl⟩ := this
    exact h1
  rw [e1136]
  simp only [F1136, bs, Option.bind_assoc, lens22 hd]
  refine Wp.loop (fun k ds g => g = h ∧ ∃ x y, ∃ n : Nat, ds = [.int .u64 (num (l.take n)), x, .int .i64 n, y] ∧ k + n = l.length) (fun r => r.1 = .ext 0 ∧ r.2.2 = h ∧ ∃ a b c, r.2.1 = [.int .u64 (num l), a, b, c]) l.length ⟨rfl, _, _, 0, rfl, rfl⟩ ?_ ?_
  · rintro k ds g ⟨rfl, x, y, n, rfl, hk⟩
    simp only [F1136_L0, nth_zero, nth_succ, bs, Option.bind_assoc, dBin_lss]
    refine Wp.dif ?_ ?_
    · intro h0
      have h0 : n < l.length := by have : (n : Int) < l.length := by simpa using h0
                                   omega
      obtain ⟨z, hz⟩ : ∃ z, l[n]? = some z := ⟨_, List.getElem?_eq_getElem h0⟩
      have hzu := hu z (List.mem_of_getElem? hz)
      have hw : IntKind.wrap .i64 ((n : Int) + 1) = ((n + 1 : Nat) : Int) := by
        rw [wrap_i64 (by omega) (by omega)]; omega
      unfold U8 at hzu
      obtain ⟨hn0, hn1⟩ := num_range n (l.take n) (by simp; omega) fun z hz => hu z (List.mem_of_mem_take hz)
      have hb : num (l.take n) < 72057594037927936 := by
        have : n = 0 ∨ n = 1 ∨ n = 2 ∨ n = 3 ∨ n = 4 ∨ n = 5 ∨ n = 6 ∨ n = 7 := by omega
        rcases this with rfl | rfl | rfl | rfl | rfl | rfl | rfl | rfl <;> omega
      have m3 : min ((8 : Int).toNat) IntKind.u64.bits = 8 := by decide
      have p3 : (2 : Int) ^ 8 = 256 := by decide
      have w1 : IntKind.wrap .u64 (num (l.take n) * 2 ^ 8) = num (l.take n) * 2 ^ 8 := by rw [p3]; exact wrap_u64 (by omega) (by omega)
      have w2 : IntKind.wrap .u64 z = z := wrap_u64 (by omega) (by omega)
      have w3 := or_u64 (x := num (l.take n)) (b := z) 8 hn0 (by omega) (by rw [p3]; omega) (by rw [p3]; omega)
      have hii : dIndexAddr tab ty22 d (.int .i64 (n : Int)) = some (.fptr (byr z)) := by rw [ixs22 hd]; simp [-bind_some, hz]
      rw [p3, ← num_take hz] at w3
      rw [p3] at w1
      simp only [hii, byr_ld, bs, dBin_shl, show ¬ (8 : Int) < 0 by omega, if_false, m3, p3, w1, cv5_1029, w2, dBin_or, w3, dBin_add, hw]
      exact .some (.inl ⟨rfl, k - 1, by omega, rfl, _, _, n + 1, rfl, by omega⟩)
    · intro h0
      have h0 : n = l.length := by have : ¬ (n : Int) < l.length := by simpa using h0
                                   omega
      subst h0
      rw [List.take_length]
      exact .some (.inr ⟨by simp, rfl, rfl, _, _, _, rfl⟩)
  · rintro ⟨ex, ds, g⟩ ⟨rfl, q2, a, b, c, rfl⟩
    simp only at q2
    subst q2
    simp only [unblk_self, toEnd_nrm, bs, nth_zero, mkRes_one]
    exact .some rfl
abbrev Cur := List Int × Bool
def takeS (s : Cur) (n : Int) : List Int × Cur := if s.2 = true ∨ n < 0 ∨ (s.1.length : Int) < n then ([], (s.1, true)) else (s.1.take n.toNat, (s.1.drop n.toNat, false))
def numS (s : Cur) : Int × Cur := (IntKind.wrap .i64 (num (takeS s 8).1), (takeS s 8).2)
def lenS (s : Cur) : Int × Cur := (IntKind.wrap .i64 (num (takeS s 4).1), (takeS s 4).2)
def textS (s : Cur) : Option Str × Cur := if (takeS (lenS s).2 (lenS s).1).2.2 = true then (none, (takeS (lenS s).2 (lenS s).1).2) else (some (bys (takeS (lenS s).2 (lenS s).1).1), (takeS (lenS s).2 (lenS s).1).2)
def countS (s : Cur) : Int × Cur := if (lenS s).2.2 = true ∨ ((lenS s).2.1.length : Int).tdiv 8 < (lenS s).1 then (0, ((lenS s).2.1, true)) else lenS s
def CuO (g : Hp) (oc : Nat) (s : Cur) : Prop := ∃ d, g[oc]? = some (.row ty1106 2 [[d, .bool s.2]]) ∧ SlOf 1 byr s.1 d ∧ (∀ z ∈ s.1, U8 z) ∧ s.1.length ≤ 1000000000
theorem cu_ld {g : Hp} {oc : Nat} {d : D} {b : Bool} (h : g[oc]? = some (.row ty1106 2 [[d, .bool b]])) : dLoad tab g ty22 (.ptr oc 0 (0 + 0)) = some d ∧ dLoad tab g ty4 (.ptr oc 0 (0 + 1)) = some (.bool b) := ⟨by rw [ldp22, row_of h]; rfl, by rw [ldp4, row_of h]; rfl⟩
theorem takeS_u8 {s : Cur} (hu : ∀ z ∈ s.1, U8 z) (n : Int) : (∀ z ∈ (takeS s n).1, U8 z) ∧ (∀ z ∈ (takeS s n).2.1, U8 z) ∧ (takeS s n).2.1.length ≤ s.1.length := by
  unfold takeS
  split
  · exact ⟨by simp, hu, Nat.le_refl _⟩
  · exact ⟨fun z hz => hu z (List.mem_of_mem_take hz), fun z hz => hu z (List.mem_of_mem_drop hz), by simp⟩
theorem takeS_len (s : Cur) (n : Nat) : (takeS s n).1.length ≤ n := by
  unfold takeS
  split
  · simp [-bind_some]
  · simp [-bind_some]; omega
theorem c1155 {g : Hp} {oc : Nat} {s : Cur} (hc : CuO g oc s) (n : Int) : ∃ d g', R fn1155 [.ptr oc 0 0, .int .i64 n] g = some (d, g') ∧ SlOf 1 byr (takeS s n).1 d ∧ CuO g' oc (takeS s n).2 ∧ Same oc g g' := by
  suffices Wp (R fn1155 [.ptr oc 0 0, .int .i64 n] g) (fun p => SlOf 1 byr (takeS s n).1 p.1 ∧ CuO p.2 oc (takeS s n).2 ∧ Same oc g p.2) by
    obtain ⟨⟨x, h'⟩, h1, h2⟩ := this
    exact ⟨x, h', h1, h2⟩
  obtain ⟨d, ho, hd, hu, hl⟩ := hc
  obtain ⟨l1, l2⟩ := cu_ld ho
  obtain ⟨b, bad⟩ := s
  simp only at ho hd hu hl l2
  rw [e1155]
  have bad1 : ∀ {β : Type} (F : Hp → Option β) (Q : β → Prop), (∀ g', SlOf 1 byr ([] : List Int) .nils → CuO g' oc (b, true) → Same oc g g' → Wp (F g') Q) → Wp ((dStore tab g ty4 (.ptr oc 0 (0 + 1)) (.bool true)).bind F) Q := fun F Q k => by
    refine wst4 ho (by rfl) (by rfl) (by simp) (by rfl) fun g' h' s' => ?_
    exact k g' (.nils _ _) ⟨d, h', hd, hu, hl⟩ s'
  simp only [F1155, bs, nilCheck_ptr, fap1106_0, fap1106_1, l1, l2, lens22 hd, gd_bool, Option.bind_assoc]
  by_cases hb : bad = true
  · subst hb
    have ht : takeS (b, true) n = ([], (b, true)) := by simp [-bind_some, takeS]
    rw [ht]
    simp only [reduceCtorEq, Bool.true_eq_false, if_false, bs, dPick_bool, if_true, dIf_bool, gd_bool]
    refine bad1 _ _ fun g' h1 h2 h3 => ?_
    simp only [bs, mkRes_one]
    exact .some ⟨h1, h2, h3⟩
  · have hb : bad = false := by simpa using hb
    subst hb
    by_cases hn : n < 0
    · have ht : takeS (b, false) n = ([], (b, true)) := by simp [-bind_some, takeS, hn]
      rw [ht]
      simp only [gd_bool, nilCheck_ptr, fap1106_0, l1, lens22 hd, Option.bind_assoc, if_true, bs, dBin_lss, hn, decide_true, reduceCtorEq, Bool.true_eq_false, Bool.false_eq_true, if_false, dPick_bool, dIf_bool]
      refine bad1 _ _ fun g' h1 h2 h3 => ?_
      simp only [bs, mkRes_one]
      exact .some ⟨h1, h2, h3⟩
    · by_cases hgt : n > (b.length : Int)
      · have ht : takeS (b, false) n = ([], (b, true)) := by simp [-bind_some, takeS, hn, hgt]
        rw [ht]
        simp only [gd_bool, nilCheck_ptr, fap1106_0, l1, lens22 hd, Option.bind_assoc, if_true, bs, dBin_lss, hn, decide_false, dBin_gtr, hgt, decide_true, reduceCtorEq, Bool.true_eq_false, Bool.false_eq_true, if_false, dPick_bool, dIf_bool]
        refine bad1 _ _ fun g' h1 h2 h3 => ?_
        simp only [bs, mkRes_one]
        exact .some ⟨h1, h2, h3⟩
      · have ht : takeS (b, false) n = (b.take n.toNat, (b.drop n.toNat, false)) := by
          unfold takeS
          rw [if_neg (by simp only [Bool.false_eq_true, false_or]; omega)]
        rw [ht]
        obtain ⟨d1, e1, s1⟩ := slh22 hd (k := .i64) (n := n) (by omega) (by omega)
        obtain ⟨d2, e2, s2⟩ := sll22 hd (k := .i64) (n := n) (by omega) (by omega)
        simp only [gd_bool, nilCheck_ptr, fap1106_0, l1, lens22 hd, Option.bind_assoc, if_true, bs, dBin_lss, hn, decide_false, dBin_gtr, hgt, reduceCtorEq, Bool.true_eq_false, Bool.false_eq_true, if_false, dPick_bool, dIf_bool, e1, e2]
        have hcl : cells1 d2 = [d2] := (one_cells (slof_one s2)).1
        refine wst22 ho (kk := 0) (row := [d, .bool false]) (by rfl) (by rw [hcl]; rfl) (by simp) (one_cells (slof_one s2)).2 fun g' h' s' => ?_
        rw [hcl] at h'
        simp only [bs, mkRes_one]
        exact .some ⟨s1, ⟨d2, h', s2, fun z hz => hu z (List.mem_of_mem_drop hz), by simp; omega⟩, s'⟩
theorem set_spl (row : List D) (off : Nat) (v : D) (hv : v.one = true) (ho : off < row.length) : spl row off (cells1 v) = row.set off v := by
  rw [(one_cells hv).1]
  simp only [spl, List.length_singleton]
  rw [List.set_eq_take_append_cons_drop, if_pos ho]
  simp [-bind_some]
structure Cell (g : Hp) (oc o k off : Nat) (T z : Nat) (rows : List (List D)) (row : List D) : Prop where
  ho : g[o]? = some (.row T z rows)
  hr : rows[k]? = some row
  lt : off < row.length
  ne : o ≠ oc
def Wrt (g g' : Hp) (oc o : Nat) : Prop := g'.length = g.length ∧ ∀ q, q ≠ oc → q ≠ o → g'[q]? = g[q]?
theorem c1153 {g : Hp} {oc : Nat} {s : Cur} (hc : CuO g oc s) {o k off T z : Nat} {rows : List (List D)} {row : List D} (C : Cell g oc o k off T z rows row) {β : Type} {f : D × Hp → Option β} {Q : β → Prop}
    (K : ∀ g', CuO g' oc (numS s).2 → g'[o]? = some (.row T z (rows.set k (row.set off (.int .i64 (numS s).1)))) → Wrt g g' oc o → Wp (f (mkRes [], g')) Q) : Wp ((R fn1153 [.ptr oc 0 0, .ptr o k off] g).bind f) Q := by
  obtain ⟨d, g1, e1, h1, h2, h3⟩ := c1155 hc 8
  have hu := hc.choose_spec.2.2.1
  have e2 := s1136 _ d g1 h1 (takeS_len s 8) (takeS_u8 hu 8).1
  have ho1 : g1[o]? = some (.row T z rows) := by rw [h3.2 o C.ne]; exact C.ho
  rw [e1153]
  simp only [F1153, bs, e1, e2, cv1029_3, nilCheck_ptr, Option.bind_assoc]
  refine wst3 ho1 C.hr (by rfl) (by have := C.lt; omega) (by rfl) fun g2 p2 s2 => ?_
  try simp only [bs]
  rw [set_spl _ _ _ rfl C.lt] at p2
  refine K g2 ?_ p2 ⟨by rw [s2.1, h3.1], fun q q1 q2 => by rw [s2.2 q q2, h3.2 q q1]⟩
  obtain ⟨dd, x1, x2⟩ := h2
  exact ⟨dd, by rw [s2.2 oc (Ne.symm C.ne)]; exact x1, x2⟩
theorem c_len {g : Hp} {oc : Nat} {s : Cur} (hc : CuO g oc s) : ∃ d g1, R fn1155 [.ptr oc 0 0, .int .i64 4] g = some (d, g1) ∧ R fn1136 [d] g1 = some (.int .u64 (num (takeS s 4).1), g1) ∧ CuO g1 oc (lenS s).2 ∧ Same oc g g1 := by
  obtain ⟨d, g1, e1, h1, h2, h3⟩ := c1155 hc 4
  have hu := hc.choose_spec.2.2.1
  exact ⟨d, g1, e1, s1136 _ d g1 h1 (Nat.le_trans (takeS_len s 4) (by omega)) (takeS_u8 hu 4).1, h2, h3⟩
theorem c1154 {g : Hp} {oc : Nat} {s : Cur} (hc : CuO g oc s) {o k off T z : Nat} {rows : List (List D)} {row : List D} (C : Cell g oc o k off T z rows row) {u : Str} (hold : row[off]? = some (.str u)) {β : Type} {f : D × Hp → Option β} {Q : β → Prop}
    (K : ∀ g', CuO g' oc (textS s).2 → g'[o]? = some (.row T z (rows.set k (row.set off (.str ((textS s).1.getD u))))) → Wrt g g' oc o → Wp (f (mkRes [], g')) Q) : Wp ((R fn1154 [.ptr oc 0 0, .ptr o k off] g).bind f) Q := by
  obtain ⟨d, g1, e1, e2, h2, h3⟩ := c_len hc
  obtain ⟨d3, g3, e3, q1, q2, q3⟩ := c1155 h2 (lenS s).1
  have e3 : R fn1155 [.ptr oc 0 0, .int .i64 (IntKind.wrap .i64 (num (takeS s 4).1))] g1 = some (d3, g3) := e3
  have st13 : Same oc g g3 := h3.trans q3
  have ho3 : g3[o]? = some (.row T z rows) := by rw [st13.2 o C.ne]; exact C.ho
  obtain ⟨dd, x1, x2⟩ := q2
  have l2 := (cu_ld x1).2
  rw [e1154]
  simp only [F1154, bs, e1, e2, cv1029_3, e3, nilCheck_ptr, fap1106_1, l2, dUn_not, Option.bind_assoc]
  cases hbad : (takeS (lenS s).2 (lenS s).1).2.2 with
  | true =>
    have ht : textS s = (none, (takeS (lenS s).2 (lenS s).1).2) := by unfold textS; rw [if_pos hbad]
    rw [ht] at K
    simp only [hbad, Bool.not_true, dIf_bool, Bool.false_eq_true, if_false, bs, exEnd_nrm]
    refine K g3 ⟨dd, x1, x2⟩ ?_ ⟨st13.1, fun q a _ => st13.2 q a⟩
    rw [ho3]
    have hrs : row.set off (.str u) = row := by
      have hlt := C.lt
      have : row[off] = .str u := (List.getElem?_eq_some_iff.1 hold).2
      rw [← this, List.set_getElem_self]
    have hrr : rows.set k row = rows := by
      obtain ⟨hk1, hk2⟩ := List.getElem?_eq_some_iff.1 C.hr
      rw [← hk2, List.set_getElem_self]
    simp only [Option.getD_none, hrs, hrr]
  | false =>
    have ht : textS s = (some (bys (takeS (lenS s).2 (lenS s).1).1), (takeS (lenS s).2 (lenS s).1).2) := by unfold textS; rw [if_neg (by rw [hbad]; simp [-bind_some])]
    rw [ht] at K
    simp only [hbad, Bool.not_false, dIf_bool, if_true, toStr_by q1, bs, Option.bind_assoc]
    refine wst9 ho3 C.hr (by rfl) (by have := C.lt; omega) (by rfl) fun g2 p2 s2 => ?_
    rw [set_spl _ _ _ rfl C.lt] at p2
    simp only [bs, exEnd_nrm]
    exact K g2 ⟨dd, by rw [s2.2 oc (Ne.symm C.ne)]; exact x1, x2⟩ p2 ⟨by rw [s2.1, st13.1], fun q a b => by rw [s2.2 q b, st13.2 q a]⟩
theorem c1152 {g : Hp} {oc : Nat} {s : Cur} (hc : CuO g oc s) (m : D) {β : Type} {f : D × Hp → Option β} {Q : β → Prop}
    (K : ∀ g', CuO g' oc (countS s).2 → Same oc g g' → Wp (f (.int .i64 (countS s).1, g')) Q) : Wp ((R fn1152 [.ptr oc 0 0, m] g).bind f) Q := by
  obtain ⟨d, g1, e1, e2, h2, h3⟩ := c_len hc
  obtain ⟨dd, x1, x2, x3, x4⟩ := h2
  obtain ⟨l1, l2⟩ := cu_ld x1
  rw [e1152]
  have hn : (lenS s).1 = IntKind.wrap .i64 (num (takeS s 4).1) := rfl
  have wq : IntKind.wrap .i64 (((lenS s).2.1.length : Int).tdiv 8) = ((lenS s).2.1.length : Int).tdiv 8 := by
    rw [Int.tdiv_eq_ediv_of_nonneg (by omega)]
    exact wrap_i64 (by omega) (by omega)
  have bad1 : ∀ {γ : Type} (F : Hp → Option γ) (Q : γ → Prop), (∀ g', CuO g' oc ((lenS s).2.1, true) → Same oc g g' → Wp (F g') Q) → Wp ((dStore tab g1 ty4 (.ptr oc 0 (0 + 1)) (.bool true)).bind F) Q := fun F Q k => by
    refine wst4 x1 (by rfl) (by rfl) (by simp) (by rfl) fun g' h' s' => ?_
    exact k g' ⟨dd, h', x2, x3, x4⟩ (h3.trans s')
  simp only [F1152, bs, e1, e2, cv1029_3, ← hn, nilCheck_ptr, fap1106_0, fap1106_1, l1, l2, gd_bool, lens22 x2, Option.bind_assoc]
  cases hb : (lenS s).2.2 with
  | true =>
    have ht : countS s = (0, ((lenS s).2.1, true)) := by unfold countS; rw [if_pos (.inl hb)]
    rw [ht] at K
    simp only [gd_bool, nilCheck_ptr, fap1106_0, l1, lens22 x2, reduceCtorEq, Bool.true_eq_false, if_false, bs, dPick_bool, if_true, dIf_bool, Option.bind_assoc]
    refine bad1 _ _ fun g' h1 h2 => ?_
    simp only [bs, mkRes_one]
    exact K g' h1 h2
  | false =>
    by_cases hgt : (lenS s).1 > ((lenS s).2.1.length : Int).tdiv 8
    · have ht : countS s = (0, ((lenS s).2.1, true)) := by unfold countS; rw [if_pos (.inr hgt)]
      rw [ht] at K
      simp only [gd_bool, nilCheck_ptr, fap1106_0, l1, lens22 x2, if_true, bs, dBin_quo, show ¬ ((8 : Int) = 0) by omega, if_false, wq, dBin_gtr, hgt, decide_true, reduceCtorEq, Bool.true_eq_false, Bool.false_eq_true, dPick_bool, dIf_bool, Option.bind_assoc]
      refine bad1 _ _ fun g' h1 h2 => ?_
      simp only [bs, mkRes_one]
      exact K g' h1 h2
    · have ht : countS s = lenS s := by unfold countS; rw [if_neg (by rw [hb]; simp only [Bool.false_eq_true, false_or]; exact hgt)]
      rw [ht] at K
      simp only [gd_bool, nilCheck_ptr, fap1106_0, l1, lens22 x2, if_true, bs, dBin_quo, show ¬ ((8 : Int) = 0) by omega, if_false, wq, dBin_gtr, hgt, decide_false, reduceCtorEq, Bool.true_eq_false, Bool.false_eq_true, dPick_bool, dIf_bool, Option.bind_assoc, mkRes_one]
      exact K g1 ⟨dd, x1, x2, x3, x4⟩ h3
def linS (s : Cur) : Lin × Cur := (⟨(numS s).1, (numS (numS s).2).1, (textS (numS (numS s).2).2).1.getD []⟩, (textS (numS (numS s).2).2).2)
def lnsS : Nat → Cur → List Lin × Cur
  | 0, s => ([], s)
  | n + 1, s => ((linS s).1 :: (lnsS n (linS s).2).1, (lnsS n (linS s).2).2)
def fdS (s : Cur) : (Str × Str) × Cur := (((textS s).1.getD [], (textS (textS s).2).1.getD []), (textS (textS s).2).2)
def fdsS : Nat → Cur → List (Str × Str) × Cur
  | 0, s => ([], s)
  | n + 1, s => ((fdS s).1 :: (fdsS n (fdS s).2).1, (fdsS n (fdS s).2).2)
theorem nmN2 (d : D) : dNilCheck tab (.fn (.method "logtide/event.number") [.iface ty1104 d] []) = some (.fn (.method "logtide/event.number") [.iface ty1104 d] []) := by kernel_rfl
theorem nmT2 (d : D) : dNilCheck tab (.fn (.method "logtide/event.text") [.iface ty1104 d] []) = some (.fn (.method "logtide/event.text") [.iface ty1104 d] []) := by kernel_rfl
theorem nmC2 (d : D) : dNilCheck tab (.fn (.method "logtide/event.count") [.iface ty1104 d] []) = some (.fn (.method "logtide/event.count") [.iface ty1104 d] []) := by kernel_rfl
structure ViS (n0 oi oc : Nat) (h0 g : Hp) (row : List D) (s : Cur) : Prop where
  hi : g[oi]? = some (.row ty74 11 [row])
  hc : CuO g oc s
  lo : ∀ q, q < n0 → g[q]? = h0[q]?
  ni : n0 ≤ oi
  nc : n0 ≤ oc
theorem ViS.ne {n0 oi oc : Nat} {h0 g : Hp} {row : List D} {s : Cur} (v : ViS n0 oi oc h0 g row s) : oi ≠ oc := fun hh => by
  obtain ⟨d, h1, _⟩ := v.hc
  rw [← hh, v.hi] at h1
  injection h1 with h1
  injection h1 with h2
  exact absurd h2 (by decide)
theorem ViS.ln {n0 oi oc : Nat} {h0 g : Hp} {row : List D} {s : Cur} (v : ViS n0 oi oc h0 g row s) : n0 ≤ g.length := by
  have := (List.getElem?_eq_some_iff.1 v.hi).1
  have := v.ni
  omega
theorem row_apart {g : Hp} {n e z o T z' : Nat} {rows : List (List D)} {rr : List (List D)} {d : D} (ow : Own g n e z rows d) (ho : g[o]? = some (.row T z' rr)) (hne : e ≠ T) {q : Nat} (hq : d.inOb q) : q ≠ o := fun hh => by
  have := own_live ow hq
  rw [hh, ho] at this
  injection this with this
  injection this with h2
  exact hne h2.symm
theorem Own.wrt {g g' : Hp} {oc o n e z : Nat} {rows : List (List D)} {d : D} (ow : Own g n e z rows d) (hw : Wrt g g' oc o) {T1 z1 T2 z2 : Nat} {r1 r2 : List (List D)} (h1 : g[oc]? = some (.row T1 z1 r1)) (h2 : g[o]? = some (.row T2 z2 r2)) (e1 : e ≠ T1) (e2 : e ≠ T2) : Own g' n e z rows d :=
  ow.keep fun q _ hx => hw.2 q (row_apart ow h1 e1 hx) (row_apart ow h2 e2 hx)
theorem vnum {n0 oi oc : Nat} {h0 g : Hp} {row : List D} {s : Cur} (v : ViS n0 oi oc h0 g row s) (off : Nat) (hoff : off < row.length) {β : Type} {f : D × Hp → Option β} {Q : β → Prop}
    (K : ∀ g', ViS n0 oi oc h0 g' (row.set off (.int .i64 (numS s).1)) (numS s).2 → Wrt g g' oc oi → Wp (f (mkRes [], g')) Q) : Wp ((R fn1153 [.ptr oc 0 0, .ptr oi 0 off] g).bind f) Q :=
  c1153 v.hc ⟨v.hi, rfl, hoff, v.ne⟩ fun g' h1 h2 h3 => K g' ⟨h2, h1, fun q hq => by rw [h3.2 q (by have := v.nc; omega) (by have := v.ni; omega)]; exact v.lo q hq, v.ni, v.nc⟩ h3
theorem vtext {n0 oi oc : Nat} {h0 g : Hp} {row : List D} {s : Cur} (v : ViS n0 oi oc h0 g row s) (off : Nat) {u : Str} (hu : row[off]? = some (.str u)) {β : Type} {f : D × Hp → Option β} {Q : β → Prop}
    (K : ∀ g', ViS n0 oi oc h0 g' (row.set off (.str ((textS s).1.getD u))) (textS s).2 → Wrt g g' oc oi → Wp (f (mkRes [], g')) Q) : Wp ((R fn1154 [.ptr oc 0 0, .ptr oi 0 off] g).bind f) Q :=
  c1154 v.hc ⟨v.hi, rfl, (List.getElem?_eq_some_iff.1 hu).1, v.ne⟩ hu fun g' h1 h2 h3 => K g' ⟨h2, h1, fun q hq => by rw [h3.2 q (by have := v.nc; omega) (by have := v.ni; omega)]; exact v.lo q hq, v.ni, v.nc⟩ h3
theorem vcount {n0 oi oc : Nat} {h0 g : Hp} {row : List D} {s : Cur} (v : ViS n0 oi oc h0 g row s) (m : D) {β : Type} {f : D × Hp → Option β} {Q : β → Prop}
    (K : ∀ g', ViS n0 oi oc h0 g' row (countS s).2 → Wrt g g' oc oi → Wp (f (.int .i64 (countS s).1, g')) Q) : Wp ((R fn1152 [.ptr oc 0 0, m] g).bind f) Q :=
  c1152 v.hc m fun g' h1 h2 => K g' ⟨by rw [h2.2 oi v.ne]; exact v.hi, h1, fun q hq => by rw [h2.2 q (by have := v.nc; omega)]; exact v.lo q hq, v.ni, v.nc⟩ ⟨h2.1, fun q a _ => h2.2 q a⟩
theorem countS_range {g : Hp} {oc : Nat} {s : Cur} (hc : CuO g oc s) : 0 ≤ (countS s).1 ∧ (countS s).1 ≤ 1000000000 := by
  obtain ⟨d, h1, h2, h3, h4⟩ := hc
  have h5 := takeS_u8 h3 4
  have hl : (takeS s 4).1.length ≤ 4 := takeS_len s 4
  obtain ⟨r0, r1⟩ := num_range _ _ rfl h5.1
  have r2 : num (takeS s 4).1 < 4294967296 := by
    have hc : (takeS s 4).1.length = 0 ∨ (takeS s 4).1.length = 1 ∨ (takeS s 4).1.length = 2 ∨ (takeS s 4).1.length = 3 ∨ (takeS s 4).1.length = 4 := by omega
    rcases hc with h | h | h | h | h <;> rw [h] at r1 <;> omega
  have hn : (lenS s).1 = num (takeS s 4).1 := wrap_i64 (by omega) (by omega)
  unfold countS
  split
  · exact ⟨by simp, by simp⟩
  · rename_i hh
    have h6 : ((lenS s).2.1.length : Int) ≤ 1000000000 := by
      have : (lenS s).2.1.length ≤ s.1.length := h5.2.2
      omega
    rw [Int.tdiv_eq_ediv_of_nonneg (by omega)] at hh
    have h7 : ¬ ((lenS s).2.1.length : Int) / 8 < (lenS s).1 := fun hx => hh (.inr hx)
    rw [hn] at h7
    rw [hn]
    omega
def itc (r : Str) (a0 a1 a2 a3 : Int) (ld : D) (a5 a6 : Int) (s7 s8 : Str) (fd : D) : List D := [.str r, .int .i64 a0, .int .i64 a1, .int .i64 a2, .int .i64 a3, ld, .int .i64 a5, .int .i64 a6, .str s7, .str s8, fd]
theorem itcL {g : Hp} {oi : Nat} {r : Str} {a0 a1 a2 a3 : Int} {ld : D} {a5 a6 : Int} {t7 t8 : Str} {fd : D} (h : g[oi]? = some (.row ty74 11 [itc r a0 a1 a2 a3 ld a5 a6 t7 t8 fd])) : dLoad tab g ty28 (.ptr oi 0 (0 + 1 + 4)) = some ld ∧ dLoad tab g ty29 (.ptr oi 0 (0 + 1 + 9)) = some fd := ⟨by rw [ldp28, row_of h]; rfl, by rw [ldp29, row_of h]; rfl⟩
def zlinr : List D := [.int .i64 0, .int .i64 0, .str []]
theorem vlines {n0 oi oc : Nat} {h0 : Hp} {r : Str} {a0 a1 a2 a3 : Int} {a5 a6 : Int} {t7 t8 : Str} {fd : D} {g : Hp} {s : Cur} (N : Nat) (hN : N ≤ 1000000000) {pp : D × Hp} (hpp : pp.1 = .int .i64 N) (v : ViS n0 oi oc h0 g (itc r a0 a1 a2 a3 .nils a5 a6 t7 t8 fd) s) (hfd : fd = .nils) (x1 x2 x3 x4 : D) {β : Type} {K : Out → Option β} {Q : β → Prop}
    (k : ∀ g' ld b1 b2 b3 b4 b5, ViS n0 oi oc h0 g' (itc r a0 a1 a2 a3 ld a5 a6 t7 t8 fd) (lnsS N s).2 → Own g' n0 ty78 3 ((lnsS N s).1.map linr) ld → Wp (K (.ext 2, [b1, b2, b3, b4, b5], g')) Q) : Wp ((loopW (F1133_L1 (.iface ty1104 (.ptr oc 0 0)) (.ptr oi 0 (0 + 1)) pp) [x1, x2, .int .i64 0, x3, x4] g).bind K) Q := by
  refine Wp.loop (fun kk ds g' => ∃ b1 b2 b4 b5 ld, ∃ n : Nat, ∃ L : List Lin, ∃ s' : Cur, ds = [b1, b2, .int .i64 n, b4, b5] ∧ kk + n = N ∧ ViS n0 oi oc h0 g' (itc r a0 a1 a2 a3 ld a5 a6 t7 t8 fd) s' ∧ Own g' n0 ty78 3 (L.map linr) ld ∧ L.length = n ∧ L ++ (lnsS (N - n) s').1 = (lnsS N s).1 ∧ (lnsS (N - n) s').2 = (lnsS N s).2)
    (fun r2 => r2.1 = .ext 2 ∧ ∃ b1 b2 b3 b4 b5 ld, r2.2.1 = [b1, b2, b3, b4, b5] ∧ ViS n0 oi oc h0 r2.2.2 (itc r a0 a1 a2 a3 ld a5 a6 t7 t8 fd) (lnsS N s).2 ∧ Own r2.2.2 n0 ty78 3 ((lnsS N s).1.map linr) ld) N ⟨_, _, _, _, .nils, 0, [], s, rfl, rfl, v, Own.nils _ _ _ _, rfl, by simp, by simp⟩ ?_ ?_
  · rintro kk ds g' ⟨b1, b2, b4, b5, ld, n, L, s', rfl, hk, v', ow, hL, e1, e2⟩
    simp only [F1133_L1, nth_zero, nth_succ, bs, Option.bind_assoc, hpp, dBin_lss]
    refine Wp.dif ?_ ?_
    · intro h1
      have h1 : n < N := by have : (n : Int) < (N : Int) := by simpa using h1
                            omega
      have hw : IntKind.wrap .i64 ((n : Int) + 1) = ((n + 1 : Nat) : Int) := by
        rw [wrap_i64 (by omega) (by omega)]; omega
      have hll : ((L.map linr).length : Int) = n := by simp [-bind_some, hL]
      have hbz : pLitF tab ty28 1 [0] [.agg zlinr] = some (.sl 3 true [zlinr]) := id rfl
      have hzl : dBuild tab ty78 [] [] = some (.agg zlinr) := id rfl
      simp only [nilCheck_ptr, fap31_4, (itcL v'.hi).1, leno28 ow, hll, bs, dBin_eql, decide_true, dIf_bool, if_true, hzl, hbz, Option.bind_assoc]
      refine wap28 (ys := [zlinr]) v'.ln ow (rowsOf_sl _ _ _ _) (by simp; omega) fun ld2 g2 ow2 len2 bel2 old2 _ => ?_
      obtain ⟨dc, c1, c2, c3, c4⟩ := v'.hc
      have hi2 : g2[oi]? = some (.row ty74 11 [itc r a0 a1 a2 a3 ld a5 a6 t7 t8 fd]) := by rw [old2 oi (List.getElem?_eq_some_iff.1 v'.hi).1 (fun hx => row_apart ow v'.hi (by decide) hx rfl)]; exact v'.hi
      have hc2 : g2[oc]? = some (.row ty1106 2 [[dc, .bool s'.2]]) := by rw [old2 oc (List.getElem?_eq_some_iff.1 c1).1 (fun hx => row_apart ow c1 (by decide) hx rfl)]; exact c1
      simp only [bs]
      refine wst28 hi2 (by rfl) (by rw [(one_cells (own_one ow2)).1]; rfl) (by simp [-bind_some, itc]) (one_cells (own_one ow2)).2 fun g3 p3 s3 => ?_
      rw [(one_cells (own_one ow2)).1] at p3
      have p3 : g3[oi]? = some (.row ty74 11 [itc r a0 a1 a2 a3 ld2 a5 a6 t7 t8 fd]) := p3
      have hc3 : g3[oc]? = some (.row ty1106 2 [[dc, .bool s'.2]]) := by rw [s3.2 oc (Ne.symm v'.ne)]; exact hc2
      have ow3 : Own g3 n0 ty78 3 (L.map linr ++ [zlinr]) ld2 := ow2.keep fun q _ hx => s3.2 q (row_apart ow2 hi2 (by decide) hx)
      have v3 : ViS n0 oi oc h0 g3 (itc r a0 a1 a2 a3 ld2 a5 a6 t7 t8 fd) s' := ⟨p3, ⟨dc, hc3, c2, c3, c4⟩, fun q hq => by rw [s3.2 q (by have := v'.ni; omega), bel2 q hq]; exact v'.lo q hq, v'.ni, v'.nc⟩
      obtain ⟨ol, hol, hld2, ho3⟩ := own_ix ow3 (i := n) (by simp; omega)
      have hlen3 : (L.map linr ++ [zlinr]).length = n + 1 := by simp [-bind_some, hL]
      have hrn : (L.map linr ++ [zlinr])[n]? = some zlinr := by rw [List.getElem?_append_right (by simp [-bind_some, hL])]; simp [-bind_some, hL]
      have hne3 : ol ≠ oc := fun hh => by rw [hh, hc3] at ho3; injection ho3 with ho3; injection ho3 with h2; exact absurd h2 (by decide)
      have hne3i : ol ≠ oi := fun hh => by rw [hh, p3] at ho3; injection ho3 with ho3; injection ho3 with h2; exact absurd h2 (by decide)
      have i0 : (0 : Int) ≤ (n : Int) ∧ (n : Int) < (((L.map linr ++ [zlinr]).length : Nat) : Int) := by omega
      have hix : dIndexAddr tab ty28 ld2 (.int .i64 (n : Int)) = some (.ptr ol n 0) := by rw [hld2, ixm28, if_pos i0]; simp [-bind_some]
      simp only [bs, toEnd_nrm, nilCheck_ptr, fap31_4, (itcL v3.hi).1, hix, fap78_0, fap78_1, fap78_2, nmN2, nmT2, inv1104_number, inv1104_text, Option.bind_assoc]
      refine c1153 v3.hc ⟨ho3, hrn, by simp [-bind_some, zlinr], hne3⟩ fun g4 q1 q2 q3 => ?_
      have hsn : ∀ (x : List D), (L.map linr ++ [zlinr]).set n x = L.map linr ++ [x] := fun x => by rw [List.set_append_right _ _ (by simp [-bind_some, hL])]; simp [-bind_some, hL]
      rw [hsn] at q2
      have hgn : ∀ (x : List D), (L.map linr ++ [x])[n]? = some x := fun x => by rw [List.getElem?_append_right (by simp [-bind_some, hL])]; simp [-bind_some, hL]
      have hsn' : ∀ (y x : List D), (L.map linr ++ [y]).set n x = L.map linr ++ [x] := fun y x => by rw [List.set_append_right _ _ (by simp [-bind_some, hL])]; simp [-bind_some, hL]
      simp only [bs]
      refine c1153 q1 ⟨q2, hgn _, by simp [-bind_some, zlinr], hne3⟩ fun g5 q4 q5 q6 => ?_
      rw [hsn'] at q5
      simp only [bs]
      refine c1154 q4 ⟨q5, hgn _, by simp [-bind_some, zlinr], hne3⟩ (u := []) (by rfl) fun g6 q7 q8 q9 => ?_
      rw [hsn'] at q8
      have q8 : g6[ol]? = some (.row ty78 3 (L.map linr ++ [linr (linS s').1])) := q8
      simp only [bs, dBin_add, hw]
      have hN : N - n = (N - (n + 1)) + 1 := by omega
      rw [hN] at e1 e2
      refine .some (.inl ⟨rfl, kk - 1, by omega, _, _, _, _, ld2, n + 1, L ++ [(linS s').1], (linS s').2, rfl, by omega, ⟨?_, q7, fun q hq => ?_, v'.ni, v'.nc⟩, ?_, by simp [-bind_some, hL], ?_, ?_⟩)
      · rw [q9.2 oi v3.ne (Ne.symm hne3i), q6.2 oi v3.ne (Ne.symm hne3i), q3.2 oi v3.ne (Ne.symm hne3i)]; exact p3
      · have a1 := v'.nc
        rw [q9.2 q (by omega) (by omega), q6.2 q (by omega) (by omega), q3.2 q (by omega) (by omega)]
        exact v3.lo q hq
      · refine .inr ⟨ol, hol, ?_, by rw [q8]; simp [-bind_some]⟩
        rw [hld2, hlen3]; simp [-bind_some, hL]
      · rw [← e1]; simp [-bind_some, lnsS]
      · rw [← e2]; simp [-bind_some, lnsS]
    · intro h1
      have h1 : n = N := by have : ¬ (n : Int) < (N : Int) := by simpa using h1
                            omega
      subst h1
      rw [Nat.sub_self] at e1 e2
      have f1 : L ++ [] = (lnsS n s).1 := e1
      have f2 : s' = (lnsS n s).2 := e2
      rw [List.append_nil] at f1
      rw [f2] at v'
      exact .some (.inr ⟨by simp, rfl, _, _, _, _, _, ld, rfl, v', by rw [← f1]; exact ow⟩)
  · rintro ⟨ex, ds, g'⟩ ⟨rfl, b1, b2, b3, b4, b5, ld, rfl, v', ow⟩
    exact k g' ld b1 b2 b3 b4 b5 v' ow
def zfld : List D := [.str [], .str []]
theorem vfields {n0 oi oc : Nat} {h0 : Hp} {r : Str} {a0 a1 a2 a3 : Int} {a5 a6 : Int} {t7 t8 : Str} {ld : D} {L : List Lin} {g : Hp} {s : Cur} (N : Nat) (hN : N ≤ 1000000000) {pp : D × Hp} (hpp : pp.1 = .int .i64 N) (v : ViS n0 oi oc h0 g (itc r a0 a1 a2 a3 ld a5 a6 t7 t8 .nils) s) (hld : Own g n0 ty78 3 (L.map linr) ld) (x1 x2 x3 : D) {β : Type} {K : Out → Option β} {Q : β → Prop}
    (k : ∀ g' fd b1 b2 b3 b4, ViS n0 oi oc h0 g' (itc r a0 a1 a2 a3 ld a5 a6 t7 t8 fd) (fdsS N s).2 → Own g' n0 ty78 3 (L.map linr) ld → Own g' n0 ty109 2 ((fdsS N s).1.map fld) fd → Wp (K (.ext 4, [b1, b2, b3, b4], g')) Q) : Wp ((loopW (F1133_L2 (.iface ty1104 (.ptr oc 0 0)) (.ptr oi 0 (0 + 1)) pp) [x1, .int .i64 0, x2, x3] g).bind K) Q := by
  refine Wp.loop (fun kk ds g' => ∃ b1 b4 b5 fd, ∃ n : Nat, ∃ M : List (Str × Str), ∃ s' : Cur, ds = [b1, .int .i64 n, b4, b5] ∧ kk + n = N ∧ ViS n0 oi oc h0 g' (itc r a0 a1 a2 a3 ld a5 a6 t7 t8 fd) s' ∧ Own g' n0 ty78 3 (L.map linr) ld ∧ Own g' n0 ty109 2 (M.map fld) fd ∧ M.length = n ∧ M ++ (fdsS (N - n) s').1 = (fdsS N s).1 ∧ (fdsS (N - n) s').2 = (fdsS N s).2)
    (fun r2 => r2.1 = .ext 4 ∧ ∃ b1 b2 b3 b4 fd, r2.2.1 = [b1, b2, b3, b4] ∧ ViS n0 oi oc h0 r2.2.2 (itc r a0 a1 a2 a3 ld a5 a6 t7 t8 fd) (fdsS N s).2 ∧ Own r2.2.2 n0 ty78 3 (L.map linr) ld ∧ Own r2.2.2 n0 ty109 2 ((fdsS N s).1.map fld) fd) N ⟨_, _, _, .nils, 0, [], s, rfl, rfl, v, hld, Own.nils _ _ _ _, rfl, by simp, by simp⟩ ?_ ?_
  · rintro kk ds g' ⟨b1, b4, b5, fd, n, M, s', rfl, hk, v', owL, ow, hL, e1, e2⟩
    simp only [F1133_L2, nth_zero, nth_succ, bs, Option.bind_assoc, hpp, dBin_lss]
    refine Wp.dif ?_ ?_
    · intro h1
      have h1 : n < N := by have : (n : Int) < (N : Int) := by simpa using h1
                            omega
      have hw : IntKind.wrap .i64 ((n : Int) + 1) = ((n + 1 : Nat) : Int) := by
        rw [wrap_i64 (by omega) (by omega)]; omega
      have hll : ((M.map fld).length : Int) = n := by simp [-bind_some, hL]
      have hbz : pLitF tab ty29 1 [0] [.agg zfld] = some (.sl 2 true [zfld]) := id rfl
      have hzl : dBuild tab ty109 [] [] = some (.agg zfld) := id rfl
      simp only [nilCheck_ptr, fap31_9, (itcL v'.hi).2, leno29 ow, hll, bs, dBin_eql, decide_true, dIf_bool, if_true, hzl, hbz, Option.bind_assoc]
      refine wap29 (ys := [zfld]) v'.ln ow (rowsOf_sl _ _ _ _) (by simp; omega) fun fd2 g2 ow2 len2 bel2 old2 _ => ?_
      obtain ⟨dc, c1, c2, c3, c4⟩ := v'.hc
      have hi2 : g2[oi]? = some (.row ty74 11 [itc r a0 a1 a2 a3 ld a5 a6 t7 t8 fd]) := by rw [old2 oi (List.getElem?_eq_some_iff.1 v'.hi).1 (fun hx => row_apart ow v'.hi (by decide) hx rfl)]; exact v'.hi
      have hc2 : g2[oc]? = some (.row ty1106 2 [[dc, .bool s'.2]]) := by rw [old2 oc (List.getElem?_eq_some_iff.1 c1).1 (fun hx => row_apart ow c1 (by decide) hx rfl)]; exact c1
      have owL2 : Own g2 n0 ty78 3 (L.map linr) ld := owL.keep fun q _ hx => old2 q (owL.lt hx).2 (own_apart owL ow (by decide) hx)
      simp only [bs]
      refine wst29 hi2 (by rfl) (by rw [(one_cells (own_one ow2)).1]; rfl) (by simp [-bind_some, itc]) (one_cells (own_one ow2)).2 fun g3 p3 s3 => ?_
      rw [(one_cells (own_one ow2)).1] at p3
      have p3 : g3[oi]? = some (.row ty74 11 [itc r a0 a1 a2 a3 ld a5 a6 t7 t8 fd2]) := p3
      have hc3 : g3[oc]? = some (.row ty1106 2 [[dc, .bool s'.2]]) := by rw [s3.2 oc (Ne.symm v'.ne)]; exact hc2
      have ow3 : Own g3 n0 ty109 2 (M.map fld ++ [zfld]) fd2 := ow2.keep fun q _ hx => s3.2 q (row_apart ow2 hi2 (by decide) hx)
      have owL3 : Own g3 n0 ty78 3 (L.map linr) ld := owL2.keep fun q _ hx => s3.2 q (row_apart owL2 hi2 (by decide) hx)
      have v3 : ViS n0 oi oc h0 g3 (itc r a0 a1 a2 a3 ld a5 a6 t7 t8 fd2) s' := ⟨p3, ⟨dc, hc3, c2, c3, c4⟩, fun q hq => by rw [s3.2 q (by have := v'.ni; omega), bel2 q hq]; exact v'.lo q hq, v'.ni, v'.nc⟩
      obtain ⟨ol, hol, hld2, ho3⟩ := own_ix ow3 (i := n) (by simp; omega)
      have hlen3 : (M.map fld ++ [zfld]).length = n + 1 := by simp [-bind_some, hL]
      have hrn : (M.map fld ++ [zfld])[n]? = some zfld := by rw [List.getElem?_append_right (by simp [-bind_some, hL])]; simp [-bind_some, hL]
      have hne3 : ol ≠ oc := fun hh => by rw [hh, hc3] at ho3; injection ho3 with ho3; injection ho3 with h2; exact absurd h2 (by decide)
      have hne3i : ol ≠ oi := fun hh => by rw [hh, p3] at ho3; injection ho3 with ho3; injection ho3 with h2; exact absurd h2 (by decide)
      have i0 : (0 : Int) ≤ (n : Int) ∧ (n : Int) < (((M.map fld ++ [zfld]).length : Nat) : Int) := by omega
      have hix : dIndexAddr tab ty29 fd2 (.int .i64 (n : Int)) = some (.ptr ol n 0) := by rw [hld2, ixm29, if_pos i0]; simp [-bind_some]
      simp only [bs, toEnd_nrm, nilCheck_ptr, fap31_9, (itcL v3.hi).2, hix, fap109_0, fap109_1, nmN2, nmT2, inv1104_number, inv1104_text, Option.bind_assoc]
      have hsn : ∀ (x : List D), (M.map fld ++ [zfld]).set n x = M.map fld ++ [x] := fun x => by rw [List.set_append_right _ _ (by simp [-bind_some, hL])]; simp [-bind_some, hL]
      have hgn : ∀ (x : List D), (M.map fld ++ [x])[n]? = some x := fun x => by rw [List.getElem?_append_right (by simp [-bind_some, hL])]; simp [-bind_some, hL]
      have hsn' : ∀ (y x : List D), (M.map fld ++ [y]).set n x = M.map fld ++ [x] := fun y x => by rw [List.set_append_right _ _ (by simp [-bind_some, hL])]; simp [-bind_some, hL]
      refine c1154 v3.hc ⟨ho3, hrn, by simp [-bind_some, zfld], hne3⟩ (u := []) (by rfl) fun g4 q1 q2 q3 => ?_
      rw [hsn] at q2
      have hi4 : g4[oi]? = some (.row ty74 11 [itc r a0 a1 a2 a3 ld a5 a6 t7 t8 fd2]) := by rw [q3.2 oi v3.ne (Ne.symm hne3i)]; exact p3
      simp only [bs, (itcL hi4).2, hix, fap109_1, nilCheck_ptr, inv1104_text]
      refine c1154 q1 ⟨q2, hgn _, by simp [-bind_some, zfld], hne3⟩ (u := []) (by rfl) fun g6 q7 q8 q9 => ?_
      rw [hsn'] at q8
      have q8 : g6[ol]? = some (.row ty109 2 (M.map fld ++ [fld (fdS s').1])) := q8
      simp only [bs, dBin_add, hw]
      have hN : N - n = (N - (n + 1)) + 1 := by omega
      rw [hN] at e1 e2
      have keepL : Own g6 n0 ty78 3 (L.map linr) ld := by
        have k4 : Own g4 n0 ty78 3 (L.map linr) ld := owL3.keep fun q _ hx => q3.2 q (row_apart owL3 hc3 (by decide) hx) (row_apart owL3 ho3 (by decide) hx)
        obtain ⟨dd, y1, _⟩ := q1
        exact k4.keep fun q _ hx => q9.2 q (row_apart k4 y1 (by decide) hx) (row_apart k4 q2 (by decide) hx)
      refine .some (.inl ⟨rfl, kk - 1, by omega, _, _, _, fd2, n + 1, M ++ [(fdS s').1], (fdS s').2, rfl, by omega, ⟨?_, q7, fun q hq => ?_, v'.ni, v'.nc⟩, keepL, ?_, by simp [-bind_some, hL], ?_, ?_⟩)
      · rw [q9.2 oi v3.ne (Ne.symm hne3i)]; exact hi4
      · have a1 := v'.nc
        rw [q9.2 q (by omega) (by omega), q3.2 q (by omega) (by omega)]
        exact v3.lo q hq
      · refine .inr ⟨ol, hol, ?_, by rw [q8]; simp [-bind_some]⟩
        rw [hld2, hlen3]; simp [-bind_some, hL]
      · rw [← e1]; simp [-bind_some, fdsS]
      · rw [← e2]; simp [-bind_some, fdsS]
    · intro h1
      have h1 : n = N := by have : ¬ (n : Int) < (N : Int) := by simpa using h1
                            omega
      subst h1
      rw [Nat.sub_self] at e1 e2
      have f1 : M ++ [] = (fdsS n s).1 := e1
      have f2 : s' = (fdsS n s).2 := e2
      rw [List.append_nil] at f1
      rw [f2] at v'
      exact .some (.inr ⟨by simp, rfl, _, _, _, _, fd, rfl, v', owL, by rw [← f1]; exact ow⟩)
  · rintro ⟨ex, ds, g'⟩ ⟨rfl, b1, b2, b3, b4, fd, rfl, v', owL, ow⟩
    exact k g' fd b1 b2 b3 b4 v' owL ow
structure RI where
  r : Str
  a0 : Int
  a1 : Int
  a2 : Int
  a3 : Int
  ls : List Lin
  a5 : Int
  a6 : Int
  t7 : Str
  t8 : Str
  fs : List (Str × Str)
def visA (s : Cur) : Cur := (numS (numS (numS (numS (textS s).2).2).2).2).2
def visB (s : Cur) : Cur := (lnsS (countS (visA s)).1.toNat (countS (visA s)).2).2
def visC (s : Cur) : Cur := (textS (textS (numS (numS (visB s)).2).2).2).2
def visI (s : Cur) : RI :=
  { r := (textS s).1.getD [], a0 := (numS (textS s).2).1, a1 := (numS (numS (textS s).2).2).1, a2 := (numS (numS (numS (textS s).2).2).2).1, a3 := (numS (numS (numS (numS (textS s).2).2).2).2).1,
    ls := (lnsS (countS (visA s)).1.toNat (countS (visA s)).2).1, a5 := (numS (visB s)).1, a6 := (numS (numS (visB s)).2).1, t7 := (textS (numS (numS (visB s)).2).2).1.getD [], t8 := (textS (textS (numS (numS (visB s)).2).2).2).1.getD [],
    fs := (fdsS (countS (visC s)).1.toNat (countS (visC s)).2).1 }
def visE (s : Cur) : Cur := (fdsS (countS (visC s)).1.toNat (countS (visC s)).2).2
def RI.row (x : RI) (ld fd : D) : List D := itc x.r x.a0 x.a1 x.a2 x.a3 ld x.a5 x.a6 x.t7 x.t8 fd
end Go.Proofs.YtlpedofpnbggbaaDoor
