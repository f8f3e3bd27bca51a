/- Laws, on plain data, about functions that the statement reaches. -/
import Derived.Test.YtehmpfcealdihaaL2
set_option linter.unusedSimpArgs false
set_option linter.unusedVariables false
set_option linter.unnecessarySimpa false
namespace Go.Proofs.Ytehmpfcealdihaa
open Go.Eng Go.Pi
theorem l1000 (i : It) (n : Int) (l : List Int) (d : D) (k : Nat) (hk : l[k]? = some n) (hd : SlOf 1 inr l d) (hl : l.length ≤ 100) (ds : List D) (hds : nth 6 ds = .int .i64 k) (g : Hp) (fr : Int) (hi : ItOK 1 5 fr i) (r0 : 0 ≤ fr) (r9 : fr ≤ 50000) :
   ∃ a b c e f u v w, F1000_L0 (.fptr (itr i)) d (.int .i64 l.length) ds g = some (.nrm, [nth 0 ds, a, b, c, e, f, .int .i64 ((k + 1 : Nat) : Int), u, v, w], g) := by
  have hn3 := hi.n3
  have hfl : i.e.fs.length ≤ 1000000 := by
    by_cases hr : i.r = []
    · have := (hi.ev hr).2.2.2.2.2.2.1.1.length_le
      have h4 : i.e.fs.length ≤ 4 := by simpa [-Option.bind_some] using this
      omega
    · rw [(hi.sk hr).2.2.2.2.2.1]; simp [-Option.bind_some]
  obtain ⟨y, hy1, hy2⟩ := s1002 i n g (by omega) hfl
  obtain ⟨z, hz1, hz2⟩ := s1003 i n g (by omega)
  have htwo := idx_two n i.e.ls _ _ hi.ch
  have hgood := fun (kk : Int) (h1 : idx (fun l : Lin => decide (l.off = n)) 0 i.e.ls = kk) (h2 : ¬ kk < 1) (h3 : CutOf i n kk.toNat y) => cut_good hi (by omega) (by omega) (by omega) (by omega) r0 r9 h1 h2 h3
  generalize idx (fun l : Lin => decide (l.off = n)) 0 i.e.ls = k0 at *
  generalize idx (fun l : Lin => decide (l.off = n)) 1 (i.e.ls.drop 1) = k1 at *
  have hlt : k < l.length := (List.getElem?_eq_some_iff.1 hk).1
  have hlt' : (k : Int) < l.length := by omega
  have hw : IntKind.wrap .i64 ((k : Int) + 1) = ((k + 1 : Nat) : Int) := by
    rw [wrap_i64 (by omega) (by omega)]; omega
  have hw' : IntKind.wrap .i64 ((k : Int) + 1) = (k : Int) + 1 := wrap_i64 (by omega) (by omega)
  have hld : ∀ i : It, dLoad tab g ty74 (.fptr (itr i)) = some (.agg (itr i)) := fun i => ldIt i g
  have hsm := s82 y z g
  by_cases h0 : k0 < 1
  · have h1 : k1 < 1 := by rcases htwo with ⟨_, hh⟩ | hh <;> omega
    have e1 : decide (¬ k0 < 1) = false := by simp [-Option.bind_some, h0]
    have e2 : decide (¬ k1 < 1) = false := by simp [-Option.bind_some, h1]
    rw [e1] at hy1
    rw [e2] at hz1
    rw [if_pos h0] at hy2
    rw [if_pos h1] at hz2
    subst hy2; subst hz2
    rw [sameI_refl] at hsm
    simp only [F1000_L0, hds, dBin_lss, hlt', decide_true, dIf_bool, if_true, bs, ixs82 hd, Int.natCast_nonneg, Int.toNat_natCast, hk, Option.map_some, inr, ld3, hld, hy1, dExtract_tup, List.getElem?_cons_zero, List.getElem?_cons_succ, boxIt, hz1, bneq4, beq_self_eq_true, Bool.not_true, gd_bool, gdW_bool, if_false, Bool.false_eq_true, hsm, dUn_not, dPick_bool, gd_und, gdW_und, Bool.not_false, dBin_add, hw, hw', reduceCtorEq]
    exact ⟨_, _, _, _, _, _, _, _, rfl⟩
  · have h1 : k1 = k0 := by rcases htwo with ⟨hh, _⟩ | hh <;> omega
    subst h1
    have e1 : decide (¬ k1 < 1) = true := by simp [-Option.bind_some, h0]
    rw [e1] at hy1 hz1
    rw [if_neg h0] at hy2 hz2
    have hck := s1004 y g (hgood k1 rfl h0 hy2)
    rw [cut_same hy2 hz2] at hsm
    have q1 : ∀ i : It, dFieldAddr tab ty31 2 (.fptr (evr i.e)) = some (.fptr [.int .i64 i.e.a2, .int .i64 i.e.a3, i.e.ld, .int .i64 i.e.a5, .int .i64 i.e.a6, .str i.e.s7, .str i.e.s8, i.e.fd]) := fun i => id rfl
    have q2 : ∀ i : It, dFieldAddr tab ty31 3 (.fptr (evr i.e)) = some (.fptr [.int .i64 i.e.a3, i.e.ld, .int .i64 i.e.a5, .int .i64 i.e.a6, .str i.e.s7, .str i.e.s8, i.e.fd]) := fun i => id rfl
    simp only [F1000_L0, hds, dBin_lss, hlt', decide_true, dIf_bool, if_true, bs, ixs82 hd, Int.natCast_nonneg, Int.toNat_natCast, hk, Option.map_some, inr, ld3, hld, hy1, dExtract_tup, List.getElem?_cons_zero, List.getElem?_cons_succ, boxIt, hz1, bneq4, beq_self_eq_true, Bool.not_true, gd_bool, gdW_bool, if_false, Bool.false_eq_true, hsm, dUn_not, dPick_bool, gd_und, gdW_und, Bool.not_false, dBin_add, hw, hw', reduceCtorEq, hck, dBin_neq, ne_eq, not_true, decide_false, itF1, q1, q2, hy2.a2, hy2.a3]
    exact ⟨_, _, _, _, _, _, _, _, rfl⟩
theorem law1000 (zs : List Int) (d : D) (off : Int) (h : Hp) (hd : Given .u8 zs d) (hz : ∀ z ∈ zs, 0 ≤ z ∧ z < 256) : ∃ h', R fn1000 [d, .int .i64 off] h = some (.bool true, h') := by
  suffices Wp (R fn1000 [d, .int .i64 off] h) (fun p => p.1 = .bool true) by
    obtain ⟨⟨x, h'⟩, h1, rfl⟩ := this
    exact ⟨h', h1⟩
  rw [e1000]
  obtain ⟨g1, e1, c1, _⟩ := d44 zs d 60 h hd (by omega) (by omega) hz
  obtain ⟨v, g2, e2, c2, _, v0, v1⟩ := next_b c1 20 (by omega) (by omega)
  obtain ⟨i, g3, e3, c3, _, hi⟩ := d84 c2 1 5 v v0 (by omega)
  obtain ⟨w, g4, e4, c4, _, w0, w1⟩ := next_b c3 30 (by omega) (by omega)
  have hn1 := hi.n1
  have hn3 := hi.n3
  have hll : i.e.ls[i.e.ls.length - 1]? = some (i.e.ls[i.e.ls.length - 1]'(by omega)) := List.getElem?_eq_getElem (by omega)
  have hw1 : IntKind.wrap .i64 ((i.e.ls.length : Int) - 1) = ((i.e.ls.length - 1 : Nat) : Int) := by
    rw [wrap_i64 (by omega) (by omega)]; omega
  generalize i.e.ls[i.e.ls.length - 1]'(by omega) = x at hll
  have q1 : dFieldAddr tab ty31 2 (.fptr (evr i.e)) = some (.fptr [.int .i64 i.e.a2, .int .i64 i.e.a3, i.e.ld, .int .i64 i.e.a5, .int .i64 i.e.a6, .str i.e.s7, .str i.e.s8, i.e.fd]) := id rfl
  have q2 : dFieldAddr tab ty31 3 (.fptr (evr i.e)) = some (.fptr [.int .i64 i.e.a3, i.e.ld, .int .i64 i.e.a5, .int .i64 i.e.a6, .str i.e.s7, .str i.e.s8, i.e.fd]) := id rfl
  have q3 : dFieldAddr tab ty31 4 (.fptr (evr i.e)) = some (.fptr [i.e.ld, .int .i64 i.e.a5, .int .i64 i.e.a6, .str i.e.s7, .str i.e.s8, i.e.fd]) := id rfl
  have q4 : dFieldAddr tab ty78 0 (.fptr (linr x)) = some (.fptr (linr x)) := id rfl
  have q5 : ∀ g, dLoad tab g ty3 (.fptr (linr x)) = some (.int .i64 x.off) := fun g => id rfl
  have hlit : ∀ a b c d e : Int, pLitF tab ty82 5 [0, 1, 2, 3, 4] [.int .i64 a, .int .i64 b, .int .i64 c, .int .i64 d, .int .i64 e] = some (.sl 1 true ([a, b, c, d, e].map inr)) := fun a b c d e => id rfl
  simp only [F1000, s1001, bs, dUn_not, Bool.not_true, dIf_bool, Bool.false_eq_true, if_false, e1, e2, e3, boxIt, itF1, q1, q2, q3, ld3, ld28, lens28 i.e.hld, dBin_sub, hw1, ixs28 i.e.hld, Int.natCast_nonneg, if_true, Int.toNat_natCast, hll, Option.map_some, q4, q5, e4, dBin_add, hlit, chk_true, Option.bind_assoc]
  generalize hL : [off, i.e.a2, i.e.a3, x.off, IntKind.wrap .i64 (i.e.a2 + w)] = l
  have hl5 : l.length = 5 := by subst hL; rfl
  have hd : SlOf 1 inr l (.sl 1 true (l.map inr)) := SlOf.mk _ _ _ _
  generalize (D.sl 1 true (l.map inr)) = dl at hd
  simp only [lens82 hd, bs]
  refine Wp.loop (fun k ds g => g = g4 ∧ ∃ t a b c e f u v w, ∃ m : Nat, ds = [t, a, b, c, e, f, .int .i64 m, u, v, w] ∧ k + m = l.length)
      (fun x => x.1 = .ext 0 ∧ x.2.2 = g4) l.length ⟨rfl, _, _, _, _, _, _, _, _, _, 0, rfl, rfl⟩ ?_ ?_
  · rintro k ds g ⟨rfl, t, a, b, c, e, f, u, v', w', m, rfl, hk⟩
    by_cases hm : m < l.length
    · obtain ⟨a, b, c, e, f, u, v2, w2, he⟩ := l1000 i l[m] l dl m (List.getElem?_eq_getElem hm) hd (by omega) [t, a, b, c, e, f, .int .i64 m, u, v', w'] rfl g v hi v0 (by omega)
      rw [he]
      exact .some (.inl ⟨rfl, k - 1, by omega, rfl, _, _, _, _, _, _, _, _, _, m + 1, rfl, by omega⟩)
    · have hmm : ¬ (m : Int) < l.length := by omega
      simp only [F1000_L0, nth_zero, nth_succ, dBin_lss, hmm, decide_false, bs, dIf_bool, Bool.false_eq_true, if_false]
      exact .some (.inr ⟨by simp [-Option.bind_some], rfl, rfl⟩)
  · rintro ⟨ex, ds, g⟩ ⟨q1, q2⟩
    simp only at q1 q2
    subst q1; subst q2
    simp only [unblk_self, toEnd_nrm, bs, mkRes_one]
    exact .some rfl
end Go.Proofs.Ytehmpfcealdihaa
