import Derived.Test.YtiamjjeflmcgoaaW1
set_option linter.unusedSimpArgs false
set_option linter.unusedVariables false
set_option linter.unnecessarySimpa false
namespace Go.Proofs.Ytiamjjeflmcgoaa
open Go.Eng Go.Pi
/-- An object holds codes; these are left. -/
def CO (h : Hp) (o : Nat) (rest : List Int) : Prop := ∃ (d : D) (zs : List Int) (pos : Nat), h[o]? = some (.row 101 2 [[d, .int .i64 pos]]) ∧ Given .u8 zs d ∧ zs.length ≤ 400 ∧ rest = zs.drop pos ∧ ∀ z ∈ zs, 0 ≤ z ∧ z < 256
def nx (n : Int) : List Int → Int × List Int
  | [] => (0, [])
  | z :: r => if n < 1 then (0, z :: r) else (z * n / 256, r)
theorem left_ok {h : Hp} {o : Nat} {rest : List Int} (hc : CO h o rest) : R 57 [.ptr o 0 0] h = some (.bool (decide (rest ≠ [])), h) := by
  obtain ⟨d, zs, pos, ho, hd, hl, rfl, hz⟩ := hc
  rw [s57 o pos zs d h ho hd]
  have : (pos < zs.length) ↔ zs.drop pos ≠ [] := by
    rw [ne_eq, List.drop_eq_nil_iff]; omega
  congr 3
  exact decide_eq_decide.2 this
theorem next_ok {h : Hp} {o : Nat} {rest : List Int} (hc : CO h o rest) (n : Int) (hn2 : n ≤ 1000000000) : ∃ h', R 24 [.ptr o 0 0, .int .i64 n] h = some (.int .i64 (nx n rest).1, h') ∧ CO h' o (nx n rest).2 ∧ Same o h h' := by
  have hl := left_ok hc
  cases hr : rest with
  | nil =>
    subst hr
    refine ⟨h, ?_, hc, .refl _ _⟩
    rw [e24]
    simp [-Option.bind_some, F24, hl, nx]
  | cons z r =>
    by_cases hn : n < 1
    · refine ⟨h, ?_, by simpa [-Option.bind_some, nx, hn, hr] using hc, .refl _ _⟩
      rw [e24]
      simp [-Option.bind_some, F24, hl, nx, hn, hr]
    · obtain ⟨d, zs, pos, ho, hd, hl4, hrest, hz⟩ := hc
      have hzp : zs[pos]? = some z := by
        have : (zs.drop pos)[0]? = some z := by rw [← hrest, hr]; rfl
        simpa [-Option.bind_some] using this
      have hm := hz z (List.mem_of_getElem? hzp)
      have holt : o < h.length := (List.getElem?_eq_some_iff.1 ho).1
      refine ⟨_, (s24 o pos zs d n z h ho hd (by omega) hn2 hzp hm.1 hm.2 hl4).trans (by rw [show (nx n (z :: r)).1 = z * n / 256 by simp [-Option.bind_some, nx, hn]]), ?_, ?_⟩
      · refine ⟨d, zs, pos + 1, by simp [-Option.bind_some, holt], hd, hl4, ?_, hz⟩
        have : (zs.drop pos).drop 1 = r := by rw [← hrest, hr]; rfl
        simpa [-Option.bind_some, nx, hn] using this.symm
      · exact ⟨by simp [-Option.bind_some], fun q hq => by rw [List.getElem?_set_ne (by omega)]⟩
theorem nx_bound (n : Int) (rest : List Int) (h : ∀ z ∈ rest, 0 ≤ z ∧ z < 256) : 0 ≤ (nx n rest).1 ∧ (1 ≤ n → (nx n rest).1 < n) := by
  cases rest with
  | nil => simp [-Option.bind_some, nx]; omega
  | cons z r =>
    have := h z (by simp [-Option.bind_some])
    unfold nx
    by_cases hn : n < 1
    · simp [-Option.bind_some, hn]; omega
    · simp only [hn, if_false]
      have h0 : 0 ≤ z * n := Int.mul_nonneg this.1 (by omega)
      have h1 : z * n ≤ 255 * n := Int.mul_le_mul_of_nonneg_right (by omega) (by omega)
      constructor
      · omega
      · intro _; omega
end Go.Proofs.Ytiamjjeflmcgoaa
