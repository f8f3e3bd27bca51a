/- RetentionChecks returns true at every input, and its input reads as it did. -/
import Derived.Test.YtiamjjeflmcgoaaL3
import Derived.Test.YtiamjjeflmcgoaaEngI
import Derived.Test.YtiamjjeflmcgoaaQA
import Derived.Test.YtiamjjeflmcgoaaRows
import Derived.WalkKit
import Derived.ProofKit
import Derived.OpenShut
import Derived.ShutString
import Derived.ChangeOld
import Derived.Below
namespace Go.Proofs.Ytiamjjeflmcgoaa.retentionChecksDone
open Go.Eng Go.Pi Go.ChangeShapes Go.WideShapes Go.ChangeAt Go.RowKit
open Go.ChangeMaps (open_string shut_string)
set_option maxRecDepth 100000
set_option linter.unusedVariables false
set_option linter.unnecessarySimpa false
theorem given38 {x : D} (h : ShG Try.prog 3 38 [x]) : ∃ l : List Pol, SlOf 4 polr l x ∧ l.length ≤ 9223372036854775807 := by
  have hc : Try.prog.cellsOf 53 = 4 := by kernel_rfl
  rcases ShG_slice (P := Try.prog) (t := 38) (e := 53) (m := 2) Try.underlying38 h with rfl | ⟨rows, rfl, hl, hr⟩
  · exact ⟨[], SlOf.nils _ _, by simp⟩
  · obtain ⟨l, rfl⟩ := rows_of (f := polr) (Q := ShG Try.prog 2 53) (fun row hq => by
      obtain ⟨h1, h2⟩ := ShG_st (P := Try.prog) (t := 53) (m := 1) Try.underlying53 hq
      rw [hc] at h1
      have c3 : Try.prog.cellsOf 3 = 1 := by kernel_rfl
      have c9 : Try.prog.cellsOf 9 = 1 := by kernel_rfl
      match row, h1 with
      | [d0, d1, d2, d3], _ =>
        simp [c3, c9] at h2
        obtain ⟨e0, e1, e2, e3⟩ := h2
        obtain ⟨s0, q0, _⟩ := ShG_str Try.underlying9 e0
        obtain ⟨s1, q1, _⟩ := ShG_str Try.underlying9 e1
        obtain ⟨s2, q2, _⟩ := ShG_str Try.underlying9 e2
        obtain ⟨z3, q3, _⟩ := ShG_int Try.underlying3 e3
        simp at q0 q1 q2 q3
        subst q0 q1 q2 q3
        exact ⟨⟨s0, s1, s2, z3⟩, rfl⟩) rows hr
    rw [hc]
    exact ⟨l, SlOf.mk _ _ _ _, by simpa using hl⟩
theorem given39 {x : D} (h : ShG Try.prog 3 39 [x]) : ∃ l : List Hld, SlOf 5 hldr l x ∧ l.length ≤ 9223372036854775807 := by
  have hc : Try.prog.cellsOf 56 = 5 := by kernel_rfl
  rcases ShG_slice (P := Try.prog) (t := 39) (e := 56) (m := 2) Try.underlying39 h with rfl | ⟨rows, rfl, hl, hr⟩
  · exact ⟨[], SlOf.nils _ _, by simp⟩
  · obtain ⟨l, rfl⟩ := rows_of (f := hldr) (Q := ShG Try.prog 2 56) (fun row hq => by
      obtain ⟨h1, h2⟩ := ShG_st (P := Try.prog) (t := 56) (m := 1) Try.underlying56 hq
      rw [hc] at h1
      have c3 : Try.prog.cellsOf 3 = 1 := by kernel_rfl
      have c9 : Try.prog.cellsOf 9 = 1 := by kernel_rfl
      match row, h1 with
      | [d0, d1, d2, d3, d4], _ =>
        simp [c3, c9] at h2
        obtain ⟨e0, e1, e2, e3, e4⟩ := h2
        obtain ⟨s0, q0, _⟩ := ShG_str Try.underlying9 e0
        obtain ⟨s1, q1, _⟩ := ShG_str Try.underlying9 e1
        obtain ⟨s2, q2, _⟩ := ShG_str Try.underlying9 e2
        obtain ⟨z3, q3, _⟩ := ShG_int Try.underlying3 e3
        obtain ⟨z4, q4, _⟩ := ShG_int Try.underlying3 e4
        simp at q0 q1 q2 q3 q4
        subst q0 q1 q2 q3 q4
        exact ⟨⟨s0, s1, s2, z3, z4⟩, rfl⟩) rows hr
    rw [hc]
    exact ⟨l, SlOf.mk _ _ _ _, by simpa using hl⟩
theorem own : ownKnob Try.prog.godebug = none := by kernel_rfl
theorem laidOut : laidOutB Try.prog = true := by kernel_rfl
set_option maxRecDepth 100000 in
theorem lifted (os : Os) (started : os.Started) (H : Type) (enc : TypeId × Value → H) :
    ReturnsInHanded {} Try.checked os 5 .any (Rows.retentionChecksSpec.pre6 enc Try.prog Try.f5 Rows.retentionChecksRow.domain false) (Rows.retentionChecksSpec.post enc Try.prog Try.f5 false true false false) := by
  refine returnsInHanded_of_change (C := Try.checked) own started (by kernel_rfl) Try.func5
    (ChangeSpec.witness6 (enc := enc) (C := Try.checked) false ⟨#[], #[.slice none 0 0, .slice none 0 0, .slice none 0 0, .int .i64 0], []⟩ 8 (by kernel_rfl) (by kernel_rfl) (by kernel_rfl) (by kernel_rfl)) ?_
  intro W base args ds gs before hval0 hW hcnd _
  have hval : ∀ (j : Nat) t v, Try.f5.params[j]? = some t → args[j]? = some v → Value.okWide Try.prog W .any base t v := hval0
  have hW' := hW
  obtain ⟨p, q, hA0, hV, rfl, hfz, hnd⟩ := hW
  have hA : DataW.TrodAll enc Try.prog W 0 (fun _ => true) true Try.f5.params.toList args.toList ds p := hA0
  rw [Try.params5] at hA hval
  obtain ⟨v0, vs0, d0, ds0, p0, q0, hargs, rfl, rfl, h0, r0⟩ := trodAll_cons hA
  obtain ⟨v1, vs1, d1, ds1, p1, q1, rfl, rfl, rfl, h1, r1⟩ := trodAll_cons r0
  obtain ⟨v2, vs2, d2, ds2, p2, q2, rfl, rfl, rfl, h2, r2⟩ := trodAll_cons r1
  obtain ⟨v3, vs3, d3, ds3, p3, q3, rfl, rfl, rfl, h3, r3⟩ := trodAll_cons r2
  obtain ⟨rfl, rfl, rfl⟩ := trodAll_nil r3
  obtain rfl : args = #[v0, v1, v2, v3] := by cases args; simp_all
  obtain ⟨rfl, rfl⟩ := trodVars_none hV
  obtain ⟨a0, len0, cap0, rfl⟩ := okWide_slice Try.underlying38 (hval 0 38 v0 rfl rfl)
  have k0 := h0
  have lt0 : ∀ x ∈ p0, x.block < W.heap.size := by obtain ⟨m, hm⟩ := k0; exact DataW.trod_lt m _ _ _ hm
  obtain ⟨x0, rp0, sh0⟩ := given_sl 3 (by kernel_rfl) h0
  obtain ⟨l0, gv0, zl0⟩ := given38 sh0
  obtain ⟨a1, len1, cap1, rfl⟩ := okWide_slice Try.underlying39 (hval 1 39 v1 rfl rfl)
  have k1 := h1
  have lt1 : ∀ x ∈ p1, x.block < W.heap.size := by obtain ⟨m, hm⟩ := k1; exact DataW.trod_lt m _ _ _ hm
  obtain ⟨x1, rp1, sh1⟩ := given_sl 3 (by kernel_rfl) h1
  obtain ⟨l1, gv1, zl1⟩ := given39 sh1
  obtain ⟨a2, len2, cap2, rfl⟩ := okWide_slice Try.underlying22 (hval 2 22 v2 rfl rfl)
  have k2 := h2
  have lt2 : ∀ x ∈ p2, x.block < W.heap.size := by obtain ⟨m, hm⟩ := k2; exact DataW.trod_lt m _ _ _ hm
  obtain ⟨zs2, x2, rp2, gv2, zl2, zw2⟩ := given_row Try.underlying22 Try.underlying5 (by kernel_rfl) h2
  obtain ⟨a3, rfl, rfl, rfl, w3⟩ := open_int Try.underlying3 (hval 3 3 v3 rfl rfl) h3
  clear hA0 hval0
  obtain ⟨hx, hr⟩ := law5 l0 l1 zs2 a3 x0 x1 x2 [] gv0 zl0 gv1 zl1 gv2 (fun z h => wf_byte (zw2 z h))
  refine (row_of_pi R_ok (fun _ => rfl) hr (.cons rp0 (.cons rp1 (.cons rp2 (.cons (.int _ _) .nil)))) (fun g v hv => rep_bool hv)).mono fun e W' ⟨he, bel⟩ => ?_
  subst he
  exact ⟨_, rfl, _, _, _, [], _, [], hW', trodAll_mk1 (shut_bool Try.underlying4 _), (trodAll_cons_mk (Below.trod laidOut (by kernel_rfl) (of_decide_eq_true (by kernel_rfl)) k0 bel lt0) (trodAll_cons_mk (Below.trod laidOut (by kernel_rfl) (of_decide_eq_true (by kernel_rfl)) k1 bel lt1) (trodAll_cons_mk (Below.trod laidOut (by kernel_rfl) (of_decide_eq_true (by kernel_rfl)) k2 bel lt2) (trodAll_cons_mk (shut_int Try.underlying3 w3) trodAll_mk0)))), rfl, bel.frame _, fun h => by cases h⟩
theorem over : Rows.retentionChecksRow.holds Try.pinned (OpenSpec.ofChange Rows.retentionChecksSpec) :=
  OpenClaim.holds_of_wide 5 Try.f5 rfl rfl rfl rfl rfl rfl rfl ⟨rfl, rfl, rfl, rfl, rfl⟩ rfl rfl rfl rfl rfl (by kernel_rfl) Try.func5 (by kernel_rfl)
    (of_decide_eq_true (by kernel_rfl)) (by unfold Func.isWrapper; first | (rw [if_pos (by decide +kernel)]; kernel_rfl) | (rw [if_neg (by decide +kernel)]; exact ⟨rfl, rfl⟩))
    (fun os started H enc _ => lifted os started H enc)
end Go.Proofs.Ytiamjjeflmcgoaa.retentionChecksDone
namespace Go.Proofs.Ytiamjjeflmcgoaa
/-- The statement. -/
theorem retentionChecksProved : Rows.RetentionChecksSaid := retentionChecksDone.over
end Go.Proofs.Ytiamjjeflmcgoaa
