/- RetentionWhole returns true at every input, and its input reads as it did. -/
import Derived.Test.YtdoppnhopjdhmaaL3
import Derived.Test.YtdoppnhopjdhmaaEngI
import Derived.Test.YtdoppnhopjdhmaaQA
import Derived.Test.YtdoppnhopjdhmaaRows
import Derived.WalkKit
import Derived.ProofKit
import Derived.OpenShut
import Derived.ShutString
import Derived.ChangeOld
import Derived.Below
namespace Go.Proofs.Ytdoppnhopjdhmaa.retentionWholeDone
open Go.Eng Go.Pi Go.ChangeShapes Go.WideShapes Go.ChangeAt Go.RowKit
open Go.ChangeMaps (open_string shut_string)
set_option maxRecDepth 100000
set_option linter.unusedVariables false
set_option linter.unnecessarySimpa false
theorem given44 {ds : List D} (h : ShG Try.prog 2 44 ds) : ∃ s : Sg, ds = sgr s := by
  have hc : Try.prog.cellsOf 44 = 7 := by kernel_rfl
  obtain ⟨h1, h2⟩ := ShG_st (P := Try.prog) (t := 44) (m := 1) Try.underlying44 h
  rw [hc] at h1
  have c3 : Try.prog.cellsOf 3 = 1 := by kernel_rfl
  match ds, h1 with
  | [d0, d1, d2, d3, d4, d5, d6], _ =>
    simp [c3] at h2
    obtain ⟨e0, e1, e2, e3, e4, e5, e6⟩ := h2
    obtain ⟨z0, q0, _⟩ := ShG_int Try.underlying3 e0
    obtain ⟨z1, q1, _⟩ := ShG_int Try.underlying3 e1
    obtain ⟨z2, q2, _⟩ := ShG_int Try.underlying3 e2
    obtain ⟨z3, q3, _⟩ := ShG_int Try.underlying3 e3
    obtain ⟨z4, q4, _⟩ := ShG_int Try.underlying3 e4
    obtain ⟨z5, q5, _⟩ := ShG_int Try.underlying3 e5
    obtain ⟨z6, q6, _⟩ := ShG_int Try.underlying3 e6
    simp at q0 q1 q2 q3 q4 q5 q6
    subst q0 q1 q2 q3 q4 q5 q6
    exact ⟨⟨z0, z1, z2, z3, z4, z5, z6⟩, rfl⟩
theorem own : ownKnob Try.prog.godebug = none := by kernel_rfl
theorem laidOut : laidOutB Try.prog = true := by kernel_rfl
set_option maxRecDepth 100000 in
theorem lifted (os : Os) (started : os.Started) (H : Type) (enc : TypeId × Value → H) :
    ReturnsInHanded {} Try.checked os 5 .any (Rows.retentionWholeSpec.pre6 enc Try.prog Try.f5 Rows.retentionWholeRow.domain false) (Rows.retentionWholeSpec.post enc Try.prog Try.f5 false true false false) := by
  refine returnsInHanded_of_change (C := Try.checked) own started (by kernel_rfl) Try.func5
    (ChangeSpec.witness6 (enc := enc) (C := Try.checked) false ⟨#[], #[.slice none 0 0, .agg #[.int .i64 0, .int .i64 0, .int .i64 0, .int .i64 0, .int .i64 0, .int .i64 0, .int .i64 0]], []⟩ 8 (by kernel_rfl) (by kernel_rfl) (by kernel_rfl) (by kernel_rfl)) ?_
  intro W base args ds gs before hval0 hW hcnd _
  have hval : ∀ (j : Nat) t v, Try.f5.params[j]? = some t → args[j]? = some v → Value.okWide Try.prog W .any base t v := hval0
  have hW' := hW
  obtain ⟨p, q, hA0, hV, rfl, hfz, hnd⟩ := hW
  have hA : DataW.TrodAll enc Try.prog W 0 (fun _ => true) true Try.f5.params.toList args.toList ds p := hA0
  rw [Try.params5] at hA hval
  obtain ⟨v0, vs0, d0, ds0, p0, q0, hargs, rfl, rfl, h0, r0⟩ := trodAll_cons hA
  obtain ⟨v1, vs1, d1, ds1, p1, q1, rfl, rfl, rfl, h1, r1⟩ := trodAll_cons r0
  obtain ⟨rfl, rfl, rfl⟩ := trodAll_nil r1
  obtain rfl : args = #[v0, v1] := by cases args; simp_all
  obtain ⟨rfl, rfl⟩ := trodVars_none hV
  obtain ⟨a0, len0, cap0, rfl⟩ := okWide_slice Try.underlying22 (hval 0 22 v0 rfl rfl)
  have k0 := h0
  have lt0 : ∀ x ∈ p0, x.block < W.heap.size := by obtain ⟨m, hm⟩ := k0; exact DataW.trod_lt m _ _ _ hm
  obtain ⟨zs0, x0, rp0, gv0, zl0, zw0⟩ := given_row Try.underlying22 Try.underlying5 (by kernel_rfl) h0
  obtain ⟨c1, rfl, cz1⟩ := okWide_struct Try.underlying44 (hval 1 44 v1 rfl rfl)
  have k1 := h1
  have lt1 : ∀ x ∈ p1, x.block < W.heap.size := by obtain ⟨m, hm⟩ := k1; exact DataW.trod_lt m _ _ _ hm
  obtain ⟨y1, rp1, sh1⟩ := given_ag 2 (by kernel_rfl) h1
  obtain ⟨s1, rfl⟩ := given44 sh1
  clear hA0 hval0
  obtain ⟨hx, hr⟩ := law8 zs0 x0 s1 gv0 (fun z h => wf_byte (zw0 z h))
  refine (row_of_pi R_ok fk5.enter hr (fun i d hd => by cases hd) (.cons rp0 (.cons rp1 .nil)) (fun g v hv => rep_bool hv)).mono fun e W' ⟨he, bel⟩ => ?_
  subst he
  exact ⟨_, rfl, _, _, _, [], _, [], hW', trodAll_mk1 (shut_bool Try.underlying4 _), (trodAll_cons_mk (Below.trod laidOut (by kernel_rfl) (of_decide_eq_true (by kernel_rfl)) k0 bel lt0) (trodAll_cons_mk (Below.trod laidOut (by kernel_rfl) (of_decide_eq_true (by kernel_rfl)) k1 bel lt1) trodAll_mk0)), rfl, bel.frame _, fun h => by cases h⟩
theorem over : Rows.retentionWholeRow.holds Try.pinned (OpenSpec.ofChange Rows.retentionWholeSpec) :=
  OpenClaim.holds_of_wide 5 Try.f5 rfl rfl rfl rfl rfl rfl rfl ⟨rfl, rfl, rfl, rfl, rfl⟩ rfl rfl rfl rfl rfl (by kernel_rfl) Try.func5 (by kernel_rfl)
    (of_decide_eq_true (by kernel_rfl)) (by unfold Func.isWrapper; first | (rw [if_pos (by decide +kernel)]; kernel_rfl) | (rw [if_neg (by decide +kernel)]; exact ⟨rfl, rfl⟩))
    (fun os started H enc _ => lifted os started H enc)
end Go.Proofs.Ytdoppnhopjdhmaa.retentionWholeDone
namespace Go.Proofs.Ytdoppnhopjdhmaa
/-- The statement. -/
theorem retentionWholeProved : Rows.RetentionWholeSaid := retentionWholeDone.over
end Go.Proofs.Ytdoppnhopjdhmaa
