/- SpoolNext returns true at every input, and its input reads as0 it did. -/
import Derived.Test.YtinlnkhheafjaaaM4
import Derived.Test.YtinlnkhheafjaaaM3
import Derived.Test.YtinlnkhheafjaaaRows
import Derived.WalkKit
import Derived.ProofKit
import Derived.OpenShut
import Derived.ShutString
import Derived.ChangeOld
import Derived.Below
namespace Go.Proofs.Ytinlnkhheafjaaa.spoolNextDone
open Go.Eng Go.Pi Go.ChangeShapes Go.WideShapes Go.ChangeAt Go.RowKit
open Go.ChangeMaps (open_string shut_string)
set_option maxRecDepth 100000
set_option linter.unusedVariables false
set_option linter.unnecessarySimpa false
theorem own : ownKnob Try.prog.godebug = none := by kernel_rfl
theorem AR : laidOutB Try.prog = true := by kernel_rfl
set_option maxRecDepth 100000 in
theorem lifted (m : Os) (L : m.Started) (r : Type) (enc : TypeId × Value → r) :
  ReturnsInHanded {} Try.checked m 3 .any (Rows.spoolNextSpec.pre6 enc Try.prog Try.f3 Rows.spoolNextRow.domain false) (Rows.spoolNextSpec.post enc Try.prog Try.f3 false true false false) := by
 refine returnsInHanded_of_change (C := Try.checked) own L (by kernel_rfl) Try.func3
  (ChangeSpec.witness6 (enc := enc) (C := Try.checked) false ⟨#[], #[.slice none 0 0, .int .u8 0], []⟩ 8 (by kernel_rfl) (by kernel_rfl) (by kernel_rfl) (by kernel_rfl)) ?_
 intro a s args t ak ab j i am _
 have c : ∀ (k : Nat) n d, Try.f3.params[k]? = some n → args[k]? = some d → Value.okWide Try.prog a .any s n d := j
 have x := i
 obtain ⟨G, av, h, w, rfl, an, ao⟩ := i
 have g : DataW.TrodAll enc Try.prog a 0 (fun _ => true) true Try.f3.params.toList args.toList t G := h
 rw [Try.params3] at g c
 obtain ⟨o, ay, ae, ag, H, aw, al, rfl, rfl, f, I⟩ := trodAll_cons g
 obtain ⟨p, az, af, ah, au, ax, rfl, rfl, rfl, v, r1⟩ := trodAll_cons I
 obtain ⟨rfl, rfl, rfl⟩ := trodAll_nil r1
 obtain rfl : args = #[o, p] := by cases args; simp_all
 obtain ⟨rfl, rfl⟩ := trodVars_none w
 obtain ⟨X, ar, ac, rfl⟩ := okWide_slice Try.underlying22 (c 0 22 o rfl rfl)
 have l := f
 have E : ∀ M ∈ H, M.block < a.heap.size := by obtain ⟨F, A⟩ := l; exact DataW.trod_lt F _ _ _ A
 obtain ⟨R, N, K, u, Q, T⟩ := z4 Try.underlying22 Try.underlying5 (by kernel_rfl) f
 obtain ⟨aa, rfl, rfl, rfl, q⟩ := open_int Try.underlying5 (c 1 5 p rfl rfl) v
 clear h j
 obtain ⟨ap, B⟩ := AW R N u (fun P b => DQ (T P b)) Q _ (DK q)
 refine (CS xj ur.enter B (fun aq ad y => by cases y) (.cons K (.cons (.int _ _) .nil)) (fun aj d D => CL D)).mono fun ai W ⟨z, e⟩ => ?_
 subst z
 exact ⟨_, rfl, _, _, _, [], _, [], x, trodAll_mk1 (shut_bool Try.underlying4 _), (trodAll_cons_mk (Below.trod AR (by kernel_rfl) (vC (by kernel_rfl)) l e E) (trodAll_cons_mk (shut_int Try.underlying5 q) trodAll_mk0)), rfl, e.frame _, fun b => by cases b⟩
theorem over : Rows.spoolNextRow.holds Try.pinned (OpenSpec.ofChange Rows.spoolNextSpec) :=
 OpenClaim.holds_of_wide 3 Try.f3 rfl rfl rfl rfl rfl rfl rfl ⟨rfl, rfl, rfl, rfl, rfl⟩ rfl rfl rfl rfl rfl (by kernel_rfl) Try.func3 (by kernel_rfl)
  (vC (by kernel_rfl)) (by unfold Func.isWrapper; first | (rw [bB (by decide +kernel)]; kernel_rfl) | (rw [bO (by decide +kernel)]; exact ⟨rfl, rfl⟩))
  (fun c d a b _ => lifted c d a b)
end Go.Proofs.Ytinlnkhheafjaaa.spoolNextDone
namespace Go.Proofs.Ytinlnkhheafjaaa
theorem spoolNextProved : Rows.SpoolNextSaid := spoolNextDone.over
end Go.Proofs.Ytinlnkhheafjaaa
