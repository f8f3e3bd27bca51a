/- SpoolAcks returns true at every input, and its input reads as0 it did. -/
import Derived.Test.YtinlnkhheafjaaaDoorM4
import Derived.Test.YtinlnkhheafjaaaDoorM5
import Derived.Test.YtinlnkhheafjaaaDoorM3
import Derived.Test.YtinlnkhheafjaaaDoorRows
import Derived.WalkKit
import Derived.ProofKit
import Derived.OpenShut
import Derived.ShutString
import Derived.ChangeOld
import Derived.Below
import Derived.Test.YtinlnkhheafjaaaDoorTie
import Derived.Test.YtinlnkhheafjaaaDoorCards
import Derived.ChangeSame
import Derived.ChangeVars
import Derived.JoinedOf
import Derived.RowKitTokens
import Derived.LaidLaws
import Derived.LaidHandle
import Derived.LaidMore
import Derived.Stop.Joined
import Derived.SevenTiedAt
namespace Go.Proofs.YtinlnkhheafjaaaDoor.spoolAcksDone
open Go.Eng Go.Pi Go.ChangeShapes Go.WideShapes Go.ChangeAt Go.RowKit
open Go.ChangeMaps (open_string shut_string)
set_option maxRecDepth 100000
set_option linter.unusedVariables false
set_option linter.unnecessarySimpa false
theorem own : ownKnob Tryd.prog.godebug = none := by kernel_rfl
theorem KY : laidOutB Tryd.prog = true := by kernel_rfl
theorem J9 : Tryd.prog.globalNamed "logtide/ascii.kinds" = some 0 := by kernel_rfl
theorem J8 : (Tryd.prog.globals[0]?).map (·.type) = some 151 := by kernel_rfl
theorem K0 : Rows.laid_logtide_ascii_kinds (H := Unit) = .agg (lJ.map fun a => .lit (.int .u8 a)) := by kernel_rfl
theorem J5 {b : World} (h : laidMetH Tryd.prog Rows.spoolAcksRow.laid b) : eR (Gh.all b) X.gl := fun f c a => by
 have d := J4 (P := Tryd.prog) (zs := lJ) (k := .u8) (laid := Rows.spoolAcksRow.laid) J9 J8 Tryd.underlying151 Tryd.underlying5 (by kernel_rfl) (by kernel_rfl) (by rw [← K0]; rfl) h
 have a : (if f = 0 then some (D.aD kn) else none) = some c := a
 split at a
 ·rename_i e
  subst e
  injection a with a
  subst a
  exact d
 ·cases a
noncomputable def CC (os : Os) : World :=
 let a := World.holding Tryd.prog os ⟨#[], #[], []⟩
 { a with heap := a.heap.modify 0 fun
     | .cells _ c frozen => .cells (lJ.map fun d => Value.int .u8 d).toArray c frozen
     | b => b }
theorem KZ (os : Os) (args : Array Value) : laidMetH Tryd.prog Rows.spoolAcksRow.laid ((CC os).forCall (fun _ _ => 0) ⟨#[], args, []⟩).memory :=
 laidMetH_of_parts (laidMet_of_run' 8 (by kernel_rfl) (by kernel_rfl)) (by kernel_rfl)
set_option maxRecDepth 100000 in
theorem lifted (os : Os) (N : os.Started) (H : Type) (enc : TypeId × Value → H) :
  ReturnsInHanded {} Tryd.checked os 4 .any (fun w args => (Rows.spoolAcksSpec.pre enc Tryd.prog Tryd.f4 [] false w args ∧ laidMetH Tryd.prog Rows.spoolAcksRow.laid w) ∧ sizedMet enc Tryd.prog Tryd.f4 (OpenSpec.ofChange Rows.spoolAcksSpec) false w args) (Rows.spoolAcksSpec.post enc Tryd.prog Tryd.f4 false true false false) := by
 refine returnsInHanded_of_change_and (C := Tryd.checked) (X := fun w _ => laidMetH Tryd.prog Rows.spoolAcksRow.laid w) (fun _ _ _ A a => a.of_heap A) own N (by kernel_rfl) Tryd.func4
  (ChangeSpec.witness_at (enc := enc) (C := Tryd.checked) (os := os) (X := fun w _ => laidMetH Tryd.prog Rows.spoolAcksRow.laid w) false (CC os) #[.slice none 0 0, .int .u8 0] 8 rfl (by kernel_rfl) (by kernel_rfl) (by kernel_rfl) (by kernel_rfl) (by kernel_rfl) (KZ os _)) ?_
 intro b r args s al ad j i an ao v _
 have c : ∀ (k : Nat) m d, Tryd.f4.params[k]? = some m → args[k]? = some d → Value.okWide Tryd.prog b .any r m d := j
 have y := i
 obtain ⟨I, aw, h, x, rfl, ap, aq⟩ := i
 have g : DataW.TrodAll enc Tryd.prog b 0 (fun _ => true) true Tryd.f4.params.toList args.toList s I := h
 rw [Tryd.params4] at g c
 obtain ⟨n, az, af, ah, K, ax, am, rfl, rfl, f, L⟩ := trodAll_cons g
 obtain ⟨o, a0, ag, ai, av, ay, rfl, rfl, rfl, u, r1⟩ := trodAll_cons L
 obtain ⟨rfl, rfl, rfl⟩ := trodAll_nil r1
 obtain rfl : args = #[n, o] := by cases args; simp_all
 obtain ⟨rfl, rfl⟩ := trodVars_none x
 obtain ⟨ac, au, ae, rfl⟩ := okWide_slice Tryd.underlying22 (c 0 22 n rfl rfl)
 have l := f
 have F : ∀ P ∈ K, P.block < b.heap.size := by obtain ⟨G, B⟩ := l; exact DataW.trod_lt G _ _ _ B
 obtain ⟨W, Q, M, t, T, aa⟩ := J2 Tryd.underlying22 Tryd.underlying5 (by kernel_rfl) f
 obtain ⟨q, rfl, rfl, rfl, p⟩ := open_int Tryd.underlying5 (c 1 5 o rfl rfl) u
 clear h j
 obtain ⟨ar, D⟩ := K7 W Q t (fun R a => Pg (aa R a)) T q (O9 p)
 refine (Nr Ft BV.enter D (J5 v) (.cons M (.cons (.int _ _) .nil)) (fun ak d E => Nh E)).mono fun aj ab ⟨z, e⟩ => ?_
 subst z
 exact ⟨_, rfl, _, _, _, [], _, [], y, trodAll_mk1 (shut_bool Tryd.underlying4 _), (trodAll_cons_mk (Below.trod KY (by kernel_rfl) (Dt (by kernel_rfl)) l e F) (trodAll_cons_mk (shut_int Tryd.underlying5 p) trodAll_mk0)), rfl, e.frame _, fun a => by cases a⟩
theorem over : Rows.spoolAcksRow.holds Tryd.pinned (OpenSpec.ofChange Rows.spoolAcksSpec) :=
 OpenClaim.holds_of_wide 4 Tryd.f4 rfl rfl rfl rfl rfl rfl rfl ⟨rfl, rfl, rfl, rfl, rfl⟩ rfl rfl rfl rfl rfl (by kernel_rfl) Tryd.func4 (by kernel_rfl)
  (Dt (by kernel_rfl)) (by unfold Func.isWrapper; first | (rw [bE (by decide +kernel)]; kernel_rfl) | (rw [bV (by decide +kernel)]; exact ⟨rfl, rfl⟩))
  (fun c d a b _ => lifted c d a b)
theorem tied : Claim7.holds Tryd.pinned (.plain (OpenSpec.ofChange Rows.spoolAcksSpec)) Rows.spoolAcksCard :=
 Claim7.holds_tied_plain_at .later [] [.called] true (true, "9010588faef0a511cdc30fb5b90313f9ab76a618bd6f7ace5b835a3d8616bcee") true
  over (fun _ a => by cases a) (by kernel_rfl) (fun _ a => by cases a) spoolAcks_row_tie rfl ⟨rfl, rfl⟩ (by kernel_rfl) rfl
  (fun d e g h => by
   obtain rfl : d = 4 := uR ((show Tryd.prog.funcNamed "logtide/logtidelaw19.SpoolAcks" = some 4 by kernel_rfl).symm.trans g) |>.symm
   obtain rfl : e = Tryd.f4 := (uR (Tryd.func4.symm.trans h)).symm
   exact ⟨by kernel_rfl, fun k b c => by
    rw [Tryd.params4] at c
    have i : b ∈ [22, 5] := by simpa using Array.mem_of_getElem? c
    have f : ([22, 5].all fun j => !Tryd.prog.wantsStandIn j) = true := by kernel_rfl
    exact (show Tryd.prog.wantsStandIn b = false by simpa using ff.1 f b i)⟩)
  (by kernel_rfl)
end Go.Proofs.YtinlnkhheafjaaaDoor.spoolAcksDone
namespace Go.Proofs.YtinlnkhheafjaaaDoor
theorem spoolAcksProved : Rows.SpoolAcksCardSaid := spoolAcksDone.tied
end Go.Proofs.YtinlnkhheafjaaaDoor
