/- JournalReplay returns true at every input, and cW input reads as0 it did. -/
import Derived.Test.YtkcdpfogoepamaaGreatDoorM7
import Derived.Test.YtkcdpfogoepamaaGreatDoorM3
import Derived.Test.YtkcdpfogoepamaaGreatDoorRows
import Derived.WalkKit
import Derived.ProofKit
import Derived.OpenShut
import Derived.ShutString
import Derived.ChangeOld
import Derived.Below
import Derived.Test.YtkcdpfogoepamaaGreatDoorTie
import Derived.Test.YtkcdpfogoepamaaGreatDoorCards
import Derived.ChangeSame
import Derived.ChangeVars
import Derived.JoinedOf
import Derived.RowKitTokens
import Derived.LaidLaws
import Derived.LaidHandle
import Derived.LaidMore
import Derived.Stop.Joined
import Derived.SevenTiedAt
namespace Go.Eng
abbrev Ii := @trodAll_cons_mk
end Go.Eng
namespace Go.Proofs.YtkcdpfogoepamaaGreatDoor.journalReplayDone
open Go.Eng Go.Pi Go.ChangeShapes Go.WideShapes Go.ChangeAt Go.RowKit
open Go.ChangeMaps (open_string shut_string)
set_option maxRecDepth 100000
set_option linter.unusedVariables false
set_option linter.unnecessarySimpa false
theorem own : ownKnob Tryz.prog.godebug = none := by kernel_rfl
theorem OY : laidOutB Tryz.prog = true := by kernel_rfl
theorem Zq : Tryz.prog.globalNamed "logtide/ascii.kinds" = some 0 := by kernel_rfl
theorem Zp : (Tryz.prog.globals[0]?).map (·.type) = some 191 := by kernel_rfl
theorem a0Z : Rows.laid_logtide_ascii_kinds (H := Unit) = .agg (pL.map fun a => .lit (.int .u8 a)) := by kernel_rfl
theorem Zo {b : World} (h : laidMetH Tryz.prog Rows.journalReplayRow.laid b) : jn (Gh.all b) X.gl := fun f c a => by
 have d := Zn (P := Tryz.prog) (zs := pL) (k := .u8) (laid := Rows.journalReplayRow.laid) Zq Zp Tryz.underlying191 Tryz.underlying5 (by kernel_rfl) (by kernel_rfl) (by rw [← a0Z]; rfl) h
 have a : (if f = 0 then some (D.aE nO) else none) = some c := a
 split at a
 ·rename_i e
  subst e
  injection a with a
  subst a
  exact d
 ·cases a
noncomputable def OZ (os : Os) : World :=
 let a := World.holding Tryz.prog os ⟨#[], #[], []⟩
 { a with heap := a.heap.modify 0 fun
     | .cells _ c frozen => .cells (pL.map fun d => Value.int .u8 d).toArray c frozen
     | b => b }
theorem a0Y (os : Os) (args : Array Value) : laidMetH Tryz.prog Rows.journalReplayRow.laid ((OZ os).forCall (fun _ _ => 0) ⟨#[], args, []⟩).memory :=
 laidMetH_of_parts (laidMet_of_run' 8 (by kernel_rfl) (by kernel_rfl)) (by kernel_rfl)
set_option maxRecDepth 100000 in
theorem lifted (os : Os) (ai : os.Started) (H : Type) (enc : TypeId × Value → H) :
  ReturnsInHanded {} Tryz.checked os 3 .any (fun w args => (Rows.journalReplaySpec.pre enc Tryz.prog Tryz.f3 [] false w args ∧ laidMetH Tryz.prog Rows.journalReplayRow.laid w) ∧ sizedMet enc Tryz.prog Tryz.f3 (OpenSpec.ofChange Rows.journalReplaySpec) false w args) (Rows.journalReplaySpec.post enc Tryz.prog Tryz.f3 false true false false) := by
 refine returnsInHanded_of_change_and (C := Tryz.checked) (X := fun w _ => laidMetH Tryz.prog Rows.journalReplayRow.laid w) (fun _ _ _ N a => a.of_heap N) own ai (by kernel_rfl) Tryz.func3
  (ChangeSpec.witness_at (enc := enc) (C := Tryz.checked) (os := os) (X := fun w _ => laidMetH Tryz.prog Rows.journalReplayRow.laid w) false (OZ os) #[.slice none 0 0, .slice none 0 0, .int .i64 0, .int .u8 0] 8 rfl (by kernel_rfl) (by kernel_rfl) (by kernel_rfl) (by kernel_rfl) (by kernel_rfl) (a0Y os _)) ?_
 intro c A args B ba ax o n bc bd I _
 have b : ∀ (p : Nat) s g, Tryz.f3.params[p]? = some s → args[p]? = some g → Value.okWide Tryz.prog c .any A s g := o
 have L := n
 obtain ⟨W, bl, m, K, rfl, be, bf⟩ := n
 have l : DataW.TrodAll enc Tryz.prog c 0 (fun _ => true) true Tryz.f3.params.toList args.toList B W := m
 rw [Tryz.params3] at l b
 obtain ⟨t, bq, a0, a4, aa, bm, bb, rfl, rfl, j, ac⟩ := trodAll_cons l
 obtain ⟨u, br, a1, a5, ab, bn, rfl, rfl, rfl, k, ad⟩ := trodAll_cons ac
 obtain ⟨v, bt, a2, a6, bj, bo, rfl, rfl, rfl, F, ae⟩ := trodAll_cons ad
 obtain ⟨x, bu, a3, a7, bk, bp, rfl, rfl, rfl, G, af⟩ := trodAll_cons ae
 obtain ⟨rfl, rfl, rfl⟩ := trodAll_nil af
 obtain rfl : args = #[t, u, v, x] := by cases args; simp_all
 obtain ⟨rfl, rfl⟩ := trodVars_none K
 obtain ⟨av, bh, ay, rfl⟩ := okWide_slice Tryz.underlying22 (b 0 22 t rfl rfl)
 have q := j
 have R : ∀ h ∈ aa, h.block < c.heap.size := by obtain ⟨f, e⟩ := q; exact DataW.trod_lt f _ _ _ e
 obtain ⟨ao, al, ag, D, bv, aq⟩ := Oj Tryz.underlying22 Tryz.underlying5 (by kernel_rfl) j
 obtain ⟨aw, bi, az, rfl⟩ := okWide_slice Tryz.underlying22 (b 1 22 u rfl rfl)
 have r := k
 have T : ∀ h ∈ ab, h.block < c.heap.size := by obtain ⟨f, e⟩ := r; exact DataW.trod_lt f _ _ _ e
 obtain ⟨ap, am, ah, E, an, ar⟩ := Oj Tryz.underlying22 Tryz.underlying5 (by kernel_rfl) k
 obtain ⟨y, rfl, rfl, rfl, aj⟩ := open_int Tryz.underlying3 (b 2 3 v rfl rfl) F
 obtain ⟨z, rfl, rfl, rfl, ak⟩ := open_int Tryz.underlying5 (b 3 5 x rfl rfl) G
 clear m o
 obtain ⟨bg, P⟩ := a1c ap ao am al y z E (fun i a => Rt (ar i a)) D (fun i a => Rt (aq i a)) an
 refine (a2O RL N0.enter P (Zo I) (.cons ag (.cons ah (.cons (.int _ _) (.cons (.int _ _) .nil)))) (fun a9 g Q => a2K Q)).mono fun a8 au ⟨M, d⟩ => ?_
 subst M
 exact ⟨_, rfl, _, _, _, [], _, [], L, trodAll_mk1 (shut_bool Tryz.underlying4 _), (Ii (Below.trod OY (by kernel_rfl) (Ha (by kernel_rfl)) q d R) (Ii (Below.trod OY (by kernel_rfl) (Ha (by kernel_rfl)) r d T) (Ii (shut_int Tryz.underlying3 aj) (Ii (shut_int Tryz.underlying5 ak) trodAll_mk0)))), rfl, d.frame _, fun a => by cases a⟩
theorem over : Rows.journalReplayRow.holds Tryz.pinned (OpenSpec.ofChange Rows.journalReplaySpec) :=
 OpenClaim.holds_of_wide 3 Tryz.f3 rfl rfl rfl rfl rfl rfl rfl ⟨rfl, rfl, rfl, rfl, rfl⟩ rfl rfl rfl rfl rfl (by kernel_rfl) Tryz.func3 (by kernel_rfl)
  (Ha (by kernel_rfl)) (by unfold Func.isWrapper; first | (rw [bO (by decide +kernel)]; kernel_rfl) | (rw [cC (by decide +kernel)]; exact ⟨rfl, rfl⟩))
  (fun c d a b _ => lifted c d a b)
theorem tied : Claim7.holds Tryz.pinned (.plain (OpenSpec.ofChange Rows.journalReplaySpec)) Rows.journalReplayCard :=
 Claim7.holds_tied_plain_at .later [] [.called] true (true, "9bb794336ae335d216784f53727e4513e786be184fc215a2afd7c0d289dd8a6e") false
  over (fun _ a => by cases a) (by kernel_rfl) (fun _ a => by cases a) journalReplay_row_tie rfl ⟨rfl, rfl⟩ (by kernel_rfl) rfl
  (fun d e g h => by
   obtain rfl : d = 3 := B9 ((show Tryz.prog.funcNamed "logtide/logtidelaw29.JournalReplay" = some 3 by kernel_rfl).symm.trans g) |>.symm
   obtain rfl : e = Tryz.f3 := (B9 (Tryz.func3.symm.trans h)).symm
   exact ⟨by kernel_rfl, fun k b c => by
    rw [Tryz.params3] at c
    have i : b ∈ [22, 3, 5] := by simpa using Array.mem_of_getElem? c
    have f : ([22, 3, 5].all fun j => !Tryz.prog.wantsStandIn j) = true := by kernel_rfl
    exact (show Tryz.prog.wantsStandIn b = false by simpa using iL.1 f b i)⟩)
  (by kernel_rfl)
end Go.Proofs.YtkcdpfogoepamaaGreatDoor.journalReplayDone
namespace Go.Proofs.YtkcdpfogoepamaaGreatDoor
theorem journalReplayProved : Rows.JournalReplayCardSaid := journalReplayDone.tied
end Go.Proofs.YtkcdpfogoepamaaGreatDoor
