/- JournalReplayIsApply returns true at every input, and its input reads as it did. -/
import Derived.Test.YthaajlepgblimaaGreatDoorL6
import Derived.Test.YthaajlepgblimaaGreatDoorEngI
import Derived.Test.YthaajlepgblimaaGreatDoorQA
import Derived.Test.YthaajlepgblimaaGreatDoorRows
import Derived.WalkKit
import Derived.ProofKit
import Derived.OpenShut
import Derived.ShutString
import Derived.ChangeOld
import Derived.Below
import Derived.Test.YthaajlepgblimaaGreatDoorQB
import Derived.Test.YthaajlepgblimaaGreatDoorTie
import Derived.Test.YthaajlepgblimaaGreatDoorCards
import Derived.ChangeSame
import Derived.ChangeVars
import Derived.JoinedOf
import Derived.RowKitTokens
import Derived.LaidLaws
import Derived.LaidHandle
import Derived.LaidMore
import Derived.Stop.Joined
import Derived.SevenTiedAt
namespace Go.Proofs.YthaajlepgblimaaGreatDoor.journalReplayIsApplyDone
open Go.Eng Go.Pi Go.ChangeShapes Go.WideShapes Go.ChangeAt Go.RowKit
open Go.ChangeMaps (open_string shut_string)
set_option maxRecDepth 100000
set_option linter.unusedVariables false
set_option linter.unnecessarySimpa false
theorem own : ownKnob Tryz.prog.godebug = none := by kernel_rfl
theorem c4q : laidOutB Tryz.prog = true := by kernel_rfl
theorem d8X : Tryz.prog.globalNamed "logtide/ascii.kinds" = some 0 := by kernel_rfl
theorem gty : (Tryz.prog.globals[0]?).map (·.type) = some 194 := by kernel_rfl
theorem c4r : Rows.laid_logtide_ascii_kinds (H := Unit) = .agg (kinZ.map fun z => .lit (.int .u8 z)) := by kernel_rfl
theorem d4h {W : World} (h : laidMetH Tryz.prog Rows.journalReplayIsApplyRow.laid W) : GlOK (Gh.all W) X.gl := fun i d hd => by
 have e := c8l (P := Tryz.prog) (zs := kinZ) (k := .u8) (laid := Rows.journalReplayIsApplyRow.laid) d8X gty Tryz.underlying194 Tryz.underlying5 (by kernel_rfl) (by kernel_rfl) (by rw [← c4r]; rfl) h
 have hd : (if i = 0 then some (D.fptr kin) else none) = some d := hd
 split at hd
 ·rename_i hi
  subst hi
  injection hd with hd
  subst hd
  exact e
 ·cases hd
noncomputable def b1w (os : Os) : World :=
 let w0 := World.holding Tryz.prog os ⟨#[], #[], []⟩
 { w0 with heap := w0.heap.modify 0 fun
     | .cells _ t frozen => .cells (kinZ.map fun z => Value.int .u8 z).toArray t frozen
     | o => o }
theorem a9W (os : Os) (args : Array Value) : laidMetH Tryz.prog Rows.journalReplayIsApplyRow.laid ((b1w os).forCall (fun _ _ => 0) ⟨#[], args, []⟩).memory :=
 laidMetH_of_parts (laidMet_of_run' 8 (by kernel_rfl) (by kernel_rfl)) (by kernel_rfl)
set_option maxRecDepth 100000 in
theorem lifted (os : Os) (started : os.Started) (H : Type) (enc : TypeId × Value → H) :
  ReturnsInHanded {} Tryz.checked os 5 .any (fun w args => (Rows.journalReplayIsApplySpec.pre enc Tryz.prog Tryz.f5 [] false w args ∧ laidMetH Tryz.prog Rows.journalReplayIsApplyRow.laid w) ∧ sizedMet enc Tryz.prog Tryz.f5 (OpenSpec.ofChange Rows.journalReplayIsApplySpec) false w args) (Rows.journalReplayIsApplySpec.post enc Tryz.prog Tryz.f5 false true false false) := by
 refine returnsInHanded_of_change_and (C := Tryz.checked) (X := fun w _ => laidMetH Tryz.prog Rows.journalReplayIsApplyRow.laid w) (fun _ _ _ hh h => h.of_heap hh) own started (by kernel_rfl) Tryz.func5
  (ChangeSpec.witness_at (enc := enc) (C := Tryz.checked) (os := os) (X := fun w _ => laidMetH Tryz.prog Rows.journalReplayIsApplyRow.laid w) false (b1w os) #[.slice none 0 0] 8 rfl (by kernel_rfl) (by kernel_rfl) (by kernel_rfl) (by kernel_rfl) (by kernel_rfl) (a9W os _)) ?_
 intro W base args ds gs before hval0 hW hcnd hcnd2 hL _
 have hval : ∀ (j : Nat) t v, Tryz.f5.params[j]? = some t → args[j]? = some v → Value.okWide Tryz.prog W .any base t v := hval0
 have hW' := hW
 obtain ⟨p, q, hA0, hV, rfl, hfz, hnd⟩ := hW
 have hA : DataW.TrodAll enc Tryz.prog W 0 (fun _ => true) true Tryz.f5.params.toList args.toList ds p := hA0
 rw [Tryz.params5] at hA hval
 obtain ⟨v0, vs0, d0, ds0, p0, q0, hargs, rfl, rfl, h0, r0⟩ := trodAll_cons hA
 obtain ⟨rfl, rfl, rfl⟩ := trodAll_nil r0
 obtain rfl : args = #[v0] := by cases args; simp_all
 obtain ⟨rfl, rfl⟩ := trodVars_none hV
 obtain ⟨a0, len0, cap0, rfl⟩ := okWide_slice Tryz.underlying25 (hval 0 25 v0 rfl rfl)
 have k0 := h0
 have lt0 : ∀ x ∈ p0, x.block < W.heap.size := by obtain ⟨m, hm⟩ := k0; exact DataW.trod_lt m _ _ _ hm
 obtain ⟨zs0, x0, rp0, gv0, zl0, zw0⟩ := b7V Tryz.underlying25 Tryz.underlying5 (by kernel_rfl) h0
 clear hA0 hval0
 obtain ⟨hx, hr⟩ := c4t zs0 x0 gv0 (fun z h => c5o (zw0 z h))
 refine (b9i d7y fk5.enter hr (d4h hL) (.cons rp0 .nil) (fun g v hv => c1v hv)).mono fun e W' ⟨he, bel⟩ => ?_
 subst he
 exact ⟨_, rfl, _, _, _, [], _, [], hW', trodAll_mk1 (shut_bool Tryz.underlying4 _), (trodAll_cons_mk (Below.trod c4q (by kernel_rfl) (of_decide_eq_true (by kernel_rfl)) k0 bel lt0) trodAll_mk0), rfl, bel.frame _, fun h => by cases h⟩
theorem over : Rows.journalReplayIsApplyRow.holds Tryz.pinned (OpenSpec.ofChange Rows.journalReplayIsApplySpec) :=
 OpenClaim.holds_of_wide 5 Tryz.f5 rfl rfl rfl rfl rfl rfl rfl ⟨rfl, rfl, rfl, rfl, rfl⟩ rfl rfl rfl rfl rfl (by kernel_rfl) Tryz.func5 (by kernel_rfl)
  (of_decide_eq_true (by kernel_rfl)) (by unfold Func.isWrapper; first | (rw [if_pos (by decide +kernel)]; kernel_rfl) | (rw [if_neg (by decide +kernel)]; exact ⟨rfl, rfl⟩))
  (fun os started H enc _ => lifted os started H enc)
theorem tied : Claim7.holds Tryz.pinned (.plain (OpenSpec.ofChange Rows.journalReplayIsApplySpec)) Rows.journalReplayIsApplyCard :=
 Claim7.holds_tied_plain_at .later [] [.called] true (true, "122c3139be13758cd7ce74019a0e1fc59eac6549f0eeb33526c23e8c89a5fac7") false
  over (fun _ h => by cases h) (by kernel_rfl) (fun _ h => by cases h) journalReplayIsApply_row_tie rfl ⟨rfl, rfl⟩ (by kernel_rfl) rfl
  (fun f fn hf hfn => by
   obtain rfl : f = 5 := Option.some.inj ((show Tryz.prog.funcNamed "logtide/logtidelaw29.JournalReplayIsApply" = some 5 by kernel_rfl).symm.trans hf) |>.symm
   obtain rfl : fn = Tryz.f5 := (Option.some.inj (Tryz.func5.symm.trans hfn)).symm
   exact ⟨by kernel_rfl, fun j t ht => by
    rw [Tryz.params5] at ht
    have hm : t ∈ [25] := by simpa using Array.mem_of_getElem? ht
    have hall : ([25].all fun u => !Tryz.prog.wantsStandIn u) = true := by kernel_rfl
    exact (show Tryz.prog.wantsStandIn t = false by simpa using List.all_eq_true.1 hall t hm)⟩)
  (by kernel_rfl)
end Go.Proofs.YthaajlepgblimaaGreatDoor.journalReplayIsApplyDone
namespace Go.Proofs.YthaajlepgblimaaGreatDoor
theorem journalReplayIsApplyProved : Rows.JournalReplayIsApplyCardSaid := journalReplayIsApplyDone.tied
end Go.Proofs.YthaajlepgblimaaGreatDoor
