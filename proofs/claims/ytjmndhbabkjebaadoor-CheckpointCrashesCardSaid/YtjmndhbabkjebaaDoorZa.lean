/- CheckpointCrashes returns true at every input, and its input reads as it did. -/
import Derived.Test.YtjmndhbabkjebaaDoorL4
import Derived.Test.YtjmndhbabkjebaaDoorRZ
import Derived.Test.YtjmndhbabkjebaaDoorEngI
import Derived.Test.YtjmndhbabkjebaaDoorQA
import Derived.Test.YtjmndhbabkjebaaDoorRows
import Derived.WalkKit
import Derived.ProofKit
import Derived.OpenShut
import Derived.ShutString
import Derived.ChangeOld
import Derived.Below
import Derived.Test.YtjmndhbabkjebaaDoorQB
import Derived.Test.YtjmndhbabkjebaaDoorTie
import Derived.Test.YtjmndhbabkjebaaDoorCards
import Derived.ChangeSame
import Derived.ChangeVars
import Derived.JoinedOf
import Derived.RowKitTokens
import Derived.LaidLaws
import Derived.LaidHandle
import Derived.LaidMore
import Derived.Stop.Joined
import Derived.SevenTiedAt
namespace Go.Proofs.YtjmndhbabkjebaaDoor.checkpointCrashesDone
open Go.Eng Go.Pi Go.ChangeShapes Go.WideShapes Go.ChangeAt Go.RowKit
open Go.ChangeMaps (open_string shut_string)
set_option maxRecDepth 100000
set_option linter.unusedVariables false
set_option linter.unnecessarySimpa false
theorem own : ownKnob Tryd.prog.godebug = none := by kernel_rfl
theorem c0a : laidOutB Tryd.prog = true := by kernel_rfl
theorem c9z : Tryd.prog.globalNamed "logtide/ascii.kinds" = some 0 := by kernel_rfl
theorem gty : (Tryd.prog.globals[0]?).map (·.type) = some 133 := by kernel_rfl
theorem c0b : Rows.laid_logtide_ascii_kinds (H := Unit) = .agg (kinZ.map fun z => .lit (.int .u8 z)) := by kernel_rfl
theorem c6p {W : World} (h : laidMetH Tryd.prog Rows.checkpointCrashesRow.laid W) : GlOK (Gh.all W) X.gl := fun i d hd => by
 have e := c2X (P := Tryd.prog) (zs := kinZ) (k := .u8) (laid := Rows.checkpointCrashesRow.laid) c9z gty Tryd.underlying133 Tryd.underlying5 (by kernel_rfl) (by kernel_rfl) (by rw [← c0b]; rfl) h
 have hd : (if i = 0 then some (D.fptr kin) else none) = some d := hd
 split at hd
 ·rename_i hi
  subst hi
  injection hd with hd
  subst hd
  exact e
 ·cases hd
noncomputable def a9s (os : Os) : World :=
 let w0 := World.holding Tryd.prog os ⟨#[], #[], []⟩
 { w0 with heap := w0.heap.modify 0 fun
     | .cells _ t frozen => .cells (kinZ.map fun z => Value.int .u8 z).toArray t frozen
     | o => o }
theorem a8n (os : Os) (args : Array Value) : laidMetH Tryd.prog Rows.checkpointCrashesRow.laid ((a9s os).forCall (fun _ _ => 0) ⟨#[], args, []⟩).memory :=
 laidMetH_of_parts (laidMet_of_run' 8 (by kernel_rfl) (by kernel_rfl)) (by kernel_rfl)
set_option maxRecDepth 100000 in
theorem lifted (os : Os) (started : os.Started) (H : Type) (enc : TypeId × Value → H) :
  ReturnsInHanded {} Tryd.checked os 3 .any (fun w args => (Rows.checkpointCrashesSpec.pre enc Tryd.prog Tryd.f3 [] false w args ∧ laidMetH Tryd.prog Rows.checkpointCrashesRow.laid w) ∧ sizedMet enc Tryd.prog Tryd.f3 (OpenSpec.ofChange Rows.checkpointCrashesSpec) false w args) (Rows.checkpointCrashesSpec.post enc Tryd.prog Tryd.f3 false true false false) := by
 refine returnsInHanded_of_change_and (C := Tryd.checked) (X := fun w _ => laidMetH Tryd.prog Rows.checkpointCrashesRow.laid w) (fun _ _ _ hh h => h.of_heap hh) own started (by kernel_rfl) Tryd.func3
  (ChangeSpec.witness_at (enc := enc) (C := Tryd.checked) (os := os) (X := fun w _ => laidMetH Tryd.prog Rows.checkpointCrashesRow.laid w) false (a9s os) #[.slice none 0 0, .int .u16 0, .int .u8 0] 8 rfl (by kernel_rfl) (by kernel_rfl) (by kernel_rfl) (by kernel_rfl) (by kernel_rfl) (a8n os _)) ?_
 intro W base args ds gs before hval0 hW hcnd hcnd2 hL _
 have hval : ∀ (j : Nat) t v, Tryd.f3.params[j]? = some t → args[j]? = some v → Value.okWide Tryd.prog W .any base t v := hval0
 have hW' := hW
 obtain ⟨p, q, hA0, hV, rfl, hfz, hnd⟩ := hW
 have hA : DataW.TrodAll enc Tryd.prog W 0 (fun _ => true) true Tryd.f3.params.toList args.toList ds p := hA0
 rw [Tryd.params3] at hA hval
 obtain ⟨v0, vs0, d0, ds0, p0, q0, hargs, rfl, rfl, h0, r0⟩ := trodAll_cons hA
 obtain ⟨v1, vs1, d1, ds1, p1, q1, rfl, rfl, rfl, h1, r1⟩ := trodAll_cons r0
 obtain ⟨v2, vs2, d2, ds2, p2, q2, rfl, rfl, rfl, h2, r2⟩ := trodAll_cons r1
 obtain ⟨rfl, rfl, rfl⟩ := trodAll_nil r2
 obtain rfl : args = #[v0, v1, v2] := by cases args; simp_all
 obtain ⟨rfl, rfl⟩ := trodVars_none hV
 obtain ⟨a0, len0, cap0, rfl⟩ := okWide_slice Tryd.underlying22 (hval 0 22 v0 rfl rfl)
 have k0 := h0
 have lt0 : ∀ x ∈ p0, x.block < W.heap.size := by obtain ⟨m, hm⟩ := k0; exact DataW.trod_lt m _ _ _ hm
 obtain ⟨zs0, x0, rp0, gv0, zl0, zw0⟩ := b4V Tryd.underlying22 Tryd.underlying5 (by kernel_rfl) h0
 obtain ⟨a1, rfl, rfl, rfl, w1⟩ := open_int Tryd.underlying23 (hval 1 23 v1 rfl rfl) h1
 obtain ⟨a2, rfl, rfl, rfl, w2⟩ := open_int Tryd.underlying5 (hval 2 5 v2 rfl rfl) h2
 clear hA0 hval0
 obtain ⟨hx, hr⟩ := b7r zs0 x0 a1 a2 gv0 (fun z h => c0U (zw0 z h)) zl0 w1 w2
 refine (b5W c4H fk3.enter hr (c6p hL) (.cons rp0 (.cons (.int _ _) (.cons (.int _ _) .nil))) (fun g v hv => b7F hv)).mono fun e W' ⟨he, bel⟩ => ?_
 subst he
 exact ⟨_, rfl, _, _, _, [], _, [], hW', trodAll_mk1 (shut_bool Tryd.underlying4 _), (trodAll_cons_mk (Below.trod c0a (by kernel_rfl) (of_decide_eq_true (by kernel_rfl)) k0 bel lt0) (trodAll_cons_mk (shut_int Tryd.underlying23 w1) (trodAll_cons_mk (shut_int Tryd.underlying5 w2) trodAll_mk0))), rfl, bel.frame _, fun h => by cases h⟩
theorem over : Rows.checkpointCrashesRow.holds Tryd.pinned (OpenSpec.ofChange Rows.checkpointCrashesSpec) :=
 OpenClaim.holds_of_wide 3 Tryd.f3 rfl rfl rfl rfl rfl rfl rfl ⟨rfl, rfl, rfl, rfl, rfl⟩ rfl rfl rfl rfl rfl (by kernel_rfl) Tryd.func3 (by kernel_rfl)
  (of_decide_eq_true (by kernel_rfl)) (by unfold Func.isWrapper; first | (rw [if_pos (by decide +kernel)]; kernel_rfl) | (rw [if_neg (by decide +kernel)]; exact ⟨rfl, rfl⟩))
  (fun os started H enc _ => lifted os started H enc)
theorem tied : Claim7.holds Tryd.pinned (.plain (OpenSpec.ofChange Rows.checkpointCrashesSpec)) Rows.checkpointCrashesCard :=
 Claim7.holds_tied_plain_at .later [] [.called] true (true, "146a3e89b935fbf8cb832d956692107a08c5255d34d31058c7d6b8de61e71059") false
  over (fun _ h => by cases h) (by kernel_rfl) (fun _ h => by cases h) checkpointCrashes_row_tie rfl ⟨rfl, rfl⟩ (by kernel_rfl) rfl
  (fun f fn hf hfn => by
   obtain rfl : f = 3 := Option.some.inj ((show Tryd.prog.funcNamed "logtide/logtidelaw20.CheckpointCrashes" = some 3 by kernel_rfl).symm.trans hf) |>.symm
   obtain rfl : fn = Tryd.f3 := (Option.some.inj (Tryd.func3.symm.trans hfn)).symm
   exact ⟨by kernel_rfl, fun j t ht => by
    rw [Tryd.params3] at ht
    have hm : t ∈ [22, 23, 5] := by simpa using Array.mem_of_getElem? ht
    have hall : ([22, 23, 5].all fun u => !Tryd.prog.wantsStandIn u) = true := by kernel_rfl
    exact (show Tryd.prog.wantsStandIn t = false by simpa using List.all_eq_true.1 hall t hm)⟩)
  (by kernel_rfl)
end Go.Proofs.YtjmndhbabkjebaaDoor.checkpointCrashesDone
namespace Go.Proofs.YtjmndhbabkjebaaDoor
theorem checkpointCrashesProved : Rows.CheckpointCrashesCardSaid := checkpointCrashesDone.tied
end Go.Proofs.YtjmndhbabkjebaaDoor
