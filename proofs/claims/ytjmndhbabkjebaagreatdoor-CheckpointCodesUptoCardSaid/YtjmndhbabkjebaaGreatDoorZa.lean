/- CheckpointCodes returns true at every input of bulk at most 1048576, and its input reads as it did. -/
import Derived.Test.YtjmndhbabkjebaaGreatDoorL6
import Derived.Test.YtjmndhbabkjebaaGreatDoorRZ
import Derived.Test.YtjmndhbabkjebaaGreatDoorEngI
import Derived.Test.YtjmndhbabkjebaaGreatDoorQA
import Derived.Test.YtjmndhbabkjebaaGreatDoorRows
import Derived.WalkKit
import Derived.ProofKit
import Derived.OpenShut
import Derived.ShutString
import Derived.ChangeOld
import Derived.Below
import Derived.Test.YtjmndhbabkjebaaGreatDoorQB
import Derived.Test.YtjmndhbabkjebaaGreatDoorTie
import Derived.Test.YtjmndhbabkjebaaGreatDoorCards
import Derived.ChangeSame
import Derived.ChangeVars
import Derived.JoinedOf
import Derived.RowKitTokens
import Derived.LaidLaws
import Derived.LaidHandle
import Derived.LaidMore
import Derived.Stop.Joined
import Derived.SevenTiedAt
import Derived.Deep.DeepHandedRow
import Derived.Lib.LaidTab
namespace Go.Proofs.YtjmndhbabkjebaaGreatDoor.checkpointCodesDone
open Go.Eng Go.Pi Go.ChangeShapes Go.WideShapes Go.ChangeAt Go.RowKit
open Go.ChangeMaps (open_string shut_string)
set_option maxRecDepth 100000
set_option linter.unusedVariables false
set_option linter.unnecessarySimpa false
theorem own : ownKnob Tryz.prog.godebug = none := by kernel_rfl
theorem b7Q : laidOutB Tryz.prog = true := by kernel_rfl
theorem d5W : Tryz.prog.globalNamed "logtide/ascii.kinds" = some 0 := by kernel_rfl
theorem gty : (Tryz.prog.globals[0]?).map (·.type) = some 156 := by kernel_rfl
theorem c3t : Rows.laid_logtide_ascii_kinds (H := Unit) = .agg (kinZ.map fun z => .lit (.int .u8 z)) := by kernel_rfl
theorem d1D {W : World} (h : laidMetH Tryz.prog Rows.checkpointCodesUptoRow.laid W) : GlOK (Gh.all W) X.gl := fun i d hd => by
 have e := c6X (P := Tryz.prog) (zs := kinZ) (k := .u8) (laid := Rows.checkpointCodesUptoRow.laid) d5W gty Tryz.underlying156 Tryz.underlying5 (by kernel_rfl) (by kernel_rfl) (by rw [← c3t]; rfl) h
 have hd : (if i = 0 then some (D.fptr kin) else none) = some d := hd
 split at hd
 ·rename_i hi
  subst hi
  injection hd with hd
  subst hd
  exact e
 ·cases hd
noncomputable def a6z (os : Os) : World :=
 let w0 := World.holding Tryz.prog os ⟨#[], #[], []⟩
 { w0 with heap := w0.heap.modify 0 fun
     | .cells _ t frozen => .cells (kinZ.map fun z => Value.int .u8 z).toArray t frozen
     | o => o }
theorem c0B (os : Os) (args : Array Value) : laidMetH Tryz.prog Rows.checkpointCodesUptoRow.laid ((a6z os).forCall (fun _ _ => 0) ⟨#[], args, []⟩).memory :=
 laidMetH_of_parts (laidMet_of_run' 8 (by kernel_rfl) (by kernel_rfl)) (by kernel_rfl)
theorem c7C {H : Type} (d : DataW H) : 1 ≤ Rows.uptoBulk d := by
 cases d with
 | lit l => cases l <;> simp [Rows.uptoBulk]
 | nil => simp [Rows.uptoBulk]
 | ptr d => simp [Rows.uptoBulk]
 | slice elems spare => simp [Rows.uptoBulk]
 | agg parts => simp [Rows.uptoBulk]
 | iface t d => simp [Rows.uptoBulk]
 | map entries => simp [Rows.uptoBulk]
 | held h => simp [Rows.uptoBulk]
theorem length_le {H : Type} (l : List (DataW H)) : l.length ≤ Rows.uptoBulkAll l := by
 induction l with
 | nil => simp [Rows.uptoBulkAll]
 | cons x r ih => have := c7C x; simp only [Rows.uptoBulkAll, d7t]; omega
theorem c0C (os : Os) : laidMet Tryz.prog Rows.checkpointCodesUptoRow.laid ((a6z os).forCall (fun _ _ => 0) ⟨#[], #[.slice none 0 0, .slice none 0 0, .int .u16 0, .int .u8 0, .int .i64 0], []⟩).memory :=
 laidMet_of_run' 8 (by kernel_rfl) (by kernel_rfl)
theorem reads (os : Os) {H : Type} (enc : TypeId × Value → H) : ∃ places, DataW.whole enc Tryz.prog ((a6z os).forCall (fun _ _ => 0) ⟨#[], #[.slice none 0 0, .slice none 0 0, .int .u16 0, .int .u8 0, .int .i64 0], []⟩).memory Tryz.f3.params.toList Rows.checkpointCodesSpec.vars false (#[.slice none 0 0, .slice none 0 0, .int .u16 0, .int .u8 0, .int .i64 0] : Array Value).toList 8 = some ([.nil, .nil, .lit (.int .u16 0), .lit (.int .u8 0), .lit (.int .i64 0)], [], places) :=
 ⟨[], by kernel_rfl⟩
set_option maxRecDepth 100000 in
theorem lifted (os : Os) (started : os.Started) (H : Type) (enc : TypeId × Value → H) (F : Stop.Interp) :
  ReturnsInHanded {} Tryz.checked os 3 .any ((Rows.OpenSpec.upto Rows.checkpointCodesSpec).preRow enc Tryz.prog Tryz.f3 Rows.checkpointCodesUptoRow.domain false Rows.checkpointCodesUptoRow.laid) (((Rows.OpenSpec.upto Rows.checkpointCodesSpec).at F).post enc Tryz.prog Tryz.f3 false true false false) := by
 obtain ⟨places, hx⟩ := reads os enc
 refine returnsInHanded_of_row (C := Tryz.checked) (s := Rows.OpenSpec.upto Rows.checkpointCodesSpec) own started (by kernel_rfl) Tryz.func3
  (witness_row_at (enc := enc) (C := Tryz.checked) false (a6z os) #[.slice none 0 0, .slice none 0 0, .int .u16 0, .int .u8 0, .int .i64 0] rfl (by kernel_rfl) (by kernel_rfl) (by kernel_rfl)
   (OpenSpec.preRow_of_cond 8 hx (by kernel_rfl) (fun k hk => by cases hk; kernel_rfl) (by kernel_rfl) (c0C os))) ?_
 intro W base args ds gs before hval0 hW _ hcond _ hL _ _
 have hval : ∀ (j : Nat) t v, Tryz.f3.params[j]? = some t → args[j]? = some v → Value.okWide Tryz.prog W .any base t v := hval0
 have hW' := hW
 obtain ⟨p, q, hA0, hV, rfl, hfz, hnd⟩ := hW
 have hA : DataW.TrodAll enc Tryz.prog W 0 (fun _ => true) true Tryz.f3.params.toList args.toList ds p := hA0
 rw [Tryz.params3] at hA hval
 obtain ⟨v0, vs0, d0, ds0, p0, q0, hargs, rfl, rfl, h0, r0⟩ := trodAll_cons hA
 obtain ⟨v1, vs1, d1, ds1, p1, q1, rfl, rfl, rfl, h1, r1⟩ := trodAll_cons r0
 obtain ⟨v2, vs2, d2, ds2, p2, q2, rfl, rfl, rfl, h2, r2⟩ := trodAll_cons r1
 obtain ⟨v3, vs3, d3, ds3, p3, q3, rfl, rfl, rfl, h3, r3⟩ := trodAll_cons r2
 obtain ⟨v4, vs4, d4, ds4, p4, q4, rfl, rfl, rfl, h4, r4⟩ := trodAll_cons r3
 obtain ⟨rfl, rfl, rfl⟩ := trodAll_nil r4
 obtain rfl : args = #[v0, v1, v2, v3, v4] := by cases args; simp_all
 obtain ⟨rfl, rfl⟩ := trodVars_none hV
 obtain ⟨a0, len0, cap0, rfl⟩ := okWide_slice Tryz.underlying22 (hval 0 22 v0 rfl rfl)
 have k0 := h0
 have lt0 : ∀ x ∈ p0, x.block < W.heap.size := by obtain ⟨m, hm⟩ := k0; exact DataW.trod_lt m _ _ _ hm
 obtain ⟨zs0, x0, rp0, gv0, zl0, zw0, zd0⟩ := a8a Tryz.underlying22 Tryz.underlying5 (by kernel_rfl) h0
 obtain ⟨a1, len1, cap1, rfl⟩ := okWide_slice Tryz.underlying22 (hval 1 22 v1 rfl rfl)
 have k1 := h1
 have lt1 : ∀ x ∈ p1, x.block < W.heap.size := by obtain ⟨m, hm⟩ := k1; exact DataW.trod_lt m _ _ _ hm
 obtain ⟨zs1, x1, rp1, gv1, zl1, zw1, zd1⟩ := a8a Tryz.underlying22 Tryz.underlying5 (by kernel_rfl) h1
 obtain ⟨a2, rfl, rfl, rfl, w2⟩ := open_int Tryz.underlying23 (hval 2 23 v2 rfl rfl) h2
 obtain ⟨a3, rfl, rfl, rfl, w3⟩ := open_int Tryz.underlying5 (hval 3 5 v3 rfl rfl) h3
 obtain ⟨a4, rfl, rfl, rfl, w4⟩ := open_int Tryz.underlying3 (hval 4 3 v4 rfl rfl) h4
 have zb0 : zs0.length + 1 ≤ Rows.uptoBulk d0 := by
  rcases zd0 with ⟨rfl, rfl⟩ | ⟨sp, rfl⟩
  ·simp [Rows.uptoBulk]
  ·have := length_le (lits (H := H) .u8 zs0)
   simp only [Rows.uptoBulk]
   simp [lits] at this ⊢
   omega
 have zb1 : zs1.length + 1 ≤ Rows.uptoBulk d1 := by
  rcases zd1 with ⟨rfl, rfl⟩ | ⟨sp, rfl⟩
  ·simp [Rows.uptoBulk]
  ·have := length_le (lits (H := H) .u8 zs1)
   simp only [Rows.uptoBulk]
   simp [lits] at this ⊢
   omega
 have hk := of_decide_eq_true (hcond _ rfl)
 simp only [List.append_nil, Rows.uptoBulkAll] at hk
 clear hA0 hval0
 obtain ⟨hx, hr⟩ := c0D zs0 x0 zs1 x1 a2 a3 a4 gv0 (fun z h => b9l (zw0 z h)) (by omega) gv1 (fun z h => b9l (zw1 z h)) zl1 w2
 refine (b8P c9f fk3.enter hr (d1D hL) (.cons rp0 (.cons rp1 (.cons (.int _ _) (.cons (.int _ _) (.cons (.int _ _) .nil))))) (fun g v hv => c0U hv)).mono fun e W' ⟨he, bel⟩ => ?_
 subst he
 exact ⟨_, rfl, _, _, _, [], _, [], hW', trodAll_mk1 (shut_bool Tryz.underlying4 _), (trodAll_cons_mk (Below.trod b7Q (by kernel_rfl) (of_decide_eq_true (by kernel_rfl)) k0 bel lt0) (trodAll_cons_mk (Below.trod b7Q (by kernel_rfl) (of_decide_eq_true (by kernel_rfl)) k1 bel lt1) (trodAll_cons_mk (shut_int Tryz.underlying23 w2) (trodAll_cons_mk (shut_int Tryz.underlying5 w3) (trodAll_cons_mk (shut_int Tryz.underlying3 w4) trodAll_mk0))))), rfl, bel.frame _, fun h => by cases h⟩
theorem over : Rows.checkpointCodesUptoRow.holds Tryz.pinned (Rows.OpenSpec.upto Rows.checkpointCodesSpec) :=
 OpenClaim.holds_of_cond 3 Tryz.f3 rfl rfl rfl rfl rfl rfl rfl ⟨rfl, rfl, rfl, rfl, rfl⟩ rfl rfl rfl rfl rfl (by kernel_rfl) Tryz.func3 (by kernel_rfl)
  (of_decide_eq_true (by kernel_rfl)) (by unfold Func.isWrapper; first | (rw [if_pos (by decide +kernel)]; kernel_rfl) | (rw [if_neg (by decide +kernel)]; exact ⟨rfl, rfl⟩))
  (fun os started H enc _ F => by rw [OpenClaim.pre_eq_preRow]; exact lifted os started H enc F)
theorem tied : Claim7.holds Tryz.pinned (.plain (Rows.OpenSpec.upto Rows.checkpointCodesSpec)) Rows.checkpointCodesUptoCard :=
 Claim7.holds_tied_plain_at .later [] [.called] true (true, "ca74d23106f13e2e17b1299422dc51ea1abc286d6b79271241f2a3188a9eda42") false
  over (fun _ h => by cases h) (by kernel_rfl) (fun _ h => by cases h) checkpointCodesUpto_row_tie rfl ⟨rfl, rfl⟩ (by kernel_rfl) rfl
  (fun f fn hf hfn => by
   obtain rfl : f = 3 := Option.some.inj ((show Tryz.prog.funcNamed "logtide/logtidelaw20.CheckpointCodes" = some 3 by kernel_rfl).symm.trans hf) |>.symm
   obtain rfl : fn = Tryz.f3 := (Option.some.inj (Tryz.func3.symm.trans hfn)).symm
   exact ⟨by kernel_rfl, fun j t ht => by
    rw [Tryz.params3] at ht
    have hm : t ∈ [22, 23, 5, 3] := by simpa using Array.mem_of_getElem? ht
    have hall : ([22, 23, 5, 3].all fun u => !Tryz.prog.wantsStandIn u) = true := by kernel_rfl
    exact (show Tryz.prog.wantsStandIn t = false by simpa using List.all_eq_true.1 hall t hm)⟩)
  (by kernel_rfl)
end Go.Proofs.YtjmndhbabkjebaaGreatDoor.checkpointCodesDone
namespace Go.Proofs.YtjmndhbabkjebaaGreatDoor
theorem checkpointCodesProved : Rows.CheckpointCodesUptoCardSaid := checkpointCodesDone.tied
end Go.Proofs.YtjmndhbabkjebaaGreatDoor
