/- EventCodes returns true at every input of bulk at most 1048576, and its input reads as it did. -/
import Derived.Test.YtlpedofpnbggbaaDoorL11
import Derived.Test.YtlpedofpnbggbaaDoorEngI
import Derived.Test.YtlpedofpnbggbaaDoorQA
import Derived.Test.YtlpedofpnbggbaaDoorRows
import Derived.WalkKit
import Derived.ProofKit
import Derived.OpenShut
import Derived.ShutString
import Derived.ChangeOld
import Derived.Below
import Derived.Test.YtlpedofpnbggbaaDoorQB
import Derived.Test.YtlpedofpnbggbaaDoorTie
import Derived.Test.YtlpedofpnbggbaaDoorCards
import Derived.ChangeSame
import Derived.ChangeVars
import Derived.JoinedOf
import Derived.RowKitTokens
import Derived.LaidLaws
import Derived.LaidHandle
import Derived.LaidMore
import Derived.Stop.Joined
import Derived.SevenTiedAt
import Derived.Deep.DeepHandedRow
import Derived.Lib.LaidTab
namespace Go.Proofs.YtlpedofpnbggbaaDoor.eventCodesDone
open Go.Eng Go.Pi Go.ChangeShapes Go.WideShapes Go.ChangeAt Go.RowKit
open Go.ChangeMaps (open_string shut_string)
set_option maxRecDepth 100000
set_option linter.unusedVariables false
set_option linter.unnecessarySimpa false
theorem own : ownKnob Tryd.prog.godebug = none := by kernel_rfl
theorem laidOut : laidOutB Tryd.prog = true := by kernel_rfl
theorem gvar : Tryd.prog.globalNamed "logtide/ascii.kinds" = some 0 := by kernel_rfl
theorem gty : (Tryd.prog.globals[0]?).map (·.type) = some 141 := by kernel_rfl
theorem laid_eq : Rows.laid_logtide_ascii_kinds (H := Unit) = .agg (kinZ.map fun z => .lit (.int .u8 z)) := by kernel_rfl
theorem gl_ok {W : World} (h : laidMetH Tryd.prog Rows.eventCodesUptoRow.laid W) : GlOK (Gh.all W) X.gl := fun i d hd => by
  have e := gl_arr (P := Tryd.prog) (zs := kinZ) (k := .u8) (laid := Rows.eventCodesUptoRow.laid) gvar gty Tryd.underlying141 Tryd.underlying5 (by kernel_rfl) (by kernel_rfl) (by rw [← laid_eq]; rfl) h
  have hd : (if i = 0 then some (D.fptr kin) else none) = some d := hd
  split at hd
  · rename_i hi
    subst hi
    injection hd with hd
    subst hd
    exact e
  · cases hd
noncomputable def laidWorld (os : Os) : World :=
  let w0 := World.holding Tryd.prog os ⟨#[], #[], []⟩
  { w0 with heap := w0.heap.modify 0 fun
      | .cells _ t frozen => .cells (kinZ.map fun z => Value.int .u8 z).toArray t frozen
      | o => o }
theorem laidWorld_met (os : Os) (args : Array Value) : laidMetH Tryd.prog Rows.eventCodesUptoRow.laid ((laidWorld os).forCall (fun _ _ => 0) ⟨#[], args, []⟩).memory :=
  laidMetH_of_parts (laidMet_of_run' 8 (by kernel_rfl) (by kernel_rfl)) (by kernel_rfl)
theorem one_le {H : Type} (d : DataW H) : 1 ≤ Rows.uptoBulk d := by
  cases d with
  | lit l => cases l <;> simp [Rows.uptoBulk]
  | nil => simp [Rows.uptoBulk]
  | ptr d => simp [Rows.uptoBulk]
  | slice elems spare => simp [Rows.uptoBulk]
  | agg parts => simp [Rows.uptoBulk]
  | iface t d => simp [Rows.uptoBulk]
  | map entries => simp [Rows.uptoBulk]
  | held h => simp [Rows.uptoBulk]
theorem length_le {H : Type} (l : List (DataW H)) : l.length ≤ Rows.uptoBulkAll l := by
  induction l with
  | nil => simp [Rows.uptoBulkAll]
  | cons x r ih => have := one_le x; simp only [Rows.uptoBulkAll, List.length_cons]; omega
theorem laid_met (os : Os) : laidMet Tryd.prog Rows.eventCodesUptoRow.laid ((laidWorld os).forCall (fun _ _ => 0) ⟨#[], #[.slice none 0 0, .slice none 0 0, .int .u8 0, .int .u8 0], []⟩).memory :=
  laidMet_of_run' 8 (by kernel_rfl) (by kernel_rfl)
theorem reads (os : Os) {H : Type} (enc : TypeId × Value → H) : ∃ places, DataW.whole enc Tryd.prog ((laidWorld os).forCall (fun _ _ => 0) ⟨#[], #[.slice none 0 0, .slice none 0 0, .int .u8 0, .int .u8 0], []⟩).memory Tryd.f4.params.toList Rows.eventCodesSpec.vars false (#[.slice none 0 0, .slice none 0 0, .int .u8 0, .int .u8 0] : Array Value).toList 8 = some ([.nil, .nil, .lit (.int .u8 0), .lit (.int .u8 0)], [], places) :=
  ⟨[], by kernel_rfl⟩
set_option maxRecDepth 100000 in
theorem lifted (os : Os) (started : os.Started) (H : Type) (enc : TypeId × Value → H) (F : Stop.Interp) :
    ReturnsInHanded {} Tryd.checked os 4 .any ((Rows.OpenSpec.upto Rows.eventCodesSpec).preRow enc Tryd.prog Tryd.f4 Rows.eventCodesUptoRow.domain false Rows.eventCodesUptoRow.laid) (((Rows.OpenSpec.upto Rows.eventCodesSpec).at F).post enc Tryd.prog Tryd.f4 false true false false) := by
  obtain ⟨places, hx⟩ := reads os enc
  refine returnsInHanded_of_row (C := Tryd.checked) (s := Rows.OpenSpec.upto Rows.eventCodesSpec) own started (by kernel_rfl) Tryd.func4
    (witness_row_at (enc := enc) (C := Tryd.checked) false (laidWorld os) #[.slice none 0 0, .slice none 0 0, .int .u8 0, .int .u8 0] rfl (by kernel_rfl) (by kernel_rfl) (by kernel_rfl)
      (OpenSpec.preRow_of_cond 8 hx (by kernel_rfl) (fun k hk => by cases hk; kernel_rfl) (by kernel_rfl) (laid_met os))) ?_
  intro W base args ds gs before hval0 hW _ hcond _ hL _ _
  have hval : ∀ (j : Nat) t v, Tryd.f4.params[j]? = some t → args[j]? = some v → Value.okWide Tryd.prog W .any base t v := hval0
  have hW' := hW
  obtain ⟨p, q, hA0, hV, rfl, hfz, hnd⟩ := hW
  have hA : DataW.TrodAll enc Tryd.prog W 0 (fun _ => true) true Tryd.f4.params.toList args.toList ds p := hA0
  rw [Tryd.params4] at hA hval
  obtain ⟨v0, vs0, d0, ds0, p0, q0, hargs, rfl, rfl, h0, r0⟩ := trodAll_cons hA
  obtain ⟨v1, vs1, d1, ds1, p1, q1, rfl, rfl, rfl, h1, r1⟩ := trodAll_cons r0
  obtain ⟨v2, vs2, d2, ds2, p2, q2, rfl, rfl, rfl, h2, r2⟩ := trodAll_cons r1
  obtain ⟨v3, vs3, d3, ds3, p3, q3, rfl, rfl, rfl, h3, r3⟩ := trodAll_cons r2
  obtain ⟨rfl, rfl, rfl⟩ := trodAll_nil r3
  obtain rfl : args = #[v0, v1, v2, v3] := by cases args; simp_all
  obtain ⟨rfl, rfl⟩ := trodVars_none hV
  obtain ⟨a0, len0, cap0, rfl⟩ := okWide_slice Tryd.underlying28 (hval 0 28 v0 rfl rfl)
  have k0 := h0
  have lt0 : ∀ x ∈ p0, x.block < W.heap.size := by obtain ⟨m, hm⟩ := k0; exact DataW.trod_lt m _ _ _ hm
  obtain ⟨zs0, x0, rp0, gv0, zl0, zw0, zd0⟩ := given_row_n Tryd.underlying28 Tryd.underlying5 (by kernel_rfl) h0
  obtain ⟨a1, len1, cap1, rfl⟩ := okWide_slice Tryd.underlying28 (hval 1 28 v1 rfl rfl)
  have k1 := h1
  have lt1 : ∀ x ∈ p1, x.block < W.heap.size := by obtain ⟨m, hm⟩ := k1; exact DataW.trod_lt m _ _ _ hm
  obtain ⟨zs1, x1, rp1, gv1, zl1, zw1, zd1⟩ := given_row_n Tryd.underlying28 Tryd.underlying5 (by kernel_rfl) h1
  obtain ⟨a2, rfl, rfl, rfl, w2⟩ := open_int Tryd.underlying5 (hval 2 5 v2 rfl rfl) h2
  obtain ⟨a3, rfl, rfl, rfl, w3⟩ := open_int Tryd.underlying5 (hval 3 5 v3 rfl rfl) h3
  have zb0 : zs0.length + 1 ≤ Rows.uptoBulk d0 := by
    rcases zd0 with ⟨rfl, rfl⟩ | ⟨sp, rfl⟩
    · simp [Rows.uptoBulk]
    · have := length_le (lits (H := H) .u8 zs0)
      simp only [Rows.uptoBulk]
      simp [lits] at this ⊢
      omega
  have zb1 : zs1.length + 1 ≤ Rows.uptoBulk d1 := by
    rcases zd1 with ⟨rfl, rfl⟩ | ⟨sp, rfl⟩
    · simp [Rows.uptoBulk]
    · have := length_le (lits (H := H) .u8 zs1)
      simp only [Rows.uptoBulk]
      simp [lits] at this ⊢
      omega
  have hk := of_decide_eq_true (hcond _ rfl)
  simp only [List.append_nil, Rows.uptoBulkAll] at hk
  clear hA0 hval0
  obtain ⟨hx, hr⟩ := law1121 zs0 x0 zs1 x1 a2 a3 gv0 (fun z h => wf_byte (zw0 z h)) (by omega) gv1 (fun z h => wf_byte (zw1 z h)) zl1 (wf_byte w2).1 (wf_byte w2).2
  refine (row_of_pi R_ok fk4.enter hr (gl_ok hL) (.cons rp0 (.cons rp1 (.cons (.int _ _) (.cons (.int _ _) .nil)))) (fun g v hv => rep_bool hv)).mono fun e W' ⟨he, bel⟩ => ?_
  subst he
  exact ⟨_, rfl, _, _, _, [], _, [], hW', trodAll_mk1 (shut_bool Tryd.underlying4 _), (trodAll_cons_mk (Below.trod laidOut (by kernel_rfl) (of_decide_eq_true (by kernel_rfl)) k0 bel lt0) (trodAll_cons_mk (Below.trod laidOut (by kernel_rfl) (of_decide_eq_true (by kernel_rfl)) k1 bel lt1) (trodAll_cons_mk (shut_int Tryd.underlying5 w2) (trodAll_cons_mk (shut_int Tryd.underlying5 w3) trodAll_mk0)))), rfl, bel.frame _, fun h => by cases h⟩
theorem over : Rows.eventCodesUptoRow.holds Tryd.pinned (Rows.OpenSpec.upto Rows.eventCodesSpec) :=
  OpenClaim.holds_of_cond 4 Tryd.f4 rfl rfl rfl rfl rfl rfl rfl ⟨rfl, rfl, rfl, rfl, rfl⟩ rfl rfl rfl rfl rfl (by kernel_rfl) Tryd.func4 (by kernel_rfl)
    (of_decide_eq_true (by kernel_rfl)) (by unfold Func.isWrapper; first | (rw [if_pos (by decide +kernel)]; kernel_rfl) | (rw [if_neg (by decide +kernel)]; exact ⟨rfl, rfl⟩))
    (fun os started H enc _ F => by rw [OpenClaim.pre_eq_preRow]; exact lifted os started H enc F)
theorem tied : Claim7.holds Tryd.pinned (.plain (Rows.OpenSpec.upto Rows.eventCodesSpec)) Rows.eventCodesUptoCard :=
  Claim7.holds_tied_plain_at .later [] [.called] true (true, "4a11329c0252baad4e5255a07df7abb4e749b6f46593086b0067420dff1f9643") false
    over (fun _ h => by cases h) (by kernel_rfl) (fun _ h => by cases h) eventCodesUpto_row_tie rfl ⟨rfl, rfl⟩ (by kernel_rfl) rfl
    (fun f fn hf hfn => by
      obtain rfl : f = 4 := Option.some.inj ((show Tryd.prog.funcNamed "logtide/logtidelaw12.EventCodes" = some 4 by kernel_rfl).symm.trans hf) |>.symm
      obtain rfl : fn = Tryd.f4 := (Option.some.inj (Tryd.func4.symm.trans hfn)).symm
      exact ⟨by kernel_rfl, fun j t ht => by
        rw [Tryd.params4] at ht
        have hm : t ∈ [28, 5] := by simpa using Array.mem_of_getElem? ht
        have hall : ([28, 5].all fun u => !Tryd.prog.wantsStandIn u) = true := by kernel_rfl
        exact (show Tryd.prog.wantsStandIn t = false by simpa using List.all_eq_true.1 hall t hm)⟩)
    (by kernel_rfl)
end Go.Proofs.YtlpedofpnbggbaaDoor.eventCodesDone
namespace Go.Proofs.YtlpedofpnbggbaaDoor
/-- The statement. -/
theorem eventCodesProved : Rows.EventCodesUptoCardSaid := eventCodesDone.tied
end Go.Proofs.YtlpedofpnbggbaaDoor
