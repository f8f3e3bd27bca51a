/- IngestApply returns true at every input, and its input reads as it did. -/
import Derived.Test.YthaajlepgblimaaDoorL5
import Derived.Test.YthaajlepgblimaaDoorEngI
import Derived.Test.YthaajlepgblimaaDoorQA
import Derived.Test.YthaajlepgblimaaDoorRows
import Derived.WalkKit
import Derived.ProofKit
import Derived.OpenShut
import Derived.ShutString
import Derived.ChangeOld
import Derived.Below
import Derived.Test.YthaajlepgblimaaDoorQB
import Derived.Test.YthaajlepgblimaaDoorTie
import Derived.Test.YthaajlepgblimaaDoorCards
import Derived.ChangeSame
import Derived.ChangeVars
import Derived.JoinedOf
import Derived.RowKitTokens
import Derived.LaidLaws
import Derived.LaidHandle
import Derived.LaidMore
import Derived.Stop.Joined
import Derived.SevenTiedAt
namespace Go.Proofs.YthaajlepgblimaaDoor.ingestApplyDone
open Go.Eng Go.Pi Go.ChangeShapes Go.WideShapes Go.ChangeAt Go.RowKit
open Go.ChangeMaps (open_string shut_string)
set_option maxRecDepth 100000
set_option linter.unusedVariables false
set_option linter.unnecessarySimpa false
theorem rows_ofP {α : Type} {f : α → List D} {P : α → Prop} {Q : List D → Prop} (hf : ∀ row, Q row → ∃ a, row = f a ∧ P a) : ∀ rows : List (List D), (∀ row ∈ rows, Q row) → ∃ l : List α, rows = l.map f ∧ ∀ a ∈ l, P a
 | [], _ => ⟨[], rfl, fun a h => by cases h⟩
 | row :: r, h => by
  obtain ⟨a, ha, hp⟩ := hf row (h row (by simp))
  obtain ⟨l, hl, hq⟩ := rows_ofP hf r fun x hx => h x (by simp [hx])
  refine ⟨a :: l, by rw [ha, hl]; rfl, fun b hb => ?_⟩
  rcases List.mem_cons.1 hb with rfl | hb
  ·exact hp
  ·exact hq b hb
theorem givenLine {m : Nat} {ds : List D} (h : ShG Tryd.prog (m + 2) 67 ds) : ∃ s : Lin, ds = linr s := by
 have hc : Tryd.prog.cellsOf 67 = 3 := by kernel_rfl
 obtain ⟨h1, h2⟩ := ShG_st (P := Tryd.prog) (t := 67) (m := m + 1) Tryd.underlying67 h
 rw [hc] at h1
 have c3 : Tryd.prog.cellsOf 3 = 1 := by kernel_rfl
 have c9 : Tryd.prog.cellsOf 9 = 1 := by kernel_rfl
 match ds, h1 with
 | [d0, d1, d2], _ =>
  simp [c3, c9] at h2
  obtain ⟨e0, e1, e2⟩ := h2
  obtain ⟨z0, q0, w0⟩ := ShG_int Tryd.underlying3 e0
  obtain ⟨z1, q1, w1⟩ := ShG_int Tryd.underlying3 e1
  obtain ⟨s2, q2, w2⟩ := ShG_str Tryd.underlying9 e2
  simp at q0 q1 q2
  subst q0 q1 q2
  exact ⟨⟨z0, z1, s2⟩, rfl⟩
theorem givenField {m : Nat} {ds : List D} (h : ShG Tryd.prog (m + 2) 92 ds) : ∃ s : (Str × Str), ds = fld s ∧ s.1.length ≤ 9223372036854775807 := by
 have hc : Tryd.prog.cellsOf 92 = 2 := by kernel_rfl
 obtain ⟨h1, h2⟩ := ShG_st (P := Tryd.prog) (t := 92) (m := m + 1) Tryd.underlying92 h
 rw [hc] at h1
 have c9 : Tryd.prog.cellsOf 9 = 1 := by kernel_rfl
 match ds, h1 with
 | [d0, d1], _ =>
  simp [c9] at h2
  obtain ⟨e0, e1⟩ := h2
  obtain ⟨s0, q0, w0⟩ := ShG_str Tryd.underlying9 e0
  obtain ⟨s1, q1, w1⟩ := ShG_str Tryd.underlying9 e1
  simp at q0 q1
  subst q0 q1
  exact ⟨(s0, s1), rfl, w0⟩
theorem givenLines {m : Nat} {x : D} (h : ShG Tryd.prog (m + 1) 35 [x]) (hf : ∀ row, ShG Tryd.prog m 67 row → ∃ a : Lin, row = linr a ∧ True) : ∃ l : List Lin, SlOf 3 linr l x ∧ l.length ≤ 9223372036854775807 ∧ ∀ a ∈ l, True := by
 have hc : Tryd.prog.cellsOf 67 = 3 := by kernel_rfl
 rcases ShG_slice (P := Tryd.prog) (t := 35) (e := 67) (m := m) Tryd.underlying35 h with rfl | ⟨rows, rfl, hl, hr⟩
 ·exact ⟨[], SlOf.nils _ _, by simp, fun a h => by cases h⟩
 ·obtain ⟨l, rfl, hp⟩ := rows_ofP (f := linr) (P := fun a => True) (Q := ShG Tryd.prog m 67) hf rows hr
  rw [hc]
  exact ⟨l, SlOf.mk _ _ _ _, by simpa using hl, hp⟩
theorem givenFields {m : Nat} {x : D} (h : ShG Tryd.prog (m + 1) 36 [x]) (hf : ∀ row, ShG Tryd.prog m 92 row → ∃ a : (Str × Str), row = fld a ∧ a.1.length ≤ 9223372036854775807) : ∃ l : List (Str × Str), SlOf 2 fld l x ∧ l.length ≤ 9223372036854775807 ∧ ∀ a ∈ l, a.1.length ≤ 9223372036854775807 := by
 have hc : Tryd.prog.cellsOf 92 = 2 := by kernel_rfl
 rcases ShG_slice (P := Tryd.prog) (t := 36) (e := 92) (m := m) Tryd.underlying36 h with rfl | ⟨rows, rfl, hl, hr⟩
 ·exact ⟨[], SlOf.nils _ _, by simp, fun a h => by cases h⟩
 ·obtain ⟨l, rfl, hp⟩ := rows_ofP (f := fld) (P := fun a => a.1.length ≤ 9223372036854775807) (Q := ShG Tryd.prog m 92) hf rows hr
  rw [hc]
  exact ⟨l, SlOf.mk _ _ _ _, by simpa using hl, hp⟩
theorem givenEvent {m : Nat} {ds : List D} (h : ShG Tryd.prog (m + 4) 38 ds) : ∃ e : Ev, ds = evr e ∧ NmB e := by
 have hc : Tryd.prog.cellsOf 38 = 10 := by kernel_rfl
 obtain ⟨h1, h2⟩ := ShG_st (P := Tryd.prog) (t := 38) (m := m + 3) Tryd.underlying38 h
 rw [hc] at h1
 have c3 : Tryd.prog.cellsOf 3 = 1 := by kernel_rfl
 have c9 : Tryd.prog.cellsOf 9 = 1 := by kernel_rfl
 have c35 : Tryd.prog.cellsOf 35 = 1 := by kernel_rfl
 have c36 : Tryd.prog.cellsOf 36 = 1 := by kernel_rfl
 match ds, h1 with
 | [d0, d1, d2, d3, d4, d5, d6, d7, d8, d9], _ =>
  simp [c3, c9, c35, c36] at h2
  obtain ⟨e0, e1, e2, e3, e4, e5, e6, e7, e8, e9⟩ := h2
  obtain ⟨v0, q0, _⟩ := ShG_int Tryd.underlying3 e0
  obtain ⟨v1, q1, _⟩ := ShG_int Tryd.underlying3 e1
  obtain ⟨v2, q2, _⟩ := ShG_int Tryd.underlying3 e2
  obtain ⟨v3, q3, _⟩ := ShG_int Tryd.underlying3 e3
  obtain ⟨v5, q5, _⟩ := ShG_int Tryd.underlying3 e5
  obtain ⟨v6, q6, _⟩ := ShG_int Tryd.underlying3 e6
  obtain ⟨v7, q7, _⟩ := ShG_str Tryd.underlying9 e7
  obtain ⟨v8, q8, _⟩ := ShG_str Tryd.underlying9 e8
  obtain ⟨ls, hls, hll, _⟩ := givenLines e4 (fun row hr => by obtain ⟨s, hs⟩ := givenLine hr; exact ⟨s, hs, trivial⟩)
  obtain ⟨fs, hfs, hfl, hfn⟩ := givenFields e9 (fun row hr => givenField hr)
  simp at q0 q1 q2 q3 q5 q6 q7 q8
  subst q0 q1 q2 q3 q5 q6 q7 q8
  exact ⟨⟨v0, v1, v2, v3, ls, d4, v5, v6, v7, v8, fs, d9, hfs, hfl, hls, hll⟩, rfl, hfn⟩
theorem givenItem {m : Nat} {ds : List D} (h : ShG Tryd.prog (m + 5) 40 ds) : ∃ i : It, ds = itr i ∧ NmB i.e := by
 have hc : Tryd.prog.cellsOf 40 = 11 := by kernel_rfl
 obtain ⟨h1, h2⟩ := ShG_st (P := Tryd.prog) (t := 40) (m := m + 4) Tryd.underlying40 h
 rw [hc] at h1
 have c1 : Tryd.prog.cellsOf 9 = 1 := by kernel_rfl
 have c2 : Tryd.prog.cellsOf 38 = 10 := by kernel_rfl
 match ds, h1 with
 | [d0, d1, d2, d3, d4, d5, d6, d7, d8, d9, d10], _ =>
  simp [c1, c2] at h2
  obtain ⟨e0, e1⟩ := h2
  obtain ⟨s, q, _⟩ := ShG_str Tryd.underlying9 e0
  obtain ⟨e, he, hn⟩ := givenEvent e1
  simp at q
  subst q
  exact ⟨⟨s, e⟩, by rw [itr, ← he], hn⟩
theorem givenItems {m : Nat} {x : D} (h : ShG Tryd.prog (m + 1) 22 [x]) (hf : ∀ row, ShG Tryd.prog m 40 row → ∃ a : It, row = itr a ∧ NmB a.e) : ∃ l : List It, SlOf 11 itr l x ∧ l.length ≤ 9223372036854775807 ∧ ∀ a ∈ l, NmB a.e := by
 have hc : Tryd.prog.cellsOf 40 = 11 := by kernel_rfl
 rcases ShG_slice (P := Tryd.prog) (t := 22) (e := 40) (m := m) Tryd.underlying22 h with rfl | ⟨rows, rfl, hl, hr⟩
 ·exact ⟨[], SlOf.nils _ _, by simp, fun a h => by cases h⟩
 ·obtain ⟨l, rfl, hp⟩ := rows_ofP (f := itr) (P := fun a => NmB a.e) (Q := ShG Tryd.prog m 40) hf rows hr
  rw [hc]
  exact ⟨l, SlOf.mk _ _ _ _, by simpa using hl, hp⟩
theorem givenBatch {m : Nat} {ds : List D} (h : ShG Tryd.prog (m + 7) 24 ds) : ∃ b : Bat, ds = batr b ∧ b.its.length ≤ 9223372036854775807 ∧ ∀ i ∈ b.its, NmB i.e := by
 have hc : Tryd.prog.cellsOf 24 = 3 := by kernel_rfl
 obtain ⟨h1, h2⟩ := ShG_st (P := Tryd.prog) (t := 24) (m := m + 6) Tryd.underlying24 h
 rw [hc] at h1
 have c1 : Tryd.prog.cellsOf 3 = 1 := by kernel_rfl
 have c2 : Tryd.prog.cellsOf 22 = 1 := by kernel_rfl
 match ds, h1 with
 | [d0, d1, d2], _ =>
  simp [c1, c2] at h2
  obtain ⟨e0, e1, e2⟩ := h2
  obtain ⟨v0, q0, _⟩ := ShG_int Tryd.underlying3 e0
  obtain ⟨v1, q1, _⟩ := ShG_int Tryd.underlying3 e1
  obtain ⟨l, hl, hll, hln⟩ := givenItems e2 (fun row hr => givenItem hr)
  simp at q0 q1
  subst q0 q1
  exact ⟨⟨v0, v1, l, d2, hl⟩, rfl, hll, hln⟩
theorem own : ownKnob Tryd.prog.godebug = none := by kernel_rfl
theorem laidOut : laidOutB Tryd.prog = true := by kernel_rfl
theorem gvar : Tryd.prog.globalNamed "logtide/ascii.kinds" = some 0 := by kernel_rfl
theorem gty : (Tryd.prog.globals[0]?).map (·.type) = some 126 := by kernel_rfl
theorem laid_eq : Rows.laid_logtide_ascii_kinds (H := Unit) = .agg (kinZ.map fun z => .lit (.int .u8 z)) := by kernel_rfl
theorem gl_ok {W : World} (h : laidMetH Tryd.prog Rows.ingestApplyRow.laid W) : GlOK (Gh.all W) X.gl := fun i d hd => by
 have e := gl_arr (P := Tryd.prog) (zs := kinZ) (k := .u8) (laid := Rows.ingestApplyRow.laid) gvar gty Tryd.underlying126 Tryd.underlying5 (by kernel_rfl) (by kernel_rfl) (by rw [← laid_eq]; rfl) h
 have hd : (if i = 0 then some (D.fptr kin) else none) = some d := hd
 split at hd
 ·rename_i hi
  subst hi
  injection hd with hd
  subst hd
  exact e
 ·cases hd
noncomputable def laidWorld (os : Os) : World :=
 let w0 := World.holding Tryd.prog os ⟨#[], #[], []⟩
 { w0 with heap := w0.heap.modify 0 fun
     | .cells _ t frozen => .cells (kinZ.map fun z => Value.int .u8 z).toArray t frozen
     | o => o }
theorem laidWorld_met (os : Os) (args : Array Value) : laidMetH Tryd.prog Rows.ingestApplyRow.laid ((laidWorld os).forCall (fun _ _ => 0) ⟨#[], args, []⟩).memory :=
 laidMetH_of_parts (laidMet_of_run' 8 (by kernel_rfl) (by kernel_rfl)) (by kernel_rfl)
set_option maxRecDepth 100000 in
theorem lifted (os : Os) (started : os.Started) (H : Type) (enc : TypeId × Value → H) :
  ReturnsInHanded {} Tryd.checked os 4 .any (fun w args => (Rows.ingestApplySpec.pre enc Tryd.prog Tryd.f4 [] false w args ∧ laidMetH Tryd.prog Rows.ingestApplyRow.laid w) ∧ sizedMet enc Tryd.prog Tryd.f4 (OpenSpec.ofChange Rows.ingestApplySpec) false w args) (Rows.ingestApplySpec.post enc Tryd.prog Tryd.f4 false true false false) := by
 refine returnsInHanded_of_change_and (C := Tryd.checked) (X := fun w _ => laidMetH Tryd.prog Rows.ingestApplyRow.laid w) (fun _ _ _ hh h => h.of_heap hh) own started (by kernel_rfl) Tryd.func4
  (ChangeSpec.witness_at (enc := enc) (C := Tryd.checked) (os := os) (X := fun w _ => laidMetH Tryd.prog Rows.ingestApplyRow.laid w) false (laidWorld os) #[.slice none 0 0, .agg #[.int .i64 0, .int .i64 0, .slice none 0 0]] 8 rfl (by kernel_rfl) (by kernel_rfl) (by kernel_rfl) (by kernel_rfl) (by kernel_rfl) (laidWorld_met os _)) ?_
 intro W base args ds gs before hval0 hW hcnd hcnd2 hL _
 have hval : ∀ (j : Nat) t v, Tryd.f4.params[j]? = some t → args[j]? = some v → Value.okWide Tryd.prog W .any base t v := hval0
 have hW' := hW
 obtain ⟨p, q, hA0, hV, rfl, hfz, hnd⟩ := hW
 have hA : DataW.TrodAll enc Tryd.prog W 0 (fun _ => true) true Tryd.f4.params.toList args.toList ds p := hA0
 rw [Tryd.params4] at hA hval
 obtain ⟨v0, vs0, d0, ds0, p0, q0, hargs, rfl, rfl, h0, r0⟩ := trodAll_cons hA
 obtain ⟨v1, vs1, d1, ds1, p1, q1, rfl, rfl, rfl, h1, r1⟩ := trodAll_cons r0
 obtain ⟨rfl, rfl, rfl⟩ := trodAll_nil r1
 obtain rfl : args = #[v0, v1] := by cases args; simp_all
 obtain ⟨rfl, rfl⟩ := trodVars_none hV
 obtain ⟨a0, len0, cap0, rfl⟩ := okWide_slice Tryd.underlying25 (hval 0 25 v0 rfl rfl)
 have k0 := h0
 have lt0 : ∀ x ∈ p0, x.block < W.heap.size := by obtain ⟨m, hm⟩ := k0; exact DataW.trod_lt m _ _ _ hm
 obtain ⟨zs0, x0, rp0, gv0, zl0, zw0⟩ := given_row Tryd.underlying25 Tryd.underlying5 (by kernel_rfl) h0
 obtain ⟨c1, rfl, cz1⟩ := okWide_struct Tryd.underlying24 (hval 1 24 v1 rfl rfl)
 have k1 := h1
 have lt1 : ∀ x ∈ p1, x.block < W.heap.size := by obtain ⟨m, hm⟩ := k1; exact DataW.trod_lt m _ _ _ hm
 obtain ⟨y1, rp1, sh1⟩ := given_ag 7 (by kernel_rfl) h1
 obtain ⟨s1, rfl, sn1⟩ := givenBatch sh1
 clear hA0 hval0
 obtain ⟨hx, hr⟩ := law1207 zs0 x0 s1 gv0 (fun z h => wf_byte (zw0 z h)) sn1.1 sn1.2
 refine (row_of_pi R_ok fk4.enter hr (gl_ok hL) (.cons rp0 (.cons rp1 .nil)) (fun g v hv => rep_bool hv)).mono fun e W' ⟨he, bel⟩ => ?_
 subst he
 exact ⟨_, rfl, _, _, _, [], _, [], hW', trodAll_mk1 (shut_bool Tryd.underlying4 _), (trodAll_cons_mk (Below.trod laidOut (by kernel_rfl) (of_decide_eq_true (by kernel_rfl)) k0 bel lt0) (trodAll_cons_mk (Below.trod laidOut (by kernel_rfl) (of_decide_eq_true (by kernel_rfl)) k1 bel lt1) trodAll_mk0)), rfl, bel.frame _, fun h => by cases h⟩
theorem over : Rows.ingestApplyRow.holds Tryd.pinned (OpenSpec.ofChange Rows.ingestApplySpec) :=
 OpenClaim.holds_of_wide 4 Tryd.f4 rfl rfl rfl rfl rfl rfl rfl ⟨rfl, rfl, rfl, rfl, rfl⟩ rfl rfl rfl rfl rfl (by kernel_rfl) Tryd.func4 (by kernel_rfl)
  (of_decide_eq_true (by kernel_rfl)) (by unfold Func.isWrapper; first | (rw [if_pos (by decide +kernel)]; kernel_rfl) | (rw [if_neg (by decide +kernel)]; exact ⟨rfl, rfl⟩))
  (fun os started H enc _ => lifted os started H enc)
theorem tied : Claim7.holds Tryd.pinned (.plain (OpenSpec.ofChange Rows.ingestApplySpec)) Rows.ingestApplyCard :=
 Claim7.holds_tied_plain_at .later [] [.called] true (true, "1bb97700078234381e2a1e3229c6c11bf5006a28d81a67a31d1e118bed8a144a") false
  over (fun _ h => by cases h) (by kernel_rfl) (fun _ h => by cases h) ingestApply_row_tie rfl ⟨rfl, rfl⟩ (by kernel_rfl) rfl
  (fun f fn hf hfn => by
   obtain rfl : f = 4 := Option.some.inj ((show Tryd.prog.funcNamed "logtide/logtidelaw28.IngestApply" = some 4 by kernel_rfl).symm.trans hf) |>.symm
   obtain rfl : fn = Tryd.f4 := (Option.some.inj (Tryd.func4.symm.trans hfn)).symm
   exact ⟨by kernel_rfl, fun j t ht => by
    rw [Tryd.params4] at ht
    have hm : t ∈ [25, 24] := by simpa using Array.mem_of_getElem? ht
    have hall : ([25, 24].all fun u => !Tryd.prog.wantsStandIn u) = true := by kernel_rfl
    exact (show Tryd.prog.wantsStandIn t = false by simpa using List.all_eq_true.1 hall t hm)⟩)
  (by kernel_rfl)
end Go.Proofs.YthaajlepgblimaaDoor.ingestApplyDone
namespace Go.Proofs.YthaajlepgblimaaDoor
theorem ingestApplyProved : Rows.IngestApplyCardSaid := ingestApplyDone.tied
end Go.Proofs.YthaajlepgblimaaDoor
