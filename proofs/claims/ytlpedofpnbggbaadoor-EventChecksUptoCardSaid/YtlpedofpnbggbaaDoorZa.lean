/- EventChecks returns true at every input of bulk at most 1048576, and its input reads as it did. -/
import Derived.Test.YtlpedofpnbggbaaDoorL3
import Derived.Test.YtlpedofpnbggbaaDoorEngI
import Derived.Test.YtlpedofpnbggbaaDoorQA
import Derived.Test.YtlpedofpnbggbaaDoorRows
import Derived.WalkKit
import Derived.ProofKit
import Derived.OpenShut
import Derived.ShutString
import Derived.ChangeOld
import Derived.Below
import Derived.Test.YtlpedofpnbggbaaDoorQB
import Derived.Test.YtlpedofpnbggbaaDoorTie
import Derived.Test.YtlpedofpnbggbaaDoorCards
import Derived.ChangeSame
import Derived.ChangeVars
import Derived.JoinedOf
import Derived.RowKitTokens
import Derived.LaidLaws
import Derived.LaidHandle
import Derived.LaidMore
import Derived.Stop.Joined
import Derived.SevenTiedAt
import Derived.Test.YtlpedofpnbggbaaDoorQC
import Derived.Deep.DeepHandedRow
import Derived.Lib.LaidTab
namespace Go.Proofs.YtlpedofpnbggbaaDoor.eventChecksDone
open Go.Eng Go.Pi Go.ChangeShapes Go.WideShapes Go.ChangeAt Go.RowKit
open Go.ChangeMaps (open_string shut_string)
set_option maxRecDepth 100000
set_option linter.unusedVariables false
set_option linter.unnecessarySimpa false
theorem rows_ofP {α : Type} {f : α → List D} {P : α → Prop} {Q : List D → Prop} (hf : ∀ row, Q row → ∃ a, row = f a ∧ P a) : ∀ rows : List (List D), (∀ row ∈ rows, Q row) → ∃ l : List α, rows = l.map f ∧ ∀ a ∈ l, P a
  | [], _ => ⟨[], rfl, fun a h => by cases h⟩
  | row :: r, h => by
    obtain ⟨a, ha, hp⟩ := hf row (h row (by simp))
    obtain ⟨l, hl, hq⟩ := rows_ofP hf r fun x hx => h x (by simp [hx])
    refine ⟨a :: l, by rw [ha, hl]; rfl, fun b hb => ?_⟩
    rcases List.mem_cons.1 hb with rfl | hb
    · exact hp
    · exact hq b hb
theorem givenLine {m : Nat} {ds : List D} (h : ShG Tryd.prog (m + 2) 56 ds) : ∃ s : Lin, ds = linr s := by
  have hc : Tryd.prog.cellsOf 56 = 3 := by kernel_rfl
  obtain ⟨h1, h2⟩ := ShG_st (P := Tryd.prog) (t := 56) (m := m + 1) Tryd.underlying56 h
  rw [hc] at h1
  have c3 : Tryd.prog.cellsOf 3 = 1 := by kernel_rfl
  have c9 : Tryd.prog.cellsOf 9 = 1 := by kernel_rfl
  match ds, h1 with
  | [d0, d1, d2], _ =>
    simp [c3, c9] at h2
    obtain ⟨e0, e1, e2⟩ := h2
    obtain ⟨z0, q0, w0⟩ := ShG_int Tryd.underlying3 e0
    obtain ⟨z1, q1, w1⟩ := ShG_int Tryd.underlying3 e1
    obtain ⟨s2, q2, w2⟩ := ShG_str Tryd.underlying9 e2
    simp at q0 q1 q2
    subst q0 q1 q2
    exact ⟨⟨z0, z1, s2⟩, rfl⟩
theorem givenField {m : Nat} {ds : List D} (h : ShG Tryd.prog (m + 2) 66 ds) : ∃ s : (Str × Str), ds = fld s ∧ s.1.length ≤ 9223372036854775807 := by
  have hc : Tryd.prog.cellsOf 66 = 2 := by kernel_rfl
  obtain ⟨h1, h2⟩ := ShG_st (P := Tryd.prog) (t := 66) (m := m + 1) Tryd.underlying66 h
  rw [hc] at h1
  have c9 : Tryd.prog.cellsOf 9 = 1 := by kernel_rfl
  match ds, h1 with
  | [d0, d1], _ =>
    simp [c9] at h2
    obtain ⟨e0, e1⟩ := h2
    obtain ⟨s0, q0, w0⟩ := ShG_str Tryd.underlying9 e0
    obtain ⟨s1, q1, w1⟩ := ShG_str Tryd.underlying9 e1
    simp at q0 q1
    subst q0 q1
    exact ⟨(s0, s1), rfl, w0⟩
theorem givenLines {m : Nat} {x : D} (h : ShG Tryd.prog (m + 1) 22 [x]) (hf : ∀ row, ShG Tryd.prog m 56 row → ∃ a : Lin, row = linr a ∧ True) : ∃ l : List Lin, SlOf 3 linr l x ∧ l.length ≤ 9223372036854775807 ∧ ∀ a ∈ l, True := by
  have hc : Tryd.prog.cellsOf 56 = 3 := by kernel_rfl
  rcases ShG_slice (P := Tryd.prog) (t := 22) (e := 56) (m := m) Tryd.underlying22 h with rfl | ⟨rows, rfl, hl, hr⟩
  · exact ⟨[], SlOf.nils _ _, by simp, fun a h => by cases h⟩
  · obtain ⟨l, rfl, hp⟩ := rows_ofP (f := linr) (P := fun a => True) (Q := ShG Tryd.prog m 56) hf rows hr
    rw [hc]
    exact ⟨l, SlOf.mk _ _ _ _, by simpa using hl, hp⟩
theorem givenFields {m : Nat} {x : D} (h : ShG Tryd.prog (m + 1) 23 [x]) (hf : ∀ row, ShG Tryd.prog m 66 row → ∃ a : (Str × Str), row = fld a ∧ a.1.length ≤ 9223372036854775807) : ∃ l : List (Str × Str), SlOf 2 fld l x ∧ l.length ≤ 9223372036854775807 ∧ ∀ a ∈ l, a.1.length ≤ 9223372036854775807 := by
  have hc : Tryd.prog.cellsOf 66 = 2 := by kernel_rfl
  rcases ShG_slice (P := Tryd.prog) (t := 23) (e := 66) (m := m) Tryd.underlying23 h with rfl | ⟨rows, rfl, hl, hr⟩
  · exact ⟨[], SlOf.nils _ _, by simp, fun a h => by cases h⟩
  · obtain ⟨l, rfl, hp⟩ := rows_ofP (f := fld) (P := fun a => a.1.length ≤ 9223372036854775807) (Q := ShG Tryd.prog m 66) hf rows hr
    rw [hc]
    exact ⟨l, SlOf.mk _ _ _ _, by simpa using hl, hp⟩
theorem givenEvent {m : Nat} {ds : List D} (h : ShG Tryd.prog (m + 4) 25 ds) : ∃ e : Ev, ds = evr e ∧ NmB e := by
  have hc : Tryd.prog.cellsOf 25 = 10 := by kernel_rfl
  obtain ⟨h1, h2⟩ := ShG_st (P := Tryd.prog) (t := 25) (m := m + 3) Tryd.underlying25 h
  rw [hc] at h1
  have c3 : Tryd.prog.cellsOf 3 = 1 := by kernel_rfl
  have c9 : Tryd.prog.cellsOf 9 = 1 := by kernel_rfl
  have c22 : Tryd.prog.cellsOf 22 = 1 := by kernel_rfl
  have c23 : Tryd.prog.cellsOf 23 = 1 := by kernel_rfl
  match ds, h1 with
  | [d0, d1, d2, d3, d4, d5, d6, d7, d8, d9], _ =>
    simp [c3, c9, c22, c23] at h2
    obtain ⟨e0, e1, e2, e3, e4, e5, e6, e7, e8, e9⟩ := h2
    obtain ⟨v0, q0, _⟩ := ShG_int Tryd.underlying3 e0
    obtain ⟨v1, q1, _⟩ := ShG_int Tryd.underlying3 e1
    obtain ⟨v2, q2, _⟩ := ShG_int Tryd.underlying3 e2
    obtain ⟨v3, q3, _⟩ := ShG_int Tryd.underlying3 e3
    obtain ⟨v5, q5, _⟩ := ShG_int Tryd.underlying3 e5
    obtain ⟨v6, q6, _⟩ := ShG_int Tryd.underlying3 e6
    obtain ⟨v7, q7, _⟩ := ShG_str Tryd.underlying9 e7
    obtain ⟨v8, q8, _⟩ := ShG_str Tryd.underlying9 e8
    obtain ⟨ls, hls, hll, _⟩ := givenLines e4 (fun row hr => by obtain ⟨s, hs⟩ := givenLine hr; exact ⟨s, hs, trivial⟩)
    obtain ⟨fs, hfs, hfl, hfn⟩ := givenFields e9 (fun row hr => givenField hr)
    simp at q0 q1 q2 q3 q5 q6 q7 q8
    subst q0 q1 q2 q3 q5 q6 q7 q8
    exact ⟨⟨v0, v1, v2, v3, ls, d4, v5, v6, v7, v8, fs, d9, hfs, hfl, hls, hll⟩, rfl, hfn⟩
theorem givenItem {m : Nat} {ds : List D} (h : ShG Tryd.prog (m + 5) 27 ds) : ∃ i : It, ds = itr i ∧ NmB i.e := by
  have hc : Tryd.prog.cellsOf 27 = 11 := by kernel_rfl
  obtain ⟨h1, h2⟩ := ShG_st (P := Tryd.prog) (t := 27) (m := m + 4) Tryd.underlying27 h
  rw [hc] at h1
  have c1 : Tryd.prog.cellsOf 9 = 1 := by kernel_rfl
  have c2 : Tryd.prog.cellsOf 25 = 10 := by kernel_rfl
  match ds, h1 with
  | [d0, d1, d2, d3, d4, d5, d6, d7, d8, d9, d10], _ =>
    simp [c1, c2] at h2
    obtain ⟨e0, e1⟩ := h2
    obtain ⟨s, q, _⟩ := ShG_str Tryd.underlying9 e0
    obtain ⟨e, he, hn⟩ := givenEvent e1
    simp at q
    subst q
    exact ⟨⟨s, e⟩, by rw [itr, ← he], hn⟩
theorem own : ownKnob Tryd.prog.godebug = none := by kernel_rfl
theorem laidOut : laidOutB Tryd.prog = true := by kernel_rfl
theorem gvar : Tryd.prog.globalNamed "logtide/ascii.kinds" = some 0 := by kernel_rfl
theorem gty : (Tryd.prog.globals[0]?).map (·.type) = some 141 := by kernel_rfl
theorem laid_eq : Rows.laid_logtide_ascii_kinds (H := Unit) = .agg (kinZ.map fun z => .lit (.int .u8 z)) := by kernel_rfl
theorem gl_ok {W : World} (h : laidMetH Tryd.prog Rows.eventChecksUptoRow.laid W) : GlOK (Gh.all W) X.gl := fun i d hd => by
  have e := gl_arr (P := Tryd.prog) (zs := kinZ) (k := .u8) (laid := Rows.eventChecksUptoRow.laid) gvar gty Tryd.underlying141 Tryd.underlying5 (by kernel_rfl) (by kernel_rfl) (by rw [← laid_eq]; rfl) h
  have hd : (if i = 0 then some (D.fptr kin) else none) = some d := hd
  split at hd
  · rename_i hi
    subst hi
    injection hd with hd
    subst hd
    exact e
  · cases hd
noncomputable def laidWorld (os : Os) : World :=
  let w0 := World.holding Tryd.prog os ⟨#[], #[], []⟩
  { w0 with heap := w0.heap.modify 0 fun
      | .cells _ t frozen => .cells (kinZ.map fun z => Value.int .u8 z).toArray t frozen
      | o => o }
theorem laidWorld_met (os : Os) (args : Array Value) : laidMetH Tryd.prog Rows.eventChecksUptoRow.laid ((laidWorld os).forCall (fun _ _ => 0) ⟨#[], args, []⟩).memory :=
  laidMetH_of_parts (laidMet_of_run' 8 (by kernel_rfl) (by kernel_rfl)) (by kernel_rfl)
theorem one_le {H : Type} (d : DataW H) : 1 ≤ Rows.uptoBulk d := by
  cases d with
  | lit l => cases l <;> simp [Rows.uptoBulk]
  | nil => simp [Rows.uptoBulk]
  | ptr d => simp [Rows.uptoBulk]
  | slice elems spare => simp [Rows.uptoBulk]
  | agg parts => simp [Rows.uptoBulk]
  | iface t d => simp [Rows.uptoBulk]
  | map entries => simp [Rows.uptoBulk]
  | held h => simp [Rows.uptoBulk]
theorem length_le {H : Type} (l : List (DataW H)) : l.length ≤ Rows.uptoBulkAll l := by
  induction l with
  | nil => simp [Rows.uptoBulkAll]
  | cons x r ih => have := one_le x; simp only [Rows.uptoBulkAll, List.length_cons]; omega
theorem mem_le {H : Type} : ∀ (l : List (DataW H)), ∀ d ∈ l, Rows.uptoBulk d ≤ Rows.uptoBulkAll l
  | [], d, h => by cases h
  | x :: r, d, h => by
    simp only [Rows.uptoBulkAll]
    rcases List.mem_cons.1 h with rfl | h
    · omega
    · have := mem_le r d h; omega
theorem bulk_ok {H : Type} : Bulk (H := H) Rows.uptoBulk where
  str := fun s => by simp [Rows.uptoBulk]
  sl := fun es sp e he => by have := mem_le es e he; simp only [Rows.uptoBulk]; omega
  ag := fun ps p hp => by have := mem_le ps p hp; simp only [Rows.uptoBulk]; omega
theorem it_txt {L : Nat} {i : It} (h : ∀ x ∈ itr i, StrLe L x) : ∀ l ∈ i.e.ls, l.txt.length ≤ L := fun l hl => by
  have h1 := h i.e.ld (by simp [itr, evr])
  rcases i.e.hld with ⟨_, hn⟩ | ⟨f, hs⟩
  · rw [hn] at hl; cases hl
  · rw [hs] at h1
    cases h1 with
    | sl _ _ _ h1 =>
      have h2 := h1 (linr l) (List.mem_map.2 ⟨l, hl, rfl⟩) (.str l.txt) (by simp [linr])
      cases h2 with
      | str _ h3 => exact h3
theorem laid_met (os : Os) : laidMet Tryd.prog Rows.eventChecksUptoRow.laid ((laidWorld os).forCall (fun _ _ => 0) ⟨#[], #[.agg #[.string ⟨#[]⟩, .int .i64 0, .int .i64 0, .int .i64 0, .int .i64 0, .slice none 0 0, .int .i64 0, .int .i64 0, .string ⟨#[]⟩, .string ⟨#[]⟩, .slice none 0 0], .slice none 0 0, .string ⟨#[]⟩], []⟩).memory :=
  laidMet_of_run' 8 (by kernel_rfl) (by kernel_rfl)
theorem reads (os : Os) {H : Type} (enc : TypeId × Value → H) : ∃ places, DataW.whole enc Tryd.prog ((laidWorld os).forCall (fun _ _ => 0) ⟨#[], #[.agg #[.string ⟨#[]⟩, .int .i64 0, .int .i64 0, .int .i64 0, .int .i64 0, .slice none 0 0, .int .i64 0, .int .i64 0, .string ⟨#[]⟩, .string ⟨#[]⟩, .slice none 0 0], .slice none 0 0, .string ⟨#[]⟩], []⟩).memory Tryd.f3.params.toList Rows.eventChecksSpec.vars false (#[.agg #[.string ⟨#[]⟩, .int .i64 0, .int .i64 0, .int .i64 0, .int .i64 0, .slice none 0 0, .int .i64 0, .int .i64 0, .string ⟨#[]⟩, .string ⟨#[]⟩, .slice none 0 0], .slice none 0 0, .string ⟨#[]⟩] : Array Value).toList 8 = some ([.agg [.lit (.string []), .agg [.lit (.int .i64 0), .lit (.int .i64 0), .lit (.int .i64 0), .lit (.int .i64 0), .nil, .lit (.int .i64 0), .lit (.int .i64 0), .lit (.string []), .lit (.string []), .nil]], .nil, .lit (.string [])], [], places) :=
  ⟨[], by kernel_rfl⟩
set_option maxRecDepth 100000 in
theorem lifted (os : Os) (started : os.Started) (H : Type) (enc : TypeId × Value → H) (F : Stop.Interp) :
    ReturnsInHanded {} Tryd.checked os 3 .any ((Rows.OpenSpec.upto Rows.eventChecksSpec).preRow enc Tryd.prog Tryd.f3 Rows.eventChecksUptoRow.domain false Rows.eventChecksUptoRow.laid) (((Rows.OpenSpec.upto Rows.eventChecksSpec).at F).post enc Tryd.prog Tryd.f3 false true false false) := by
  obtain ⟨places, hx⟩ := reads os enc
  refine returnsInHanded_of_row (C := Tryd.checked) (s := Rows.OpenSpec.upto Rows.eventChecksSpec) own started (by kernel_rfl) Tryd.func3
    (witness_row_at (enc := enc) (C := Tryd.checked) false (laidWorld os) #[.agg #[.string ⟨#[]⟩, .int .i64 0, .int .i64 0, .int .i64 0, .int .i64 0, .slice none 0 0, .int .i64 0, .int .i64 0, .string ⟨#[]⟩, .string ⟨#[]⟩, .slice none 0 0], .slice none 0 0, .string ⟨#[]⟩] rfl (by kernel_rfl) (by kernel_rfl) (by kernel_rfl)
      (OpenSpec.preRow_of_cond 8 hx (by kernel_rfl) (fun k hk => by cases hk; kernel_rfl) (by kernel_rfl) (laid_met os))) ?_
  intro W base args ds gs before hval0 hW _ hcond _ hL _ _
  have hval : ∀ (j : Nat) t v, Tryd.f3.params[j]? = some t → args[j]? = some v → Value.okWide Tryd.prog W .any base t v := hval0
  have hW' := hW
  obtain ⟨p, q, hA0, hV, rfl, hfz, hnd⟩ := hW
  have hA : DataW.TrodAll enc Tryd.prog W 0 (fun _ => true) true Tryd.f3.params.toList args.toList ds p := hA0
  rw [Tryd.params3] at hA hval
  obtain ⟨v0, vs0, d0, ds0, p0, q0, hargs, rfl, rfl, h0, r0⟩ := trodAll_cons hA
  obtain ⟨v1, vs1, d1, ds1, p1, q1, rfl, rfl, rfl, h1, r1⟩ := trodAll_cons r0
  obtain ⟨v2, vs2, d2, ds2, p2, q2, rfl, rfl, rfl, h2, r2⟩ := trodAll_cons r1
  obtain ⟨rfl, rfl, rfl⟩ := trodAll_nil r2
  obtain rfl : args = #[v0, v1, v2] := by cases args; simp_all
  obtain ⟨rfl, rfl⟩ := trodVars_none hV
  obtain ⟨c0, rfl, cz0⟩ := okWide_struct Tryd.underlying27 (hval 0 27 v0 rfl rfl)
  have k0 := h0
  have lt0 : ∀ x ∈ p0, x.block < W.heap.size := by obtain ⟨m, hm⟩ := k0; exact DataW.trod_lt m _ _ _ hm
  obtain ⟨y0, rp0, sh0, le0⟩ := given_agb bulk_ok 5 (by kernel_rfl) h0
  obtain ⟨s0, rfl, sn0⟩ := givenItem sh0
  obtain ⟨a1, len1, cap1, rfl⟩ := okWide_slice Tryd.underlying28 (hval 1 28 v1 rfl rfl)
  have k1 := h1
  have lt1 : ∀ x ∈ p1, x.block < W.heap.size := by obtain ⟨m, hm⟩ := k1; exact DataW.trod_lt m _ _ _ hm
  obtain ⟨zs1, x1, rp1, gv1, zl1, zw1, zd1⟩ := given_row_n Tryd.underlying28 Tryd.underlying5 (by kernel_rfl) h1
  obtain ⟨a2, rfl, rfl, rfl, w2⟩ := open_string Tryd.underlying9 (hval 2 9 v2 rfl rfl) h2
  have rp2 : Rep (Gh.all W) (.string a2) (.str a2.data.toList) := by
    have := Rep.str (g := Gh.all W) a2.data.toList
    simpa using this
  have zb1 : zs1.length + 1 ≤ Rows.uptoBulk d1 := by
    rcases zd1 with ⟨rfl, rfl⟩ | ⟨sp, rfl⟩
    · simp [Rows.uptoBulk]
    · have := length_le (lits (H := H) .u8 zs1)
      simp only [Rows.uptoBulk]
      simp [lits] at this ⊢
      omega
  have hk := of_decide_eq_true (hcond _ rfl)
  simp only [List.append_nil, Rows.uptoBulkAll] at hk
  clear hA0 hval0
  obtain ⟨hx, hr⟩ := law1120 s0 zs1 x1 a2.data.toList sn0 (fun l hl => Nat.le_trans (it_txt le0 l hl) (by omega)) gv1 (fun z h => wf_byte (zw1 z h)) (by omega)
  refine (row_of_pi R_ok fk3.enter hr (gl_ok hL) (.cons rp0 (.cons rp1 (.cons rp2 .nil))) (fun g v hv => rep_bool hv)).mono fun e W' ⟨he, bel⟩ => ?_
  subst he
  exact ⟨_, rfl, _, _, _, [], _, [], hW', trodAll_mk1 (shut_bool Tryd.underlying4 _), (trodAll_cons_mk (Below.trod laidOut (by kernel_rfl) (of_decide_eq_true (by kernel_rfl)) k0 bel lt0) (trodAll_cons_mk (Below.trod laidOut (by kernel_rfl) (of_decide_eq_true (by kernel_rfl)) k1 bel lt1) (trodAll_cons_mk (shut_string Tryd.underlying9 w2) trodAll_mk0))), rfl, bel.frame _, fun h => by cases h⟩
theorem over : Rows.eventChecksUptoRow.holds Tryd.pinned (Rows.OpenSpec.upto Rows.eventChecksSpec) :=
  OpenClaim.holds_of_cond 3 Tryd.f3 rfl rfl rfl rfl rfl rfl rfl ⟨rfl, rfl, rfl, rfl, rfl⟩ rfl rfl rfl rfl rfl (by kernel_rfl) Tryd.func3 (by kernel_rfl)
    (of_decide_eq_true (by kernel_rfl)) (by unfold Func.isWrapper; first | (rw [if_pos (by decide +kernel)]; kernel_rfl) | (rw [if_neg (by decide +kernel)]; exact ⟨rfl, rfl⟩))
    (fun os started H enc _ F => by rw [OpenClaim.pre_eq_preRow]; exact lifted os started H enc F)
theorem tied : Claim7.holds Tryd.pinned (.plain (Rows.OpenSpec.upto Rows.eventChecksSpec)) Rows.eventChecksUptoCard :=
  Claim7.holds_tied_plain_at .later [] [.called] true (true, "4a11329c0252baad4e5255a07df7abb4e749b6f46593086b0067420dff1f9643") false
    over (fun _ h => by cases h) (by kernel_rfl) (fun _ h => by cases h) eventChecksUpto_row_tie rfl ⟨rfl, rfl⟩ (by kernel_rfl) rfl
    (fun f fn hf hfn => by
      obtain rfl : f = 3 := Option.some.inj ((show Tryd.prog.funcNamed "logtide/logtidelaw12.EventChecks" = some 3 by kernel_rfl).symm.trans hf) |>.symm
      obtain rfl : fn = Tryd.f3 := (Option.some.inj (Tryd.func3.symm.trans hfn)).symm
      exact ⟨by kernel_rfl, fun j t ht => by
        rw [Tryd.params3] at ht
        have hm : t ∈ [27, 28, 9] := by simpa using Array.mem_of_getElem? ht
        have hall : ([27, 28, 9].all fun u => !Tryd.prog.wantsStandIn u) = true := by kernel_rfl
        exact (show Tryd.prog.wantsStandIn t = false by simpa using List.all_eq_true.1 hall t hm)⟩)
    (by kernel_rfl)
end Go.Proofs.YtlpedofpnbggbaaDoor.eventChecksDone
namespace Go.Proofs.YtlpedofpnbggbaaDoor
/-- The statement. -/
theorem eventChecksProved : Rows.EventChecksUptoCardSaid := eventChecksDone.tied
end Go.Proofs.YtlpedofpnbggbaaDoor
