/- JournalBatch returns true at every input of bulk at most 1048576, and its input reads as it did. -/
import Derived.Test.YthaajlepgblimaaGreatDoorL5
import Derived.Test.YthaajlepgblimaaGreatDoorEngI
import Derived.Test.YthaajlepgblimaaGreatDoorQA
import Derived.Test.YthaajlepgblimaaGreatDoorRows
import Derived.WalkKit
import Derived.ProofKit
import Derived.OpenShut
import Derived.ShutString
import Derived.ChangeOld
import Derived.Below
import Derived.Test.YthaajlepgblimaaGreatDoorQB
import Derived.Test.YthaajlepgblimaaGreatDoorTie
import Derived.Test.YthaajlepgblimaaGreatDoorCards
import Derived.ChangeSame
import Derived.ChangeVars
import Derived.JoinedOf
import Derived.RowKitTokens
import Derived.LaidLaws
import Derived.LaidHandle
import Derived.LaidMore
import Derived.Stop.Joined
import Derived.SevenTiedAt
import Derived.Test.YthaajlepgblimaaGreatDoorQC
import Derived.Deep.DeepHandedRow
import Derived.Lib.LaidTab
namespace Go.Proofs.YthaajlepgblimaaGreatDoor.journalBatchDone
open Go.Eng Go.Pi Go.ChangeShapes Go.WideShapes Go.ChangeAt Go.RowKit
open Go.ChangeMaps (open_string shut_string)
set_option maxRecDepth 100000
set_option linter.unusedVariables false
set_option linter.unnecessarySimpa false
theorem a6T {α : Type} {f : α → List D} {P : α → Prop} {Q : List D → Prop} (hf : ∀ row, Q row → ∃ a, row = f a ∧ P a) : ∀ rows : List (List D), (∀ row ∈ rows, Q row) → ∃ l : List α, rows = l.map f ∧ ∀ a ∈ l, P a
 | [], _ => ⟨[], rfl, fun a h => by cases h⟩
 | row :: r, h => by
  obtain ⟨a, ha, hp⟩ := hf row (h row (by simp))
  obtain ⟨l, hl, hq⟩ := a6T hf r fun x hx => h x (by simp [hx])
  refine ⟨a :: l, by rw [ha, hl]; rfl, fun b hb => ?_⟩
  rcases d5u.1 hb with rfl | hb
  ·exact hp
  ·exact hq b hb
theorem b6o {m : Nat} {ds : List D} (h : ShG Tryz.prog (m + 2) 143 ds) : ∃ s : Lin, ds = a1p s := by
 have hc : Tryz.prog.cellsOf 143 = 3 := by kernel_rfl
 obtain ⟨h1, h2⟩ := a9O (P := Tryz.prog) (t := 143) (m := m + 1) Tryz.underlying143 h
 rw [hc] at h1
 have c3 : Tryz.prog.cellsOf 3 = 1 := by kernel_rfl
 have c9 : Tryz.prog.cellsOf 9 = 1 := by kernel_rfl
 match ds, h1 with
 | [d0, d1, d2], _ =>
  simp [c3, c9] at h2
  obtain ⟨e0, e1, e2⟩ := h2
  obtain ⟨z0, q0, w0⟩ := a3s Tryz.underlying3 e0
  obtain ⟨z1, q1, w1⟩ := a3s Tryz.underlying3 e1
  obtain ⟨s2, q2, w2⟩ := a6d Tryz.underlying9 e2
  simp at q0 q1 q2
  subst q0 q1 q2
  exact ⟨⟨z0, z1, s2⟩, rfl⟩
theorem b4p {m : Nat} {ds : List D} (h : ShG Tryz.prog (m + 2) 160 ds) : ∃ s : (Str × Str), ds = fld s ∧ s.1.length ≤ 9223372036854775807 := by
 have hc : Tryz.prog.cellsOf 160 = 2 := by kernel_rfl
 obtain ⟨h1, h2⟩ := a9O (P := Tryz.prog) (t := 160) (m := m + 1) Tryz.underlying160 h
 rw [hc] at h1
 have c9 : Tryz.prog.cellsOf 9 = 1 := by kernel_rfl
 match ds, h1 with
 | [d0, d1], _ =>
  simp [c9] at h2
  obtain ⟨e0, e1⟩ := h2
  obtain ⟨s0, q0, w0⟩ := a6d Tryz.underlying9 e0
  obtain ⟨s1, q1, w1⟩ := a6d Tryz.underlying9 e1
  simp at q0 q1
  subst q0 q1
  exact ⟨(s0, s1), rfl, w0⟩
theorem b4r {m : Nat} {x : D} (h : ShG Tryz.prog (m + 1) 26 [x]) (hf : ∀ row, ShG Tryz.prog m 143 row → ∃ a : Lin, row = a1p a ∧ True) : ∃ l : List Lin, SlOf 3 a1p l x ∧ l.length ≤ 9223372036854775807 ∧ ∀ a ∈ l, True := by
 have hc : Tryz.prog.cellsOf 143 = 3 := by kernel_rfl
 rcases a7b (P := Tryz.prog) (t := 26) (e := 143) (m := m) Tryz.underlying26 h with rfl | ⟨rows, rfl, hl, hr⟩
 ·exact ⟨[], SlOf.nils _ _, by simp, fun a h => by cases h⟩
 ·obtain ⟨l, rfl, hp⟩ := a6T (f := a1p) (P := fun a => True) (Q := ShG Tryz.prog m 143) hf rows hr
  rw [hc]
  exact ⟨l, SlOf.mk _ _ _ _, by simpa using hl, hp⟩
theorem b1C {m : Nat} {x : D} (h : ShG Tryz.prog (m + 1) 27 [x]) (hf : ∀ row, ShG Tryz.prog m 160 row → ∃ a : (Str × Str), row = fld a ∧ a.1.length ≤ 9223372036854775807) : ∃ l : List (Str × Str), SlOf 2 fld l x ∧ l.length ≤ 9223372036854775807 ∧ ∀ a ∈ l, a.1.length ≤ 9223372036854775807 := by
 have hc : Tryz.prog.cellsOf 160 = 2 := by kernel_rfl
 rcases a7b (P := Tryz.prog) (t := 27) (e := 160) (m := m) Tryz.underlying27 h with rfl | ⟨rows, rfl, hl, hr⟩
 ·exact ⟨[], SlOf.nils _ _, by simp, fun a h => by cases h⟩
 ·obtain ⟨l, rfl, hp⟩ := a6T (f := fld) (P := fun a => a.1.length ≤ 9223372036854775807) (Q := ShG Tryz.prog m 160) hf rows hr
  rw [hc]
  exact ⟨l, SlOf.mk _ _ _ _, by simpa using hl, hp⟩
theorem b4o {m : Nat} {ds : List D} (h : ShG Tryz.prog (m + 4) 29 ds) : ∃ e : Ev, ds = evr e ∧ NmB e := by
 have hc : Tryz.prog.cellsOf 29 = 10 := by kernel_rfl
 obtain ⟨h1, h2⟩ := a9O (P := Tryz.prog) (t := 29) (m := m + 3) Tryz.underlying29 h
 rw [hc] at h1
 have c3 : Tryz.prog.cellsOf 3 = 1 := by kernel_rfl
 have c9 : Tryz.prog.cellsOf 9 = 1 := by kernel_rfl
 have c26 : Tryz.prog.cellsOf 26 = 1 := by kernel_rfl
 have c27 : Tryz.prog.cellsOf 27 = 1 := by kernel_rfl
 match ds, h1 with
 | [d0, d1, d2, d3, d4, d5, d6, d7, d8, d9], _ =>
  simp [c3, c9, c26, c27] at h2
  obtain ⟨e0, e1, e2, e3, e4, e5, e6, e7, e8, e9⟩ := h2
  obtain ⟨v0, q0, _⟩ := a3s Tryz.underlying3 e0
  obtain ⟨v1, q1, _⟩ := a3s Tryz.underlying3 e1
  obtain ⟨v2, q2, _⟩ := a3s Tryz.underlying3 e2
  obtain ⟨v3, q3, _⟩ := a3s Tryz.underlying3 e3
  obtain ⟨v5, q5, _⟩ := a3s Tryz.underlying3 e5
  obtain ⟨v6, q6, _⟩ := a3s Tryz.underlying3 e6
  obtain ⟨v7, q7, _⟩ := a6d Tryz.underlying9 e7
  obtain ⟨v8, q8, _⟩ := a6d Tryz.underlying9 e8
  obtain ⟨ls, hls, hll, _⟩ := b4r e4 (fun row hr => by obtain ⟨s, hs⟩ := b6o hr; exact ⟨s, hs, trivial⟩)
  obtain ⟨fs, hfs, hfl, hfn⟩ := b1C e9 (fun row hr => b4p hr)
  simp at q0 q1 q2 q3 q5 q6 q7 q8
  subst q0 q1 q2 q3 q5 q6 q7 q8
  exact ⟨⟨v0, v1, v2, v3, ls, d4, v5, v6, v7, v8, fs, d9, hfs, hfl, hls, hll⟩, rfl, hfn⟩
theorem b6n {m : Nat} {ds : List D} (h : ShG Tryz.prog (m + 5) 31 ds) : ∃ i : It, ds = itr i ∧ NmB i.e := by
 have hc : Tryz.prog.cellsOf 31 = 11 := by kernel_rfl
 obtain ⟨h1, h2⟩ := a9O (P := Tryz.prog) (t := 31) (m := m + 4) Tryz.underlying31 h
 rw [hc] at h1
 have c1 : Tryz.prog.cellsOf 9 = 1 := by kernel_rfl
 have c2 : Tryz.prog.cellsOf 29 = 10 := by kernel_rfl
 match ds, h1 with
 | [d0, d1, d2, d3, d4, d5, d6, d7, d8, d9, d10], _ =>
  simp [c1, c2] at h2
  obtain ⟨e0, e1⟩ := h2
  obtain ⟨s, q, _⟩ := a6d Tryz.underlying9 e0
  obtain ⟨e, he, hn⟩ := b4o e1
  simp at q
  subst q
  exact ⟨⟨s, e⟩, by rw [itr, ← he], hn⟩
theorem b4q {m : Nat} {x : D} (h : ShG Tryz.prog (m + 1) 22 [x]) (hf : ∀ row, ShG Tryz.prog m 31 row → ∃ a : It, row = itr a ∧ NmB a.e) : ∃ l : List It, SlOf 11 itr l x ∧ l.length ≤ 9223372036854775807 ∧ ∀ a ∈ l, NmB a.e := by
 have hc : Tryz.prog.cellsOf 31 = 11 := by kernel_rfl
 rcases a7b (P := Tryz.prog) (t := 22) (e := 31) (m := m) Tryz.underlying22 h with rfl | ⟨rows, rfl, hl, hr⟩
 ·exact ⟨[], SlOf.nils _ _, by simp, fun a h => by cases h⟩
 ·obtain ⟨l, rfl, hp⟩ := a6T (f := itr) (P := fun a => NmB a.e) (Q := ShG Tryz.prog m 31) hf rows hr
  rw [hc]
  exact ⟨l, SlOf.mk _ _ _ _, by simpa using hl, hp⟩
theorem b4n {m : Nat} {ds : List D} (h : ShG Tryz.prog (m + 7) 24 ds) : ∃ b : Bat, ds = a6N b ∧ b.its.length ≤ 9223372036854775807 ∧ ∀ i ∈ b.its, NmB i.e := by
 have hc : Tryz.prog.cellsOf 24 = 3 := by kernel_rfl
 obtain ⟨h1, h2⟩ := a9O (P := Tryz.prog) (t := 24) (m := m + 6) Tryz.underlying24 h
 rw [hc] at h1
 have c1 : Tryz.prog.cellsOf 3 = 1 := by kernel_rfl
 have c2 : Tryz.prog.cellsOf 22 = 1 := by kernel_rfl
 match ds, h1 with
 | [d0, d1, d2], _ =>
  simp [c1, c2] at h2
  obtain ⟨e0, e1, e2⟩ := h2
  obtain ⟨v0, q0, _⟩ := a3s Tryz.underlying3 e0
  obtain ⟨v1, q1, _⟩ := a3s Tryz.underlying3 e1
  obtain ⟨l, hl, hll, hln⟩ := b4q e2 (fun row hr => b6n hr)
  simp at q0 q1
  subst q0 q1
  exact ⟨⟨v0, v1, l, d2, hl⟩, rfl, hll, hln⟩
theorem own : ownKnob Tryz.prog.godebug = none := by kernel_rfl
theorem b1F : laidOutB Tryz.prog = true := by kernel_rfl
theorem d3V : Tryz.prog.globalNamed "logtide/ascii.kinds" = some 0 := by kernel_rfl
theorem gty : (Tryz.prog.globals[0]?).map (·.type) = some 194 := by kernel_rfl
theorem c1S : Rows.laid_logtide_ascii_kinds (H := Unit) = .agg (kinZ.map fun z => .lit (.int .u8 z)) := by kernel_rfl
theorem c9U {W : World} (h : laidMetH Tryz.prog Rows.journalBatchUptoRow.laid W) : GlOK (Gh.all W) X.gl := fun i d hd => by
 have e := c4Z (P := Tryz.prog) (zs := kinZ) (k := .u8) (laid := Rows.journalBatchUptoRow.laid) d3V gty Tryz.underlying194 Tryz.underlying5 (by kernel_rfl) (by kernel_rfl) (by rw [← c1S]; rfl) h
 have hd : (if i = 0 then some (D.fptr kin) else none) = some d := hd
 split at hd
 ·rename_i hi
  subst hi
  injection hd with hd
  subst hd
  exact e
 ·cases hd
noncomputable def a5T (os : Os) : World :=
 let w0 := World.holding Tryz.prog os ⟨#[], #[], []⟩
 { w0 with heap := w0.heap.modify 0 fun
     | .cells _ t frozen => .cells (kinZ.map fun z => Value.int .u8 z).toArray t frozen
     | o => o }
theorem b9m (os : Os) (args : Array Value) : laidMetH Tryz.prog Rows.journalBatchUptoRow.laid ((a5T os).forCall (fun _ _ => 0) ⟨#[], args, []⟩).memory :=
 laidMetH_of_parts (laidMet_of_run' 8 (by kernel_rfl) (by kernel_rfl)) (by kernel_rfl)
theorem c5C {H : Type} (d : DataW H) : 1 ≤ Rows.uptoBulk d := by
 cases d with
 | lit l => cases l <;> simp [Rows.uptoBulk]
 | nil => simp [Rows.uptoBulk]
 | ptr d => simp [Rows.uptoBulk]
 | slice elems spare => simp [Rows.uptoBulk]
 | agg parts => simp [Rows.uptoBulk]
 | iface t d => simp [Rows.uptoBulk]
 | map entries => simp [Rows.uptoBulk]
 | held h => simp [Rows.uptoBulk]
theorem length_le {H : Type} (l : List (DataW H)) : l.length ≤ Rows.uptoBulkAll l := by
 induction l with
 | nil => simp [Rows.uptoBulkAll]
 | cons x r ih => have := c5C x; simp only [Rows.uptoBulkAll, d5q]; omega
theorem b6X {H : Type} : ∀ (l : List (DataW H)), ∀ d ∈ l, Rows.uptoBulk d ≤ Rows.uptoBulkAll l
 | [], d, h => by cases h
 | x :: r, d, h => by
  simp only [Rows.uptoBulkAll]
  rcases d5u.1 h with rfl | h
  ·omega
  ·have := b6X r d h; omega
theorem c1p {H : Type} : Bulk (H := H) Rows.uptoBulk where
 str := fun s => by simp [Rows.uptoBulk]
 sl := fun es sp e he => by have := b6X es e he; simp only [Rows.uptoBulk]; omega
 ag := fun ps p hp => by have := b6X ps p hp; simp only [Rows.uptoBulk]; omega
 len := fun es sp => by have := length_le es; simp only [Rows.uptoBulk]; omega
theorem d2u {L : Nat} {i : It} (h : ∀ x ∈ itr i, StrLe L x) : ∀ l ∈ i.e.ls, l.txt.length ≤ L := fun l hl =>
 ((StrLe.of i.e.hld (h i.e.ld (by simp [itr, evr]))).2 l hl (.str l.txt) (by simp [a1p])).s
theorem d0I {L : Nat} {i : It} (h : ∀ x ∈ itr i, StrLe L x) : SmI L i := by
 obtain ⟨l1, l2⟩ := StrLe.of i.e.hld (h i.e.ld (by simp [itr, evr]))
 obtain ⟨k1, k2⟩ := StrLe.of i.e.hfd (h i.e.fd (by simp [itr, evr]))
 exact ⟨(h (.str i.r) (by simp [itr])).s, (h (.str i.e.s7) (by simp [itr, evr])).s, (h (.str i.e.s8) (by simp [itr, evr])).s, l1, k1, fun l hl => (l2 l hl (.str l.txt) (by simp [a1p])).s, fun p hp => ⟨(k2 p hp (.str p.1) (by simp [fld])).s, (k2 p hp (.str p.2) (by simp [fld])).s⟩⟩
theorem c0a {L : Nat} {b : Bat} (h : ∀ x ∈ a6N b, StrLe L x) : b.its.length ≤ L ∧ ∀ i ∈ b.its, SmI L i := by
 obtain ⟨h1, h2⟩ := StrLe.of b.hd (h b.d (by simp [a6N]))
 exact ⟨h1, fun i hi => d0I (h2 i hi)⟩
theorem SmI.mono {L M : Nat} {i : It} (h : SmI L i) (hl : L ≤ M) : SmI M i := ⟨Nat.le_trans h.r hl, Nat.le_trans h.t7 hl, Nat.le_trans h.t8 hl, Nat.le_trans h.ls hl, Nat.le_trans h.fs hl, fun l hx => Nat.le_trans (h.tx l hx) hl, fun p hp => ⟨Nat.le_trans (h.nv p hp).1 hl, Nat.le_trans (h.nv p hp).2 hl⟩⟩
theorem b9n (os : Os) : laidMet Tryz.prog Rows.journalBatchUptoRow.laid ((a5T os).forCall (fun _ _ => 0) ⟨#[], #[.agg #[.int .i64 0, .int .i64 0, .slice none 0 0], .slice none 0 0, .slice none 0 0, .int .i64 0, .int .u8 0], []⟩).memory :=
 laidMet_of_run' 8 (by kernel_rfl) (by kernel_rfl)
theorem reads (os : Os) {H : Type} (enc : TypeId × Value → H) : ∃ places, DataW.whole enc Tryz.prog ((a5T os).forCall (fun _ _ => 0) ⟨#[], #[.agg #[.int .i64 0, .int .i64 0, .slice none 0 0], .slice none 0 0, .slice none 0 0, .int .i64 0, .int .u8 0], []⟩).memory Tryz.f3.params.toList Rows.journalBatchSpec.vars false (#[.agg #[.int .i64 0, .int .i64 0, .slice none 0 0], .slice none 0 0, .slice none 0 0, .int .i64 0, .int .u8 0] : Array Value).toList 8 = some ([.agg [.lit (.int .i64 0), .lit (.int .i64 0), .nil], .nil, .nil, .lit (.int .i64 0), .lit (.int .u8 0)], [], places) :=
 ⟨[], by kernel_rfl⟩
set_option maxRecDepth 100000 in
theorem lifted (os : Os) (started : os.Started) (H : Type) (enc : TypeId × Value → H) (F : Stop.Interp) :
  ReturnsInHanded {} Tryz.checked os 3 .any ((Rows.OpenSpec.upto Rows.journalBatchSpec).preRow enc Tryz.prog Tryz.f3 Rows.journalBatchUptoRow.domain false Rows.journalBatchUptoRow.laid) (((Rows.OpenSpec.upto Rows.journalBatchSpec).at F).post enc Tryz.prog Tryz.f3 false true false false) := by
 obtain ⟨places, hx⟩ := reads os enc
 refine returnsInHanded_of_row (C := Tryz.checked) (s := Rows.OpenSpec.upto Rows.journalBatchSpec) own started (by kernel_rfl) Tryz.func3
  (witness_row_at (enc := enc) (C := Tryz.checked) false (a5T os) #[.agg #[.int .i64 0, .int .i64 0, .slice none 0 0], .slice none 0 0, .slice none 0 0, .int .i64 0, .int .u8 0] rfl (by kernel_rfl) (by kernel_rfl) (by kernel_rfl)
   (OpenSpec.preRow_of_cond 8 hx (by kernel_rfl) (fun k hk => by cases hk; kernel_rfl) (by kernel_rfl) (b9n os))) ?_
 intro W base args ds gs before hval0 hW _ hcond _ hL _ _
 have hval : ∀ (j : Nat) t v, Tryz.f3.params[j]? = some t → args[j]? = some v → Value.okWide Tryz.prog W .any base t v := hval0
 have hW' := hW
 obtain ⟨p, q, hA0, hV, rfl, hfz, hnd⟩ := hW
 have hA : DataW.TrodAll enc Tryz.prog W 0 (fun _ => true) true Tryz.f3.params.toList args.toList ds p := hA0
 rw [Tryz.params3] at hA hval
 obtain ⟨v0, vs0, d0, ds0, p0, q0, hargs, rfl, rfl, h0, r0⟩ := trodAll_cons hA
 obtain ⟨v1, vs1, d1, ds1, p1, q1, rfl, rfl, rfl, h1, r1⟩ := trodAll_cons r0
 obtain ⟨v2, vs2, d2, ds2, p2, q2, rfl, rfl, rfl, h2, r2⟩ := trodAll_cons r1
 obtain ⟨v3, vs3, d3, ds3, p3, q3, rfl, rfl, rfl, h3, r3⟩ := trodAll_cons r2
 obtain ⟨v4, vs4, d4, ds4, p4, q4, rfl, rfl, rfl, h4, r4⟩ := trodAll_cons r3
 obtain ⟨rfl, rfl, rfl⟩ := trodAll_nil r4
 obtain rfl : args = #[v0, v1, v2, v3, v4] := by cases args; simp_all
 obtain ⟨rfl, rfl⟩ := trodVars_none hV
 obtain ⟨c0, rfl, cz0⟩ := okWide_struct Tryz.underlying24 (hval 0 24 v0 rfl rfl)
 have k0 := h0
 have lt0 : ∀ x ∈ p0, x.block < W.heap.size := by obtain ⟨m, hm⟩ := k0; exact DataW.trod_lt m _ _ _ hm
 obtain ⟨y0, rp0, sh0, le0⟩ := b6p c1p 7 (by kernel_rfl) h0
 obtain ⟨s0, rfl, sn0⟩ := b4n sh0
 obtain ⟨a1, len1, cap1, rfl⟩ := okWide_slice Tryz.underlying25 (hval 1 25 v1 rfl rfl)
 have k1 := h1
 have lt1 : ∀ x ∈ p1, x.block < W.heap.size := by obtain ⟨m, hm⟩ := k1; exact DataW.trod_lt m _ _ _ hm
 obtain ⟨zs1, x1, rp1, gv1, zl1, zw1, zd1⟩ := a7w Tryz.underlying25 Tryz.underlying5 (by kernel_rfl) h1
 obtain ⟨a2, len2, cap2, rfl⟩ := okWide_slice Tryz.underlying25 (hval 2 25 v2 rfl rfl)
 have k2 := h2
 have lt2 : ∀ x ∈ p2, x.block < W.heap.size := by obtain ⟨m, hm⟩ := k2; exact DataW.trod_lt m _ _ _ hm
 obtain ⟨zs2, x2, rp2, gv2, zl2, zw2, zd2⟩ := a7w Tryz.underlying25 Tryz.underlying5 (by kernel_rfl) h2
 obtain ⟨a3, rfl, rfl, rfl, w3⟩ := open_int Tryz.underlying3 (hval 3 3 v3 rfl rfl) h3
 obtain ⟨a4, rfl, rfl, rfl, w4⟩ := open_int Tryz.underlying5 (hval 4 5 v4 rfl rfl) h4
 have zb1 : zs1.length + 1 ≤ Rows.uptoBulk d1 := by
  rcases zd1 with ⟨rfl, rfl⟩ | ⟨sp, rfl⟩
  ·simp [Rows.uptoBulk]
  ·have := length_le (lits (H := H) .u8 zs1)
   simp only [Rows.uptoBulk]
   simp [lits] at this ⊢
   omega
 have zb2 : zs2.length + 1 ≤ Rows.uptoBulk d2 := by
  rcases zd2 with ⟨rfl, rfl⟩ | ⟨sp, rfl⟩
  ·simp [Rows.uptoBulk]
  ·have := length_le (lits (H := H) .u8 zs2)
   simp only [Rows.uptoBulk]
   simp [lits] at this ⊢
   omega
 have hk := of_decide_eq_true (hcond _ rfl)
 simp only [List.append_nil, Rows.uptoBulkAll] at hk
 clear hA0 hval0
 obtain ⟨hx, hr⟩ := c1U s0 zs1 x1 zs2 x2 a3 a4 (Nat.le_trans (c0a le0).1 (by omega)) (fun i hi => SmI.mono ((c0a le0).2 i hi) (by omega)) gv1 (fun z h => b8j (zw1 z h)) (by omega) gv2 (fun z h => b8j (zw2 z h))
 refine (b7D d2F fk3.enter hr (c9U hL) (.cons rp0 (.cons rp1 (.cons rp2 (.cons (.int _ _) (.cons (.int _ _) .nil))))) (fun g v hv => b9w hv)).mono fun e W' ⟨he, bel⟩ => ?_
 subst he
 exact ⟨_, rfl, _, _, _, [], _, [], hW', trodAll_mk1 (shut_bool Tryz.underlying4 _), (trodAll_cons_mk (Below.trod b1F (by kernel_rfl) (of_decide_eq_true (by kernel_rfl)) k0 bel lt0) (trodAll_cons_mk (Below.trod b1F (by kernel_rfl) (of_decide_eq_true (by kernel_rfl)) k1 bel lt1) (trodAll_cons_mk (Below.trod b1F (by kernel_rfl) (of_decide_eq_true (by kernel_rfl)) k2 bel lt2) (trodAll_cons_mk (shut_int Tryz.underlying3 w3) (trodAll_cons_mk (shut_int Tryz.underlying5 w4) trodAll_mk0))))), rfl, bel.frame _, fun h => by cases h⟩
theorem over : Rows.journalBatchUptoRow.holds Tryz.pinned (Rows.OpenSpec.upto Rows.journalBatchSpec) :=
 OpenClaim.holds_of_cond 3 Tryz.f3 rfl rfl rfl rfl rfl rfl rfl ⟨rfl, rfl, rfl, rfl, rfl⟩ rfl rfl rfl rfl rfl (by kernel_rfl) Tryz.func3 (by kernel_rfl)
  (of_decide_eq_true (by kernel_rfl)) (by unfold Func.isWrapper; first | (rw [if_pos (by decide +kernel)]; kernel_rfl) | (rw [if_neg (by decide +kernel)]; exact ⟨rfl, rfl⟩))
  (fun os started H enc _ F => by rw [OpenClaim.pre_eq_preRow]; exact lifted os started H enc F)
theorem tied : Claim7.holds Tryz.pinned (.plain (Rows.OpenSpec.upto Rows.journalBatchSpec)) Rows.journalBatchUptoCard :=
 Claim7.holds_tied_plain_at .later [] [.called] true (true, "122c3139be13758cd7ce74019a0e1fc59eac6549f0eeb33526c23e8c89a5fac7") false
  over (fun _ h => by cases h) (by kernel_rfl) (fun _ h => by cases h) journalBatchUpto_row_tie rfl ⟨rfl, rfl⟩ (by kernel_rfl) rfl
  (fun f fn hf hfn => by
   obtain rfl : f = 3 := Option.some.inj ((show Tryz.prog.funcNamed "logtide/logtidelaw29.JournalBatch" = some 3 by kernel_rfl).symm.trans hf) |>.symm
   obtain rfl : fn = Tryz.f3 := (Option.some.inj (Tryz.func3.symm.trans hfn)).symm
   exact ⟨by kernel_rfl, fun j t ht => by
    rw [Tryz.params3] at ht
    have hm : t ∈ [24, 25, 3, 5] := by simpa using Array.mem_of_getElem? ht
    have hall : ([24, 25, 3, 5].all fun u => !Tryz.prog.wantsStandIn u) = true := by kernel_rfl
    exact (show Tryz.prog.wantsStandIn t = false by simpa using List.all_eq_true.1 hall t hm)⟩)
  (by kernel_rfl)
end Go.Proofs.YthaajlepgblimaaGreatDoor.journalBatchDone
namespace Go.Proofs.YthaajlepgblimaaGreatDoor
theorem journalBatchProved : Rows.JournalBatchUptoCardSaid := journalBatchDone.tied
end Go.Proofs.YthaajlepgblimaaGreatDoor
