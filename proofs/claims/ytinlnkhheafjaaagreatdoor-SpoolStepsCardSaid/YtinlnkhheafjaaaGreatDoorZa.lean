/- SpoolSteps returns true at every input, and its input reads as0 it did. -/
import Derived.Test.YtinlnkhheafjaaaGreatDoorM5
import Derived.Test.YtinlnkhheafjaaaGreatDoorM6
import Derived.Test.YtinlnkhheafjaaaGreatDoorM3
import Derived.Test.YtinlnkhheafjaaaGreatDoorRows
import Derived.WalkKit
import Derived.ProofKit
import Derived.OpenShut
import Derived.ShutString
import Derived.ChangeOld
import Derived.Below
import Derived.Test.YtinlnkhheafjaaaGreatDoorTie
import Derived.Test.YtinlnkhheafjaaaGreatDoorCards
import Derived.ChangeSame
import Derived.ChangeVars
import Derived.JoinedOf
import Derived.RowKitTokens
import Derived.LaidLaws
import Derived.LaidHandle
import Derived.LaidMore
import Derived.Stop.Joined
import Derived.SevenTiedAt
namespace Go.Eng
abbrev CQ := @trodAll_cons_mk
end Go.Eng
namespace Go.Proofs.YtinlnkhheafjaaaGreatDoor.spoolStepsDone
open Go.Eng Go.Pi Go.ChangeShapes Go.WideShapes Go.ChangeAt Go.RowKit
open Go.ChangeMaps (open_string shut_string)
set_option maxRecDepth 100000
set_option linter.unusedVariables false
set_option linter.unnecessarySimpa false
theorem Ci {c : Type} {f : c → List D} {P : c → Prop} {Q : List D → Prop} (d : ∀ row, Q row → ∃ a, row = f a ∧ P a) : ∀ rows : List (List D), (∀ row ∈ rows, Q row) → ∃ l : List c, rows = l.map f ∧ ∀ a ∈ l, P a
 | [], _ => ⟨[], rfl, fun a h => by cases h⟩
 | row :: r, h => by
  obtain ⟨a, g, j⟩ := d row (h row (by simp))
  obtain ⟨l, i, k⟩ := Ci d r fun n m => h n (by simp [m])
  refine ⟨a :: l, by rw [g, i]; rfl, fun e b => ?_⟩
  rcases dW.1 b with rfl | b
  ·exact j
  ·exact k e b
theorem Qq {m : Nat} {ds : List D} (h : gG Tryz.prog (m + 2) 55 ds) : ∃ s : dJ, ds = bC s := by
 have l : Tryz.prog.cellsOf 55 = 3 := by kernel_rfl
 obtain ⟨a, b⟩ := vn (P := Tryz.prog) (t := 55) (m := m + 1) Tryz.underlying55 h
 rw [l] at a
 have f : Tryz.prog.cellsOf 3 = 1 := by kernel_rfl
 have g : Tryz.prog.cellsOf 9 = 1 := by kernel_rfl
 match ds, a with
 | [q, r, u], _ =>
  simp [f, g] at b
  obtain ⟨i, j, k⟩ := b
  obtain ⟨o, c, v⟩ := oE Tryz.underlying3 i
  obtain ⟨p, d, w⟩ := oE Tryz.underlying3 j
  obtain ⟨n, e, x⟩ := q5 Tryz.underlying9 k
  simp at c d e
  subst c d e
  exact ⟨⟨o, p, n⟩, rfl⟩
theorem Qn {m : Nat} {ds : List D} (h : gG Tryz.prog (m + 2) 69 ds) : ∃ s : (aD × aD), ds = aN s ∧ s.1.length ≤ 9223372036854775807 := by
 have i : Tryz.prog.cellsOf 69 = 2 := by kernel_rfl
 obtain ⟨a, b⟩ := vn (P := Tryz.prog) (t := 69) (m := m + 1) Tryz.underlying69 h
 rw [i] at a
 have e : Tryz.prog.cellsOf 9 = 1 := by kernel_rfl
 match ds, a with
 | [n, o], _ =>
  simp [e] at b
  obtain ⟨f, g⟩ := b
  obtain ⟨j, c, l⟩ := q5 Tryz.underlying9 f
  obtain ⟨k, d, p⟩ := q5 Tryz.underlying9 g
  simp at c d
  subst c d
  exact ⟨(j, k), rfl, l⟩
theorem Qr {m : Nat} {x : D} (h : gG Tryz.prog (m + 1) 23 [x]) (c : ∀ row, gG Tryz.prog m 55 row → ∃ a : dJ, row = bC a ∧ True) : ∃ l : List dJ, aR 3 bC l x ∧ l.length ≤ 9223372036854775807 ∧ ∀ a ∈ l, True := by
 have b : Tryz.prog.cellsOf 55 = 3 := by kernel_rfl
 rcases Ff (P := Tryz.prog) (t := 23) (e := 55) (m := m) Tryz.underlying23 h with rfl | ⟨j, rfl, d, i⟩
 ·exact ⟨[], aR.aB _ _, by simp, fun a h => by cases h⟩
 ·obtain ⟨l, rfl, g⟩ := Ci (f := bC) (P := fun a => True) (Q := gG Tryz.prog m 55) c j i
  rw [b]
  exact ⟨l, aR.mk _ _ _ _, by simpa using d, g⟩
theorem Qo {m : Nat} {x : D} (h : gG Tryz.prog (m + 1) 24 [x]) (c : ∀ row, gG Tryz.prog m 69 row → ∃ a : (aD × aD), row = aN a ∧ a.1.length ≤ 9223372036854775807) : ∃ l : List (aD × aD), aR 2 aN l x ∧ l.length ≤ 9223372036854775807 ∧ ∀ a ∈ l, a.1.length ≤ 9223372036854775807 := by
 have b : Tryz.prog.cellsOf 69 = 2 := by kernel_rfl
 rcases Ff (P := Tryz.prog) (t := 24) (e := 69) (m := m) Tryz.underlying24 h with rfl | ⟨j, rfl, d, i⟩
 ·exact ⟨[], aR.aB _ _, by simp, fun a h => by cases h⟩
 ·obtain ⟨l, rfl, g⟩ := Ci (f := aN) (P := fun a => a.1.length ≤ 9223372036854775807) (Q := gG Tryz.prog m 69) c j i
  rw [b]
  exact ⟨l, aR.mk _ _ _ _, by simpa using d, g⟩
theorem Qm {m : Nat} {ds : List D} (h : gG Tryz.prog (m + 4) 26 ds) : ∃ e : Ev, ds = bV e ∧ lz e := by
 have H : Tryz.prog.cellsOf 26 = 10 := by kernel_rfl
 obtain ⟨b, c⟩ := vn (P := Tryz.prog) (t := 26) (m := m + 3) Tryz.underlying26 h
 rw [H] at b
 have q : Tryz.prog.cellsOf 3 = 1 := by kernel_rfl
 have r : Tryz.prog.cellsOf 9 = 1 := by kernel_rfl
 have o : Tryz.prog.cellsOf 23 = 1 := by kernel_rfl
 have p : Tryz.prog.cellsOf 24 = 1 := by kernel_rfl
 match ds, b with
 | [ai, aj, ak, al, s, am, an, ao, ap, u], _ =>
  simp [q, r, o, p] at c
  obtain ⟨v, w, x, y, z, A, B, C, E, F⟩ := c
  obtain ⟨aa, d, _⟩ := oE Tryz.underlying3 v
  obtain ⟨ab, f, _⟩ := oE Tryz.underlying3 w
  obtain ⟨ac, g, _⟩ := oE Tryz.underlying3 x
  obtain ⟨ad, i, _⟩ := oE Tryz.underlying3 y
  obtain ⟨ae, j, _⟩ := oE Tryz.underlying3 A
  obtain ⟨af, k, _⟩ := oE Tryz.underlying3 B
  obtain ⟨ag, l, _⟩ := q5 Tryz.underlying9 C
  obtain ⟨ah, n, _⟩ := q5 Tryz.underlying9 E
  obtain ⟨R, N, M, _⟩ := Qr z (fun T a => by obtain ⟨X, Q⟩ := Qq a; exact ⟨X, Q, trivial⟩)
  obtain ⟨G, L, I, K⟩ := Qo F (fun T a => Qn a)
  simp at d f g i j k l n
  subst d f g i j k l n
  exact ⟨⟨aa, ab, ac, ad, R, s, ae, af, ag, ah, G, u, L, I, N, M⟩, rfl, K⟩
theorem Qp {m : Nat} {ds : List D} (h : gG Tryz.prog (m + 5) 28 ds) : ∃ i : It, ds = aE i ∧ lz i.e := by
 have k : Tryz.prog.cellsOf 28 = 11 := by kernel_rfl
 obtain ⟨a, b⟩ := vn (P := Tryz.prog) (t := 28) (m := m + 4) Tryz.underlying28 h
 rw [k] at a
 have d : Tryz.prog.cellsOf 9 = 1 := by kernel_rfl
 have e : Tryz.prog.cellsOf 26 = 10 := by kernel_rfl
 match ds, a with
 | [p, q, s, u, v, w, x, y, z, A, r], _ =>
  simp [d, e] at b
  obtain ⟨g, j⟩ := b
  obtain ⟨o, c, _⟩ := q5 Tryz.underlying9 g
  obtain ⟨f, l, n⟩ := Qm j
  simp at c
  subst c
  exact ⟨⟨o, f⟩, by rw [aE, ← l], n⟩
theorem own : ownKnob Tryz.prog.godebug = none := by kernel_rfl
theorem Hv : laidOutB Tryz.prog = true := by kernel_rfl
theorem QG : Tryz.prog.globalNamed "logtide/ascii.kinds" = some 0 := by kernel_rfl
theorem QF : (Tryz.prog.globals[0]?).map (·.type) = some 157 := by kernel_rfl
theorem RO : Rows.laid_logtide_ascii_kinds (H := Unit) = .agg (n9.map fun a => .lit (.int .u8 a)) := by kernel_rfl
theorem QC {b : World} (h : laidMetH Tryz.prog Rows.spoolStepsRow.laid b) : fP (Gh.all b) X.gl := fun f c a => by
 have d := QB (P := Tryz.prog) (zs := n9) (k := .u8) (laid := Rows.spoolStepsRow.laid) QG QF Tryz.underlying157 Tryz.underlying5 (by kernel_rfl) (by kernel_rfl) (by rw [← RO]; rfl) h
 have a : (if f = 0 then some (D.aI mg) else none) = some c := a
 split at a
 ·rename_i e
  subst e
  injection a with a
  subst a
  exact d
 ·cases a
noncomputable def Hw (os : Os) : World :=
 let a := World.holding Tryz.prog os ⟨#[], #[], []⟩
 { a with heap := a.heap.modify 0 fun
     | .cells _ c frozen => .cells (n9.map fun d => Value.int .u8 d).toArray c frozen
     | b => b }
theorem RN (os : Os) (args : Array Value) : laidMetH Tryz.prog Rows.spoolStepsRow.laid ((Hw os).forCall (fun _ _ => 0) ⟨#[], args, []⟩).memory :=
 laidMetH_of_parts (laidMet_of_run' 8 (by kernel_rfl) (by kernel_rfl)) (by kernel_rfl)
set_option maxRecDepth 100000 in
theorem lifted (os : Os) (aj : os.Started) (H : Type) (enc : TypeId × Value → H) :
  ReturnsInHanded {} Tryz.checked os 3 .any (fun w args => (Rows.spoolStepsSpec.pre enc Tryz.prog Tryz.f3 [] false w args ∧ laidMetH Tryz.prog Rows.spoolStepsRow.laid w) ∧ sizedMet enc Tryz.prog Tryz.f3 (OpenSpec.ofChange Rows.spoolStepsSpec) false w args) (Rows.spoolStepsSpec.post enc Tryz.prog Tryz.f3 false true false false) := by
 refine returnsInHanded_of_change_and (C := Tryz.checked) (X := fun w _ => laidMetH Tryz.prog Rows.spoolStepsRow.laid w) (fun _ _ _ M a => a.of_heap M) own aj (by kernel_rfl) Tryz.func3
  (ChangeSpec.witness_at (enc := enc) (C := Tryz.checked) (os := os) (X := fun w _ => laidMetH Tryz.prog Rows.spoolStepsRow.laid w) false (Hw os) #[.slice none 0 0, .int .i64 0, .int .i64 0, .agg #[.string ⟨#[]⟩, .int .i64 0, .int .i64 0, .int .i64 0, .int .i64 0, .slice none 0 0, .int .i64 0, .int .i64 0, .string ⟨#[]⟩, .string ⟨#[]⟩, .slice none 0 0]] 8 rfl (by kernel_rfl) (by kernel_rfl) (by kernel_rfl) (by kernel_rfl) (by kernel_rfl) (RN os _)) ?_
 intro c A args B a8 au n m ba bb G _
 have b : ∀ (o : Nat) r g, Tryz.f3.params[o]? = some r → args[o]? = some g → Value.okWide Tryz.prog c .any A r g := n
 have K := m
 obtain ⟨T, bi, l, I, rfl, bc, bd⟩ := m
 have k : DataW.TrodAll enc Tryz.prog c 0 (fun _ => true) true Tryz.f3.params.toList args.toList B T := l
 rw [Tryz.params3] at k b
 obtain ⟨s, bn, ay, a2, W, bj, a9, rfl, rfl, i, ab⟩ := trodAll_cons k
 obtain ⟨t, bo, az, a3, bg, bk, rfl, rfl, rfl, E, r1⟩ := trodAll_cons ab
 obtain ⟨u, bp, a0, a4, bh, bl, rfl, rfl, rfl, F, ac⟩ := trodAll_cons r1
 obtain ⟨v, bq, a1, a5, aa, bm, rfl, rfl, rfl, j, ad⟩ := trodAll_cons ac
 obtain ⟨rfl, rfl, rfl⟩ := trodAll_nil ad
 obtain rfl : args = #[s, t, u, v] := by cases args; simp_all
 obtain ⟨rfl, rfl⟩ := trodVars_none I
 obtain ⟨ar, bf, aw, rfl⟩ := okWide_slice Tryz.underlying22 (b 0 22 s rfl rfl)
 have p := i
 have Q : ∀ h ∈ W, h.block < c.heap.size := by obtain ⟨f, e⟩ := p; exact DataW.trod_lt f _ _ _ e
 obtain ⟨ao, al, ae, D, an, ap⟩ := Qy Tryz.underlying22 Tryz.underlying5 (by kernel_rfl) i
 obtain ⟨y, rfl, rfl, rfl, x⟩ := open_int Tryz.underlying3 (b 1 3 t rfl rfl) E
 obtain ⟨z, rfl, rfl, rfl, ak⟩ := open_int Tryz.underlying3 (b 2 3 u rfl rfl) F
 obtain ⟨av, rfl, ax⟩ := okWide_struct Tryz.underlying28 (b 3 28 v rfl rfl)
 have q := j
 have R : ∀ h ∈ aa, h.block < c.heap.size := by obtain ⟨f, e⟩ := q; exact DataW.trod_lt f _ _ _ e
 obtain ⟨br, af, ah⟩ := Qs 5 (by kernel_rfl) j
 obtain ⟨ag, rfl, ai⟩ := Qp ah
 clear l n
 obtain ⟨be, N⟩ := RV ao al y z ag D (fun am a => Wy (ap am a)) an (Rb x) ai
 refine (Ur KN GP.enter N (QC G) (.cons ae (.cons (.int _ _) (.cons (.int _ _) (.cons af .nil)))) (fun a7 g P => Uj P)).mono fun a6 aq ⟨L, d⟩ => ?_
 subst L
 exact ⟨_, rfl, _, _, _, [], _, [], K, trodAll_mk1 (shut_bool Tryz.underlying4 _), (CQ (Below.trod Hv (by kernel_rfl) (BU (by kernel_rfl)) p d Q) (CQ (shut_int Tryz.underlying3 x) (CQ (shut_int Tryz.underlying3 ak) (CQ (Below.trod Hv (by kernel_rfl) (BU (by kernel_rfl)) q d R) trodAll_mk0)))), rfl, d.frame _, fun a => by cases a⟩
theorem over : Rows.spoolStepsRow.holds Tryz.pinned (OpenSpec.ofChange Rows.spoolStepsSpec) :=
 OpenClaim.holds_of_wide 3 Tryz.f3 rfl rfl rfl rfl rfl rfl rfl ⟨rfl, rfl, rfl, rfl, rfl⟩ rfl rfl rfl rfl rfl (by kernel_rfl) Tryz.func3 (by kernel_rfl)
  (BU (by kernel_rfl)) (by unfold Func.isWrapper; first | (rw [bE (by decide +kernel)]; kernel_rfl) | (rw [cH (by decide +kernel)]; exact ⟨rfl, rfl⟩))
  (fun c d a b _ => lifted c d a b)
theorem tied : Claim7.holds Tryz.pinned (.plain (OpenSpec.ofChange Rows.spoolStepsSpec)) Rows.spoolStepsCard :=
 Claim7.holds_tied_plain_at .later [] [.called] true (true, "3894e61233eb9a9e37dba727e8f7ece842a9b28c2ee82c4d85e433bebc396b39") true
  over (fun _ a => by cases a) (by kernel_rfl) (fun _ a => by cases a) spoolSteps_row_tie rfl ⟨rfl, rfl⟩ (by kernel_rfl) rfl
  (fun d e g h => by
   obtain rfl : d = 3 := yo ((show Tryz.prog.funcNamed "logtide/logtidelaw19.SpoolSteps" = some 3 by kernel_rfl).symm.trans g) |>.symm
   obtain rfl : e = Tryz.f3 := (yo (Tryz.func3.symm.trans h)).symm
   exact ⟨by kernel_rfl, fun k b c => by
    rw [Tryz.params3] at c
    have i : b ∈ [22, 3, 28] := by simpa using Array.mem_of_getElem? c
    have f : ([22, 3, 28].all fun j => !Tryz.prog.wantsStandIn j) = true := by kernel_rfl
    exact (show Tryz.prog.wantsStandIn b = false by simpa using gg.1 f b i)⟩)
  (by kernel_rfl)
end Go.Proofs.YtinlnkhheafjaaaGreatDoor.spoolStepsDone
namespace Go.Proofs.YtinlnkhheafjaaaGreatDoor
theorem spoolStepsProved : Rows.SpoolStepsCardSaid := spoolStepsDone.tied
end Go.Proofs.YtinlnkhheafjaaaGreatDoor
