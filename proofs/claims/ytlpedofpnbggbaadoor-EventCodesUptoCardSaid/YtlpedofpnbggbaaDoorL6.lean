/- Laws, on plain data, about functions that the statement reaches. -/
import Derived.Test.YtlpedofpnbggbaaDoorL5
set_option linter.unusedSimpArgs false
set_option linter.unusedVariables false
set_option linter.unnecessarySimpa false
set_option maxRecDepth 100000
namespace Go.Proofs.YtlpedofpnbggbaaDoor
open Go.Eng Go.Pi
open Option (bind_some)
theorem v1133 {n0 oi oc : Nat} {h0 g : Hp} {s : Cur} (v : ViS n0 oi oc h0 g (itc [] 0 0 0 0 .nils 0 0 [] [] .nils) s) {β : Type} {f : D × Hp → Option β} {Q : β → Prop}
    (k : ∀ g2 ld fd, ViS n0 oi oc h0 g2 ((visI s).row ld fd) (visE s) → Own g2 n0 ty78 3 ((visI s).ls.map linr) ld → Own g2 n0 ty109 2 ((visI s).fs.map fld) fd → Wp (f (mkRes [], g2)) Q) : Wp ((R fn1133 [.iface ty1104 (.ptr oc 0 0), .ptr oi 0 0] g).bind f) Q := by
  rw [e1133]
  simp only [F1133, bs, Option.bind_assoc, nilCheck_ptr, fap74_0, fap74_1, nmT2, nmN2, nmC2, inv1104_text, inv1104_number, inv1104_count, fap31_0, fap31_1, fap31_2, fap31_3]
  refine vtext v 0 (u := []) (by rfl) fun g1 v1 _ => ?_
  have v1 : ViS n0 oi oc h0 g1 (itc (visI s).r 0 0 0 0 .nils 0 0 [] [] .nils) (textS s).2 := v1
  simp only [bs, bs1133_4 (.ptr oi 0 (0 + 1 + 0)) (.ptr oi 0 (0 + 1 + 1)) (.ptr oi 0 (0 + 1 + 2)) (.ptr oi 0 (0 + 1 + 3)) rfl rfl rfl rfl, show ([[.ptr oi 0 (0 + 1 + 0)], [.ptr oi 0 (0 + 1 + 1)], [.ptr oi 0 (0 + 1 + 2)], [.ptr oi 0 (0 + 1 + 3)]] : List (List D)) = pl4 oi from rfl, len1133, show (pl4 oi).length = 4 from rfl]
  refine Wp.loop (fun kk ds g' => ∃ a b, ∃ n : Nat, ds = [a, .int .i64 n, b] ∧ kk + n = 4 ∧ ((n = 0 ∧ ViS n0 oi oc h0 g' (itc (visI s).r 0 0 0 0 .nils 0 0 [] [] .nils) (textS s).2) ∨ (n = 1 ∧ ViS n0 oi oc h0 g' (itc (visI s).r (visI s).a0 0 0 0 .nils 0 0 [] [] .nils) (numS (textS s).2).2) ∨
      (n = 2 ∧ ViS n0 oi oc h0 g' (itc (visI s).r (visI s).a0 (visI s).a1 0 0 .nils 0 0 [] [] .nils) (numS (numS (textS s).2).2).2) ∨ (n = 3 ∧ ViS n0 oi oc h0 g' (itc (visI s).r (visI s).a0 (visI s).a1 (visI s).a2 0 .nils 0 0 [] [] .nils) (numS (numS (numS (textS s).2).2).2).2) ∨
      (n = 4 ∧ ViS n0 oi oc h0 g' (itc (visI s).r (visI s).a0 (visI s).a1 (visI s).a2 (visI s).a3 .nils 0 0 [] [] .nils) (visA s))))
    (fun r => r.1 = .ext 0 ∧ (∃ a b c, r.2.1 = [a, b, c]) ∧ ViS n0 oi oc h0 r.2.2 (itc (visI s).r (visI s).a0 (visI s).a1 (visI s).a2 (visI s).a3 .nils 0 0 [] [] .nils) (visA s)) 4 ⟨_, _, 0, rfl, rfl, .inl ⟨rfl, v1⟩⟩ ?_ ?_
  · rintro kk ds g' ⟨a, b, n, rfl, hk, hv⟩
    simp only [F1133_L0, nth_zero, nth_succ, bs, Option.bind_assoc, dBin_lss]
    have ix : ∀ j : Nat, j < 4 → dIndexAddr tab ty1133 (.sl 1 true (pl4 oi)) (.int .i64 j) = some (.fptr [.ptr oi 0 (0 + 1 + j)]) := fun j hj => by
      have : j = 0 ∨ j = 1 ∨ j = 2 ∨ j = 3 := by omega
      rcases this with rfl | rfl | rfl | rfl <;> (rw [ix1133]; rfl)
    rcases hv with ⟨rfl, v'⟩ | ⟨rfl, v'⟩ | ⟨rfl, v'⟩ | ⟨rfl, v'⟩ | ⟨rfl, v'⟩
    · simp only [show decide (((0 : Nat) : Int) < ((4 : Nat) : Int)) = true from rfl, dIf_bool, if_true, ix 0 (by omega), ld1132, bs, inv1104_number]
      refine vnum v' (0 + 1 + 0) (by simp [-bind_some, itc]) fun g2 v2 _ => ?_
      simp only [bs, dBin_add]
      exact .some (.inl ⟨rfl, 3, by omega, _, _, 1, rfl, rfl, .inr (.inl ⟨rfl, v2⟩)⟩)
    · simp only [show decide (((1 : Nat) : Int) < ((4 : Nat) : Int)) = true from rfl, dIf_bool, if_true, ix 1 (by omega), ld1132, bs, inv1104_number]
      refine vnum v' (0 + 1 + 1) (by simp [-bind_some, itc]) fun g2 v2 _ => ?_
      simp only [bs, dBin_add]
      exact .some (.inl ⟨rfl, 2, by omega, _, _, 2, rfl, rfl, .inr (.inr (.inl ⟨rfl, v2⟩))⟩)
    · simp only [show decide (((2 : Nat) : Int) < ((4 : Nat) : Int)) = true from rfl, dIf_bool, if_true, ix 2 (by omega), ld1132, bs, inv1104_number]
      refine vnum v' (0 + 1 + 2) (by simp [-bind_some, itc]) fun g2 v2 _ => ?_
      simp only [bs, dBin_add]
      exact .some (.inl ⟨rfl, 1, by omega, _, _, 3, rfl, rfl, .inr (.inr (.inr (.inl ⟨rfl, v2⟩)))⟩)
    · simp only [show decide (((3 : Nat) : Int) < ((4 : Nat) : Int)) = true from rfl, dIf_bool, if_true, ix 3 (by omega), ld1132, bs, inv1104_number]
      refine vnum v' (0 + 1 + 3) (by simp [-bind_some, itc]) fun g2 v2 _ => ?_
      simp only [bs, dBin_add]
      exact .some (.inl ⟨rfl, 0, by omega, _, _, 4, rfl, rfl, .inr (.inr (.inr (.inr ⟨rfl, v2⟩)))⟩)
    · simp only [show decide (((4 : Nat) : Int) < ((4 : Nat) : Int)) = false from rfl, dIf_bool, Bool.false_eq_true, if_false]
      exact .some (.inr ⟨by simp, rfl, ⟨_, _, _, rfl⟩, v'⟩)
  rintro ⟨ex, ds, g2⟩ ⟨rfl, ⟨a, b, c, rfl⟩, v2⟩
  have v2 : ViS n0 oi oc h0 g2 (itc (visI s).r (visI s).a0 (visI s).a1 (visI s).a2 (visI s).a3 .nils 0 0 [] [] .nils) (visA s) := v2
  simp only [unblk_self, toEnd_nrm, bs, Option.bind_assoc, nilCheck_ptr, fap31_4, (itcL v2.hi).1, lenn28, nmC2, inv1104_count]
  have hcr := countS_range v2.hc
  refine vcount v2 _ fun g3 v3 _ => ?_
  obtain ⟨N, hN⟩ : ∃ N : Nat, (countS (visA s)).1 = N := ⟨(countS (visA s)).1.toNat, by omega⟩
  have hNt : (countS (visA s)).1.toNat = N := by omega
  simp only [bs]
  refine vlines N (by omega) (by rw [hN]) v3 rfl _ _ _ _ fun g4 ld b1 b2 b3 b4 b5 v4 ow4 => ?_
  have hB : (lnsS N (countS (visA s)).2).2 = visB s := by unfold visB; rw [hNt]
  have hL : (lnsS N (countS (visA s)).2).1 = (visI s).ls := by unfold visI; simp only [hNt]
  rw [hB] at v4
  rw [hL] at ow4
  simp only [unblk_self, toEnd_nrm, bs, Option.bind_assoc, nilCheck_ptr, fap31_5, fap31_6, fap31_7, fap31_8, fap31_9, nmN2, nmT2, nmC2, inv1104_number, inv1104_text, inv1104_count]
  have keep : ∀ {g g' : Hp} {row : List D} {s' : Cur}, Own g n0 ty78 3 ((visI s).ls.map linr) ld → ViS n0 oi oc h0 g row s' → Wrt g g' oc oi → Own g' n0 ty78 3 ((visI s).ls.map linr) ld := fun ow v w => by
    obtain ⟨d, h1, _⟩ := v.hc
    exact Own.wrt ow w h1 v.hi (by decide) (by decide)
  refine vnum v4 (0 + 1 + 5) (by simp [-bind_some, itc]) fun g5 v5 w5 => ?_
  have ow5 := keep ow4 v4 w5
  have v5 : ViS n0 oi oc h0 g5 (itc (visI s).r (visI s).a0 (visI s).a1 (visI s).a2 (visI s).a3 ld (visI s).a5 0 [] [] .nils) (numS (visB s)).2 := v5
  simp only [bs]
  refine vnum v5 (0 + 1 + 6) (by simp [-bind_some, itc]) fun g6 v6 w6 => ?_
  have ow6 := keep ow5 v5 w6
  have v6 : ViS n0 oi oc h0 g6 (itc (visI s).r (visI s).a0 (visI s).a1 (visI s).a2 (visI s).a3 ld (visI s).a5 (visI s).a6 [] [] .nils) (numS (numS (visB s)).2).2 := v6
  simp only [bs]
  refine vtext v6 (0 + 1 + 7) (u := []) (by rfl) fun g7 v7 w7 => ?_
  have ow7 := keep ow6 v6 w7
  have v7 : ViS n0 oi oc h0 g7 (itc (visI s).r (visI s).a0 (visI s).a1 (visI s).a2 (visI s).a3 ld (visI s).a5 (visI s).a6 (visI s).t7 [] .nils) (textS (numS (numS (visB s)).2).2).2 := v7
  simp only [bs]
  refine vtext v7 (0 + 1 + 8) (u := []) (by rfl) fun g8 v8 w8 => ?_
  have ow8 := keep ow7 v7 w8
  have v8 : ViS n0 oi oc h0 g8 (itc (visI s).r (visI s).a0 (visI s).a1 (visI s).a2 (visI s).a3 ld (visI s).a5 (visI s).a6 (visI s).t7 (visI s).t8 .nils) (visC s) := v8
  simp only [bs, (itcL v8.hi).2, lenn29]
  have hcr2 := countS_range v8.hc
  refine vcount v8 _ fun g9 v9 w9 => ?_
  have ow9 := keep ow8 v8 w9
  obtain ⟨M, hM⟩ : ∃ M : Nat, (countS (visC s)).1 = M := ⟨(countS (visC s)).1.toNat, by omega⟩
  have hMt : (countS (visC s)).1.toNat = M := by omega
  simp only [bs]
  refine vfields M (by omega) (by rw [hM]) v9 ow9 _ _ _ fun g10 fd b1 b2 b3 b4 v10 owL owF => ?_
  have hE : (fdsS M (countS (visC s)).2).2 = visE s := by unfold visE; rw [hMt]
  have hF : (fdsS M (countS (visC s)).2).1 = (visI s).fs := by unfold visI; simp only [hMt]
  rw [hE] at v10
  rw [hF] at owF
  simp only [unblk_self, exEnd_nrm, bs, Option.bind_assoc]
  exact k g10 ld fd v10 owL owF
def I64 (n : Int) : Prop := -9223372036854775808 ≤ n ∧ n < 9223372036854775808
theorem p256_4 : (256 : Int) ^ 4 = 4294967296 := by decide
structure LnR (l : Lin) : Prop where
  o : I64 l.off
  n : I64 l.len
  t : l.txt.length < 4294967296
structure ItR (i : It) : Prop where
  r : i.r.length < 4294967296
  a0 : I64 i.e.a0
  a1 : I64 i.e.a1
  a2 : I64 i.e.a2
  a3 : I64 i.e.a3
  nl : i.e.ls.length < 4294967296
  ls : ∀ l ∈ i.e.ls, LnR l
  a5 : I64 i.e.a5
  a6 : I64 i.e.a6
  t7 : i.e.s7.length < 4294967296
  t8 : i.e.s8.length < 4294967296
  nf : i.e.fs.length < 4294967296
  fs : ∀ p ∈ i.e.fs, p.1.length < 4294967296 ∧ p.2.length < 4294967296
def riOf (i : It) : RI := ⟨i.r, i.e.a0, i.e.a1, i.e.a2, i.e.a3, i.e.ls, i.e.a5, i.e.a6, i.e.s7, i.e.s8, i.e.fs⟩
theorem own_snap {h : Hp} {n1 e z : Nat} {α : Type} {f : α → List D} {l : List α} {d : D} {n : Nat} (hd : Own h n1 e z (l.map f) d) (hr : ∀ a ∈ l, ∀ d ∈ f a, snap h n d = d) : SlOf z f l (snap h (n + 1) d) := by
  rcases hd with ⟨rfl, hn⟩ | ⟨o, ho, rfl, hg⟩
  · exact .inl ⟨rfl, by simpa using hn⟩
  · refine .inr ⟨false, ?_⟩
    simp only [snap, hg, List.drop_zero]
    rw [List.take_of_length_le (by simp)]
    congr 1
    rw [List.map_map]
    refine List.map_congr_left fun a ha => ?_
    simp only [Function.comp]
    conv => rhs; rw [← List.map_id (f a)]
    exact List.map_congr_left fun d hd => hr a ha d hd
theorem linr_snap (h : Hp) (n : Nat) (l : Lin) : ∀ d ∈ linr l, snap h n d = d := by
  intro d hd
  simp only [linr, List.mem_cons, List.not_mem_nil, or_false] at hd
  cases n <;> rcases hd with rfl | rfl | rfl <;> rfl
theorem fld_snap (h : Hp) (n : Nat) (p : Str × Str) : ∀ d ∈ fld p, snap h n d = d := by
  intro d hd
  simp only [fld, List.mem_cons, List.not_mem_nil, or_false] at hd
  cases n <;> rcases hd with rfl | rfl <;> rfl
theorem takeS_le (s : Cur) (n : Int) : (takeS s n).2.1.length ≤ s.1.length := by
  unfold takeS
  split
  · exact Nat.le_refl _
  · simp [-bind_some]
theorem numS_le (s : Cur) : (numS s).2.1.length ≤ s.1.length := takeS_le s 8
theorem lenS_le (s : Cur) : (lenS s).2.1.length ≤ s.1.length := takeS_le s 4
theorem textS_le (s : Cur) : (textS s).2.1.length ≤ s.1.length := by
  have h1 := takeS_le (lenS s).2 (lenS s).1
  have h2 := lenS_le s
  unfold textS
  split
  · simp only; omega
  · simp only; omega
theorem countS_le (s : Cur) : (countS s).1.toNat ≤ s.1.length ∧ (countS s).2.1.length ≤ s.1.length := by
  have h2 := lenS_le s
  unfold countS
  split
  · exact ⟨by simp, h2⟩
  · rename_i hh
    refine ⟨?_, h2⟩
    have h3 : ¬ ((lenS s).2.1.length : Int).tdiv 8 < (lenS s).1 := fun hx => hh (.inr hx)
    rw [Int.tdiv_eq_ediv_of_nonneg (by omega)] at h3
    omega
theorem linS_le (s : Cur) : (linS s).2.1.length ≤ s.1.length := by
  have h1 := numS_le s
  have h2 := numS_le (numS s).2
  have h3 := textS_le (numS (numS s).2).2
  unfold linS
  simp only
  omega
theorem lnsS_le : ∀ (n : Nat) (s : Cur), (lnsS n s).1.length = n ∧ (lnsS n s).2.1.length ≤ s.1.length
  | 0, s => ⟨rfl, Nat.le_refl _⟩
  | n + 1, s => by
    have h1 := lnsS_le n (linS s).2
    have h2 := linS_le s
    exact ⟨by simp [-bind_some, lnsS, h1.1], Nat.le_trans h1.2 h2⟩
theorem fdsS_len : ∀ (n : Nat) (s : Cur), (fdsS n s).1.length = n
  | 0, s => rfl
  | n + 1, s => by simp [-bind_some, fdsS, fdsS_len n]
theorem visA_le (s : Cur) : (visA s).1.length ≤ s.1.length := by
  have h0 := textS_le s
  have h1 := numS_le (textS s).2
  have h2 := numS_le (numS (textS s).2).2
  have h3 := numS_le (numS (numS (textS s).2).2).2
  have h4 := numS_le (numS (numS (numS (textS s).2).2).2).2
  unfold visA
  omega
theorem visC_le (s : Cur) : (visC s).1.length ≤ s.1.length := by
  have h0 := visA_le s
  have h1 := (countS_le (visA s)).2
  have h2 := (lnsS_le (countS (visA s)).1.toNat (countS (visA s)).2).2
  have hB : (visB s).1.length ≤ s.1.length := by unfold visB; omega
  have h3 := numS_le (visB s)
  have h4 := numS_le (numS (visB s)).2
  have h5 := textS_le (numS (numS (visB s)).2).2
  have h6 := textS_le (textS (numS (numS (visB s)).2).2).2
  unfold visC
  omega
theorem visI_len (s : Cur) : (visI s).ls.length ≤ s.1.length ∧ (visI s).fs.length ≤ s.1.length := by
  have h0 := visA_le s
  have h1 := (countS_le (visA s)).1
  have h2 := (lnsS_le (countS (visA s)).1.toNat (countS (visA s)).2).1
  have h3 := visC_le s
  have h4 := (countS_le (visC s)).1
  have h5 := fdsS_len (countS (visC s)).1.toNat (countS (visC s)).2
  refine ⟨?_, ?_⟩
  · show (lnsS (countS (visA s)).1.toNat (countS (visA s)).2).1.length ≤ _
    omega
  · show (fdsS (countS (visC s)).1.toNat (countS (visC s)).2).1.length ≤ _
    omega
def mkIt (x : RI) (ld fd : D) (h1 : SlOf 3 linr x.ls ld) (h2 : SlOf 2 fld x.fs fd) (h3 : x.ls.length ≤ 9223372036854775807) (h4 : x.fs.length ≤ 9223372036854775807) : It := ⟨x.r, ⟨x.a0, x.a1, x.a2, x.a3, x.ls, ld, x.a5, x.a6, x.t7, x.t8, x.fs, fd, h2, h4, h1, h3⟩⟩
theorem mkIt_ri (x : RI) (ld fd : D) (h1 : SlOf 3 linr x.ls ld) (h2 : SlOf 2 fld x.fs fd) (h3 : x.ls.length ≤ 9223372036854775807) (h4 : x.fs.length ≤ 9223372036854775807) : riOf (mkIt x ld fd h1 h2 h3 h4) = x := rfl
def decZ (c : Int) (l : List Int) : Int × Int × RI :=
  if l.length < 4 then (14, 0, ⟨[], 0, 0, 0, 0, [], 0, 0, [], [], []⟩)
  else if num (l.take 4) < 4 ∨ (l.length : Int) - 4 < num (l.take 4) then (14, 0, ⟨[], 0, 0, 0, 0, [], 0, 0, [], [], []⟩)
  else if chkS (l.take (num (l.take 4)).toNat) ≠ num ((l.drop (num (l.take 4)).toNat).take 4) then (15, 0, ⟨[], 0, 0, 0, 0, [], 0, 0, [], [], []⟩)
  else if (visE ((l.take (num (l.take 4)).toNat).drop 4, false)).2 = true ∨ 0 < (visE ((l.take (num (l.take 4)).toNat).drop 4, false)).1.length ∨ c ≠ 0 then (1, 0, ⟨[], 0, 0, 0, 0, [], 0, 0, [], [], []⟩)
  else (0, 4 + num (l.take 4), visI ((l.take (num (l.take 4)).toNat).drop 4, false))
def zit : It := ⟨[], ⟨0, 0, 0, 0, [], .nils, 0, 0, [], [], [], .nils, SlOf.nils _ _, by simp, SlOf.nils _ _, by simp⟩⟩
theorem zit_ri : riOf zit = ⟨[], 0, 0, 0, 0, [], 0, 0, [], [], []⟩ := rfl
theorem dec_end {h g : Hp} {a b : Int} {j : It} (hl : h.length ≤ g.length) (hb : ∀ q, q < h.length → g[q]? = h[q]?) : scope h g (.tup [.agg (itr j), .int .i64 a, .int .i64 b]) = some (.tup [.agg (itr j), .int .i64 a, .int .i64 b], h) := by
  refine scope_eq ?_ ?_ hl hb
  · have h1 : (itr j).map (frz h.length g 2) = itr j := by
      conv => rhs; rw [← List.map_id (itr j)]
      exact List.map_congr_left fun d hd => itr_frz _ g 1 j d hd
    show D.tup [D.agg ((itr j).map (frz h.length g 2)), .int .i64 a, .int .i64 b] = _
    rw [h1]
  · refine .tup _ fun d hd => ?_
    simp at hd
    rcases hd with rfl | rfl | rfl
    · exact itr_ok _ j
    · constructor
    · constructor
theorem mkRes_3 (a b c : D) : mkRes [a, b, c] = .tup [a, b, c] := rfl
theorem s1129 (l : List Int) (d : D) (c : Int) (h : Hp) (hd : SlOf 1 byr l d) (hl : l.length ≤ 1000000000) (hu : ∀ z ∈ l, U8 z)
    (hck : ∀ j : It, riOf j = visI ((l.take (num (l.take 4)).toNat).drop 4, false) → ∀ g, R fn1042 [.agg (itr j)] g = some (.int .i64 c, g)) :
    ∃ j : It, R fn1129 [d] h = some (.tup [.agg (itr j), .int .i64 (decZ c l).2.1, .int .i64 (decZ c l).1], h) ∧ riOf j = (decZ c l).2.2 := by
  suffices Wp (R fn1129 [d] h) (fun p => p.2 = h ∧ ∃ j : It, p.1 = .tup [.agg (itr j), .int .i64 (decZ c l).2.1, .int .i64 (decZ c l).1] ∧ riOf j = (decZ c l).2.2) by
    obtain ⟨⟨x, h'⟩, h1, rfl, j, rfl, h2⟩ := this
    exact ⟨j, h1, h2⟩
  have hz74 : ([.str [], .int .i64 0, .int .i64 0, .int .i64 0, .int .i64 0, .nils, .int .i64 0, .int .i64 0, .str [], .str [], .nils] : List D) = itr zit := rfl
  have hbz : dBuild tab ty74 [] [] = some (.agg (itr zit)) := id rfl
  -- a way out with an error: the result's variable is stored to and read
  have out : ∀ (g : Hp) (row : List D) (a b : Int), g[h.length]? = some (.row ty74 11 [row]) → row.length = 11 → h.length ≤ g.length → (∀ q, q < h.length → g[q]? = h[q]?) → (a, b, riOf zit) = ((decZ c l).2.1, (decZ c l).1, (decZ c l).2.2) →
      Wp ((dStore tab g ty74 (.ptr h.length 0 0) (.agg (itr zit))).bind fun h' => (dLoad tab h' ty74 (.ptr h.length 0 0)).bind fun d => scope h h' (mkRes [d, .int .i64 a, .int .i64 b])) (fun p => p.2 = h ∧ ∃ j : It, p.1 = .tup [.agg (itr j), .int .i64 (decZ c l).2.1, .int .i64 (decZ c l).1] ∧ riOf j = (decZ c l).2.2) := by
    intro g row a b hg hr hgl hgb he
    injection he with he1 he2
    injection he2 with he2 he3
    refine wst74 hg (by rfl) (by rfl) (by rw [hr]; exact Nat.le_refl _) (by rfl) fun g' h' s' => ?_
    have h' : g'[h.length]? = some (.row ty74 11 [itr zit]) := by
      rw [h']
      have hs : spl row 0 (cells1 (.agg (itr zit))) = itr zit := by
        have h11 : (itr zit).length = 11 := rfl
        simp [-bind_some, spl, cells1, hr, h11]
      rw [hs]; rfl
    have ld : dLoad tab g' ty74 (.ptr h.length 0 0) = some (.agg (itr zit)) := by rw [ldp74, row_of h']; rfl
    rw [ld]
    simp only [bs, mkRes_3]
    rw [dec_end (by rw [s'.1]; exact hgl) (fun q hq => by rw [s'.2 q (by omega)]; exact hgb q hq)]
    exact .some ⟨rfl, zit, by rw [he1, he2], he3⟩
  rw [e1129]
  simp only [F1129, hz74, bs, Option.bind_assoc, lens22 hd, dBin_lss, hbz]
  have hp2 : (dNew h ty74 11 [itr zit])[h.length]? = some (.row ty74 11 [itr zit]) := dNew_get _ _ _ _
  have hq2 : ∀ q, q < h.length → (dNew h ty74 11 [itr zit])[q]? = h[q]? := fun q hq => dNew_old _ _ _ _ hq
  have hl2 : (dNew h ty74 11 [itr zit]).length = h.length + 1 := by simp [-bind_some, dNew]
  generalize dNew h ty74 11 [itr zit] = g1 at *
  refine Wp.dif ?_ ?_
  · intro h0
    have h0 : l.length < 4 := by have : (l.length : Int) < 4 := by simpa using h0
                                 omega
    have hz : decZ c l = (14, 0, ⟨[], 0, 0, 0, 0, [], 0, 0, [], [], []⟩) := by unfold decZ; rw [if_pos h0]
    exact out g1 _ 0 14 hp2 rfl (by omega) hq2 (by rw [hz, zit_ri])
  intro h0
  have h0 : ¬ l.length < 4 := by have : ¬ (l.length : Int) < 4 := by simpa using h0
                                 omega
  obtain ⟨d4, e4, s4'⟩ := slh22 hd (k := .i64) (n := 4) (by omega) (by omega)
  have s4' : SlOf 1 byr (l.take 4) d4 := s4'
  have hl4 : (l.take 4).length = 4 := by simp; omega
  have hu4 : ∀ z ∈ l.take 4, U8 z := fun z hz => hu z (List.mem_of_mem_take hz)
  have e14 := s1136 _ d4 g1 s4' (by omega) hu4
  obtain ⟨n0, n1⟩ := num_range 4 _ hl4 hu4
  rw [p256_4] at n1
  have w5 : IntKind.wrap .i64 (num (l.take 4)) = num (l.take 4) := wrap_i64 (by omega) (by omega)
  have w6 : IntKind.wrap .i64 ((l.length : Int) - 4) = (l.length : Int) - 4 := wrap_i64 (by omega) (by omega)
  generalize hN : num (l.take 4) = N at *
  obtain ⟨n, rfl⟩ := Int.eq_ofNat_of_zero_le n0
  simp only [Int.toNat_natCast] at hck
  simp only [bs, e4, e14, cv1029_3, w5, dBin_lss, gd_bool]
  by_cases hbad : (n : Int) < 4 ∨ (l.length : Int) - 4 < (n : Int)
  · have hz : decZ c l = (14, 0, ⟨[], 0, 0, 0, 0, [], 0, 0, [], [], []⟩) := by unfold decZ; rw [if_neg h0, hN, if_pos hbad]
    by_cases c1 : (n : Int) < 4
    · simp only [c1, decide_true, reduceCtorEq, Bool.true_eq_false, if_false, bs, dPick_bool, if_true, dIf_bool]
      exact out g1 _ 0 14 hp2 rfl (by omega) hq2 (by rw [hz, zit_ri])
    · have c2 : (n : Int) > (l.length : Int) - 4 := by omega
      simp only [c1, decide_false, if_true, bs, lens22 hd, dBin_sub, w6, dBin_gtr, c2, decide_true, reduceCtorEq, Bool.true_eq_false, Bool.false_eq_true, if_false, dPick_bool, dIf_bool]
      exact out g1 _ 0 14 hp2 rfl (by omega) hq2 (by rw [hz, zit_ri])
  have c1 : ¬ (n : Int) < 4 := by omega
  have c2 : ¬ (n : Int) > (l.length : Int) - 4 := by omega
  simp only [c1, decide_false, if_true, bs, lens22 hd, dBin_sub, w6, dBin_gtr, c2, reduceCtorEq, Bool.true_eq_false, Bool.false_eq_true, if_false, dPick_bool, dIf_bool]
  obtain ⟨dn, en, sn⟩ := slh22 hd (k := .i64) (n := (n : Int)) (by omega) (by omega)
  rw [Int.toNat_natCast] at sn
  have e29 := s1135 (l.take n) dn g1 (.inl sn) (by simp; omega) (fun z hz => hu z (List.mem_of_mem_take hz))
  have w7 : IntKind.wrap .i64 ((n : Int) + 4) = ((n + 4 : Nat) : Int) := by rw [wrap_i64 (by omega) (by omega)]; omega
  obtain ⟨dc, ec, sc⟩ := cut2_by hd n (n + 4) (by omega) (by omega)
  have lc : (l.take (n + 4)).drop n = (l.drop n).take 4 := by rw [List.drop_take]; congr 1; omega
  rw [lc] at sc
  have e35 := s1136 _ dc g1 sc (by simp; omega) (fun z hz => hu z (List.mem_of_mem_drop (List.mem_of_mem_take hz)))
  simp only [en, e29, dBin_add, w7, ec, e35, bs, dBin_neq]
  refine Wp.dif ?_ ?_
  · intro h1
    have h1 : chkS (l.take n) ≠ num ((l.drop n).take 4) := by simpa using h1
    have hz : decZ c l = (15, 0, ⟨[], 0, 0, 0, 0, [], 0, 0, [], [], []⟩) := by unfold decZ; rw [if_neg h0, hN, if_neg hbad]; simp only [Int.toNat_natCast]; rw [if_pos h1]
    exact out g1 _ 0 15 hp2 rfl (by omega) hq2 (by rw [hz, zit_ri])
  intro h1
  have h1 : ¬ chkS (l.take n) ≠ num ((l.drop n).take 4) := by simpa using h1
  obtain ⟨db, eb, sb⟩ := cut2_by hd 4 n (by omega) (by omega)
  have eb : dSliceAt tab ty22 true true false [d, .int .i64 4, .int .i64 n] = some db := eb
  have hp6 : (dNew g1 ty74 11 [itr zit])[h.length + 1]? = some (.row ty74 11 [itr zit]) := by rw [← hl2]; exact dNew_get _ _ _ _
  have hp62 : (dNew g1 ty74 11 [itr zit])[h.length]? = some (.row ty74 11 [itr zit]) := by rw [dNew_old _ _ _ _ (by omega)]; exact hp2
  have hl6 : (dNew g1 ty74 11 [itr zit]).length = h.length + 2 := by simp [-bind_some, dNew, hl2]
  have hq6 : ∀ q, q < h.length → (dNew g1 ty74 11 [itr zit])[q]? = h[q]? := fun q hq => by rw [dNew_old _ _ _ _ (by omega)]; exact hq2 q hq
  simp only [bs, hl2]
  generalize dNew g1 ty74 11 [itr zit] = g2 at *
  have hbc : dBuild tab ty1106 [0] [db] = some (.agg [db, .bool false]) := bd1106_0 db (slof_one sb)
  simp only [eb, hbc, bs, wBox_agg ty1106 2 g2 [db, .bool false] rfl (by omega), hl6]
  have hc0 : (dNew g2 ty1106 2 [[db, .bool false]])[h.length + 2]? = some (.row ty1106 2 [[db, .bool false]]) := by rw [← hl6]; exact dNew_get _ _ _ _
  have hi0 : (dNew g2 ty1106 2 [[db, .bool false]])[h.length + 1]? = some (.row ty74 11 [itr zit]) := by rw [dNew_old _ _ _ _ (by omega)]; exact hp6
  have hr0 : (dNew g2 ty1106 2 [[db, .bool false]])[h.length]? = some (.row ty74 11 [itr zit]) := by rw [dNew_old _ _ _ _ (by omega)]; exact hp62
  have hq0 : ∀ q, q < h.length + 1 → (dNew g2 ty1106 2 [[db, .bool false]])[q]? = g2[q]? := fun q hq => dNew_old _ _ _ _ (by omega)
  generalize dNew g2 ty1106 2 [[db, .bool false]] = g3 at *
  have V0 : ViS (h.length + 1) (h.length + 1) (h.length + 2) g2 g3 (itc [] 0 0 0 0 .nils 0 0 [] [] .nils) ((l.take n).drop 4, false) :=
    ⟨hi0, ⟨db, hc0, sb, fun z hz => hu z (List.mem_of_mem_take (List.mem_of_mem_drop hz)), by simp; omega⟩, hq0, by omega, by omega⟩
  refine v1133 V0 fun g4 ld fd V4 owL owF => ?_
  generalize hSt : (((l.take n).drop 4, false) : Cur) = st at *
  obtain ⟨dd, k1, k2, k3, k4⟩ := V4.hc
  obtain ⟨m1, m2⟩ := cu_ld k1
  have hr4 : g4[h.length]? = some (.row ty74 11 [itr zit]) := by rw [V4.lo h.length (by omega)]; exact hp62
  have hq4 : ∀ q, q < h.length → g4[q]? = h[q]? := fun q hq => by rw [V4.lo q (by omega)]; exact hq6 q hq
  have hl4' : h.length ≤ g4.length := by have := (List.getElem?_eq_some_iff.1 hr4).1; omega
  have ldi : dLoad tab g4 ty74 (.ptr (h.length + 1) 0 0) = some (.agg ((visI st).row ld fd)) := by rw [ldp74, row_of V4.hi]; rfl
  have hsl : st.1.length ≤ 1000000000 := by rw [← hSt]; simp [-bind_some]; omega
  obtain ⟨hLl, hFl⟩ := visI_len st
  have hLl : (visI st).ls.length ≤ 9223372036854775807 := by omega
  have hFl : (visI st).fs.length ≤ 9223372036854775807 := by omega
  simp only [bs, nilCheck_ptr, fap1106_0, fap1106_1, m1, m2, gd_bool, lens22 k2]
  have hzd : ∀ x : Prop, decZ c l = if (visE st).2 = true ∨ 0 < (visE st).1.length ∨ c ≠ 0 then (1, 0, ⟨[], 0, 0, 0, 0, [], 0, 0, [], [], []⟩) else (0, 4 + (n : Int), visI st) := fun _ => by
    unfold decZ
    rw [if_neg h0, hN, if_neg hbad]
    simp only [Int.toNat_natCast]
    rw [if_neg h1, hSt]
  have hzd := hzd True
  cases hbd : (visE st).2 with
  | true =>
    have hz : decZ c l = (1, 0, ⟨[], 0, 0, 0, 0, [], 0, 0, [], [], []⟩) := by rw [hzd, if_pos (.inl hbd)]
    simp only [reduceCtorEq, Bool.true_eq_false, if_false, bs, dPick_bool, if_true, gd_bool, gdW_bool, dIf_bool]
    exact out g4 _ 0 1 hr4 rfl hl4' hq4 (by rw [hz, zit_ri])
  | false =>
    simp only [if_true, bs, nilCheck_ptr, fap1106_0, m1, lens22 k2, dBin_gtr]
    by_cases hlen : 0 < (visE st).1.length
    · have hz : decZ c l = (1, 0, ⟨[], 0, 0, 0, 0, [], 0, 0, [], [], []⟩) := by rw [hzd, if_pos (.inr (.inl hlen))]
      have hd1 : decide (((visE st).1.length : Int) > 0) = true := by simp only [decide_eq_true_eq]; omega
      simp only [hd1, reduceCtorEq, Bool.true_eq_false, Bool.false_eq_true, if_false, bs, dPick_bool, if_true, gd_bool, gdW_bool, dIf_bool]
      exact out g4 _ 0 1 hr4 rfl hl4' hq4 (by rw [hz, zit_ri])
    · have hd1 : decide (((visE st).1.length : Int) > 0) = false := by simp only [decide_eq_false_iff_not]; omega
      have sL := own_snap (n := 1) owL (fun a _ => linr_snap g4 1 a)
      have sF := own_snap (n := 1) owF (fun a _ => fld_snap g4 1 a)
      have hsn : snap g4 3 (.agg ((visI st).row ld fd)) = .agg (itr (mkIt (visI st) _ _ sL sF hLl hFl)) := rfl
      have hcall := hck (mkIt (visI st) _ _ sL sF hLl hFl) (mkIt_ri _ _ _ _ _ _ _) (g4.map fun _ => .dead)
      have hokv : (D.agg ((visI st).row ld fd)).okv = true := by
        clear hcall hsn sL sF V4 ldi
        rcases owL with ⟨rfl, _⟩ | ⟨_, _, rfl, _⟩ <;> rcases owF with ⟨rfl, _⟩ | ⟨_, _, rfl, _⟩ <;> rfl
      have hcB : callB R fn1042 [.agg ((visI st).row ld fd)] g4 = some (.int .i64 c, g4) := by
        unfold callB
        simp only [List.map_cons, List.map_nil, hsn, hcall]
        rfl
      simp only [hd1, if_true, Bool.false_eq_true, if_false, bs, dPick_bool, gd_bool, ldi, gdW_bool, hcB, dBin_neq]
      by_cases hc : c = 0
      · have hz : decZ c l = (0, 4 + (n : Int), visI st) := by
          rw [hzd, if_neg]
          rintro (hx | hx | hx)
          · rw [hbd] at hx; cases hx
          · exact hlen hx
          · exact hx hc
        rw [hc] at hz
        have w8 : IntKind.wrap .i64 (4 + (n : Int)) = 4 + (n : Int) := wrap_i64 (by omega) (by omega)
        simp only [hc, ne_eq, not_true, decide_false, dIf_bool, Bool.false_eq_true, if_false, bs, ldi, dBin_add, w8]
        refine wst74 (kk := 0) (off := 0) (row := itr zit) (v := .agg ((visI st).row ld fd)) hr4 (by rfl) (by rfl) (by exact Nat.le_refl _) hokv fun g5 h5 s5 => ?_
        have h5 : g5[h.length]? = some (.row ty74 11 [(visI st).row ld fd]) := h5
        have ld5 : dLoad tab g5 ty74 (.ptr h.length 0 0) = some (.agg ((visI st).row ld fd)) := by rw [ldp74, row_of h5]; rfl
        have owL5 : Own g5 (h.length + 1) ty78 3 ((visI st).ls.map linr) ld := owL.keep fun q hq _ => s5.2 q (by omega)
        have owF5 : Own g5 (h.length + 1) ty109 2 ((visI st).fs.map fld) fd := owF.keep fun q hq _ => s5.2 q (by omega)
        have fL := own_sl (n0 := h.length) (n := 1) owL5 (by omega) (fun a _ => linr_frz _ g5 1 a)
        have fF := own_sl (n0 := h.length) (n := 1) owF5 (by omega) (fun a _ => fld_frz _ g5 1 a)
        simp only [ld5, bs, mkRes_3]
        rw [scope_eq (d' := .tup [.agg (itr (mkIt (visI st) _ _ fL fF hLl hFl)), .int .i64 (4 + (n : Int)), .int .i64 0]) rfl (by
          refine .tup _ fun d hd => ?_
          simp at hd
          rcases hd with rfl | rfl | rfl
          · exact itr_ok _ _
          · constructor
          · constructor) (by rw [s5.1]; exact hl4') (fun q hq => by rw [s5.2 q (by omega)]; exact hq4 q hq)]
        exact .some ⟨rfl, _, by rw [hz], by rw [hz]; rfl⟩
      · have hz : decZ c l = (1, 0, ⟨[], 0, 0, 0, 0, [], 0, 0, [], [], []⟩) := by rw [hzd, if_pos (.inr (.inr hc))]
        simp only [hc, ne_eq, not_false_eq_true, decide_true, dIf_bool, if_true, bs]
        exact out g4 _ 0 1 hr4 rfl hl4' hq4 (by rw [hz, zit_ri])
structure RG (hs : Int) (i : It) : Prop where
  fs : i.e.fs.length ≤ 20
  ok : itE i = 0
  host : i.e.a0 = hs
  r : (i.r == ([42] : Str)) = false
  bl : (bodyI i).length ≤ 20000
  rd : ItR i
theorem ri_cong {i j : It} (h : riOf i = riOf j) : encI i = encI j ∧ itE i = itE j ∧ (∀ hs, RG hs i → RG hs j) ∧ sameI i j = true := by
  obtain ⟨r, ⟨a0, a1, a2, a3, ls, ld, a5, a6, s7, s8, fs, fd, p1, p2, p3, p4⟩⟩ := i
  obtain ⟨r', ⟨a0', a1', a2', a3', ls', ld', a5', a6', s7', s8', fs', fd', p1', p2', p3', p4'⟩⟩ := j
  simp only [riOf, RI.mk.injEq] at h
  obtain ⟨rfl, rfl, rfl, rfl, rfl, rfl, rfl, rfl, rfl, rfl, rfl⟩ := h
  refine ⟨rfl, rfl, fun hs g => ⟨g.fs, g.ok, g.host, g.r, g.bl, ⟨g.rd.r, g.rd.a0, g.rd.a1, g.rd.a2, g.rd.a3, g.rd.nl, g.rd.ls, g.rd.a5, g.rd.a6, g.rd.t7, g.rd.t8, g.rd.nf, g.rd.fs⟩⟩, ?_⟩
  simp [-bind_some, sameI, sameE]
theorem mch_txt : ∀ (ls : List Lin) (a b : Int), mch a ls b → 0 ≤ a → b ≤ 1000000 → ∀ l ∈ ls, LnR l ∧ l.txt.length ≤ 200
  | [], a, b, _, _, _, l, hl => by cases hl
  | x :: r, a, b, h, h0, h1, l, hl => by
    obtain ⟨g1, g2, g3, g4, g5⟩ := h
    have hle := mch_le r _ _ g5
    rcases List.mem_cons.1 hl with rfl | hl
    · exact ⟨⟨by unfold I64; omega, by unfold I64; omega, by omega⟩, g4⟩
    · exact mch_txt r _ _ g5 (by omega) (by omega) l hl
theorem itk_r {i : It} (h : ItK i) : ItR i ∧ (bodyI i).length ≤ 20000 := by
  have l3 := h.l3
  have f4 := h.fs
  obtain ⟨ch, a0, a9, l1⟩ := h.ch
  have hle := mch_le _ _ _ ch
  have tx := mch_txt _ _ _ ch a0 (by omega)
  have hh : i.r.length ≤ 32 ∧ i.e.s7.length ≤ 32 ∧ i.e.s8.length ≤ 32 ∧ I64 i.e.a0 ∧ I64 i.e.a1 ∧ I64 i.e.a5 ∧ I64 i.e.a6 ∧ ∀ p ∈ i.e.fs, p.1.length ≤ 1000 ∧ p.2.length ≤ 1000 := by
    rcases h with ⟨hr, g⟩ | g
    · have h1 := g.h0; have h2 := g.h2; have h3 := g.f0; have h4 := g.f2; have h5 := g.t0; have h6 := g.t9
      have hw := (show ∀ s ∈ lt82_14, (-10000 : Int) ≤ s ∧ s ≤ 10000 by decide) _ g.wt
      refine ⟨by rw [hr]; simp [-bind_some], (show ∀ s ∈ lt98_15, s.length ≤ 32 by decide) _ g.tr, (show ∀ s ∈ lt98_16, s.length ≤ 32 by decide) _ g.st, by unfold I64; omega, by unfold I64; omega, by unfold I64; omega, by unfold I64; omega, fun p hp => ⟨?_, (show ∀ s ∈ lt98_18, s.length ≤ 1000 by decide) _ (g.fs.2 p hp)⟩⟩
      exact (show ∀ s ∈ lt98_17, s.length ≤ 1000 by decide) _ (g.fs.1.subset (List.mem_map.2 ⟨p, hp, rfl⟩))
    · have h1 := g.h0; have h2 := g.h2; have h3 := g.f0; have h4 := g.f2; have h5 := g.t0; have h6 := g.w0
      exact ⟨(show ∀ s ∈ lt98_35, s.length ≤ 32 by decide) _ g.r, by rw [g.tr]; simp [-bind_some], by rw [g.st]; simp [-bind_some], by unfold I64; omega, by unfold I64; omega, by unfold I64; omega, by unfold I64; omega, fun p hp => by rw [g.fs] at hp; cases hp⟩
  obtain ⟨r1, r2, r3, r4, r5, r6, r7, r8⟩ := hh
  refine ⟨⟨by omega, r4, r5, by unfold I64; omega, by unfold I64; omega, by omega, fun l hl => (tx l hl).1, r6, r7, by omega, by omega, by omega, fun p hp => by have := r8 p hp; omega⟩, ?_⟩
  have h1 := flat_bound lnB 220 i.e.ls (fun l hl => by
    have := (tx l hl).2
    simp only [lnB, List.length_append, pI_len, pS_len]; omega)
  have h2 : (i.e.fs.map fdB).flatten.length ≤ i.e.fs.length * 2008 := flat_bound fdB 2008 i.e.fs (fun p hp => by
    have := r8 p hp
    simp only [fdB, List.length_append, pS_len]; omega)
  have h8 : (i.e.fs.length * 2008 : Nat) ≤ 4 * 2008 := Nat.mul_le_mul_right _ f4
  have h9 : (i.e.ls.length * 220 : Nat) ≤ 3 * 220 := Nat.mul_le_mul_right _ l3
  simp only [bodyI, bodyB, bodyA, List.length_append, pI_len, pS_len, pN_len]
  omega
theorem set_mid {α : Type} (A B : List α) (x y : α) (n : Nat) (hn : A.length = n) : (A ++ x :: B).set n y = A ++ y :: B := by
  subst hn
  rw [List.set_append_right _ _ (Nat.le_refl _)]
  simp [-bind_some]
theorem get_midn {α : Type} (A B : List α) (x : α) (n : Nat) (hn : A.length = n) : (A ++ x :: B)[n]? = some x := by
  subst hn
  simp [-bind_some]
theorem fldL {g : Hp} {o n : Nat} {rows : List (Str × Str)} {p : Str × Str} (ho : g[o]? = some (.row ty109 2 (rows.map fld))) (hp : rows[n]? = some p) : dLoad tab g ty109 (.ptr o n 0) = some (.agg (fld p)) := by
  have hr : (rows.map fld)[n]? = some (fld p) := by rw [List.getElem?_map, hp]; rfl
  rw [ldp109, row_of ho, hr]
  rfl
theorem w1069 {g : Hp} {o N : Nat} {P X M Y Q : List (Str × Str)} (hN : N ≤ 1000000000) (hlen : (P ++ X ++ M ++ Y ++ Q).length = N) (hxy : X.length = Y.length) (ho : g[o]? = some (.row ty109 2 ((P ++ X ++ M ++ Y ++ Q).map fld))) (cmp : D) (a b k : Int) (ha : a = P.length) (hb : b = (P.length + X.length + M.length : Nat)) (hk : k = X.length) {β : Type} {f : D × Hp → Option β} {R1 : β → Prop}
    (K : ∀ g', g'[o]? = some (.row ty109 2 ((P ++ Y ++ M ++ X ++ Q).map fld)) → Same o g g' → Wp (f (mkRes [], g')) R1) : Wp ((R fn1069 [.msl 2 o 0 N, .int .i64 a, .int .i64 b, .int .i64 k, cmp] g).bind f) R1 := by
  subst ha hb hk
  rw [e1069]
  simp only [F1069, bs, Option.bind_assoc]
  simp only [List.length_append] at hlen
  refine Wp.loop (fun kk ds g' => ∃ x, ∃ i : Nat, ds = [.int .i64 i, x] ∧ kk + i = X.length ∧ Same o g g' ∧ g'[o]? = some (.row ty109 2 ((P ++ Y.take i ++ X.drop i ++ M ++ X.take i ++ Y.drop i ++ Q).map fld)))
    (fun r => r.1 = .ext 0 ∧ (∃ x y, r.2.1 = [x, y]) ∧ Same o g r.2.2 ∧ r.2.2[o]? = some (.row ty109 2 ((P ++ Y ++ M ++ X ++ Q).map fld))) X.length ⟨_, 0, rfl, rfl, ⟨rfl, fun _ _ => rfl⟩, by simpa using ho⟩ ?_ ?_
  · rintro kk ds g' ⟨x1, i, rfl, hk, sm, ho'⟩
    simp only [F1069_L0, nth_zero, nth_succ, bs, Option.bind_assoc, dBin_lss]
    refine Wp.dif ?_ ?_
    · intro h0
      have h0 : i < X.length := by have : (i : Int) < X.length := by simpa using h0
                                   omega
      obtain ⟨x, hx⟩ : ∃ x, X[i]? = some x := ⟨_, List.getElem?_eq_getElem h0⟩
      obtain ⟨y, hy⟩ : ∃ y, Y[i]? = some y := ⟨_, List.getElem?_eq_getElem (by omega)⟩
      have hdx : X.drop i = x :: X.drop (i + 1) := by
        obtain ⟨hn, hh⟩ := List.getElem?_eq_some_iff.1 hx
        rw [List.drop_eq_getElem_cons hn, hh]
      have hdy : Y.drop i = y :: Y.drop (i + 1) := by
        obtain ⟨hn, hh⟩ := List.getElem?_eq_some_iff.1 hy
        rw [List.drop_eq_getElem_cons hn, hh]
      have hw : IntKind.wrap .i64 ((i : Int) + 1) = ((i + 1 : Nat) : Int) := by
        rw [wrap_i64 (by omega) (by omega)]; omega
      have wa : IntKind.wrap .i64 ((P.length : Int) + i) = ((P.length + i : Nat) : Int) := by
        rw [wrap_i64 (by omega) (by omega)]; omega
      have wb : IntKind.wrap .i64 (((P.length + X.length + M.length : Nat) : Int) + i) = ((P.length + X.length + M.length + i : Nat) : Int) := by
        rw [wrap_i64 (by omega) (by omega)]; omega
      have e1 : P ++ Y.take i ++ X.drop i ++ M ++ X.take i ++ Y.drop i ++ Q = (P ++ Y.take i) ++ x :: (X.drop (i + 1) ++ M ++ X.take i ++ y :: (Y.drop (i + 1) ++ Q)) := by rw [hdx, hdy]; simp [-bind_some]
      have e2 : (P ++ Y.take i) ++ x :: (X.drop (i + 1) ++ M ++ X.take i ++ y :: (Y.drop (i + 1) ++ Q)) = (P ++ Y.take i ++ x :: (X.drop (i + 1) ++ M ++ X.take i)) ++ y :: (Y.drop (i + 1) ++ Q) := by simp
      have e3 : (P ++ Y.take i) ++ y :: (X.drop (i + 1) ++ M ++ X.take i ++ y :: (Y.drop (i + 1) ++ Q)) = (P ++ Y.take i ++ y :: (X.drop (i + 1) ++ M ++ X.take i)) ++ y :: (Y.drop (i + 1) ++ Q) := by simp
      have e4 : (P ++ Y.take i ++ y :: (X.drop (i + 1) ++ M ++ X.take i)) ++ x :: (Y.drop (i + 1) ++ Q) = P ++ Y.take (i + 1) ++ X.drop (i + 1) ++ M ++ X.take (i + 1) ++ Y.drop (i + 1) ++ Q := by
        rw [List.take_add_one, List.take_add_one, hx, hy]; simp [-bind_some]
      have n1 : (P ++ Y.take i).length = P.length + i := by simp; omega
      have n2 : ∀ z, (P ++ Y.take i ++ z :: (X.drop (i + 1) ++ M ++ X.take i)).length = P.length + X.length + M.length + i := fun z => by simp; omega
      rw [e1] at ho'
      have la := fldL ho' (get_midn _ _ x _ n1)
      have lb := fldL ho' (by rw [e2]; exact get_midn _ _ y _ (n2 x))
      have ia : dIndexAddr tab ty29 (.msl 2 o 0 N) (.int .i64 ((P.length + i : Nat) : Int)) = some (.ptr o (P.length + i) 0) := by rw [ixm29, if_pos (by omega), Int.toNat_natCast, Nat.zero_add]
      have ib : dIndexAddr tab ty29 (.msl 2 o 0 N) (.int .i64 ((P.length + X.length + M.length + i : Nat) : Int)) = some (.ptr o (P.length + X.length + M.length + i) 0) := by rw [ixm29, if_pos (by omega), Int.toNat_natCast, Nat.zero_add]
      simp only [dBin_add, wa, wb, ia, ib, la, lb, bs, Option.bind_assoc]
      have ra : (((P ++ Y.take i) ++ x :: (X.drop (i + 1) ++ M ++ X.take i ++ y :: (Y.drop (i + 1) ++ Q))).map fld)[P.length + i]? = some (fld x) := by rw [List.getElem?_map, get_midn _ _ x _ n1]; rfl
      refine wst109 (off := 0) (row := fld x) (v := .agg (fld y)) ho' ra (by rfl) (by exact Nat.le_refl _) (by rfl) fun g1 p1 w1 => ?_
      have p1 : g1[o]? = some (.row ty109 2 (((P ++ Y.take i ++ y :: (X.drop (i + 1) ++ M ++ X.take i)) ++ y :: (Y.drop (i + 1) ++ Q)).map fld)) := by
        rw [p1, show spl (fld x) 0 (cells1 (.agg (fld y))) = fld y from rfl, ← List.map_set, set_mid _ _ x y _ n1, e3]
      try simp only [bs]
      have rb : (((P ++ Y.take i ++ y :: (X.drop (i + 1) ++ M ++ X.take i)) ++ y :: (Y.drop (i + 1) ++ Q)).map fld)[P.length + X.length + M.length + i]? = some (fld y) := by rw [List.getElem?_map, get_midn _ _ y _ (n2 y)]; rfl
      refine wst109 (off := 0) (row := fld y) (v := .agg (fld x)) p1 rb (by rfl) (by exact Nat.le_refl _) (by rfl) fun g2 p2 w2 => ?_
      have p2 : g2[o]? = some (.row ty109 2 ((P ++ Y.take (i + 1) ++ X.drop (i + 1) ++ M ++ X.take (i + 1) ++ Y.drop (i + 1) ++ Q).map fld)) := by
        rw [p2, show spl (fld y) 0 (cells1 (.agg (fld x))) = fld x from rfl, ← List.map_set, set_mid _ _ y x _ (n2 y), e4]
      simp only [bs, hw]
      exact .some (.inl ⟨rfl, kk - 1, by omega, _, i + 1, rfl, by omega, (sm.trans w1).trans w2, p2⟩)
    · intro h0
      have h0 : i = X.length := by have : ¬ (i : Int) < X.length := by simpa using h0
                                   omega
      subst h0
      refine .some (.inr ⟨by simp, rfl, ⟨_, _, rfl⟩, sm, ?_⟩)
      rw [ho', hxy, List.take_length, List.drop_length, ← hxy, List.take_length, List.drop_length]
      simp [-bind_some]
  · rintro ⟨ex, ds, g'⟩ ⟨rfl, ⟨x, y, rfl⟩, sm, p⟩
    simp only [unblk_self, exEnd_nrm, bs]
    exact K g' p sm
theorem w1068 {g : Hp} {o N : Nat} {P U V Q : List (Str × Str)} (hN : N ≤ 1000000000) (hlen : (P ++ U ++ V ++ Q).length = N) (hU : 0 < U.length) (hV : 0 < V.length) (ho : g[o]? = some (.row ty109 2 ((P ++ U ++ V ++ Q).map fld))) (cmp : D) (a m b : Int) (ha : a = P.length) (hm : m = (P.length + U.length : Nat)) (hb : b = (P.length + U.length + V.length : Nat)) {β : Type} {f : D × Hp → Option β} {R1 : β → Prop}
    (K : ∀ g', g'[o]? = some (.row ty109 2 ((P ++ V ++ U ++ Q).map fld)) → Same o g g' → Wp (f (mkRes [], g')) R1) : Wp ((R fn1068 [.msl 2 o 0 N, .int .i64 a, .int .i64 m, .int .i64 b, cmp] g).bind f) R1 := by
  obtain ⟨mm, hmm⟩ : ∃ mm : Nat, mm = P.length + U.length := ⟨_, rfl⟩
  rw [← hmm] at hm
  subst ha hm hb
  have hl := hlen
  simp only [List.length_append] at hl
  have w1 : IntKind.wrap .i64 ((mm : Int) - (P.length : Int)) = (U.length : Int) := by rw [wrap_i64 (by omega) (by omega)]; omega
  have w2 : IntKind.wrap .i64 (((P.length + U.length + V.length : Nat) : Int) - (mm : Int)) = (V.length : Int) := by rw [wrap_i64 (by omega) (by omega)]; omega
  rw [e1068]
  simp only [F1068, bs, Option.bind_assoc, dBin_sub, w1, w2]
  refine Wp.loop (fun kk ds g' => ∃ x y, ∃ P' U' V' Q' : List (Str × Str), ds = [.int .i64 U'.length, .int .i64 V'.length, x, y] ∧ kk = U'.length + V'.length ∧ 0 < U'.length ∧ 0 < V'.length ∧ P'.length + U'.length = mm ∧ P' ++ V' ++ U' ++ Q' = P ++ V ++ U ++ Q ∧ (P' ++ U' ++ V' ++ Q').length = N ∧ Same o g g' ∧ g'[o]? = some (.row ty109 2 ((P' ++ U' ++ V' ++ Q').map fld)))
    (fun r => r.1 = .ext 0 ∧ ∃ x y, ∃ P' U' V' Q' : List (Str × Str), r.2.1 = [.int .i64 U'.length, .int .i64 V'.length, x, y] ∧ U'.length = V'.length ∧ P'.length + U'.length = mm ∧ P' ++ V' ++ U' ++ Q' = P ++ V ++ U ++ Q ∧ (P' ++ U' ++ V' ++ Q').length = N ∧ Same o g r.2.2 ∧ r.2.2[o]? = some (.row ty109 2 ((P' ++ U' ++ V' ++ Q').map fld)))
    (U.length + V.length) ⟨_, _, P, U, V, Q, rfl, rfl, hU, hV, by omega, rfl, hlen, ⟨rfl, fun _ _ => rfl⟩, ho⟩ ?_ ?_
  · rintro kk ds g' ⟨x, y, P', U', V', Q', rfl, hk, h1, h2, h3, h4, h5, sm, ho'⟩
    have hl' := h5
    simp only [List.length_append] at hl'
    simp only [F1068_L0, nth_zero, nth_succ, bs, Option.bind_assoc, dBin_neq]
    refine Wp.dif ?_ ?_
    · intro h0
      have h0 : U'.length ≠ V'.length := by have : ¬ (U'.length : Int) = V'.length := by simpa using h0
                                            omega
      simp only [dBin_gtr, bs]
      have wi : IntKind.wrap .i64 ((mm : Int) - (U'.length : Int)) = (P'.length : Int) := by rw [wrap_i64 (by omega) (by omega)]; omega
      by_cases hgt : V'.length < U'.length
      · have hd : decide ((U'.length : Int) > (V'.length : Int)) = true := decide_eq_true (by omega)
        obtain ⟨X, M, hXM, hXl⟩ : ∃ X M, U' = X ++ M ∧ X.length = V'.length := ⟨U'.take V'.length, U'.drop V'.length, (List.take_append_drop _ _).symm, by simp; omega⟩
        subst hXM
        simp only [List.length_append] at *
        have wd : IntKind.wrap .i64 (((X.length + M.length : Nat) : Int) - (V'.length : Int)) = (M.length : Int) := by rw [wrap_i64 (by omega) (by omega)]; omega
        simp only [hd, dIf_bool, if_true, dBin_sub, wi, wd, bs, Option.bind_assoc]
        refine w1069 (P := P') (X := X) (M := M) (Y := V') (Q := Q') hN (by simp only [List.length_append]; omega) hXl (by simpa using ho') cmp _ _ _ rfl (by omega) (by omega) fun g1 p1 s1' => ?_
        simp only [bs, unblk_nrm, nth_zero, nth_succ]
        rw [← hXl]
        refine .some (.inl ⟨rfl, M.length + X.length, by omega, _, _, P' ++ V', M, X, Q', rfl, rfl, by omega, by omega, by simp only [List.length_append]; omega, by rw [← h4]; simp [-bind_some], by simp only [List.length_append]; omega, sm.trans s1', by rw [p1]⟩)
      · have hd : decide ((U'.length : Int) > (V'.length : Int)) = false := decide_eq_false (by omega)
        obtain ⟨M, Y, hMY, hYl⟩ : ∃ M Y, V' = M ++ Y ∧ Y.length = U'.length := ⟨V'.take (V'.length - U'.length), V'.drop (V'.length - U'.length), (List.take_append_drop _ _).symm, by simp; omega⟩
        subst hMY
        simp only [List.length_append] at *
        have we : IntKind.wrap .i64 ((mm : Int) + ((M.length + Y.length : Nat) : Int)) = ((mm + (M.length + Y.length) : Nat) : Int) := by rw [wrap_i64 (by omega) (by omega)]; omega
        have wf' : IntKind.wrap .i64 (((mm + (M.length + Y.length) : Nat) : Int) - (U'.length : Int)) = ((P'.length + U'.length + M.length : Nat) : Int) := by rw [wrap_i64 (by omega) (by omega)]; omega
        have wd : IntKind.wrap .i64 (((M.length + Y.length : Nat) : Int) - (U'.length : Int)) = (M.length : Int) := by rw [wrap_i64 (by omega) (by omega)]; omega
        simp only [hd, dIf_bool, Bool.false_eq_true, if_false, dBin_sub, dBin_add, wi, we, wf', wd, bs, Option.bind_assoc]
        refine w1069 (P := P') (X := U') (M := M) (Y := Y) (Q := Q') hN (by simp only [List.length_append]; omega) hYl.symm (by simpa using ho') cmp _ _ _ rfl rfl rfl fun g1 p1 s1' => ?_
        simp only [bs, unblk_nrm, nth_zero, nth_succ]
        rw [← hYl]
        refine .some (.inl ⟨rfl, Y.length + M.length, by omega, _, _, P', Y, M, U' ++ Q', rfl, rfl, by omega, by omega, by omega, by rw [← h4]; simp [-bind_some], by simp only [List.length_append]; omega, sm.trans s1', by rw [p1]; simp [-bind_some]⟩)
    · intro h0
      have h0 : U'.length = V'.length := by have : (U'.length : Int) = V'.length := by simpa using h0
                                            omega
      exact .some (.inr ⟨by simp, rfl, _, _, P', U', V', Q', rfl, h0, h3, h4, h5, sm, ho'⟩)
  · rintro ⟨ex, ds, g'⟩ ⟨rfl, x, y, P', U', V', Q', rfl, h0, h3, h4, h5, sm, ho'⟩
    have hl' := h5
    simp only [List.length_append] at hl'
    have wi : IntKind.wrap .i64 ((mm : Int) - (U'.length : Int)) = (P'.length : Int) := by rw [wrap_i64 (by omega) (by omega)]; omega
    simp only [unblk_self, toEnd_nrm, nth_zero, nth_succ, bs, Option.bind_assoc, dBin_sub, wi]
    refine w1069 (P := P') (X := U') (M := []) (Y := V') (Q := Q') hN (by simp only [List.length_append, List.length_nil]; omega) h0 (by simpa using ho') cmp _ _ _ rfl (by simp only [List.length_nil]; omega) rfl fun g1 p1 s1' => ?_
    simp only [bs]
    refine K g1 ?_ (sm.trans s1')
    rw [p1, ← h4]
    simp [-bind_some]
theorem swap_wp {g : Hp} {o : Nat} {A B : List (Str × Str)} {x y : Str × Str} {n : Nat} (hn : A.length = n) (ho : g[o]? = some (.row ty109 2 ((A ++ x :: y :: B).map fld))) {β : Type} {f : Hp → Option β} {Q : β → Prop}
    (K : ∀ g', g'[o]? = some (.row ty109 2 ((A ++ y :: x :: B).map fld)) → Same o g g' → Wp (f g') Q) : Wp ((dStore tab g ty109 (.ptr o n 0) (.agg (fld y))).bind fun g1 => (dStore tab g1 ty109 (.ptr o (n + 1) 0) (.agg (fld x))).bind f) Q := by
  have ra : ((A ++ x :: y :: B).map fld)[n]? = some (fld x) := by rw [List.getElem?_map, get_midn _ _ x _ hn]; rfl
  refine wst109 (off := 0) (row := fld x) (v := .agg (fld y)) ho ra (by rfl) (by exact Nat.le_refl _) (by rfl) fun g1 p1 w1 => ?_
  have e1 : A ++ y :: y :: B = (A ++ [y]) ++ y :: B := by simp
  have n1 : (A ++ [y]).length = n + 1 := by simp [-bind_some, hn]
  have p1 : g1[o]? = some (.row ty109 2 (((A ++ [y]) ++ y :: B).map fld)) := by
    rw [p1, show spl (fld x) 0 (cells1 (.agg (fld y))) = fld y from rfl, ← List.map_set, set_mid _ _ x y _ hn, e1]
  have rb : (((A ++ [y]) ++ y :: B).map fld)[n + 1]? = some (fld y) := by rw [List.getElem?_map, get_midn _ _ y _ n1]; rfl
  refine wst109 (off := 0) (row := fld y) (v := .agg (fld x)) p1 rb (by rfl) (by exact Nat.le_refl _) (by rfl) fun g2 p2 w2 => ?_
  refine K g2 ?_ (w1.trans w2)
  rw [p2, show spl (fld y) 0 (cells1 (.agg (fld x))) = fld x from rfl, ← List.map_set, set_mid _ _ y x _ n1]
  simp [-bind_some]
theorem swap_wp2 {g : Hp} {o : Nat} {A B : List (Str × Str)} {x y : Str × Str} {n : Nat} (hn : A.length = n) (ho : g[o]? = some (.row ty109 2 ((A ++ x :: y :: B).map fld))) {β : Type} {f : Hp → Option β} {Q : β → Prop}
    (K : ∀ g', g'[o]? = some (.row ty109 2 ((A ++ y :: x :: B).map fld)) → Same o g g' → Wp (f g') Q) : Wp ((dStore tab g ty109 (.ptr o (n + 1) 0) (.agg (fld x))).bind fun g1 => (dStore tab g1 ty109 (.ptr o n 0) (.agg (fld y))).bind f) Q := by
  have e1 : A ++ x :: y :: B = (A ++ [x]) ++ y :: B := by simp
  have n1 : (A ++ [x]).length = n + 1 := by simp [-bind_some, hn]
  rw [e1] at ho
  have rb : (((A ++ [x]) ++ y :: B).map fld)[n + 1]? = some (fld y) := by rw [List.getElem?_map, get_midn _ _ y _ n1]; rfl
  refine wst109 (off := 0) (row := fld y) (v := .agg (fld x)) ho rb (by rfl) (by exact Nat.le_refl _) (by rfl) fun g1 p1 w1 => ?_
  have p1 : g1[o]? = some (.row ty109 2 ((A ++ x :: x :: B).map fld)) := by
    rw [p1, show spl (fld y) 0 (cells1 (.agg (fld x))) = fld x from rfl, ← List.map_set, set_mid _ _ y x _ n1]
    simp [-bind_some]
  have ra : ((A ++ x :: x :: B).map fld)[n]? = some (fld x) := by rw [List.getElem?_map, get_midn _ _ x _ hn]; rfl
  refine wst109 (off := 0) (row := fld x) (v := .agg (fld y)) p1 ra (by rfl) (by exact Nat.le_refl _) (by rfl) fun g2 p2 w2 => ?_
  refine K g2 ?_ (w1.trans w2)
  rw [p2, show spl (fld x) 0 (cells1 (.agg (fld y))) = fld y from rfl, ← List.map_set, set_mid _ _ x y _ hn]
theorem ix29n {o N n : Nat} (h : n < N) : dIndexAddr tab ty29 (.msl 2 o 0 N) (.int .i64 (n : Int)) = some (.ptr o n 0) := by rw [ixm29, if_pos (by omega), Int.toNat_natCast, Nat.zero_add]
theorem wL4 {g : Hp} {o N : Nat} {P A Q : List (Str × Str)} {x : Str × Str} (hN : N ≤ 1000000000) (hlen : (P ++ x :: A ++ Q).length = N) (ho : g[o]? = some (.row ty109 2 ((P ++ x :: A ++ Q).map fld))) (r14 : Out) (hr : nth 0 r14.2.1 = .int .i64 ((P.length + A.length + 1 : Nat) : Int)) (a : Int) (ha : a = P.length) (x1 : D) {β : Type} {f : Out → Option β} {R1 : β → Prop}
    (K : ∀ g' b1 b2, g'[o]? = some (.row ty109 2 ((P ++ A ++ x :: Q).map fld)) → Same o g g' → Wp (f (.ext 2, [b1, b2], g')) R1) : Wp ((loopW (F1066_L4 (.msl 2 o 0 N) r14) [.int .i64 a, x1] g).bind f) R1 := by
  subst ha
  simp only [List.length_append, List.length_cons] at hlen
  refine Wp.loop (fun kk ds g' => ∃ y, ∃ i : Nat, ds = [.int .i64 ((P.length + i : Nat) : Int), y] ∧ kk + i = A.length ∧ Same o g g' ∧ g'[o]? = some (.row ty109 2 ((P ++ A.take i ++ x :: (A.drop i ++ Q)).map fld)))
    (fun r => r.1 = .ext 2 ∧ (∃ b1 b2, r.2.1 = [b1, b2]) ∧ Same o g r.2.2 ∧ r.2.2[o]? = some (.row ty109 2 ((P ++ A ++ x :: Q).map fld))) A.length ⟨_, 0, rfl, rfl, ⟨rfl, fun _ _ => rfl⟩, by simpa using ho⟩ ?_ ?_
  · rintro kk ds g' ⟨y1, i, rfl, hk, sm, ho'⟩
    have w0 : IntKind.wrap .i64 (((P.length + A.length + 1 : Nat) : Int) - 1) = ((P.length + A.length : Nat) : Int) := by rw [wrap_i64 (by omega) (by omega)]; omega
    simp only [F1066_L4, nth_zero, nth_succ, bs, Option.bind_assoc, hr, dBin_sub, w0, dBin_lss]
    refine Wp.dif ?_ ?_
    · intro h0
      have h0 : i < A.length := by have : ((P.length + i : Nat) : Int) < ((P.length + A.length : Nat) : Int) := by simpa using h0
                                   omega
      obtain ⟨y, hy⟩ : ∃ y, A[i]? = some y := ⟨_, List.getElem?_eq_getElem h0⟩
      have hdy : A.drop i = y :: A.drop (i + 1) := by
        obtain ⟨hn, hh⟩ := List.getElem?_eq_some_iff.1 hy
        rw [List.drop_eq_getElem_cons hn, hh]
      have hw : IntKind.wrap .i64 (((P.length + i : Nat) : Int) + 1) = ((P.length + i + 1 : Nat) : Int) := by
        rw [wrap_i64 (by omega) (by omega)]; omega
      have e1 : P ++ A.take i ++ x :: (A.drop i ++ Q) = (P ++ A.take i) ++ x :: y :: (A.drop (i + 1) ++ Q) := by rw [hdy]; simp [-bind_some]
      have e2 : (P ++ A.take i ++ [x]) ++ y :: (A.drop (i + 1) ++ Q) = (P ++ A.take i) ++ x :: y :: (A.drop (i + 1) ++ Q) := by simp
      have n1 : (P ++ A.take i).length = P.length + i := by simp; omega
      have n2 : (P ++ A.take i ++ [x]).length = P.length + i + 1 := by simp; omega
      rw [e1] at ho'
      have la := fldL ho' (get_midn _ _ x _ n1)
      have lb := fldL ho' (by rw [← e2]; exact get_midn _ _ y _ n2)
      have ia := @ix29n o N (P.length + i) (by omega)
      have ib := @ix29n o N (P.length + i + 1) (by omega)
      simp only [dBin_add, hw, ia, ib, la, lb, bs, Option.bind_assoc]
      refine swap_wp n1 ho' fun g2 p2 w2 => ?_
      try simp only [bs]
      refine .some (.inl ⟨rfl, kk - 1, by omega, _, i + 1, rfl, by omega, sm.trans w2, ?_⟩)
      rw [p2, List.take_add_one, hy]
      simp [-bind_some]
    · intro h0
      have h0 : i = A.length := by have : ¬ ((P.length + i : Nat) : Int) < ((P.length + A.length : Nat) : Int) := by simpa using h0
                                   omega
      subst h0
      rw [List.take_length, List.drop_length] at ho'
      exact .some (.inr ⟨by simp, rfl, ⟨_, _, rfl⟩, sm, by simpa using ho'⟩)
  · rintro ⟨ex, ds, g'⟩ ⟨rfl, ⟨b1, b2, rfl⟩, sm, p⟩
    exact K g' b1 b2 p sm
theorem wL2 {g : Hp} {o N : Nat} {P A Q : List (Str × Str)} {x : Str × Str} (hN : N ≤ 1000000000) (hlen : (P ++ A ++ x :: Q).length = N) (ho : g[o]? = some (.row ty109 2 ((P ++ A ++ x :: Q).map fld))) (r9 : Out) (hr : nth 0 r9.2.1 = .int .i64 (P.length : Int)) (m : Int) (hm : m = (P.length + A.length : Nat)) (x1 : D) {β : Type} {f : Out → Option β} {R1 : β → Prop}
    (K : ∀ g' b1 b2, g'[o]? = some (.row ty109 2 ((P ++ x :: A ++ Q).map fld)) → Same o g g' → Wp (f (.ext 6, [b1, b2], g')) R1) : Wp ((loopW (F1066_L2 (.msl 2 o 0 N) r9) [.int .i64 m, x1] g).bind f) R1 := by
  subst hm
  simp only [List.length_append, List.length_cons] at hlen
  refine Wp.loop (fun kk ds g' => ∃ y, ds = [.int .i64 ((P.length + kk : Nat) : Int), y] ∧ kk ≤ A.length ∧ Same o g g' ∧ g'[o]? = some (.row ty109 2 ((P ++ A.take kk ++ x :: (A.drop kk ++ Q)).map fld)))
    (fun r => r.1 = .ext 6 ∧ (∃ b1 b2, r.2.1 = [b1, b2]) ∧ Same o g r.2.2 ∧ r.2.2[o]? = some (.row ty109 2 ((P ++ x :: A ++ Q).map fld))) A.length ⟨_, rfl, Nat.le_refl _, ⟨rfl, fun _ _ => rfl⟩, by simpa using ho⟩ ?_ ?_
  · rintro kk ds g' ⟨y1, rfl, hk, sm, ho'⟩
    simp only [F1066_L2, nth_zero, nth_succ, bs, Option.bind_assoc, hr, dBin_gtr]
    refine Wp.dif ?_ ?_
    · intro h0
      have h0 : 0 < kk := by have : ((P.length + kk : Nat) : Int) > (P.length : Int) := by simpa using h0
                             omega
      obtain ⟨i, rfl⟩ : ∃ i, kk = i + 1 := ⟨kk - 1, by omega⟩
      obtain ⟨y, hy⟩ : ∃ y, A[i]? = some y := ⟨_, List.getElem?_eq_getElem (by omega)⟩
      have hdy : A.drop i = y :: A.drop (i + 1) := by
        obtain ⟨hn, hh⟩ := List.getElem?_eq_some_iff.1 hy
        rw [List.drop_eq_getElem_cons hn, hh]
      have hw : IntKind.wrap .i64 (((P.length + (i + 1) : Nat) : Int) - 1) = ((P.length + i : Nat) : Int) := by
        rw [wrap_i64 (by omega) (by omega)]; omega
      have e1 : P ++ A.take (i + 1) ++ x :: (A.drop (i + 1) ++ Q) = (P ++ A.take i) ++ y :: x :: (A.drop (i + 1) ++ Q) := by rw [List.take_add_one, hy]; simp [-bind_some]
      have e2 : (P ++ A.take i ++ [y]) ++ x :: (A.drop (i + 1) ++ Q) = (P ++ A.take i) ++ y :: x :: (A.drop (i + 1) ++ Q) := by simp
      have n1 : (P ++ A.take i).length = P.length + i := by simp; omega
      have n2 : (P ++ A.take i ++ [y]).length = P.length + i + 1 := by simp; omega
      rw [e1] at ho'
      have la := fldL ho' (get_midn _ _ y _ n1)
      have lb := fldL ho' (by rw [← e2]; exact get_midn _ _ x _ n2)
      have ia := @ix29n o N (P.length + i) (by omega)
      have ib := @ix29n o N (P.length + (i + 1)) (by omega)
      rw [show P.length + (i + 1) = P.length + i + 1 from rfl] at hw ib ⊢
      simp only [dBin_sub, hw, ia, ib, la, lb, bs, Option.bind_assoc]
      refine swap_wp2 n1 ho' fun g2 p2 w2 => ?_
      try simp only [bs]
      refine .some (.inl ⟨rfl, i, by omega, _, rfl, by omega, sm.trans w2, ?_⟩)
      rw [p2, hdy]
      simp [-bind_some]
    · intro h0
      have h0 : kk = 0 := by have : ¬ ((P.length + kk : Nat) : Int) > (P.length : Int) := by simpa using h0
                             omega
      subst h0
      exact .some (.inr ⟨by simp, rfl, ⟨_, _, rfl⟩, sm, by simpa using ho'⟩)
  · rintro ⟨ex, ds, g'⟩ ⟨rfl, ⟨b1, b2, rfl⟩, sm, p⟩
    exact K g' b1 b2 p sm
theorem mid_ok {i j : Nat} (hi : i ≤ 1000000000) (hj : j ≤ 1000000000) : IntKind.wrap .i64 ((i : Int) + j) = ((i + j : Nat) : Int) ∧ IntKind.wrap .u64 ((i + j : Nat) : Int) = ((i + j : Nat) : Int) ∧ (((i + j : Nat) : Int)).fdiv (2 ^ min ((1 : Int).toNat) IntKind.u64.bits) = (((i + j) / 2 : Nat) : Int) ∧ IntKind.wrap .i64 (((i + j) / 2 : Nat) : Int) = (((i + j) / 2 : Nat) : Int) := by
  have m1 : min ((1 : Int).toNat) IntKind.u64.bits = 1 := by decide
  have p1 : (2 : Int) ^ 1 = 2 := by decide
  refine ⟨?_, wrap_u64 (by omega) (by omega), ?_, wrap_i64 (by omega) (by omega)⟩
  · rw [wrap_i64 (by omega) (by omega)]; omega
  · rw [m1, p1, Int.fdiv_eq_ediv_of_nonneg _ (by omega)]; omega
theorem wL3 {g : Hp} {o N : Nat} {L : List (Str × Str)} (hN : N ≤ 1000000000) (hlen : L.length = N) (ho : g[o]? = some (.row ty109 2 (L.map fld))) (cmp : D) (a m b : Nat) (q : Nat → Prop) (ha : a < N) (hmb : m ≤ b) (hbN : b ≤ N) (x : Str × Str) (hx : L[a]? = some x)
    (hc : ∀ t y, m ≤ t → t < b → L[t]? = some y → ∃ v, callV R cmp [.agg (fld y), .agg (fld x)] g = some (.int .i64 v, g) ∧ (v < 0 ↔ q t)) (x1 x2 x3 : D) {β : Type} {f : Out → Option β} {Q : β → Prop}
    (K : ∀ (c : Nat) b1 b2 b3, m ≤ c → c ≤ b → (c = m ∨ q (c - 1)) → (c = b ∨ ¬ q c) → Wp (f (.ext 0, [.int .i64 (c : Int), .int .i64 (c : Int), b1, b2, b3], g)) Q) : Wp ((loopW (F1066_L3 (.msl 2 o 0 N) (.int .i64 (a : Int)) cmp) [.int .i64 (m : Int), .int .i64 (b : Int), x1, x2, x3] g).bind f) Q := by
  refine Wp.loop (fun kk ds g' => g' = g ∧ ∃ y1 y2 y3, ∃ i j : Nat, ds = [.int .i64 (i : Int), .int .i64 (j : Int), y1, y2, y3] ∧ kk = j - i ∧ m ≤ i ∧ i ≤ j ∧ j ≤ b ∧ (i = m ∨ q (i - 1)) ∧ (j = b ∨ ¬ q j))
    (fun r => r.1 = .ext 0 ∧ r.2.2 = g ∧ ∃ b1 b2 b3, ∃ c : Nat, r.2.1 = [.int .i64 (c : Int), .int .i64 (c : Int), b1, b2, b3] ∧ m ≤ c ∧ c ≤ b ∧ (c = m ∨ q (c - 1)) ∧ (c = b ∨ ¬ q c)) (b - m) ⟨rfl, _, _, _, m, b, rfl, rfl, Nat.le_refl _, hmb, Nat.le_refl _, .inl rfl, .inl rfl⟩ ?_ ?_
  · rintro kk ds g' ⟨rfl, y1, y2, y3, i, j, rfl, hk, h1, h2, h3, h4, h5⟩
    simp only [F1066_L3, nth_zero, nth_succ, bs, Option.bind_assoc, dBin_lss]
    refine Wp.dif ?_ ?_
    · intro h0
      have h0 : i < j := by have : (i : Int) < (j : Int) := by simpa using h0
                            omega
      obtain ⟨u1, u2, u3, u4⟩ := @mid_ok i j (by omega) (by omega)
      obtain ⟨y, hy⟩ : ∃ y, L[(i + j) / 2]? = some y := ⟨_, List.getElem?_eq_getElem (by omega)⟩
      obtain ⟨v, hv, hvc⟩ := hc ((i + j) / 2) y (by omega) (by omega) hy
      have ia := @ix29n o N ((i + j) / 2) (by omega)
      have ib := @ix29n o N a ha
      have la := fldL ho hy
      have lb := fldL ho hx
      have w1 : IntKind.wrap .i64 ((((i + j) / 2 : Nat) : Int) + 1) = (((i + j) / 2 + 1 : Nat) : Int) := by rw [wrap_i64 (by omega) (by omega)]; omega
      simp only [dBin_add, u1, cv3_134, u2, dBin_shr, show ¬ (1 : Int) < 0 by omega, if_false, u3, cv134_3, u4, ia, ib, la, lb, hv, bs, dBin_lss, Option.bind_assoc]
      by_cases hlt : v < 0
      · have := hvc.1 hlt
        simp only [hlt, decide_true, dIf_bool, if_true, w1, bs, unblk_nrm, nth_zero, nth_succ]
        exact .some (.inl ⟨rfl, j - ((i + j) / 2 + 1), by omega, rfl, _, _, _, _, _, rfl, rfl, by omega, by omega, by omega, .inr (by simpa using this), h5⟩)
      · have := fun h => hlt (hvc.2 h)
        simp only [hlt, decide_false, dIf_bool, Bool.false_eq_true, if_false, bs, unblk_nrm, nth_zero, nth_succ]
        exact .some (.inl ⟨rfl, (i + j) / 2 - i, by omega, rfl, _, _, _, _, _, rfl, rfl, by omega, by omega, by omega, h4, .inr this⟩)
    · intro h0
      have h0 : ¬ i < j := by have : ¬ (i : Int) < (j : Int) := by simpa using h0
                              omega
      obtain rfl : j = i := by omega
      exact .some (.inr ⟨by simp, rfl, rfl, _, _, _, j, rfl, h1, h3, h4, h5⟩)
  · rintro ⟨ex, ds, g'⟩ ⟨rfl, q2, b1, b2, b3, c, rfl, k1, k2, k3, k4⟩
    simp only at q2
    subst q2
    exact K c b1 b2 b3 k1 k2 k3 k4
end Go.Proofs.YtlpedofpnbggbaaDoor
