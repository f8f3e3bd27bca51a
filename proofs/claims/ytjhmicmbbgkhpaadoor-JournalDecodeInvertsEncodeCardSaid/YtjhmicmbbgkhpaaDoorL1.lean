/- Laws, on plain data, about functions that the statement reaches. -/
import Derived.Test.YtjhmicmbbgkhpaaDoorT9
set_option linter.unusedSimpArgs false
set_option linter.unusedVariables false
set_option linter.unnecessarySimpa false
set_option maxRecDepth 100000
namespace Go.Proofs.YtjhmicmbbgkhpaaDoor
open Go.Eng Go.Pi
abbrev Str := List UInt8
def fld (p : Str × Str) : List D := [.str p.1, .str p.2]
/-- A line. -/
structure Lin where
  off : Int
  len : Int
  txt : Str
  deriving DecidableEq
def linr (l : Lin) : List D := [.int .i64 l.off, .int .i64 l.len, .str l.txt]
/-- An event. -/
structure Ev where
  a0 : Int
  a1 : Int
  a2 : Int
  a3 : Int
  ls : List Lin
  ld : D
  a5 : Int
  a6 : Int
  s7 : Str
  s8 : Str
  fs : List (Str × Str)
  fd : D
  hfd : SlOf 2 fld fs fd
  hl : fs.length ≤ 9223372036854775807
  hld : SlOf 3 linr ls ld
  hll : ls.length ≤ 9223372036854775807
def evr (e : Ev) : List D := [.int .i64 e.a0, .int .i64 e.a1, .int .i64 e.a2, .int .i64 e.a3, e.ld, .int .i64 e.a5, .int .i64 e.a6, .str e.s7, .str e.s8, e.fd]
structure It where
  r : Str
  e : Ev
def itr (i : It) : List D := .str i.r :: evr i.e
theorem fld_frz (n0 : Nat) (h : Hp) (n : Nat) (p : Str × Str) : ∀ d ∈ fld p, frz n0 h n d = d := by simp [-Option.bind_some, fld]
theorem fld_ok (n : Nat) (p : Str × Str) : ∀ d ∈ fld p, Ok n d := by
  intro d hd
  simp [-Option.bind_some, fld] at hd
  rcases hd with rfl | rfl <;> constructor
theorem linr_frz (n0 : Nat) (h : Hp) (n : Nat) (p : Lin) : ∀ d ∈ linr p, frz n0 h n d = d := by simp [-Option.bind_some, linr]
theorem linr_ok (n : Nat) (p : Lin) : ∀ d ∈ linr p, Ok n d := by
  intro d hd
  simp [-Option.bind_some, linr] at hd
  rcases hd with rfl | rfl | rfl <;> constructor
theorem evr_frz (n0 : Nat) (h : Hp) (n : Nat) (e : Ev) : ∀ d ∈ evr e, frz n0 h (n + 1) d = d := by
  intro d hd
  simp [-Option.bind_some, evr] at hd
  rcases hd with rfl | rfl | rfl | rfl | rfl | rfl | rfl | rfl | rfl | rfl
  all_goals first | exact slof_frz e.hld (fun a _ => linr_frz _ _ _ a) | exact slof_frz e.hfd (fun a _ => fld_frz _ _ _ a) | simp [-Option.bind_some]
theorem evr_ok (n : Nat) (e : Ev) : ∀ d ∈ evr e, Ok n d := by
  intro d hd
  simp [-Option.bind_some, evr] at hd
  rcases hd with rfl | rfl | rfl | rfl | rfl | rfl | rfl | rfl | rfl | rfl
  all_goals first | exact slof_ok e.hld (fun a _ => linr_ok _ a) | exact slof_ok e.hfd (fun a _ => fld_ok _ a) | constructor
theorem itr_ok (n : Nat) (i : It) : Ok n (.agg (itr i)) := by
  refine .agg _ fun d hd => ?_
  simp [-Option.bind_some, itr, evr] at hd
  rcases hd with rfl | rfl | rfl | rfl | rfl | rfl | rfl | rfl | rfl | rfl | rfl
  all_goals first | exact slof_ok i.e.hld (fun a _ => linr_ok _ a) | exact slof_ok i.e.hfd (fun a _ => fld_ok _ a) | constructor
theorem itr_frz (n0 : Nat) (h : Hp) (n : Nat) (i : It) : ∀ d ∈ itr i, frz n0 h (n + 1) d = d := by
  intro d hd
  rcases List.mem_cons.1 hd with rfl | hd
  · simp [-Option.bind_some]
  · exact evr_frz n0 h n i.e d hd
theorem itr_oks (n : Nat) (i : It) : ∀ d ∈ itr i, Ok n d := by
  intro d hd
  rcases List.mem_cons.1 hd with rfl | hd
  · exact .str _
  · exact evr_ok n i.e d hd
theorem evL (e : Ev) (h : Hp) : dLoad tab h ty31 (.fptr (evr e)) = some (.agg (evr e)) := id rfl
theorem itF1 (i : It) : dFieldAddr tab ty74 1 (.fptr (itr i)) = some (.fptr (evr i.e)) := id rfl
theorem itF0 (i : It) : dFieldAddr tab ty74 0 (.fptr (itr i)) = some (.fptr (itr i)) := id rfl
theorem itL0 (i : It) (h : Hp) : dLoad tab h ty9 (.fptr (itr i)) = some (.str i.r) := id rfl
theorem ldIt (i : It) (h : Hp) : dLoad tab h ty74 (.fptr (itr i)) = some (.agg (itr i)) := id rfl
theorem boxIt (i : It) : boxN 11 (.agg (itr i)) = some (.fptr (itr i)) := boxN_agg 11 _ rfl
theorem bsIt (i : It) : pLitF tab ty113 1 [0] [.agg (itr i)] = some (.sl 11 true [itr i]) := id rfl
theorem toIt (i : It) (h : Hp) : ((dFieldAddr tab ty74 1 (.fptr (itr i))).bind fun p => (dFieldAddr tab ty31 3 p).bind fun q => dLoad tab h ty3 q) = some (.int .i64 i.e.a3) := by simp [-Option.bind_some, itr, evr]
theorem own_dis {h : Hp} {n e z n' e' z' q : Nat} {rows rows' : List (List D)} {d d' : D} (a : Own h n e z rows d) (b : Own h n' e' z' rows' d') (hne : e ≠ e') (hd : d.inOb q) : ¬ d'.inOb q := by
  rintro ⟨z2, m2, rfl⟩
  obtain ⟨z1, m1, rfl⟩ := hd
  rcases a with ⟨ha, _⟩ | ⟨o1, _, ha, ga⟩
  · cases ha
  rcases b with ⟨hb, _⟩ | ⟨o2, _, hb, gb⟩
  · cases hb
  injection ha with _ ha
  injection hb with _ hb
  subst ha; subst hb
  rw [ga] at gb
  injection gb with gb
  injection gb with gb
  exact hne gb
theorem linr_ld (l : Lin) (h : Hp) : dLoad tab h ty78 (.fptr (linr l)) = some (.agg (linr l)) := id rfl
theorem fld_ld (l : Str × Str) (h : Hp) : dLoad tab h ty109 (.fptr (fld l)) = some (.agg (fld l)) := id rfl
theorem lin_neq (a b : Lin) : dBin tab .neq ty78 (.agg (linr a)) (.agg (linr b)) = some (.bool (decide (a ≠ b))) := by
  obtain ⟨a0, a1, a2⟩ := a
  obtain ⟨b0, b1, b2⟩ := b
  simp [-Option.bind_some, linr]
  by_cases h0 : a0 = b0 <;> by_cases h1 : a1 = b1 <;> by_cases h2 : a2 = b2 <;> simp [-Option.bind_some, h0, h1, h2]
theorem fld_neq (a b : Str × Str) : dBin tab .neq ty109 (.agg (fld a)) (.agg (fld b)) = some (.bool (decide (a ≠ b))) := by
  obtain ⟨a0, a1⟩ := a
  obtain ⟨b0, b1⟩ := b
  simp [-Option.bind_some, fld]
  by_cases h0 : a0 = b0 <;> by_cases h1 : a1 = b1 <;> simp [-Option.bind_some, h0, h1]

def byr (z : Int) : List D := [.int .u8 z]
theorem byr_frz (n0 : Nat) (h : Hp) (n : Nat) (z : Int) : ∀ d ∈ byr z, frz n0 h n d = d := by simp [-Option.bind_some, byr]
theorem byr_ok (n : Nat) (z : Int) : ∀ d ∈ byr z, Ok n d := by
  intro d hd
  simp [-Option.bind_some, byr] at hd
  subst hd
  constructor
theorem byr_ld (z : Int) (h : Hp) : dLoad tab h ty5 (.fptr (byr z)) = some (.int .u8 z) := id rfl
/-- Four bytes of a number, the highest first. -/
def fixb (n : Int) : List Int := [IntKind.wrap .u8 (n.fdiv (2 ^ 24)), IntKind.wrap .u8 (n.fdiv (2 ^ 16)), IntKind.wrap .u8 (n.fdiv (2 ^ 8)), IntKind.wrap .u8 n]
theorem s1027 (n : Int) (h : Hp) : R fn1027 [.int .u32 n] h = some (.sl 1 true ((fixb n).map byr), h) := by
  rw [e1027]
  simp only [F1027, bs, dBin_shr, show ¬ (24 : Int) < 0 by omega, show ¬ (16 : Int) < 0 by omega, show ¬ (8 : Int) < 0 by omega, if_false, cv65_5, bs22_4, mkRes_one]
  rfl
theorem l1030 (v : Int) (n0 : Nat) : ∀ (k : Nat), k ≤ 4 → ∀ (h : Hp) (rows : List (List D)) (d a : D), n0 ≤ h.length → Own h n0 ty5 1 rows d → rows.length + k ≤ 1000000000 → ∃ d' h' b, loopW (F1030_L0 (.int .u64 v)) [d, .int .i64 ((k : Int) - 1), a] h = some (.ext 0, [d', b, .bool false], h') ∧
    Own h' n0 ty5 1 (rows ++ (((fixb v).drop (4 - k)).map byr)) d' ∧ h.length ≤ h'.length ∧ (∀ q, q < h.length → ¬ d.inOb q → h'[q]? = h[q]?) ∧ ∀ q, d'.inOb q → d.inOb q ∨ h.length ≤ q := by
  intro k
  induction k with
  | zero =>
    intro _ h rows d a hn ow hr
    rw [loopW_eq]
    refine ⟨d, h, _, by simp [-Option.bind_some, F1030_L0]; rfl, ?_, Nat.le_refl _, fun _ _ _ => rfl, fun q hq => .inl hq⟩
    simpa [-Option.bind_some, fixb] using ow
  | succ k ih =>
    intro hk h rows d a hn ow hr
    have hg : (0 : Int) ≤ ((k + 1 : Nat) : Int) - 1 := by omega
    have hw1 : IntKind.wrap .i64 (8 * (((k + 1 : Nat) : Int) - 1)) = 8 * (k : Int) := by rw [wrap_i64 (by omega) (by omega)]; omega
    have hw2 : IntKind.wrap .i64 (((k + 1 : Nat) : Int) - 1 - 1) = (k : Int) - 1 := by rw [wrap_i64 (by omega) (by omega)]; omega
    have h8 : ¬ (8 * (k : Int)) < 0 := by omega
    have hby : (fixb v).drop (4 - (k + 1)) = IntKind.wrap .u8 (v.fdiv (2 ^ (min (8 * (k : Int)).toNat IntKind.u64.bits))) :: (fixb v).drop (4 - k) := by
      have hk4 : k = 0 ∨ k = 1 ∨ k = 2 ∨ k = 3 := by omega
      rcases hk4 with rfl | rfl | rfl | rfl
      · simp [-Option.bind_some, fixb, IntKind.bits]
      all_goals rfl
    have key := @wap22 h n0 hn rows d (.sl 1 true [byr (IntKind.wrap .u8 (v.fdiv (2 ^ (min (8 * (k : Int)).toNat IntKind.u64.bits))))]) ow _ (rowsOf_sl _ _ _ _) (by simp [-Option.bind_some]; omega) _ (fun r => some r)
      (fun r => Own r.2 n0 ty5 1 (rows ++ [byr (IntKind.wrap .u8 (v.fdiv (2 ^ (min (8 * (k : Int)).toNat IntKind.u64.bits))))]) r.1 ∧ h.length ≤ r.2.length ∧ (∀ q, q < h.length → ¬ d.inOb q → r.2[q]? = h[q]?) ∧ ∀ q, r.1.inOb q → d.inOb q ∨ h.length ≤ q) (fun x' h' a b _ c e => .some ⟨a, b, c, e⟩)
    obtain ⟨⟨x', g⟩, e1, ow1, len, bel, fre⟩ := key
    replace len : h.length ≤ g.length := len
    replace bel : ∀ q, q < h.length → ¬ d.inOb q → g[q]? = h[q]? := bel
    replace fre : ∀ q, x'.inOb q → d.inOb q ∨ h.length ≤ q := fre
    have e1' : dAppend tab h ty22 ty22 d (.sl 1 true [byr (IntKind.wrap .u8 (v.fdiv (2 ^ (min (8 * (k : Int)).toNat IntKind.u64.bits))))]) = some (x', g) := by
      cases hq : dAppend tab h ty22 ty22 d (.sl 1 true [byr (IntKind.wrap .u8 (v.fdiv (2 ^ (min (8 * (k : Int)).toNat IntKind.u64.bits))))]) with
      | none => rw [hq] at e1; cases e1
      | some r => rw [hq] at e1; exact e1
    obtain ⟨d', h', b, e2, ow2, len2, bel2, fre2⟩ := ih (by omega) g _ x' (.bool true) (Nat.le_trans hn len) ow1 (by simp [-Option.bind_some]; omega)
    refine ⟨d', h', b, ?_, ?_, Nat.le_trans len len2, fun q hq hd => (bel2 q (by omega) fun hx => by rcases fre q hx with h1 | h1 <;> first | exact hd h1 | omega).trans (bel q hq hd), fun q hq => ?_⟩
    · rw [loopW_eq]
      simp only [F1030_L0, nth_zero, nth_succ, bs, dBin_geq, decide_eq_true hg, dIf_bool, if_true, dBin_mul, hw1, dBin_shr, h8, if_false, cv1029_5, bs22_1, show ∀ z, ([[D.int .u8 z]] : List (List D)) = [byr z] from fun _ => rfl, e1', dBin_sub, hw2]
      exact e2
    · rw [hby, List.map_cons]
      simpa [-Option.bind_some] using ow2
    · rcases fre2 q hq with h1 | h1
      · exact fre q h1
      · right; omega
theorem s1030 (v : Int) (n0 : Nat) (h : Hp) (rows : List (List D)) (d : D) (hn : n0 ≤ h.length) (ow : Own h n0 ty5 1 rows d) (hr : rows.length ≤ 999999000) : ∃ d' h', R fn1030 [d, .int .u64 v, .int .i64 4] h = some (d', h') ∧ Own h' n0 ty5 1 (rows ++ (fixb v).map byr) d' ∧ h.length ≤ h'.length ∧ (∀ q, q < h.length → ¬ d.inOb q → h'[q]? = h[q]?) ∧ ∀ q, d'.inOb q → d.inOb q ∨ h.length ≤ q := by
  obtain ⟨d', h', b, e1, o1, o2, o3⟩ := l1030 v n0 4 (by omega) h rows d .any hn ow (by omega)
  refine ⟨d', h', ?_, by simpa [-Option.bind_some] using o1, o2, o3⟩
  rw [e1030]
  have hw : IntKind.wrap .i64 ((4 : Int) - 1) = ((4 : Nat) : Int) - 1 := by rw [wrap_i64 (by omega) (by omega)]; rfl
  simp only [F1030, bs, dBin_sub, hw, Option.bind_assoc, e1, unblk_self, toEnd_nrm, nth_zero, mkRes_one]
/-- One bit of the checksum. -/
def stp (c : Int) : Int := if c % 2 = 1 then IntKind.wrap .u32 (BitVec.ofInt IntKind.u32.bits (c.fdiv 2) ^^^ BitVec.ofInt IntKind.u32.bits 3988292384).toNat else c.fdiv 2
def U32 (c : Int) : Prop := 0 ≤ c ∧ c < 4294967296
theorem wrap_u32 {n : Int} (h0 : 0 ≤ n) (h1 : n < 4294967296) : IntKind.wrap .u32 n = n := by
  unfold IntKind.wrap
  simp [-Option.bind_some, IntKind.signed, IntKind.bits, IntKind.min, IntKind.max]
  omega
theorem bv_u32 (x : BitVec IntKind.u32.bits) : U32 (x.toNat : Int) := by
  have := x.isLt
  have h2 : (2 : Nat) ^ IntKind.u32.bits = 4294967296 := by decide
  constructor <;> omega
theorem wrap_bv (x : BitVec IntKind.u32.bits) : IntKind.wrap .u32 (x.toNat : Int) = x.toNat := wrap_u32 (bv_u32 x).1 (bv_u32 x).2
theorem half_u32 {c : Int} (h : U32 c) : U32 (c.fdiv 2) := by
  rw [Int.fdiv_eq_ediv_of_nonneg _ (by omega)]
  unfold U32 at *
  omega
theorem stp_u32 {c : Int} (h : U32 c) : U32 (stp c) := by
  unfold stp
  split
  · rw [wrap_bv]; exact bv_u32 _
  · exact half_u32 h
theorem of_u32 {c : Int} (h : U32 c) : ((BitVec.ofInt IntKind.u32.bits c).toNat : Int) = c := by
  rw [BitVec.toNat_ofInt]
  have h2 : ((2 ^ IntKind.u32.bits : Nat) : Int) = 4294967296 := by decide
  rw [h2, Int.emod_eq_of_lt h.1 h.2]
  exact Int.toNat_of_nonneg h.1
theorem and1 {c : Int} (h : U32 c) : IntKind.wrap .u32 (BitVec.ofInt IntKind.u32.bits c &&& BitVec.ofInt IntKind.u32.bits 1).toNat = c % 2 := by
  rw [wrap_bv, BitVec.toNat_and]
  have h1 : (BitVec.ofInt IntKind.u32.bits 1).toNat = 1 := by decide
  rw [h1, Nat.and_one_is_mod]
  have := of_u32 h
  omega
theorem pw1 : (2 : Int) ^ (min (Int.toNat 1) IntKind.u32.bits) = 2 := by decide
theorem stp_prog {c : Int} (h : U32 c) : IntKind.wrap .u32 (BitVec.ofInt IntKind.u32.bits (c.fdiv 2) ^^^ BitVec.ofInt IntKind.u32.bits (IntKind.wrap .u32 (BitVec.ofInt IntKind.u32.bits 3988292384 &&& BitVec.ofInt IntKind.u32.bits (IntKind.wrap .u32 (0 - c % 2))).toNat)).toNat = stp c := by
  have h2 : c % 2 = 0 ∨ c % 2 = 1 := by omega
  unfold stp
  rcases h2 with h2 | h2
  · rw [h2]
    have h3 : IntKind.wrap .u32 (BitVec.ofInt IntKind.u32.bits 3988292384 &&& BitVec.ofInt IntKind.u32.bits (IntKind.wrap .u32 (0 - 0))).toNat = 0 := by decide
    rw [h3]
    have h4 : BitVec.ofInt IntKind.u32.bits 0 = 0#_ := by decide
    simp only [h4, BitVec.xor_zero]
    rw [wrap_bv, of_u32 (half_u32 h)]
    simp [-Option.bind_some]
  · rw [h2]
    have h3 : IntKind.wrap .u32 (BitVec.ofInt IntKind.u32.bits 3988292384 &&& BitVec.ofInt IntKind.u32.bits (IntKind.wrap .u32 (0 - 1))).toNat = 3988292384 := by decide
    rw [h3]
    simp [-Option.bind_some]
def stps : Nat → Int → Int
  | 0, c => c
  | n + 1, c => stps n (stp c)
theorem stps_u32 : ∀ (n : Nat) {c : Int}, U32 c → U32 (stps n c)
  | 0, c, h => h
  | n + 1, c, h => stps_u32 n (stp_u32 h)
theorem stps_succ : ∀ (n : Nat) (c : Int), stps (n + 1) c = stp (stps n c)
  | 0, c => rfl
  | n + 1, c => by
    rw [stps, stps_succ n (stp c)]
    rfl
/-- One byte. -/
def byt (c z : Int) : Int := stps 8 (IntKind.wrap .u32 (BitVec.ofInt IntKind.u32.bits c ^^^ BitVec.ofInt IntKind.u32.bits (IntKind.wrap .u32 z)).toNat)
def crcL : Int → List Int → Int
  | c, [] => c
  | c, z :: r => crcL (byt c z) r
def crc (l : List Int) : Int := IntKind.wrap .u32 (BitVec.ofInt IntKind.u32.bits (if IntKind.u32.signed then -1 else IntKind.u32.max) ^^^ BitVec.ofInt IntKind.u32.bits (crcL 4294967295 l)).toNat
theorem crc_u32 (l : List Int) : U32 (crc l) := by unfold crc; rw [wrap_bv]; exact bv_u32 _
theorem l1033 (h : Hp) {β : Type} {K : Out → Option β} {Q : β → Prop} (c : Int) (hc : U32 c) (a : D) (cont : ∀ a b, Wp (K (.ext 2, [.int .u32 (stps 8 c), a, b], h)) Q) : Wp ((loopW F1033_L1 [.int .u32 c, .int .i64 0, a] h).bind K) Q := by
  refine Wp.loop (fun k ds g => g = h ∧ ∃ a, ∃ i : Nat, ds = [.int .u32 (stps i c), .int .i64 i, a] ∧ k + i = 8) (fun r => r.1 = .ext 2 ∧ r.2.2 = h ∧ ∃ a b, r.2.1 = [.int .u32 (stps 8 c), a, b]) 8 ⟨rfl, _, 0, rfl, rfl⟩ ?_ ?_
  · rintro k ds g ⟨rfl, a, i, rfl, hk⟩
    have hu := stps_u32 i hc
    simp only [F1033_L1, nth_zero, nth_succ, bs, Option.bind_assoc, dBin_lss]
    refine Wp.dif ?_ ?_
    · intro h0
      have h0 : i < 8 := by have : (i : Int) < 8 := by simpa [-Option.bind_some] using h0
                            omega
      have hw : IntKind.wrap .i64 ((i : Int) + 1) = ((i + 1 : Nat) : Int) := by
        rw [wrap_i64 (by omega) (by omega)]; omega
      simp only [dBin_shr, show ¬ (1 : Int) < 0 by omega, if_false, pw1, dBin_and, bs, dUn_neg, and1 hu, dBin_xor, stp_prog hu, dBin_add, hw, ← stps_succ]
      exact .some (.inl ⟨rfl, k - 1, by omega, rfl, _, i + 1, rfl, by omega⟩)
    · intro h0
      have h0 : i = 8 := by have : ¬ (i : Int) < 8 := by simpa [-Option.bind_some] using h0
                            omega
      subst h0
      exact .some (.inr ⟨by simp [-Option.bind_some], rfl, rfl, _, _, rfl⟩)
  · rintro ⟨x, ds, g⟩ ⟨rfl, rfl, a, b, rfl⟩
    exact cont a b
theorem l1031 (h : Hp) {β : Type} {K : Out → Option β} {Q : β → Prop} (c : Int) (hc : U32 c) (a e : D) (cont : ∀ a b e, Wp (K (.ext 2, [.int .u32 (stps 8 c), a, b, e], h)) Q) : Wp ((loopW F1031_L1 [.int .u32 c, .int .i64 0, a, e] h).bind K) Q := by
  refine Wp.loop (fun k ds g => g = h ∧ ∃ a e, ∃ i : Nat, ds = [.int .u32 (stps i c), .int .i64 i, a, e] ∧ k + i = 8) (fun r => r.1 = .ext 2 ∧ r.2.2 = h ∧ ∃ a b e, r.2.1 = [.int .u32 (stps 8 c), a, b, e]) 8 ⟨rfl, _, _, 0, rfl, rfl⟩ ?_ ?_
  · rintro k ds g ⟨rfl, a, e, i, rfl, hk⟩
    have hu := stps_u32 i hc
    simp only [F1031_L1, nth_zero, nth_succ, bs, Option.bind_assoc, dBin_lss]
    refine Wp.dif ?_ ?_
    · intro h0
      have h0 : i < 8 := by have : (i : Int) < 8 := by simpa [-Option.bind_some] using h0
                            omega
      have hw : IntKind.wrap .i64 ((i : Int) + 1) = ((i + 1 : Nat) : Int) := by
        rw [wrap_i64 (by omega) (by omega)]; omega
      simp only [dBin_and, bs, and1 hu, dBin_eql]
      refine Wp.join (P := fun r => r = (.nrm, [.int .u32 (stps (i + 1) c)], g)) ?_ ?_ ?_
      · intro h1
        have h1 : stps i c % 2 = 1 := by simpa [-Option.bind_some] using h1
        simp only [dBin_shr, show ¬ (1 : Int) < 0 by omega, if_false, pw1, bs, dBin_xor]
        refine .some ?_
        rw [stps_succ]
        simp [-Option.bind_some, stp, h1]
      · intro h1
        have h1 : ¬ stps i c % 2 = 1 := by simpa [-Option.bind_some] using h1
        simp only [dBin_shr, show ¬ (1 : Int) < 0 by omega, if_false, pw1, bs]
        refine .some ?_
        rw [stps_succ]
        simp [-Option.bind_some, stp, h1]
      · rintro _ rfl
        simp only [unblk_nrm, toEnd_nrm, nth_zero, bs, dBin_add, hw]
        exact .some (.inl ⟨rfl, k - 1, by omega, rfl, _, _, i + 1, rfl, by omega⟩)
    · intro h0
      have h0 : i = 8 := by have : ¬ (i : Int) < 8 := by simpa [-Option.bind_some] using h0
                            omega
      subst h0
      exact .some (.inr ⟨by simp [-Option.bind_some], rfl, rfl, _, _, _, rfl⟩)
  · rintro ⟨x, ds, g⟩ ⟨rfl, rfl, a, b, e, rfl⟩
    exact cont a b e
theorem crcL_snoc : ∀ (l : List Int) (c z : Int), crcL c (l ++ [z]) = byt (crcL c l) z
  | [], c, z => rfl
  | x :: r, c, z => crcL_snoc r (byt c x) z
theorem s1031 (l : List Int) (d : D) (h : Hp) (hd : SlOf 1 byr l d ∨ ∃ n0 e, Own h n0 e 1 (l.map byr) d) (hl : l.length ≤ 9223372036854775807) : R fn1031 [d] h = some (.int .u32 (crc l), h) := by
  suffices Wp (R fn1031 [d] h) (fun p => p = (.int .u32 (crc l), h)) by
    obtain ⟨p, h1, rfl⟩ := this
    exact h1
  have hlen : dLenT tab ty22 d = some (.int .i64 l.length) := by
    rcases hd with hd | ⟨n0, e, hd⟩
    · exact lens22 hd
    · rw [leno22 hd]; simp [-Option.bind_some]
  have hix : ∀ (i : Nat) (z : Int), l[i]? = some z → ∃ p, dIndexAddr tab ty22 d (.int .i64 i) = some p ∧ dLoad tab h ty5 p = some (.int .u8 z) := by
    intro i z hg
    rcases hd with hd | ⟨n0, e, hd⟩
    · exact ⟨.fptr (byr z), by rw [ixs22 hd]; simp [-Option.bind_some, hg], byr_ld _ _⟩
    · have hi := (List.getElem?_eq_some_iff.1 hg).1
      obtain ⟨ob, h1, rfl, hgo⟩ := own_ix hd (i := i) (by simpa [-Option.bind_some] using hi)
      exact ⟨.ptr ob i 0, by simp [-Option.bind_some, hi], by rw [ldp5, row_of hgo]; simp [-Option.bind_some, hg, byr]⟩
  rw [e1031]
  simp only [F1031, bs, Option.bind_assoc]
  refine Wp.loop (fun k ds g => g = h ∧ ∃ b c e f, ∃ i : Nat, ds = [.int .u32 (crcL 4294967295 (l.take i)), .int .i64 i, b, c, e, f] ∧ k + i = l.length) (fun r => r.1 = .ext 0 ∧ r.2.2 = h ∧ nth 0 r.2.1 = .int .u32 (crcL 4294967295 l)) l.length ⟨rfl, _, _, _, _, 0, rfl, rfl⟩ ?_ ?_
  · rintro k ds g ⟨rfl, b, c, e, f, i, rfl, hk⟩
    simp only [F1031_L0, nth_zero, nth_succ, bs, Option.bind_assoc, hlen, dBin_lss]
    refine Wp.dif ?_ ?_
    · intro h0
      have h0 : i < l.length := by have : (i : Int) < l.length := by simpa [-Option.bind_some] using h0
                                   omega
      have hg : l[i]? = some l[i] := List.getElem?_eq_getElem h0
      have htk : l.take (i + 1) = l.take i ++ [l[i]] := by rw [List.take_add_one, hg]; rfl
      generalize l[i] = z at hg htk
      have hw : IntKind.wrap .i64 ((i : Int) + 1) = ((i + 1 : Nat) : Int) := by
        rw [wrap_i64 (by omega) (by omega)]; omega
      obtain ⟨p, hp1, hp2⟩ := hix i z hg
      simp only [hp1, hp2, bs, cv5_65, dBin_xor]
      have hst : stps 8 (IntKind.wrap .u32 (BitVec.ofInt IntKind.u32.bits (crcL 4294967295 (l.take i)) ^^^ BitVec.ofInt IntKind.u32.bits (IntKind.wrap .u32 z)).toNat) = crcL 4294967295 (l.take (i + 1)) := by rw [htk, crcL_snoc]; rfl
      refine l1031 g _ (by rw [wrap_bv]; exact bv_u32 _) _ _ fun a b e => ?_
      simp only [unblk_self, unblk_nrm, toEnd_nrm, nth_zero, nth_succ, bs, dBin_add, hw, hst]
      exact .some (.inl ⟨rfl, k - 1, by omega, rfl, _, _, _, _, i + 1, rfl, by omega⟩)
    · intro h0
      have h0 : i = l.length := by have : ¬ (i : Int) < l.length := by simpa [-Option.bind_some] using h0
                                   omega
      subst h0
      exact .some (.inr ⟨by simp [-Option.bind_some], rfl, rfl, by simp [-Option.bind_some]⟩)
  · rintro ⟨x, ds, g⟩ ⟨rfl, rfl, hx⟩
    replace hx : nth 0 ds = _ := hx
    simp only [unblk_self, toEnd_nrm, nth_zero, bs, hx, dUn_xor, mkRes_one]
    exact .some rfl

theorem ti22_eq : tab ty22 = some ti22 := id rfl
theorem ti5_eq : tab ty5 = some ti5 := id rfl
theorem ti3_eq : tab ty3 = some ti3 := id rfl
theorem ti22_td : ti22.td = .sl ty5 := id rfl
theorem ti3_td : ti3.td = .int .i64 := id rfl
theorem ti5_sz : ti5.sz = 1 := id rfl
theorem ti5_by : ti5.by_ = 1 := id rfl
theorem blt01 : Nat.blt 0 1 = true := id rfl
def zby : List D := [.int .u8 0]
theorem s1032 (n : Int) (h : Hp) (h0 : 0 ≤ n) (h1 : n ≤ 1000000000) : R fn1032 [.nils, .int .i64 n] h = if n = 0 then some (.nils, h) else some (.msl 1 h.length 0 0, dNew h ty5 1 (List.replicate n.toNat zby)) := by
  have hc : dCapT tab ty22 .nils = some (.int .i64 0) := id rfl
  have hs : dSliceAt tab ty22 false true false [.nils, .int .i64 0] = some .nils := id rfl
  have hn : ¬ n < 0 := by omega
  have hw0 : IntKind.wrap .i64 0 = 0 := wrap_i64 (by omega) (by omega)
  have hw1 : IntKind.wrap .i64 n = n := wrap_i64 (by omega) (by omega)
  rw [e1032]
  by_cases hz : n = 0
  · subst hz
    simp [-Option.bind_some, F1032, hc, hw0]
  · have hp : 0 < n := by omega
    have hl : lim n.toNat 1 = true := lim_ok (by omega) (by omega)
    have hl2 : lim n.toNat ti5.by_ = true := hl
    obtain ⟨m, hm⟩ : ∃ m, n.toNat = m + 1 := ⟨n.toNat - 1, by omega⟩
    have ha : dAppend tab h ty22 ty3 .nils (.int .i64 n) = some (.msl 1 h.length 0 n.toNat, dNew h ty5 1 (List.replicate n.toNat zby)) := by
      have hd : dSrc h ti3 ti5 (.int .i64 n) = some (List.replicate n.toNat zby) := by
        simp only [dSrc, ti3_td, h0, hl2, true_and, if_true]
        rfl
      unfold dAppend
      simp only [ti22_eq, ti3_eq, ti22_td, ti5_eq, hd, ti5_sz, blt01]
      rw [hm, List.replicate_succ]
      have hl3 : lim (m + 1) ti5.by_ = true := by rw [← hm]; exact hl2
      simp only [List.length_cons, List.length_replicate, hl3, if_true]
    have hs2 : dSliceAt tab ty22 false true false [.msl 1 h.length 0 n.toNat, .int .i64 0] = some (.msl 1 h.length 0 0) := by
      simp [-Option.bind_some, dSliceAt, dInt?, dSlice3, ti22_eq, ti22_td, ti5_eq, ti5_sz]
      omega
    simp [-Option.bind_some, F1032, hc, hw0, hw1, hp, hn, hz, hs, ha, hs2]
theorem wrap_u64 {n : Int} (h0 : 0 ≤ n) (h1 : n < 18446744073709551616) : IntKind.wrap .u64 n = n := by
  unfold IntKind.wrap
  simp [-Option.bind_some, IntKind.signed, IntKind.bits, IntKind.min, IntKind.max]
  omega
theorem own_rows {h : Hp} {n0 e z : Nat} {rows : List (List D)} {d : D} (hd : Own h n0 e z rows d) : dRowsOf h z d = some rows := by
  rcases hd with ⟨rfl, rfl⟩ | ⟨o, _, rfl, hg⟩
  · rfl
  · simp [-Option.bind_some, dRowsOf, hg]
def jErr (j p : List Int) : Int := if p.length = 0 ∨ 8388608 < p.length then 3 else if 67108864 < j.length + 8 + p.length then 16 else 0
def jRes (j p : List Int) : List Int := if jErr j p = 0 then j ++ fixb p.length ++ fixb (crc (fixb p.length ++ p)) ++ p else []
theorem fixb_len (n : Int) : (fixb n).length = 4 := rfl
theorem s1025 (j p : List Int) (dj dp : D) (h : Hp) (hj : SlOf 1 byr j dj) (hp : SlOf 1 byr p dp) (hjl : j.length ≤ 100000000) (hpl : p.length ≤ 100000000) : ∃ d', R fn1025 [dj, dp] h = some (.tup [d', .int .i64 (jErr j p)], h) ∧ SlOf 1 byr (jRes j p) d' := by
  rw [e1025]
  have w1 := wrap_i64 (n := (j.length : Int) + 8) (by omega) (by omega)
  have w2 := wrap_i64 (n := (j.length : Int) + 8 + p.length) (by omega) (by omega)
  have hsn : ∀ n : Int, scope h h (.tup [.nils, .int .i64 n]) = some (.tup [.nils, .int .i64 n], h) := fun n => scope_eq (by simp [-Option.bind_some]) (.tup _ fun d hd => by simp [-Option.bind_some] at hd; rcases hd with rfl | rfl <;> constructor) (Nat.le_refl _) fun _ _ => rfl
  by_cases h0 : p.length = 0
  · have he : jErr j p = 3 := by simp [-Option.bind_some, jErr, h0]
    exact ⟨.nils, by simp [-Option.bind_some, F1025, lens22 hp, h0, he, hsn], .inl ⟨rfl, by simp [-Option.bind_some, jRes, he]⟩⟩
  have hpn : ¬ p = [] := by intro hh; subst hh; simp [-Option.bind_some] at h0
  by_cases h1 : 8388608 < p.length
  · have he : jErr j p = 3 := by simp [-Option.bind_some, jErr, h0, h1]
    have h1' : (8388608 : Int) < p.length := by omega
    have h0' : ¬ (p.length : Int) = 0 := by omega
    exact ⟨.nils, by simp [-Option.bind_some, F1025, lens22 hp, hpn, h1', he, hsn], .inl ⟨rfl, by simp [-Option.bind_some, jRes, he]⟩⟩
  have h1' : ¬ (8388608 : Int) < p.length := by omega
  have h0' : ¬ (p.length : Int) = 0 := by omega
  by_cases h2 : 67108864 < j.length + 8 + p.length
  · have he : jErr j p = 16 := by simp [-Option.bind_some, jErr, h0, h1, h2]
    have h2' : (67108864 : Int) < j.length + 8 + p.length := by omega
    exact ⟨.nils, by simp [-Option.bind_some, F1025, lens22 hp, lens22 hj, hpn, h1', w1, w2, h2', he, hsn], .inl ⟨rfl, by simp [-Option.bind_some, jRes, he]⟩⟩
  have h2' : ¬ (67108864 : Int) < j.length + 8 + p.length := by omega
  have he : jErr j p = 0 := by simp [-Option.bind_some, jErr, h0, h1, h2]
  suffices Wp (F1025 dj dp h) (fun r => ∃ d', r = (.tup [d', .int .i64 0], h) ∧ SlOf 1 byr (jRes j p) d') by
    obtain ⟨r, e1, d', rfl, h3⟩ := this
    exact ⟨d', by rw [he]; exact e1, h3⟩
  have hw : IntKind.wrap .u64 (p.length : Int) = p.length := wrap_u64 (by omega) (by omega)
  simp only [F1025, bs, lens22 hp, lens22 hj, dBin_eql, dBin_gtr, dBin_add, w1, w2, h0', h1', h2', decide_false, gd_bool, if_true, dPick_bool, Bool.false_eq_true, if_false, dIf_bool, cv3_1029, hw]
  obtain ⟨d1, g1, e1, o1, len1, keep1, fre1⟩ := s1030 p.length h.length h [] .nils (Nat.le_refl _) (Own.nils _ _ _ _) (by simp [-Option.bind_some])
  refine Wp.step e1 ?_
  simp only [bs]
  have ni : ∀ q, ¬ D.nils.inOb q := fun q ⟨_, _, hh⟩ => by cases hh
  rw [List.nil_append] at o1
  refine wap22 len1 (Own.nils _ _ _ _) (own_rows o1) (by simp [-Option.bind_some, fixb_len]) fun x2 g2 o2 len2 bel2 keep2 fre2 => ?_
  simp only [bs]
  rw [List.nil_append] at o2
  have o1' := o1.keep (h' := g2) fun q hq hin => keep2 q (o1.lt hin).2 (ni q)
  refine wap22 (by omega) o2 (slof_rows _ hp) (by simp [-Option.bind_some, fixb_len]; omega) fun x3 g3 o3 len3 bel3 keep3 fre3 => ?_
  simp only [bs]
  have o1'' := o1'.keep (h' := g3) fun q hq hin => keep3 q (o1'.lt hin).2 fun hx => by
    rcases fre2 q hx with hh | hh
    · exact ni q hh
    · have := (o1.lt hin).2; omega
  rw [← List.map_append] at o3
  rw [s1031 (fixb p.length ++ p) x3 g3 (.inr ⟨_, _, o3⟩) (by simp [-Option.bind_some, fixb_len]; omega)]
  simp only [bs]
  refine wap22 (n0 := h.length) (by omega) (Own.nils _ _ _ _) (slof_rows _ hj) (by simp [-Option.bind_some]; omega) fun x4 g4 o4 len4 bel4 keep4 fre4 => ?_
  have hcu := crc_u32 (fixb p.length ++ p)
  have hw2 : IntKind.wrap .u64 (crc (fixb p.length ++ p)) = crc (fixb p.length ++ p) := wrap_u64 hcu.1 (by have := hcu.2; omega)
  simp only [bs, cv65_1029, hw2]
  rw [List.nil_append] at o4
  have o1c := o1''.keep (h' := g4) fun q hq hin => keep4 q (o1''.lt hin).2 (ni q)
  obtain ⟨d5, g5, e5, o5, len5, keep5, fre5⟩ := s1030 (crc (fixb p.length ++ p)) h.length g4 _ d1 (by omega) o1c (by simp [-Option.bind_some, fixb_len])
  refine Wp.step e5 ?_
  simp only [bs]
  have o4' := o4.keep (h' := g5) fun q hq hin => keep5 q (o4.lt hin).2 fun hx => by
    rcases fre4 q hin with hh | hh
    · exact ni q hh
    · have := (o1''.lt hx).2; omega
  refine wap22 (by omega) o4' (own_rows o5) (by simp [-Option.bind_some, fixb_len]; omega) fun x6 g6 o6 len6 bel6 keep6 fre6 => ?_
  simp only [bs]
  refine wap22 (by omega) o6 (slof_rows _ hp) (by simp [-Option.bind_some, fixb_len]; omega) fun x7 g7 o7 len7 bel7 keep7 fre7 => ?_
  simp only [bs, mkRes_two]
  have hrows : List.map byr j ++ List.map byr (fixb p.length) ++ List.map byr (fixb (crc (fixb p.length ++ p))) ++ List.map byr p = List.map byr (jRes j p) := by
    simp [-Option.bind_some, jRes, he]
  have o8 : Own g7 h.length ty5 1 (List.map byr (jRes j p)) x7 := by
    rw [← hrows]
    simpa [-Option.bind_some] using o7
  have hsl := own_sl (n0 := h.length) (n := 2) o8 (Nat.le_refl _) (fun a _ => byr_frz _ g7 _ a)
  rw [scope_eq (d' := .tup [frz h.length g7 3 x7, .int .i64 0]) (by simp [-Option.bind_some]) (.tup _ fun d hd => by
    simp [-Option.bind_some] at hd
    rcases hd with rfl | rfl
    · exact slof_ok hsl fun a _ => byr_ok _ a
    · constructor) (by omega) (fun q hq => by
    rw [bel7 q hq, bel6 q hq, keep5 q (by omega) (fun hx => by have := (o1c.lt hx).1; omega), bel4 q hq, bel3 q hq, bel2 q hq, keep1 q hq (ni q)])]
  exact .some ⟨_, rfl, hsl⟩
theorem s94 (l r : List Lin) (d e : D) (h : Hp) (hd : SlOf 3 linr l d) (he : SlOf 3 linr r e) (hl : l.length ≤ 9223372036854775807) : R fn94 [d, e] h = some (.bool (decide (l = r)), h) := by
  suffices Wp (R fn94 [d, e] h) (fun p => p = (.bool (decide (l = r)), h)) by
    obtain ⟨p, h1, rfl⟩ := this
    exact h1
  rw [e94]
  simp only [F94, bs, Option.bind_assoc, lens28 hd, lens28 he, dBin_neq]
  refine Wp.dif ?_ ?_
  · intro hn
    have hn : l.length ≠ r.length := by have : ¬ (l.length : Int) = r.length := by simpa [-Option.bind_some] using hn
                                        omega
    have hne : l ≠ r := fun hh => hn (by rw [hh])
    simp only [bs, mkRes_one]
    exact .some (by simp [-Option.bind_some, hne])
  · intro hn
    have hn : l.length = r.length := by have : (l.length : Int) = r.length := by simpa [-Option.bind_some] using hn
                                        omega
    refine Wp.loop (fun k ds g => g = h ∧ ∃ a b c, ∃ i : Nat, ds = [a, .int .i64 i, b, c] ∧ k + i = l.length ∧ l.take i = r.take i)
      (fun x => x.2.2 = h ∧ ((x.1 = .ret ∧ nth 0 x.2.1 = .bool false ∧ l ≠ r) ∨ (x.1 = .ext 0 ∧ l = r))) l.length ⟨rfl, _, _, _, 0, rfl, rfl, rfl⟩ ?_ ?_
    · rintro k ds g ⟨rfl, a, b, c, i, rfl, hk, hi⟩
      simp only [F94_L0, nth_zero, nth_succ, bs, Option.bind_assoc, lens28 hd, dBin_lss]
      refine Wp.dif ?_ ?_
      · intro h0
        have h0 : i < l.length := by have : (i : Int) < l.length := by simpa [-Option.bind_some] using h0
                                     omega
        have hg : l[i]? = some l[i] := List.getElem?_eq_getElem h0
        have hg2 : r[i]? = some (r[i]'(by omega)) := List.getElem?_eq_getElem (by omega)
        have hw : IntKind.wrap .i64 ((i : Int) + 1) = ((i + 1 : Nat) : Int) := by
          rw [wrap_i64 (by omega) (by omega)]; omega
        generalize l[i] = x at hg
        generalize r[i]'(by omega) = y at hg2
        simp only [ixs28 hd, ixs28 he, Int.natCast_nonneg, if_true, Int.toNat_natCast, hg, hg2, Option.map_some, bs, linr_ld, lin_neq]
        refine Wp.dif ?_ ?_
        · intro hxy
          have hxy : x ≠ y := by simpa [-Option.bind_some] using hxy
          try simp only [bs]
          refine .some (.inr ⟨by simp [-Option.bind_some], rfl, .inl ⟨rfl, rfl, fun hh => ?_⟩⟩)
          subst hh
          rw [hg] at hg2
          injection hg2 with hg2
          exact hxy hg2
        · intro hxy
          have hxy : x = y := by simpa [-Option.bind_some] using hxy
          subst hxy
          simp only [dBin_add, bs, hw]
          refine .some (.inl ⟨rfl, k - 1, by omega, rfl, _, _, _, i + 1, rfl, by omega, ?_⟩)
          rw [List.take_add_one, List.take_add_one, hi, hg, hg2]
      · intro h0
        have h0 : i = l.length := by have : ¬ (i : Int) < l.length := by simpa [-Option.bind_some] using h0
                                     omega
        refine .some (.inr ⟨by simp [-Option.bind_some], rfl, .inr ⟨rfl, ?_⟩⟩)
        have h1 : l.take i = l := List.take_of_length_le (by omega)
        have h2 : r.take i = r := List.take_of_length_le (by omega)
        rw [← h1, ← h2, hi]
    · rintro ⟨x, ds, g⟩ ⟨rfl, ⟨rfl, hx, hne⟩ | ⟨rfl, hll⟩⟩
      · replace hx : nth 0 ds = .bool false := hx
        simp only [unblk_ret, toEnd_ret, exEnd_ret, nth_zero, bs, hx, mkRes_one]
        exact .some (by simp [-Option.bind_some, hne])
      · simp only [unblk_self, toEnd_nrm, bs, mkRes_one]
        exact .some (by simp [-Option.bind_some, hll])

theorem s95 (l r : List (Str × Str)) (d e : D) (h : Hp) (hd : SlOf 2 fld l d) (he : SlOf 2 fld r e) (hl : l.length ≤ 9223372036854775807) : R fn95 [d, e] h = some (.bool (decide (l = r)), h) := by
  suffices Wp (R fn95 [d, e] h) (fun p => p = (.bool (decide (l = r)), h)) by
    obtain ⟨p, h1, rfl⟩ := this
    exact h1
  rw [e95]
  simp only [F95, bs, Option.bind_assoc, lens29 hd, lens29 he, dBin_neq]
  refine Wp.dif ?_ ?_
  · intro hn
    have hn : l.length ≠ r.length := by have : ¬ (l.length : Int) = r.length := by simpa [-Option.bind_some] using hn
                                        omega
    have hne : l ≠ r := fun hh => hn (by rw [hh])
    simp only [bs, mkRes_one]
    exact .some (by simp [-Option.bind_some, hne])
  · intro hn
    have hn : l.length = r.length := by have : (l.length : Int) = r.length := by simpa [-Option.bind_some] using hn
                                        omega
    refine Wp.loop (fun k ds g => g = h ∧ ∃ a b c, ∃ i : Nat, ds = [a, .int .i64 i, b, c] ∧ k + i = l.length ∧ l.take i = r.take i)
      (fun x => x.2.2 = h ∧ ((x.1 = .ret ∧ nth 0 x.2.1 = .bool false ∧ l ≠ r) ∨ (x.1 = .ext 0 ∧ l = r))) l.length ⟨rfl, _, _, _, 0, rfl, rfl, rfl⟩ ?_ ?_
    · rintro k ds g ⟨rfl, a, b, c, i, rfl, hk, hi⟩
      simp only [F95_L0, nth_zero, nth_succ, bs, Option.bind_assoc, lens29 hd, dBin_lss]
      refine Wp.dif ?_ ?_
      · intro h0
        have h0 : i < l.length := by have : (i : Int) < l.length := by simpa [-Option.bind_some] using h0
                                     omega
        have hg : l[i]? = some l[i] := List.getElem?_eq_getElem h0
        have hg2 : r[i]? = some (r[i]'(by omega)) := List.getElem?_eq_getElem (by omega)
        have hw : IntKind.wrap .i64 ((i : Int) + 1) = ((i + 1 : Nat) : Int) := by
          rw [wrap_i64 (by omega) (by omega)]; omega
        generalize l[i] = x at hg
        generalize r[i]'(by omega) = y at hg2
        simp only [ixs29 hd, ixs29 he, Int.natCast_nonneg, if_true, Int.toNat_natCast, hg, hg2, Option.map_some, bs, fld_ld, fld_neq]
        refine Wp.dif ?_ ?_
        · intro hxy
          have hxy : x ≠ y := by simpa [-Option.bind_some] using hxy
          try simp only [bs]
          refine .some (.inr ⟨by simp [-Option.bind_some], rfl, .inl ⟨rfl, rfl, fun hh => ?_⟩⟩)
          subst hh
          rw [hg] at hg2
          injection hg2 with hg2
          exact hxy hg2
        · intro hxy
          have hxy : x = y := by simpa [-Option.bind_some] using hxy
          subst hxy
          simp only [dBin_add, bs, hw]
          refine .some (.inl ⟨rfl, k - 1, by omega, rfl, _, _, _, i + 1, rfl, by omega, ?_⟩)
          rw [List.take_add_one, List.take_add_one, hi, hg, hg2]
      · intro h0
        have h0 : i = l.length := by have : ¬ (i : Int) < l.length := by simpa [-Option.bind_some] using h0
                                     omega
        refine .some (.inr ⟨by simp [-Option.bind_some], rfl, .inr ⟨rfl, ?_⟩⟩)
        have h1 : l.take i = l := List.take_of_length_le (by omega)
        have h2 : r.take i = r := List.take_of_length_le (by omega)
        rw [← h1, ← h2, hi]
    · rintro ⟨x, ds, g⟩ ⟨rfl, ⟨rfl, hx, hne⟩ | ⟨rfl, hll⟩⟩
      · replace hx : nth 0 ds = .bool false := hx
        simp only [unblk_ret, toEnd_ret, exEnd_ret, nth_zero, bs, hx, mkRes_one]
        exact .some (by simp [-Option.bind_some, hne])
      · simp only [unblk_self, toEnd_nrm, bs, mkRes_one]
        exact .some (by simp [-Option.bind_some, hll])
def sameE (a b : Ev) : Bool := decide (a.a0 = b.a0) && (decide (a.a1 = b.a1) && (decide (a.a2 = b.a2) && (decide (a.a3 = b.a3) && (decide (a.a5 = b.a5) && (decide (a.a6 = b.a6) && (decide (a.s7 = b.s7) && (decide (a.s8 = b.s8) && (decide (a.ls = b.ls) && decide (a.fs = b.fs)))))))))
def sameI (i j : It) : Bool := decide (i.r = j.r) && sameE i.e j.e
theorem s82 (i j : It) (h : Hp) : R fn82 [.agg (itr i), .agg (itr j)] h = some (.bool (sameI i j), h) := by
  suffices Wp (R fn82 [.agg (itr i), .agg (itr j)] h) (fun p => p = (.bool (sameI i j), h)) by
    obtain ⟨p, h1, rfl⟩ := this
    exact h1
  rw [e82]
  simp only [F82, pBoxF_agg, bs, Option.bind_assoc, itF1, itF0, itL0, evL]
  generalize hg0 : dNew h ty31 10 [[.int .i64 0, .int .i64 0, .int .i64 0, .int .i64 0, .nils, .int .i64 0, .int .i64 0, .str [], .str [], .nils]] = g0
  have hgl : g0.length = h.length + 1 := by simp [-Option.bind_some, ← hg0, dNew]
  have hb : ∀ q, q < h.length → g0[q]? = h[q]? := fun q hq => by simp only [← hg0, dNew]; rw [List.getElem?_append_left hq]
  have p8 : g0[h.length]? = some (.row ty31 10 [[.int .i64 0, .int .i64 0, .int .i64 0, .int .i64 0, .nils, .int .i64 0, .int .i64 0, .str [], .str [], .nils]]) := by simp [-Option.bind_some, ← hg0, dNew]
  clear hg0
  refine wst31 p8 (by rfl) (by rfl) (by simp [-Option.bind_some]) (by rfl) fun g1 q8 s1 => ?_
  replace q8 : g1[h.length]? = some (.row ty31 10 [evr i.e]) := q8
  have hl1 : g1.length = h.length + 1 := by rw [s1.1, hgl]
  try simp only [chk_true]
  rw [hl1]
  generalize hg1 : dNew g1 ty31 10 [[.int .i64 0, .int .i64 0, .int .i64 0, .int .i64 0, .nils, .int .i64 0, .int .i64 0, .str [], .str [], .nils]] = g3
  have hgl3 : h.length ≤ g3.length := by simp [-Option.bind_some, ← hg1, dNew]; omega
  have hb3 : ∀ q, q < h.length + 1 → g3[q]? = g1[q]? := fun q hq => by simp only [← hg1, dNew]; rw [List.getElem?_append_left (by omega)]
  have p9 : g3[h.length + 1]? = some (.row ty31 10 [[.int .i64 0, .int .i64 0, .int .i64 0, .int .i64 0, .nils, .int .i64 0, .int .i64 0, .str [], .str [], .nils]]) := by
    simp only [← hg1, dNew]; rw [← hl1, List.getElem?_append_right (Nat.le_refl _)]; simp [-Option.bind_some]
  replace q8 := (hb3 h.length (by omega)).trans q8
  clear hg1
  refine wst31 p9 (by rfl) (by rfl) (by simp [-Option.bind_some]) (by rfl) fun g2 q9 s2 => ?_
  replace q9 : g2[h.length + 1]? = some (.row ty31 10 [evr j.e]) := q9
  replace q8 := (s2.2 h.length (by omega)).trans q8
  have hb2 : ∀ q, q < h.length → g2[q]? = h[q]? := fun q hq => (((s2.2 q (by omega)).trans (hb3 q (by omega))).trans (s1.2 q (by omega))).trans (hb q hq)
  have hl2 : h.length ≤ g2.length := by have := s2.1; omega
  have r8 : g2.row h.length 0 = some (evr i.e) := row_of q8
  have r9 : g2.row (h.length + 1) 0 = some (evr j.e) := row_of q9
  have hsc : ∀ b : Bool, scope h g2 (.bool b) = some (.bool b, h) := fun b => scope_eq (by simp [-Option.bind_some]) (.bool b) hl2 hb2
  obtain ⟨ri, ei⟩ := i
  obtain ⟨rj, ej⟩ := j
  by_cases h0 : ri = rj
  case neg => exact ⟨_, by simp [-Option.bind_some, h0, hsc, sameI], rfl⟩
  by_cases h1 : ei.a0 = ej.a0
  case neg => exact ⟨_, by simp [-Option.bind_some, h0, h1, hsc, sameI, sameE, r8, r9, evr], rfl⟩
  by_cases h2 : ei.a1 = ej.a1
  case neg => exact ⟨_, by simp [-Option.bind_some, h0, h1, h2, hsc, sameI, sameE, r8, r9, evr], rfl⟩
  by_cases h3 : ei.a2 = ej.a2
  case neg => exact ⟨_, by simp [-Option.bind_some, h0, h1, h2, h3, hsc, sameI, sameE, r8, r9, evr], rfl⟩
  by_cases h4 : ei.a3 = ej.a3
  case neg => exact ⟨_, by simp [-Option.bind_some, h0, h1, h2, h3, h4, hsc, sameI, sameE, r8, r9, evr], rfl⟩
  by_cases h5 : ei.a5 = ej.a5
  case neg => exact ⟨_, by simp [-Option.bind_some, h0, h1, h2, h3, h4, h5, hsc, sameI, sameE, r8, r9, evr], rfl⟩
  by_cases h6 : ei.a6 = ej.a6
  case neg => exact ⟨_, by simp [-Option.bind_some, h0, h1, h2, h3, h4, h5, h6, hsc, sameI, sameE, r8, r9, evr], rfl⟩
  by_cases h7 : ei.s7 = ej.s7
  case neg => exact ⟨_, by simp [-Option.bind_some, h0, h1, h2, h3, h4, h5, h6, h7, hsc, sameI, sameE, r8, r9, evr], rfl⟩
  by_cases h8 : ei.s8 = ej.s8
  case neg => exact ⟨_, by simp [-Option.bind_some, h0, h1, h2, h3, h4, h5, h6, h7, h8, hsc, sameI, sameE, r8, r9, evr], rfl⟩
  have sl := s94 ei.ls ej.ls ei.ld ej.ld g2 ei.hld ej.hld ei.hll
  have sf := s95 ei.fs ej.fs ei.fd ej.fd g2 ei.hfd ej.hfd ei.hl
  by_cases h9 : ei.ls = ej.ls
  case neg => exact ⟨_, by simp [-Option.bind_some, h0, h1, h2, h3, h4, h5, h6, h7, h8, h9, hsc, sameI, sameE, r8, r9, evr, sl], rfl⟩
  by_cases h10 : ei.fs = ej.fs
  case neg => exact ⟨_, by simp [-Option.bind_some, h0, h1, h2, h3, h4, h5, h6, h7, h8, h9, h10, hsc, sameI, sameE, r8, r9, evr, sl, sf], rfl⟩
  exact ⟨_, by simp [-Option.bind_some, h0, h1, h2, h3, h4, h5, h6, h7, h8, h9, h10, hsc, sameI, sameE, r8, r9, evr, sl, sf], rfl⟩
/-- The value of the first field of a name. -/
def getF (l : List (Str × Str)) (n : Str) : Option Str := (l.find? fun p => p.1 == n).map (·.2)
/-- Does a field of this value apply? -/
def app (f v : Str) (e : Ev) : Bool := f == [] || getF e.fs f == some v
/-- The first place, or -1. -/
def idx {α : Type} (pr : α → Bool) : Nat → List α → Int
  | _, [] => -1
  | k, x :: r => if pr x = true then k else idx pr (k + 1) r
theorem idx_any {α : Type} (pr : α → Bool) : ∀ (l : List α) (k : Nat), decide (0 ≤ idx pr k l) = l.any pr
  | [], k => by simp [-Option.bind_some, idx]
  | x :: r, k => by
    unfold idx
    by_cases h : pr x = true
    · simp [-Option.bind_some, h]
    · simp [-Option.bind_some, h, idx_any pr r]
theorem given_len {zs : List Int} {d : D} (hd : Given .u8 zs d) : dLenT tab ty22 d = some (.int .i64 zs.length) := by
  rcases hd with ⟨rfl, rfl⟩ | rfl
  · rfl
  · simp [-Option.bind_some, ints]
theorem s57 (o pos : Nat) (zs : List Int) (d : D) (h : Hp) (ho : h[o]? = some (.row ty101 2 [[d, .int .i64 pos]])) (hd : Given .u8 zs d) : R fn57 [.ptr o 0 0] h = some (.bool (decide (pos < zs.length)), h) := by
  rw [e57]
  simp [-Option.bind_some, F57, Hp.row, ho, given_len hd]
theorem given_ix {zs : List Int} {d : D} (hd : Given .u8 zs d) (i : Nat) (z : Int) (hz : zs[i]? = some z) : dIndexAddr tab ty22 d (.int .i64 i) = some (.fptr [.int .u8 z]) := by
  rcases hd with ⟨rfl, rfl⟩ | rfl
  · cases hz
  · simp [-Option.bind_some, ints, hz]
theorem store_ptr3 (h : Hp) (o k f : Nat) (v : D) : dStore tab h ty3 (.ptr o k f) v = pSt 1 h (.ptr o k f) v := rfl
theorem s24 (o pos : Nat) (zs : List Int) (d : D) (n z : Int) (h : Hp) (ho : h[o]? = some (.row ty101 2 [[d, .int .i64 pos]])) (hd : Given .u8 zs d) (hn : 1 ≤ n) (hn2 : n ≤ 1000000000) (hz : zs[pos]? = some z) (hz0 : 0 ≤ z) (hz1 : z < 256) (hl : zs.length ≤ 400) :
    R fn24 [.ptr o 0 0, .int .i64 n] h = some (.int .i64 (z * n / 256), h.set o (.row ty101 2 [[d, .int .i64 ((pos + 1 : Nat) : Int)]])) := by
  have hp : pos < zs.length := (List.getElem?_eq_some_iff.1 hz).1
  have hn' : ¬ n < 1 := by omega
  have hw : IntKind.wrap .i64 ((pos : Int) + 1) = (pos : Int) + 1 := wrap_i64 (by omega) (by omega)
  have hzw : IntKind.wrap .i64 z = z := wrap_i64 (by omega) (by omega)
  rw [e24]
  simp [-Option.bind_some, F24, s57 o pos zs d h ho hd, hp, hn', Hp.row, ho, given_ix hd pos z hz, hw, hzw, store_ptr3, pSt, D.okv, cells1, D.one, spl]
  have h0 : 0 ≤ z * n := Int.mul_nonneg hz0 (by omega)
  have h1 : z * n ≤ 255 * 1000000000 := Int.mul_le_mul (by omega) hn2 (by omega) (by omega)
  have e1 : IntKind.wrap .i64 (z * n) = z * n := wrap_i64 (by omega) (by omega)
  rw [e1, Int.tdiv_eq_ediv_of_nonneg h0, wrap_i64 (by omega) (by omega)]
/-- An object holds codes; these are left. -/
def CO (h : Hp) (o : Nat) (rest : List Int) : Prop := ∃ (d : D) (zs : List Int) (pos : Nat), h[o]? = some (.row ty101 2 [[d, .int .i64 pos]]) ∧ Given .u8 zs d ∧ zs.length ≤ 400 ∧ rest = zs.drop pos ∧ ∀ z ∈ zs, 0 ≤ z ∧ z < 256
def nx (n : Int) : List Int → Int × List Int
  | [] => (0, [])
  | z :: r => if n < 1 then (0, z :: r) else (z * n / 256, r)
theorem left_ok {h : Hp} {o : Nat} {rest : List Int} (hc : CO h o rest) : R fn57 [.ptr o 0 0] h = some (.bool (decide (rest ≠ [])), h) := by
  obtain ⟨d, zs, pos, ho, hd, hl, rfl, hz⟩ := hc
  rw [s57 o pos zs d h ho hd]
  have : (pos < zs.length) ↔ zs.drop pos ≠ [] := by
    rw [ne_eq, List.drop_eq_nil_iff]; omega
  congr 3
  exact decide_eq_decide.2 this
theorem next_ok {h : Hp} {o : Nat} {rest : List Int} (hc : CO h o rest) (n : Int) (hn2 : n ≤ 1000000000) : ∃ h', R fn24 [.ptr o 0 0, .int .i64 n] h = some (.int .i64 (nx n rest).1, h') ∧ CO h' o (nx n rest).2 ∧ Same o h h' := by
  have hl := left_ok hc
  cases hr : rest with
  | nil =>
    subst hr
    refine ⟨h, ?_, hc, .refl _ _⟩
    rw [e24]
    simp [-Option.bind_some, F24, hl, nx]
  | cons z r =>
    by_cases hn : n < 1
    · refine ⟨h, ?_, by simpa [-Option.bind_some, nx, hn, hr] using hc, .refl _ _⟩
      rw [e24]
      simp [-Option.bind_some, F24, hl, nx, hn, hr]
    · obtain ⟨d, zs, pos, ho, hd, hl4, hrest, hz⟩ := hc
      have hzp : zs[pos]? = some z := by
        have : (zs.drop pos)[0]? = some z := by rw [← hrest, hr]; rfl
        simpa [-Option.bind_some] using this
      have hm := hz z (List.mem_of_getElem? hzp)
      have holt : o < h.length := (List.getElem?_eq_some_iff.1 ho).1
      refine ⟨_, (s24 o pos zs d n z h ho hd (by omega) hn2 hzp hm.1 hm.2 hl4).trans (by rw [show (nx n (z :: r)).1 = z * n / 256 by simp [-Option.bind_some, nx, hn]]), ?_, ?_⟩
      · refine ⟨d, zs, pos + 1, by simp [-Option.bind_some, holt], hd, hl4, ?_, hz⟩
        have : (zs.drop pos).drop 1 = r := by rw [← hrest, hr]; rfl
        simpa [-Option.bind_some, nx, hn] using this.symm
      · exact ⟨by simp [-Option.bind_some], fun q hq => by rw [List.getElem?_set_ne (by omega)]⟩
theorem nx_bound (n : Int) (rest : List Int) (h : ∀ z ∈ rest, 0 ≤ z ∧ z < 256) : 0 ≤ (nx n rest).1 ∧ (1 ≤ n → (nx n rest).1 < n) := by
  cases rest with
  | nil => simp [-Option.bind_some, nx]; omega
  | cons z r =>
    have := h z (by simp [-Option.bind_some])
    unfold nx
    by_cases hn : n < 1
    · simp [-Option.bind_some, hn]; omega
    · simp only [hn, if_false]
      have h0 : 0 ≤ z * n := Int.mul_nonneg this.1 (by omega)
      have h1 : z * n ≤ 255 * n := Int.mul_le_mul_of_nonneg_right (by omega) (by omega)
      constructor
      · omega
      · intro _; omega
/-- An object holds codes. -/
def CD (h : Hp) (o : Nat) : Prop := ∃ rest, CO h o rest
theorem CD.keep {h h' : Hp} {o : Nat} (hc : CD h o) (he : h'[o]? = h[o]?) : CD h' o := by
  obtain ⟨rest, d, zs, pos, ho, hr⟩ := hc
  exact ⟨rest, d, zs, pos, by rw [he]; exact ho, hr⟩
theorem CD.lt {h : Hp} {o : Nat} (hc : CD h o) : o < h.length := by
  obtain ⟨rest, d, zs, pos, ho, hr⟩ := hc
  exact (List.getElem?_eq_some_iff.1 ho).1
theorem CD.ok {h : Hp} {o : Nat} (hc : CD h o) (n : Nat) : ∀ T sz rows, h[o]? = some (.row T sz rows) → ∀ row ∈ rows, ∀ d ∈ row, Ok n d := by
  obtain ⟨rest, d, zs, pos, ho, hd, _⟩ := hc
  intro T sz rows hr row hrow x hx
  rw [ho] at hr
  injection hr with hr
  injection hr with _ _ hr
  subst hr
  simp [-Option.bind_some] at hrow
  subst hrow
  simp [-Option.bind_some] at hx
  rcases hx with rfl | rfl
  · exact given_okd hd n
  · exact .int _ _
theorem next_b {h : Hp} {o : Nat} (hc : CD h o) (n : Int) (hn : 1 ≤ n) (hn2 : n ≤ 1000000000) : ∃ v h', R fn24 [.ptr o 0 0, .int .i64 n] h = some (.int .i64 v, h') ∧ CD h' o ∧ Same o h h' ∧ 0 ≤ v ∧ v < n := by
  obtain ⟨rest, hc⟩ := hc
  obtain ⟨h', h1, h2, h3⟩ := next_ok hc n hn2
  have hb : ∀ z ∈ rest, 0 ≤ z ∧ z < 256 := by
    obtain ⟨d, zs, pos, ho, hd, hl, rfl, hz⟩ := hc
    exact fun z hz' => hz z (List.mem_of_mem_drop hz')
  exact ⟨_, h', h1, ⟨_, h2⟩, h3, (nx_bound n rest hb).1, (nx_bound n rest hb).2 hn⟩
theorem d102 {h : Hp} {o : Nat} (hc : CD h o) : ∃ s h', R fn102 [.ptr o 0 0] h = some (.str s, h') ∧ CD h' o ∧ Same o h h' ∧ s.length ≤ 7 := by
  obtain ⟨v, h', h1, h2, h3, h4, h5⟩ := next_b hc 14 (by omega) (by omega)
  obtain ⟨s, hs, hg⟩ := pick_of lt98_10 v h4 h5
  refine ⟨s, h', ?_, h2, h3, ?_⟩
  · rw [e102]; simp [-Option.bind_some, F102, h1, h4, hg]
  · exact (show ∀ s ∈ lt98_10, s.length ≤ 7 by decide) s hs
theorem d33 {h : Hp} {o : Nat} (hc : CD h o) : ∃ s h', R fn33 [.ptr o 0 0] h = some (.str s, h') ∧ CD h' o ∧ Same o h h' ∧ s.length ≤ 19 := by
  obtain ⟨v, h', h1, h2, h3, h4, h5⟩ := next_b hc 11 (by omega) (by omega)
  obtain ⟨s, hs, hg⟩ := pick_of lt98_1 v h4 h5
  refine ⟨s, h', ?_, h2, h3, ?_⟩
  · rw [e33]; simp [-Option.bind_some, F33, h1, h4, hg]
  · exact (show ∀ s ∈ lt98_1, s.length ≤ 19 by decide) s hs
theorem d97 {h : Hp} {o : Nat} (hc : CD h o) : ∃ n h', R fn97 [.ptr o 0 0] h = some (.int .i64 n, h') ∧ CD h' o ∧ Same o h h' ∧ 1 ≤ n ∧ n ≤ 5040 ∧ Int.tmod 5040 n = 0 := by
  obtain ⟨v, h', h1, h2, h3, h4, h5⟩ := next_b hc 6 (by omega) (by omega)
  obtain ⟨s, hs, hg⟩ := pick_of lt82_8 v h4 h5
  refine ⟨s, h', ?_, h2, h3, ?_⟩
  · rw [e97]; simp [-Option.bind_some, F97, h1, h4, hg]
  · exact (show ∀ s ∈ lt82_8, 1 ≤ s ∧ s ≤ 5040 ∧ Int.tmod 5040 s = 0 by decide) s hs
theorem d35 {h : Hp} {o : Nat} (hc : CD h o) : ∃ n h', R fn35 [.ptr o 0 0] h = some (.int .i64 n, h') ∧ CD h' o ∧ Same o h h' ∧ 0 ≤ n ∧ n ≤ 253402300799999 := by
  obtain ⟨v, h', h1, h2, h3, h4, h5⟩ := next_b hc 4 (by omega) (by omega)
  rw [e35]
  by_cases v0 : v = 0
  · obtain ⟨u, g', g1, g2, g3, g4, g5⟩ := next_b h2 40 (by omega) (by omega)
    refine ⟨u * 86400000, g', ?_, g2, h3.trans g3, by omega, by omega⟩
    simp [-Option.bind_some, F35, h1, v0, g1, wrap_i64 (n := u * 86400000) (by omega) (by omega)]
  · by_cases v1 : v = 1
    · obtain ⟨u, g', g1, g2, g3, g4, g5⟩ := next_b h2 3 (by omega) (by omega)
      refine ⟨253402300799999 - u * 86400000, g', ?_, g2, h3.trans g3, by omega, by omega⟩
      simp [-Option.bind_some, F35, h1, v0, v1, g1, wrap_i64 (n := u * 86400000) (by omega) (by omega), wrap_i64 (n := 253402300799999 - u * 86400000) (by omega) (by omega)]
    · obtain ⟨u, g', g1, g2, g3, g4, g5⟩ := next_b h2 60 (by omega) (by omega)
      refine ⟨1000 + u, g', ?_, g2, h3.trans g3, by omega, by omega⟩
      simp [-Option.bind_some, F35, h1, v0, v1, g1, wrap_i64 (n := 1000 + u) (by omega) (by omega)]
/-- What a function that draws has done so far. -/
structure St (h0 : Hp) (o : Nat) (g : Hp) : Prop where
  lt : o < h0.length
  cd : CD g o
  gr : Grow h0.length o h0 g
theorem St.refl {h : Hp} {o : Nat} (hc : CD h o) : St h o h := ⟨hc.lt, hc, .refl _ _ _⟩
theorem St.next {h0 g g' : Hp} {o : Nat} (s : St h0 o g) (hc : CD g' o) (hs : Same o g g') : St h0 o g' := ⟨s.lt, hc, s.gr.trans hs.grow⟩
theorem St.app {h0 g g' : Hp} {o : Nat} (s : St h0 o g) (hl : g.length ≤ g'.length) (hb : ∀ q, q < h0.length → g'[q]? = g[q]?) : St h0 o g' := ⟨s.lt, s.cd.keep (hb o s.lt), s.gr.trans ⟨hl, fun q hq _ => hb q hq⟩⟩
theorem St.le {h0 g : Hp} {o : Nat} (s : St h0 o g) : h0.length ≤ g.length := s.gr.1
theorem St.scope {h0 g : Hp} {o : Nat} (s : St h0 o g) {d d' : D} (hd : frz h0.length g 4 d = d') (hok : Ok h0.length d') : ∃ h', scope h0 g d = some (d', h') ∧ CD h' o ∧ Same o h0 h' := by
  obtain ⟨h1, h2, h3⟩ := scope_same hd hok s.gr (s.cd.ok h0.length)
  exact ⟨_, h1, s.cd.keep (h3 o s.lt), h2⟩
theorem d44 (zs : List Int) (d : D) (n : Int) (h : Hp) (hd : Given .u8 zs d) (hn : 0 ≤ n) (hn2 : n ≤ 400) (hz : ∀ z ∈ zs, 0 ≤ z ∧ z < 256) : ∃ h', R fn44 [d, .int .i64 n] h = some (.ptr h.length 0 0, h') ∧ CD h' h.length ∧ h'.length = h.length + 1 := by
  rw [e44]
  have hm : ∃ m : Int, dMin (.int .i64 zs.length) (.int .i64 n) = some (.int .i64 m) ∧ 0 ≤ m ∧ m ≤ zs.length ∧ m ≤ 400 := by
    rw [dMin_int]
    split
    · exact ⟨_, rfl, by omega, by omega, by omega⟩
    · exact ⟨_, rfl, by omega, by omega, by omega⟩
  obtain ⟨m, hm, h0, h1, h2⟩ := hm
  obtain ⟨d', hs, hg⟩ := given_hi (T := tab) (t := ty22) (i := ti22) (j := ti5) (id rfl) (id rfl) (id rfl) (id rfl) hd (k2 := .i64) h0 h1
  simp only [F44, bs, given_len hd, hm, hs, bd101_0 d' (given_one hg)]
  rw [wBox_agg ty101 2 h [d', .int .i64 0] rfl (by omega)]
  refine ⟨_, rfl, ⟨_, d', zs.take m.toNat, 0, by simp [-Option.bind_some, dNew], hg, ?_, rfl, fun z hz' => hz z (List.mem_of_mem_take hz')⟩, by simp [-Option.bind_some, dNew]⟩
  simp [-Option.bind_some]; omega
theorem d96 {h : Hp} {o : Nat} (hc : CD h o) : ∃ s h', R fn96 [.ptr o 0 0] h = some (.str s, h') ∧ CD h' o ∧ Same o h h' ∧ s.length ≤ 34 := by
  suffices Wp (R fn96 [.ptr o 0 0] h) (fun p => ∃ s, p.1 = .str s ∧ CD p.2 o ∧ Same o h p.2 ∧ s.length ≤ 34) by
    obtain ⟨⟨x, h'⟩, h1, s, rfl, h2⟩ := this
    exact ⟨s, h', h1, h2⟩
  rw [e96]
  simp only [F96, bs, Option.bind_assoc]
  obtain ⟨s, h1, e1, c1, s1, b1⟩ := d102 hc
  refine Wp.step e1 ?_
  simp only [bs]
  obtain ⟨v, h2, e2, c2, s2, v0, v1⟩ := next_b c1 4 (by omega) (by omega)
  refine Wp.step e2 ?_
  simp only [bs]
  refine Wp.loop (fun k ds g => ∃ s a, ds = [.str s, .int .i64 k, a] ∧ CD g o ∧ Same o h g ∧ k ≤ 3 ∧ s.length + 9 * k ≤ 34) (fun r => r.1 = .ext 0 ∧ ∃ s a b, r.2.1 = [.str s, a, b] ∧ CD r.2.2 o ∧ Same o h r.2.2 ∧ s.length ≤ 34) v.toNat ⟨s, .any, by rw [Int.toNat_of_nonneg v0], c2, s1.trans s2, by omega, by omega⟩ ?_ ?_
  · rintro k ds g ⟨s, a, rfl, cg, sg, hk, hs⟩
    simp only [F96_L0, nth_zero, nth_succ, bs, dBin_gtr]
    refine Wp.dif ?_ ?_
    · intro h0
      have h0 : 0 < (k : Int) := by simpa [-Option.bind_some] using h0
      simp only [lt98_7_ok, bs]
      obtain ⟨v, h2, e2, c2, s2, v0, v1⟩ := next_b cg 5 (by omega) (by omega)
      obtain ⟨u, hu, hg⟩ := pick_of lt98_7 v v0 v1
      have hul := (show ∀ s ∈ lt98_7, s.length ≤ 2 by decide) u hu
      refine Wp.step e2 ?_
      simp only [ix98, v0, if_true, List.getElem?_map, hg, Option.map_some, bs, ld9]
      obtain ⟨w, h3, e3, c3, s3, b3⟩ := d102 c2
      refine Wp.step e3 ?_
      rw [dBin_sadd _ _ _ _ (by omega)]
      simp only [bs]
      rw [dBin_sadd _ _ _ _ (by simp [-Option.bind_some]; omega)]
      have hk1 : IntKind.wrap .i64 ((k : Int) - 1) = ((k - 1 : Nat) : Int) := by
        rw [wrap_i64 (by omega) (by omega)]; omega
      simp only [bs, dBin_sub, chk_true, hk1]
      exact .some (.inl ⟨rfl, k - 1, by omega, s ++ (u ++ w), _, rfl, c3, (sg.trans s2).trans s3, by omega, by simp [-Option.bind_some]; omega⟩)
    · intro _
      exact .some (.inr ⟨by simp [-Option.bind_some], rfl, s, _, _, rfl, cg, sg, by omega⟩)
  · rintro ⟨x, ds, g⟩ ⟨rfl, s, a, b, rfl, cg, sg, hs⟩
    simp only [unblk_self, toEnd_nrm, nth_zero, bs, mkRes_one]
    exact .some ⟨s, rfl, cg, sg, hs⟩
/-- Fields in ascending order, each with a short value. -/
def FsOK (l : List (Str × Str)) : Prop := (l.map (·.1)).Sublist lt98_9 ∧ ∀ p ∈ l, p.2.length ≤ 19
theorem d98 {h : Hp} {o : Nat} (hc : CD h o) : ∃ x h', R fn98 [.ptr o 0 0] h = some (x, h') ∧ CD h' o ∧ Same o h h' ∧ ∃ l, SlOf 2 fld l x ∧ FsOK l := by
  suffices Wp (R fn98 [.ptr o 0 0] h) (fun p => CD p.2 o ∧ Same o h p.2 ∧ ∃ l, SlOf 2 fld l p.1 ∧ FsOK l) by
    obtain ⟨⟨x, h'⟩, h1, h2⟩ := this
    exact ⟨x, h', h1, h2⟩
  rw [e98]
  simp only [F98, bs, Option.bind_assoc, lt98_9_ok]
  refine Wp.loop (fun k ds g => ∃ x a b, ∃ (i : Nat) (l : List (Str × Str)), ds = [x, .int .i64 i, a, b] ∧ St h o g ∧ k + i = 4 ∧ Own g h.length ty109 2 (l.map fld) x ∧ (l.map (·.1)).Sublist (lt98_9.take i) ∧ ∀ p ∈ l, p.2.length ≤ 19)
    (fun r => r.1 = .ext 0 ∧ ∃ x a b c l, r.2.1 = [x, a, b, c] ∧ St h o r.2.2 ∧ Own r.2.2 h.length ty109 2 (l.map fld) x ∧ FsOK l) 4 ⟨.nils, .any, .any, 0, [], rfl, .refl hc, rfl, Own.nils _ _ _ _, by simp [-Option.bind_some], by simp [-Option.bind_some]⟩ ?_ ?_
  · rintro k ds g ⟨x, a, b, i, l, rfl, S, hk, ow, hsub, hv⟩
    have hw : IntKind.wrap .i64 ((i : Int) + 1) = (i + 1 : Nat) := by
      rw [wrap_i64 (by omega) (by omega)]; omega
    simp only [F98_L0, nth_zero, nth_succ, bs, len98, List.length_map, lt98_9_len, dBin_lss]
    refine Wp.dif ?_ ?_
    · intro h0
      have h0 : i < 4 := by have : (i : Int) < 4 := by simpa [-Option.bind_some] using h0
                            omega
      obtain ⟨v, h1, e1, c1, s1, v0, v1⟩ := next_b S.cd 3 (by omega) (by omega)
      have S1 := S.next c1 s1
      replace ow := ow.same s1 hc.lt
      refine Wp.step e1 ?_
      simp only [dBin_eql, bs]
      refine Wp.join (P := fun r => ∃ x g, ∃ l : List (Str × Str), r = (.nrm, [x], g) ∧ St h o g ∧ Own g h.length ty109 2 (l.map fld) x ∧ (l.map (·.1)).Sublist (lt98_9.take (i + 1)) ∧ ∀ p ∈ l, p.2.length ≤ 19) ?_ ?_ ?_
      · intro _
        have hg : lt98_9[i]? = some lt98_9[i] := List.getElem?_eq_getElem h0
        simp only [ix98, Int.natCast_nonneg, if_true, Int.toNat_natCast, List.getElem?_map, hg, Option.map_some, bs, ld9]
        obtain ⟨u, h2, e2, c2, s2, hu⟩ := d33 S1.cd
        have S2 := S1.next c2 s2
        replace ow := ow.same s2 hc.lt
        refine Wp.step e2 ?_
        simp only [bs, bd109_0_1, bs29_1]
        have hll : l.length ≤ 4 := by
          have := hsub.length_le
          simp [-Option.bind_some] at this
          omega
        refine wap29 S2.le ow (rowsOf_sl _ _ _ _) (by simp [-Option.bind_some]; omega) fun x' g' ow len bel _ _ => ?_
        simp only [bs, chk_true]
        refine .some ⟨x', g', l ++ [(lt98_9[i], u)], rfl, S2.app len bel, by rw [List.map_append]; exact ow, ?_, ?_⟩
        · rw [List.take_add_one, hg, List.map_append]
          exact hsub.append (List.Sublist.refl _)
        · intro p hp
          rcases List.mem_append.1 hp with hp | hp
          · exact hv p hp
          · simp [-Option.bind_some] at hp; subst hp; exact hu
      · intro _
        refine .some ⟨_, _, l, rfl, S1, ow, hsub.trans ?_, hv⟩
        rw [List.take_add_one]
        exact List.sublist_append_left _ _
      · rintro _ ⟨x, g, l, rfl, S, ow, hsub, hv⟩
        simp only [unblk_nrm, toEnd_nrm, nth_zero, dBin_add, bs, hw]
        exact .some (.inl ⟨rfl, k - 1, by omega, x, _, _, i + 1, l, rfl, S, by omega, ow, hsub, hv⟩)
    · intro h0
      have h0 : ¬ i < 4 := by have : ¬ (i : Int) < 4 := by simpa [-Option.bind_some] using h0
                              omega
      refine .some (.inr ⟨by simp [-Option.bind_some], rfl, x, _, _, _, l, rfl, S, ow, hsub.trans (List.take_sublist _ _), hv⟩)
  · rintro ⟨x, ds, g⟩ ⟨rfl, x, a, b, c, l, rfl, S, ow, hl⟩
    simp only [unblk_self, toEnd_nrm, nth_zero, bs, mkRes_one]
    have hsl := own_sl (n := 3) ow (Nat.le_refl _) (fun a _ => fld_frz _ g _ a)
    obtain ⟨h', hs, hcd, hsm⟩ := S.scope rfl (slof_ok hsl fun a _ => fld_ok _ a)
    exact ⟨_, hs, hcd, hsm, l, hsl, hl⟩
/-- Lines that follow each other. -/
def chain : Int → List Lin → Int → Prop
  | a, [], b => a = b
  | a, l :: r, b => l.off = a ∧ 1 ≤ l.len ∧ l.len ≤ 36 ∧ l.txt.length + 1 ≤ l.len ∧ chain (a + l.len) r b
theorem chain_snoc : ∀ (ls : List Lin) (a b : Int) (l : Lin), chain a ls b → l.off = b → 1 ≤ l.len → l.len ≤ 36 → l.txt.length + 1 ≤ l.len → chain a (ls ++ [l]) (b + l.len)
  | [], a, b, l, h, h1, h2, h3, h4 => by
    simp only [chain] at h
    subst h
    exact ⟨h1, h2, h3, h4, rfl⟩
  | x :: r, a, b, l, h, h1, h2, h3, h4 => ⟨h.1, h.2.1, h.2.2.1, h.2.2.2.1, chain_snoc r _ b l h.2.2.2.2 h1 h2 h3 h4⟩
def blank (l : Lin) : Lin := { l with txt := [] }
theorem chain_blank : ∀ (ls : List Lin) (a b : Int), chain a ls b → chain a (ls.map blank) b
  | [], a, b, h => h
  | x :: r, a, b, h => ⟨h.1, h.2.1, h.2.2.1, by simp [-Option.bind_some, blank]; exact h.2.1, chain_blank r _ b h.2.2.2.2⟩
theorem chain_le : ∀ (ls : List Lin) (a b : Int), chain a ls b → a + ls.length ≤ b ∧ b ≤ a + 36 * ls.length
  | [], a, b, h => by simp [-Option.bind_some, chain] at h; simp [-Option.bind_some]; omega
  | x :: r, a, b, h => by
    have := chain_le r _ b h.2.2.2.2
    have := h.2.1
    have := h.2.2.1
    simp only [List.length_cons]
    omega
/-- What an item that is drawn looks like. -/
structure ItOK (hst fil frm : Int) (i : It) : Prop where
  host : i.e.a0 = hst
  file : i.e.a1 = fil
  fr : i.e.a2 = frm
  ch : chain frm i.e.ls i.e.a3
  n1 : 1 ≤ i.e.ls.length
  n3 : i.e.ls.length ≤ 3
  ev : i.r = [] → 0 ≤ i.e.a5 ∧ i.e.a5 ≤ 253402300799999 ∧ 1 ≤ i.e.a6 ∧ i.e.a6 ≤ 5040 ∧ i.e.s7 ∈ lt98_5 ∧ i.e.s8 ∈ lt98_6 ∧ FsOK i.e.fs ∧ ∀ l ∈ i.e.ls, l.len ≤ l.txt.length + 2
  wt : i.r = [] → Int.tmod 5040 i.e.a6 = 0
  sk : i.r ≠ [] → i.r ∈ lt98_4 ∧ i.e.a5 = 0 ∧ i.e.a6 = 0 ∧ i.e.s7 = [] ∧ i.e.s8 = [] ∧ i.e.fs = [] ∧ ∀ l ∈ i.e.ls, l.txt = []
theorem set_blank (ls : List Lin) (i : Nat) (hi : i < ls.length) : (((ls.take i).map blank ++ ls.drop i).map linr).set i (linr (blank ls[i])) = ((ls.take (i + 1)).map blank ++ ls.drop (i + 1)).map linr := by
  rw [List.drop_eq_getElem_cons hi, List.take_add_one, List.getElem?_eq_getElem hi]
  simp only [List.map_append, List.map_cons, Option.toList_some, List.map_nil]
  rw [List.set_append_right _ _ (by simp [-Option.bind_some]; omega)]
  simp [-Option.bind_some, Nat.min_eq_left (Nat.le_of_lt hi)]
theorem get_blank (ls : List Lin) (i : Nat) (hi : i < ls.length) : (((ls.take i).map blank ++ ls.drop i).map linr)[i]? = some (linr ls[i]) := by
  rw [List.drop_eq_getElem_cons hi, List.getElem?_map, List.getElem?_append_right (by simp [-Option.bind_some]; omega)]
  simp [-Option.bind_some, Nat.min_eq_left (Nat.le_of_lt hi)]
  exact ⟨_, List.getElem?_eq_getElem hi, rfl⟩
theorem ldob {h : Hp} {q T z : Nat} {cs : List D} (hq : h[q]? = some (.row T z [cs])) (hl : cs.length = 10) : dLoad tab h ty31 (.ptr q 0 0) = some (.agg cs) := by
  rw [ldp31, row_of hq]
  simp [-Option.bind_some, takeN, hl]
  exact List.take_of_length_le (by omega)
theorem ldob11 {h : Hp} {q T z : Nat} {cs : List D} (hq : h[q]? = some (.row T z [cs])) (hl : cs.length = 11) : dLoad tab h ty74 (.ptr q 0 0) = some (.agg cs) := by
  rw [ldp74, row_of hq]
  simp [-Option.bind_some, takeN, hl]
  exact List.take_of_length_le (by omega)
theorem lt98_4_ne : ∀ s ∈ lt98_4, s ≠ [] := by decide
end Go.Proofs.YtjhmicmbbgkhpaaDoor
