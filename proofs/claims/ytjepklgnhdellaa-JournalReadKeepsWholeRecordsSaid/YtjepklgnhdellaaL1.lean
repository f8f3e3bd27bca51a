/- Laws, on plain data, about functions that the statement reaches. -/
import Derived.Test.YtjepklgnhdellaaT9
set_option linter.unusedSimpArgs false
set_option linter.unusedVariables false
set_option linter.unnecessarySimpa false
set_option maxRecDepth 100000
namespace Go.Proofs.Ytjepklgnhdellaa
open Go.Eng Go.Pi
abbrev Str := List UInt8
def fld (p : Str × Str) : List D := [.str p.1, .str p.2]
/-- A line. -/
structure Lin where
  off : Int
  len : Int
  txt : Str
  deriving DecidableEq
def linr (l : Lin) : List D := [.int .i64 l.off, .int .i64 l.len, .str l.txt]
/-- An event. -/
structure Ev where
  a0 : Int
  a1 : Int
  a2 : Int
  a3 : Int
  ls : List Lin
  ld : D
  a5 : Int
  a6 : Int
  s7 : Str
  s8 : Str
  fs : List (Str × Str)
  fd : D
  hfd : SlOf 2 fld fs fd
  hl : fs.length ≤ 9223372036854775807
  hld : SlOf 3 linr ls ld
  hll : ls.length ≤ 9223372036854775807
def evr (e : Ev) : List D := [.int .i64 e.a0, .int .i64 e.a1, .int .i64 e.a2, .int .i64 e.a3, e.ld, .int .i64 e.a5, .int .i64 e.a6, .str e.s7, .str e.s8, e.fd]
structure It where
  r : Str
  e : Ev
def itr (i : It) : List D := .str i.r :: evr i.e
theorem fld_frz (n0 : Nat) (h : Hp) (n : Nat) (p : Str × Str) : ∀ d ∈ fld p, frz n0 h n d = d := by simp [-Option.bind_some, fld]
theorem fld_ok (n : Nat) (p : Str × Str) : ∀ d ∈ fld p, Ok n d := by
  intro d hd
  simp [-Option.bind_some, fld] at hd
  rcases hd with rfl | rfl <;> constructor
theorem linr_frz (n0 : Nat) (h : Hp) (n : Nat) (p : Lin) : ∀ d ∈ linr p, frz n0 h n d = d := by simp [-Option.bind_some, linr]
theorem linr_ok (n : Nat) (p : Lin) : ∀ d ∈ linr p, Ok n d := by
  intro d hd
  simp [-Option.bind_some, linr] at hd
  rcases hd with rfl | rfl | rfl <;> constructor
theorem evr_frz (n0 : Nat) (h : Hp) (n : Nat) (e : Ev) : ∀ d ∈ evr e, frz n0 h (n + 1) d = d := by
  intro d hd
  simp [-Option.bind_some, evr] at hd
  rcases hd with rfl | rfl | rfl | rfl | rfl | rfl | rfl | rfl | rfl | rfl
  all_goals first | exact slof_frz e.hld (fun a _ => linr_frz _ _ _ a) | exact slof_frz e.hfd (fun a _ => fld_frz _ _ _ a) | simp [-Option.bind_some]
theorem evr_ok (n : Nat) (e : Ev) : ∀ d ∈ evr e, Ok n d := by
  intro d hd
  simp [-Option.bind_some, evr] at hd
  rcases hd with rfl | rfl | rfl | rfl | rfl | rfl | rfl | rfl | rfl | rfl
  all_goals first | exact slof_ok e.hld (fun a _ => linr_ok _ a) | exact slof_ok e.hfd (fun a _ => fld_ok _ a) | constructor
theorem itr_ok (n : Nat) (i : It) : Ok n (.agg (itr i)) := by
  refine .agg _ fun d hd => ?_
  simp [-Option.bind_some, itr, evr] at hd
  rcases hd with rfl | rfl | rfl | rfl | rfl | rfl | rfl | rfl | rfl | rfl | rfl
  all_goals first | exact slof_ok i.e.hld (fun a _ => linr_ok _ a) | exact slof_ok i.e.hfd (fun a _ => fld_ok _ a) | constructor
theorem itr_frz (n0 : Nat) (h : Hp) (n : Nat) (i : It) : ∀ d ∈ itr i, frz n0 h (n + 1) d = d := by
  intro d hd
  rcases List.mem_cons.1 hd with rfl | hd
  · simp [-Option.bind_some]
  · exact evr_frz n0 h n i.e d hd
theorem itr_oks (n : Nat) (i : It) : ∀ d ∈ itr i, Ok n d := by
  intro d hd
  rcases List.mem_cons.1 hd with rfl | hd
  · exact .str _
  · exact evr_ok n i.e d hd
theorem evL (e : Ev) (h : Hp) : dLoad tab h ty31 (.fptr (evr e)) = some (.agg (evr e)) := id rfl
theorem itF1 (i : It) : dFieldAddr tab ty74 1 (.fptr (itr i)) = some (.fptr (evr i.e)) := id rfl
theorem itF0 (i : It) : dFieldAddr tab ty74 0 (.fptr (itr i)) = some (.fptr (itr i)) := id rfl
theorem itL0 (i : It) (h : Hp) : dLoad tab h ty9 (.fptr (itr i)) = some (.str i.r) := id rfl
theorem ldIt (i : It) (h : Hp) : dLoad tab h ty74 (.fptr (itr i)) = some (.agg (itr i)) := id rfl
theorem boxIt (i : It) : boxN 11 (.agg (itr i)) = some (.fptr (itr i)) := boxN_agg 11 _ rfl
theorem bsIt (i : It) : pLitF tab ty113 1 [0] [.agg (itr i)] = some (.sl 11 true [itr i]) := id rfl
theorem toIt (i : It) (h : Hp) : ((dFieldAddr tab ty74 1 (.fptr (itr i))).bind fun p => (dFieldAddr tab ty31 3 p).bind fun q => dLoad tab h ty3 q) = some (.int .i64 i.e.a3) := by simp [-Option.bind_some, itr, evr]
theorem own_dis {h : Hp} {n e z n' e' z' q : Nat} {rows rows' : List (List D)} {d d' : D} (a : Own h n e z rows d) (b : Own h n' e' z' rows' d') (hne : e ≠ e') (hd : d.inOb q) : ¬ d'.inOb q := by
  rintro ⟨z2, m2, rfl⟩
  obtain ⟨z1, m1, rfl⟩ := hd
  rcases a with ⟨ha, _⟩ | ⟨o1, _, ha, ga⟩
  · cases ha
  rcases b with ⟨hb, _⟩ | ⟨o2, _, hb, gb⟩
  · cases hb
  injection ha with _ ha
  injection hb with _ hb
  subst ha; subst hb
  rw [ga] at gb
  injection gb with gb
  injection gb with gb
  exact hne gb
theorem linr_ld (l : Lin) (h : Hp) : dLoad tab h ty78 (.fptr (linr l)) = some (.agg (linr l)) := id rfl
theorem fld_ld (l : Str × Str) (h : Hp) : dLoad tab h ty109 (.fptr (fld l)) = some (.agg (fld l)) := id rfl
theorem fld_neq (a b : Str × Str) : dBin tab .neq ty109 (.agg (fld a)) (.agg (fld b)) = some (.bool (decide (a ≠ b))) := by
  obtain ⟨a0, a1⟩ := a
  obtain ⟨b0, b1⟩ := b
  simp [-Option.bind_some, fld]
  by_cases h0 : a0 = b0 <;> by_cases h1 : a1 = b1 <;> simp [-Option.bind_some, h0, h1]

def byr (z : Int) : List D := [.int .u8 z]
theorem given_by {zs : List Int} {d : D} (hd : Given .u8 zs d) : SlOf 1 byr zs d := by
  rcases hd with ⟨rfl, rfl⟩ | rfl
  · exact .inl ⟨rfl, rfl⟩
  · exact .inr ⟨false, rfl⟩
theorem byr_frz (n0 : Nat) (h : Hp) (n : Nat) (z : Int) : ∀ d ∈ byr z, frz n0 h n d = d := by simp [-Option.bind_some, byr]
theorem byr_ok (n : Nat) (z : Int) : ∀ d ∈ byr z, Ok n d := by
  intro d hd
  simp [-Option.bind_some, byr] at hd
  subst hd
  constructor
theorem byr_ld (z : Int) (h : Hp) : dLoad tab h ty5 (.fptr (byr z)) = some (.int .u8 z) := id rfl
/-- Four bytes of a number, the highest first. -/
def fixb (n : Int) : List Int := [IntKind.wrap .u8 (n.fdiv (2 ^ 24)), IntKind.wrap .u8 (n.fdiv (2 ^ 16)), IntKind.wrap .u8 (n.fdiv (2 ^ 8)), IntKind.wrap .u8 n]
theorem s1027 (n : Int) (h : Hp) : R fn1027 [.int .u32 n] h = some (.sl 1 true ((fixb n).map byr), h) := by
  rw [e1027]
  simp only [F1027, bs, dBin_shr, show ¬ (24 : Int) < 0 by omega, show ¬ (16 : Int) < 0 by omega, show ¬ (8 : Int) < 0 by omega, if_false, cv65_5, bs22_4, mkRes_one]
  rfl
theorem l1030 (v : Int) (n0 : Nat) : ∀ (k : Nat), k ≤ 4 → ∀ (h : Hp) (rows : List (List D)) (d a : D), n0 ≤ h.length → Own h n0 ty5 1 rows d → rows.length + k ≤ 1000000000 → ∃ d' h' b, loopW (F1030_L0 (.int .u64 v)) [d, .int .i64 ((k : Int) - 1), a] h = some (.ext 0, [d', b, .bool false], h') ∧
    Own h' n0 ty5 1 (rows ++ (((fixb v).drop (4 - k)).map byr)) d' ∧ h.length ≤ h'.length ∧ (∀ q, q < h.length → ¬ d.inOb q → h'[q]? = h[q]?) ∧ ∀ q, d'.inOb q → d.inOb q ∨ h.length ≤ q := by
  intro k
  induction k with
  | zero =>
    intro _ h rows d a hn ow hr
    rw [loopW_eq]
    refine ⟨d, h, _, by simp [-Option.bind_some, F1030_L0]; rfl, ?_, Nat.le_refl _, fun _ _ _ => rfl, fun q hq => .inl hq⟩
    simpa [-Option.bind_some, fixb] using ow
  | succ k ih =>
    intro hk h rows d a hn ow hr
    have hg : (0 : Int) ≤ ((k + 1 : Nat) : Int) - 1 := by omega
    have hw1 : IntKind.wrap .i64 (8 * (((k + 1 : Nat) : Int) - 1)) = 8 * (k : Int) := by rw [wrap_i64 (by omega) (by omega)]; omega
    have hw2 : IntKind.wrap .i64 (((k + 1 : Nat) : Int) - 1 - 1) = (k : Int) - 1 := by rw [wrap_i64 (by omega) (by omega)]; omega
    have h8 : ¬ (8 * (k : Int)) < 0 := by omega
    have hby : (fixb v).drop (4 - (k + 1)) = IntKind.wrap .u8 (v.fdiv (2 ^ (min (8 * (k : Int)).toNat IntKind.u64.bits))) :: (fixb v).drop (4 - k) := by
      have hk4 : k = 0 ∨ k = 1 ∨ k = 2 ∨ k = 3 := by omega
      rcases hk4 with rfl | rfl | rfl | rfl
      · simp [-Option.bind_some, fixb, IntKind.bits]
      all_goals rfl
    have key := @wap22 h n0 hn rows d (.sl 1 true [byr (IntKind.wrap .u8 (v.fdiv (2 ^ (min (8 * (k : Int)).toNat IntKind.u64.bits))))]) ow _ (rowsOf_sl _ _ _ _) (by simp [-Option.bind_some]; omega) _ (fun r => some r)
      (fun r => Own r.2 n0 ty5 1 (rows ++ [byr (IntKind.wrap .u8 (v.fdiv (2 ^ (min (8 * (k : Int)).toNat IntKind.u64.bits))))]) r.1 ∧ h.length ≤ r.2.length ∧ (∀ q, q < h.length → ¬ d.inOb q → r.2[q]? = h[q]?) ∧ ∀ q, r.1.inOb q → d.inOb q ∨ h.length ≤ q) (fun x' h' a b _ c e => .some ⟨a, b, c, e⟩)
    obtain ⟨⟨x', g⟩, e1, ow1, len, bel, fre⟩ := key
    replace len : h.length ≤ g.length := len
    replace bel : ∀ q, q < h.length → ¬ d.inOb q → g[q]? = h[q]? := bel
    replace fre : ∀ q, x'.inOb q → d.inOb q ∨ h.length ≤ q := fre
    have e1' : dAppend tab h ty22 ty22 d (.sl 1 true [byr (IntKind.wrap .u8 (v.fdiv (2 ^ (min (8 * (k : Int)).toNat IntKind.u64.bits))))]) = some (x', g) := by
      cases hq : dAppend tab h ty22 ty22 d (.sl 1 true [byr (IntKind.wrap .u8 (v.fdiv (2 ^ (min (8 * (k : Int)).toNat IntKind.u64.bits))))]) with
      | none => rw [hq] at e1; cases e1
      | some r => rw [hq] at e1; exact e1
    obtain ⟨d', h', b, e2, ow2, len2, bel2, fre2⟩ := ih (by omega) g _ x' (.bool true) (Nat.le_trans hn len) ow1 (by simp [-Option.bind_some]; omega)
    refine ⟨d', h', b, ?_, ?_, Nat.le_trans len len2, fun q hq hd => (bel2 q (by omega) fun hx => by rcases fre q hx with h1 | h1 <;> first | exact hd h1 | omega).trans (bel q hq hd), fun q hq => ?_⟩
    · rw [loopW_eq]
      simp only [F1030_L0, nth_zero, nth_succ, bs, dBin_geq, decide_eq_true hg, dIf_bool, if_true, dBin_mul, hw1, dBin_shr, h8, if_false, cv1029_5, bs22_1, show ∀ z, ([[D.int .u8 z]] : List (List D)) = [byr z] from fun _ => rfl, e1', dBin_sub, hw2]
      exact e2
    · rw [hby, List.map_cons]
      simpa [-Option.bind_some] using ow2
    · rcases fre2 q hq with h1 | h1
      · exact fre q h1
      · right; omega
theorem s1030 (v : Int) (n0 : Nat) (h : Hp) (rows : List (List D)) (d : D) (hn : n0 ≤ h.length) (ow : Own h n0 ty5 1 rows d) (hr : rows.length ≤ 999999000) : ∃ d' h', R fn1030 [d, .int .u64 v, .int .i64 4] h = some (d', h') ∧ Own h' n0 ty5 1 (rows ++ (fixb v).map byr) d' ∧ h.length ≤ h'.length ∧ (∀ q, q < h.length → ¬ d.inOb q → h'[q]? = h[q]?) ∧ ∀ q, d'.inOb q → d.inOb q ∨ h.length ≤ q := by
  obtain ⟨d', h', b, e1, o1, o2, o3⟩ := l1030 v n0 4 (by omega) h rows d .any hn ow (by omega)
  refine ⟨d', h', ?_, by simpa [-Option.bind_some] using o1, o2, o3⟩
  rw [e1030]
  have hw : IntKind.wrap .i64 ((4 : Int) - 1) = ((4 : Nat) : Int) - 1 := by rw [wrap_i64 (by omega) (by omega)]; rfl
  simp only [F1030, bs, dBin_sub, hw, Option.bind_assoc, e1, unblk_self, toEnd_nrm, nth_zero, mkRes_one]
/-- One bit of the checksum. -/
def stp (c : Int) : Int := if c % 2 = 1 then IntKind.wrap .u32 (BitVec.ofInt IntKind.u32.bits (c.fdiv 2) ^^^ BitVec.ofInt IntKind.u32.bits 3988292384).toNat else c.fdiv 2
def U32 (c : Int) : Prop := 0 ≤ c ∧ c < 4294967296
theorem wrap_u32 {n : Int} (h0 : 0 ≤ n) (h1 : n < 4294967296) : IntKind.wrap .u32 n = n := by
  unfold IntKind.wrap
  simp [-Option.bind_some, IntKind.signed, IntKind.bits, IntKind.min, IntKind.max]
  omega
theorem bv_u32 (x : BitVec IntKind.u32.bits) : U32 (x.toNat : Int) := by
  have := x.isLt
  have h2 : (2 : Nat) ^ IntKind.u32.bits = 4294967296 := by decide
  constructor <;> omega
theorem wrap_bv (x : BitVec IntKind.u32.bits) : IntKind.wrap .u32 (x.toNat : Int) = x.toNat := wrap_u32 (bv_u32 x).1 (bv_u32 x).2
theorem half_u32 {c : Int} (h : U32 c) : U32 (c.fdiv 2) := by
  rw [Int.fdiv_eq_ediv_of_nonneg _ (by omega)]
  unfold U32 at *
  omega
theorem stp_u32 {c : Int} (h : U32 c) : U32 (stp c) := by
  unfold stp
  split
  · rw [wrap_bv]; exact bv_u32 _
  · exact half_u32 h
theorem of_u32 {c : Int} (h : U32 c) : ((BitVec.ofInt IntKind.u32.bits c).toNat : Int) = c := by
  rw [BitVec.toNat_ofInt]
  have h2 : ((2 ^ IntKind.u32.bits : Nat) : Int) = 4294967296 := by decide
  rw [h2, Int.emod_eq_of_lt h.1 h.2]
  exact Int.toNat_of_nonneg h.1
theorem and1 {c : Int} (h : U32 c) : IntKind.wrap .u32 (BitVec.ofInt IntKind.u32.bits c &&& BitVec.ofInt IntKind.u32.bits 1).toNat = c % 2 := by
  rw [wrap_bv, BitVec.toNat_and]
  have h1 : (BitVec.ofInt IntKind.u32.bits 1).toNat = 1 := by decide
  rw [h1, Nat.and_one_is_mod]
  have := of_u32 h
  omega
theorem pw1 : (2 : Int) ^ (min (Int.toNat 1) IntKind.u32.bits) = 2 := by decide
theorem stp_prog {c : Int} (h : U32 c) : IntKind.wrap .u32 (BitVec.ofInt IntKind.u32.bits (c.fdiv 2) ^^^ BitVec.ofInt IntKind.u32.bits (IntKind.wrap .u32 (BitVec.ofInt IntKind.u32.bits 3988292384 &&& BitVec.ofInt IntKind.u32.bits (IntKind.wrap .u32 (0 - c % 2))).toNat)).toNat = stp c := by
  have h2 : c % 2 = 0 ∨ c % 2 = 1 := by omega
  unfold stp
  rcases h2 with h2 | h2
  · rw [h2]
    have h3 : IntKind.wrap .u32 (BitVec.ofInt IntKind.u32.bits 3988292384 &&& BitVec.ofInt IntKind.u32.bits (IntKind.wrap .u32 (0 - 0))).toNat = 0 := by decide
    rw [h3]
    have h4 : BitVec.ofInt IntKind.u32.bits 0 = 0#_ := by decide
    simp only [h4, BitVec.xor_zero]
    rw [wrap_bv, of_u32 (half_u32 h)]
    simp [-Option.bind_some]
  · rw [h2]
    have h3 : IntKind.wrap .u32 (BitVec.ofInt IntKind.u32.bits 3988292384 &&& BitVec.ofInt IntKind.u32.bits (IntKind.wrap .u32 (0 - 1))).toNat = 3988292384 := by decide
    rw [h3]
    simp [-Option.bind_some]
def stps : Nat → Int → Int
  | 0, c => c
  | n + 1, c => stps n (stp c)
theorem stps_u32 : ∀ (n : Nat) {c : Int}, U32 c → U32 (stps n c)
  | 0, c, h => h
  | n + 1, c, h => stps_u32 n (stp_u32 h)
theorem stps_succ : ∀ (n : Nat) (c : Int), stps (n + 1) c = stp (stps n c)
  | 0, c => rfl
  | n + 1, c => by
    rw [stps, stps_succ n (stp c)]
    rfl
/-- One byte. -/
def byt (c z : Int) : Int := stps 8 (IntKind.wrap .u32 (BitVec.ofInt IntKind.u32.bits c ^^^ BitVec.ofInt IntKind.u32.bits (IntKind.wrap .u32 z)).toNat)
theorem byt_u32 (c z : Int) : U32 (byt c z) := stps_u32 8 (by rw [wrap_bv]; exact bv_u32 _)
def crcL : Int → List Int → Int
  | c, [] => c
  | c, z :: r => crcL (byt c z) r
def crc (l : List Int) : Int := IntKind.wrap .u32 (BitVec.ofInt IntKind.u32.bits (if IntKind.u32.signed then -1 else IntKind.u32.max) ^^^ BitVec.ofInt IntKind.u32.bits (crcL 4294967295 l)).toNat
theorem crc_u32 (l : List Int) : U32 (crc l) := by unfold crc; rw [wrap_bv]; exact bv_u32 _
theorem l1033 (h : Hp) {β : Type} {K : Out → Option β} {Q : β → Prop} (c : Int) (hc : U32 c) (a : D) (cont : ∀ a b, Wp (K (.ext 2, [.int .u32 (stps 8 c), a, b], h)) Q) : Wp ((loopW F1033_L1 [.int .u32 c, .int .i64 0, a] h).bind K) Q := by
  refine Wp.loop (fun k ds g => g = h ∧ ∃ a, ∃ i : Nat, ds = [.int .u32 (stps i c), .int .i64 i, a] ∧ k + i = 8) (fun r => r.1 = .ext 2 ∧ r.2.2 = h ∧ ∃ a b, r.2.1 = [.int .u32 (stps 8 c), a, b]) 8 ⟨rfl, _, 0, rfl, rfl⟩ ?_ ?_
  · rintro k ds g ⟨rfl, a, i, rfl, hk⟩
    have hu := stps_u32 i hc
    simp only [F1033_L1, nth_zero, nth_succ, bs, Option.bind_assoc, dBin_lss]
    refine Wp.dif ?_ ?_
    · intro h0
      have h0 : i < 8 := by have : (i : Int) < 8 := by simpa [-Option.bind_some] using h0
                            omega
      have hw : IntKind.wrap .i64 ((i : Int) + 1) = ((i + 1 : Nat) : Int) := by
        rw [wrap_i64 (by omega) (by omega)]; omega
      simp only [dBin_shr, show ¬ (1 : Int) < 0 by omega, if_false, pw1, dBin_and, bs, dUn_neg, and1 hu, dBin_xor, stp_prog hu, dBin_add, hw, ← stps_succ]
      exact .some (.inl ⟨rfl, k - 1, by omega, rfl, _, i + 1, rfl, by omega⟩)
    · intro h0
      have h0 : i = 8 := by have : ¬ (i : Int) < 8 := by simpa [-Option.bind_some] using h0
                            omega
      subst h0
      exact .some (.inr ⟨by simp [-Option.bind_some], rfl, rfl, _, _, rfl⟩)
  · rintro ⟨x, ds, g⟩ ⟨rfl, rfl, a, b, rfl⟩
    exact cont a b
theorem l1031 (h : Hp) {β : Type} {K : Out → Option β} {Q : β → Prop} (c : Int) (hc : U32 c) (a e : D) (cont : ∀ a b e, Wp (K (.ext 2, [.int .u32 (stps 8 c), a, b, e], h)) Q) : Wp ((loopW F1031_L1 [.int .u32 c, .int .i64 0, a, e] h).bind K) Q := by
  refine Wp.loop (fun k ds g => g = h ∧ ∃ a e, ∃ i : Nat, ds = [.int .u32 (stps i c), .int .i64 i, a, e] ∧ k + i = 8) (fun r => r.1 = .ext 2 ∧ r.2.2 = h ∧ ∃ a b e, r.2.1 = [.int .u32 (stps 8 c), a, b, e]) 8 ⟨rfl, _, _, 0, rfl, rfl⟩ ?_ ?_
  · rintro k ds g ⟨rfl, a, e, i, rfl, hk⟩
    have hu := stps_u32 i hc
    simp only [F1031_L1, nth_zero, nth_succ, bs, Option.bind_assoc, dBin_lss]
    refine Wp.dif ?_ ?_
    · intro h0
      have h0 : i < 8 := by have : (i : Int) < 8 := by simpa [-Option.bind_some] using h0
                            omega
      have hw : IntKind.wrap .i64 ((i : Int) + 1) = ((i + 1 : Nat) : Int) := by
        rw [wrap_i64 (by omega) (by omega)]; omega
      simp only [dBin_and, bs, and1 hu, dBin_eql]
      refine Wp.join (P := fun r => r = (.nrm, [.int .u32 (stps (i + 1) c)], g)) ?_ ?_ ?_
      · intro h1
        have h1 : stps i c % 2 = 1 := by simpa [-Option.bind_some] using h1
        simp only [dBin_shr, show ¬ (1 : Int) < 0 by omega, if_false, pw1, bs, dBin_xor]
        refine .some ?_
        rw [stps_succ]
        simp [-Option.bind_some, stp, h1]
      · intro h1
        have h1 : ¬ stps i c % 2 = 1 := by simpa [-Option.bind_some] using h1
        simp only [dBin_shr, show ¬ (1 : Int) < 0 by omega, if_false, pw1, bs]
        refine .some ?_
        rw [stps_succ]
        simp [-Option.bind_some, stp, h1]
      · rintro _ rfl
        simp only [unblk_nrm, toEnd_nrm, nth_zero, bs, dBin_add, hw]
        exact .some (.inl ⟨rfl, k - 1, by omega, rfl, _, _, i + 1, rfl, by omega⟩)
    · intro h0
      have h0 : i = 8 := by have : ¬ (i : Int) < 8 := by simpa [-Option.bind_some] using h0
                            omega
      subst h0
      exact .some (.inr ⟨by simp [-Option.bind_some], rfl, rfl, _, _, _, rfl⟩)
  · rintro ⟨x, ds, g⟩ ⟨rfl, rfl, a, b, e, rfl⟩
    exact cont a b e
theorem crcL_snoc : ∀ (l : List Int) (c z : Int), crcL c (l ++ [z]) = byt (crcL c l) z
  | [], c, z => rfl
  | x :: r, c, z => crcL_snoc r (byt c x) z
theorem s1033 (l : List Int) (d : D) (h : Hp) (hd : SlOf 1 byr l d) (hl : l.length ≤ 9223372036854775807) : R fn1033 [d] h = some (.int .u32 (crc l), h) := by
  suffices Wp (R fn1033 [d] h) (fun p => p = (.int .u32 (crc l), h)) by
    obtain ⟨p, h1, rfl⟩ := this
    exact h1
  rw [e1033]
  simp only [F1033, bs, Option.bind_assoc, lens22 hd]
  refine Wp.loop (fun k ds g => g = h ∧ ∃ a b c e, ∃ i : Nat, ds = [.int .u32 (crcL 4294967295 (l.take i)), a, .int .i64 i, b, c, e] ∧ k + i = l.length) (fun r => r.1 = .ext 0 ∧ r.2.2 = h ∧ nth 0 r.2.1 = .int .u32 (crcL 4294967295 l)) l.length ⟨rfl, _, _, _, _, 0, rfl, rfl⟩ ?_ ?_
  · rintro k ds g ⟨rfl, a, b, c, e, i, rfl, hk⟩
    simp only [F1033_L0, nth_zero, nth_succ, bs, Option.bind_assoc, dBin_lss]
    refine Wp.dif ?_ ?_
    · intro h0
      have h0 : i < l.length := by have : (i : Int) < l.length := by simpa [-Option.bind_some] using h0
                                   omega
      have hg : l[i]? = some l[i] := List.getElem?_eq_getElem h0
      have htk : l.take (i + 1) = l.take i ++ [l[i]] := by rw [List.take_add_one, hg]; rfl
      generalize l[i] = z at hg htk
      have hw : IntKind.wrap .i64 ((i : Int) + 1) = ((i + 1 : Nat) : Int) := by
        rw [wrap_i64 (by omega) (by omega)]; omega
      simp only [ixs22 hd, Int.natCast_nonneg, if_true, Int.toNat_natCast, hg, Option.map_some, bs, byr_ld, cv5_65, dBin_xor]
      have hst : stps 8 (IntKind.wrap .u32 (BitVec.ofInt IntKind.u32.bits (crcL 4294967295 (l.take i)) ^^^ BitVec.ofInt IntKind.u32.bits (IntKind.wrap .u32 z)).toNat) = crcL 4294967295 (l.take (i + 1)) := by rw [htk, crcL_snoc]; rfl
      refine l1033 g _ (by rw [wrap_bv]; exact bv_u32 _) _ fun a b => ?_
      simp only [unblk_self, unblk_nrm, toEnd_nrm, nth_zero, nth_succ, bs, dBin_add, hw, hst]
      exact .some (.inl ⟨rfl, k - 1, by omega, rfl, _, _, _, _, i + 1, rfl, by omega⟩)
    · intro h0
      have h0 : i = l.length := by have : ¬ (i : Int) < l.length := by simpa [-Option.bind_some] using h0
                                   omega
      subst h0
      exact .some (.inr ⟨by simp [-Option.bind_some], rfl, rfl, by simp [-Option.bind_some]⟩)
  · rintro ⟨x, ds, g⟩ ⟨rfl, rfl, hx⟩
    replace hx : nth 0 ds = _ := hx
    simp only [unblk_self, toEnd_nrm, nth_zero, bs, hx, dUn_xor, mkRes_one]
    exact .some rfl
theorem s1031 (l : List Int) (d : D) (h : Hp) (hd : SlOf 1 byr l d ∨ ∃ n0 e, Own h n0 e 1 (l.map byr) d) (hl : l.length ≤ 9223372036854775807) : R fn1031 [d] h = some (.int .u32 (crc l), h) := by
  suffices Wp (R fn1031 [d] h) (fun p => p = (.int .u32 (crc l), h)) by
    obtain ⟨p, h1, rfl⟩ := this
    exact h1
  have hlen : dLenT tab ty22 d = some (.int .i64 l.length) := by
    rcases hd with hd | ⟨n0, e, hd⟩
    · exact lens22 hd
    · rw [leno22 hd]; simp [-Option.bind_some]
  have hix : ∀ (i : Nat) (z : Int), l[i]? = some z → ∃ p, dIndexAddr tab ty22 d (.int .i64 i) = some p ∧ dLoad tab h ty5 p = some (.int .u8 z) := by
    intro i z hg
    rcases hd with hd | ⟨n0, e, hd⟩
    · exact ⟨.fptr (byr z), by rw [ixs22 hd]; simp [-Option.bind_some, hg], byr_ld _ _⟩
    · have hi := (List.getElem?_eq_some_iff.1 hg).1
      obtain ⟨ob, h1, rfl, hgo⟩ := own_ix hd (i := i) (by simpa [-Option.bind_some] using hi)
      exact ⟨.ptr ob i 0, by simp [-Option.bind_some, hi], by rw [ldp5, row_of hgo]; simp [-Option.bind_some, hg, byr]⟩
  rw [e1031]
  simp only [F1031, bs, Option.bind_assoc]
  refine Wp.loop (fun k ds g => g = h ∧ ∃ b c e f, ∃ i : Nat, ds = [.int .u32 (crcL 4294967295 (l.take i)), .int .i64 i, b, c, e, f] ∧ k + i = l.length) (fun r => r.1 = .ext 0 ∧ r.2.2 = h ∧ nth 0 r.2.1 = .int .u32 (crcL 4294967295 l)) l.length ⟨rfl, _, _, _, _, 0, rfl, rfl⟩ ?_ ?_
  · rintro k ds g ⟨rfl, b, c, e, f, i, rfl, hk⟩
    simp only [F1031_L0, nth_zero, nth_succ, bs, Option.bind_assoc, hlen, dBin_lss]
    refine Wp.dif ?_ ?_
    · intro h0
      have h0 : i < l.length := by have : (i : Int) < l.length := by simpa [-Option.bind_some] using h0
                                   omega
      have hg : l[i]? = some l[i] := List.getElem?_eq_getElem h0
      have htk : l.take (i + 1) = l.take i ++ [l[i]] := by rw [List.take_add_one, hg]; rfl
      generalize l[i] = z at hg htk
      have hw : IntKind.wrap .i64 ((i : Int) + 1) = ((i + 1 : Nat) : Int) := by
        rw [wrap_i64 (by omega) (by omega)]; omega
      obtain ⟨p, hp1, hp2⟩ := hix i z hg
      simp only [hp1, hp2, bs, cv5_65, dBin_xor]
      have hst : stps 8 (IntKind.wrap .u32 (BitVec.ofInt IntKind.u32.bits (crcL 4294967295 (l.take i)) ^^^ BitVec.ofInt IntKind.u32.bits (IntKind.wrap .u32 z)).toNat) = crcL 4294967295 (l.take (i + 1)) := by rw [htk, crcL_snoc]; rfl
      refine l1031 g _ (by rw [wrap_bv]; exact bv_u32 _) _ _ fun a b e => ?_
      simp only [unblk_self, unblk_nrm, toEnd_nrm, nth_zero, nth_succ, bs, dBin_add, hw, hst]
      exact .some (.inl ⟨rfl, k - 1, by omega, rfl, _, _, _, _, i + 1, rfl, by omega⟩)
    · intro h0
      have h0 : i = l.length := by have : ¬ (i : Int) < l.length := by simpa [-Option.bind_some] using h0
                                   omega
      subst h0
      exact .some (.inr ⟨by simp [-Option.bind_some], rfl, rfl, by simp [-Option.bind_some]⟩)
  · rintro ⟨x, ds, g⟩ ⟨rfl, rfl, hx⟩
    replace hx : nth 0 ds = _ := hx
    simp only [unblk_self, toEnd_nrm, nth_zero, bs, hx, dUn_xor, mkRes_one]
    exact .some rfl

theorem s1026 (l r : List Int) (d e : D) (h : Hp) (hd : SlOf 1 byr l d) (he : SlOf 1 byr r e) (hl : l.length ≤ 9223372036854775807) : R fn1026 [d, e] h = some (.bool (decide (l = r)), h) := by
  suffices Wp (R fn1026 [d, e] h) (fun p => p = (.bool (decide (l = r)), h)) by
    obtain ⟨p, h1, rfl⟩ := this
    exact h1
  rw [e1026]
  simp only [F1026, bs, Option.bind_assoc, lens22 hd, lens22 he, dBin_neq]
  refine Wp.dif ?_ ?_
  · intro hn
    have hn : l.length ≠ r.length := by have : ¬ (l.length : Int) = r.length := by simpa [-Option.bind_some] using hn
                                        omega
    have hne : l ≠ r := fun hh => hn (by rw [hh])
    simp only [bs, mkRes_one]
    exact .some (by simp [-Option.bind_some, hne])
  · intro hn
    have hn : l.length = r.length := by have : (l.length : Int) = r.length := by simpa [-Option.bind_some] using hn
                                        omega
    refine Wp.loop (fun k ds g => g = h ∧ ∃ a b c, ∃ i : Nat, ds = [a, .int .i64 i, b, c] ∧ k + i = l.length ∧ l.take i = r.take i)
      (fun x => x.2.2 = h ∧ ((x.1 = .ret ∧ nth 0 x.2.1 = .bool false ∧ l ≠ r) ∨ (x.1 = .ext 0 ∧ l = r))) l.length ⟨rfl, _, _, _, 0, rfl, rfl, rfl⟩ ?_ ?_
    · rintro k ds g ⟨rfl, a, b, c, i, rfl, hk, hi⟩
      simp only [F1026_L0, nth_zero, nth_succ, bs, Option.bind_assoc, lens22 hd, dBin_lss]
      refine Wp.dif ?_ ?_
      · intro h0
        have h0 : i < l.length := by have : (i : Int) < l.length := by simpa [-Option.bind_some] using h0
                                     omega
        have hg : l[i]? = some l[i] := List.getElem?_eq_getElem h0
        have hg2 : r[i]? = some (r[i]'(by omega)) := List.getElem?_eq_getElem (by omega)
        have hw : IntKind.wrap .i64 ((i : Int) + 1) = ((i + 1 : Nat) : Int) := by
          rw [wrap_i64 (by omega) (by omega)]; omega
        generalize l[i] = x at hg
        generalize r[i]'(by omega) = y at hg2
        simp only [ixs22 hd, ixs22 he, Int.natCast_nonneg, if_true, Int.toNat_natCast, hg, hg2, Option.map_some, bs, byr_ld, dBin_neq]
        refine Wp.dif ?_ ?_
        · intro hxy
          have hxy : x ≠ y := by simpa [-Option.bind_some] using hxy
          try simp only [bs]
          refine .some (.inr ⟨by simp [-Option.bind_some], rfl, .inl ⟨rfl, rfl, fun hh => ?_⟩⟩)
          subst hh
          rw [hg] at hg2
          injection hg2 with hg2
          exact hxy hg2
        · intro hxy
          have hxy : x = y := by simpa [-Option.bind_some] using hxy
          subst hxy
          simp only [dBin_add, bs, hw]
          refine .some (.inl ⟨rfl, k - 1, by omega, rfl, _, _, _, i + 1, rfl, by omega, ?_⟩)
          rw [List.take_add_one, List.take_add_one, hi, hg, hg2]
      · intro h0
        have h0 : i = l.length := by have : ¬ (i : Int) < l.length := by simpa [-Option.bind_some] using h0
                                     omega
        refine .some (.inr ⟨by simp [-Option.bind_some], rfl, .inr ⟨rfl, ?_⟩⟩)
        have h1 : l.take i = l := List.take_of_length_le (by omega)
        have h2 : r.take i = r := List.take_of_length_le (by omega)
        rw [← h1, ← h2, hi]
    · rintro ⟨x, ds, g⟩ ⟨rfl, ⟨rfl, hx, hne⟩ | ⟨rfl, hll⟩⟩
      · replace hx : nth 0 ds = .bool false := hx
        simp only [unblk_ret, toEnd_ret, exEnd_ret, nth_zero, bs, hx, mkRes_one]
        exact .some (by simp [-Option.bind_some, hne])
      · simp only [unblk_self, toEnd_nrm, bs, mkRes_one]
        exact .some (by simp [-Option.bind_some, hll])
theorem ti22_eq : tab ty22 = some ti22 := id rfl
theorem ti5_eq : tab ty5 = some ti5 := id rfl
theorem ti3_eq : tab ty3 = some ti3 := id rfl
theorem ti22_td : ti22.td = .sl ty5 := id rfl
theorem ti3_td : ti3.td = .int .i64 := id rfl
theorem ti5_sz : ti5.sz = 1 := id rfl
theorem ti5_by : ti5.by_ = 1 := id rfl
theorem blt01 : Nat.blt 0 1 = true := id rfl
def zby : List D := [.int .u8 0]
theorem s1032 (n : Int) (h : Hp) (h0 : 0 ≤ n) (h1 : n ≤ 1000000000) : R fn1032 [.nils, .int .i64 n] h = if n = 0 then some (.nils, h) else some (.msl 1 h.length 0 0, dNew h ty5 1 (List.replicate n.toNat zby)) := by
  have hc : dCapT tab ty22 .nils = some (.int .i64 0) := id rfl
  have hs : dSliceAt tab ty22 false true false [.nils, .int .i64 0] = some .nils := id rfl
  have hn : ¬ n < 0 := by omega
  have hw0 : IntKind.wrap .i64 0 = 0 := wrap_i64 (by omega) (by omega)
  have hw1 : IntKind.wrap .i64 n = n := wrap_i64 (by omega) (by omega)
  rw [e1032]
  by_cases hz : n = 0
  · subst hz
    simp [-Option.bind_some, F1032, hc, hw0]
  · have hp : 0 < n := by omega
    have hl : lim n.toNat 1 = true := lim_ok (by omega) (by omega)
    have hl2 : lim n.toNat ti5.by_ = true := hl
    obtain ⟨m, hm⟩ : ∃ m, n.toNat = m + 1 := ⟨n.toNat - 1, by omega⟩
    have ha : dAppend tab h ty22 ty3 .nils (.int .i64 n) = some (.msl 1 h.length 0 n.toNat, dNew h ty5 1 (List.replicate n.toNat zby)) := by
      have hd : dSrc h ti3 ti5 (.int .i64 n) = some (List.replicate n.toNat zby) := by
        simp only [dSrc, ti3_td, h0, hl2, true_and, if_true]
        rfl
      unfold dAppend
      simp only [ti22_eq, ti3_eq, ti22_td, ti5_eq, hd, ti5_sz, blt01]
      rw [hm, List.replicate_succ]
      have hl3 : lim (m + 1) ti5.by_ = true := by rw [← hm]; exact hl2
      simp only [List.length_cons, List.length_replicate, hl3, if_true]
    have hs2 : dSliceAt tab ty22 false true false [.msl 1 h.length 0 n.toNat, .int .i64 0] = some (.msl 1 h.length 0 0) := by
      simp [-Option.bind_some, dSliceAt, dInt?, dSlice3, ti22_eq, ti22_td, ti5_eq, ti5_sz]
      omega
    simp [-Option.bind_some, F1032, hc, hw0, hw1, hp, hn, hz, hs, ha, hs2]
theorem s1028 (ps : List (List Int × D)) (d : D) (h : Hp) (hd : SlOf 1 (fun p : List Int × D => [p.2]) ps d) (hps : ∀ p ∈ ps, SlOf 1 byr p.1 p.2) (htot : ((ps.map (·.1)).flatten).length ≤ 1000000000) (hpl : ps.length ≤ 1000000000) : ∃ d', R fn1028 [d] h = some (d', h) ∧ SlOf 1 byr ((ps.map (·.1)).flatten) d' := by
  suffices Wp (R fn1028 [d] h) (fun r => r.2 = h ∧ SlOf 1 byr ((ps.map (·.1)).flatten) r.1) by
    obtain ⟨⟨x, h'⟩, h1, rfl, h2⟩ := this
    exact ⟨x, h1, h2⟩
  have hcl : ∀ i, (((ps.take i).map (·.1)).flatten).length ≤ ((ps.map (·.1)).flatten).length := fun i => by
    have : ((ps.take i).map (·.1)).flatten ++ ((ps.drop i).map (·.1)).flatten = (ps.map (·.1)).flatten := by
      rw [← List.flatten_append, ← List.map_append, List.take_append_drop]
    rw [← this]; simp [-Option.bind_some]
  have hcs : ∀ i p, ps[i]? = some p → ((ps.take (i + 1)).map (·.1)).flatten = ((ps.take i).map (·.1)).flatten ++ p.1 := fun i p hp => by
    rw [List.take_add_one, hp]; simp [-Option.bind_some]
  rw [e1028]
  simp only [F1028, bs, Option.bind_assoc, lens1031 hd]
  refine Wp.loop (fun k ds g => g = h ∧ ∃ a b c, ∃ i : Nat, ds = [.int .i64 (((ps.take i).map (·.1)).flatten).length, a, .int .i64 i, b, c] ∧ k + i = ps.length)
    (fun r => r.1 = .ext 0 ∧ r.2.2 = h ∧ nth 0 r.2.1 = .int .i64 ((ps.map (·.1)).flatten).length) ps.length ⟨rfl, _, _, _, 0, rfl, rfl⟩ ?_ ?_
  · rintro k ds g ⟨rfl, a, b, c, i, rfl, hk⟩
    simp only [F1028_L0, nth_zero, nth_succ, bs, Option.bind_assoc, dBin_lss]
    refine Wp.dif ?_ ?_
    · intro h0
      have h0 : i < ps.length := by have : (i : Int) < ps.length := by simpa [-Option.bind_some] using h0
                                    omega
      have hg : ps[i]? = some ps[i] := List.getElem?_eq_getElem h0
      generalize ps[i] = p at hg
      have hp := hps p (List.mem_of_getElem? hg)
      have hw : IntKind.wrap .i64 ((i : Int) + 1) = ((i + 1 : Nat) : Int) := by
        rw [wrap_i64 (by omega) (by omega)]; omega
      have h1 := hcs i p hg
      have h2 := hcl (i + 1)
      have hw2 : IntKind.wrap .i64 ((((ps.take i).map (·.1)).flatten.length : Int) + p.1.length) = (((ps.take (i + 1)).map (·.1)).flatten).length := by
        rw [h1] at h2 ⊢
        simp only [List.length_append] at h2 ⊢
        rw [wrap_i64 (by omega) (by omega)]; omega
      have hnn : ¬ ((((ps.take (i + 1)).map (·.1)).flatten.length : Int) < 0) := by omega
      simp only [ixs1031 hd, Int.natCast_nonneg, if_true, Int.toNat_natCast, hg, Option.map_some, bs, ld22, lens22 hp, dBin_add, hw2, hw, hnn, decide_false, dIf_bool, Bool.false_eq_true, if_false, unblk_nrm, toEnd_nrm]
      exact .some (.inl ⟨rfl, k - 1, by omega, rfl, _, _, _, i + 1, rfl, by omega⟩)
    · intro h0
      have h0 : i = ps.length := by have : ¬ (i : Int) < ps.length := by simpa [-Option.bind_some] using h0
                                    omega
      subst h0
      exact .some (.inr ⟨by simp [-Option.bind_some], rfl, rfl, by simp [-Option.bind_some]⟩)
  · rintro ⟨x, ds, g⟩ ⟨rfl, rfl, hx⟩
    replace hx : nth 0 ds = _ := hx
    simp only [unblk_self, toEnd_nrm, nth_zero, bs, hx, s1032 _ g (Int.natCast_nonneg _) (by omega : ((((ps.map (·.1)).flatten).length : Nat) : Int) ≤ 1000000000)]
    generalize htt : ((ps.map (·.1)).flatten).length = tot at *
    have hcase : ∃ x0 g0, (if (tot : Int) = 0 then some (D.nils, g) else some (.msl 1 g.length 0 0, dNew g ty5 1 (List.replicate (tot : Int).toNat zby))) = some (x0, g0) ∧ g.length ≤ g0.length ∧ (∀ q, q < g.length → g0[q]? = g[q]?) ∧ ((tot = 0 ∧ x0 = .nils) ∨ (x0 = .msl 1 g.length 0 0 ∧ g0[g.length]? = some (.row ty5 1 (List.replicate tot zby)))) := by
      by_cases hz : tot = 0
      · subst hz
        exact ⟨_, _, by simp [-Option.bind_some], Nat.le_refl _, fun _ _ => rfl, .inl ⟨rfl, rfl⟩⟩
      · refine ⟨.msl 1 g.length 0 0, dNew g ty5 1 (List.replicate tot zby), by simp [-Option.bind_some, hz], by simp [-Option.bind_some, dNew], fun q hq => ?_, .inr ⟨rfl, by simp [-Option.bind_some, dNew]⟩⟩
        simp only [dNew]; rw [List.getElem?_append_left hq]
    obtain ⟨x0, g0, e0, len0, bel0, hx0⟩ := hcase
    refine Wp.step e0 ?_
    simp only [bs]
    refine Wp.loop (fun k ds g' => ∃ x a b, ∃ i : Nat, ds = [x, a, .int .i64 i, b] ∧ k + i = ps.length ∧ g.length ≤ g'.length ∧ (∀ q, q < g.length → g'[q]? = g[q]?) ∧ ((tot = 0 ∧ x = .nils) ∨ (x = .msl 1 g.length 0 (((ps.take i).map (·.1)).flatten.map byr).length ∧ g'[g.length]? = some (.row ty5 1 (((ps.take i).map (·.1)).flatten.map byr ++ List.replicate (tot - (((ps.take i).map (·.1)).flatten).length) zby)))))
      (fun r => r.1 = .ext 2 ∧ g.length ≤ r.2.2.length ∧ (∀ q, q < g.length → r.2.2[q]? = g[q]?) ∧ ((tot = 0 ∧ nth 0 r.2.1 = .nils) ∨ (nth 0 r.2.1 = .msl 1 g.length 0 tot ∧ r.2.2[g.length]? = some (.row ty5 1 ((ps.map (·.1)).flatten.map byr))))) ps.length ⟨x0, _, _, 0, rfl, rfl, len0, bel0, by simpa [-Option.bind_some] using hx0⟩ ?_ ?_
    · rintro k ds g' ⟨x, a, b, i, rfl, hk, len, bel, hxx⟩
      simp only [F1028_L1, nth_zero, nth_succ, bs, Option.bind_assoc, dBin_lss]
      refine Wp.dif ?_ ?_
      · intro h0
        have h0 : i < ps.length := by have : (i : Int) < ps.length := by simpa [-Option.bind_some] using h0
                                      omega
        have hg : ps[i]? = some ps[i] := List.getElem?_eq_getElem h0
        generalize ps[i] = p at hg
        have hp := hps p (List.mem_of_getElem? hg)
        have hw : IntKind.wrap .i64 ((i : Int) + 1) = ((i + 1 : Nat) : Int) := by
          rw [wrap_i64 (by omega) (by omega)]; omega
        have h1 := hcs i p hg
        have h2 := hcl (i + 1)
        rw [h1, List.length_append] at h2
        simp only [ixs1031 hd, Int.natCast_nonneg, if_true, Int.toNat_natCast, hg, Option.map_some, bs, ld22]
        rcases hxx with ⟨hz, rfl⟩ | ⟨rfl, hgo⟩
        · have hp0 : p.1 = [] := List.length_eq_zero_iff.1 (by omega)
          have e3 : dAppend tab g' ty22 ty22 .nils p.2 = some (.nils, g') := by
            have hd : dSrc g' ti22 ti5 p.2 = some [] := by
              simp only [dSrc, ti22_td, ti5_sz, slof_rows _ hp, hp0]
              rfl
            unfold dAppend
            simp only [ti22_eq, ti22_td, ti5_eq, hd, ti5_sz, blt01]
          refine Wp.step e3 ?_
          simp only [dBin_add, bs, hw]
          exact .some (.inl ⟨rfl, k - 1, by omega, _, _, _, i + 1, rfl, by omega, len, bel, .inl ⟨hz, rfl⟩⟩)
        · obtain ⟨g3, e3, hg3, s3⟩ := app_room (T := tab) (t := ty22) (i := ti22) (j := ti5) (id rfl) (id rfl) (id rfl) (by decide) hgo (slof_rows _ hp) (lim_ok (by rw [ti5_by]; simp only [List.length_map]; omega) (by simp only [List.length_map]; omega)) (by simp only [List.length_map, List.length_replicate]; omega)
          refine Wp.step e3 ?_
          simp only [bs, dBin_add, hw]
          refine .some (.inl ⟨rfl, k - 1, by omega, _, _, _, i + 1, rfl, by omega, by rw [s3.1]; exact len, fun q hq => (s3.2 q (by omega)).trans (bel q hq), .inr ⟨?_, ?_⟩⟩)
          · rw [h1]; simp [-Option.bind_some]; rfl
          · refine hg3.trans ?_
            rw [h1]
            simp only [List.map_append, List.length_map, List.drop_replicate, List.length_append]
            congr 4
            omega
      · intro h0
        have h0 : i = ps.length := by have : ¬ (i : Int) < ps.length := by simpa [-Option.bind_some] using h0
                                      omega
        subst h0
        refine .some (.inr ⟨by simp [-Option.bind_some], rfl, len, bel, ?_⟩)
        rcases hxx with ⟨h1, rfl⟩ | ⟨rfl, hgo⟩
        · exact .inl ⟨h1, rfl⟩
        · right
          rw [List.take_length] at hgo ⊢
          simp only [nth_zero, List.length_map, htt] at hgo ⊢
          simpa [-Option.bind_some] using hgo
    · rintro ⟨ex, ds, g'⟩ ⟨rfl, len, bel, hxx⟩
      simp only [unblk_self, toEnd_nrm, bs, mkRes_one]
      rcases hxx with ⟨h1, hx⟩ | ⟨hx, hgo⟩
      · replace hx : nth 0 ds = _ := hx
        rw [hx, scope_eq (d' := .nils) (by simp [-Option.bind_some]) .nils len bel]
        refine .some ⟨rfl, .inl ⟨rfl, ?_⟩⟩
        exact List.length_eq_zero_iff.1 (by omega)
      · replace hx : nth 0 ds = _ := hx
        have hsl : SlOf 1 byr ((ps.map (·.1)).flatten) (frz g.length g' 4 (nth 0 ds)) := by
          rw [hx]
          refine own_sl (n := 3) (n1 := g.length) (e := ty5) (.inr ⟨g.length, Nat.le_refl _, by rw [List.length_map, htt], hgo⟩) (Nat.le_refl _) fun a _ => byr_frz _ _ _ a
        rw [scope_eq rfl (slof_ok hsl fun a _ => byr_ok _ a) len bel]
        exact .some ⟨rfl, hsl⟩
theorem wrap_u64 {n : Int} (h0 : 0 ≤ n) (h1 : n < 18446744073709551616) : IntKind.wrap .u64 n = n := by
  unfold IntKind.wrap
  simp [-Option.bind_some, IntKind.signed, IntKind.bits, IntKind.min, IntKind.max]
  omega
theorem own_rows {h : Hp} {n0 e z : Nat} {rows : List (List D)} {d : D} (hd : Own h n0 e z rows d) : dRowsOf h z d = some rows := by
  rcases hd with ⟨rfl, rfl⟩ | ⟨o, _, rfl, hg⟩
  · rfl
  · simp [-Option.bind_some, dRowsOf, hg]
theorem s1029 (l p : List Int) (dl dp : D) (h : Hp) (hl : SlOf 1 byr l dl) (hp : SlOf 1 byr p dp) (hn : (l ++ p).length ≤ 1000000000) : R fn1029 [dl, dp] h = some (.int .u32 (crc (l ++ p)), h) := by
  rw [e1029]
  obtain ⟨d', e1, hs⟩ := s1028 [(l, dl), (p, dp)] (.sl 1 true [[dl], [dp]]) h (SlOf.mk 1 (fun p : List Int × D => [p.2]) [(l, dl), (p, dp)] true) (by simp [-Option.bind_some, hl, hp]) (by simpa [-Option.bind_some] using hn) (by simp [-Option.bind_some])
  have hs' : SlOf 1 byr (l ++ p) d' := by simpa [-Option.bind_some] using hs
  simp only [F1029, bs, bs1031_2 dl dp (slof_one hl) (slof_one hp), e1, s1033 _ _ h hs' (by omega), mkRes_one]
def jErr (j p : List Int) : Int := if p.length = 0 ∨ 8388608 < p.length then 3 else if 67108864 < j.length + 8 + p.length then 16 else 0
def jRes (j p : List Int) : List Int := if jErr j p = 0 then j ++ fixb p.length ++ fixb (crc (fixb p.length ++ p)) ++ p else []
theorem fixb_len (n : Int) : (fixb n).length = 4 := rfl
theorem s1024 (j p : List Int) (dj dp : D) (h : Hp) (hj : SlOf 1 byr j dj) (hp : SlOf 1 byr p dp) (hjl : j.length ≤ 100000000) (hpl : p.length ≤ 100000000) : ∃ d', R fn1024 [dj, dp] h = some (.tup [d', .int .i64 (jErr j p)], h) ∧ SlOf 1 byr (jRes j p) d' := by
  rw [e1024]
  have w1 := wrap_i64 (n := (j.length : Int) + 8) (by omega) (by omega)
  have w2 := wrap_i64 (n := (j.length : Int) + 8 + p.length) (by omega) (by omega)
  by_cases h0 : p.length = 0
  · have he : jErr j p = 3 := by simp [-Option.bind_some, jErr, h0]
    exact ⟨.nils, by simp [-Option.bind_some, F1024, lens22 hp, h0, he], .inl ⟨rfl, by simp [-Option.bind_some, jRes, he]⟩⟩
  have hpn : ¬ p = [] := by intro hh; subst hh; simp [-Option.bind_some] at h0
  by_cases h1 : 8388608 < p.length
  · have he : jErr j p = 3 := by simp [-Option.bind_some, jErr, h0, h1]
    have h1' : (8388608 : Int) < p.length := by omega
    have h0' : ¬ (p.length : Int) = 0 := by omega
    exact ⟨.nils, by simp [-Option.bind_some, F1024, lens22 hp, hpn, h1', he], .inl ⟨rfl, by simp [-Option.bind_some, jRes, he]⟩⟩
  have h1' : ¬ (8388608 : Int) < p.length := by omega
  have h0' : ¬ (p.length : Int) = 0 := by omega
  by_cases h2 : 67108864 < j.length + 8 + p.length
  · have he : jErr j p = 16 := by simp [-Option.bind_some, jErr, h0, h1, h2]
    have h2' : (67108864 : Int) < j.length + 8 + p.length := by omega
    exact ⟨.nils, by simp [-Option.bind_some, F1024, lens22 hp, lens22 hj, hpn, h1', w1, w2, h2', he], .inl ⟨rfl, by simp [-Option.bind_some, jRes, he]⟩⟩
  have h2' : ¬ (67108864 : Int) < j.length + 8 + p.length := by omega
  have he : jErr j p = 0 := by simp [-Option.bind_some, jErr, h0, h1, h2]
  have hw : IntKind.wrap .u32 (p.length : Int) = p.length := wrap_u32 (by omega) (by omega)
  have hsum := s1029 (fixb p.length) p _ dp h (SlOf.mk 1 byr (fixb p.length) true) hp (by simp [-Option.bind_some, fixb_len]; omega)
  obtain ⟨d', e1, hs⟩ := s1028 [(j, dj), (fixb p.length, .sl 1 true ((fixb p.length).map byr)), (fixb (crc (fixb p.length ++ p)), .sl 1 true ((fixb (crc (fixb p.length ++ p))).map byr)), (p, dp)]
    (.sl 1 true [[dj], [.sl 1 true ((fixb p.length).map byr)], [.sl 1 true ((fixb (crc (fixb p.length ++ p))).map byr)], [dp]]) h (SlOf.mk 1 (fun p : List Int × D => [p.2]) [(j, dj), (fixb p.length, .sl 1 true ((fixb p.length).map byr)), (fixb (crc (fixb p.length ++ p)), .sl 1 true ((fixb (crc (fixb p.length ++ p))).map byr)), (p, dp)] true)
    (by simp [-Option.bind_some, hj, hp]; exact ⟨SlOf.mk _ _ _ _, SlOf.mk _ _ _ _⟩) (by simp [-Option.bind_some, fixb_len]; omega) (by simp [-Option.bind_some])
  refine ⟨d', ?_, by simpa [-Option.bind_some, jRes, he] using hs⟩
  have hl4 := bs1031_4 dj (.sl 1 true ((fixb p.length).map byr)) (.sl 1 true ((fixb (crc (fixb p.length ++ p))).map byr)) dp (slof_one hj) rfl rfl (slof_one hp)
  simp [-Option.bind_some, F1024, lens22 hp, lens22 hj, hpn, h1', w1, w2, h2', he, hw, s1027, hsum, hl4, e1]
theorem s1025 (j p : List Int) (dj dp : D) (h : Hp) (hj : SlOf 1 byr j dj) (hp : SlOf 1 byr p dp) (hjl : j.length ≤ 100000000) (hpl : p.length ≤ 100000000) : ∃ d', R fn1025 [dj, dp] h = some (.tup [d', .int .i64 (jErr j p)], h) ∧ SlOf 1 byr (jRes j p) d' := by
  rw [e1025]
  have w1 := wrap_i64 (n := (j.length : Int) + 8) (by omega) (by omega)
  have w2 := wrap_i64 (n := (j.length : Int) + 8 + p.length) (by omega) (by omega)
  have hsn : ∀ n : Int, scope h h (.tup [.nils, .int .i64 n]) = some (.tup [.nils, .int .i64 n], h) := fun n => scope_eq (by simp [-Option.bind_some]) (.tup _ fun d hd => by simp [-Option.bind_some] at hd; rcases hd with rfl | rfl <;> constructor) (Nat.le_refl _) fun _ _ => rfl
  by_cases h0 : p.length = 0
  · have he : jErr j p = 3 := by simp [-Option.bind_some, jErr, h0]
    exact ⟨.nils, by simp [-Option.bind_some, F1025, lens22 hp, h0, he, hsn], .inl ⟨rfl, by simp [-Option.bind_some, jRes, he]⟩⟩
  have hpn : ¬ p = [] := by intro hh; subst hh; simp [-Option.bind_some] at h0
  by_cases h1 : 8388608 < p.length
  · have he : jErr j p = 3 := by simp [-Option.bind_some, jErr, h0, h1]
    have h1' : (8388608 : Int) < p.length := by omega
    have h0' : ¬ (p.length : Int) = 0 := by omega
    exact ⟨.nils, by simp [-Option.bind_some, F1025, lens22 hp, hpn, h1', he, hsn], .inl ⟨rfl, by simp [-Option.bind_some, jRes, he]⟩⟩
  have h1' : ¬ (8388608 : Int) < p.length := by omega
  have h0' : ¬ (p.length : Int) = 0 := by omega
  by_cases h2 : 67108864 < j.length + 8 + p.length
  · have he : jErr j p = 16 := by simp [-Option.bind_some, jErr, h0, h1, h2]
    have h2' : (67108864 : Int) < j.length + 8 + p.length := by omega
    exact ⟨.nils, by simp [-Option.bind_some, F1025, lens22 hp, lens22 hj, hpn, h1', w1, w2, h2', he, hsn], .inl ⟨rfl, by simp [-Option.bind_some, jRes, he]⟩⟩
  have h2' : ¬ (67108864 : Int) < j.length + 8 + p.length := by omega
  have he : jErr j p = 0 := by simp [-Option.bind_some, jErr, h0, h1, h2]
  suffices Wp (F1025 dj dp h) (fun r => ∃ d', r = (.tup [d', .int .i64 0], h) ∧ SlOf 1 byr (jRes j p) d') by
    obtain ⟨r, e1, d', rfl, h3⟩ := this
    exact ⟨d', by rw [he]; exact e1, h3⟩
  have hw : IntKind.wrap .u64 (p.length : Int) = p.length := wrap_u64 (by omega) (by omega)
  simp only [F1025, bs, lens22 hp, lens22 hj, dBin_eql, dBin_gtr, dBin_add, w1, w2, h0', h1', h2', decide_false, gd_bool, if_true, dPick_bool, Bool.false_eq_true, if_false, dIf_bool, cv3_1029, hw]
  obtain ⟨d1, g1, e1, o1, len1, keep1, fre1⟩ := s1030 p.length h.length h [] .nils (Nat.le_refl _) (Own.nils _ _ _ _) (by simp [-Option.bind_some])
  refine Wp.step e1 ?_
  simp only [bs]
  have ni : ∀ q, ¬ D.nils.inOb q := fun q ⟨_, _, hh⟩ => by cases hh
  rw [List.nil_append] at o1
  refine wap22 len1 (Own.nils _ _ _ _) (own_rows o1) (by simp [-Option.bind_some, fixb_len]) fun x2 g2 o2 len2 bel2 keep2 fre2 => ?_
  simp only [bs]
  rw [List.nil_append] at o2
  have o1' := o1.keep (h' := g2) fun q hq hin => keep2 q (o1.lt hin).2 (ni q)
  refine wap22 (by omega) o2 (slof_rows _ hp) (by simp [-Option.bind_some, fixb_len]; omega) fun x3 g3 o3 len3 bel3 keep3 fre3 => ?_
  simp only [bs]
  have o1'' := o1'.keep (h' := g3) fun q hq hin => keep3 q (o1'.lt hin).2 fun hx => by
    rcases fre2 q hx with hh | hh
    · exact ni q hh
    · have := (o1.lt hin).2; omega
  rw [← List.map_append] at o3
  rw [s1031 (fixb p.length ++ p) x3 g3 (.inr ⟨_, _, o3⟩) (by simp [-Option.bind_some, fixb_len]; omega)]
  simp only [bs]
  refine wap22 (n0 := h.length) (by omega) (Own.nils _ _ _ _) (slof_rows _ hj) (by simp [-Option.bind_some]; omega) fun x4 g4 o4 len4 bel4 keep4 fre4 => ?_
  have hcu := crc_u32 (fixb p.length ++ p)
  have hw2 : IntKind.wrap .u64 (crc (fixb p.length ++ p)) = crc (fixb p.length ++ p) := wrap_u64 hcu.1 (by have := hcu.2; omega)
  simp only [bs, cv65_1029, hw2]
  rw [List.nil_append] at o4
  have o1c := o1''.keep (h' := g4) fun q hq hin => keep4 q (o1''.lt hin).2 (ni q)
  obtain ⟨d5, g5, e5, o5, len5, keep5, fre5⟩ := s1030 (crc (fixb p.length ++ p)) h.length g4 _ d1 (by omega) o1c (by simp [-Option.bind_some, fixb_len])
  refine Wp.step e5 ?_
  simp only [bs]
  have o4' := o4.keep (h' := g5) fun q hq hin => keep5 q (o4.lt hin).2 fun hx => by
    rcases fre4 q hin with hh | hh
    · exact ni q hh
    · have := (o1''.lt hx).2; omega
  refine wap22 (by omega) o4' (own_rows o5) (by simp [-Option.bind_some, fixb_len]; omega) fun x6 g6 o6 len6 bel6 keep6 fre6 => ?_
  simp only [bs]
  refine wap22 (by omega) o6 (slof_rows _ hp) (by simp [-Option.bind_some, fixb_len]; omega) fun x7 g7 o7 len7 bel7 keep7 fre7 => ?_
  simp only [bs, mkRes_two]
  have hrows : List.map byr j ++ List.map byr (fixb p.length) ++ List.map byr (fixb (crc (fixb p.length ++ p))) ++ List.map byr p = List.map byr (jRes j p) := by
    simp [-Option.bind_some, jRes, he]
  have o8 : Own g7 h.length ty5 1 (List.map byr (jRes j p)) x7 := by
    rw [← hrows]
    simpa [-Option.bind_some] using o7
  have hsl := own_sl (n0 := h.length) (n := 2) o8 (Nat.le_refl _) (fun a _ => byr_frz _ g7 _ a)
  rw [scope_eq (d' := .tup [frz h.length g7 3 x7, .int .i64 0]) (by simp [-Option.bind_some]) (.tup _ fun d hd => by
    simp [-Option.bind_some] at hd
    rcases hd with rfl | rfl
    · exact slof_ok hsl fun a _ => byr_ok _ a
    · constructor) (by omega) (fun q hq => by
    rw [bel7 q hq, bel6 q hq, keep5 q (by omega) (fun hx => by have := (o1c.lt hx).1; omega), bel4 q hq, bel3 q hq, bel2 q hq, keep1 q hq (ni q)])]
  exact .some ⟨_, rfl, hsl⟩
theorem s1023 (h : Hp) : R fn1023 [] h = some (.bool true, h) := by
  rw [e1023]
  obtain ⟨d', e1, hs⟩ := s1024 [] [1] .nils (.sl 1 true [[.int .u8 1]]) h (SlOf.nils _ _) (SlOf.mk 1 byr [1] true) (by simp [-Option.bind_some]) (by simp [-Option.bind_some])
  have h0 : jErr [] [1] = 0 := by decide
  have h1 : (jRes [] [1]).length = 9 := by simp [-Option.bind_some, jRes, h0, fixb_len]
  rw [h0] at e1
  simp [-Option.bind_some, F1023, e1, lens22 hs, h1]
theorem s95 (l r : List (Str × Str)) (d e : D) (h : Hp) (hd : SlOf 2 fld l d) (he : SlOf 2 fld r e) (hl : l.length ≤ 9223372036854775807) : R fn95 [d, e] h = some (.bool (decide (l = r)), h) := by
  suffices Wp (R fn95 [d, e] h) (fun p => p = (.bool (decide (l = r)), h)) by
    obtain ⟨p, h1, rfl⟩ := this
    exact h1
  rw [e95]
  simp only [F95, bs, Option.bind_assoc, lens29 hd, lens29 he, dBin_neq]
  refine Wp.dif ?_ ?_
  · intro hn
    have hn : l.length ≠ r.length := by have : ¬ (l.length : Int) = r.length := by simpa [-Option.bind_some] using hn
                                        omega
    have hne : l ≠ r := fun hh => hn (by rw [hh])
    simp only [bs, mkRes_one]
    exact .some (by simp [-Option.bind_some, hne])
  · intro hn
    have hn : l.length = r.length := by have : (l.length : Int) = r.length := by simpa [-Option.bind_some] using hn
                                        omega
    refine Wp.loop (fun k ds g => g = h ∧ ∃ a b c, ∃ i : Nat, ds = [a, .int .i64 i, b, c] ∧ k + i = l.length ∧ l.take i = r.take i)
      (fun x => x.2.2 = h ∧ ((x.1 = .ret ∧ nth 0 x.2.1 = .bool false ∧ l ≠ r) ∨ (x.1 = .ext 0 ∧ l = r))) l.length ⟨rfl, _, _, _, 0, rfl, rfl, rfl⟩ ?_ ?_
    · rintro k ds g ⟨rfl, a, b, c, i, rfl, hk, hi⟩
      simp only [F95_L0, nth_zero, nth_succ, bs, Option.bind_assoc, lens29 hd, dBin_lss]
      refine Wp.dif ?_ ?_
      · intro h0
        have h0 : i < l.length := by have : (i : Int) < l.length := by simpa [-Option.bind_some] using h0
                                     omega
        have hg : l[i]? = some l[i] := List.getElem?_eq_getElem h0
        have hg2 : r[i]? = some (r[i]'(by omega)) := List.getElem?_eq_getElem (by omega)
        have hw : IntKind.wrap .i64 ((i : Int) + 1) = ((i + 1 : Nat) : Int) := by
          rw [wrap_i64 (by omega) (by omega)]; omega
        generalize l[i] = x at hg
        generalize r[i]'(by omega) = y at hg2
        simp only [ixs29 hd, ixs29 he, Int.natCast_nonneg, if_true, Int.toNat_natCast, hg, hg2, Option.map_some, bs, fld_ld, fld_neq]
        refine Wp.dif ?_ ?_
        · intro hxy
          have hxy : x ≠ y := by simpa [-Option.bind_some] using hxy
          try simp only [bs]
          refine .some (.inr ⟨by simp [-Option.bind_some], rfl, .inl ⟨rfl, rfl, fun hh => ?_⟩⟩)
          subst hh
          rw [hg] at hg2
          injection hg2 with hg2
          exact hxy hg2
        · intro hxy
          have hxy : x = y := by simpa [-Option.bind_some] using hxy
          subst hxy
          simp only [dBin_add, bs, hw]
          refine .some (.inl ⟨rfl, k - 1, by omega, rfl, _, _, _, i + 1, rfl, by omega, ?_⟩)
          rw [List.take_add_one, List.take_add_one, hi, hg, hg2]
      · intro h0
        have h0 : i = l.length := by have : ¬ (i : Int) < l.length := by simpa [-Option.bind_some] using h0
                                     omega
        refine .some (.inr ⟨by simp [-Option.bind_some], rfl, .inr ⟨rfl, ?_⟩⟩)
        have h1 : l.take i = l := List.take_of_length_le (by omega)
        have h2 : r.take i = r := List.take_of_length_le (by omega)
        rw [← h1, ← h2, hi]
    · rintro ⟨x, ds, g⟩ ⟨rfl, ⟨rfl, hx, hne⟩ | ⟨rfl, hll⟩⟩
      · replace hx : nth 0 ds = .bool false := hx
        simp only [unblk_ret, toEnd_ret, exEnd_ret, nth_zero, bs, hx, mkRes_one]
        exact .some (by simp [-Option.bind_some, hne])
      · simp only [unblk_self, toEnd_nrm, bs, mkRes_one]
        exact .some (by simp [-Option.bind_some, hll])
def sameE (a b : Ev) : Bool := decide (a.a0 = b.a0) && (decide (a.a1 = b.a1) && (decide (a.a2 = b.a2) && (decide (a.a3 = b.a3) && (decide (a.a5 = b.a5) && (decide (a.a6 = b.a6) && (decide (a.s7 = b.s7) && (decide (a.s8 = b.s8) && (decide (a.ls = b.ls) && decide (a.fs = b.fs)))))))))
/-- The value of the first field of a name. -/
def getF (l : List (Str × Str)) (n : Str) : Option Str := (l.find? fun p => p.1 == n).map (·.2)
/-- Does a field of this value apply? -/
def app (f v : Str) (e : Ev) : Bool := f == [] || getF e.fs f == some v
theorem given_len {zs : List Int} {d : D} (hd : Given .u8 zs d) : dLenT tab ty22 d = some (.int .i64 zs.length) := by
  rcases hd with ⟨rfl, rfl⟩ | rfl
  · rfl
  · simp [-Option.bind_some, ints]
theorem s57 (o pos : Nat) (zs : List Int) (d : D) (h : Hp) (ho : h[o]? = some (.row ty101 2 [[d, .int .i64 pos]])) (hd : Given .u8 zs d) : R fn57 [.ptr o 0 0] h = some (.bool (decide (pos < zs.length)), h) := by
  rw [e57]
  simp [-Option.bind_some, F57, Hp.row, ho, given_len hd]
theorem given_ix {zs : List Int} {d : D} (hd : Given .u8 zs d) (i : Nat) (z : Int) (hz : zs[i]? = some z) : dIndexAddr tab ty22 d (.int .i64 i) = some (.fptr [.int .u8 z]) := by
  rcases hd with ⟨rfl, rfl⟩ | rfl
  · cases hz
  · simp [-Option.bind_some, ints, hz]
theorem store_ptr3 (h : Hp) (o k f : Nat) (v : D) : dStore tab h ty3 (.ptr o k f) v = pSt 1 h (.ptr o k f) v := rfl
theorem s24 (o pos : Nat) (zs : List Int) (d : D) (n z : Int) (h : Hp) (ho : h[o]? = some (.row ty101 2 [[d, .int .i64 pos]])) (hd : Given .u8 zs d) (hn : 1 ≤ n) (hn2 : n ≤ 1000000000) (hz : zs[pos]? = some z) (hz0 : 0 ≤ z) (hz1 : z < 256) (hl : zs.length ≤ 400) :
    R fn24 [.ptr o 0 0, .int .i64 n] h = some (.int .i64 (z * n / 256), h.set o (.row ty101 2 [[d, .int .i64 ((pos + 1 : Nat) : Int)]])) := by
  have hp : pos < zs.length := (List.getElem?_eq_some_iff.1 hz).1
  have hn' : ¬ n < 1 := by omega
  have hw : IntKind.wrap .i64 ((pos : Int) + 1) = (pos : Int) + 1 := wrap_i64 (by omega) (by omega)
  have hzw : IntKind.wrap .i64 z = z := wrap_i64 (by omega) (by omega)
  rw [e24]
  simp [-Option.bind_some, F24, s57 o pos zs d h ho hd, hp, hn', Hp.row, ho, given_ix hd pos z hz, hw, hzw, store_ptr3, pSt, D.okv, cells1, D.one, spl]
  have h0 : 0 ≤ z * n := Int.mul_nonneg hz0 (by omega)
  have h1 : z * n ≤ 255 * 1000000000 := Int.mul_le_mul (by omega) hn2 (by omega) (by omega)
  have e1 : IntKind.wrap .i64 (z * n) = z * n := wrap_i64 (by omega) (by omega)
  rw [e1, Int.tdiv_eq_ediv_of_nonneg h0, wrap_i64 (by omega) (by omega)]
/-- An object holds codes; these are left. -/
def CO (h : Hp) (o : Nat) (rest : List Int) : Prop := ∃ (d : D) (zs : List Int) (pos : Nat), h[o]? = some (.row ty101 2 [[d, .int .i64 pos]]) ∧ Given .u8 zs d ∧ zs.length ≤ 400 ∧ rest = zs.drop pos ∧ ∀ z ∈ zs, 0 ≤ z ∧ z < 256
def nx (n : Int) : List Int → Int × List Int
  | [] => (0, [])
  | z :: r => if n < 1 then (0, z :: r) else (z * n / 256, r)
theorem left_ok {h : Hp} {o : Nat} {rest : List Int} (hc : CO h o rest) : R fn57 [.ptr o 0 0] h = some (.bool (decide (rest ≠ [])), h) := by
  obtain ⟨d, zs, pos, ho, hd, hl, rfl, hz⟩ := hc
  rw [s57 o pos zs d h ho hd]
  have : (pos < zs.length) ↔ zs.drop pos ≠ [] := by
    rw [ne_eq, List.drop_eq_nil_iff]; omega
  congr 3
  exact decide_eq_decide.2 this
theorem next_ok {h : Hp} {o : Nat} {rest : List Int} (hc : CO h o rest) (n : Int) (hn2 : n ≤ 1000000000) : ∃ h', R fn24 [.ptr o 0 0, .int .i64 n] h = some (.int .i64 (nx n rest).1, h') ∧ CO h' o (nx n rest).2 ∧ Same o h h' := by
  have hl := left_ok hc
  cases hr : rest with
  | nil =>
    subst hr
    refine ⟨h, ?_, hc, .refl _ _⟩
    rw [e24]
    simp [-Option.bind_some, F24, hl, nx]
  | cons z r =>
    by_cases hn : n < 1
    · refine ⟨h, ?_, by simpa [-Option.bind_some, nx, hn, hr] using hc, .refl _ _⟩
      rw [e24]
      simp [-Option.bind_some, F24, hl, nx, hn, hr]
    · obtain ⟨d, zs, pos, ho, hd, hl4, hrest, hz⟩ := hc
      have hzp : zs[pos]? = some z := by
        have : (zs.drop pos)[0]? = some z := by rw [← hrest, hr]; rfl
        simpa [-Option.bind_some] using this
      have hm := hz z (List.mem_of_getElem? hzp)
      have holt : o < h.length := (List.getElem?_eq_some_iff.1 ho).1
      refine ⟨_, (s24 o pos zs d n z h ho hd (by omega) hn2 hzp hm.1 hm.2 hl4).trans (by rw [show (nx n (z :: r)).1 = z * n / 256 by simp [-Option.bind_some, nx, hn]]), ?_, ?_⟩
      · refine ⟨d, zs, pos + 1, by simp [-Option.bind_some, holt], hd, hl4, ?_, hz⟩
        have : (zs.drop pos).drop 1 = r := by rw [← hrest, hr]; rfl
        simpa [-Option.bind_some, nx, hn] using this.symm
      · exact ⟨by simp [-Option.bind_some], fun q hq => by rw [List.getElem?_set_ne (by omega)]⟩
theorem nx_bound (n : Int) (rest : List Int) (h : ∀ z ∈ rest, 0 ≤ z ∧ z < 256) : 0 ≤ (nx n rest).1 ∧ (1 ≤ n → (nx n rest).1 < n) := by
  cases rest with
  | nil => simp [-Option.bind_some, nx]; omega
  | cons z r =>
    have := h z (by simp [-Option.bind_some])
    unfold nx
    by_cases hn : n < 1
    · simp [-Option.bind_some, hn]; omega
    · simp only [hn, if_false]
      have h0 : 0 ≤ z * n := Int.mul_nonneg this.1 (by omega)
      have h1 : z * n ≤ 255 * n := Int.mul_le_mul_of_nonneg_right (by omega) (by omega)
      constructor
      · omega
      · intro _; omega
/-- An object holds codes. -/
def CD (h : Hp) (o : Nat) : Prop := ∃ rest, CO h o rest
theorem CD.keep {h h' : Hp} {o : Nat} (hc : CD h o) (he : h'[o]? = h[o]?) : CD h' o := by
  obtain ⟨rest, d, zs, pos, ho, hr⟩ := hc
  exact ⟨rest, d, zs, pos, by rw [he]; exact ho, hr⟩
theorem CD.lt {h : Hp} {o : Nat} (hc : CD h o) : o < h.length := by
  obtain ⟨rest, d, zs, pos, ho, hr⟩ := hc
  exact (List.getElem?_eq_some_iff.1 ho).1
theorem CD.ok {h : Hp} {o : Nat} (hc : CD h o) (n : Nat) : ∀ T sz rows, h[o]? = some (.row T sz rows) → ∀ row ∈ rows, ∀ d ∈ row, Ok n d := by
  obtain ⟨rest, d, zs, pos, ho, hd, _⟩ := hc
  intro T sz rows hr row hrow x hx
  rw [ho] at hr
  injection hr with hr
  injection hr with _ _ hr
  subst hr
  simp [-Option.bind_some] at hrow
  subst hrow
  simp [-Option.bind_some] at hx
  rcases hx with rfl | rfl
  · exact given_okd hd n
  · exact .int _ _
theorem next_b {h : Hp} {o : Nat} (hc : CD h o) (n : Int) (hn : 1 ≤ n) (hn2 : n ≤ 1000000000) : ∃ v h', R fn24 [.ptr o 0 0, .int .i64 n] h = some (.int .i64 v, h') ∧ CD h' o ∧ Same o h h' ∧ 0 ≤ v ∧ v < n := by
  obtain ⟨rest, hc⟩ := hc
  obtain ⟨h', h1, h2, h3⟩ := next_ok hc n hn2
  have hb : ∀ z ∈ rest, 0 ≤ z ∧ z < 256 := by
    obtain ⟨d, zs, pos, ho, hd, hl, rfl, hz⟩ := hc
    exact fun z hz' => hz z (List.mem_of_mem_drop hz')
  exact ⟨_, h', h1, ⟨_, h2⟩, h3, (nx_bound n rest hb).1, (nx_bound n rest hb).2 hn⟩
theorem d102 {h : Hp} {o : Nat} (hc : CD h o) : ∃ s h', R fn102 [.ptr o 0 0] h = some (.str s, h') ∧ CD h' o ∧ Same o h h' ∧ s.length ≤ 7 := by
  obtain ⟨v, h', h1, h2, h3, h4, h5⟩ := next_b hc 14 (by omega) (by omega)
  obtain ⟨s, hs, hg⟩ := pick_of lt98_10 v h4 h5
  refine ⟨s, h', ?_, h2, h3, ?_⟩
  · rw [e102]; simp [-Option.bind_some, F102, h1, h4, hg]
  · exact (show ∀ s ∈ lt98_10, s.length ≤ 7 by decide) s hs
theorem d33 {h : Hp} {o : Nat} (hc : CD h o) : ∃ s h', R fn33 [.ptr o 0 0] h = some (.str s, h') ∧ CD h' o ∧ Same o h h' ∧ s.length ≤ 19 := by
  obtain ⟨v, h', h1, h2, h3, h4, h5⟩ := next_b hc 11 (by omega) (by omega)
  obtain ⟨s, hs, hg⟩ := pick_of lt98_1 v h4 h5
  refine ⟨s, h', ?_, h2, h3, ?_⟩
  · rw [e33]; simp [-Option.bind_some, F33, h1, h4, hg]
  · exact (show ∀ s ∈ lt98_1, s.length ≤ 19 by decide) s hs
theorem d97 {h : Hp} {o : Nat} (hc : CD h o) : ∃ n h', R fn97 [.ptr o 0 0] h = some (.int .i64 n, h') ∧ CD h' o ∧ Same o h h' ∧ 1 ≤ n ∧ n ≤ 5040 ∧ Int.tmod 5040 n = 0 := by
  obtain ⟨v, h', h1, h2, h3, h4, h5⟩ := next_b hc 6 (by omega) (by omega)
  obtain ⟨s, hs, hg⟩ := pick_of lt82_8 v h4 h5
  refine ⟨s, h', ?_, h2, h3, ?_⟩
  · rw [e97]; simp [-Option.bind_some, F97, h1, h4, hg]
  · exact (show ∀ s ∈ lt82_8, 1 ≤ s ∧ s ≤ 5040 ∧ Int.tmod 5040 s = 0 by decide) s hs
theorem d35 {h : Hp} {o : Nat} (hc : CD h o) : ∃ n h', R fn35 [.ptr o 0 0] h = some (.int .i64 n, h') ∧ CD h' o ∧ Same o h h' ∧ 0 ≤ n ∧ n ≤ 253402300799999 := by
  obtain ⟨v, h', h1, h2, h3, h4, h5⟩ := next_b hc 4 (by omega) (by omega)
  rw [e35]
  by_cases v0 : v = 0
  · obtain ⟨u, g', g1, g2, g3, g4, g5⟩ := next_b h2 40 (by omega) (by omega)
    refine ⟨u * 86400000, g', ?_, g2, h3.trans g3, by omega, by omega⟩
    simp [-Option.bind_some, F35, h1, v0, g1, wrap_i64 (n := u * 86400000) (by omega) (by omega)]
  · by_cases v1 : v = 1
    · obtain ⟨u, g', g1, g2, g3, g4, g5⟩ := next_b h2 3 (by omega) (by omega)
      refine ⟨253402300799999 - u * 86400000, g', ?_, g2, h3.trans g3, by omega, by omega⟩
      simp [-Option.bind_some, F35, h1, v0, v1, g1, wrap_i64 (n := u * 86400000) (by omega) (by omega), wrap_i64 (n := 253402300799999 - u * 86400000) (by omega) (by omega)]
    · obtain ⟨u, g', g1, g2, g3, g4, g5⟩ := next_b h2 60 (by omega) (by omega)
      refine ⟨1000 + u, g', ?_, g2, h3.trans g3, by omega, by omega⟩
      simp [-Option.bind_some, F35, h1, v0, v1, g1, wrap_i64 (n := 1000 + u) (by omega) (by omega)]
/-- What a function that draws has done so far. -/
structure St (h0 : Hp) (o : Nat) (g : Hp) : Prop where
  lt : o < h0.length
  cd : CD g o
  gr : Grow h0.length o h0 g
theorem St.refl {h : Hp} {o : Nat} (hc : CD h o) : St h o h := ⟨hc.lt, hc, .refl _ _ _⟩
theorem St.next {h0 g g' : Hp} {o : Nat} (s : St h0 o g) (hc : CD g' o) (hs : Same o g g') : St h0 o g' := ⟨s.lt, hc, s.gr.trans hs.grow⟩
theorem St.app {h0 g g' : Hp} {o : Nat} (s : St h0 o g) (hl : g.length ≤ g'.length) (hb : ∀ q, q < h0.length → g'[q]? = g[q]?) : St h0 o g' := ⟨s.lt, s.cd.keep (hb o s.lt), s.gr.trans ⟨hl, fun q hq _ => hb q hq⟩⟩
theorem St.le {h0 g : Hp} {o : Nat} (s : St h0 o g) : h0.length ≤ g.length := s.gr.1
theorem St.scope {h0 g : Hp} {o : Nat} (s : St h0 o g) {d d' : D} (hd : frz h0.length g 4 d = d') (hok : Ok h0.length d') : ∃ h', scope h0 g d = some (d', h') ∧ CD h' o ∧ Same o h0 h' := by
  obtain ⟨h1, h2, h3⟩ := scope_same hd hok s.gr (s.cd.ok h0.length)
  exact ⟨_, h1, s.cd.keep (h3 o s.lt), h2⟩
theorem d44 (zs : List Int) (d : D) (n : Int) (h : Hp) (hd : Given .u8 zs d) (hn : 0 ≤ n) (hn2 : n ≤ 400) (hz : ∀ z ∈ zs, 0 ≤ z ∧ z < 256) : ∃ h', R fn44 [d, .int .i64 n] h = some (.ptr h.length 0 0, h') ∧ CD h' h.length ∧ h'.length = h.length + 1 := by
  rw [e44]
  have hm : ∃ m : Int, dMin (.int .i64 zs.length) (.int .i64 n) = some (.int .i64 m) ∧ 0 ≤ m ∧ m ≤ zs.length ∧ m ≤ 400 := by
    rw [dMin_int]
    split
    · exact ⟨_, rfl, by omega, by omega, by omega⟩
    · exact ⟨_, rfl, by omega, by omega, by omega⟩
  obtain ⟨m, hm, h0, h1, h2⟩ := hm
  obtain ⟨d', hs, hg⟩ := given_hi (T := tab) (t := ty22) (i := ti22) (j := ti5) (id rfl) (id rfl) (id rfl) (id rfl) hd (k2 := .i64) h0 h1
  simp only [F44, bs, given_len hd, hm, hs, bd101_0 d' (given_one hg)]
  rw [wBox_agg ty101 2 h [d', .int .i64 0] rfl (by omega)]
  refine ⟨_, rfl, ⟨_, d', zs.take m.toNat, 0, by simp [-Option.bind_some, dNew], hg, ?_, rfl, fun z hz' => hz z (List.mem_of_mem_take hz')⟩, by simp [-Option.bind_some, dNew]⟩
  simp [-Option.bind_some]; omega
end Go.Proofs.Ytjepklgnhdellaa
