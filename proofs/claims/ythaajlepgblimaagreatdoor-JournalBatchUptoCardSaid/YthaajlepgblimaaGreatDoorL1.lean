/- Laws, on plain data, about functions that the statement reaches. -/
import Derived.Test.YthaajlepgblimaaGreatDoorT9
set_option linter.unusedSimpArgs false
set_option linter.unusedVariables false
set_option linter.unnecessarySimpa false
set_option maxRecDepth 100000
namespace Go.Proofs.YthaajlepgblimaaGreatDoor
open Go.Eng Go.Pi
open Option (bind_some)
abbrev Str := List UInt8
def fld (p : Str × Str) : List D := [.str p.1, .str p.2]
structure Lin where
 off : Int
 len : Int
 txt : Str
 deriving DecidableEq
def a1p (l : Lin) : List D := [.int .i64 l.off, .int .i64 l.len, .str l.txt]
structure Ev where
 a0 : Int
 a1 : Int
 a2 : Int
 a3 : Int
 ls : List Lin
 ld : D
 a5 : Int
 a6 : Int
 s7 : Str
 s8 : Str
 fs : List (Str × Str)
 fd : D
 hfd : SlOf 2 fld fs fd
 hl : fs.length ≤ 9223372036854775807
 hld : SlOf 3 a1p ls ld
 hll : ls.length ≤ 9223372036854775807
def evr (e : Ev) : List D := [.int .i64 e.a0, .int .i64 e.a1, .int .i64 e.a2, .int .i64 e.a3, e.ld, .int .i64 e.a5, .int .i64 e.a6, .str e.s7, .str e.s8, e.fd]
structure It where
 r : Str
 e : Ev
def itr (i : It) : List D := .str i.r :: evr i.e
theorem a6i (n0 : Nat) (h : Hp) (n : Nat) (p : Str × Str) : ∀ d ∈ fld p, frz n0 h n d = d := by simp [-bind_some, fld]
theorem b2U (n : Nat) (p : Str × Str) : ∀ d ∈ fld p, Ok n d := by
 intro d hd
 simp [-bind_some, fld] at hd
 rcases hd with rfl | rfl <;> constructor
theorem a3Y (n0 : Nat) (h : Hp) (n : Nat) (p : Lin) : ∀ d ∈ a1p p, frz n0 h n d = d := by simp [-bind_some, a1p]
theorem b1H (n : Nat) (p : Lin) : ∀ d ∈ a1p p, Ok n d := by
 intro d hd
 simp [-bind_some, a1p] at hd
 rcases hd with rfl | rfl | rfl <;> constructor
theorem c1A (n0 : Nat) (h : Hp) (n : Nat) (e : Ev) : ∀ d ∈ evr e, frz n0 h (n + 1) d = d := by
 intro d hd
 simp [-bind_some, evr] at hd
 rcases hd with rfl | rfl | rfl | rfl | rfl | rfl | rfl | rfl | rfl | rfl
 all_goals first | exact a3n e.hld (fun a _ => a3Y _ _ _ a) | exact a3n e.hfd (fun a _ => a6i _ _ _ a) | simp [-bind_some]
theorem c4R (n : Nat) (e : Ev) : ∀ d ∈ evr e, Ok n d := by
 intro d hd
 simp [-bind_some, evr] at hd
 rcases hd with rfl | rfl | rfl | rfl | rfl | rfl | rfl | rfl | rfl | rfl
 all_goals first | exact a2e e.hld (fun a _ => b1H _ a) | exact a2e e.hfd (fun a _ => b2U _ a) | constructor
theorem b0G (n : Nat) (i : It) : Ok n (.agg (itr i)) := by
 refine .agg _ fun d hd => ?_
 simp [-bind_some, itr, evr] at hd
 rcases hd with rfl | rfl | rfl | rfl | rfl | rfl | rfl | rfl | rfl | rfl | rfl
 all_goals first | exact a2e i.e.hld (fun a _ => b1H _ a) | exact a2e i.e.hfd (fun a _ => b2U _ a) | constructor
theorem a7y (n0 : Nat) (h : Hp) (n : Nat) (i : It) : ∀ d ∈ itr i, frz n0 h (n + 1) d = d := by
 intro d hd
 rcases d5u.1 hd with rfl | hd
 ·simp [-bind_some]
 ·exact c1A n0 h n i.e d hd
theorem b6u (n : Nat) (i : It) : ∀ d ∈ itr i, Ok n d := by
 intro d hd
 rcases d5u.1 hd with rfl | hd
 ·exact .str _
 ·exact c4R n i.e d hd
theorem evL (e : Ev) (h : Hp) : a0c tab h a0E (.fptr (evr e)) = some (.agg (evr e)) := id rfl
theorem c0m (i : It) : a0a tab a0D 1 (.fptr (itr i)) = some (.fptr (evr i.e)) := id rfl
theorem c1J (i : It) : a0a tab a0D 0 (.fptr (itr i)) = some (.fptr (itr i)) := id rfl
theorem c1K (i : It) (h : Hp) : a0c tab h ty9 (.fptr (itr i)) = some (.str i.r) := id rfl
theorem b4H (i : It) (h : Hp) : a0c tab h a0D (.fptr (itr i)) = some (.agg (itr i)) := id rfl
theorem a9V (i : It) : a6t 11 (.agg (itr i)) = some (.fptr (itr i)) := a3i 11 _ rfl
theorem d2p (i : It) : a1h tab a0K 1 [0] [.agg (itr i)] = some (.sl 11 true [itr i]) := id rfl
theorem d4P (i : It) (h : Hp) : ((a0a tab a0D 1 (.fptr (itr i))).bind fun p => (a0a tab a0E 3 p).bind fun q => a0c tab h ty3 q) = some (.int .i64 i.e.a3) := by simp [-bind_some, itr, evr]
theorem b7l {h : Hp} {n e z n' e' z' q : Nat} {rows rows' : List (List D)} {d d' : D} (a : Own h n e z rows d) (b : Own h n' e' z' rows' d') (hne : e ≠ e') (hd : d.inOb q) : ¬ d'.inOb q := by
 rintro ⟨z2, m2, rfl⟩
 obtain ⟨z1, m1, rfl⟩ := hd
 rcases a with ⟨ha, _⟩ | ⟨o1, _, ha, ga⟩
 ·cases ha
 rcases b with ⟨hb, _⟩ | ⟨o2, _, hb, gb⟩
 ·cases hb
 injection ha with _ ha
 injection hb with _ hb
 subst ha; subst hb
 rw [ga] at gb
 injection gb with gb
 injection gb with gb
 exact hne gb
theorem a9x (l : Lin) (h : Hp) : a0c tab h a1A (.fptr (a1p l)) = some (.agg (a1p l)) := id rfl
theorem b0n (l : Str × Str) (h : Hp) : a0c tab h a0w (.fptr (fld l)) = some (.agg (fld l)) := id rfl
theorem c1Z (a b : Lin) : a0k tab .neq a1A (.agg (a1p a)) (.agg (a1p b)) = some (.bool (decide (a ≠ b))) := by
 obtain ⟨a0, a1, a2⟩ := a
 obtain ⟨b0, b1, b2⟩ := b
 simp [-bind_some, a1p]
 by_cases h0 : a0 = b0 <;> by_cases h1 : a1 = b1 <;> by_cases h2 : a2 = b2 <;> simp [-bind_some, h0, h1, h2]
theorem b5B (a b : Str × Str) : a0k tab .neq a0w (.agg (fld a)) (.agg (fld b)) = some (.bool (decide (a ≠ b))) := by
 obtain ⟨a0, a1⟩ := a
 obtain ⟨b0, b1⟩ := b
 simp [-bind_some, fld]
 by_cases h0 : a0 = b0 <;> by_cases h1 : a1 = b1 <;> simp [-bind_some, h0, h1]
def byr (z : Int) : List D := [.int .u8 z]
theorem a5d (n0 : Nat) (h : Hp) (n : Nat) (z : Int) : ∀ d ∈ byr z, frz n0 h n d = d := by simp [-bind_some, byr]
theorem a7X (n : Nat) (z : Int) : ∀ d ∈ byr z, Ok n d := by
 intro d hd
 simp [-bind_some, byr] at hd
 subst hd
 constructor
theorem a7d (z : Int) (h : Hp) : a0c tab h ty5 (.fptr (byr z)) = some (.int .u8 z) := id rfl
def a2Y (n : Int) : List Int := [IntKind.wrap .u8 (n.fdiv (2 ^ 24)), IntKind.wrap .u8 (n.fdiv (2 ^ 16)), IntKind.wrap .u8 (n.fdiv (2 ^ 8)), IntKind.wrap .u8 n]
theorem c2i (n : Int) (h : Hp) : R a7s [.int .u32 n] h = some (.sl 1 true ((a2Y n).map byr), h) := by
 rw [c7I]
 simp only [c3i, bs, a2n, show ¬ (24 : Int) < 0 by omega, show ¬ (16 : Int) < 0 by omega, show ¬ (8 : Int) < 0 by omega, if_false, c4E, c4w, a0g]
 rfl
theorem d0Q (v : Int) (n0 : Nat) : ∀ (k : Nat), k ≤ 4 → ∀ (h : Hp) (rows : List (List D)) (d a : D), n0 ≤ h.length → Own h n0 ty5 1 rows d → rows.length + k ≤ 1000000000 → ∃ d' h' b, a0I (a3N (.int .u64 v)) [d, .int .i64 ((k : Int) - 1), a] h = some (.ext 0, [d', b, .bool false], h') ∧
  Own h' n0 ty5 1 (rows ++ (((a2Y v).drop (4 - k)).map byr)) d' ∧ h.length ≤ h'.length ∧ (∀ q, q < h.length → ¬ d.inOb q → h'[q]? = h[q]?) ∧ ∀ q, d'.inOb q → d.inOb q ∨ h.length ≤ q := by
 intro k
 induction k with
 | zero =>
  intro _ h rows d a hn ow hr
  rw [a1F]
  refine ⟨d, h, _, by simp [-bind_some, a3N]; rfl, ?_, Nat.le_refl _, fun _ _ _ => rfl, fun q hq => .inl hq⟩
  simpa [-bind_some, a2Y] using ow
 | succ k ih =>
  intro hk h rows d a hn ow hr
  have hg : (0 : Int) ≤ ((k + 1 : Nat) : Int) - 1 := by omega
  have hw1 : IntKind.wrap .i64 (8 * (((k + 1 : Nat) : Int) - 1)) = 8 * (k : Int) := by rw [wrap_i64 (by omega) (by omega)]; omega
  have hw2 : IntKind.wrap .i64 (((k + 1 : Nat) : Int) - 1 - 1) = (k : Int) - 1 := by rw [wrap_i64 (by omega) (by omega)]; omega
  have h8 : ¬ (8 * (k : Int)) < 0 := by omega
  have hby : (a2Y v).drop (4 - (k + 1)) = IntKind.wrap .u8 (v.fdiv (2 ^ (min (8 * (k : Int)).toNat IntKind.u64.bits))) :: (a2Y v).drop (4 - k) := by
   have hk4 : k = 0 ∨ k = 1 ∨ k = 2 ∨ k = 3 := by omega
   rcases hk4 with rfl | rfl | rfl | rfl
   ·simp [-bind_some, a2Y, IntKind.bits]
   all_goals rfl
  have key := @b1d h n0 hn rows d (.sl 1 true [byr (IntKind.wrap .u8 (v.fdiv (2 ^ (min (8 * (k : Int)).toNat IntKind.u64.bits))))]) ow _ (a1g _ _ _ _) (by simp; omega) _ (fun r => some r)
   (fun r => Own r.2 n0 ty5 1 (rows ++ [byr (IntKind.wrap .u8 (v.fdiv (2 ^ (min (8 * (k : Int)).toNat IntKind.u64.bits))))]) r.1 ∧ h.length ≤ r.2.length ∧ (∀ q, q < h.length → ¬ d.inOb q → r.2[q]? = h[q]?) ∧ ∀ q, r.1.inOb q → d.inOb q ∨ h.length ≤ q) (fun x' h' a b _ c e => .some ⟨a, b, c, e⟩)
  obtain ⟨⟨x', g⟩, e1, ow1, len, bel, fre⟩ := key
  replace len : h.length ≤ g.length := len
  replace bel : ∀ q, q < h.length → ¬ d.inOb q → g[q]? = h[q]? := bel
  replace fre : ∀ q, x'.inOb q → d.inOb q ∨ h.length ≤ q := fre
  have e1' : a0C tab h a0H a0H d (.sl 1 true [byr (IntKind.wrap .u8 (v.fdiv (2 ^ (min (8 * (k : Int)).toNat IntKind.u64.bits))))]) = some (x', g) := by
   cases hq : a0C tab h a0H a0H d (.sl 1 true [byr (IntKind.wrap .u8 (v.fdiv (2 ^ (min (8 * (k : Int)).toNat IntKind.u64.bits))))]) with
   | none => rw [hq] at e1; cases e1
   | some r => rw [hq] at e1; exact e1
  obtain ⟨d', h', b, e2, ow2, len2, bel2, fre2⟩ := ih (by omega) g _ x' (.bool true) (Nat.le_trans hn len) ow1 (by simp; omega)
  refine ⟨d', h', b, ?_, ?_, Nat.le_trans len len2, fun q hq hd => (bel2 q (by omega) fun hx => by rcases fre q hx with h1 | h1 <;> first | exact hd h1 | omega).trans (bel q hq hd), fun q hq => ?_⟩
  ·rw [a1F]
   simp only [a3N, a0f, a0n, bs, a2U, decide_eq_true hg, a0d, if_true, a3j, hw1, a2n, h8, if_false, a6P, b2G, show ∀ z, ([[D.int .u8 z]] : List (List D)) = [byr z] from fun _ => rfl, e1', a0B, hw2]
   exact e2
  ·rw [hby, d5f]
   simpa using ow2
  ·rcases fre2 q hq with h1 | h1
   ·exact fre q h1
   ·right; omega
theorem c5W (v : Int) (n0 : Nat) (h : Hp) (rows : List (List D)) (d : D) (hn : n0 ≤ h.length) (ow : Own h n0 ty5 1 rows d) (hr : rows.length ≤ 999999000) : ∃ d' h', R a4s [d, .int .u64 v, .int .i64 4] h = some (d', h') ∧ Own h' n0 ty5 1 (rows ++ (a2Y v).map byr) d' ∧ h.length ≤ h'.length ∧ (∀ q, q < h.length → ¬ d.inOb q → h'[q]? = h[q]?) ∧ ∀ q, d'.inOb q → d.inOb q ∨ h.length ≤ q := by
 obtain ⟨d', h', b, e1, o1, o2, o3⟩ := d0Q v n0 4 (by omega) h rows d .any hn ow (by omega)
 refine ⟨d', h', ?_, by simpa using o1, o2, o3⟩
 rw [c4J]
 have hw : IntKind.wrap .i64 ((4 : Int) - 1) = ((4 : Nat) : Int) - 1 := by rw [wrap_i64 (by omega) (by omega)]; rfl
 simp only [c0U, bs, a0B, hw, d4X, e1, a0l, a0o, a0f, a0g]
def stp (c : Int) : Int := if c % 2 = 1 then IntKind.wrap .u32 (BitVec.ofInt IntKind.u32.bits (c.fdiv 2) ^^^ BitVec.ofInt IntKind.u32.bits 3988292384).toNat else c.fdiv 2
def U32 (c : Int) : Prop := 0 ≤ c ∧ c < 4294967296
theorem a3q {n : Int} (h0 : 0 ≤ n) (h1 : n < 4294967296) : IntKind.wrap .u32 n = n := by
 unfold IntKind.wrap
 simp [-bind_some, IntKind.signed, IntKind.bits, IntKind.min, IntKind.max]
 omega
theorem a7W (x : BitVec IntKind.u32.bits) : U32 (x.toNat : Int) := by
 have := x.isLt
 have h2 : (2 : Nat) ^ IntKind.u32.bits = 4294967296 := by decide
 constructor <;> omega
theorem a5p (x : BitVec IntKind.u32.bits) : IntKind.wrap .u32 (x.toNat : Int) = x.toNat := a3q (a7W x).1 (a7W x).2
theorem b3r {c : Int} (h : U32 c) : U32 (c.fdiv 2) := by
 rw [Int.fdiv_eq_ediv_of_nonneg _ (by omega)]
 unfold U32 at *
 omega
theorem c2s {c : Int} (h : U32 c) : U32 (stp c) := by
 unfold stp
 split
 ·rw [a5p]; exact a7W _
 ·exact b3r h
theorem c0x {c : Int} (h : U32 c) : ((BitVec.ofInt IntKind.u32.bits c).toNat : Int) = c := by
 rw [BitVec.toNat_ofInt]
 have h2 : ((2 ^ IntKind.u32.bits : Nat) : Int) = 4294967296 := by decide
 rw [h2, Int.emod_eq_of_lt h.1 h.2]
 exact Int.toNat_of_nonneg h.1
theorem d2m {c : Int} (h : U32 c) : IntKind.wrap .u32 (BitVec.ofInt IntKind.u32.bits c &&& BitVec.ofInt IntKind.u32.bits 1).toNat = c % 2 := by
 rw [a5p, BitVec.toNat_and]
 have h1 : (BitVec.ofInt IntKind.u32.bits 1).toNat = 1 := by decide
 rw [h1, Nat.and_one_is_mod]
 have := c0x h
 omega
theorem pw1 : (2 : Int) ^ (min (Int.toNat 1) IntKind.u32.bits) = 2 := by decide
theorem b9F {c : Int} (h : U32 c) : IntKind.wrap .u32 (BitVec.ofInt IntKind.u32.bits (c.fdiv 2) ^^^ BitVec.ofInt IntKind.u32.bits (IntKind.wrap .u32 (BitVec.ofInt IntKind.u32.bits 3988292384 &&& BitVec.ofInt IntKind.u32.bits (IntKind.wrap .u32 (0 - c % 2))).toNat)).toNat = stp c := by
 have h2 : c % 2 = 0 ∨ c % 2 = 1 := by omega
 unfold stp
 rcases h2 with h2 | h2
 ·rw [h2]
  have h3 : IntKind.wrap .u32 (BitVec.ofInt IntKind.u32.bits 3988292384 &&& BitVec.ofInt IntKind.u32.bits (IntKind.wrap .u32 (0 - 0))).toNat = 0 := by decide
  rw [h3]
  have h4 : BitVec.ofInt IntKind.u32.bits 0 = 0#_ := by decide
  simp only [h4, BitVec.xor_zero]
  rw [a5p, c0x (b3r h)]
  simp [-bind_some]
 ·rw [h2]
  have h3 : IntKind.wrap .u32 (BitVec.ofInt IntKind.u32.bits 3988292384 &&& BitVec.ofInt IntKind.u32.bits (IntKind.wrap .u32 (0 - 1))).toNat = 3988292384 := by decide
  rw [h3]
  simp [-bind_some]
def b1b : Nat → Int → Int
 | 0, c => c
 | n + 1, c => b1b n (stp c)
theorem a9I : ∀ (n : Nat) {c : Int}, U32 c → U32 (b1b n c)
 | 0, c, h => h
 | n + 1, c, h => a9I n (c2s h)
theorem a5X : ∀ (n : Nat) (c : Int), b1b (n + 1) c = stp (b1b n c)
 | 0, c => rfl
 | n + 1, c => by
  rw [b1b, a5X n (stp c)]
  rfl
def byt (c z : Int) : Int := b1b 8 (IntKind.wrap .u32 (BitVec.ofInt IntKind.u32.bits c ^^^ BitVec.ofInt IntKind.u32.bits (IntKind.wrap .u32 z)).toNat)
def b4F : Int → List Int → Int
 | c, [] => c
 | c, z :: r => b4F (byt c z) r
def crc (l : List Int) : Int := IntKind.wrap .u32 (BitVec.ofInt IntKind.u32.bits (if IntKind.u32.signed then -1 else IntKind.u32.max) ^^^ BitVec.ofInt IntKind.u32.bits (b4F 4294967295 l)).toNat
theorem c1t (l : List Int) : U32 (crc l) := by unfold crc; rw [a5p]; exact a7W _
theorem d0S (h : Hp) {β : Type} {K : Out → Option β} {Q : β → Prop} (c : Int) (hc : U32 c) (a : D) (cont : ∀ a b, Wp (K (.ext 2, [.int .u32 (b1b 8 c), a, b], h)) Q) : Wp ((a0I a8F [.int .u32 c, .int .i64 0, a] h).bind K) Q := by
 refine Wp.loop (fun k ds g => g = h ∧ ∃ a, ∃ i : Nat, ds = [.int .u32 (b1b i c), .int .i64 i, a] ∧ k + i = 8) (fun r => r.1 = .ext 2 ∧ r.2.2 = h ∧ ∃ a b, r.2.1 = [.int .u32 (b1b 8 c), a, b]) 8 ⟨rfl, _, 0, rfl, rfl⟩ ?_ ?_
 ·rintro k ds g ⟨rfl, a, i, rfl, hk⟩
  have hu := a9I i hc
  simp only [a8F, a0f, a0n, bs, d4X, a0j]
  refine Wp.dif ?_ ?_
  ·intro h0
   have h0 : i < 8 := dl_ h0
   have hw := wi_ i (by omega)
   simp only [a2n, show ¬ (1 : Int) < 0 by omega, if_false, pw1, a6Q, bs, c1u, d2m hu, a5D, b9F hu, a0u, hw, ← a5X]
   exact .some (.inl ⟨rfl, k - 1, by omega, rfl, _, i + 1, rfl, by omega⟩)
  ·intro h0
   have h0 : i = 8 := by
    have : ¬ (i : Int) < 8 := by simpa using h0
    omega
   subst h0
   exact .some (.inr ⟨by simp, rfl, rfl, _, _, rfl⟩)
 ·rintro ⟨x, ds, g⟩ ⟨rfl, rfl, a, b, rfl⟩
  exact cont a b
theorem d0R (h : Hp) {β : Type} {K : Out → Option β} {Q : β → Prop} (c : Int) (hc : U32 c) (a e : D) (cont : ∀ a b e, Wp (K (.ext 2, [.int .u32 (b1b 8 c), a, b, e], h)) Q) : Wp ((a0I a8E [.int .u32 c, .int .i64 0, a, e] h).bind K) Q := by
 refine Wp.loop (fun k ds g => g = h ∧ ∃ a e, ∃ i : Nat, ds = [.int .u32 (b1b i c), .int .i64 i, a, e] ∧ k + i = 8) (fun r => r.1 = .ext 2 ∧ r.2.2 = h ∧ ∃ a b e, r.2.1 = [.int .u32 (b1b 8 c), a, b, e]) 8 ⟨rfl, _, _, 0, rfl, rfl⟩ ?_ ?_
 ·rintro k ds g ⟨rfl, a, e, i, rfl, hk⟩
  have hu := a9I i hc
  simp only [a8E, a0f, a0n, bs, d4X, a0j]
  refine Wp.dif ?_ ?_
  ·intro h0
   have h0 : i < 8 := dl_ h0
   have hw := wi_ i (by omega)
   simp only [a6Q, bs, d2m hu, a0R]
   refine Wp.join (P := fun r => r = (.nrm, [.int .u32 (b1b (i + 1) c)], g)) ?_ ?_ ?_
   ·intro h1
    have h1 : b1b i c % 2 = 1 := by simpa using h1
    simp only [a2n, show ¬ (1 : Int) < 0 by omega, if_false, pw1, bs, a5D]
    refine .some ?_
    rw [a5X]
    simp [-bind_some, stp, h1]
   ·intro h1
    have h1 : ¬ b1b i c % 2 = 1 := by simpa using h1
    simp only [a2n, show ¬ (1 : Int) < 0 by omega, if_false, pw1, bs]
    refine .some ?_
    rw [a5X]
    simp [-bind_some, stp, h1]
   ·rintro _ rfl
    simp only [a1t, a0o, a0f, bs, a0u, hw]
    exact .some (.inl ⟨rfl, k - 1, by omega, rfl, _, _, i + 1, rfl, by omega⟩)
  ·intro h0
   have h0 : i = 8 := by
    have : ¬ (i : Int) < 8 := by simpa using h0
    omega
   subst h0
   exact .some (.inr ⟨by simp, rfl, rfl, _, _, _, rfl⟩)
 ·rintro ⟨x, ds, g⟩ ⟨rfl, rfl, a, b, e, rfl⟩
  exact cont a b e
theorem a7g : ∀ (l : List Int) (c z : Int), b4F c (l ++ [z]) = byt (b4F c l) z
 | [], c, z => rfl
 | x :: r, c, z => a7g r (byt c x) z
theorem d1h (l : List Int) (d : D) (h : Hp) (hd : SlOf 1 byr l d ∨ ∃ n0 e, Own h n0 e 1 (l.map byr) d) (hl : l.length ≤ 9223372036854775807) : R b5M [d] h = some (.int .u32 (crc l), h) := by
 apply Wp.val
 have hlen : a0y tab a0H d = some (.int .i64 l.length) := by
  rcases hd with hd | ⟨n0, e, hd⟩
  ·exact a1l hd
  ·rw [c0q hd]; simp [-bind_some]
 have hix : ∀ (i : Nat) (z : Int), l[i]? = some z → ∃ p, a0b tab a0H d (.int .i64 i) = some p ∧ a0c tab h ty5 p = some (.int .u8 z) := by
  intro i z hg
  rcases hd with hd | ⟨n0, e, hd⟩
  ·exact ⟨.fptr (byr z), by rw [a3X hd]; simp [-bind_some, hg], a7d _ _⟩
  ·have hi := (d5p.1 hg).1
   obtain ⟨ob, h1, rfl, hgo⟩ := a4k hd (i := i) (by simpa using hi)
   exact ⟨.ptr ob i 0, by simp [-bind_some, hi], by rw [c6W, a0V hgo]; simp [-bind_some, hg, byr]⟩
 rw [c7L]
 simp only [c3l, bs, d4X]
 refine Wp.loop (fun k ds g => g = h ∧ ∃ b c e f, ∃ i : Nat, ds = [.int .u32 (b4F 4294967295 (l.take i)), .int .i64 i, b, c, e, f] ∧ k + i = l.length) (fun r => r.1 = .ext 0 ∧ r.2.2 = h ∧ nth 0 r.2.1 = .int .u32 (b4F 4294967295 l)) l.length ⟨rfl, _, _, _, _, 0, rfl, rfl⟩ ?_ ?_
 ·rintro k ds g ⟨rfl, b, c, e, f, i, rfl, hk⟩
  simp only [b2g, a0f, a0n, bs, d4X, hlen, a0j]
  refine Wp.dif ?_ ?_
  ·intro h0
   have h0 : i < l.length := dl_ h0
   have hg : l[i]? = some l[i] := d5o h0
   have htk : l.take (i + 1) = l.take i ++ [l[i]] := by rw [d5k, hg]; rfl
   generalize l[i] = z at hg htk
   have hw := wi_ i (by omega)
   obtain ⟨p, hp1, hp2⟩ := hix i z hg
   simp only [hp1, hp2, bs, b5j, a5D]
   have hst : b1b 8 (IntKind.wrap .u32 (BitVec.ofInt IntKind.u32.bits (b4F 4294967295 (l.take i)) ^^^ BitVec.ofInt IntKind.u32.bits (IntKind.wrap .u32 z)).toNat) = b4F 4294967295 (l.take (i + 1)) := by rw [htk, a7g]; rfl
   refine d0R g _ (by rw [a5p]; exact a7W _) _ _ fun a b e => ?_
   simp only [a0l, a1t, a0o, a0f, a0n, bs, a0u, hw, hst]
   exact .some (.inl ⟨rfl, k - 1, by omega, rfl, _, _, _, _, i + 1, rfl, by omega⟩)
  ·intro h0
   have h0 : i = l.length := by
    have : ¬ (i : Int) < l.length := by simpa using h0
    omega
   subst h0
   exact .some (.inr ⟨by simp, rfl, rfl, by simp⟩)
 ·rintro ⟨x, ds, g⟩ ⟨rfl, rfl, hx⟩
  replace hx : nth 0 ds = _ := hx
  simp only [a0l, a0o, a0f, bs, hx, b5n, a0g]
  exact .some rfl
theorem c2h (l r : List Int) (d e : D) (h : Hp) (hd : SlOf 1 byr l d) (he : SlOf 1 byr r e) (hl : l.length ≤ 9223372036854775807) : R b0o [d, e] h = some (.bool (decide (l = r)), h) := by
 apply Wp.val
 rw [c7H]
 simp only [c3h, bs, d4X, a1l hd, a1l he, a0t]
 refine Wp.dif ?_ ?_
 ·intro hn
  have hn : l.length ≠ r.length := by
   have : ¬ (l.length : Int) = r.length := by simpa using hn
   omega
  have hne : l ≠ r := fun hh => hn (by rw [hh])
  simp only [bs, a0g]
  exact .some (by simp [-bind_some, hne])
 ·intro hn
  have hn : l.length = r.length := by
   have : (l.length : Int) = r.length := by simpa using hn
   omega
  refine Wp.loop (fun k ds g => g = h ∧ ∃ a b c, ∃ i : Nat, ds = [a, .int .i64 i, b, c] ∧ k + i = l.length ∧ l.take i = r.take i)
   (fun x => x.2.2 = h ∧ ((x.1 = .ret ∧ nth 0 x.2.1 = .bool false ∧ l ≠ r) ∨ (x.1 = .ext 0 ∧ l = r))) l.length ⟨rfl, _, _, _, 0, rfl, rfl, rfl⟩ ?_ ?_
  ·rintro k ds g ⟨rfl, a, b, c, i, rfl, hk, hi⟩
   simp only [b2d, a0f, a0n, bs, d4X, a1l hd, a0j]
   refine Wp.dif ?_ ?_
   ·intro h0
    have h0 : i < l.length := dl_ h0
    have hg : l[i]? = some l[i] := d5o h0
    have hg2 : r[i]? = some (r[i]'(by omega)) := d5o (by omega)
    have hw := wi_ i (by omega)
    generalize l[i] = x at hg
    generalize r[i]'(by omega) = y at hg2
    simp only [a3X hd, a3X he, Int.natCast_nonneg, if_true, d5h, hg, hg2, Option.map_some, bs, a7d, a0t]
    refine Wp.dif ?_ ?_
    ·intro hxy
     have hxy : x ≠ y := by simpa using hxy
     try simp only [bs]
     refine .some (.inr ⟨by simp, rfl, .inl ⟨rfl, rfl, fun hh => ?_⟩⟩)
     subst hh
     rw [hg] at hg2
     injection hg2 with hg2
     exact hxy hg2
    ·intro hxy
     have hxy : x = y := by simpa using hxy
     subst hxy
     simp only [a0u, bs, hw]
     refine .some (.inl ⟨rfl, k - 1, by omega, rfl, _, _, _, i + 1, rfl, by omega, ?_⟩)
     rw [d5k, d5k, hi, hg, hg2]
   ·intro h0
    have h0 : i = l.length := by
     have : ¬ (i : Int) < l.length := by simpa using h0
     omega
    refine .some (.inr ⟨by simp, rfl, .inr ⟨rfl, ?_⟩⟩)
    have h1 : l.take i = l := List.take_of_length_le (by omega)
    have h2 : r.take i = r := List.take_of_length_le (by omega)
    rw [← h1, ← h2, hi]
  ·rintro ⟨x, ds, g⟩ ⟨rfl, ⟨rfl, hx, hne⟩ | ⟨rfl, hll⟩⟩
   ·replace hx : nth 0 ds = .bool false := hx
    simp only [a1J, a1I, a1H, a0f, bs, hx, a0g]
    exact .some (by simp [-bind_some, hne])
   ·simp only [a0l, a0o, bs, a0g]
    exact .some (by simp [-bind_some, hll])
theorem b1Y : tab a0H = some ti22 := id rfl
theorem b8e : tab ty5 = some ti5 := id rfl
theorem c6v : tab ty3 = some ti3 := id rfl
theorem a9K : ti22.td = .sl ty5 := id rfl
theorem c6w : ti3.td = .int .i64 := id rfl
theorem b3S : ti5.sz = 1 := id rfl
theorem c6x : ti5.by_ = 1 := id rfl
theorem c4v : Nat.blt 0 1 = true := id rfl
def zby : List D := [.int .u8 0]
theorem d1i (n : Int) (h : Hp) (h0 : 0 ≤ n) (h1 : n ≤ 1000000000) : R b5N [.nils, .int .i64 n] h = if n = 0 then some (.nils, h) else some (.msl 1 h.length 0 0, a0F h ty5 1 (List.replicate n.toNat zby)) := by
 have hc : b5k tab a0H .nils = some (.int .i64 0) := id rfl
 have hs : a0G tab a0H false true false [.nils, .int .i64 0] = some .nils := id rfl
 have hn : ¬ n < 0 := by omega
 have hw0 : IntKind.wrap .i64 0 = 0 := wrap_i64 (by omega) (by omega)
 have hw1 : IntKind.wrap .i64 n = n := wrap_i64 (by omega) (by omega)
 rw [c7M]
 by_cases hz : n = 0
 ·subst hz
  simp [-bind_some, c0V, hc, hw0]
 ·have hp : 0 < n := by omega
  have hl : lim n.toNat 1 = true := a4j (by omega) (by omega)
  have hl2 : lim n.toNat ti5.by_ = true := hl
  obtain ⟨m, hm⟩ : ∃ m, n.toNat = m + 1 := ⟨n.toNat - 1, by omega⟩
  have ha : a0C tab h a0H ty3 .nils (.int .i64 n) = some (.msl 1 h.length 0 n.toNat, a0F h ty5 1 (List.replicate n.toNat zby)) := by
   have hd : b0h h ti3 ti5 (.int .i64 n) = some (List.replicate n.toNat zby) := by
    simp only [b0h, c6w, h0, hl2, true_and, if_true]
    rfl
   unfold a0C
   simp only [b1Y, c6v, a9K, b8e, hd, b3S, c4v]
   rw [hm, List.replicate_succ]
   have hl3 : lim (m + 1) ti5.by_ = true := by rw [← hm]; exact hl2
   simp only [d5q, List.length_replicate, hl3, if_true]
  have hs2 : a0G tab a0H false true false [.msl 1 h.length 0 n.toNat, .int .i64 0] = some (.msl 1 h.length 0 0) := by
   simp [-bind_some, a0G, a2R, a2w, b1Y, a9K, b8e, b3S]
   omega
  simp [-bind_some, c0V, hc, hw0, hw1, hp, hn, hz, hs, ha, hs2]
theorem a1j {n : Int} (h0 : 0 ≤ n) (h1 : n < 18446744073709551616) : IntKind.wrap .u64 n = n := by
 unfold IntKind.wrap
 simp [-bind_some, IntKind.signed, IntKind.bits, IntKind.min, IntKind.max]
 omega
theorem b3G {h : Hp} {n0 e z : Nat} {rows : List (List D)} {d : D} (hd : Own h n0 e z rows d) : a1C h z d = some rows := by
 rcases hd with ⟨rfl, rfl⟩ | ⟨o, _, rfl, hg⟩
 ·rfl
 ·simp [-bind_some, a1C, hg]
def a7T (j p : List Int) : Int := if p.length = 0 ∨ 8388608 < p.length then 3 else if 67108864 < j.length + 8 + p.length then 16 else 0
def a9v (j p : List Int) : List Int := if a7T j p = 0 then j ++ a2Y p.length ++ a2Y (crc (a2Y p.length ++ p)) ++ p else []
theorem a2v (n : Int) : (a2Y n).length = 4 := rfl
theorem d1g (j p : List Int) (dj dp : D) (h : Hp) (hj : SlOf 1 byr j dj) (hp : SlOf 1 byr p dp) (hjl : j.length ≤ 100000000) (hpl : p.length ≤ 1000000000) : ∃ d', R b5K [dj, dp] h = some (.tup [d', .int .i64 (a7T j p)], h) ∧ SlOf 1 byr (a9v j p) d' := by
 rw [c7G]
 have w1 := wrap_i64 (n := (j.length : Int) + 8) (by omega) (by omega)
 have w2 := wrap_i64 (n := (j.length : Int) + 8 + p.length) (by omega) (by omega)
 have hsn : ∀ n : Int, scope h h (.tup [.nils, .int .i64 n]) = some (.tup [.nils, .int .i64 n], h) := fun n => a1i (by simp) (.tup _ fun d hd => by simp at hd; rcases hd with rfl | rfl <;> constructor) (Nat.le_refl _) fun _ _ => rfl
 by_cases h0 : p.length = 0
 ·have he : a7T j p = 3 := by simp [-bind_some, a7T, h0]
  exact ⟨.nils, by simp [-bind_some, b3W, a1l hp, h0, he, hsn], .inl ⟨rfl, by simp [-bind_some, a9v, he]⟩⟩
 have hpn : ¬ p = [] := by intro hh; subst hh; simp at h0
 by_cases h1 : 8388608 < p.length
 ·have he : a7T j p = 3 := by simp [-bind_some, a7T, h0, h1]
  have h1' : (8388608 : Int) < p.length := by omega
  have h0' : ¬ (p.length : Int) = 0 := by omega
  exact ⟨.nils, by simp [-bind_some, b3W, a1l hp, hpn, h1', he, hsn], .inl ⟨rfl, by simp [-bind_some, a9v, he]⟩⟩
 have h1' : ¬ (8388608 : Int) < p.length := by omega
 have h0' : ¬ (p.length : Int) = 0 := by omega
 by_cases h2 : 67108864 < j.length + 8 + p.length
 ·have he : a7T j p = 16 := by simp [-bind_some, a7T, h0, h1, h2]
  have h2' : (67108864 : Int) < j.length + 8 + p.length := by omega
  exact ⟨.nils, by simp [-bind_some, b3W, a1l hp, a1l hj, hpn, h1', w1, w2, h2', he, hsn], .inl ⟨rfl, by simp [-bind_some, a9v, he]⟩⟩
 have h2' : ¬ (67108864 : Int) < j.length + 8 + p.length := by omega
 have he : a7T j p = 0 := by simp [-bind_some, a7T, h0, h1, h2]
 suffices Wp (b3W dj dp h) (fun r => ∃ d', r = (.tup [d', .int .i64 0], h) ∧ SlOf 1 byr (a9v j p) d') by
  obtain ⟨r, e1, d', rfl, h3⟩ := this
  exact ⟨d', by rw [he]; exact e1, h3⟩
 have hw : IntKind.wrap .u64 (p.length : Int) = p.length := a1j (by omega) (by omega)
 simp only [b3W, bs, a1l hp, a1l hj, a0R, a0v, a0u, w1, w2, h0', h1', h2', decide_false, a0r, if_true, a0e, d4Y, if_false, a0d, a2f, hw]
 obtain ⟨d1, g1, e1, o1, len1, keep1, fre1⟩ := c5W p.length h.length h [] .nils (Nat.le_refl _) (Own.nils _ _ _ _) (by simp)
 refine Wp.step e1 ?_
 simp only [bs]
 have ni : ∀ q, ¬ D.nils.inOb q := fun q ⟨_, _, hh⟩ => by cases hh
 rw [List.nil_append] at o1
 refine b1d len1 (Own.nils _ _ _ _) (b3G o1) (by simp [-bind_some, a2v]) fun x2 g2 o2 len2 bel2 keep2 fre2 => ?_
 simp only [bs]
 rw [List.nil_append] at o2
 have o1' := o1.keep (h' := g2) fun q hq hin => keep2 q (o1.lt hin).2 (ni q)
 refine b1d (by omega) o2 (a3H _ hp) (by simp [-bind_some, a2v]; omega) fun x3 g3 o3 len3 bel3 keep3 fre3 => ?_
 simp only [bs]
 have o1'' := o1'.keep (h' := g3) fun q hq hin => keep3 q (o1'.lt hin).2 fun hx => by
  rcases fre2 q hx with hh | hh
  ·exact ni q hh
  ·have := (o1.lt hin).2; omega
 rw [← d5e] at o3
 rw [d1h (a2Y p.length ++ p) x3 g3 (.inr ⟨_, _, o3⟩) (by simp [-bind_some, a2v]; omega)]
 simp only [bs]
 refine b1d (n0 := h.length) (by omega) (Own.nils _ _ _ _) (a3H _ hj) (by simp; omega) fun x4 g4 o4 len4 bel4 keep4 fre4 => ?_
 have hcu := c1t (a2Y p.length ++ p)
 have hw2 : IntKind.wrap .u64 (crc (a2Y p.length ++ p)) = crc (a2Y p.length ++ p) := a1j hcu.1 (by have := hcu.2; omega)
 simp only [bs, b0e, hw2]
 rw [List.nil_append] at o4
 have o1c := o1''.keep (h' := g4) fun q hq hin => keep4 q (o1''.lt hin).2 (ni q)
 obtain ⟨d5, g5, e5, o5, len5, keep5, fre5⟩ := c5W (crc (a2Y p.length ++ p)) h.length g4 _ d1 (by omega) o1c (by simp [-bind_some, a2v])
 refine Wp.step e5 ?_
 simp only [bs]
 have o4' := o4.keep (h' := g5) fun q hq hin => keep5 q (o4.lt hin).2 fun hx => by
  rcases fre4 q hin with hh | hh
  ·exact ni q hh
  ·have := (o1''.lt hx).2; omega
 refine b1d (by omega) o4' (b3G o5) (by simp [-bind_some, a2v]; omega) fun x6 g6 o6 len6 bel6 keep6 fre6 => ?_
 simp only [bs]
 refine b1d (by omega) o6 (a3H _ hp) (by simp [-bind_some, a2v]; omega) fun x7 g7 o7 len7 bel7 keep7 fre7 => ?_
 simp only [bs, a0S]
 have hrows : List.map byr j ++ List.map byr (a2Y p.length) ++ List.map byr (a2Y (crc (a2Y p.length ++ p))) ++ List.map byr p = List.map byr (a9v j p) := by
  simp [-bind_some, a9v, he]
 have o8 : Own g7 h.length ty5 1 (List.map byr (a9v j p)) x7 := by
  rw [← hrows]
  simpa using o7
 have hsl := a2C (n0 := h.length) (n := 2) o8 (Nat.le_refl _) (fun a _ => a5d _ g7 _ a)
 rw [a1i (d' := .tup [frz h.length g7 3 x7, .int .i64 0]) (by simp) (.tup _ fun d hd => by
  simp at hd
  rcases hd with rfl | rfl
  ·exact a2e hsl fun a _ => a7X _ a
  ·constructor) (by omega) (fun q hq => by
  rw [bel7 q hq, bel6 q hq, keep5 q (by omega) (fun hx => by have := (o1c.lt hx).1; omega), bel4 q hq, bel3 q hq, bel2 q hq, keep1 q hq (ni q)])]
 exact .some ⟨_, rfl, hsl⟩
theorem s94 (l r : List Lin) (d e : D) (h : Hp) (hd : SlOf 3 a1p l d) (he : SlOf 3 a1p r e) (hl : l.length ≤ 9223372036854775807) : R c9Q [d, e] h = some (.bool (decide (l = r)), h) := by
 apply Wp.val
 rw [e94]
 simp only [F94, bs, d4X, a2G hd, a2G he, a0t]
 refine Wp.dif ?_ ?_
 ·intro hn
  have hn : l.length ≠ r.length := by
   have : ¬ (l.length : Int) = r.length := by simpa using hn
   omega
  have hne : l ≠ r := fun hh => hn (by rw [hh])
  simp only [bs, a0g]
  exact .some (by simp [-bind_some, hne])
 ·intro hn
  have hn : l.length = r.length := by
   have : (l.length : Int) = r.length := by simpa using hn
   omega
  refine Wp.loop (fun k ds g => g = h ∧ ∃ a b c, ∃ i : Nat, ds = [a, .int .i64 i, b, c] ∧ k + i = l.length ∧ l.take i = r.take i)
   (fun x => x.2.2 = h ∧ ((x.1 = .ret ∧ nth 0 x.2.1 = .bool false ∧ l ≠ r) ∨ (x.1 = .ext 0 ∧ l = r))) l.length ⟨rfl, _, _, _, 0, rfl, rfl, rfl⟩ ?_ ?_
  ·rintro k ds g ⟨rfl, a, b, c, i, rfl, hk, hi⟩
   simp only [b9S, a0f, a0n, bs, d4X, a2G hd, a0j]
   refine Wp.dif ?_ ?_
   ·intro h0
    have h0 : i < l.length := dl_ h0
    have hg : l[i]? = some l[i] := d5o h0
    have hg2 : r[i]? = some (r[i]'(by omega)) := d5o (by omega)
    have hw := wi_ i (by omega)
    generalize l[i] = x at hg
    generalize r[i]'(by omega) = y at hg2
    simp only [a9u hd, a9u he, Int.natCast_nonneg, if_true, d5h, hg, hg2, Option.map_some, bs, a9x, c1Z]
    refine Wp.dif ?_ ?_
    ·intro hxy
     have hxy : x ≠ y := by simpa using hxy
     try simp only [bs]
     refine .some (.inr ⟨by simp, rfl, .inl ⟨rfl, rfl, fun hh => ?_⟩⟩)
     subst hh
     rw [hg] at hg2
     injection hg2 with hg2
     exact hxy hg2
    ·intro hxy
     have hxy : x = y := by simpa using hxy
     subst hxy
     simp only [a0u, bs, hw]
     refine .some (.inl ⟨rfl, k - 1, by omega, rfl, _, _, _, i + 1, rfl, by omega, ?_⟩)
     rw [d5k, d5k, hi, hg, hg2]
   ·intro h0
    have h0 : i = l.length := by
     have : ¬ (i : Int) < l.length := by simpa using h0
     omega
    refine .some (.inr ⟨by simp, rfl, .inr ⟨rfl, ?_⟩⟩)
    have h1 : l.take i = l := List.take_of_length_le (by omega)
    have h2 : r.take i = r := List.take_of_length_le (by omega)
    rw [← h1, ← h2, hi]
  ·rintro ⟨x, ds, g⟩ ⟨rfl, ⟨rfl, hx, hne⟩ | ⟨rfl, hll⟩⟩
   ·replace hx : nth 0 ds = .bool false := hx
    simp only [a1J, a1I, a1H, a0f, bs, hx, a0g]
    exact .some (by simp [-bind_some, hne])
   ·simp only [a0l, a0o, bs, a0g]
    exact .some (by simp [-bind_some, hll])
theorem s95 (l r : List (Str × Str)) (d e : D) (h : Hp) (hd : SlOf 2 fld l d) (he : SlOf 2 fld r e) (hl : l.length ≤ 9223372036854775807) : R c6P [d, e] h = some (.bool (decide (l = r)), h) := by
 apply Wp.val
 rw [e95]
 simp only [F95, bs, d4X, a1W hd, a1W he, a0t]
 refine Wp.dif ?_ ?_
 ·intro hn
  have hn : l.length ≠ r.length := by
   have : ¬ (l.length : Int) = r.length := by simpa using hn
   omega
  have hne : l ≠ r := fun hh => hn (by rw [hh])
  simp only [bs, a0g]
  exact .some (by simp [-bind_some, hne])
 ·intro hn
  have hn : l.length = r.length := by
   have : (l.length : Int) = r.length := by simpa using hn
   omega
  refine Wp.loop (fun k ds g => g = h ∧ ∃ a b c, ∃ i : Nat, ds = [a, .int .i64 i, b, c] ∧ k + i = l.length ∧ l.take i = r.take i)
   (fun x => x.2.2 = h ∧ ((x.1 = .ret ∧ nth 0 x.2.1 = .bool false ∧ l ≠ r) ∨ (x.1 = .ext 0 ∧ l = r))) l.length ⟨rfl, _, _, _, 0, rfl, rfl, rfl⟩ ?_ ?_
  ·rintro k ds g ⟨rfl, a, b, c, i, rfl, hk, hi⟩
   simp only [b9T, a0f, a0n, bs, d4X, a1W hd, a0j]
   refine Wp.dif ?_ ?_
   ·intro h0
    have h0 : i < l.length := dl_ h0
    have hg : l[i]? = some l[i] := d5o h0
    have hg2 : r[i]? = some (r[i]'(by omega)) := d5o (by omega)
    have hw := wi_ i (by omega)
    generalize l[i] = x at hg
    generalize r[i]'(by omega) = y at hg2
    simp only [a7S hd, a7S he, Int.natCast_nonneg, if_true, d5h, hg, hg2, Option.map_some, bs, b0n, b5B]
    refine Wp.dif ?_ ?_
    ·intro hxy
     have hxy : x ≠ y := by simpa using hxy
     try simp only [bs]
     refine .some (.inr ⟨by simp, rfl, .inl ⟨rfl, rfl, fun hh => ?_⟩⟩)
     subst hh
     rw [hg] at hg2
     injection hg2 with hg2
     exact hxy hg2
    ·intro hxy
     have hxy : x = y := by simpa using hxy
     subst hxy
     simp only [a0u, bs, hw]
     refine .some (.inl ⟨rfl, k - 1, by omega, rfl, _, _, _, i + 1, rfl, by omega, ?_⟩)
     rw [d5k, d5k, hi, hg, hg2]
   ·intro h0
    have h0 : i = l.length := by
     have : ¬ (i : Int) < l.length := by simpa using h0
     omega
    refine .some (.inr ⟨by simp, rfl, .inr ⟨rfl, ?_⟩⟩)
    have h1 : l.take i = l := List.take_of_length_le (by omega)
    have h2 : r.take i = r := List.take_of_length_le (by omega)
    rw [← h1, ← h2, hi]
  ·rintro ⟨x, ds, g⟩ ⟨rfl, ⟨rfl, hx, hne⟩ | ⟨rfl, hll⟩⟩
   ·replace hx : nth 0 ds = .bool false := hx
    simp only [a1J, a1I, a1H, a0f, bs, hx, a0g]
    exact .some (by simp [-bind_some, hne])
   ·simp only [a0l, a0o, bs, a0g]
    exact .some (by simp [-bind_some, hll])
def a5W (a b : Ev) : Bool := decide (a.a0 = b.a0) && (decide (a.a1 = b.a1) && (decide (a.a2 = b.a2) && (decide (a.a3 = b.a3) && (decide (a.a5 = b.a5) && (decide (a.a6 = b.a6) && (decide (a.s7 = b.s7) && (decide (a.s8 = b.s8) && (decide (a.ls = b.ls) && decide (a.fs = b.fs)))))))))
def a5k (i j : It) : Bool := decide (i.r = j.r) && a5W i.e j.e
theorem s82 (i j : It) (h : Hp) : R c9P [.agg (itr i), .agg (itr j)] h = some (.bool (a5k i j), h) := by
 apply Wp.val
 rw [e82]
 simp only [F82, a1b, bs, d4X, c0m, c1J, c1K, evL]
 generalize hg0 : a0F h a0E 10 [[.int .i64 0, .int .i64 0, .int .i64 0, .int .i64 0, .nils, .int .i64 0, .int .i64 0, .str [], .str [], .nils]] = g0
 have hgl : g0.length = h.length + 1 := by simp [-bind_some, ← hg0, a0F]
 have hb : ∀ q, q < h.length → g0[q]? = h[q]? := fun q hq => by simp only [← hg0, a0F]; rw [d5y hq]
 have p8 : g0[h.length]? = some (.row a0E 10 [[.int .i64 0, .int .i64 0, .int .i64 0, .int .i64 0, .nils, .int .i64 0, .int .i64 0, .str [], .str [], .nils]]) := by simp [-bind_some, ← hg0, a0F]
 clear hg0
 refine c2J p8 (by rfl) (by rfl) (by simp) (by rfl) fun g1 q8 s1 => ?_
 replace q8 : g1[h.length]? = some (.row a0E 10 [evr i.e]) := q8
 have hl1 : g1.length = h.length + 1 := by rw [s1.1, hgl]
 try simp only [a1D]
 rw [hl1]
 generalize hg1 : a0F g1 a0E 10 [[.int .i64 0, .int .i64 0, .int .i64 0, .int .i64 0, .nils, .int .i64 0, .int .i64 0, .str [], .str [], .nils]] = g3
 have hgl3 : h.length ≤ g3.length := by simp [-bind_some, ← hg1, a0F]; omega
 have hb3 : ∀ q, q < h.length + 1 → g3[q]? = g1[q]? := fun q hq => by simp only [← hg1, a0F]; rw [d5y (by omega)]
 have p9 : g3[h.length + 1]? = some (.row a0E 10 [[.int .i64 0, .int .i64 0, .int .i64 0, .int .i64 0, .nils, .int .i64 0, .int .i64 0, .str [], .str [], .nils]]) := by
  simp only [← hg1, a0F]; rw [← hl1, List.getElem?_append_right (Nat.le_refl _)]; simp [-bind_some]
 replace q8 := (hb3 h.length (by omega)).trans q8
 clear hg1
 refine c2J p9 (by rfl) (by rfl) (by simp) (by rfl) fun g2 q9 s2 => ?_
 replace q9 : g2[h.length + 1]? = some (.row a0E 10 [evr j.e]) := q9
 replace q8 := (s2.2 h.length (by omega)).trans q8
 have hb2 : ∀ q, q < h.length → g2[q]? = h[q]? := fun q hq => (((s2.2 q (by omega)).trans (hb3 q (by omega))).trans (s1.2 q (by omega))).trans (hb q hq)
 have hl2 : h.length ≤ g2.length := by have := s2.1; omega
 have r8 : g2.row h.length 0 = some (evr i.e) := a0V q8
 have r9 : g2.row (h.length + 1) 0 = some (evr j.e) := a0V q9
 have hsc : ∀ b : Bool, scope h g2 (.bool b) = some (.bool b, h) := fun b => a1i (by simp) (.bool b) hl2 hb2
 obtain ⟨ri, ei⟩ := i
 obtain ⟨rj, ej⟩ := j
 by_cases h0 : ri = rj
 case neg => exact ⟨_, by simp [-bind_some, h0, hsc, a5k], rfl⟩
 by_cases h1 : ei.a0 = ej.a0
 case neg => exact ⟨_, by simp [-bind_some, h0, h1, hsc, a5k, a5W, r8, r9, evr], rfl⟩
 by_cases h2 : ei.a1 = ej.a1
 case neg => exact ⟨_, by simp [-bind_some, h0, h1, h2, hsc, a5k, a5W, r8, r9, evr], rfl⟩
 by_cases h3 : ei.a2 = ej.a2
 case neg => exact ⟨_, by simp [-bind_some, h0, h1, h2, h3, hsc, a5k, a5W, r8, r9, evr], rfl⟩
 by_cases h4 : ei.a3 = ej.a3
 case neg => exact ⟨_, by simp [-bind_some, h0, h1, h2, h3, h4, hsc, a5k, a5W, r8, r9, evr], rfl⟩
 by_cases h5 : ei.a5 = ej.a5
 case neg => exact ⟨_, by simp [-bind_some, h0, h1, h2, h3, h4, h5, hsc, a5k, a5W, r8, r9, evr], rfl⟩
 by_cases h6 : ei.a6 = ej.a6
 case neg => exact ⟨_, by simp [-bind_some, h0, h1, h2, h3, h4, h5, h6, hsc, a5k, a5W, r8, r9, evr], rfl⟩
 by_cases h7 : ei.s7 = ej.s7
 case neg => exact ⟨_, by simp [-bind_some, h0, h1, h2, h3, h4, h5, h6, h7, hsc, a5k, a5W, r8, r9, evr], rfl⟩
 by_cases h8 : ei.s8 = ej.s8
 case neg => exact ⟨_, by simp [-bind_some, h0, h1, h2, h3, h4, h5, h6, h7, h8, hsc, a5k, a5W, r8, r9, evr], rfl⟩
 have sl := s94 ei.ls ej.ls ei.ld ej.ld g2 ei.hld ej.hld ei.hll
 have sf := s95 ei.fs ej.fs ei.fd ej.fd g2 ei.hfd ej.hfd ei.hl
 by_cases h9 : ei.ls = ej.ls
 case neg => exact ⟨_, by simp [-bind_some, h0, h1, h2, h3, h4, h5, h6, h7, h8, h9, hsc, a5k, a5W, r8, r9, evr, sl], rfl⟩
 by_cases h10 : ei.fs = ej.fs
 case neg => exact ⟨_, by simp [-bind_some, h0, h1, h2, h3, h4, h5, h6, h7, h8, h9, h10, hsc, a5k, a5W, r8, r9, evr, sl, sf], rfl⟩
 exact ⟨_, by simp [-bind_some, h0, h1, h2, h3, h4, h5, h6, h7, h8, h9, h10, hsc, a5k, a5W, r8, r9, evr, sl, sf], rfl⟩
def idx {α : Type} (pr : α → Bool) : Nat → List α → Int
 | _, [] => -1
 | k, x :: r => if pr x = true then k else idx pr (k + 1) r
theorem b1D {α : Type} (pr : α → Bool) : ∀ (l : List α) (k : Nat), decide (0 ≤ idx pr k l) = l.any pr
 | [], k => by simp [-bind_some, idx]
 | x :: r, k => by
  unfold idx
  by_cases h : pr x = true
  ·simp [-bind_some, h]
  ·simp [-bind_some, h, b1D pr r]
theorem b0F {zs : List Int} {d : D} (hd : a5w .u8 zs d) : a0y tab a0H d = some (.int .i64 zs.length) := by
 rcases hd with ⟨rfl, rfl⟩ | rfl
 ·rfl
 ·simp [-bind_some, b3s]
theorem s57 (o pos : Nat) (zs : List Int) (d : D) (h : Hp) (ho : h[o]? = some (.row a4V 2 [[d, .int .i64 pos]])) (hd : a5w .u8 zs d) : R c6M [.ptr o 0 0] h = some (.bool (decide (pos < zs.length)), h) := by
 rw [e57]
 simp [-bind_some, F57, Hp.row, ho, b0F hd]
theorem b9j {zs : List Int} {d : D} (hd : a5w .u8 zs d) (i : Nat) (z : Int) (hz : zs[i]? = some z) : a0b tab a0H d (.int .i64 i) = some (.fptr [.int .u8 z]) := by
 rcases hd with ⟨rfl, rfl⟩ | rfl
 ·cases hz
 ·simp [-bind_some, b3s, hz]
theorem b4C (h : Hp) (o k f : Nat) (v : D) : a0h tab h ty3 (.ptr o k f) v = pSt 1 h (.ptr o k f) v := rfl
theorem s24 (o pos : Nat) (zs : List Int) (d : D) (n z : Int) (h : Hp) (ho : h[o]? = some (.row a4V 2 [[d, .int .i64 pos]])) (hd : a5w .u8 zs d) (hn : 1 ≤ n) (hn2 : n ≤ 1000000000) (hz : zs[pos]? = some z) (hz0 : 0 ≤ z) (hz1 : z < 256) (hl : zs.length ≤ 1000) :
  R a5q [.ptr o 0 0, .int .i64 n] h = some (.int .i64 (z * n / 256), h.set o (.row a4V 2 [[d, .int .i64 ((pos + 1 : Nat) : Int)]])) := by
 have hp : pos < zs.length := (d5p.1 hz).1
 have hn' : ¬ n < 1 := by omega
 have hw : IntKind.wrap .i64 ((pos : Int) + 1) = (pos : Int) + 1 := wrap_i64 (by omega) (by omega)
 have hzw : IntKind.wrap .i64 z = z := wrap_i64 (by omega) (by omega)
 rw [e24]
 simp [-bind_some, F24, s57 o pos zs d h ho hd, hp, hn', Hp.row, ho, b9j hd pos z hz, hw, hzw, b4C, pSt, D.okv, a0z, D.one, spl]
 have h0 : 0 ≤ z * n := Int.mul_nonneg hz0 (by omega)
 have h1 : z * n ≤ 255 * 1000000000 := Int.mul_le_mul (by omega) hn2 (by omega) (by omega)
 have e1 : IntKind.wrap .i64 (z * n) = z * n := wrap_i64 (by omega) (by omega)
 rw [e1, Int.tdiv_eq_ediv_of_nonneg h0, wrap_i64 (by omega) (by omega)]
def CO (h : Hp) (o : Nat) (rest : List Int) : Prop := ∃ (d : D) (zs : List Int) (pos : Nat), h[o]? = some (.row a4V 2 [[d, .int .i64 pos]]) ∧ a5w .u8 zs d ∧ zs.length ≤ 1000 ∧ rest = zs.drop pos ∧ ∀ z ∈ zs, 0 ≤ z ∧ z < 256
def nx (n : Int) : List Int → Int × List Int
 | [] => (0, [])
 | z :: r => if n < 1 then (0, z :: r) else (z * n / 256, r)
theorem c1X {h : Hp} {o : Nat} {rest : List Int} (hc : CO h o rest) : R c6M [.ptr o 0 0] h = some (.bool (decide (rest ≠ [])), h) := by
 obtain ⟨d, zs, pos, ho, hd, hl, rfl, hz⟩ := hc
 rw [s57 o pos zs d h ho hd]
 have : (pos < zs.length) ↔ zs.drop pos ≠ [] := by
  rw [ne_eq, List.drop_eq_nil_iff]; omega
 congr 3
 exact decide_eq_decide.2 this
theorem c2e {h : Hp} {o : Nat} {rest : List Int} (hc : CO h o rest) (n : Int) (hn2 : n ≤ 1000000000) : ∃ h', R a5q [.ptr o 0 0, .int .i64 n] h = some (.int .i64 (nx n rest).1, h') ∧ CO h' o (nx n rest).2 ∧ Same o h h' := by
 have hl := c1X hc
 cases hr : rest with
 | nil =>
  subst hr
  refine ⟨h, ?_, hc, .refl _ _⟩
  rw [e24]
  simp [-bind_some, F24, hl, nx]
 | cons z r =>
  by_cases hn : n < 1
  ·refine ⟨h, ?_, by simpa [-bind_some, nx, hn, hr] using hc, .refl _ _⟩
   rw [e24]
   simp [-bind_some, F24, hl, nx, hn, hr]
  ·obtain ⟨d, zs, pos, ho, hd, hl4, hrest, hz⟩ := hc
   have hzp : zs[pos]? = some z := by
    have : (zs.drop pos)[0]? = some z := by rw [← hrest, hr]; rfl
    simpa using this
   have hm := hz z (d5m hzp)
   have holt : o < h.length := (d5p.1 ho).1
   refine ⟨_, (s24 o pos zs d n z h ho hd (by omega) hn2 hzp hm.1 hm.2 hl4).trans (by rw [show (nx n (z :: r)).1 = z * n / 256 by simp [-bind_some, nx, hn]]), ?_, ?_⟩
   ·refine ⟨d, zs, pos + 1, by simp [-bind_some, holt], hd, hl4, ?_, hz⟩
    have : (zs.drop pos).drop 1 = r := by rw [← hrest, hr]; rfl
    simpa [-bind_some, nx, hn] using this.symm
   ·exact ⟨by simp, fun q hq => by rw [d5z (by omega)]⟩
theorem b3B (n : Int) (rest : List Int) (h : ∀ z ∈ rest, 0 ≤ z ∧ z < 256) : 0 ≤ (nx n rest).1 ∧ (1 ≤ n → (nx n rest).1 < n) := by
 cases rest with
 | nil => simp [-bind_some, nx]; omega
 | cons z r =>
  have := h z (by simp)
  unfold nx
  by_cases hn : n < 1
  ·simp [-bind_some, hn]; omega
  ·simp only [hn, if_false]
   have h0 : 0 ≤ z * n := Int.mul_nonneg this.1 (by omega)
   have h1 : z * n ≤ 255 * n := Int.mul_le_mul_of_nonneg_right (by omega) (by omega)
   constructor
   ·omega
   ·intro _; omega
def CD (h : Hp) (o : Nat) : Prop := ∃ rest, CO h o rest
theorem CD.keep {h h' : Hp} {o : Nat} (hc : CD h o) (he : h'[o]? = h[o]?) : CD h' o := by
 obtain ⟨rest, d, zs, pos, ho, hr⟩ := hc
 exact ⟨rest, d, zs, pos, by rw [he]; exact ho, hr⟩
theorem CD.lt {h : Hp} {o : Nat} (hc : CD h o) : o < h.length := by
 obtain ⟨rest, d, zs, pos, ho, hr⟩ := hc
 exact (d5p.1 ho).1
theorem CD.ok {h : Hp} {o : Nat} (hc : CD h o) (n : Nat) : ∀ T sz rows, h[o]? = some (.row T sz rows) → ∀ row ∈ rows, ∀ d ∈ row, Ok n d := by
 obtain ⟨rest, d, zs, pos, ho, hd, _⟩ := hc
 intro T sz rows hr row hrow x hx
 rw [ho] at hr
 injection hr with hr
 injection hr with _ _ hr
 subst hr
 simp at hrow
 subst hrow
 simp at hx
 rcases hx with rfl | rfl
 ·exact b6q hd n
 ·exact .int _ _
theorem a2h {h : Hp} {o : Nat} (hc : CD h o) (n : Int) (hn : 1 ≤ n) (hn2 : n ≤ 1000000000) : ∃ v h', R a5q [.ptr o 0 0, .int .i64 n] h = some (.int .i64 v, h') ∧ CD h' o ∧ Same o h h' ∧ 0 ≤ v ∧ v < n := by
 obtain ⟨rest, hc⟩ := hc
 obtain ⟨h', h1, h2, h3⟩ := c2e hc n hn2
 have hb : ∀ z ∈ rest, 0 ≤ z ∧ z < 256 := by
  obtain ⟨d, zs, pos, ho, hd, hl, rfl, hz⟩ := hc
  exact fun z hz' => hz z (List.mem_of_mem_drop hz')
 exact ⟨_, h', h1, ⟨_, h2⟩, h3, (b3B n rest hb).1, (b3B n rest hb).2 hn⟩
theorem d2q {h : Hp} {o : Nat} (hc : CD h o) : ∃ s h', R b9g [.ptr o 0 0] h = some (.str s, h') ∧ CD h' o ∧ Same o h h' ∧ s.length ≤ 7 := by
 obtain ⟨v, h', h1, h2, h3, h4, h5⟩ := a2h hc 14 (by omega) (by omega)
 obtain ⟨s, hs, hg⟩ := a5j lt98_10 v h4 h5
 refine ⟨s, h', ?_, h2, h3, ?_⟩
 ·rw [d2J]; simp [-bind_some, d2k, h1, h4, hg]
 ·exact (show ∀ s ∈ lt98_10, s.length ≤ 7 by decide) s hs
theorem d33 {h : Hp} {o : Nat} (hc : CD h o) : ∃ s h', R c9N [.ptr o 0 0] h = some (.str s, h') ∧ CD h' o ∧ Same o h h' ∧ s.length ≤ 19 := by
 obtain ⟨v, h', h1, h2, h3, h4, h5⟩ := a2h hc 11 (by omega) (by omega)
 obtain ⟨s, hs, hg⟩ := a5j lt98_1 v h4 h5
 refine ⟨s, h', ?_, h2, h3, ?_⟩
 ·rw [e33]; simp [-bind_some, F33, h1, h4, hg]
 ·exact (show ∀ s ∈ lt98_1, s.length ≤ 19 by decide) s hs
theorem d97 {h : Hp} {o : Nat} (hc : CD h o) : ∃ n h', R c6R [.ptr o 0 0] h = some (.int .i64 n, h') ∧ CD h' o ∧ Same o h h' ∧ 1 ≤ n ∧ n ≤ 5040 ∧ Int.tmod 5040 n = 0 := by
 obtain ⟨v, h', h1, h2, h3, h4, h5⟩ := a2h hc 6 (by omega) (by omega)
 obtain ⟨s, hs, hg⟩ := a5j lt82_8 v h4 h5
 refine ⟨s, h', ?_, h2, h3, ?_⟩
 ·rw [e97]; simp [-bind_some, F97, h1, h4, hg]
 ·exact (show ∀ s ∈ lt82_8, 1 ≤ s ∧ s ≤ 5040 ∧ Int.tmod 5040 s = 0 by decide) s hs
theorem d35 {h : Hp} {o : Nat} (hc : CD h o) : ∃ n h', R c6L [.ptr o 0 0] h = some (.int .i64 n, h') ∧ CD h' o ∧ Same o h h' ∧ 0 ≤ n ∧ n ≤ 253402300799999 := by
 obtain ⟨v, h', h1, h2, h3, h4, h5⟩ := a2h hc 4 (by omega) (by omega)
 rw [e35]
 by_cases v0 : v = 0
 ·obtain ⟨u, g', g1, g2, g3, g4, g5⟩ := a2h h2 40 (by omega) (by omega)
  refine ⟨u * 86400000, g', ?_, g2, h3.trans g3, by omega, by omega⟩
  simp [-bind_some, F35, h1, v0, g1, wrap_i64 (n := u * 86400000) (by omega) (by omega)]
 ·by_cases v1 : v = 1
  ·obtain ⟨u, g', g1, g2, g3, g4, g5⟩ := a2h h2 3 (by omega) (by omega)
   refine ⟨253402300799999 - u * 86400000, g', ?_, g2, h3.trans g3, by omega, by omega⟩
   simp [-bind_some, F35, h1, v0, v1, g1, wrap_i64 (n := u * 86400000) (by omega) (by omega), wrap_i64 (n := 253402300799999 - u * 86400000) (by omega) (by omega)]
  ·obtain ⟨u, g', g1, g2, g3, g4, g5⟩ := a2h h2 60 (by omega) (by omega)
   refine ⟨1000 + u, g', ?_, g2, h3.trans g3, by omega, by omega⟩
   simp [-bind_some, F35, h1, v0, v1, g1, wrap_i64 (n := 1000 + u) (by omega) (by omega)]
structure St (h0 : Hp) (o : Nat) (g : Hp) : Prop where
 lt : o < h0.length
 cd : CD g o
 gr : Grow h0.length o h0 g
theorem St.refl {h : Hp} {o : Nat} (hc : CD h o) : St h o h := ⟨hc.lt, hc, .refl _ _ _⟩
theorem St.next {h0 g g' : Hp} {o : Nat} (s : St h0 o g) (hc : CD g' o) (hs : Same o g g') : St h0 o g' := ⟨s.lt, hc, s.gr.trans hs.grow⟩
theorem St.app {h0 g g' : Hp} {o : Nat} (s : St h0 o g) (hl : g.length ≤ g'.length) (hb : ∀ q, q < h0.length → g'[q]? = g[q]?) : St h0 o g' := ⟨s.lt, s.cd.keep (hb o s.lt), s.gr.trans ⟨hl, fun q hq _ => hb q hq⟩⟩
theorem St.le {h0 g : Hp} {o : Nat} (s : St h0 o g) : h0.length ≤ g.length := s.gr.1
theorem St.scope {h0 g : Hp} {o : Nat} (s : St h0 o g) {d d' : D} (hd : frz h0.length g 4 d = d') (hok : Ok h0.length d') : ∃ h', scope h0 g d = some (d', h') ∧ CD h' o ∧ Same o h0 h' := by
 obtain ⟨h1, h2, h3⟩ := b4A hd hok s.gr (s.cd.ok h0.length)
 exact ⟨_, h1, s.cd.keep (h3 o s.lt), h2⟩
theorem d44 (zs : List Int) (d : D) (n : Int) (h : Hp) (hd : a5w .u8 zs d) (hn : 0 ≤ n) (hn2 : n ≤ 1000) (hz : ∀ z ∈ zs, 0 ≤ z ∧ z < 256) : ∃ h', R c9O [d, .int .i64 n] h = some (.ptr h.length 0 0, h') ∧ CD h' h.length ∧ h'.length = h.length + 1 := by
 rw [e44]
 have hm : ∃ m : Int, b8p (.int .i64 zs.length) (.int .i64 n) = some (.int .i64 m) ∧ 0 ≤ m ∧ m ≤ zs.length ∧ m ≤ 1000 := by
  rw [b2O]
  split
  ·exact ⟨_, rfl, by omega, by omega, by omega⟩
  ·exact ⟨_, rfl, by omega, by omega, by omega⟩
 obtain ⟨m, hm, h0, h1, h2⟩ := hm
 obtain ⟨d', hs, hg⟩ := b9i (T := tab) (t := a0H) (i := ti22) (j := ti5) (id rfl) (id rfl) (id rfl) (id rfl) hd (k2 := .i64) h0 h1
 simp only [F44, bs, b0F hd, hm, hs, c1m d' (b6r hg)]
 rw [a2W a4V 2 h [d', .int .i64 0] rfl (by omega)]
 refine ⟨_, rfl, ⟨_, d', zs.take m.toNat, 0, by simp [-bind_some, a0F], hg, ?_, rfl, fun z hz' => hz z (List.mem_of_mem_take hz')⟩, by simp [-bind_some, a0F]⟩
 simp [-bind_some]; omega
theorem d96 {h : Hp} {o : Nat} (hc : CD h o) : ∃ s h', R c6Q [.ptr o 0 0] h = some (.str s, h') ∧ CD h' o ∧ Same o h h' ∧ s.length ≤ 34 := by
 suffices Wp (R c6Q [.ptr o 0 0] h) (fun p => ∃ s, p.1 = .str s ∧ CD p.2 o ∧ Same o h p.2 ∧ s.length ≤ 34) by
  obtain ⟨⟨x, h'⟩, h1, s, rfl, h2⟩ := this
  exact ⟨s, h', h1, h2⟩
 rw [e96]
 simp only [F96, bs, d4X]
 obtain ⟨s, h1, e1, c1, s1, b1⟩ := d2q hc
 refine Wp.step e1 ?_
 simp only [bs]
 obtain ⟨v, h2, e2, c2, s2, v0, v1⟩ := a2h c1 4 (by omega) (by omega)
 refine Wp.step e2 ?_
 simp only [bs]
 refine Wp.loop (fun k ds g => ∃ s a, ds = [.str s, .int .i64 k, a] ∧ CD g o ∧ Same o h g ∧ k ≤ 3 ∧ s.length + 9 * k ≤ 34) (fun r => r.1 = .ext 0 ∧ ∃ s a b, r.2.1 = [.str s, a, b] ∧ CD r.2.2 o ∧ Same o h r.2.2 ∧ s.length ≤ 34) v.toNat ⟨s, .any, by rw [Int.toNat_of_nonneg v0], c2, s1.trans s2, by omega, by omega⟩ ?_ ?_
 ·rintro k ds g ⟨s, a, rfl, cg, sg, hk, hs⟩
  simp only [b9U, a0f, a0n, bs, a0v]
  refine Wp.dif ?_ ?_
  ·intro h0
   have h0 : 0 < (k : Int) := by simpa using h0
   simp only [b6U, bs]
   obtain ⟨v, h2, e2, c2, s2, v0, v1⟩ := a2h cg 5 (by omega) (by omega)
   obtain ⟨u, hu, hg⟩ := a5j lt98_7 v v0 v1
   have hul := (show ∀ s ∈ lt98_7, s.length ≤ 2 by decide) u hu
   refine Wp.step e2 ?_
   simp only [c5e, v0, if_true, d5l, hg, Option.map_some, bs, ld9]
   obtain ⟨w, h3, e3, c3, s3, b3⟩ := d2q c2
   refine Wp.step e3 ?_
   rw [b0f _ _ _ _ (by omega)]
   simp only [bs]
   rw [b0f _ _ _ _ (by simp; omega)]
   have hk1 : IntKind.wrap .i64 ((k : Int) - 1) = ((k - 1 : Nat) : Int) := by
    rw [wrap_i64 (by omega) (by omega)]; omega
   simp only [bs, a0B, a1D, hk1]
   exact .some (.inl ⟨rfl, k - 1, by omega, s ++ (u ++ w), _, rfl, c3, (sg.trans s2).trans s3, by omega, by simp; omega⟩)
  ·intro _
   exact .some (.inr ⟨by simp, rfl, s, _, _, rfl, cg, sg, by omega⟩)
 ·rintro ⟨x, ds, g⟩ ⟨rfl, s, a, b, rfl, cg, sg, hs⟩
  simp only [a0l, a0o, a0f, bs, a0g]
  exact .some ⟨s, rfl, cg, sg, hs⟩
def c6G (l : List (Str × Str)) : Prop := (l.map (·.1)).Sublist lt98_9 ∧ ∀ p ∈ l, p.2.length ≤ 19
theorem d98 {h : Hp} {o : Nat} (hc : CD h o) : ∃ x h', R c4U [.ptr o 0 0] h = some (x, h') ∧ CD h' o ∧ Same o h h' ∧ ∃ l, SlOf 2 fld l x ∧ c6G l := by
 suffices Wp (R c4U [.ptr o 0 0] h) (fun p => CD p.2 o ∧ Same o h p.2 ∧ ∃ l, SlOf 2 fld l p.1 ∧ c6G l) by
  obtain ⟨⟨x, h'⟩, h1, h2⟩ := this
  exact ⟨x, h', h1, h2⟩
 rw [e98]
 simp only [F98, bs, d4X, b6V]
 refine Wp.loop (fun k ds g => ∃ x a b, ∃ (i : Nat) (l : List (Str × Str)), ds = [x, .int .i64 i, a, b] ∧ St h o g ∧ k + i = 4 ∧ Own g h.length a0w 2 (l.map fld) x ∧ (l.map (·.1)).Sublist (lt98_9.take i) ∧ ∀ p ∈ l, p.2.length ≤ 19)
  (fun r => r.1 = .ext 0 ∧ ∃ x a b c l, r.2.1 = [x, a, b, c] ∧ St h o r.2.2 ∧ Own r.2.2 h.length a0w 2 (l.map fld) x ∧ c6G l) 4 ⟨.nils, .any, .any, 0, [], rfl, .refl hc, rfl, Own.nils _ _ _ _, by simp, by simp⟩ ?_ ?_
 ·rintro k ds g ⟨x, a, b, i, l, rfl, S, hk, ow, hsub, hv⟩
  have hw : IntKind.wrap .i64 ((i : Int) + 1) = (i + 1 : Nat) := by
   rw [wrap_i64 (by omega) (by omega)]; omega
  simp only [b9V, a0f, a0n, bs, d1a, d5d, b4v, a0j]
  refine Wp.dif ?_ ?_
  ·intro h0
   have h0 : i < 4 := dl_ h0
   obtain ⟨v, h1, e1, c1, s1, v0, v1⟩ := a2h S.cd 3 (by omega) (by omega)
   have S1 := S.next c1 s1
   replace ow := ow.same s1 hc.lt
   refine Wp.step e1 ?_
   simp only [a0R, bs]
   refine Wp.join (P := fun r => ∃ x g, ∃ l : List (Str × Str), r = (.nrm, [x], g) ∧ St h o g ∧ Own g h.length a0w 2 (l.map fld) x ∧ (l.map (·.1)).Sublist (lt98_9.take (i + 1)) ∧ ∀ p ∈ l, p.2.length ≤ 19) ?_ ?_ ?_
   ·intro _
    have hg : lt98_9[i]? = some lt98_9[i] := d5o h0
    simp only [c5e, Int.natCast_nonneg, if_true, d5h, d5l, hg, Option.map_some, bs, ld9]
    obtain ⟨u, h2, e2, c2, s2, hu⟩ := d33 S1.cd
    have S2 := S1.next c2 s2
    replace ow := ow.same s2 hc.lt
    refine Wp.step e2 ?_
    simp only [bs, b4R, c4z]
    have hll : l.length ≤ 4 := by
     have := hsub.length_le
     simp at this
     omega
    refine b9L S2.le ow (a1g _ _ _ _) (by simp; omega) fun x' g' ow len bel _ _ => ?_
    simp only [bs, a1D]
    refine .some ⟨x', g', l ++ [(lt98_9[i], u)], rfl, S2.app len bel, by rw [d5e]; exact ow, ?_, ?_⟩
    ·rw [d5k, hg, d5e]
     exact hsub.append (List.Sublist.refl _)
    ·intro p hp
     rcases d5v.1 hp with hp | hp
     ·exact hv p hp
     ·simp at hp; subst hp; exact hu
   ·intro _
    refine .some ⟨_, _, l, rfl, S1, ow, hsub.trans ?_, hv⟩
    rw [d5k]
    exact List.sublist_append_left _ _
   ·rintro _ ⟨x, g, l, rfl, S, ow, hsub, hv⟩
    simp only [a1t, a0o, a0f, a0u, bs, hw]
    exact .some (.inl ⟨rfl, k - 1, by omega, x, _, _, i + 1, l, rfl, S, by omega, ow, hsub, hv⟩)
  ·intro h0
   have h0 : ¬ i < 4 := by
    have : ¬ (i : Int) < 4 := by simpa using h0
    omega
   refine .some (.inr ⟨by simp, rfl, x, _, _, _, l, rfl, S, ow, hsub.trans (List.take_sublist _ _), hv⟩)
 ·rintro ⟨x, ds, g⟩ ⟨rfl, x, a, b, c, l, rfl, S, ow, hl⟩
  simp only [a0l, a0o, a0f, bs, a0g]
  have hsl := a2C (n := 3) ow (Nat.le_refl _) (fun a _ => a6i _ g _ a)
  obtain ⟨h', hs, hcd, hsm⟩ := S.scope rfl (a2e hsl fun a _ => b2U _ a)
  exact ⟨_, hs, hcd, hsm, l, hsl, hl⟩
def chain : Int → List Lin → Int → Prop
 | a, [], b => a = b
 | a, l :: r, b => l.off = a ∧ 1 ≤ l.len ∧ l.len ≤ 36 ∧ l.txt.length + 1 ≤ l.len ∧ chain (a + l.len) r b
theorem a8b : ∀ (ls : List Lin) (a b : Int) (l : Lin), chain a ls b → l.off = b → 1 ≤ l.len → l.len ≤ 36 → l.txt.length + 1 ≤ l.len → chain a (ls ++ [l]) (b + l.len)
 | [], a, b, l, h, h1, h2, h3, h4 => by
  simp only [chain] at h
  subst h
  exact ⟨h1, h2, h3, h4, rfl⟩
 | x :: r, a, b, l, h, h1, h2, h3, h4 => ⟨h.1, h.2.1, h.2.2.1, h.2.2.2.1, a8b r _ b l h.2.2.2.2 h1 h2 h3 h4⟩
def a5c (l : Lin) : Lin := { l with txt := [] }
theorem a5e : ∀ (ls : List Lin) (a b : Int), chain a ls b → chain a (ls.map a5c) b
 | [], a, b, h => h
 | x :: r, a, b, h => ⟨h.1, h.2.1, h.2.2.1, by simp [-bind_some, a5c]; exact h.2.1, a5e r _ b h.2.2.2.2⟩
theorem a3Q : ∀ (ls : List Lin) (a b : Int), chain a ls b → a + ls.length ≤ b ∧ b ≤ a + 36 * ls.length
 | [], a, b, h => by simp [-bind_some, chain] at h; simp [-bind_some]; omega
 | x :: r, a, b, h => by
  have := a3Q r _ b h.2.2.2.2
  have := h.2.1
  have := h.2.2.1
  simp only [d5q]
  omega
structure ItOK (hst fil frm : Int) (i : It) : Prop where
 host : i.e.a0 = hst
 file : i.e.a1 = fil
 fr : i.e.a2 = frm
 ch : chain frm i.e.ls i.e.a3
 n1 : 1 ≤ i.e.ls.length
 n3 : i.e.ls.length ≤ 3
 ev : i.r = [] → 0 ≤ i.e.a5 ∧ i.e.a5 ≤ 253402300799999 ∧ 1 ≤ i.e.a6 ∧ i.e.a6 ≤ 5040 ∧ i.e.s7 ∈ lt98_5 ∧ i.e.s8 ∈ lt98_6 ∧ c6G i.e.fs ∧ ∀ l ∈ i.e.ls, l.len ≤ l.txt.length + 2
 wt : i.r = [] → Int.tmod 5040 i.e.a6 = 0
 sk : i.r ≠ [] → i.r ∈ lt98_4 ∧ i.e.a5 = 0 ∧ i.e.a6 = 0 ∧ i.e.s7 = [] ∧ i.e.s8 = [] ∧ i.e.fs = [] ∧ ∀ l ∈ i.e.ls, l.txt = []
theorem b0Z (ls : List Lin) (i : Nat) (hi : i < ls.length) : (((ls.take i).map a5c ++ ls.drop i).map a1p).set i (a1p (a5c ls[i])) = ((ls.take (i + 1)).map a5c ++ ls.drop (i + 1)).map a1p := by
 rw [List.drop_eq_getElem_cons hi, d5k, d5o hi]
 simp only [d5e, d5f, Option.toList_some, d5g]
 rw [List.set_append_right _ _ (by simp; omega)]
 simp [-bind_some, Nat.min_eq_left (Nat.le_of_lt hi)]
theorem b0E (ls : List Lin) (i : Nat) (hi : i < ls.length) : (((ls.take i).map a5c ++ ls.drop i).map a1p)[i]? = some (a1p ls[i]) := by
 rw [List.drop_eq_getElem_cons hi, d5l, List.getElem?_append_right (by simp; omega)]
 simp [-bind_some, Nat.min_eq_left (Nat.le_of_lt hi)]
 exact ⟨_, d5o hi, rfl⟩
theorem d0Y {h : Hp} {q T z : Nat} {cs : List D} (hq : h[q]? = some (.row T z [cs])) (hl : cs.length = 10) : a0c tab h a0E (.ptr q 0 0) = some (.agg cs) := by
 rw [d0Z, a0V hq]
 simp [-bind_some, b1c, hl]
 exact List.take_of_length_le (by omega)
theorem b0K {h : Hp} {q T z : Nat} {cs : List D} (hq : h[q]? = some (.row T z [cs])) (hl : cs.length = 11) : a0c tab h a0D (.ptr q 0 0) = some (.agg cs) := by
 rw [b0M, a0V hq]
 simp [-bind_some, b1c, hl]
 exact List.take_of_length_le (by omega)
theorem b6Q : ∀ s ∈ lt98_4, s ≠ [] := by decide
theorem d84 {h : Hp} {o : Nat} (hc : CD h o) (host file fr : Int) (hf0 : 0 ≤ fr) (hf1 : fr ≤ 1000000000) : ∃ i h', R c6O [.ptr o 0 0, .int .i64 host, .int .i64 file, .int .i64 fr] h = some (.agg (itr i), h') ∧ CD h' o ∧ Same o h h' ∧ ItOK host file fr i := by
 suffices Wp (R c6O [.ptr o 0 0, .int .i64 host, .int .i64 file, .int .i64 fr] h) (fun p => ∃ i, p.1 = .agg (itr i) ∧ CD p.2 o ∧ Same o h p.2 ∧ ItOK host file fr i) by
  obtain ⟨⟨x, h'⟩, h1, i, rfl, h2⟩ := this
  exact ⟨i, h', h1, h2⟩
 have ho := hc.lt
 rw [e84]
 simp only [F84, bs, d4X, b4b]
 generalize hg0 : a0F (a0F h a0D 11 [[.str [], .int .i64 0, .int .i64 0, .int .i64 0, .int .i64 0, .nils, .int .i64 0, .int .i64 0, .str [], .str [], .nils]]) a0E 10 [[.int .i64 0, .int .i64 0, .int .i64 0, .int .i64 0, .nils, .int .i64 0, .int .i64 0, .str [], .str [], .nils]] = g0
 have S0 : St h o g0 := (St.refl hc).app (by simp [-bind_some, ← hg0, a0F]) (fun q hq => by simp only [← hg0, a0F]; rw [d5y (by simp; omega), d5y hq])
 have p8 : g0[h.length]? = some (.row a0D 11 [[.str [], .int .i64 0, .int .i64 0, .int .i64 0, .int .i64 0, .nils, .int .i64 0, .int .i64 0, .str [], .str [], .nils]]) := by
  simp only [← hg0, a0F]; rw [d5y (by simp), List.getElem?_append_right (Nat.le_refl _)]; simp [-bind_some]
 have p9 : g0[h.length + 1]? = some (.row a0E 10 [[.int .i64 0, .int .i64 0, .int .i64 0, .int .i64 0, .nils, .int .i64 0, .int .i64 0, .str [], .str [], .nils]]) := by
  simp only [← hg0, a0F]; rw [List.getElem?_append_right (by simp)]; simp [-bind_some]
 have hl9 : (a0F h a0D 11 [[.str [], .int .i64 0, .int .i64 0, .int .i64 0, .int .i64 0, .nils, .int .i64 0, .int .i64 0, .str [], .str [], .nils]]).length = h.length + 1 := by simp [-bind_some, a0F]
 rw [hl9]
 clear hl9 hg0
 have sm : ∀ {a b : Hp}, Same (h.length + 1) a b → Grow h.length o a b := fun s => ⟨Nat.le_of_eq s.1.symm, fun q hq _ => s.2 q (by omega)⟩
 refine c2J p9 (by rfl) (by rfl) (by simp) (by rfl) fun g1 q9 sg => ?_
 replace q9 : g1[h.length + 1]? = some (.row a0E 10 [[.int .i64 host, .int .i64 file, .int .i64 fr, .int .i64 0, .nils, .int .i64 0, .int .i64 0, .str [], .str [], .nils]]) := q9
 replace p8 := (sg.2 h.length (by omega)).trans p8
 have S1 : St h o g1 := S0.app (Nat.le_of_eq sg.1.symm) fun q hq => sg.2 q (by omega)
 clear p9 sg S0
 obtain ⟨v, h1, e1, c1, s1, v0, v1⟩ := a2h S1.cd 3 (by omega) (by omega)
 replace q9 := (s1.2 (h.length + 1) (by omega)).trans q9
 replace p8 := (s1.2 h.length (by omega)).trans p8
 have S2 := S1.next c1 s1
 refine Wp.step e1 ?_
 simp only [a0u, bs]
 rw [wrap_i64 (n := 1 + v) (by omega) (by omega)]
 refine Wp.loop (fun k ds g => ∃ po : Int, ∃ a b c x, ∃ ls : List Lin, ds = [.int .i64 po, .int .i64 k, a, b, c] ∧ St h o g ∧ g[h.length]? = some (.row a0D 11 [[.str [], .int .i64 0, .int .i64 0, .int .i64 0, .int .i64 0, .nils, .int .i64 0, .int .i64 0, .str [], .str [], .nils]])
   ∧ g[h.length + 1]? = some (.row a0E 10 [[.int .i64 host, .int .i64 file, .int .i64 fr, .int .i64 0, x, .int .i64 0, .int .i64 0, .str [], .str [], .nils]]) ∧ Own g (h.length + 2) a1A 3 (ls.map a1p) x ∧ chain fr ls po ∧ ls.length + k = (1 + v).toNat ∧ ∀ l ∈ ls, l.len ≤ l.txt.length + 2)
  (fun r => r.1 = .ext 0 ∧ ∃ po : Int, ∃ a b c d x, ∃ ls : List Lin, r.2.1 = [.int .i64 po, a, b, c, d] ∧ St h o r.2.2 ∧ r.2.2[h.length]? = some (.row a0D 11 [[.str [], .int .i64 0, .int .i64 0, .int .i64 0, .int .i64 0, .nils, .int .i64 0, .int .i64 0, .str [], .str [], .nils]])
   ∧ r.2.2[h.length + 1]? = some (.row a0E 10 [[.int .i64 host, .int .i64 file, .int .i64 fr, .int .i64 0, x, .int .i64 0, .int .i64 0, .str [], .str [], .nils]]) ∧ Own r.2.2 (h.length + 2) a1A 3 (ls.map a1p) x ∧ chain fr ls po ∧ 1 ≤ ls.length ∧ ls.length ≤ 3 ∧ ∀ l ∈ ls, l.len ≤ l.txt.length + 2)
  (1 + v).toNat ⟨fr, .any, .any, .any, .nils, [], by rw [Int.toNat_of_nonneg (by omega)], S2, p8, q9, Own.nils _ _ _ _, rfl, by simp, by simp⟩ ?_ ?_
 ·clear e1 S1 S2 q9 p8 c1 s1
  rintro k ds g ⟨po, a, b, c, x, ls, rfl, S, p8, p9, ow, hch, hk, htx⟩
  simp only [b9Q, a0f, a0n, bs, a0v]
  refine Wp.dif ?_ ?_
  ·intro h0
   have h0 : 0 < (k : Int) := by simpa using h0
   obtain ⟨t, g1, e1, c1, s1, ht⟩ := d96 S.cd
   have S1 := S.next c1 s1
   refine Wp.step e1 ?_
   simp only [a4x, a0u, bs]
   obtain ⟨u, g2, e2, c2, s2, u0, u1⟩ := a2h c1 2 (by omega) (by omega)
   have S2 := S1.next c2 s2
   have s12 := s1.trans s2
   replace p9 := (s12.2 (h.length + 1) (by omega)).trans p9
   replace p8 := (s12.2 h.length (by omega)).trans p8
   replace ow := ow.same s12 (by omega)
   refine Wp.step e2 ?_
   have w1 := wrap_i64 (n := (t.length : Int) + 1) (by omega) (by omega)
   have w2 := wrap_i64 (n := (t.length : Int) + 1 + u) (by omega) (by omega)
   simp only [bs, d4X, a0u, w1, w2, a3t, b6C, a0V p9, d5a, bs, Nat.zero_add, List.drop_succ_cons, List.drop_zero, List.head?_cons, b4c, c4x]
   have hlt : h.length + 1 < g2.length := (d5p.1 p9).1
   have hcl := a3Q _ _ _ hch
   refine b4E (by omega) ow (a1g _ _ _ _) (by simp; omega) fun x' g3 ow3 len bel keep _ => ?_
   have S3 := S2.app len fun q hq => bel q (by omega)
   replace p9 := (bel (h.length + 1) (by omega)).trans p9
   replace p8 := (bel h.length (by omega)).trans p8
   simp only [bs]
   refine b8o p9 (by rfl) (by cases x' <;> first | rfl | (have := a2a ow3; simp [-bind_some, D.one] at this)) (by simp) (by cases x' <;> first | rfl | (have := a2a ow3; simp [-bind_some, D.one] at this)) fun g4 p9' sg => ?_
   have hc1 : a0z x' = [x'] := by cases x' <;> first | rfl | (have := a2a ow3; simp [-bind_some, D.one] at this)
   rw [hc1] at p9'
   replace p9 : g4[h.length + 1]? = some (.row a0E 10 [[.int .i64 host, .int .i64 file, .int .i64 fr, .int .i64 0, x', .int .i64 0, .int .i64 0, .str [], .str [], .nils]]) := p9'
   replace p8 := (sg.2 h.length (by omega)).trans p8
   have S4 : St h o g4 := S3.app (Nat.le_of_eq sg.1.symm) fun q hq => sg.2 q (by omega)
   have ow4 := ow3.keep (h' := g4) fun q hq _ => sg.2 q (by omega)
   have w3 := wrap_i64 (n := po + ((t.length : Int) + 1 + u)) (by omega) (by omega)
   have hk1 : IntKind.wrap .i64 ((k : Int) - 1) = ((k - 1 : Nat) : Int) := by
    rw [wrap_i64 (by omega) (by omega)]; omega
   simp only [a0u, bs, a0B, w3, hk1]
   refine .some (.inl ⟨rfl, k - 1, by omega, _, _, _, _, x', ls ++ [⟨po, (t.length : Int) + 1 + u, t⟩], rfl, S4, p8, p9, by rw [d5e]; exact ow4, a8b _ _ _ _ hch rfl (by simp; omega) (by simp; omega) (by simp; omega), by simp; omega, ?_⟩)
   intro l hl
   rcases d5v.1 hl with hl | hl
   ·exact htx l hl
   ·simp at hl; subst hl; simp [-bind_some]; omega
  ·intro h0
   have h0 : ¬ 0 < (k : Int) := by simpa using h0
   exact .some (.inr ⟨by simp, rfl, _, _, _, _, _, x, ls, rfl, S, p8, p9, ow, hch, by omega, by omega, htx⟩)
 ·clear e1 S1 S2 q9 p8 c1 s1
  rintro ⟨ex, ds, g⟩ ⟨rfl, po, a, b, c, d, x, ls, rfl, S, p8, p9, ow, hch, hl1, hl3, htx⟩
  simp only [a0l, a0o, a0f, bs, a9j]
  refine b8s p9 (by rfl) (by rfl) (by simp) (by rfl) fun g1 p9' sg => ?_
  replace p9 : g1[h.length + 1]? = some (.row a0E 10 [[.int .i64 host, .int .i64 file, .int .i64 fr, .int .i64 po, x, .int .i64 0, .int .i64 0, .str [], .str [], .nils]]) := p9'
  replace p8 := (sg.2 h.length (by omega)).trans p8
  have S1 : St h o g1 := S.app (Nat.le_of_eq sg.1.symm) fun q hq => sg.2 q (by omega)
  have ow1 := ow.keep (h' := g1) fun q hq _ => sg.2 q (by omega)
  clear S sg p9' ow
  obtain ⟨v, g2, e2, c2, s2, v0, v1⟩ := a2h S1.cd 5 (by omega) (by omega)
  replace p9 := (s2.2 (h.length + 1) (by omega)).trans p9
  replace p8 := (s2.2 h.length (by omega)).trans p8
  have S2 := S1.next c2 s2
  have ow2 := ow1.same s2 (by omega)
  refine Wp.step e2 ?_
  simp only [a0R, bs]
  refine Wp.dif ?_ ?_
  ·intro _
   refine Wp.loop (fun k ds g => ∃ b, ∃ i : Nat, ds = [.int .i64 i, b] ∧ St h o g ∧ g[h.length]? = some (.row a0D 11 [[.str [], .int .i64 0, .int .i64 0, .int .i64 0, .int .i64 0, .nils, .int .i64 0, .int .i64 0, .str [], .str [], .nils]])
    ∧ g[h.length + 1]? = some (.row a0E 10 [[.int .i64 host, .int .i64 file, .int .i64 fr, .int .i64 po, x, .int .i64 0, .int .i64 0, .str [], .str [], .nils]]) ∧ Own g (h.length + 2) a1A 3 (((ls.take i).map a5c ++ ls.drop i).map a1p) x ∧ k + i = ls.length)
    (fun r => r.1 = .ext 2 ∧ ∃ a b, r.2.1 = [a, b] ∧ St h o r.2.2 ∧ r.2.2[h.length]? = some (.row a0D 11 [[.str [], .int .i64 0, .int .i64 0, .int .i64 0, .int .i64 0, .nils, .int .i64 0, .int .i64 0, .str [], .str [], .nils]])
    ∧ r.2.2[h.length + 1]? = some (.row a0E 10 [[.int .i64 host, .int .i64 file, .int .i64 fr, .int .i64 po, x, .int .i64 0, .int .i64 0, .str [], .str [], .nils]]) ∧ Own r.2.2 (h.length + 2) a1A 3 ((ls.map a5c).map a1p) x) ls.length ⟨.any, 0, rfl, S2, p8, p9, by simpa using ow2, rfl⟩ ?_ ?_
   ·clear S1 ow1 e2 c2 s2 S2 p8 p9 ow2
    rintro k ds g ⟨b, i, rfl, S, p8, p9, ow, hk⟩
    have hlen : (((ls.take i).map a5c ++ ls.drop i).map a1p).length = ls.length := by simp; omega
    have hlo := c0r ow
    rw [hlen] at hlo
    simp only [b9R, a0f, a0n, bs, d4X, a3t, b6C, a0V p9, d5a, Nat.zero_add, List.drop_succ_cons, List.drop_zero, List.head?_cons, hlo, a0j]
    refine Wp.dif ?_ ?_
    ·intro h0
     have hi : i < ls.length := by
      have : (i : Int) < ls.length := by simpa using h0
      omega
     obtain ⟨ob, hob, rfl, hgo⟩ := a4k ow (i := i) (by rw [hlen]; exact hi)
     rw [hlen] at *
     have hil : (i : Int) < ls.length := by omega
     have hw := wi_ i (by omega)
     simp only [b9l, Int.natCast_nonneg, hil, and_self, if_true, Nat.zero_add, d5h, bs, a2M]
     refine b9M hgo (b0E ls i hi) (by rfl) (by simp [-bind_some, a1p]) (by rfl) fun g1 hg1 sg => ?_
     have hset : (((ls.take i).map a5c ++ ls.drop i).map a1p).set i (spl (a1p ls[i]) 2 (a0z (.str []))) = ((ls.take (i + 1)).map a5c ++ ls.drop (i + 1)).map a1p := b0Z ls i hi
     rw [hset] at hg1
     simp only [a0u, bs, hw]
     refine .some (.inl ⟨rfl, k - 1, by omega, _, i + 1, rfl, S.app (Nat.le_of_eq sg.1.symm) fun q hq => sg.2 q (by omega), (sg.2 _ (by omega)).trans p8, (sg.2 _ (by omega)).trans p9, ?_, by omega⟩)
     refine .inr ⟨ob, hob, ?_, hg1⟩
     congr 1
     simp [-bind_some]; omega
    ·intro h0
     have hi : i = ls.length := by
      have : ¬ (i : Int) < ls.length := by simpa using h0
      omega
     subst hi
     refine .some (.inr ⟨by simp, rfl, _, _, rfl, S, p8, p9, by simpa using ow⟩)
   ·clear S1 ow1 e2 c2 s2 S2 p8 p9 ow2
    rintro ⟨ex, ds, g⟩ ⟨rfl, a, b, rfl, S, p8, p9, ow⟩
    simp only [a0l, a0o, a0f, bs, b6R]
    obtain ⟨v, g1, e1, c1, s1, v0, v1⟩ := a2h S.cd 3 (by omega) (by omega)
    obtain ⟨s, hs, hg⟩ := a5j lt98_4 v v0 v1
    have p9' := (s1.2 (h.length + 1) (by omega)).trans p9
    replace p8 := (s1.2 h.length (by omega)).trans p8
    have S1 := S.next c1 s1
    have ow1 := ow.same s1 (by omega)
    refine Wp.step e1 ?_
    simp only [c5e, v0, if_true, d5l, hg, Option.map_some, bs, ld9, d0Y p9' rfl, d0Y p9 rfl, b8A, a1D]
    refine b1e p8 (by rfl) (by rfl) (by simp) (by rfl) fun g2 q8 sg => ?_
    replace q8 : g2[h.length]? = some (.row a0D 11 [[.str s, .int .i64 host, .int .i64 file, .int .i64 fr, .int .i64 po, x, .int .i64 0, .int .i64 0, .str [], .str [], .nils]]) := q8
    have S2 : St h o g2 := S1.app (Nat.le_of_eq sg.1.symm) fun q hq => sg.2 q (by omega)
    have ow2 := ow1.keep (h' := g2) fun q hq _ => sg.2 q (by omega)
    simp only [b0K q8 rfl, bs, a0g]
    have hsl := a2C (n0 := h.length) (n := 2) ow2 (by omega) (fun a _ => a3Y _ g2 _ a)
    have hsl2 := b6Q s hs
    obtain ⟨h', hsc, hcd, hsm⟩ := S2.scope (d := .agg [.str s, .int .i64 host, .int .i64 file, .int .i64 fr, .int .i64 po, x, .int .i64 0, .int .i64 0, .str [], .str [], .nils]) (d' := .agg (itr ⟨s, ⟨host, file, fr, po, ls.map a5c, frz h.length g2 3 x, 0, 0, [], [], [], .nils, SlOf.nils _ _, by simp, hsl, by simp; omega⟩⟩)) (by simp [-bind_some, itr, evr]) (b0G _ _)
    rw [hsc]
    refine .some ⟨_, rfl, hcd, hsm, ⟨rfl, rfl, rfl, a5e _ _ _ hch, by simpa using hl1, by simpa using hl3, fun h0 => absurd h0 hsl2, fun h0 => absurd h0 hsl2, fun _ => ⟨hs, rfl, rfl, rfl, rfl, rfl, ?_⟩⟩⟩
    intro l hl
    simp at hl
    obtain ⟨l0, _, rfl⟩ := hl
    rfl
  ·intro _
   clear e2 v0 v1
   obtain ⟨tm, g3, e3, c3, s3, t0, t1⟩ := d35 c2
   refine Wp.step e3 ?_
   simp only [bs]
   obtain ⟨wt, g4, e4, c4, s4, w0, w1, w2⟩ := d97 c3
   refine Wp.step e4 ?_
   have s3x4 := s3.trans s4
   replace p9 := (s3x4.2 (h.length + 1) (by omega)).trans p9
   replace p8 := (s3x4.2 h.length (by omega)).trans p8
   have S4 := S2.next c4 s3x4
   have ow4 := ow2.same s3x4 (by omega)
   clear e3 e4 S1 S2 c3 s3 c2 s2 s4 s3x4 ow1 ow2 c4
   simp only [bs, a9k, a9l, a9m, a9n, a5f, Nat.zero_add]
   refine b8s p9 (by rfl) (by rfl) (by simp) (by rfl) fun g5 p9' sg => ?_
   refine b8s p9' (by rfl) (by rfl) (by simp [-bind_some, spl, a0z]) (by rfl) fun g6 p9'' sg2 => ?_
   replace sg := sg.trans sg2
   replace p9 : g6[h.length + 1]? = some (.row a0E 10 [[.int .i64 host, .int .i64 file, .int .i64 fr, .int .i64 po, x, .int .i64 tm, .int .i64 wt, .str [], .str [], .nils]]) := p9''
   replace p8 := (sg.2 h.length (by omega)).trans p8
   have S6 : St h o g6 := S4.app (Nat.le_of_eq sg.1.symm) fun q hq => sg.2 q (by omega)
   have ow6 := ow4.keep (h' := g6) fun q hq _ => sg.2 q (by omega)
   clear p9' p9'' sg sg2 S4 ow4
   simp only [b6S, bs]
   obtain ⟨v, g7, e7, c7, s7, v0, v1⟩ := a2h S6.cd 4 (by omega) (by omega)
   obtain ⟨tr, htr, hg⟩ := a5j lt98_5 v v0 v1
   refine Wp.step e7 ?_
   simp only [c5e, v0, if_true, d5l, hg, Option.map_some, bs, ld9, b6T]
   obtain ⟨v, g8, e8, c8, s8, v0, v1⟩ := a2h c7 2 (by omega) (by omega)
   obtain ⟨sm', hsm, hg⟩ := a5j lt98_6 v v0 v1
   refine Wp.step e8 ?_
   simp only [c5e, v0, if_true, d5l, hg, Option.map_some, bs, ld9, a1D]
   have s7x8 := s7.trans s8
   replace p9 := (s7x8.2 (h.length + 1) (by omega)).trans p9
   replace p8 := (s7x8.2 h.length (by omega)).trans p8
   have S8 := S6.next c8 s7x8
   have ow8 := ow6.same s7x8 (by omega)
   clear e7 e8 S6 c7 s7 s8 s7x8 ow6 c8
   refine b9M p9 (by rfl) (by rfl) (by simp) (by rfl) fun g9 p9' sg => ?_
   refine b9M p9' (by rfl) (by rfl) (by simp [-bind_some, spl, a0z]) (by rfl) fun g10 p9'' sg2 => ?_
   replace sg := sg.trans sg2
   replace p9 : g10[h.length + 1]? = some (.row a0E 10 [[.int .i64 host, .int .i64 file, .int .i64 fr, .int .i64 po, x, .int .i64 tm, .int .i64 wt, .str tr, .str sm', .nils]]) := p9''
   replace p8 := (sg.2 h.length (by omega)).trans p8
   have S10 : St h o g10 := S8.app (Nat.le_of_eq sg.1.symm) fun q hq => sg.2 q (by omega)
   have ow10 := ow8.keep (h' := g10) fun q hq _ => sg.2 q (by omega)
   clear p9' p9'' sg sg2 S8 ow8
   obtain ⟨y, g11, e11, c11, s11, fs, hy, hfs⟩ := d98 S10.cd
   refine Wp.step e11 ?_
   replace p9 := (s11.2 (h.length + 1) (by omega)).trans p9
   replace p8 := (s11.2 h.length (by omega)).trans p8
   have S11 := S10.next c11 s11
   have ow11 := ow10.same s11 (by omega)
   have oc := a0T (a1z hy)
   refine c2I p9 (by rfl) (by rw [oc.1]; rfl) (by simp) oc.2 fun g12 p9' sg => ?_
   rw [oc.1] at p9'
   replace p9 : g12[h.length + 1]? = some (.row a0E 10 [[.int .i64 host, .int .i64 file, .int .i64 fr, .int .i64 po, x, .int .i64 tm, .int .i64 wt, .str tr, .str sm', y]]) := p9'
   replace p8 := (sg.2 h.length (by omega)).trans p8
   have S12 : St h o g12 := S11.app (Nat.le_of_eq sg.1.symm) fun q hq => sg.2 q (by omega)
   have ow12 := ow11.keep (h' := g12) fun q hq _ => sg.2 q (by omega)
   clear e11 S11 ow11 S10 ow10 s11 c11 sg p9'
   simp only [d0Y p9 rfl, bs, c4u]
   refine b1e p8 (by rfl) (by rfl) (by simp) (by rfl) fun g2 q8 sg => ?_
   replace q8 : g2[h.length]? = some (.row a0D 11 [[.str [], .int .i64 host, .int .i64 file, .int .i64 fr, .int .i64 po, x, .int .i64 tm, .int .i64 wt, .str tr, .str sm', y]]) := q8
   have S2 : St h o g2 := S12.app (Nat.le_of_eq sg.1.symm) fun q hq => sg.2 q (by omega)
   have ow2 := ow12.keep (h' := g2) fun q hq _ => sg.2 q (by omega)
   simp only [b0K q8 rfl, bs, a0g]
   have hsl := a2C (n0 := h.length) (n := 2) ow2 (by omega) (fun a _ => a3Y _ g2 _ a)
   have hfl : fs.length ≤ 4 := by
    have := hfs.1.length_le
    simpa using this
   have hfy : frz h.length g2 3 y = y := a3n hy (fun a _ => a6i _ g2 _ a)
   obtain ⟨h', hsc, hcd, hsm2⟩ := S2.scope (d := .agg [.str [], .int .i64 host, .int .i64 file, .int .i64 fr, .int .i64 po, x, .int .i64 tm, .int .i64 wt, .str tr, .str sm', y]) (d' := .agg (itr ⟨[], ⟨host, file, fr, po, ls, frz h.length g2 3 x, tm, wt, tr, sm', fs, y, hy, by omega, hsl, by omega⟩⟩)) (by simp [-bind_some, itr, evr, hfy]) (b0G _ _)
   rw [hsc]
   exact .some ⟨_, rfl, hcd, hsm2, ⟨rfl, rfl, rfl, hch, hl1, hl3, fun _ => ⟨t0, t1, w0, w1, htr, hsm, hfs, htx⟩, fun _ => w2, fun h0 => absurd rfl h0⟩⟩
def a9t (hst fil : Int) : Int → List It → Int → Prop
 | a, [], b => a = b
 | a, i :: r, b => ItOK hst fil a i ∧ a9t hst fil i.e.a3 r b
theorem a8n (hst fil : Int) : ∀ (l : List It) (a b : Int) (i : It), a9t hst fil a l b → ItOK hst fil b i → a9t hst fil a (l ++ [i]) i.e.a3
 | [], a, b, i, h, hi => by
  simp only [a9t] at h
  subst h
  exact ⟨hi, rfl⟩
 | x :: r, a, b, i, h, hi => ⟨h.1, a8n hst fil r _ b i h.2 hi⟩
def FilesOK (host most : Int) (P : List It → D → Prop) (ps : List (List It × D)) : Prop := ∀ (f : Nat) p, ps[f]? = some p → P p.1 p.2 ∧ p.1.length ≤ most ∧ ∃ po, a9t host (5 + f) 0 p.1 po
theorem FilesOK.mono {host most : Int} {P P' : List It → D → Prop} {ps : List (List It × D)} (h : FilesOK host most P ps) (k : ∀ a b, P a b → P' a b) : FilesOK host most P' ps := fun f p hp => ⟨k _ _ (h f p hp).1, (h f p hp).2⟩
theorem l71 {o N : Nat} (host most f : Int) (n0 : Nat) (ho : o < n0) (hN : n0 ≤ N) (ds0 : List D) (hds0 : nth 1 ds0 = .int .i64 f) (hf0 : 0 ≤ f) (hf1 : f ≤ 1000) {β : Type} {K : Out → Option β} {Q : β → Prop} (g : Hp) (n : Nat) (hn : n ≤ 1000) (a b : D) (hc : CD g o) (hNg : N ≤ g.length)
  (k : ∀ g' its po x a b c, Own g' N a0D 11 (its.map itr) x → CD g' o → Grow N o g g' → a9t host (5 + f) 0 its po → its.length = n → Wp (K (.ext 2, [x, .int .i64 po, a, b, c], g')) Q) :
  Wp ((a0I (b4K (.ptr o 0 0) (.int .i64 host) ds0) [.nils, .int .i64 0, .int .i64 n, a, b] g).bind K) Q := by
 refine Wp.loop (fun k ds g' => ∃ x po a b, ∃ its : List It, ds = [x, .int .i64 po, .int .i64 k, a, b] ∧ Own g' N a0D 11 (its.map itr) x ∧ CD g' o ∧ Grow N o g g' ∧ a9t host (5 + f) 0 its po ∧ 0 ≤ po ∧ po ≤ 108 * its.length ∧ its.length + k = n)
  (fun r => r.1 = .ext 2 ∧ ∃ x po a b c, ∃ its : List It, r.2.1 = [x, .int .i64 po, a, b, c] ∧ Own r.2.2 N a0D 11 (its.map itr) x ∧ CD r.2.2 o ∧ Grow N o g r.2.2 ∧ a9t host (5 + f) 0 its po ∧ its.length = n)
  n ⟨.nils, 0, a, b, [], rfl, Own.nils _ _ _ _, hc, .refl _ _ _, rfl, by omega, by simp, by simp⟩ ?_ ?_
 ·rintro k ds g' ⟨x, po, a, b, its, rfl, ow, hc', hg, hit, hp0, hp1, hk⟩
  simp only [b4K, a0f, a0n, bs, a0v, hds0, a0u, wrap_i64 (n := 5 + f) (by omega) (by omega)]
  refine Wp.dif ?_ ?_
  ·intro h0
   have h0 : 0 < (k : Int) := by simpa using h0
   obtain ⟨i, g1, e1, c1, s1, hi⟩ := d84 hc' host (5 + f) po hp0 (by omega)
   have hcl := a3Q _ _ _ hi.ch
   have hn3 := hi.n3
   have hn1 := hi.n1
   have ow1 := ow.same s1 (by omega)
   refine Wp.step e1 ?_
   simp only [a9V, bs, b4H, d2p]
   refine b3U (by have := hg.1; have := s1.1; omega) ow1 (a1g _ _ _ _) (by simp; omega) fun x' g2 ow2 len bel _ _ => ?_
   have hto := d4P i g2
   cases hfa : a0a tab a0D 1 (.fptr (itr i)) with
   | none => rw [hfa] at hto; cases hto
   | some p =>
    rw [hfa] at hto
    simp only [bs] at hto
    cases hfb : a0a tab a0E 3 p with
    | none => rw [hfb] at hto; cases hto
    | some q =>
     rw [hfb] at hto
     simp only [bs] at hto
     have hk1 : IntKind.wrap .i64 ((k : Int) - 1) = ((k - 1 : Nat) : Int) := by
      rw [wrap_i64 (by omega) (by omega)]; omega
     simp only [bs, hfa, hfb, hto, a0B, hk1]
     refine .some (.inl ⟨rfl, k - 1, by omega, x', i.e.a3, _, _, its ++ [i], rfl, by rw [d5e]; exact ow2, c1.keep (bel o (by omega)), (hg.trans s1.grow).trans ⟨len, fun q hq _ => bel q hq⟩, a8n _ _ _ _ _ _ hit hi, by omega, by simp; omega, by simp; omega⟩)
  ·intro h0
   have h0 : ¬ 0 < (k : Int) := by simpa using h0
   exact .some (.inr ⟨by simp, rfl, x, po, _, _, _, its, rfl, ow, hc', hg, hit, by omega⟩)
 ·rintro ⟨ex, ds, g'⟩ ⟨rfl, x, po, a, b, c, its, rfl, ow, hc', hg, hit, hn⟩
  exact k g' its po x a b c ow hc' hg hit hn
theorem d2I {h : Hp} {o : Nat} (hc : CD h o) (host most : Int) (hm0 : 0 ≤ most) (hm1 : most ≤ 100) : ∃ x h', R c6N [.ptr o 0 0, .int .i64 host, .int .i64 most] h = some (x, h') ∧ CD h' o ∧ Same o h h' ∧ ∃ ps : List (List It × D), SlOf 1 (fun p => [p.2]) ps x ∧ ps.length ≤ 3 ∧ 1 ≤ ps.length ∧ FilesOK host most (SlOf 11 itr) ps := by
 suffices Wp (R c6N [.ptr o 0 0, .int .i64 host, .int .i64 most] h) (fun p => CD p.2 o ∧ Same o h p.2 ∧ ∃ ps : List (List It × D), SlOf 1 (fun p => [p.2]) ps p.1 ∧ ps.length ≤ 3 ∧ 1 ≤ ps.length ∧ FilesOK host most (SlOf 11 itr) ps) by
  obtain ⟨⟨x, h'⟩, h1, h2⟩ := this
  exact ⟨x, h', h1, h2⟩
 have ho := hc.lt
 rw [e71]
 simp only [F71, bs, d4X]
 refine Wp.loop (fun k ds g => ∃ x a b c d e f', ∃ f : Nat, ∃ ps : List (List It × D), ds = [x, .int .i64 f, a, b, c, d, e, f'] ∧ St h o g ∧ Own g h.length a0K 1 (ps.map fun p => [p.2]) x ∧ ps.length = f ∧ k + f = 3 ∧ FilesOK host most (fun l d => Own g h.length a0D 11 (l.map itr) d) ps)
  (fun r => r.1 = .ext 0 ∧ ∃ x a b c d e f' h', ∃ ps : List (List It × D), r.2.1 = [x, a, b, c, d, e, f', h'] ∧ St h o r.2.2 ∧ Own r.2.2 h.length a0K 1 (ps.map fun p => [p.2]) x ∧ ps.length ≤ 3 ∧ 1 ≤ ps.length ∧ FilesOK host most (fun l d => Own r.2.2 h.length a0D 11 (l.map itr) d) ps)
  3 ⟨.nils, .any, .any, .any, .any, .any, .any, 0, [], rfl, .refl hc, Own.nils _ _ _ _, rfl, rfl, fun f p hp => by simp at hp⟩ ?_ ?_
 ·rintro k ds g ⟨x, a, b, c, d, e, f', f, ps, rfl, S, ow, hpf, hk, hps⟩
  simp only [b9P, a0f, a0n, bs, d4X]
  obtain ⟨v, g1, e1, c1, s1, v0, v1⟩ := a2h S.cd 3 (by omega) (by omega)
  have S1 := S.next c1 s1
  have ow1 := ow.same s1 ho
  have hps1 : FilesOK host most (fun l d => Own g1 h.length a0D 11 (l.map itr) d) ps := hps.mono fun _ _ w => w.same s1 ho
  refine Wp.step e1 ?_
  simp only [a1E, bs]
  refine Wp.dif ?_ ?_
  ·intro h0
   have h0 : (f : Int) ≤ v := by simpa using h0
   simp only [a0u, bs, wrap_i64 (n := most + 1) (by omega) (by omega)]
   obtain ⟨n, g2, e2, c2, s2, n0, n1⟩ := a2h c1 (most + 1) (by omega) (by omega)
   have S2 := S1.next c2 s2
   have ow2 := ow1.same s2 ho
   have hps2 : FilesOK host most (fun l d => Own g2 h.length a0D 11 (l.map itr) d) ps := hps1.mono fun _ _ w => w.same s2 ho
   refine Wp.step e2 ?_
   simp only [bs]
   rw [← Int.toNat_of_nonneg n0]
   refine l71 (N := g2.length) host most f h.length ho S2.le _ (by rfl) (by omega) (by omega) g2 n.toNat (by omega) _ _ c2 (Nat.le_refl _) ?_
   intro g3 its po y a' b' c' owy c3 gr hit hlen
   have bel : ∀ q, q < g2.length → q ≠ o → g3[q]? = g2[q]? := gr.2
   have S3 : St h o g3 := ⟨ho, c3, S2.gr.trans ⟨gr.1, fun q hq hn => bel q (by have := S2.le; omega) hn⟩⟩
   have ow3 : Own g3 h.length a0K 1 (ps.map fun p => [p.2]) x := ow2.keep fun q hq hin => bel q (ow2.lt hin).2 (by omega)
   have hps3 : FilesOK host most (fun l d => Own g3 h.length a0D 11 (l.map itr) d) ps := hps2.mono fun _ _ w => w.keep fun q hq hin => bel q (w.lt hin).2 (by omega)
   have owy' : Own g3 h.length a0D 11 (its.map itr) y := owy.from S2.le
   simp only [a0l, a0o, a0f, a0n, bs, c1o y (a2a owy)]
   have hw := wi_ f (by omega)
   refine c6D S3.le ow3 (a1g _ _ _ _) (by simp; omega) fun x' g4 ow4 len bel4 keep4 _ => ?_
   simp only [bs, hw]
   have kp : ∀ (l : List It) (d : D), Own g3 h.length a0D 11 (l.map itr) d → Own g4 h.length a0D 11 (l.map itr) d := fun l d w => w.keep fun q hq hin => keep4 q (w.lt hin).2 (b7l w ow3 (by decide) hin)
   refine .some (.inl ⟨rfl, k - 1, by omega, x', _, _, _, _, _, _, f + 1, ps ++ [(its, y)], rfl, S3.app len bel4, by rw [d5e]; exact ow4, by simp; omega, by omega, fun j p hp => ?_⟩)
   rcases Nat.lt_or_ge j ps.length with hj | hj
   ·rw [d5y hj] at hp
    exact ⟨kp _ _ (hps3 j p hp).1, (hps3 j p hp).2⟩
   ·rw [List.getElem?_append_right hj] at hp
    have hj0 : j - ps.length = 0 := by
     have := (d5p.1 hp).1
     simpa using this
    rw [hj0] at hp
    simp at hp
    subst hp
    have hjf : j = f := by omega
    subst hjf
    exact ⟨kp _ _ owy', by simp only; omega, po, hit⟩
  ·intro h0
   have h0 : ¬ (f : Int) ≤ v := by simpa using h0
   exact .some (.inr ⟨by simp, rfl, x, _, _, _, _, _, _, _, ps, rfl, S1, ow1, by omega, by omega, hps1⟩)
 ·rintro ⟨ex, ds, g⟩ ⟨rfl, x, a, b, c, d, e, f', h', ps, rfl, S, ow, hpl, hpl1, hps⟩
  simp only [a0l, a0o, a0f, bs, a0g]
  have hfz : SlOf 1 (fun p : List It × D => [p.2]) (ps.map fun p => (p.1, frz h.length g 3 p.2)) (frz h.length g 4 x) := by
   rcases ow with ⟨rfl, hr⟩ | ⟨ob, hob, rfl, hgo⟩
   ·have : ps = [] := by simpa using hr
    subst this
    exact .inl ⟨rfl, rfl⟩
   ·right
    refine ⟨false, ?_⟩
    rw [b1A hob hgo]
    simp [-bind_some]
    rw [List.take_of_length_le (by simp)]
    rfl
  have hps' : FilesOK host most (SlOf 11 itr) (ps.map fun p => (p.1, frz h.length g 3 p.2)) := by
   intro j p hp
   rw [d5l] at hp
   cases hq : ps[j]? with
   | none => rw [hq] at hp; cases hp
   | some q =>
    rw [hq] at hp
    simp at hp
    subst hp
    exact ⟨a2C (hps j q hq).1 (Nat.le_refl _) fun a _ => a7y _ _ _ a, (hps j q hq).2⟩
  obtain ⟨h', hs, hcd, hsm⟩ := S.scope rfl (a2e hfz fun a ha d hd => by
   simp at hd
   subst hd
   obtain ⟨j, hj⟩ := List.getElem?_of_mem ha
   exact a2e (hps' j a hj).1 fun i _ => b6u _ i)
  exact ⟨_, hs, hcd, hsm, _, hfz, by simpa using hpl, by simpa using hpl1, hps'⟩
def a3D (c : Int) : Bool := (decide (97 ≤ c) && decide (c ≤ 122)) || (decide (65 ≤ c) && decide (c ≤ 90))
def b4f (c : Int) : Bool := decide (48 ≤ c) && decide (c ≤ 57)
def a9M (c : Int) : Bool := (b4f c || a3D c) || decide (c = 95)
theorem b9y (c : Int) (h : Hp) : R b2Y [.int .u8 c] h = some (.bool (a3D c), h) := by
 rw [c7B]
 simp [-bind_some, c3d, a3D]
 by_cases h0 : 97 ≤ c <;> by_cases h1 : c ≤ 122 <;> by_cases h2 : 65 ≤ c <;> by_cases h3 : c ≤ 90 <;> simp [-bind_some, h0, h1, h2, h3]
theorem d1f (c : Int) (h : Hp) : R b5I [.int .u8 c] h = some (.bool (b4f c), h) := by
 rw [c7D]
 simp [-bind_some, c3f, b4f]
 by_cases h0 : 48 ≤ c <;> by_cases h1 : c ≤ 57 <;> simp [-bind_some, h0, h1]
theorem c2g (c : Int) (h : Hp) : R b5H [.int .u8 c] h = some (.bool (a9M c), h) := by
 rw [c7C]
 cases hd : b4f c <;> cases hl : a3D c <;> simp [-bind_some, c3e, d1f, b9y, a9M, hd, hl]
def a5i (c : UInt8) : Bool := a9M c.toNat || decide ((c.toNat : Int) = 46)
def a1w (s : Str) : Bool := match s with
 | [] => false
 | c :: r => decide ((c :: r).length ≤ 32) && (a3D c.toNat || decide ((c.toNat : Int) = 95)) && (c :: r).all a5i
theorem d1I (s : Str) (i : Nat) (c : UInt8) (hc : s[i]? = some c) : a4e tab ty9 (.str s) (.int .i64 i) = some (.int .u8 c.toNat) := by
 show (if (0 : Int) ≤ (i : Int) then (match s[(i : Int).toNat]? with | some c => some (D.int .u8 c.toNat) | none => none) else none) = _
 simp [-bind_some, hc]
theorem d0P (s : Str) (h : Hp) (hl : s.length ≤ 9223372036854775807) {β : Type} (K : Out → Option β) (X : Bool → Option β)
   (hX : ∀ r, K (.ret, .bool false :: r, h) = X false) (hY : ∀ r, K (.ext 0, r, h) = X true) : ∀ (suf pre : Str), s = pre ++ suf → ∀ a b e,
   (a0I (a4M (.str s)) [a, .int .i64 pre.length, b, e] h).bind K = X (suf.all a5i) := by
 intro suf
 induction suf with
 | nil =>
  rintro pre rfl a b e
  rw [a1F]
  simp [-bind_some, a4M, hY]
 | cons p suf ih =>
  rintro pre rfl a b e
  have hw : IntKind.wrap .i64 ((pre.length : Int) + 1) = (pre ++ [p]).length := by
   rw [wrap_i64 (by omega) (by simp at hl; omega)]; simp [-bind_some]
  have hlt : (pre.length : Int) < (pre ++ p :: suf).length := by simp; omega
  rw [a1F]
  generalize hL : pre ++ p :: suf = L at *
  have hg : L[pre.length]? = some p := by rw [← hL]; exact b1B _ _ _
  have hix := d1I L pre.length p hg
  cases hp : a9M p.toNat
  ·by_cases h46 : (p.toNat : Int) = 46
   ·have := ih (pre ++ [p]) (by simp [-bind_some, ← hL]) a (.bool true) (.bool (decide ((p.toNat : Int) ≠ 46)))
    simp only [← hw] at this
    have h47 : a9M 46 = false := rfl
    simp [-bind_some, a4M, hlt, hix, c2g, hp, a5i, h46, h47]
    simp [-bind_some, h46] at this
    exact this
   ·simp [-bind_some, a4M, hlt, hix, c2g, hp, a5i, h46, hX]
  ·have := ih (pre ++ [p]) (by simp [-bind_some, ← hL]) a (.bool true) (.bool false)
   simp only [← hw] at this
   simp [-bind_some, a4M, hlt, hix, c2g, hp, a5i]
   exact this
theorem d1e (s : Str) (h : Hp) (hl : s.length ≤ 9223372036854775807) : R b5G [.str s] h = some (.bool (a1w s), h) := by
 rw [c7A]
 cases s with
 | nil => simp [-bind_some, b3V, a1w]
 | cons c r =>
  have hi0 : a4e tab ty9 (.str (c :: r)) (.int .i64 0) = some (.int .u8 c.toNat) := d1I (c :: r) 0 c rfl
  have h1 : ¬ ((c :: r).length : Int) < 1 := by simp; omega
  have hlp := d0P (c :: r) h hl (fun r_1 => (some (a0L 0 r_1.1, [nth 0 r_1.2.1, nth 1 r_1.2.1, nth 2 r_1.2.1, nth 3 r_1.2.1], r_1.2.2)).bind fun r_1 => a0Q r_1.1 (some (.bool true, r_1.2.2)) fun x => a1a x (some (nth 0 r_1.2.1, r_1.2.2))) (fun b => some (.bool b, h)) (fun r => by simp) (fun r => by simp) (c :: r) [] rfl
  simp only [bs] at hlp
  by_cases h32 : (32 : Int) < ((c :: r).length : Int)
  ·have h33 : ¬ (c :: r).length ≤ 32 := by omega
   simp only [b3V, bs, a4x, a0j, a0v, a0r, a0e, h32, h1, decide_true, decide_false, a0W, a0d, a0g, if_true, if_false, d4Y, reduceCtorEq, a1w, h33, Bool.false_and, a1f, bs]
  ·have h33 : (c :: r).length ≤ 32 := by omega
   cases hq : a3D c.toNat
   ·by_cases h95 : (c.toNat : Int) = 95
    ·simp only [b3V, bs, a4x, a0j, a0v, a0r, a0e, h32, h1, decide_true, decide_false, a0W, a0d, a0g, if_true, if_false, d4Y, reduceCtorEq, a1w, h33, Bool.false_and, hi0, b9y, hq, show a3D 95 = false from rfl, a1m, d5j, a0t, h95, ne_eq, not_true, d4X]
     refine (hlp _ _ _).trans ?_
     simp [-bind_some, a5i]
    ·simp only [b3V, bs, a4x, a0j, a0v, a0r, a0e, h32, h1, decide_true, decide_false, a0W, a0d, a0g, if_true, if_false, d4Y, reduceCtorEq, a1w, h33, Bool.false_and, hi0, b9y, hq, a1m, d5j, a0t, h95, ne_eq, not_true, not_false_eq_true, Bool.or_false, Bool.and_false]
   ·simp only [b3V, bs, a4x, a0j, a0v, a0r, a0e, h32, h1, decide_true, decide_false, a0W, a0d, a0g, if_true, if_false, d4Y, reduceCtorEq, a1w, h33, Bool.false_and, hi0, b9y, hq, a1m, d5i, a1f, d4X]
    refine (hlp _ _ _).trans ?_
    simp [-bind_some, a5i]
def Asc (l : List (Str × Str)) : Prop := ∀ i p q, l[i]? = some p → l[i + 1]? = some q → Op.bytesLess p.1 q.1 = true ∧ p.1 ≠ q.1
theorem d4B (t : Nat) (s u : Str) : a0k tab .gtr t (.str s) (.str u) = some (.bool (!(Op.bytesLess s u || s == u))) := id rfl
theorem a8g (p : Str × Str) : (a0a tab a0w 0 (.fptr (fld p))) = some (.fptr (fld p)) := id rfl
theorem a8h (p : Str × Str) (h : Hp) : a0c tab h ty9 (.fptr (fld p)) = some (.str p.1) := id rfl
structure PlOK (e : Ev) : Prop where
 h0 : 0 ≤ e.a0
 h9 : e.a0 ≤ 999
 f0 : 0 ≤ e.a1
 f9 : e.a1 ≤ 2147483646
 a0 : 0 ≤ e.a2
 ab : e.a2 < e.a3
 b9 : e.a3 ≤ 60000
structure EvGood (e : Ev) : Prop where
 pl : PlOK e
 t0 : 0 ≤ e.a5
 t9 : e.a5 ≤ 253402300799999
 w1 : 1 ≤ e.a6
 w2 : e.a6 ≤ 5040
 w3 : Int.tmod 5040 e.a6 = 0
 l1 : 1 ≤ e.ls.length
 l4 : e.ls.length ≤ 40
 ch : chain e.a2 e.ls e.a3
 tr : e.s7.length ≤ 32
 st : e.s8.length ≤ 32
 f3 : e.fs.length ≤ 32
 fn : ∀ p ∈ e.fs, a1w p.1 = true ∧ p.1.length ≤ 1000
 fa : Asc e.fs
 fv : ∀ p ∈ e.fs, p.2.length ≤ 2000
structure SkGood (i : It) : Prop where
 r0 : i.r ≠ []
 r3 : i.r.length ≤ 32
 pl : PlOK i.e
 l1 : 1 ≤ i.e.ls.length
 l4 : i.e.ls.length ≤ 40
 ch : chain i.e.a2 i.e.ls i.e.a3
 tm : i.e.a5 = 0
 w0 : i.e.a6 = 0
 tr : i.e.s7 = []
 st : i.e.s8 = []
 fs : i.e.fs = []
 tx : ∀ l ∈ i.e.ls, l.txt = []
theorem d0N (l : List Lin) (d : D) (fn : D) (pr : Lin → Bool) (h : Hp) (hd : SlOf 3 a1p l d) (hl : l.length ≤ 9223372036854775807) (hf : ∀ x, a4m R fn [.agg (a1p x)] h = some (.bool (pr x), h)) {β : Type} (K : Out → Option β) (X : Int → Option β)
   (hX : ∀ v r, K (.ret, .int .i64 v :: r, h) = X v) (hY : ∀ r, K (.ext 0, r, h) = X (-1)) : ∀ (suf pre : List Lin), l = pre ++ suf → ∀ a b e f,
   (a0I (a5s d fn (.int .i64 l.length)) [a, b, .int .i64 pre.length, e, f] h).bind K = X (idx pr pre.length suf) := by
 intro suf
 induction suf with
 | nil =>
  rintro pre rfl a b e f
  rw [a1F]
  simp [-bind_some, a5s, hY, idx]
 | cons p suf ih =>
  rintro pre rfl a b e f
  have hw : IntKind.wrap .i64 ((pre.length : Int) + 1) = (pre ++ [p]).length := by
   rw [wrap_i64 (by omega) (by simp at hl; omega)]; simp [-bind_some]
  have hlt : (pre.length : Int) < (pre ++ p :: suf).length := by simp; omega
  rw [a1F]
  generalize hL : pre ++ p :: suf = L at *
  have hg : L[pre.length]? = some p := by rw [← hL]; exact b1B _ _ _
  by_cases hp : pr p = true
  ·simp [-bind_some, a5s, a9u hd, hlt, hg, a9x, hf, hp, hX, idx]
  ·have := ih (pre ++ [p]) (by simp [-bind_some, ← hL]) a (.int .i64 pre.length) (.bool true) (.bool (pr p))
   simp only [← hw] at this
   simp [-bind_some, a5s, a9u hd, hlt, hg, a9x, hf, hp, idx]
   simp [-bind_some, hp] at this
   exact this
theorem d1d (l : List Lin) (d : D) (fn : D) (pr : Lin → Bool) (h : Hp) (hd : SlOf 3 a1p l d) (hl : l.length ≤ 9223372036854775807) (hf : ∀ x, a4m R fn [.agg (a1p x)] h = some (.bool (pr x), h)) :
   R b5C [d, fn] h = some (.int .i64 (idx pr 0 l), h) := by
 rw [c7t]
 simp only [c2Y, bs, a2G hd, d4X]
 rw [show (0 : Int) = (([] : List Lin).length : Int) from rfl, d0N l d fn pr h hd hl hf _ (fun v => some (.int .i64 v, h)) (fun v r => by simp) (fun r => by simp) l [] rfl]
 rfl
theorem b8v {T : Tab} {t e : Nat} {i j : TI} (ht : T t = Option.some i) (hi : i.td = .sl e) (he : T e = Option.some j) (hz : 0 < j.sz) {h : Hp} {ys : List (List D)} {y : D} (hy : a1C h j.sz y = Option.some ys) (hl : lim ys.length j.by_ = true) :
  ∃ x' h', a0C T h t t (.sl j.sz true []) y = Option.some (x', h') ∧ h.length ≤ h'.length ∧ (∀ q, q < h.length → h'[q]? = h[q]?) ∧ ((x' = .sl j.sz true [] ∧ ys = []) ∨ Own h' h.length e j.sz ys x') := by
 have hz' : Nat.blt 0 j.sz = true := Nat.ble_eq_true_of_le hz
 have hs : b0h h i j y = Option.some ys := by simp [-bind_some, b0h, hi, hy]
 unfold a0C
 simp only [ht, hi, he, hz', hs]
 cases ys with
 | nil => exact ⟨_, _, rfl, Nat.le_refl _, fun _ _ => rfl, .inl ⟨rfl, rfl⟩⟩
 | cons y1 yr =>
  simp only [d5r, Nat.zero_add, hl, and_self, if_true, List.nil_append, true_and]
  exact ⟨_, _, rfl, by simp [-bind_some, a0F], fun q hq => by simp only [a0F]; rw [d5y hq], .inr (.inr ⟨h.length, Nat.le_refl _, rfl, by simp [-bind_some, a0F]⟩)⟩
def inr (n : Int) : List D := [.int .i64 n]
theorem b9Z {l : List (Str × Str)} (h : (l.map (·.1)).Sublist lt98_9) : Asc l := by
 have hp : lt98_9.Pairwise fun a b => Op.bytesLess a b = true ∧ a ≠ b := by decide
 have := hp.sublist h
 rw [List.pairwise_iff_getElem] at this
 intro i p q h1 h2
 obtain ⟨g1, h1⟩ := d5p.1 h1
 obtain ⟨g2, h2⟩ := d5p.1 h2
 have := this i (i + 1) (by simpa using g1) (by simpa using g2) (by omega)
 simpa [-bind_some, h1, h2] using this
theorem c4W {l : List (Str × Str)} (h : (l.map (·.1)).Sublist lt98_9) : ∀ p ∈ l, a1w p.1 = true ∧ p.1.length ≤ 1000 := by
 intro p hp
 have hm : p.1 ∈ lt98_9 := h.subset (d5w.2 ⟨p, hp, rfl⟩)
 exact (show ∀ s ∈ lt98_9, a1w s = true ∧ s.length ≤ 1000 by decide) _ hm
theorem b7a (g : Hp) (T z : Nat) (rows : List (List D)) : (a0F g T z rows)[g.length]? = some (.row T z rows) := by simp [-bind_some, a0F]
theorem b7c (g : Hp) (T z : Nat) (rows : List (List D)) {q : Nat} (hq : q < g.length) : (a0F g T z rows)[q]? = g[q]? := by
 simp only [a0F]; rw [d5y hq]
theorem b7b (g : Hp) (T z : Nat) (rows : List (List D)) : (a0F g T z rows).length = g.length + 1 := by simp [-bind_some, a0F]
theorem c2j (n lo hi : Int) (h : Hp) : R a8j [.int .i64 n, .int .i64 lo, .int .i64 hi] h = some (.bool (decide (lo ≤ n) && decide (n ≤ hi)), h) := by
 rw [c7U]
 by_cases h1 : lo ≤ n <;> simp [-bind_some, c3u, h1]
def plB (e : Ev) : Bool := (decide (0 ≤ e.a0) && decide (e.a0 ≤ 999)) && ((decide (0 ≤ e.a1) && decide (e.a1 ≤ 2147483646)) && (decide (0 ≤ e.a2) && (decide (e.a2 < e.a3) && decide (e.a3 ≤ 60000))))
theorem c6b (e : Ev) (h : Hp) : R b3a [.agg (evr e)] h = some (.bool (plB e), h) := by
 rw [c7Q]
 have k2 := c2j e.a1 0 2147483646 h
 simp only [c3q, bs, a1b, evr, a4W, a4X, a4f, a2d, ld3, c2j e.a0, a2U, a0v, a1E, plB]
 generalize (decide (0 ≤ e.a0) && decide (e.a0 ≤ 999)) = b1
 generalize (decide (0 ≤ e.a1) && decide (e.a1 ≤ 2147483646)) = b2 at k2 ⊢
 generalize h3 : decide (0 ≤ e.a2) = b3
 generalize h4 : decide (e.a2 < e.a3) = b4
 generalize h5 : decide (e.a3 ≤ 60000) = b5
 cases b1 <;> cases b2 <;> cases b3 <;> cases b4 <;> cases b5 <;> simp [-bind_some, k2, h3, h4, h5]
def lnE (to_ most : Int) : Int → List Lin → Int
 | _, [] => 0
 | at_, l :: r => if l.off = at_ ∧ ¬ l.len < 1 ∧ ¬ IntKind.wrap .i64 (to_ - at_) < l.len ∧ ¬ (r = [] ∧ l.len < IntKind.wrap .i64 (to_ - at_)) then (if most < l.txt.length then 3 else lnE to_ most (IntKind.wrap .i64 (at_ + l.len)) r) else 19
def a2g (e : Ev) (most : Int) : Int := if e.ls.length = 0 then 9 else if 40 < e.ls.length then 4 else lnE e.a3 most e.a2 e.ls
theorem c6c (e : Ev) (m : Int) (h : Hp) : R b3b [.agg (evr e), .int .i64 m] h = some (.int .i64 (a2g e m), h) := by
 apply Wp.val
 have sc : ∀ (g : Hp) (v : Int), h.length ≤ g.length → (∀ q, q < h.length → g[q]? = h[q]?) → scope h g (.int .i64 v) = some (.int .i64 v, h) := fun g v h1 h2 => a1i (by simp) (.int _ _) h1 h2
 rw [c7R]
 simp only [c3r, a1b, bs, d4X, evr, a5I, a4f, a8p, ld3, a2G e.hld, a0R, a0v, a0g]
 by_cases g0 : e.ls.length = 0
 ·have g0' : (e.ls.length : Int) = 0 := by omega
  simp only [g0', decide_true, a0d, if_true, sc h _ (Nat.le_refl _) (fun _ _ => rfl)]
  exact .some (by simp [-bind_some, a2g, g0])
 by_cases g4 : 40 < e.ls.length
 ·have g0' : ¬ (e.ls.length : Int) = 0 := by omega
  have g4' : (40 : Int) < (e.ls.length : Int) := by omega
  simp only [g0', g4', decide_true, decide_false, d4Y, if_false, a0d, if_true, sc h _ (Nat.le_refl _) (fun _ _ => rfl)]
  exact .some (by simp [-bind_some, a2g, g0, g4])
 have g0' : ¬ (e.ls.length : Int) = 0 := by omega
 have g4' : ¬ (40 : Int) < (e.ls.length : Int) := by omega
 have hE : a2g e m = lnE e.a3 m e.a2 e.ls := by simp [-bind_some, a2g, g0, g4]
 rw [hE]
 generalize hV : lnE e.a3 m e.a2 e.ls = V
 simp only [g0', g4', decide_true, decide_false, d4Y, if_false, a0d, if_true]
 refine Wp.loop (fun k ds g => h.length ≤ g.length ∧ (∀ q, q < h.length → g[q]? = h[q]?) ∧ ∃ a b c d f u v, ∃ at_ : Int, ∃ i : Nat, ds = [a, .int .i64 at_, b, c, d, .int .i64 i, f, u, v] ∧ k + i = e.ls.length ∧ lnE e.a3 m at_ (e.ls.drop i) = V)
   (fun x => h.length ≤ x.2.2.length ∧ (∀ q, q < h.length → x.2.2[q]? = h[q]?) ∧ ((x.1 = .ext 1 ∧ V = 0) ∨ (x.1 = .ret ∧ nth 0 x.2.1 = .int .i64 V))) e.ls.length ⟨Nat.le_refl _, fun _ _ => rfl, _, _, _, _, _, _, _, _, 0, rfl, rfl, hV⟩ ?_ ?_
 ·rintro k ds g ⟨hgl, hgb, a, b, c, d, f, u, v, at_, i, rfl, hk, hch⟩
  simp only [b2i, a0f, a0n, bs, d4X, a5I, a2d, a8p, ld3, a2G e.hld, a0j]
  refine Wp.dif ?_ ?_
  ·intro h0
   have h0 : i < e.ls.length := dl_ h0
   have hg : e.ls[i]? = some e.ls[i] := d5o h0
   have hw := wi_ i (by omega)
   have hw4 : IntKind.wrap .i64 ((e.ls.length : Int) - 1) = (e.ls.length : Int) - 1 := wrap_i64 (by omega) (by omega)
   have hlast : (e.ls.drop (i + 1) = []) ↔ (i : Int) = (e.ls.length : Int) - 1 := by
    rw [List.drop_eq_nil_iff]; omega
   rw [List.drop_eq_getElem_cons h0] at hch
   generalize e.ls[i] = x at hg hch
   generalize hrest : e.ls.drop (i + 1) = rest at hch hlast
   simp only [a9u e.hld, Int.natCast_nonneg, if_true, d5h, hg, Option.map_some, bs, a9x]
   generalize hg2 : a0F g a1A 3 [[.int .i64 0, .int .i64 0, .str []]] = g2
   have p1 : g2[g.length]? = some (.row a1A 3 [[.int .i64 0, .int .i64 0, .str []]]) := by rw [← hg2]; exact b7a _ _ _ _
   have hb2 : ∀ q, q < g.length → g2[q]? = g[q]? := fun q hq => by rw [← hg2]; exact b7c _ _ _ _ hq
   have hl2 : g2.length = g.length + 1 := by rw [← hg2]; exact b7b _ _ _ _
   clear hg2
   refine d2j p1 (by rfl) (by rfl) (by simp) (by rfl) fun g3 p3 sg => ?_
   replace p3 : g3[g.length]? = some (.row a1A 3 [a1p x]) := p3
   have hgl3 : h.length ≤ g3.length := by have := sg.1; omega
   have hgb3 : ∀ q, q < h.length → g3[q]? = h[q]? := fun q hq => ((sg.2 q (by omega)).trans (hb2 q (by omega))).trans (hgb q hq)
   clear p1 hb2 hl2 sg hgb
   have r3 : g3.row g.length 0 = some [.int .i64 x.off, .int .i64 x.len, .str x.txt] := a0V p3
   simp only [bs, a3b, a3c, a2M, Nat.zero_add, b0L, b1G, r3, List.drop_succ_cons, List.drop_zero, List.head?_cons, a0B, hw4, a0R, a0t, a4x, a0v, a0j]
   unfold lnE at hch
   by_cases q1 : x.off = at_
   ·by_cases q2 : x.len < 1
    ·rw [if_neg (fun hh => hh.2.1 q2)] at hch
     simp only [q1, q2, ne_eq, not_true, decide_false, decide_true, a0r, if_true, if_false, d4Y, reduceCtorEq, bs, a0e, a0d, a2d, ld3, a3b, a3c, a2M, Nat.zero_add, b0L, b1G, r3, List.drop_succ_cons, List.drop_zero, List.head?_cons, a0B, hw4, a0R, a0t, a4x, a0v, a0j]
     exact .some (.inr ⟨by simp, hgl3, hgb3, .inr ⟨rfl, by simp [-bind_some, hch]⟩⟩)
    ·by_cases q3 : IntKind.wrap .i64 (e.a3 - at_) < x.len
     ·rw [if_neg (fun hh => hh.2.2.1 q3)] at hch
      simp only [q1, q2, q3, ne_eq, not_true, decide_false, decide_true, a0r, if_true, if_false, d4Y, reduceCtorEq, bs, a0e, a0d, a2d, ld3, a3b, a3c, a2M, Nat.zero_add, b0L, b1G, r3, List.drop_succ_cons, List.drop_zero, List.head?_cons, a0B, hw4, a0R, a0t, a4x, a0v, a0j]
      exact .some (.inr ⟨by simp, hgl3, hgb3, .inr ⟨rfl, by simp [-bind_some, hch]⟩⟩)
     ·by_cases hi : (i : Int) = (e.ls.length : Int) - 1
      ·have hid : decide ((i : Int) = (e.ls.length : Int) - 1) = true := by simpa using hi
       by_cases q4 : x.len < IntKind.wrap .i64 (e.a3 - at_)
       ·rw [if_neg (fun hh => hh.2.2.2 ⟨hlast.2 hi, q4⟩)] at hch
        simp only [q1, q2, q3, hid, ne_eq, not_true, not_false_eq_true, decide_false, decide_true, a0r, a1f, if_true, if_false, d4Y, reduceCtorEq, bs, a0e, a0d, a2d, ld3, a3b, a3c, a2M, Nat.zero_add, b0L, b1G, r3, List.drop_succ_cons, List.drop_zero, List.head?_cons, a0B, hw4, a0R, a0t, a4x, a0v, a0j, q4]
        exact .some (.inr ⟨by simp, hgl3, hgb3, .inr ⟨rfl, by simp [-bind_some, hch]⟩⟩)
       ·rw [if_pos ⟨q1, q2, q3, fun hh => q4 hh.2⟩] at hch
        by_cases q5 : m < (x.txt.length : Int)
        ·rw [if_pos q5] at hch
         simp only [q1, q2, q3, hid, ne_eq, not_true, not_false_eq_true, decide_false, decide_true, a0r, a1f, if_true, if_false, d4Y, reduceCtorEq, bs, a0e, a0d, a2d, ld3, a3b, a3c, a2M, Nat.zero_add, b0L, b1G, r3, List.drop_succ_cons, List.drop_zero, List.head?_cons, a0B, hw4, a0R, a0t, a4x, a0v, a0j, q4, q5]
         exact .some (.inr ⟨by simp, hgl3, hgb3, .inr ⟨rfl, by simp [-bind_some, hch]⟩⟩)
        ·rw [if_neg q5] at hch
         simp only [q1, q2, q3, hid, ne_eq, not_true, not_false_eq_true, decide_false, decide_true, a0r, a1f, if_true, if_false, d4Y, reduceCtorEq, bs, a0e, a0d, a2d, ld3, a3b, a3c, a2M, Nat.zero_add, b0L, b1G, r3, List.drop_succ_cons, List.drop_zero, List.head?_cons, a0B, hw4, a0R, a0t, a4x, a0v, a0j, q4, q5, a0u, hw]
         exact .some (.inl ⟨rfl, k - 1, by omega, hgl3, hgb3, _, _, _, _, _, _, _, _, i + 1, rfl, by omega, by rw [hrest]; exact hch⟩)
      ·rw [if_pos ⟨q1, q2, q3, fun hh => hi (hlast.1 hh.1)⟩] at hch
       have q4 : True := trivial
       by_cases q5 : m < (x.txt.length : Int)
       ·rw [if_pos q5] at hch
        simp only [q1, q2, q3, hi, ne_eq, not_true, not_false_eq_true, decide_false, decide_true, a0r, a1f, if_true, if_false, d4Y, reduceCtorEq, bs, a0e, a0d, a2d, ld3, a3b, a3c, a2M, Nat.zero_add, b0L, b1G, r3, List.drop_succ_cons, List.drop_zero, List.head?_cons, a0B, hw4, a0R, a0t, a4x, a0v, a0j, q4, q5]
        exact .some (.inr ⟨by simp, hgl3, hgb3, .inr ⟨rfl, by simp [-bind_some, hch]⟩⟩)
       ·rw [if_neg q5] at hch
        simp only [q1, q2, q3, hi, ne_eq, not_true, not_false_eq_true, decide_false, decide_true, a0r, a1f, if_true, if_false, d4Y, reduceCtorEq, bs, a0e, a0d, a2d, ld3, a3b, a3c, a2M, Nat.zero_add, b0L, b1G, r3, List.drop_succ_cons, List.drop_zero, List.head?_cons, a0B, hw4, a0R, a0t, a4x, a0v, a0j, q4, q5, a0u, hw]
        exact .some (.inl ⟨rfl, k - 1, by omega, hgl3, hgb3, _, _, _, _, _, _, _, _, i + 1, rfl, by omega, by rw [hrest]; exact hch⟩)
   ·rw [if_neg (fun hh => q1 hh.1)] at hch
    simp only [q1, ne_eq, not_false_eq_true, decide_false, decide_true, a0r, if_true, if_false, d4Y, reduceCtorEq, bs, a0e, a0d, a2d, ld3, a3b, a3c, a2M, Nat.zero_add, b0L, b1G, r3, List.drop_succ_cons, List.drop_zero, List.head?_cons, a0B, hw4, a0R, a0t, a4x, a0v, a0j]
    exact .some (.inr ⟨by simp, hgl3, hgb3, .inr ⟨rfl, by simp [-bind_some, hch]⟩⟩)
  ·intro h0
   have h0 : ¬ i < e.ls.length := by
    have : ¬ (i : Int) < e.ls.length := by simpa using h0
    omega
   rw [List.drop_of_length_le (by omega)] at hch
   exact .some (.inr ⟨by simp, hgl, hgb, .inl ⟨rfl, hch.symm⟩⟩)
 ·rintro ⟨ex, ds, g⟩ ⟨h1, h2, hc⟩
  simp only at h1 h2 hc
  rcases hc with ⟨rfl, rfl⟩ | ⟨rfl, hc⟩
  ·simp only [a0l, a0o, bs, a0g, sc g 0 h1 h2]
   exact .some rfl
  ·simp only [a1J, a1I, a1H, a0f, bs, hc, a0g, sc g V h1 h2]
   exact .some rfl
def dn {α : Type} (c : α → α → Int) (a : Nat) : Nat → List α → List α
 | 0, l => l
 | j + 1, l => match l[j + 1]?, l[j]? with
  | some x, some y => if a < j + 1 ∧ c x y < 0 then dn c a j ((l.set (j + 1) y).set j x) else l
  | _, _ => l
theorem b5r {α : Type} (c : α → α → Int) (a : Nat) : ∀ (j : Nat) (l : List α), (dn c a j l).length = l.length
 | 0, l => rfl
 | j + 1, l => by
  unfold dn
  split
  ·split
   ·rw [b5r c a j]; simp [-bind_some]
   ·rfl
  ·rfl
def isr {α : Type} (c : α → α → Int) (a : Nat) : Nat → Nat → List α → List α
 | _, 0, l => l
 | i, n + 1, l => isr c a (i + 1) n (dn c a i l)
theorem b6s {α : Type} (c : α → α → Int) (a : Nat) : ∀ (n i : Nat) (l : List α), (isr c a i n l).length = l.length
 | 0, i, l => rfl
 | n + 1, i, l => by
  unfold isr
  rw [b6s c a n, b5r]
theorem a7G {α : Type} (f : α → List D) (l : List α) (i : Nat) (x : α) : (l.map f).set i (f x) = (l.set i x).map f := by rw [List.map_set]
theorem c1V {h : Hp} {q k T z : Nat} {rows : List (List D)} {p : Str × Str} (hq : h[q]? = some (.row T z rows)) (hk : rows[k]? = some (fld p)) : a0c tab h a0w (.ptr q k 0) = some (.agg (fld p)) := by
 rw [b3u, a0V hq, hk]
 rfl
theorem d0U (c : Str × Str → Str × Str → Int) (cmp : D) (hc : ∀ x y g, a4m R cmp [.agg (fld x), .agg (fld y)] g = some (.int .i64 (c x y), g)) (ob N a : Nat) (hN : N ≤ 1000000000) {β : Type} {K : Out → Option β} {Q : β → Prop}
  (l : List (Str × Str)) (hl : l.length = N) (j : Nat) (hj : j < N) (h : Hp) (ho : h[ob]? = some (.row a0w 2 (l.map fld))) (b : D)
  (k : ∀ x y h', h'[ob]? = some (.row a0w 2 ((dn c a j l).map fld)) → Same ob h h' → Wp (K (.ext 2, [x, y], h')) Q) :
  Wp ((a0I (a8L (.msl 2 ob 0 N) (.int .i64 a) cmp) [.int .i64 j, b] h).bind K) Q := by
 generalize hV : dn c a j l = V at k
 refine Wp.loop (fun n ds g => ∃ b, ∃ j : Nat, ∃ l' : List (Str × Str), n = j ∧ ds = [.int .i64 j, b] ∧ l'.length = N ∧ j < N ∧ g[ob]? = some (.row a0w 2 (l'.map fld)) ∧ Same ob h g ∧ dn c a j l' = V)
  (fun r => r.1 = .ext 2 ∧ (∃ x y, r.2.1 = [x, y]) ∧ r.2.2[ob]? = some (.row a0w 2 (V.map fld)) ∧ Same ob h r.2.2) j ⟨b, j, l, rfl, rfl, hl, hj, ho, .refl _ _, hV⟩ ?_ ?_
 ·clear ho hl hj hV l j
  rintro n ds g ⟨b, j, l, rfl, rfl, hl, hj, ho, sm, hV⟩
  simp only [a8L, a0f, a0n, bs, d4X, a0v]
  cases n with
  | zero =>
   have hq : ¬ (a : Int) < ((0 : Nat) : Int) := by omega
   have hV : l = V := hV
   subst hV
   simp only [hq, decide_false, a0r, a0W, d4Y, if_false, reduceCtorEq, bs, a0e, a0d]
   exact .some (.inr ⟨by simp, rfl, ⟨_, _, rfl⟩, ho, sm⟩)
  | succ j =>
   have g1 : l[j + 1]? = some l[j + 1] := d5o (by omega)
   have g0 : l[j]? = some l[j] := d5o (by omega)
   unfold dn at hV
   rw [g1, g0] at hV
   simp only at hV
   generalize l[j + 1] = x at g1 hV
   generalize l[j] = y at g0 hV
   by_cases ha : a < j + 1
   ·have ha' : (a : Int) < ((j + 1 : Nat) : Int) := by omega
    have hw : IntKind.wrap .i64 (((j + 1 : Nat) : Int) - 1) = (j : Int) := by
     rw [wrap_i64 (by omega) (by omega)]; omega
    have i1 : (0 : Int) ≤ ((j + 1 : Nat) : Int) ∧ ((j + 1 : Nat) : Int) < (N : Int) := by omega
    have i0 : (0 : Int) ≤ (j : Int) ∧ (j : Int) < (N : Int) := by omega
    have m1 : (l.map fld)[j + 1]? = some (fld x) := by rw [d5l, g1]; rfl
    have m0 : (l.map fld)[j]? = some (fld y) := by rw [d5l, g0]; rfl
    simp only [ha', decide_true, a0r, a0W, if_true, a7R, i1, i0, and_self, Nat.zero_add, d5h, a0B, hw, bs, c1V ho m1, c1V ho m0, hc, a0j, a0e]
    by_cases hlt : c x y < 0
    ·rw [if_pos ⟨ha, hlt⟩] at hV
     simp only [hlt, decide_true, a0d, if_true]
     refine a5a ho m1 (by rfl) (by simp [-bind_some, fld]) (by rfl) fun g2 p2 s2 => ?_
     rw [show spl (fld x) 0 (a0z (.agg (fld y))) = fld y from id rfl, a7G] at p2
     have m2 : ((l.set (j + 1) y).map fld)[j]? = some (fld y) := by
      rw [d5l, d5z (by omega), g0]; rfl
     try simp only [bs, i0, and_self, if_true, Nat.zero_add, d5h]
     refine a5a p2 m2 (by rfl) (by simp [-bind_some, fld]) (by rfl) fun g3 p3 s3 => ?_
     rw [show spl (fld y) 0 (a0z (.agg (fld x))) = fld x from id rfl, a7G] at p3
     try simp only [bs]
     exact .some (.inl ⟨rfl, j, by omega, _, j, _, rfl, rfl, by simpa using hl, by omega, p3, (sm.trans s2).trans s3, hV⟩)
    ·rw [if_neg (fun hh => hlt hh.2)] at hV
     subst hV
     simp only [hlt, decide_false, a0d, d4Y, if_false]
     exact .some (.inr ⟨by simp, rfl, ⟨_, _, rfl⟩, ho, sm⟩)
   ·rw [if_neg (fun hh => ha hh.1)] at hV
    subst hV
    have ha' : ¬ (a : Int) < ((j + 1 : Nat) : Int) := by omega
    simp only [ha', decide_false, a0r, a0W, d4Y, if_false, reduceCtorEq, bs, a0e, a0d]
    exact .some (.inr ⟨by simp, rfl, ⟨_, _, rfl⟩, ho, sm⟩)
 ·rintro ⟨x, ds, g⟩ ⟨rfl, ⟨u, v, rfl⟩, h1, h2⟩
  exact k u v g h1 h2
theorem d1u (c : Str × Str → Str × Str → Int) (cmp : D) (hc : ∀ x y g, a4m R cmp [.agg (fld x), .agg (fld y)] g = some (.int .i64 (c x y), g)) (ob N a b : Nat) (hN : N ≤ 1000000000) (hab : a < b ∨ (a = b ∧ b ≤ N)) (hb : b ≤ N)
  (l : List (Str × Str)) (hl : l.length = N) (h : Hp) (ho : h[ob]? = some (.row a0w 2 (l.map fld))) :
  ∃ d h', R a7u [.msl 2 ob 0 N, .int .i64 a, .int .i64 b, cmp] h = some (d, h') ∧ h'[ob]? = some (.row a0w 2 ((isr c a (a + 1) (b - (a + 1)) l).map fld)) ∧ Same ob h h' := by
 suffices Wp (R a7u [.msl 2 ob 0 N, .int .i64 a, .int .i64 b, cmp] h) (fun p => p.2[ob]? = some (.row a0w 2 ((isr c a (a + 1) (b - (a + 1)) l).map fld)) ∧ Same ob h p.2) by
  obtain ⟨⟨x, h'⟩, h1, h2⟩ := this
  exact ⟨x, h', h1, h2⟩
 rw [c4M]
 have hw := wi_ a (by omega)
 simp only [c0Z, bs, d4X, a0u, hw]
 generalize hV : isr c a (a + 1) (b - (a + 1)) l = V
 refine Wp.loop (fun n ds g => ∃ u v w, ∃ i : Nat, ∃ l' : List (Str × Str), ds = [.int .i64 i, u, v, w] ∧ n = b - i ∧ l'.length = N ∧ g[ob]? = some (.row a0w 2 (l'.map fld)) ∧ Same ob h g ∧ isr c a i (b - i) l' = V)
  (fun r => r.1 = .ext 0 ∧ r.2.2[ob]? = some (.row a0w 2 (V.map fld)) ∧ Same ob h r.2.2) (b - (a + 1)) ⟨_, _, _, a + 1, l, rfl, rfl, hl, ho, .refl _ _, hV⟩ ?_ ?_
 ·rintro n ds g ⟨u, v, w, i, l', rfl, rfl, hl', ho', sm, hV⟩
  simp only [a8K, a0f, a0n, bs, d4X, a0j]
  refine Wp.dif ?_ ?_
  ·intro h0
   have h0 : i < b := by
    have : (i : Int) < (b : Int) := by simpa using h0
    omega
   have hb1 : b - i = (b - (i + 1)) + 1 := by omega
   rw [hb1] at hV
   unfold isr at hV
   have hw2 := wi_ i (by omega)
   refine d0U c cmp hc ob N a hN l' hl' i (by omega) g ho' _ fun x y g2 p2 s2 => ?_
   simp only [a0l, a1t, a0o, bs, a0f, a0u, hw2]
   exact .some (.inl ⟨rfl, b - (i + 1), by omega, _, _, _, i + 1, _, rfl, rfl, by rw [b5r]; exact hl', p2, sm.trans s2, hV⟩)
  ·intro h0
   have h0 : ¬ i < b := by
    have : ¬ (i : Int) < (b : Int) := by simpa using h0
    omega
   rw [show b - i = 0 by omega] at hV
   have hV : l' = V := hV
   subst hV
   exact .some (.inr ⟨by simp, rfl, ho', sm⟩)
 ·rintro ⟨x, ds, g⟩ ⟨rfl, h1, h2⟩
  simp only [a0l, a2E, bs]
  exact .some ⟨h1, h2⟩
theorem b1n : ∀ (a b : Str), Lib.compareBytes a b < 0 ↔ Op.bytesLess a b = true
 | [], [] => by simp [-bind_some, Lib.compareBytes, Op.bytesLess]
 | [], _ :: _ => by simp [-bind_some, Lib.compareBytes, Op.bytesLess]
 | _ :: _, [] => by simp [-bind_some, Lib.compareBytes, Op.bytesLess]
 | x :: a, y :: b => by
  have ih := b1n a b
  simp only [Lib.compareBytes, Op.bytesLess]
  by_cases h1 : x < y
  ·simp [-bind_some, h1]
  ·by_cases h2 : y < x
   ·have h3 : ¬ x = y := fun hh => by subst hh; exact h1 h2
    simp [-bind_some, h1, h2, h3]
   ·have h3 : x = y := by
      apply UInt8.toNat_inj.1
      have := mt UInt8.lt_iff_toNat_lt.2 h1
      have := mt UInt8.lt_iff_toNat_lt.2 h2
      omega
    subst h3
    simp [-bind_some, h1, ih]
def cF (x y : Str × Str) : Int := Lib.compareBytes x.1 y.1
theorem d1r (a b : Str) (h : Hp) : R b5T [.str a, .str b] h = some (.int .i64 (Lib.compareBytes a b), h) := by
 rw [c8b]
 simp only [c3z, bs, c8f, c3D, d4R, a0g]
theorem d1q (x y : Str × Str) (h : Hp) : R a7t [.agg (fld x), .agg (fld y)] h = some (.int .i64 (cF x y), h) := by
 rw [c8a]
 simp only [c3y, bs, a1b, a8g, a8h, d1r, a0g, cF]
theorem c7j (x y : Str × Str) (h : Hp) : a4m R (.fn (.func a7t) [] []) [.agg (fld x), .agg (fld y)] h = some (.int .i64 (cF x y), h) := by
 rw [a6g]; exact d1q x y h
theorem ixA (cs : List D) (i : Int) (h0 : 0 ≤ i) (h1 : i < 256) (hl : i.toNat < cs.length) : a0b tab b3T (.fptr cs) (.int .u8 i) = some (.fptr (cs.drop i.toNat)) := by
 have := c5b (T := tab) (t := b3T) (n := 256) (z := 1) (i := b7Y) (j := ti5) (id rfl) (id rfl) (id rfl) (id rfl) (by omega) (cs := cs) (k := .u8) h0 h1 (by omega)
 rwa [Nat.mul_one] at this
theorem b3t : kinZ.length = 256 := by decide
theorem b1E : kin.length = 256 := by simp [-bind_some, kin, b3t]
theorem c0n (i : Nat) (hi : i < 256) : ∃ z, kin.drop i = .int .u8 z :: kin.drop (i + 1) ∧ kinZ[i]? = some z := by
 have hl := b3t
 have hk := b1E
 refine ⟨kinZ[i]'(by omega), ?_, d5o (by omega)⟩
 rw [List.drop_eq_getElem_cons (by omega)]
 simp [-bind_some, kin]
def b6z (z : Int) : Bool := decide (IntKind.wrap .u8 (BitVec.ofInt IntKind.u8.bits z &&& BitVec.ofInt IntKind.u8.bits 2).toNat ≠ 0)
def c5i (z : Int) : Bool := decide (IntKind.wrap .u8 (BitVec.ofInt IntKind.u8.bits z &&& BitVec.ofInt IntKind.u8.bits 3).toNat ≠ 0)
theorem c5h : ∀ i : Fin 256, (kinZ[i.val]?).map b6z = some (a3D i.val) ∧ (kinZ[i.val]?).map c5i = some (b4f i.val || a3D i.val) := by decide
theorem d1t (c : UInt8) (h : Hp) : R b5V [.int .u8 c.toNat] h = some (.bool (a3D c.toNat), h) := by
 have hc : c.toNat < 256 := c.toNat_lt
 obtain ⟨z, hz, hg⟩ := c0n c.toNat hc
 have hk := (c5h ⟨c.toNat, hc⟩).1
 simp only [hg, Option.map_some, Option.some.injEq] at hk
 have hl := b1E
 rw [c8d]
 simp only [c3B, bs, ixA kin c.toNat (by omega) (by omega) (by rw [hl]; simpa using hc), d5h, hz, ld5, a6Q, a0t, a0g, ← hk, b6z]
theorem c2k (c : UInt8) (h : Hp) : R b5W [.int .u8 c.toNat] h = some (.bool (a9M c.toNat), h) := by
 have hc : c.toNat < 256 := c.toNat_lt
 obtain ⟨z, hz, hg⟩ := c0n c.toNat hc
 have hk := (c5h ⟨c.toNat, hc⟩).2
 simp only [hg, Option.map_some, Option.some.injEq] at hk
 have hl := b1E
 rw [c8e]
 simp only [c5i] at hk
 simp only [c3C, bs, ixA kin c.toNat (by omega) (by omega) (by rw [hl]; simpa using hc), d5h, hz, ld5, a6Q, a0t, a0R, a9M, hk]
 cases hq : (b4f c.toNat || a3D c.toNat) <;> simp [-bind_some]
theorem c5o (s : Str) (h : Hp) (ob : Nat) (hob : h[ob]? = some (.row ty5 1 (a0Y s))) (hl : s.length ≤ 9223372036854775807) {β : Type} (K : Out → Option β) (X : Bool → Option β) (hh : Hp)
   (hX : ∀ r, K (.ret, .bool false :: r, h) = X false) (hY : ∀ r, K (.ext 0, r, h) = X true) : ∀ (suf pre : Str), s = pre ++ suf → ∀ a b e f,
   (a0I (a4N (.msl 1 ob 0 s.length, hh) (.int .i64 s.length)) [a, b, .int .i64 pre.length, e, f] h).bind K = X (suf.all a5i) := by
 intro suf
 induction suf with
 | nil =>
  rintro pre rfl a b e f
  rw [a1F]
  simp [-bind_some, a4N, hY]
 | cons p suf ih =>
  rintro pre rfl a b e f
  have hw : IntKind.wrap .i64 ((pre.length : Int) + 1) = (pre ++ [p]).length := by
   rw [wrap_i64 (by omega) (by simp at hl; omega)]; simp [-bind_some]
  have hlt : (pre.length : Int) < (pre ++ p :: suf).length := by simp; omega
  rw [a1F]
  generalize hL : pre ++ p :: suf = L at *
  have hg : (a0Y L)[pre.length]? = some [.int .u8 p.toNat] := by rw [← hL]; simp [-bind_some, a0Y]
  have hld : a0c tab h ty5 (.ptr ob pre.length 0) = some (.int .u8 p.toNat) := by
   rw [c6W, a0V hob, hg]; rfl
  have h0 : (0 : Int) ≤ (pre.length : Int) ∧ (pre.length : Int) < (L.length : Int) := ⟨by omega, hlt⟩
  cases hp : a9M p.toNat
  ·by_cases h46 : (p.toNat : Int) = 46
   ·have := ih (pre ++ [p]) (by simp [-bind_some, ← hL]) a (.int .u8 p.toNat) (.bool true) (.bool false)
    simp only [← hw] at this
    have h47 : a9M 46 = false := rfl
    have hs := c2k p h
    rw [hp] at hs
    have hpn : a5i p = true := by simp [-bind_some, a5i, hp, h46]
    have hn : decide ((p.toNat : Int) ≠ 46) = false := by simp [-bind_some, h46]
    simp only [a4N, a0f, a0n, bs, a0j, hlt, decide_true, a0d, if_true, b6x, h0, and_self, Nat.zero_add, d5h, hld, hs, a1m, d5j, a0r, a0t, hn, a0e, d4Y, if_false, a0u, List.all_cons, hpn, Bool.true_and]
    exact this
   ·have hs := c2k p h
    rw [hp] at hs
    have hpn : a5i p = false := by simp [-bind_some, a5i, hp, h46]
    have hn : decide ((p.toNat : Int) ≠ 46) = true := by simp [-bind_some, h46]
    simp only [a4N, a0f, a0n, bs, a0j, hlt, decide_true, a0d, if_true, b6x, h0, and_self, Nat.zero_add, d5h, hld, hs, a1m, d5j, a0r, a0t, hn, a0e, List.all_cons, hpn, Bool.false_and, hX]
  ·have := ih (pre ++ [p]) (by simp [-bind_some, ← hL]) a (.int .u8 p.toNat) (.bool true) (.bool false)
   simp only [← hw] at this
   have hs := c2k p h
   rw [hp] at hs
   have hpn : a5i p = true := by simp [-bind_some, a5i, hp]
   simp only [a4N, a0f, a0n, bs, a0j, hlt, decide_true, a0d, if_true, b6x, h0, and_self, Nat.zero_add, d5h, hld, hs, a1m, d5i, a0r, d4Y, if_false, reduceCtorEq, a0e, a0u, List.all_cons, hpn, Bool.true_and]
   exact this
theorem d1p (s : Str) (h : Hp) : R b5S [.str s] h = some (.bool (a1w s), h) := by
 have sc : ∀ (g : Hp) (v : Bool), h.length ≤ g.length → (∀ q, q < h.length → g[q]? = h[q]?) → scope h g (.bool v) = some (.bool v, h) := fun g v h1 h2 => a1i (by simp) (.bool _) h1 h2
 rw [c7Z]
 cases s with
 | nil =>
  simp only [b3X, bs, a2c, beq_self_eq_true, a0r, a0W, reduceCtorEq, if_false, a0e, if_true, a0d, a0g, d4Z, sc h _ (Nat.le_refl _) (fun _ _ => rfl)]
  rfl
 | cons c r =>
  have hne : ((c :: r : Str) == []) = false := by simp
  by_cases h32 : (32 : Int) < ((c :: r).length : Int)
  ·have hf : a1w (c :: r) = false := by
     have : ¬ (c :: r).length ≤ 32 := by omega
     simp [-bind_some, a1w]
     intro hh; simp at this; omega
   simp only [b3X, bs, a2c, hne, a0r, a0W, if_true, a4x, a0v, h32, decide_true, reduceCtorEq, if_false, a0e, a0d, a0g, d4Z, d4Y, a1f, a3T, sc h _ (Nat.le_refl _) (fun _ _ => rfl), hf]
  ·have hle : (c :: r).length ≤ 32 := by omega
   have hi0 := d1I (c :: r) 0 c rfl
   have hi0 : a4e tab ty9 (.str (c :: r)) (.int .i64 0) = some (.int .u8 c.toNat) := hi0
   have hs := d1t c h
   have hwb : c0Q ty5 h (.str (c :: r)) = some (.msl 1 h.length 0 (c :: r).length, a0F h ty5 1 (a0Y (c :: r))) := if_pos (a4j (by omega) (by omega))
   have p1 := b7a h ty5 1 (a0Y (c :: r))
   have hsc : ∀ v, scope h (a0F h ty5 1 (a0Y (c :: r))) (.bool v) = some (.bool v, h) := fun v => sc _ _ (by rw [b7b]; omega) fun q hq => b7c _ _ _ _ hq
   have go : ∀ (b : Bool), (a3D c.toNat || decide ((c.toNat : Int) = 95)) = b → a1w (c :: r) = (b && (c :: r).all a5i) := fun b hb => by
    simp only [a1w, hle, decide_true, Bool.true_and, hb]
   cases hq : a3D c.toNat
   ·rw [hq] at hs
    by_cases h95 : (c.toNat : Int) = 95
    ·have hn95 : decide ((c.toNat : Int) ≠ 95) = false := by simp [-bind_some, h95]
     rw [go true (by simp [-bind_some, hq, h95])]
     simp only [b3X, bs, d4X, a2c, hne, a0r, a0W, if_true, a4x, a0v, h32, decide_false, reduceCtorEq, if_false, a0e, a0d, d4Y, hi0, hs, a1m, d5j, a0t, hn95, hwb, b6E]
     have := c5o (c :: r) (a0F h ty5 1 (a0Y (c :: r))) h.length p1 (by omega) (fun r_1 => (some ((a0L 0 r_1.1), [(nth 0 r_1.2.1), (nth 1 r_1.2.1), (nth 2 r_1.2.1), (nth 3 r_1.2.1), (nth 4 r_1.2.1)], r_1.2.2)).bind fun r_2 => a0Q r_2.1 (scope h r_2.2.2 (.bool true)) fun x => a1a x (scope h r_2.2.2 (a0i [nth 0 r_2.2.1]))) (fun b => some (.bool b, h)) (a0F h ty5 1 (a0Y (c :: r))) (fun r => by simp [-bind_some, hsc]) (fun r => by simp [-bind_some, hsc]) (c :: r) [] rfl (.bool false) .any .any .any
     simpa using this
    ·have hn95 : decide ((c.toNat : Int) ≠ 95) = true := by simp [-bind_some, h95]
     rw [go false (by simp [-bind_some, hq, h95])]
     simp only [b3X, bs, a2c, hne, a0r, a0W, if_true, a4x, a0v, h32, decide_false, reduceCtorEq, if_false, a0e, a0d, d4Y, hi0, hs, a1m, d5j, a0t, hn95, a0g, sc h _ (Nat.le_refl _) (fun _ _ => rfl), Bool.false_and]
   ·rw [hq] at hs
    rw [go true (by simp [-bind_some, hq])]
    simp only [b3X, bs, d4X, a2c, hne, a0r, a0W, if_true, a4x, a0v, h32, decide_false, reduceCtorEq, if_false, a0e, a0d, d4Y, hi0, hs, a1m, d5i, hwb, b6E, a1f]
    have := c5o (c :: r) (a0F h ty5 1 (a0Y (c :: r))) h.length p1 (by omega) (fun r_1 => (some ((a0L 0 r_1.1), [(nth 0 r_1.2.1), (nth 1 r_1.2.1), (nth 2 r_1.2.1), (nth 3 r_1.2.1), (nth 4 r_1.2.1)], r_1.2.2)).bind fun r_2 => a0Q r_2.1 (scope h r_2.2.2 (.bool true)) fun x => a1a x (scope h r_2.2.2 (a0i [nth 0 r_2.2.1]))) (fun b => some (.bool b, h)) (a0F h ty5 1 (a0Y (c :: r))) (fun r => by simp [-bind_some, hsc]) (fun r => by simp [-bind_some, hsc]) (c :: r) [] rfl (.bool false) .any .any .any
    simpa using this
def RdF (h : Hp) (l : List (Str × Str)) (d : D) : Prop := SlOf 2 fld l d ∨ ∃ ob, d = .msl 2 ob 0 l.length ∧ h[ob]? = some (.row a0w 2 (l.map fld))
theorem a9C {h : Hp} {l : List (Str × Str)} {d : D} (hd : RdF h l d) : a0y tab a1c d = some (.int .i64 l.length) := by
 rcases hd with hd | ⟨ob, rfl, _⟩
 ·exact a1W hd
 ·exact c0p _ _ _ _
theorem b0T {h : Hp} {l : List (Str × Str)} {d : D} (hd : RdF h l d) (i : Nat) (p : Str × Str) (hp : l[i]? = some p) : ∃ q, a0b tab a1c d (.int .i64 i) = some q ∧ a0c tab h a0w q = some (.agg (fld p)) ∧
  ∃ q0, a0a tab a0w 0 q = some q0 ∧ a0c tab h ty9 q0 = some (.str p.1) := by
 have hi := (d5p.1 hp).1
 rcases hd with hd | ⟨ob, rfl, ho⟩
 ·exact ⟨.fptr (fld p), by rw [a7S hd]; simp [-bind_some, hp], b0n p h, .fptr (fld p), a8g p, a8h p h⟩
 ·have hr : (l.map fld)[i]? = some (fld p) := by rw [d5l, hp]; rfl
  have hh : (0 : Int) ≤ (i : Int) ∧ (i : Int) < (l.length : Int) := by omega
  refine ⟨.ptr ob i 0, by rw [a7R]; simp [-bind_some, hh], c1V ho hr, .ptr ob i 0, by rw [a5J], ?_⟩
  rw [b1G, a0V ho, hr]; rfl
theorem RdF.keep {h h' : Hp} {l : List (Str × Str)} {d : D} (hd : RdF h l d) (hk : ∀ (q T z : Nat) (rows : List (List D)), h[q]? = some (Ob.row T z rows) → h'[q]? = h[q]?) : RdF h' l d := by
 rcases hd with hd | ⟨ob, rfl, ho⟩
 ·exact .inl hd
 ·exact .inr ⟨ob, rfl, by rw [hk ob _ _ _ ho]; exact ho⟩
theorem d2b (l : List (Str × Str)) (d : D) (h : Hp) (hd : SlOf 2 fld l d) (hl : l.length ≤ 1000000) : ∃ d' h', R b5D [d] h = some (d', h') ∧ h.length ≤ h'.length ∧ (∀ q, q < h.length → h'[q]? = h[q]?) ∧
  ((l = [] ∧ SlOf 2 fld [] d') ∨ ∃ ob, h.length ≤ ob ∧ d' = .msl 2 ob 0 l.length ∧ h'[ob]? = some (.row a0w 2 (l.map fld))) := by
 rw [c7u]
 rcases hd with ⟨rfl, rfl⟩ | ⟨b, rfl⟩
 ·exact ⟨.nils, h, by
    have hne : a0k tab .eql a1c .nils .nils = some (.bool true) := id rfl
    simp [-bind_some, c0S, hne], Nat.le_refl _, fun _ _ => rfl, .inl ⟨rfl, .nils _ _⟩⟩
 ·obtain ⟨x', h', e, hl', hq, ho⟩ := b8v (T := tab) (t := a1c) (i := c7c) (j := ti109) (h := h) (id rfl) (id rfl) (id rfl) (by decide) (y := .sl 2 b (l.map fld)) (a1g _ _ _ _) (a4j (by have : ti109.by_ = 32 := rfl; rw [this, d5d]; omega) (by rw [d5d]; omega))
  have e' : a0C tab h a1c a1c (.sl 2 true []) (.sl 2 b (l.map fld)) = some (x', h') := e
  have hne : a0k tab .eql a1c (.sl 2 b (l.map fld)) .nils = some (.bool false) := id rfl
  refine ⟨x', h', ?_, hl', hq, ?_⟩
  ·simp only [c0S, bs, hne, a0d, d4Y, if_false, c4y, e', a0g]
  ·rcases ho with ⟨rfl, hn⟩ | ⟨rfl, hn⟩ | ⟨ob, h1, rfl, h2⟩
   ·have : l = [] := by simpa using hn
    exact .inl ⟨this, .inr ⟨true, rfl⟩⟩
   ·have : l = [] := by simpa using hn
    exact .inl ⟨this, .nils _ _⟩
   ·exact .inr ⟨ob, h1, by rw [d5d]; rfl, h2⟩
def srt (l : List (Str × Str)) : List (Str × Str) := isr cF 0 1 (l.length - 1) l
theorem b7V (l : List (Str × Str)) : (srt l).length = l.length := b6s _ _ _ _ _
def a8V : List (Str × Str) → Bool
 | x :: y :: r => y.1 == x.1 || a8V (y :: r)
 | _ => false
def a1N (l : List (Str × Str)) : Int × List (Str × Str) := if 32 < l.length then (4, []) else if l.all (fun p => a1w p.1) = true then (if a8V (srt l) = true then (7, []) else (0, srt l)) else (6, [])
theorem c5m (l : List (Str × Str)) (d : D) (h : Hp) (hd : SlOf 2 fld l d) (hl : l.length ≤ 1000) {β : Type} {K : Out → Option β} {Q : β → Prop} (a b c e f : D)
  (k1 : l.all (fun p => a1w p.1) = true → ∀ x y z w, Wp (K (.ext 0, [a, b, x, y, z, w], h)) Q) (k2 : ¬ l.all (fun p => a1w p.1) = true → ∀ x y z w, Wp (K (.ret, [.nils, .int .i64 6, x, y, z, w], h)) Q) :
  Wp ((a0I (a8G d (.int .i64 l.length)) [a, b, c, .int .i64 0, e, f] h).bind K) Q := by
 generalize hV : l.all (fun p => a1w p.1) = V at k1 k2
 refine Wp.loop (fun k ds g => g = h ∧ ∃ c e f, ∃ i : Nat, ds = [a, b, c, .int .i64 i, e, f] ∧ k + i = l.length ∧ (l.drop i).all (fun p => a1w p.1) = V)
   (fun x => x.2.2 = h ∧ ((x.1 = .ext 0 ∧ V = true ∧ ∃ p q r s, x.2.1 = [a, b, p, q, r, s]) ∨ (x.1 = .ret ∧ V = false ∧ ∃ p q r s, x.2.1 = [.nils, .int .i64 6, p, q, r, s]))) l.length ⟨rfl, _, _, _, 0, rfl, rfl, hV⟩ ?_ ?_
 ·rintro k ds g ⟨rfl, c, e, f, i, rfl, hk, hch⟩
  simp only [a8G, a0f, a0n, bs, d4X, a0j]
  refine Wp.dif ?_ ?_
  ·intro h0
   have h0 : i < l.length := dl_ h0
   have hg : l[i]? = some l[i] := d5o h0
   have hw := wi_ i (by omega)
   rw [List.drop_eq_getElem_cons h0] at hch
   generalize l[i] = x at hg hch
   have hbx : a6t 2 (.agg (fld x)) = some (.fptr (fld x)) := a3i 2 _ rfl
   simp only [a7S hd, Int.natCast_nonneg, if_true, d5h, hg, Option.map_some, bs, b0n, hbx, a8g x, a8h, d1p, a1m]
   simp only [List.all_cons] at hch
   cases hf : a1w x.1
   ·rw [hf] at hch
    simp only [d5j, a0d, if_true]
    exact .some (.inr ⟨by simp, rfl, .inr ⟨rfl, hch.symm, _, _, _, _, rfl⟩⟩)
   ·rw [hf] at hch
    simp only [d5i, a0d, d4Y, if_false, a0u, bs, hw]
    exact .some (.inl ⟨rfl, k - 1, by omega, rfl, _, _, _, i + 1, rfl, by omega, hch⟩)
  ·intro h0
   have h0 : l.length ≤ i := by
    have : ¬ (i : Int) < l.length := by simpa using h0
    omega
   rw [List.drop_of_length_le h0] at hch
   exact .some (.inr ⟨by simp, rfl, .inl ⟨rfl, hch.symm, _, _, _, _, rfl⟩⟩)
 ·rintro ⟨x, ds, g⟩ ⟨h2, h3⟩
  simp only at h2 h3
  subst h2
  rcases h3 with ⟨rfl, hv, p, q, r, s, rfl⟩ | ⟨rfl, hv, p, q, r, s, rfl⟩
  ·exact k1 hv _ _ _ _
  ·exact k2 (by rw [hv]; simp [-bind_some]) _ _ _ _
theorem c5n (l : List (Str × Str)) (d : D) (h : Hp) (hd : RdF h l d) (hl : l.length ≤ 1000) {β : Type} {K : Out → Option β} {Q : β → Prop} (a b c e : D)
  (k1 : a8V l = false → ∀ x y z, Wp (K (.ext 2, [a, b, x, y, z], h)) Q) (k2 : a8V l = true → ∀ x y z, Wp (K (.ret, [.nils, .int .i64 7, x, y, z], h)) Q) :
  Wp ((a0I (a8H d) [a, b, .int .i64 1, c, e] h).bind K) Q := by
 generalize hV : a8V l = V at k1 k2
 refine Wp.loop (fun k ds g => g = h ∧ ∃ c e, ∃ i : Nat, ds = [a, b, .int .i64 ((i + 1 : Nat) : Int), c, e] ∧ k = l.length - i ∧ a8V (l.drop i) = V)
   (fun x => x.2.2 = h ∧ ((x.1 = .ext 2 ∧ V = false ∧ ∃ p q r, x.2.1 = [a, b, p, q, r]) ∨ (x.1 = .ret ∧ V = true ∧ ∃ p q r, x.2.1 = [.nils, .int .i64 7, p, q, r]))) l.length ⟨rfl, _, _, 0, rfl, rfl, hV⟩ ?_ ?_
 ·rintro k ds g ⟨rfl, c, e, i, rfl, hk, hch⟩
  simp only [a8H, a0f, a0n, bs, d4X, a9C hd, a0j]
  refine Wp.dif ?_ ?_
  ·intro h0
   have h0 : i + 1 < l.length := by
    have : ((i + 1 : Nat) : Int) < l.length := by simpa using h0
    omega
   have g1 : l[i + 1]? = some l[i + 1] := d5o h0
   have g0 : l[i]? = some l[i] := d5o (by omega)
   have hw : IntKind.wrap .i64 (((i + 1 : Nat) : Int) + 1) = ((i + 1 + 1 : Nat) : Int) := by
    rw [wrap_i64 (by omega) (by omega)]; omega
   have hw2 : IntKind.wrap .i64 (((i + 1 : Nat) : Int) - 1) = (i : Int) := by
    rw [wrap_i64 (by omega) (by omega)]; omega
   rw [List.drop_eq_getElem_cons (show i < l.length by omega), List.drop_eq_getElem_cons h0] at hch
   unfold a8V at hch
   rw [← List.drop_eq_getElem_cons h0] at hch
   generalize l[i + 1] = x at g1 hch
   generalize l[i] = y at g0 hch
   obtain ⟨q1, a1, _, r1, b1, c1⟩ := b0T hd (i + 1) x g1
   obtain ⟨q0, a0, _, r0, b0, c0⟩ := b0T hd i y g0
   simp only [a1, a0, b1, b0, c1, c0, bs, a0B, hw2, a2c]
   cases hf : (x.1 == y.1)
   ·rw [hf] at hch
    simp only [a0d, d4Y, if_false, a0u, bs, hw]
    exact .some (.inl ⟨rfl, l.length - (i + 1), by omega, rfl, _, _, i + 1, rfl, rfl, hch⟩)
   ·rw [hf] at hch
    simp only [a0d, if_true]
    exact .some (.inr ⟨by simp, rfl, .inr ⟨rfl, hch.symm, _, _, _, rfl⟩⟩)
  ·intro h0
   have h0 : l.length ≤ i + 1 := by
    have : ¬ ((i + 1 : Nat) : Int) < l.length := by simpa using h0
    omega
   have hv : V = false := by
    rw [← hch]
    have : (l.drop i).length ≤ 1 := by simp; omega
    match l.drop i, this with
    | [], _ => rfl
    | [x], _ => rfl
   exact .some (.inr ⟨by simp, rfl, .inl ⟨rfl, hv, _, _, _, rfl⟩⟩)
 ·rintro ⟨x, ds, g⟩ ⟨h2, h3⟩
  simp only at h2 h3
  subst h2
  rcases h3 with ⟨rfl, hv, p, q, r, rfl⟩ | ⟨rfl, hv, p, q, r, rfl⟩
  ·exact k1 hv _ _ _
  ·exact k2 hv _ _ _
theorem c6e (d cmp : D) (h : Hp) (hd : SlOf 2 fld [] d) : ∃ x, R b0t [d, cmp] h = some (x, h) := by
 have hl : a0y tab a1c d = some (.int .i64 0) := a1W hd
 have h65 : ∃ x, R a7u [d, .int .i64 0, .int .i64 0, cmp] h = some (x, h) := by
  rw [c4M]
  refine ⟨a0i [], ?_⟩
  simp only [c0Z, bs, d4X, a0u, show IntKind.wrap .i64 ((0 : Int) + 1) = 1 from rfl]
  rw [a1F]
  simp [-bind_some, a8K]
 obtain ⟨x, h65⟩ := h65
 have h63 : ∃ x, R b3c [d, .int .i64 0, cmp] h = some (x, h) := by
  rw [c4L]
  refine ⟨a0i [], ?_⟩
  simp only [c0Y, bs, d4X]
  rw [a1F]
  have h20 : ¬ (20 : Int) ≤ 0 := by omega
  have h21 : ¬ (20 : Int) < 0 := by omega
  simp only [a8I, a0f, a0n, bs, a1E, h20, decide_false, a0d, d4Y, if_false, a0l, a0o, h65]
  rw [a1F]
  simp only [a8J, a0f, a0n, bs, a0j, h21, decide_false, a0d, d4Y, if_false, a0l, a2E]
 obtain ⟨y, h63⟩ := h63
 refine ⟨a0i [], ?_⟩
 rw [c4K]
 simp only [c0X, bs, hl, h63]
theorem d1l (l r : List (Str × Str)) (d e : D) (h : Hp) (hd : RdF h l d) (he : RdF h r e) (hl : l.length ≤ 1000) : R b5Q [d, e] h = some (.bool (decide (l = r)), h) := by
 apply Wp.val
 rw [c7W]
 simp only [c3v, bs, d4X, a9C hd, a9C he, a0t]
 by_cases hlen : (l.length : Int) = (r.length : Int)
 ·have hlen' : l.length = r.length := by omega
  simp only [hlen, ne_eq, not_true, decide_false, a0d, d4Y, if_false]
  generalize hV : decide (l = r) = V
  refine Wp.loop (fun k ds g => g = h ∧ ∃ a b c f, ∃ i : Nat, ds = [a, b, .int .i64 i, c, f] ∧ k + i = r.length ∧ decide (l.drop i = r.drop i) = V)
   (fun x => x.2.2 = h ∧ ((x.1 = .ext 0 ∧ V = true) ∨ (x.1 = .ret ∧ V = false ∧ nth 0 x.2.1 = .bool false))) r.length ⟨rfl, _, _, _, _, 0, rfl, rfl, hV⟩ ?_ ?_
  ·rintro k ds g ⟨rfl, a, b, c, f, i, rfl, hk, hch⟩
   simp only [b2j, a0f, a0n, bs, d4X, a0j]
   refine Wp.dif ?_ ?_
   ·intro h0
    have h0 : i < r.length := dl_ h0
    have gl : l[i]? = some l[i] := d5o (by omega)
    have gr : r[i]? = some r[i] := d5o h0
    have hw := wi_ i (by omega)
    rw [List.drop_eq_getElem_cons (show i < l.length by omega), List.drop_eq_getElem_cons h0] at hch
    generalize l[i] = x at gl hch
    generalize r[i] = y at gr hch
    obtain ⟨q1, a1, b1, _⟩ := b0T hd i x gl
    obtain ⟨q0, a0, b0, _⟩ := b0T he i y gr
    simp only [a1, a0, b1, b0, bs, b5B]
    by_cases hxy : x = y
    ·subst hxy
     simp only [ne_eq, not_true, decide_false, a0d, d4Y, if_false, a0u, bs, hw]
     exact .some (.inl ⟨rfl, k - 1, by omega, rfl, _, _, _, _, i + 1, rfl, by omega, by rw [← hch]; simp [-bind_some]⟩)
    ·have hne : decide (x ≠ y) = true := by simpa using hxy
     simp only [hne, a0d, if_true]
     exact .some (.inr ⟨by simp, rfl, .inr ⟨rfl, by rw [← hch]; simp [-bind_some, hxy], rfl⟩⟩)
   ·intro h0
    have h0 : r.length ≤ i := by
     have : ¬ (i : Int) < r.length := by simpa using h0
     omega
    rw [List.drop_of_length_le h0, List.drop_of_length_le (by omega)] at hch
    exact .some (.inr ⟨by simp, rfl, .inl ⟨rfl, by rw [← hch]; simp [-bind_some]⟩⟩)
  ·rintro ⟨x, ds, g⟩ ⟨h2, h3⟩
   simp only at h2 h3
   subst h2
   rcases h3 with ⟨rfl, hv⟩ | ⟨rfl, hv, hn⟩
   ·simp only [a0l, a0o, bs, a0g, hv]
    exact .some rfl
   ·simp only [a1J, a1I, a1H, a0f, bs, hn, a0g, hv]
    exact .some rfl
 ·have hne : decide ((l.length : Int) ≠ (r.length : Int)) = true := by simpa using hlen
  have hlr : decide (l = r) = false := by
   simp [-bind_some]; intro hh; subst hh; exact hlen rfl
  simp only [hne, a0d, if_true, a0g, hlr]
  exact .some rfl
theorem d0T (l : List (Str × Str)) (d : D) (fn : D) (pr : Str × Str → Bool) (h : Hp) (hd : RdF h l d) (hl : l.length ≤ 9223372036854775807) (hf : ∀ x, a4m R fn [.agg (fld x)] h = some (.bool (pr x), h)) {β : Type} (K : Out → Option β) (X : Int → Option β)
   (hX : ∀ v r, K (.ret, .int .i64 v :: r, h) = X v) (hY : ∀ r, K (.ext 0, r, h) = X (-1)) : ∀ (suf pre : List (Str × Str)), l = pre ++ suf → ∀ a b e f,
   (a0I (a5t d fn (.int .i64 l.length)) [a, b, .int .i64 pre.length, e, f] h).bind K = X (idx pr pre.length suf) := by
 intro suf
 induction suf with
 | nil =>
  rintro pre rfl a b e f
  rw [a1F]
  simp [-bind_some, a5t, hY, idx]
 | cons p suf ih =>
  rintro pre rfl a b e f
  have hw : IntKind.wrap .i64 ((pre.length : Int) + 1) = (pre ++ [p]).length := by
   rw [wrap_i64 (by omega) (by simp at hl; omega)]; simp [-bind_some]
  have hlt : (pre.length : Int) < (pre ++ p :: suf).length := by simp; omega
  rw [a1F]
  generalize hL : pre ++ p :: suf = L at *
  have hg : L[pre.length]? = some p := by rw [← hL]; exact b1B _ _ _
  obtain ⟨q, a1, b1, _⟩ := b0T hd _ _ hg
  by_cases hp : pr p = true
  ·simp [-bind_some, a5t, a1, b1, hlt, hf, hp, hX, idx]
  ·have := ih (pre ++ [p]) (by simp [-bind_some, ← hL]) a (.int .i64 pre.length) (.bool true) (.bool (pr p))
   simp only [← hw] at this
   simp [-bind_some, a5t, a1, b1, hlt, hf, hp, idx]
   simp [-bind_some, hp] at this
   exact this
theorem d1s (l : List (Str × Str)) (d : D) (fn : D) (pr : Str × Str → Bool) (h : Hp) (hd : RdF h l d) (hl : l.length ≤ 9223372036854775807) (hf : ∀ x, a4m R fn [.agg (fld x)] h = some (.bool (pr x), h)) :
   R b5U [d, fn] h = some (.int .i64 (idx pr 0 l), h) := by
 rw [c8c]
 simp only [c3A, bs, a9C hd, d4X]
 rw [show (0 : Int) = (([] : List (Str × Str)).length : Int) from rfl, d0T l d fn pr h hd hl hf _ (fun v => some (.int .i64 v, h)) (fun v r => by simp) (fun r => by simp) l [] rfl]
 rfl
theorem d1o (p : Str × Str) (h : Hp) : R b0s [.agg (fld p)] h = some (.bool (decide (2000 < p.2.length)), h) := by
 rw [c7Y]
 simp [-bind_some, c3x, fld]
 omega
theorem d1m (l : List (Str × Str)) (d : D) (h : Hp) (hd : RdF h l d) (hl : l.length ≤ 9223372036854775807) : R b5R [d, .fn (.func b0s) [] []] h = some (.bool (l.any fun p => decide (2000 < p.2.length)), h) := by
 rw [c7X]
 simp only [c3w, bs, d1s l d (.fn (.func b0s) [] []) (fun p => decide (2000 < p.2.length)) h hd hl (fun x => by rw [a6g]; exact d1o x h), a2U, a0g]
 rw [b1D]
theorem d1k (l : Lin) (h : Hp) : R b0q [.agg (a1p l)] h = some (.bool (!(l.txt == [])), h) := by
 rw [c7T]
 simp [-bind_some, c3t, a1p]
theorem d1j (l : List Lin) (d : D) (h : Hp) (hd : SlOf 3 a1p l d) (hl : l.length ≤ 9223372036854775807) : R b5P [d, .fn (.func b0q) [] []] h = some (.bool (l.any fun p => !(p.txt == [])), h) := by
 rw [c7S]
 simp only [c3s, bs, d1d l d (.fn (.func b0q) [] []) (fun p => !(p.txt == [])) h hd hl (fun x => by rw [a6g]; exact d1k x h), a2U, a0g]
 rw [b1D]
end Go.Proofs.YthaajlepgblimaaGreatDoor
