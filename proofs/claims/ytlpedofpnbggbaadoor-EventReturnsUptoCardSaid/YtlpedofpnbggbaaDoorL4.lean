/- Laws, on plain data, about functions that the statement reaches. -/
import Derived.Test.YtlpedofpnbggbaaDoorL3
set_option linter.unusedSimpArgs false
set_option linter.unusedVariables false
set_option linter.unnecessarySimpa false
set_option maxRecDepth 100000
namespace Go.Proofs.YtlpedofpnbggbaaDoor
open Go.Eng Go.Pi
theorem itr_okv (i : It) : (D.agg (itr i)).okv = true := by
  have h1 := slof_one i.e.hld
  have h2 := slof_one i.e.hfd
  have h3 : (D.agg (itr i)) = .agg [.str i.r, .int .i64 i.e.a0, .int .i64 i.e.a1, .int .i64 i.e.a2, .int .i64 i.e.a3, i.e.ld, .int .i64 i.e.a5, .int .i64 i.e.a6, .str i.e.s7, .str i.e.s8, i.e.fd] := rfl
  rw [h3]
  generalize i.e.ld = a at h1
  generalize i.e.fd = b at h2
  cases a <;> first | (cases b <;> first | rfl | (simp [-Option.bind_some, D.one] at h2)) | (simp [-Option.bind_some, D.one] at h1)
def U8 (z : Int) : Prop := 0 ≤ z ∧ z < 256
theorem U8.u32 {z : Int} (h : U8 z) : U32 z := ⟨h.1, by have := h.2; omega⟩
def num (l : List Int) : Int := l.foldl (fun v b => v * 256 + b) 0
theorem wrap_u8m (n : Int) : IntKind.wrap .u8 n = n % 256 := by
  unfold IntKind.wrap
  simp [-Option.bind_some, IntKind.signed, IntKind.bits, IntKind.min, IntKind.max]
/-- The records that stand first in bytes, and how many bytes they have. -/
def rdN : Nat → List Int → List (List Int) × Nat
  | 0, _ => ([], 0)
  | k + 1, r => if r.length < 8 ∨ (num (r.take 4)).toNat < 1 ∨ 8388608 < (num (r.take 4)).toNat ∨ r.length - 8 < (num (r.take 4)).toNat ∨ num ((r.drop 4).take 4) ≠ crc (r.take 4 ++ (r.drop 8).take (num (r.take 4)).toNat) then ([], 0)
    else ((r.drop 8).take (num (r.take 4)).toNat :: (rdN k (r.drop (8 + (num (r.take 4)).toNat))).1, 8 + (num (r.take 4)).toNat + (rdN k (r.drop (8 + (num (r.take 4)).toNat))).2)
def rd (r : List Int) : List (List Int) × Nat := rdN r.length r
/-- The lowest n bytes of a number, the highest first. -/
def putb : Nat → Int → List Int
  | 0, _ => []
  | n + 1, v => IntKind.wrap .u8 (v.fdiv (2 ^ (8 * n))) :: putb n v
theorem putb_len : ∀ (n : Nat) (v : Int), (putb n v).length = n
  | 0, v => rfl
  | n + 1, v => by simp [-Option.bind_some, putb, putb_len n v]
theorem putb_u8 : ∀ (n : Nat) (v : Int), ∀ z ∈ putb n v, U8 z
  | 0, v, z, hz => by cases hz
  | n + 1, v, z, hz => by
    rcases List.mem_cons.1 hz with rfl | hz
    · rw [wrap_u8m]; unfold U8; omega
    · exact putb_u8 n v z hz
def sby (s : Str) : List Int := s.map fun c => (c.toNat : Int)
theorem sby_len (s : Str) : (sby s).length = s.length := by simp [-Option.bind_some, sby]
theorem sby_u8 (s : Str) : ∀ z ∈ sby s, U8 z := by
  intro z hz
  obtain ⟨c, _, rfl⟩ := List.mem_map.1 hz
  have := c.toNat_lt
  unfold U8
  omega
theorem sby_rows (s : Str) : bytesRows s = (sby s).map byr := by simp [-Option.bind_some, bytesRows, sby, byr, List.map_map, Function.comp_def]
/-- Bytes that grew, and what stayed. -/
structure Bw (n0 : Nat) (h : Hp) (d : D) (h' : Hp) (l : List Int) (d' : D) : Prop where
  ow : Own h' n0 ty5 1 (l.map byr) d'
  len : h.length ≤ h'.length
  old : ∀ q, q < h.length → ¬ d.inOb q → h'[q]? = h[q]?
  new : ∀ q, d'.inOb q → d.inOb q ∨ h.length ≤ q
theorem Bw.trans {n0 : Nat} {h h1 h2 : Hp} {d d1 d2 : D} {l1 l2 : List Int} (a : Bw n0 h d h1 l1 d1) (b : Bw n0 h1 d1 h2 l2 d2) : Bw n0 h d h2 l2 d2 :=
  ⟨b.ow, Nat.le_trans a.len b.len, fun q hq hd => (b.old q (Nat.lt_of_lt_of_le hq a.len) fun hx => by rcases a.new q hx with h1 | h1; exact hd h1; omega).trans (a.old q hq hd),
    fun q hq => by rcases b.new q hq with h1 | h1; exact a.new q h1; exact .inr (Nat.le_trans a.len h1)⟩
theorem Bw.refl {n0 : Nat} {h : Hp} {d : D} {l : List Int} (ow : Own h n0 ty5 1 (l.map byr) d) : Bw n0 h d h l d := ⟨ow, Nat.le_refl _, fun _ _ _ => rfl, fun _ hq => .inl hq⟩
theorem Bw.low {n0 : Nat} {h h' : Hp} {d d' : D} {l l0 : List Int} (b : Bw n0 h d h' l d') (ow : Own h n0 ty5 1 (l0.map byr) d) (hn : n0 ≤ h.length) : ∀ q, q < n0 → h'[q]? = h[q]? := fun q hq => b.old q (by omega) fun hx => by have := (ow.lt hx).1; omega
theorem app_b {n0 : Nat} {h : Hp} {d y : D} {l m : List Int} (hn : n0 ≤ h.length) (ow : Own h n0 ty5 1 (l.map byr) d) (hy : dRowsOf h 1 y = some (m.map byr)) (hl : l.length + m.length ≤ 1000000000) : ∃ d' h', dAppend tab h ty22 ty22 d y = some (d', h') ∧ Bw n0 h d h' (l ++ m) d' := by
  have key := @wap22 h n0 hn (l.map byr) d y ow _ hy (by simp [-Option.bind_some]; omega) _ (fun r => some r) (fun r => Bw n0 h d r.2 (l ++ m) r.1) (fun x' h' a b _ c e => .some ⟨by rw [List.map_append]; exact a, b, c, e⟩)
  obtain ⟨⟨x', g⟩, e1, B⟩ := key
  refine ⟨x', g, ?_, B⟩
  cases hq : dAppend tab h ty22 ty22 d y with
  | none => rw [hq] at e1; cases e1
  | some r => rw [hq] at e1; exact e1
theorem aps22 (h : Hp) (x : D) (s : Str) : dAppend tab h ty22 ty9 x (.str s) = dAppend tab h ty22 ty22 x (.sl 1 true (bytesRows s)) := id rfl
theorem app_s {n0 : Nat} {h : Hp} {d : D} {l : List Int} (hn : n0 ≤ h.length) (ow : Own h n0 ty5 1 (l.map byr) d) (s : Str) (hl : l.length + s.length ≤ 1000000000) : ∃ d' h', dAppend tab h ty22 ty9 d (.str s) = some (d', h') ∧ Bw n0 h d h' (l ++ sby s) d' := by
  rw [aps22, sby_rows]
  exact app_b hn ow (rowsOf_sl _ _ _ _) (by rw [sby_len]; exact hl)
def pI (n : Int) : List Int := putb 8 (IntKind.wrap .u64 n)
def pN (n : Nat) : List Int := putb 4 (IntKind.wrap .u64 n)
def pS (s : Str) : List Int := pN s.length ++ sby s
theorem pI_len (n : Int) : (pI n).length = 8 := putb_len _ _
theorem pN_len (n : Nat) : (pN n).length = 4 := putb_len _ _
theorem pS_len (s : Str) : (pS s).length = 4 + s.length := by simp [-Option.bind_some, pS, pN_len, sby_len]
def lnB (l : Lin) : List Int := pI l.off ++ pI l.len ++ pS l.txt
def fdB (f : Str × Str) : List Int := pS f.1 ++ pS f.2
def bodyA (i : It) : List Int := pS i.r ++ pI i.e.a0 ++ pI i.e.a1 ++ pI i.e.a2 ++ pI i.e.a3 ++ pN i.e.ls.length
def bodyB (i : It) : List Int := bodyA i ++ (i.e.ls.map lnB).flatten ++ pI i.e.a5 ++ pI i.e.a6 ++ pS i.e.s7 ++ pS i.e.s8 ++ pN i.e.fs.length
def bodyI (i : It) : List Int := bodyB i ++ (i.e.fs.map fdB).flatten
theorem lF0 (l : Lin) : dFieldAddr tab ty78 0 (.fptr (linr l)) = some (.fptr (linr l)) := id rfl
theorem lF1 (l : Lin) : dFieldAddr tab ty78 1 (.fptr (linr l)) = some (.fptr [.int .i64 l.len, .str l.txt]) := id rfl
theorem lF2 (l : Lin) : dFieldAddr tab ty78 2 (.fptr (linr l)) = some (.fptr [.str l.txt]) := id rfl
theorem lL0 (l : Lin) (g : Hp) : dLoad tab g ty3 (.fptr (linr l)) = some (.int .i64 l.off) := id rfl
theorem fF0 (p : Str × Str) : dFieldAddr tab ty109 0 (.fptr (fld p)) = some (.fptr (fld p)) := id rfl
theorem fF1 (p : Str × Str) : dFieldAddr tab ty109 1 (.fptr (fld p)) = some (.fptr [.str p.2]) := id rfl
theorem fL0 (p : Str × Str) (g : Hp) : dLoad tab g ty9 (.fptr (fld p)) = some (.str p.1) := id rfl
theorem flat_take {α : Type} (f : α → List Int) {l : List α} {n : Nat} {x : α} (h : l[n]? = some x) : ((l.take (n + 1)).map f).flatten = ((l.take n).map f).flatten ++ f x := by
  rw [List.take_add_one, h]; simp [-Option.bind_some]
theorem flat_le {α : Type} (f : α → List Int) (l : List α) (n : Nat) : ((l.take n).map f).flatten.length ≤ (l.map f).flatten.length := by
  conv => rhs; rw [← List.take_append_drop n l, List.map_append, List.flatten_append, List.length_append]
  omega
/-- Bytes that can be read. -/
def RdB (h : Hp) (l : List Int) (d : D) : Prop := SlOf 1 byr l d ∨ ∃ ob, d = .msl 1 ob 0 l.length ∧ h[ob]? = some (Ob.row ty5 1 (l.map byr))
theorem RdB.own {h : Hp} {n0 : Nat} {l : List Int} {d : D} (ow : Own h n0 ty5 1 (l.map byr) d) : RdB h l d := by
  rcases ow with ⟨rfl, hl⟩ | ⟨o, _, rfl, hg⟩
  · exact .inl (.inl ⟨rfl, by simpa [-Option.bind_some] using hl⟩)
  · exact .inr ⟨o, by simp [-Option.bind_some], hg⟩
theorem rdB_len {h : Hp} {l : List Int} {d : D} (hd : RdB h l d) : dLenT tab ty22 d = some (.int .i64 l.length) := by
  rcases hd with hd | ⟨ob, rfl, _⟩
  · exact lens22 hd
  · exact lenm22 _ _ _ _
theorem rdB_ix {h : Hp} {l : List Int} {d : D} (hd : RdB h l d) (i : Nat) (z : Int) (hz : l[i]? = some z) : ∃ q, dIndexAddr tab ty22 d (.int .i64 i) = some q ∧ dLoad tab h ty5 q = some (.int .u8 z) := by
  rcases hd with hd | ⟨ob, rfl, ho⟩
  · exact ⟨.fptr (byr z), by rw [ixs22 hd]; simp [-Option.bind_some, hz], byr_ld z h⟩
  · have hlt := (List.getElem?_eq_some_iff.1 hz).1
    refine ⟨.ptr ob (0 + i) 0, by rw [ixm22]; simp [-Option.bind_some, hlt], ?_⟩
    rw [ldp5, row_of ho, List.getElem?_map]
    simp [-Option.bind_some, hz, byr]
theorem rdB_rows {h : Hp} {l : List Int} {d : D} (hd : RdB h l d) : dRowsOf h 1 d = some (l.map byr) := by
  rcases hd with hd | ⟨ob, rfl, ho⟩
  · rcases hd with ⟨rfl, rfl⟩ | ⟨b, rfl⟩
    · rfl
    · exact rowsOf_sl _ _ _ _
  · simp only [dRowsOf, if_true, ho, List.drop_zero]
    rw [List.take_of_length_le (by simp [-Option.bind_some])]
theorem RdB.keep {h h' : Hp} {l : List Int} {d : D} (hd : RdB h l d) (hk : ∀ (q T z : Nat) (rows : List (List D)), h[q]? = some (Ob.row T z rows) → h'[q]? = h[q]?) : RdB h' l d := by
  rcases hd with hd | ⟨ob, rfl, ho⟩
  · exact .inl hd
  · exact .inr ⟨ob, rfl, by rw [hk _ _ _ _ ho]; exact ho⟩
def chkS (l : List Int) : Int := l.foldl (fun c z => (c * 31 + z) % 4294967291) 1
theorem chkS_take {l : List Int} {n : Nat} {z : Int} (h : l[n]? = some z) : chkS (l.take (n + 1)) = (chkS (l.take n) * 31 + z) % 4294967291 := by
  unfold chkS
  rw [List.take_add_one, h]
  simp [-Option.bind_some]
theorem chkS_range : ∀ (l : List Int), 0 ≤ chkS l ∧ chkS l < 4294967291 := by
  intro l
  unfold chkS
  generalize hc : (1 : Int) = c
  have h0 : 0 ≤ c ∧ c < 4294967291 := by omega
  clear hc
  induction l generalizing c with
  | nil => exact h0
  | cons z r ih =>
    simp only [List.foldl_cons]
    exact ih _ (by omega)
theorem bodyI_u8 (i : It) : ∀ z ∈ bodyI i, U8 z := by
  have hI : ∀ n, ∀ z ∈ pI n, U8 z := fun n => putb_u8 _ _
  have hN : ∀ n, ∀ z ∈ pN n, U8 z := fun n => putb_u8 _ _
  have hS : ∀ s, ∀ z ∈ pS s, U8 z := fun s z hz => by
    rcases List.mem_append.1 hz with h | h
    · exact hN _ z h
    · exact sby_u8 _ z h
  intro z hz
  simp only [bodyI, bodyB, bodyA, List.mem_append, List.mem_flatten, List.mem_map] at hz
  rcases hz with ((((((((((((h | h) | h) | h) | h) | h) | ⟨_, ⟨l, _, rfl⟩, h⟩) | h) | h) | h) | h) | h)) | ⟨_, ⟨l, _, rfl⟩, h⟩
  · exact hS _ z h
  · exact hI _ z h
  · exact hI _ z h
  · exact hI _ z h
  · exact hI _ z h
  · exact hN _ z h
  · simp only [lnB, List.mem_append] at h
    rcases h with (h | h) | h
    · exact hI _ z h
    · exact hI _ z h
    · exact hS _ z h
  · exact hI _ z h
  · exact hI _ z h
  · exact hS _ z h
  · exact hS _ z h
  · exact hN _ z h
  · simp only [fdB, List.mem_append] at h
    rcases h with h | h
    · exact hS _ z h
    · exact hS _ z h
/-- The bytes of an item before its checksum. -/
def encH (i : It) : List Int := putb 4 (IntKind.wrap .u64 (((bodyI i).length : Int) + 4)) ++ bodyI i
def encI (i : It) : List Int := encH i ++ putb 4 (chkS (encH i))
theorem encH_u8 (i : It) : ∀ z ∈ encH i, U8 z := fun z hz => by
  rcases List.mem_append.1 hz with h | h
  · exact putb_u8 _ _ z h
  · exact bodyI_u8 i z h
theorem encI_u8 (i : It) : ∀ z ∈ encI i, U8 z := fun z hz => by
  rcases List.mem_append.1 hz with h | h
  · exact encH_u8 i z h
  · exact putb_u8 _ _ z h
theorem encI_len (i : It) : (encI i).length = (bodyI i).length + 8 := by
  simp only [encI, encH, List.length_append, putb_len]; omega
theorem flat_bound {α : Type} (f : α → List Int) (m : Nat) : ∀ (l : List α), (∀ a ∈ l, (f a).length ≤ m) → (l.map f).flatten.length ≤ l.length * m
  | [], _ => by simp [-Option.bind_some]
  | a :: l, h => by
    have h1 := h a (by simp [-Option.bind_some])
    have h2 := flat_bound f m l fun b hb => h b (by simp [-Option.bind_some, hb])
    simp only [List.map_cons, List.flatten_cons, List.length_append, List.length_cons, Nat.succ_mul]
    omega
theorem or_nat (w x b k : Nat) (hb : b < 2 ^ k) (hx : x * 2 ^ k + b < 2 ^ w) : (BitVec.ofInt w ((x * 2 ^ k : Nat) : Int) ||| BitVec.ofInt w (b : Int)).toNat = x * 2 ^ k + b := by
  rw [BitVec.ofInt_natCast, BitVec.ofInt_natCast, BitVec.toNat_or, BitVec.toNat_ofNat, BitVec.toNat_ofNat, Nat.mod_eq_of_lt (by omega), Nat.mod_eq_of_lt (by omega)]
  rw [← Nat.shiftLeft_eq, ← Nat.shiftLeft_add_eq_or_of_lt hb, Nat.shiftLeft_eq]
theorem wrap_bv64 (x : BitVec IntKind.u64.bits) : IntKind.wrap .u64 (x.toNat : Int) = x.toNat := by
  have := x.isLt
  have h2 : (2 : Nat) ^ IntKind.u64.bits = 18446744073709551616 := by decide
  exact wrap_u64 (by omega) (by omega)
theorem or_u64 {x b : Int} (k : Nat) (h0 : 0 ≤ x) (hb0 : 0 ≤ b) (hb : b < 2 ^ k) (hx : x * 2 ^ k + b < 18446744073709551616) : IntKind.wrap .u64 (BitVec.ofInt IntKind.u64.bits (x * 2 ^ k) ||| BitVec.ofInt IntKind.u64.bits b).toNat = x * 2 ^ k + b := by
  obtain ⟨X, rfl⟩ := Int.eq_ofNat_of_zero_le h0
  obtain ⟨B, rfl⟩ := Int.eq_ofNat_of_zero_le hb0
  have e : ((X : Int) * 2 ^ k) = ((X * 2 ^ k : Nat) : Int) := by push_cast; rfl
  have hB : B < 2 ^ k := by exact_mod_cast hb
  have hX : X * 2 ^ k + B < 2 ^ IntKind.u64.bits := by
    have h2 : (2 : Nat) ^ IntKind.u64.bits = 18446744073709551616 := by decide
    rw [h2]
    rw [e] at hx
    generalize X * 2 ^ k = Y at hx
    omega
  have := or_nat IntKind.u64.bits X B k hB hX
  rw [e, wrap_bv64, this]
  push_cast; rfl
theorem num_take {l : List Int} {n : Nat} {z : Int} (h : l[n]? = some z) : num (l.take (n + 1)) = num (l.take n) * 256 + z := by
  unfold num
  rw [List.take_add_one, h]
  simp [-Option.bind_some]
theorem cut2_by {l : List Int} {d : D} (hd : SlOf 1 byr l d) (a b : Nat) (hab : a ≤ b) (hb : b ≤ l.length) : ∃ d', dSliceAt tab ty22 true true false [d, .int .i64 a, .int .i64 b] = some d' ∧ SlOf 1 byr ((l.take b).drop a) d' := by
  have t1 : tab ty22 = some ti22 := id rfl
  have t2 : ti22.td = .sl ty5 := id rfl
  have t3 : tab ty5 = some ti5 := id rfl
  have t4 : ti5.sz = 1 := id rfl
  simp only [dSliceAt, dInt?, bs, dSlice3, t1, t2, t3]
  rcases hd with ⟨rfl, rfl⟩ | ⟨f, rfl⟩
  · have : b = 0 := by simpa [-Option.bind_some] using hb
    subst this
    have : a = 0 := by omega
    subst this
    exact ⟨_, rfl, .inl ⟨rfl, rfl⟩⟩
  · have h1 : (a : Int) ≤ b := by omega
    have h2 : (b : Int) ≤ l.length := by omega
    simp [-Option.bind_some, t4, h1, h2, hb, hab]
    exact .inr ⟨_, by rw [List.map_drop, List.map_take]⟩
theorem nil_ob (q : Nat) : ¬ D.inOb .nils q := fun hh => by obtain ⟨z, n, hh⟩ := hh; cases hh
theorem own_live {h : Hp} {n0 e z : Nat} {rows : List (List D)} {d : D} (ow : Own h n0 e z rows d) {q : Nat} (hq : d.inOb q) : h[q]? = some (.row e z rows) := by
  obtain ⟨z', n, rfl⟩ := hq
  rcases ow with ⟨hd, _⟩ | ⟨o, ho, hd, hg⟩
  · cases hd
  · injection hd with _ h2
    subst h2
    exact hg
theorem own_apart {h : Hp} {n n' e e' z z' : Nat} {rows rows' : List (List D)} {d d' : D} (a : Own h n e z rows d) (b : Own h n' e' z' rows' d') (hne : e ≠ e') {q : Nat} (hq : d.inOb q) : ¬ d'.inOb q := fun hx => by
  have h1 := own_live a hq
  have h2 := own_live b hx
  rw [h1] at h2
  injection h2 with h2
  injection h2 with h3
  exact hne h3
theorem l1134 (v : Int) (n0 : Nat) : ∀ (k : Nat), k ≤ 8 → ∀ (h : Hp) (l : List Int) (d a : D), n0 ≤ h.length → Own h n0 ty5 1 (l.map byr) d → l.length + k ≤ 1000000000 → ∃ d' h' b, loopW (F1134_L0 (.int .u64 v)) [d, .int .i64 (8 * ((k : Int) - 1)), a] h = some (.ext 0, [d', b, .bool false], h') ∧ Bw n0 h d h' (l ++ putb k v) d' := by
  intro k
  induction k with
  | zero =>
    intro _ h l d a hn ow hr
    rw [loopW_eq]
    refine ⟨d, h, _, by simp [-Option.bind_some, F1134_L0]; rfl, ?_⟩
    simpa [-Option.bind_some, putb] using Bw.refl ow
  | succ k ih =>
    intro hk h l d a hn ow hr
    have hg : (0 : Int) ≤ 8 * (((k + 1 : Nat) : Int) - 1) := by omega
    have hw1 : 8 * (((k + 1 : Nat) : Int) - 1) = 8 * (k : Int) := by omega
    have hw2 : IntKind.wrap .i64 (8 * (k : Int) - 8) = 8 * ((k : Int) - 1) := by rw [wrap_i64 (by omega) (by omega)]; omega
    have h8 : ¬ (8 * (k : Int)) < 0 := by omega
    have hmn : min (8 * (k : Int)).toNat IntKind.u64.bits = 8 * k := by
      have : IntKind.u64.bits = 64 := rfl
      rw [this]; omega
    obtain ⟨x', g, e1, B1⟩ := app_b (y := .sl 1 true [byr (IntKind.wrap .u8 (v.fdiv (2 ^ (8 * k))))]) (m := [IntKind.wrap .u8 (v.fdiv (2 ^ (8 * k)))]) hn ow (rowsOf_sl _ _ _ _) (by simp [-Option.bind_some]; omega)
    obtain ⟨d', h', b, e2, B2⟩ := ih (by omega) g _ x' (.bool true) (Nat.le_trans hn B1.len) B1.ow (by simp [-Option.bind_some]; omega)
    refine ⟨d', h', b, ?_, ?_⟩
    · rw [loopW_eq]
      rw [hw1] at hg ⊢
      simp only [F1134_L0, nth_zero, nth_succ, bs, dBin_geq, decide_eq_true hg, dIf_bool, if_true, dBin_shr, h8, if_false, hmn, cv1029_5, bs22_1, show ∀ z, ([[D.int .u8 z]] : List (List D)) = [byr z] from fun _ => rfl, e1, dBin_sub, hw2]
      exact e2
    · have := B1.trans B2
      simpa [-Option.bind_some, putb] using this
theorem s1134 (v : Int) (k : Nat) (hk : k ≤ 8) (n0 : Nat) (h : Hp) (l : List Int) (d : D) (hn : n0 ≤ h.length) (ow : Own h n0 ty5 1 (l.map byr) d) (hr : l.length ≤ 999999000) : ∃ d' h', R fn1134 [d, .int .u64 v, .int .i64 k] h = some (d', h') ∧ Bw n0 h d h' (l ++ putb k v) d' := by
  obtain ⟨d', h', b, e1, B⟩ := l1134 v n0 k hk h l d .any hn ow (by omega)
  refine ⟨d', h', ?_, B⟩
  rw [e1134]
  have hw : IntKind.wrap .i64 ((k : Int) - 1) = (k : Int) - 1 := by rw [wrap_i64 (by omega) (by omega)]
  have hw2 : IntKind.wrap .i64 (8 * ((k : Int) - 1)) = 8 * ((k : Int) - 1) := by rw [wrap_i64 (by omega) (by omega)]
  simp only [F1134, bs, dBin_sub, hw, dBin_mul, hw2, Option.bind_assoc, e1, unblk_self, toEnd_nrm, nth_zero, mkRes_one]
theorem s1135 (l : List Int) (d : D) (h : Hp) (hd : RdB h l d) (hl : l.length ≤ 9223372036854775806) (hu : ∀ z ∈ l, U8 z) : R fn1135 [d] h = some (.int .u64 (chkS l), h) := by
  suffices Wp (R fn1135 [d] h) (fun p => p = (.int .u64 (chkS l), h)) by
    obtain ⟨p, h1, rfl⟩ := this
    exact h1
  rw [e1135]
  simp only [F1135, bs, Option.bind_assoc, rdB_len hd]
  refine Wp.loop (fun k ds g => g = h ∧ ∃ x y, ∃ n : Nat, ds = [.int .u64 (chkS (l.take n)), x, .int .i64 n, y] ∧ k + n = l.length) (fun r => r.1 = .ext 0 ∧ r.2.2 = h ∧ ∃ a b c, r.2.1 = [.int .u64 (chkS l), a, b, c]) l.length ⟨rfl, _, _, 0, rfl, rfl⟩ ?_ ?_
  · rintro k ds g ⟨rfl, x, y, n, rfl, hk⟩
    simp only [F1135_L0, nth_zero, nth_succ, bs, Option.bind_assoc, dBin_lss]
    refine Wp.dif ?_ ?_
    · intro h0
      have h0 : n < l.length := by have : (n : Int) < l.length := by simpa [-Option.bind_some] using h0
                                   omega
      obtain ⟨z, hz⟩ : ∃ z, l[n]? = some z := ⟨_, List.getElem?_eq_getElem h0⟩
      have hzu := hu z (List.mem_of_getElem? hz)
      obtain ⟨q, q1, q2⟩ := rdB_ix hd n z hz
      have hr := chkS_range (l.take n)
      have hw : IntKind.wrap .i64 ((n : Int) + 1) = ((n + 1 : Nat) : Int) := by
        rw [wrap_i64 (by omega) (by omega)]; omega
      unfold U8 at hzu
      have w1 : IntKind.wrap .u64 (chkS (l.take n) * 31) = chkS (l.take n) * 31 := wrap_u64 (by omega) (by omega)
      have w2 : IntKind.wrap .u64 z = z := wrap_u64 (by omega) (by omega)
      have w3 : IntKind.wrap .u64 (chkS (l.take n) * 31 + z) = chkS (l.take n) * 31 + z := wrap_u64 (by omega) (by omega)
      have w4 : (chkS (l.take n) * 31 + z).tmod 4294967291 = chkS (l.take (n + 1)) := by
        rw [chkS_take hz, Int.tmod_eq_emod_of_nonneg (by omega)]
      simp only [dBin_mul, w1, q1, q2, cv5_1029, w2, dBin_add, w3, bs, dBin_rem, show ¬ ((4294967291 : Int) = 0) by omega, if_false, w4, hw]
      exact .some (.inl ⟨rfl, k - 1, by omega, rfl, _, _, n + 1, rfl, by omega⟩)
    · intro h0
      have h0 : n = l.length := by have : ¬ (n : Int) < l.length := by simpa [-Option.bind_some] using h0
                                   omega
      subst h0
      rw [List.take_length]
      exact .some (.inr ⟨by simp [-Option.bind_some], rfl, rfl, _, _, _, rfl⟩)
  · rintro ⟨ex, ds, g⟩ ⟨rfl, q2, a, b, c, rfl⟩
    simp only at q2
    subst q2
    simp only [unblk_self, toEnd_nrm, bs, nth_zero, mkRes_one]
    exact .some rfl
/-- What a writer's visit keeps: the item, the bytes written. -/
structure WrS (n0 oi ow : Nat) (h0 : Hp) (it : List D) (g : Hp) (l : List Int) : Prop where
  hi : g[oi]? = some (.row ty74 11 [it])
  hw : ∃ d, g[ow]? = some (.row ty1101 1 [[d]]) ∧ Own g n0 ty5 1 (l.map byr) d
  lo : ∀ q, q < n0 → g[q]? = h0[q]?
  ln : n0 ≤ g.length
theorem ldw {g : Hp} {ow : Nat} {d : D} (h : g[ow]? = some (.row ty1101 1 [[d]])) : dLoad tab g ty22 (.ptr ow 0 (0 + 0)) = some d := by rw [ldp22, row_of h]; rfl
theorem WrS.put {n0 oi ow : Nat} {h0 : Hp} {it : List D} {g g' : Hp} {l l' : List Int} {d d' : D} (s : WrS n0 oi ow h0 it g l) (hn : n0 ≤ ow) (hw : g[ow]? = some (.row ty1101 1 [[d]])) (hb : Own g n0 ty5 1 (l.map byr) d) (B : Bw n0 g d g' l' d') {β : Type} {f : Hp → Option β} {Q : β → Prop}
    (k : ∀ g2, WrS n0 oi ow h0 it g2 l' → Wp (f g2) Q) : Wp ((dStore tab g' ty22 (.ptr ow 0 (0 + 0)) d').bind f) Q := by
  have hnd : ∀ {q T z : Nat} {rows : List (List D)}, g[q]? = some (.row T z rows) → T ≠ ty5 → ¬ d.inOb q := fun hq hT hx => by
    have := own_live hb hx
    rw [hq] at this
    injection this with this
    injection this with h1
    exact hT h1
  have keep : ∀ {q T z : Nat} {rows : List (List D)}, g[q]? = some (.row T z rows) → T ≠ ty5 → g'[q]? = some (.row T z rows) := fun hq hT => by
    rw [B.old _ (List.getElem?_eq_some_iff.1 hq).1 (hnd hq hT)]; exact hq
  have hw' := keep hw (by decide)
  have hi' := keep s.hi (by decide)
  refine wst22 hw' (by rfl) (by rcases B.ow with ⟨rfl, _⟩ | ⟨o, _, rfl, _⟩ <;> rfl) (by simp [-Option.bind_some]) (by rcases B.ow with ⟨rfl, _⟩ | ⟨o, _, rfl, _⟩ <;> rfl) fun g2 h2 s2 => ?_
  have hne : oi ≠ ow := fun hh => by
    subst hh
    rw [s.hi] at hw
    injection hw with hw
    injection hw with h1
    exact absurd h1 (by decide)
  have hc : cells1 d' = [d'] := by rcases B.ow with ⟨rfl, _⟩ | ⟨o, _, rfl, _⟩ <;> rfl
  have h2 : g2[ow]? = some (.row ty1101 1 [[d']]) := by rw [h2, hc]; rfl
  refine k g2 ⟨by rw [s2.2 oi hne]; exact hi', ⟨d', h2, B.ow.keep fun q _ hx => s2.2 q fun hh => ?_⟩, fun q hq => ?_, ?_⟩
  · subst hh
    have := own_live B.ow hx
    rw [hw'] at this
    injection this with this
    injection this with h1
    exact absurd h1 (by decide)
  · rw [s2.2 q (by omega), B.old q (by have := s.ln; omega) (fun hx => by have := (hb.lt hx).1; omega)]
    exact s.lo q hq
  · have := s2.1; have := B.len; have := s.ln; omega
theorem w1150 {n0 oi ow : Nat} {h0 : Hp} {it : List D} {g : Hp} {l : List Int} (s : WrS n0 oi ow h0 it g l) (hn : n0 ≤ ow) (hl : l.length ≤ 999999000) (t : D) (n : Int) (ht : dNilCheck tab t = some t) (hld : dLoad tab g ty3 t = some (.int .i64 n)) {β : Type} {f : D × Hp → Option β} {Q : β → Prop}
    (k : ∀ g2, WrS n0 oi ow h0 it g2 (l ++ pI n) → Wp (f (mkRes [], g2)) Q) : Wp ((R fn1150 [.ptr ow 0 0, t] g).bind f) Q := by
  obtain ⟨d, hw, hb⟩ := s.hw
  obtain ⟨d', g1, e1, B⟩ := s1134 (IntKind.wrap .u64 n) 8 (by omega) n0 g l d s.ln hb hl
  have e1 : R fn1134 [d, .int .u64 (IntKind.wrap .u64 n), .int .i64 8] g = some (d', g1) := e1
  rw [e1150]
  simp only [F1150, bs, nilCheck_ptr, fap1101_0, ldw hw, ht, hld, cv3_1029, e1, Option.bind_assoc]
  refine s.put hn hw hb B fun g2 s2 => ?_
  try simp only [bs]
  exact k g2 s2
theorem w1149 {n0 oi ow : Nat} {h0 : Hp} {it : List D} {g : Hp} {l : List Int} (s : WrS n0 oi ow h0 it g l) (hn : n0 ≤ ow) (hl : l.length ≤ 999999000) (n : Nat) {β : Type} {f : D × Hp → Option β} {Q : β → Prop}
    (k : ∀ g2, WrS n0 oi ow h0 it g2 (l ++ pN n) → Wp (f (.int .i64 n, g2)) Q) : Wp ((R fn1149 [.ptr ow 0 0, .int .i64 n] g).bind f) Q := by
  obtain ⟨d, hw, hb⟩ := s.hw
  obtain ⟨d', g1, e1, B⟩ := s1134 (IntKind.wrap .u64 n) 4 (by omega) n0 g l d s.ln hb hl
  have e1 : R fn1134 [d, .int .u64 (IntKind.wrap .u64 n), .int .i64 4] g = some (d', g1) := e1
  rw [e1149]
  simp only [F1149, bs, nilCheck_ptr, fap1101_0, ldw hw, cv3_1029, e1, Option.bind_assoc]
  refine s.put hn hw hb B fun g2 s2 => ?_
  simp only [bs, mkRes_one]
  exact k g2 s2
theorem w1151 {n0 oi ow : Nat} {h0 : Hp} {it : List D} {g : Hp} {l : List Int} (s : WrS n0 oi ow h0 it g l) (hn : n0 ≤ ow) (u : Str) (hl : l.length + u.length ≤ 999998000) (t : D) (ht : dNilCheck tab t = some t) (hld : ∀ g' : Hp, g'[oi]? = some (.row ty74 11 [it]) → dLoad tab g' ty9 t = some (.str u)) {β : Type} {f : D × Hp → Option β} {Q : β → Prop}
    (k : ∀ g2, WrS n0 oi ow h0 it g2 (l ++ pS u) → Wp (f (mkRes [], g2)) Q) : Wp ((R fn1151 [.ptr ow 0 0, t] g).bind f) Q := by
  obtain ⟨d, hw, hb⟩ := s.hw
  obtain ⟨d1, g1, e1, B1⟩ := s1134 (IntKind.wrap .u64 u.length) 4 (by omega) n0 g l d s.ln hb (by omega)
  have e1 : R fn1134 [d, .int .u64 (IntKind.wrap .u64 u.length), .int .i64 4] g = some (d1, g1) := e1
  obtain ⟨d2, g2, e2, B2⟩ := app_s (Nat.le_trans s.ln B1.len) B1.ow u (by simp only [List.length_append, putb_len]; omega)
  have hi1 : g1[oi]? = some (.row ty74 11 [it]) := by
    rw [B1.old oi (List.getElem?_eq_some_iff.1 s.hi).1 (fun hx => by
      have := own_live hb hx
      rw [s.hi] at this
      injection this with this
      injection this with h1
      exact absurd h1 (by decide))]
    exact s.hi
  have B := B1.trans B2
  have hpS : l ++ putb 4 (IntKind.wrap .u64 u.length) ++ sby u = l ++ pS u := by simp [-Option.bind_some, pS, pN]
  rw [hpS] at B
  rw [e1151]
  simp only [F1151, bs, nilCheck_ptr, fap1101_0, ldw hw, ht, hld g s.hi, len9, cv3_1029, e1, hld g1 hi1, e2, Option.bind_assoc]
  refine s.put hn hw hb B fun g2 s2 => ?_
  simp only [bs, chk_true]
  exact k g2 s2
theorem nmN (d : D) : dNilCheck tab (.fn (.method "logtide/event.number") [.iface ty1099 d] []) = some (.fn (.method "logtide/event.number") [.iface ty1099 d] []) := by kernel_rfl
theorem nmT (d : D) : dNilCheck tab (.fn (.method "logtide/event.text") [.iface ty1099 d] []) = some (.fn (.method "logtide/event.text") [.iface ty1099 d] []) := by kernel_rfl
theorem nmC (d : D) : dNilCheck tab (.fn (.method "logtide/event.count") [.iface ty1099 d] []) = some (.fn (.method "logtide/event.count") [.iface ty1099 d] []) := by kernel_rfl
theorem nilCheck_fp (cs : List D) : dNilCheck tab (.fptr cs) = some (.fptr cs) := id rfl
theorem itA {g : Hp} {oi : Nat} {i : It} (h : g[oi]? = some (.row ty74 11 [itr i])) : dLoad tab g ty9 (.ptr oi 0 (0 + 0)) = some (.str i.r) ∧ dLoad tab g ty3 (.ptr oi 0 (0 + 1 + 0)) = some (.int .i64 i.e.a0) ∧ dLoad tab g ty3 (.ptr oi 0 (0 + 1 + 1)) = some (.int .i64 i.e.a1) ∧
    dLoad tab g ty3 (.ptr oi 0 (0 + 1 + 2)) = some (.int .i64 i.e.a2) ∧ dLoad tab g ty3 (.ptr oi 0 (0 + 1 + 3)) = some (.int .i64 i.e.a3) ∧ dLoad tab g ty28 (.ptr oi 0 (0 + 1 + 4)) = some i.e.ld ∧ dLoad tab g ty3 (.ptr oi 0 (0 + 1 + 5)) = some (.int .i64 i.e.a5) ∧
    dLoad tab g ty3 (.ptr oi 0 (0 + 1 + 6)) = some (.int .i64 i.e.a6) ∧ dLoad tab g ty9 (.ptr oi 0 (0 + 1 + 7)) = some (.str i.e.s7) ∧ dLoad tab g ty9 (.ptr oi 0 (0 + 1 + 8)) = some (.str i.e.s8) ∧ dLoad tab g ty29 (.ptr oi 0 (0 + 1 + 9)) = some i.e.fd := by
  refine ⟨?_, ?_, ?_, ?_, ?_, ?_, ?_, ?_, ?_, ?_, ?_⟩
  · rw [ldp9, row_of h]; rfl
  · rw [ldp3, row_of h]; rfl
  · rw [ldp3, row_of h]; rfl
  · rw [ldp3, row_of h]; rfl
  · rw [ldp3, row_of h]; rfl
  · rw [ldp28, row_of h]; rfl
  · rw [ldp3, row_of h]; rfl
  · rw [ldp3, row_of h]; rfl
  · rw [ldp9, row_of h]; rfl
  · rw [ldp9, row_of h]; rfl
  · rw [ldp29, row_of h]; rfl
def pl4 (oi : Nat) : List (List D) := [[.ptr oi 0 (0 + 1 + 0)], [.ptr oi 0 (0 + 1 + 1)], [.ptr oi 0 (0 + 1 + 2)], [.ptr oi 0 (0 + 1 + 3)]]
def four4 (i : It) : List Int := [i.e.a0, i.e.a1, i.e.a2, i.e.a3]
theorem four_ld {g : Hp} {oi : Nat} {i : It} (h : g[oi]? = some (.row ty74 11 [itr i])) (n : Nat) (hn : n < 4) : ∃ t a, dIndexAddr tab ty1133 (.sl 1 true (pl4 oi)) (.int .i64 n) = some (.fptr [t]) ∧ dNilCheck tab t = some t ∧ dLoad tab g ty3 t = some (.int .i64 a) ∧ (four4 i)[n]? = some a := by
  obtain ⟨_, h0, h1, h2, h3, _⟩ := itA h
  have : n = 0 ∨ n = 1 ∨ n = 2 ∨ n = 3 := by omega
  rcases this with rfl | rfl | rfl | rfl
  · exact ⟨_, _, by rw [ix1133]; rfl, nilCheck_ptr _ _ _ _, h0, rfl⟩
  · exact ⟨_, _, by rw [ix1133]; rfl, nilCheck_ptr _ _ _ _, h1, rfl⟩
  · exact ⟨_, _, by rw [ix1133]; rfl, nilCheck_ptr _ _ _ _, h2, rfl⟩
  · exact ⟨_, _, by rw [ix1133]; rfl, nilCheck_ptr _ _ _ _, h3, rfl⟩
theorem w1133 (i : It) {n0 oi ow : Nat} {h0 g : Hp} {l : List Int} (s : WrS n0 oi ow h0 (itr i) g l) (hn : n0 ≤ ow) (hl : l.length + (bodyI i).length ≤ 900000000) {β : Type} {f : D × Hp → Option β} {Q : β → Prop}
    (k : ∀ g2, WrS n0 oi ow h0 (itr i) g2 (l ++ bodyI i) → Wp (f (mkRes [], g2)) Q) : Wp ((R fn1133 [.iface ty1099 (.ptr ow 0 0), .ptr oi 0 0] g).bind f) Q := by
  have hbb := hl
  simp only [bodyI, bodyB, bodyA, List.length_append, pI_len, pN_len, pS_len] at hbb
  have hll := i.e.hll
  have hlf := i.e.hl
  rw [e1133]
  simp only [F1133, bs, Option.bind_assoc, nilCheck_ptr, fap74_0, fap74_1, nmT, nmN, nmC, inv1099_text, inv1099_number, inv1099_count, fap31_0, fap31_1, fap31_2, fap31_3]
  refine w1151 s hn i.r (by omega) _ (nilCheck_ptr _ _ _ _) (fun g' h => (itA h).1) fun g1 s1 => ?_
  simp only [bs, bs1133_4 (.ptr oi 0 (0 + 1 + 0)) (.ptr oi 0 (0 + 1 + 1)) (.ptr oi 0 (0 + 1 + 2)) (.ptr oi 0 (0 + 1 + 3)) rfl rfl rfl rfl, show ([[.ptr oi 0 (0 + 1 + 0)], [.ptr oi 0 (0 + 1 + 1)], [.ptr oi 0 (0 + 1 + 2)], [.ptr oi 0 (0 + 1 + 3)]] : List (List D)) = pl4 oi from rfl, len1133, show (pl4 oi).length = 4 from rfl]
  refine Wp.loop (fun kk ds g' => ∃ a b, ∃ n : Nat, ds = [a, .int .i64 n, b] ∧ kk + n = 4 ∧ WrS n0 oi ow h0 (itr i) g' (l ++ pS i.r ++ (((four4 i).take n).map pI).flatten))
    (fun r => r.1 = .ext 0 ∧ (∃ a b c, r.2.1 = [a, b, c]) ∧ WrS n0 oi ow h0 (itr i) r.2.2 (l ++ pS i.r ++ ((four4 i).map pI).flatten)) 4 ⟨_, _, 0, rfl, rfl, by simpa [-Option.bind_some] using s1⟩ ?_ ?_
  · rintro kk ds g' ⟨a, b, n, rfl, hk, s'⟩
    simp only [F1133_L0, nth_zero, nth_succ, bs, Option.bind_assoc, dBin_lss]
    refine Wp.dif ?_ ?_
    · intro h1
      have h1 : n < 4 := by have : (n : Int) < ((4 : Nat) : Int) := by simpa [-Option.bind_some] using h1
                            omega
      obtain ⟨t, v, q1, q2, q3, q4⟩ := four_ld s'.hi n h1
      have hw : IntKind.wrap .i64 ((n : Int) + 1) = ((n + 1 : Nat) : Int) := by
        rw [wrap_i64 (by omega) (by omega)]; omega
      have hle := flat_le pI (four4 i) n
      have hl32 : ((four4 i).map pI).flatten.length = 32 := by simp only [four4, List.map_cons, List.map_nil, List.flatten_cons, List.flatten_nil, List.length_append, pI_len, List.length_nil]
      simp only [q1, ld1132, bs, inv1099_number]
      refine w1150 s' hn (by simp only [List.length_append, pS_len]; omega) t v q2 q3 fun g2 s2 => ?_
      simp only [bs, dBin_add, hw]
      refine .some (.inl ⟨rfl, kk - 1, by omega, _, _, n + 1, rfl, by omega, ?_⟩)
      rw [flat_take pI q4]
      simpa [-Option.bind_some] using s2
    · intro h1
      have h1 : n = 4 := by have : ¬ (n : Int) < ((4 : Nat) : Int) := by simpa [-Option.bind_some] using h1
                            omega
      subst h1
      exact .some (.inr ⟨by simp [-Option.bind_some], rfl, ⟨_, _, _, rfl⟩, s'⟩)
  rintro ⟨ex, ds, g2⟩ ⟨rfl, ⟨a, b, c, rfl⟩, s2⟩
  have s2 : WrS n0 oi ow h0 (itr i) g2 (l ++ pS i.r ++ ((four4 i).map pI).flatten) := s2
  have h4 : ((four4 i).map pI).flatten = pI i.e.a0 ++ pI i.e.a1 ++ pI i.e.a2 ++ pI i.e.a3 := by simp [-Option.bind_some, four4]
  rw [h4] at s2
  simp only [unblk_self, toEnd_nrm, bs, Option.bind_assoc, nilCheck_ptr, fap31_4, (itA s2.hi).2.2.2.2.2.1, lens28 i.e.hld, nmC, inv1099_count]
  refine w1149 s2 hn (by simp only [List.length_append, pI_len, pS_len]; omega) i.e.ls.length fun g3 s3 => ?_
  have hA : l ++ pS i.r ++ (pI i.e.a0 ++ pI i.e.a1 ++ pI i.e.a2 ++ pI i.e.a3) ++ pN i.e.ls.length = l ++ bodyA i := by simp [-Option.bind_some, bodyA]
  rw [hA] at s3
  have hAl : (bodyA i).length = 4 + i.r.length + 36 := by simp only [bodyA, List.length_append, pS_len, pI_len, pN_len]
  simp only [bs]
  refine Wp.loop (fun kk ds g' => ∃ a b c d, ∃ n : Nat, ds = [a, b, .int .i64 n, c, d] ∧ kk + n = i.e.ls.length ∧ WrS n0 oi ow h0 (itr i) g' (l ++ bodyA i ++ ((i.e.ls.take n).map lnB).flatten))
    (fun r => r.1 = .ext 2 ∧ (∃ a b c d e, r.2.1 = [a, b, c, d, e]) ∧ WrS n0 oi ow h0 (itr i) r.2.2 (l ++ bodyA i ++ (i.e.ls.map lnB).flatten)) i.e.ls.length ⟨_, _, _, _, 0, rfl, rfl, by simpa [-Option.bind_some] using s3⟩ ?_ ?_
  · rintro kk ds g' ⟨a, b, c, d, n, rfl, hk, s'⟩
    simp only [F1133_L1, nth_zero, nth_succ, bs, Option.bind_assoc, dBin_lss]
    refine Wp.dif ?_ ?_
    · intro h1
      have h1 : n < i.e.ls.length := by have : (n : Int) < i.e.ls.length := by simpa [-Option.bind_some] using h1
                                        omega
      obtain ⟨x, hx⟩ : ∃ x, i.e.ls[n]? = some x := ⟨_, List.getElem?_eq_getElem h1⟩
      have hw : IntKind.wrap .i64 ((n : Int) + 1) = ((n + 1 : Nat) : Int) := by
        rw [wrap_i64 (by omega) (by omega)]; omega
      have hix : dIndexAddr tab ty28 i.e.ld (.int .i64 (n : Int)) = some (.fptr (linr x)) := by rw [ixs28 i.e.hld]; simp [-Option.bind_some, hx]
      have hle := flat_le lnB i.e.ls (n + 1)
      rw [flat_take lnB hx, List.length_append] at hle
      have hln : (lnB x).length = 20 + x.txt.length := by simp only [lnB, List.length_append, pI_len, pS_len]; omega
      have hne : ¬ (n : Int) = (i.e.ls.length : Int) := by omega
      simp only [nilCheck_ptr, fap31_4, bs, (itA s'.hi).2.2.2.2.2.1, lens28 i.e.hld, dBin_eql, hne, decide_false, dIf_bool, Bool.false_eq_true, if_false, toEnd_nrm, hix, nilCheck_fp, lF0, lF1, lF2, nmN, nmT, inv1099_number, inv1099_text]
      refine w1150 s' hn (by simp only [List.length_append]; omega) _ x.off (nilCheck_fp _) (lL0 x g') fun g4 s4 => ?_
      simp only [bs]
      refine w1150 s4 hn (by simp only [List.length_append, pI_len]; omega) _ x.len (nilCheck_fp _) (ld3 _ _ _) fun g5 s5 => ?_
      simp only [bs]
      refine w1151 s5 hn x.txt (by simp only [List.length_append, pI_len]; omega) _ (nilCheck_fp _) (fun g' _ => ld9 _ _ _) fun g6 s6 => ?_
      simp only [bs, dBin_add, hw]
      refine .some (.inl ⟨rfl, kk - 1, by omega, _, _, _, _, n + 1, rfl, by omega, ?_⟩)
      rw [flat_take lnB hx]
      simpa [-Option.bind_some, lnB] using s6
    · intro h1
      have h1 : n = i.e.ls.length := by have : ¬ (n : Int) < i.e.ls.length := by simpa [-Option.bind_some] using h1
                                        omega
      subst h1
      rw [List.take_length] at s'
      exact .some (.inr ⟨by simp [-Option.bind_some], rfl, ⟨_, _, _, _, _, rfl⟩, s'⟩)
  rintro ⟨ex, ds, g4⟩ ⟨rfl, ⟨a, b, c, d, e, rfl⟩, s4⟩
  have s4 : WrS n0 oi ow h0 (itr i) g4 (l ++ bodyA i ++ (i.e.ls.map lnB).flatten) := s4
  simp only [unblk_self, toEnd_nrm, bs, Option.bind_assoc, nilCheck_ptr, fap31_5, fap31_6, fap31_7, fap31_8, fap31_9, nmN, nmT, nmC, inv1099_number, inv1099_text, inv1099_count]
  refine w1150 s4 hn (by simp only [List.length_append]; omega) _ i.e.a5 (nilCheck_ptr _ _ _ _) (itA s4.hi).2.2.2.2.2.2.1 fun g5 s5 => ?_
  simp only [bs]
  refine w1150 s5 hn (by simp only [List.length_append, pI_len]; omega) _ i.e.a6 (nilCheck_ptr _ _ _ _) (itA s5.hi).2.2.2.2.2.2.2.1 fun g6 s6 => ?_
  simp only [bs]
  refine w1151 s6 hn i.e.s7 (by simp only [List.length_append, pI_len]; omega) _ (nilCheck_ptr _ _ _ _) (fun g' h => (itA h).2.2.2.2.2.2.2.2.1) fun g7 s7' => ?_
  simp only [bs]
  refine w1151 s7' hn i.e.s8 (by simp only [List.length_append, pI_len, pS_len]; omega) _ (nilCheck_ptr _ _ _ _) (fun g' h => (itA h).2.2.2.2.2.2.2.2.2.1) fun g8 s8' => ?_
  simp only [bs, (itA s8'.hi).2.2.2.2.2.2.2.2.2.2, lens29 i.e.hfd]
  refine w1149 s8' hn (by simp only [List.length_append, pI_len, pS_len]; omega) i.e.fs.length fun g9 s9 => ?_
  have hB : l ++ bodyA i ++ (i.e.ls.map lnB).flatten ++ pI i.e.a5 ++ pI i.e.a6 ++ pS i.e.s7 ++ pS i.e.s8 ++ pN i.e.fs.length = l ++ bodyB i := by simp [-Option.bind_some, bodyB]
  rw [hB] at s9
  have hBl : (bodyB i).length = (bodyA i).length + (i.e.ls.map lnB).flatten.length + 16 + (4 + i.e.s7.length) + (4 + i.e.s8.length) + 4 := by simp only [bodyB, List.length_append, pI_len, pS_len, pN_len]
  simp only [bs]
  refine Wp.loop (fun kk ds g' => ∃ a b c, ∃ n : Nat, ds = [a, .int .i64 n, b, c] ∧ kk + n = i.e.fs.length ∧ WrS n0 oi ow h0 (itr i) g' (l ++ bodyB i ++ ((i.e.fs.take n).map fdB).flatten))
    (fun r => r.1 = .ext 4 ∧ (∃ a b c d, r.2.1 = [a, b, c, d]) ∧ WrS n0 oi ow h0 (itr i) r.2.2 (l ++ bodyI i)) i.e.fs.length ⟨_, _, _, 0, rfl, rfl, by simpa [-Option.bind_some] using s9⟩ ?_ ?_
  · rintro kk ds g' ⟨a, b, c, n, rfl, hk, s'⟩
    simp only [F1133_L2, nth_zero, nth_succ, bs, Option.bind_assoc, dBin_lss]
    refine Wp.dif ?_ ?_
    · intro h1
      have h1 : n < i.e.fs.length := by have : (n : Int) < i.e.fs.length := by simpa [-Option.bind_some] using h1
                                        omega
      obtain ⟨x, hx⟩ : ∃ x, i.e.fs[n]? = some x := ⟨_, List.getElem?_eq_getElem h1⟩
      have hw : IntKind.wrap .i64 ((n : Int) + 1) = ((n + 1 : Nat) : Int) := by
        rw [wrap_i64 (by omega) (by omega)]; omega
      have hix : dIndexAddr tab ty29 i.e.fd (.int .i64 (n : Int)) = some (.fptr (fld x)) := by rw [ixs29 i.e.hfd]; simp [-Option.bind_some, hx]
      have hle := flat_le fdB i.e.fs (n + 1)
      rw [flat_take fdB hx, List.length_append] at hle
      have hln : (fdB x).length = 8 + x.1.length + x.2.length := by simp only [fdB, List.length_append, pS_len]; omega
      have hne : ¬ (n : Int) = (i.e.fs.length : Int) := by omega
      simp only [nilCheck_ptr, fap31_9, bs, (itA s'.hi).2.2.2.2.2.2.2.2.2.2, lens29 i.e.hfd, dBin_eql, hne, decide_false, dIf_bool, Bool.false_eq_true, if_false, toEnd_nrm, hix, nilCheck_fp, fF0, nmN, nmT, inv1099_number, inv1099_text]
      refine w1151 s' hn x.1 (by simp only [List.length_append]; omega) _ (nilCheck_fp _) (fun g' _ => fL0 x g') fun g4 s4 => ?_
      simp only [bs, (itA s4.hi).2.2.2.2.2.2.2.2.2.2, hix, fF1]
      refine w1151 s4 hn x.2 (by simp only [List.length_append, pS_len]; omega) _ (nilCheck_fp _) (fun g' _ => ld9 _ _ _) fun g6 s6 => ?_
      simp only [bs, dBin_add, hw]
      refine .some (.inl ⟨rfl, kk - 1, by omega, _, _, _, n + 1, rfl, by omega, ?_⟩)
      rw [flat_take fdB hx]
      simpa [-Option.bind_some, fdB] using s6
    · intro h1
      have h1 : n = i.e.fs.length := by have : ¬ (n : Int) < i.e.fs.length := by simpa [-Option.bind_some] using h1
                                        omega
      subst h1
      rw [List.take_length] at s'
      exact .some (.inr ⟨by simp [-Option.bind_some], rfl, ⟨_, _, _, _, rfl⟩, by simpa [-Option.bind_some, bodyI] using s'⟩)
  rintro ⟨ex, ds, gz⟩ ⟨rfl, ⟨a, b, c, d, rfl⟩, sz⟩
  simp only [unblk_self, exEnd_nrm, bs, Option.bind_assoc]
  exact k gz sz
theorem mk22_4 (g : Hp) : dMake tab g ty22 (.int .i64 4) (.int .i64 4) = some (.msl 1 g.length 0 4, dNew g ty5 1 ([0, 0, 0, 0].map byr)) := by
  have h1 : tab ty22 = some ti22 := id rfl
  have h2 : ti22.td = .sl ty5 := id rfl
  have h3 : tab ty5 = some ti5 := id rfl
  have h4 : ti5.sz = 1 := id rfl
  have h5 : ti5.zero = byr 0 := id rfl
  have h6 : lim 4 ti5.by_ = true := lim_ok (by have : ti5.by_ = 1 := rfl; rw [this]; omega) (by omega)
  have h7 : (4 : Int).toNat = 4 := rfl
  simp only [dMake, h1, h2, h3, h4, h5, h7, h6, show (0 : Int) ≤ 4 ∧ (4 : Int) ≤ 4 ∧ true = true ∧ 0 < 1 from ⟨by omega, by omega, rfl, by omega⟩, if_true]
  rfl
/-- The first bytes written over. -/
theorem cp22 {g : Hp} {o : Nat} {p m r : List Int} {y : D} (ho : g[o]? = some (.row ty5 1 ((p ++ r).map byr))) (hy : dRowsOf g 1 y = some (m.map byr)) (hl : m.length = p.length) : ∃ g', dCopy tab g ty22 ty22 (.msl 1 o 0 (p ++ r).length) y = some (.int .i64 m.length, g') ∧ g'[o]? = some (.row ty5 1 ((m ++ r).map byr)) ∧ Same o g g' := by
  have h1 : tab ty22 = some ti22 := id rfl
  have h2 : ti22.td = .sl ty5 := id rfl
  have h3 : tab ty5 = some ti5 := id rfl
  have h4 : ti5.sz = 1 := id rfl
  have hs : dSrc g ti22 ti5 y = some (m.map byr) := by simp only [dSrc, h2, h4, hy]
  have hn : notInt ti22 = true := rfl
  have hb : Nat.blt 0 1 = true := rfl
  have holt := (List.getElem?_eq_some_iff.1 ho).1
  have hmin : min (m.map byr).length (p ++ r).length = m.length := by simp [-Option.bind_some]; omega
  refine ⟨g.set o (.row ty5 1 (((p ++ r).map byr).take 0 ++ (m.map byr).take (p ++ r).length ++ ((p ++ r).map byr).drop (0 + m.length))), ?a1, ?a2, ?a3⟩
  case a1 => simp only [dCopy, h1, h2, hn, h3, h4, hb, hs, ho, and_self, if_true, hmin]
  case a2 =>
    rw [List.getElem?_set_self holt]
    have e1 : (m.map byr).take (p ++ r).length = m.map byr := List.take_of_length_le (by simp [-Option.bind_some]; omega)
    rw [e1, List.take_zero, List.nil_append, Nat.zero_add, hl, List.map_append, List.drop_left' (by simp [-Option.bind_some]), List.map_append]
  case a3 => exact ⟨by simp [-Option.bind_some], fun q hq => List.getElem?_set_ne (Ne.symm hq)⟩
theorem s1128 (i : It) (c : Int) (h : Hp) (hc : ∀ g, R fn1042 [.agg (itr i)] g = some (.int .i64 c, g)) (hb : (bodyI i).length ≤ 800000000) : ∃ d', R fn1128 [.agg (itr i)] h = some (.tup [d', .int .i64 c], h) ∧ SlOf 1 byr (if c = 0 then encI i else []) d' := by
  suffices Wp (R fn1128 [.agg (itr i)] h) (fun p => p.2 = h ∧ ∃ d', p.1 = .tup [d', .int .i64 c] ∧ SlOf 1 byr (if c = 0 then encI i else []) d') by
    obtain ⟨⟨x, h'⟩, h1, rfl, d', rfl, h2⟩ := this
    exact ⟨d', h1, h2⟩
  have hi0 : (dNew h ty74 11 [itr i])[h.length]? = some (.row ty74 11 [itr i]) := dNew_get _ _ _ _
  have ld0 : dLoad tab (dNew h ty74 11 [itr i]) ty74 (.ptr h.length 0 0) = some (.agg (itr i)) := by rw [ldp74, row_of hi0]; rfl
  have hl0 : (dNew h ty74 11 [itr i]).length = h.length + 1 := by simp [-Option.bind_some, dNew]
  rw [e1128]
  simp only [F1128, wBox_agg ty74 11 h (itr i) rfl (by omega), bs, Option.bind_assoc, ld0, hc, dBin_neq]
  refine Wp.dif ?_ ?_
  · intro h0
    have h0 : ¬ c = 0 := by simpa [-Option.bind_some] using h0
    simp only [bs, mkRes_two]
    rw [scope_eq (d' := .tup [.nils, .int .i64 c]) (by simp [-Option.bind_some]) (.tup _ fun d hd => by simp [-Option.bind_some] at hd; rcases hd with rfl | rfl <;> constructor) (by omega) fun q hq => dNew_old _ _ _ _ hq]
    exact .some ⟨rfl, _, rfl, by rw [if_neg h0]; exact .nils _ _⟩
  · intro h0
    have h0 : c = 0 := by simpa [-Option.bind_some] using h0
    subst h0
    generalize hg0 : dNew h ty74 11 [itr i] = g0 at *
    have hl1 : (dNew g0 ty5 1 ([0, 0, 0, 0].map byr)).length = h.length + 2 := by simp [-Option.bind_some, dNew, hl0]
    have hb1 : (dNew g0 ty5 1 ([0, 0, 0, 0].map byr))[h.length + 1]? = some (.row ty5 1 ([0, 0, 0, 0].map byr)) := by rw [← hl0]; exact dNew_get _ _ _ _
    have hi1 : (dNew g0 ty5 1 ([0, 0, 0, 0].map byr))[h.length]? = some (.row ty74 11 [itr i]) := by rw [dNew_old _ _ _ _ (by omega)]; exact hi0
    have hq1 : ∀ q, q < h.length → (dNew g0 ty5 1 ([0, 0, 0, 0].map byr))[q]? = h[q]? := fun q hq => by rw [dNew_old _ _ _ _ (by omega), ← hg0, dNew_old _ _ _ _ hq]
    simp only [mk22_4, bs, hl0]
    generalize dNew g0 ty5 1 ([0, 0, 0, 0].map byr) = g1 at *
    simp only [bd1101_0 (.msl 1 (h.length + 1) 0 4) rfl, bs, wBox_agg ty1101 1 g1 [.msl 1 (h.length + 1) 0 4] rfl (by omega), hl1]
    have hw2 : (dNew g1 ty1101 1 [[.msl 1 (h.length + 1) 0 4]])[h.length + 2]? = some (.row ty1101 1 [[.msl 1 (h.length + 1) 0 4]]) := by rw [← hl1]; exact dNew_get _ _ _ _
    have S0 : WrS h.length h.length (h.length + 2) h (itr i) (dNew g1 ty1101 1 [[.msl 1 (h.length + 1) 0 4]]) [0, 0, 0, 0] :=
      ⟨by rw [dNew_old _ _ _ _ (by omega)]; exact hi1, ⟨_, hw2, .inr ⟨h.length + 1, by omega, rfl, by rw [dNew_old _ _ _ _ (by omega)]; exact hb1⟩⟩, fun q hq => by rw [dNew_old _ _ _ _ (by omega)]; exact hq1 q hq, by simp [-Option.bind_some, dNew]; omega⟩
    refine w1133 i S0 (by omega) (by simp [-Option.bind_some]; omega) fun g2 S => ?_
    obtain ⟨d, hw, ho⟩ := S.hw
    have ldd := ldw hw
    have hlen : ([0, 0, 0, 0] ++ bodyI i : List Int).length = (bodyI i).length + 4 := by simp [-Option.bind_some]
    obtain ⟨P, hP⟩ : ∃ P, P = putb 4 (IntKind.wrap .u64 (((bodyI i).length : Int) + 4)) := ⟨_, rfl⟩
    have hPl : P.length = ([0, 0, 0, 0] : List Int).length := by rw [hP, putb_len]; rfl
    have hH : P ++ bodyI i = encH i := by rw [hP]; rfl
    have rb := RdB.own ho
    have hli : (([0, 0, 0, 0] ++ bodyI i : List Int).length : Int) = ((bodyI i).length : Int) + 4 := by rw [hlen]; omega
    obtain ⟨dp, g3, e3, B3⟩ := s1134 (IntKind.wrap .u64 (((bodyI i).length : Int) + 4)) 4 (by omega) g2.length g2 [] .nils (Nat.le_refl _) (Own.nils _ _ _ _) (by simp [-Option.bind_some])
    rw [List.nil_append, ← hP] at B3
    have e3 : R fn1134 [.nils, .int .u64 (IntKind.wrap .u64 (((bodyI i).length : Int) + 4)), .int .i64 4] g2 = some (dp, g3) := e3
    simp only [bs, nilCheck_ptr, fap1101_0, ldd, rdB_len rb, hli, cv3_1029]
    refine Wp.step e3 ?_
    have old3 : ∀ q, q < g2.length → g3[q]? = g2[q]? := fun q hq => B3.old q hq (nil_ob q)
    have hw3 : g3[h.length + 2]? = some (.row ty1101 1 [[d]]) := by rw [old3 _ (List.getElem?_eq_some_iff.1 hw).1]; exact hw
    have ldd3 := ldw hw3
    have ho3 : Own g3 h.length ty5 1 (([0, 0, 0, 0] ++ bodyI i : List Int).map byr) d := ho.keep fun q _ hx => old3 q (ho.lt hx).2
    obtain ⟨o, hon, hdo, hob⟩ := own_ix ho3 (i := 0) (by simp [-Option.bind_some])
    rw [List.length_map] at hdo
    obtain ⟨g4, e4, ho4, s4⟩ := cp22 hob (rdB_rows (RdB.own B3.ow)) hPl
    rw [← hdo] at e4
    have hne : h.length + 2 ≠ o := fun hh => by
      rw [hh, hob] at hw3
      injection hw3 with hw3
      injection hw3 with h1
      exact absurd h1 (by decide)
    have hw4 : g4[h.length + 2]? = some (.row ty1101 1 [[d]]) := by rw [s4.2 _ hne]; exact hw3
    have ldd4 := ldw hw4
    have ho4' : g4[o]? = some (.row ty5 1 ((encH i).map byr)) := by rw [← hH]; exact ho4
    have hHl : (encH i).length = 4 + (bodyI i).length := by simp only [encH, List.length_append, putb_len]
    have own4 : Own g4 h.length ty5 1 ((encH i).map byr) d := .inr ⟨o, hon, by rw [hdo, hlen, List.length_map, hHl, Nat.add_comm], ho4'⟩
    have hn4 : h.length ≤ g4.length := by have := s4.1; have := B3.len; have := S.ln; omega
    have e5 := s1135 (encH i) _ g4 (RdB.own own4) (by omega) (encH_u8 i)
    obtain ⟨d5, g5, e6, B5⟩ := s1134 (chkS (encH i)) 4 (by omega) h.length g4 (encH i) _ hn4 own4 (by omega)
    have e6 : R fn1134 [d, .int .u64 (chkS (encH i)), .int .i64 4] g4 = some (d5, g5) := e6
    simp only [bs, e4, ldd3, ldd4, e5, e6, chk_true, mkRes_two]
    have hE : encH i ++ putb 4 (chkS (encH i)) = encI i := rfl
    rw [hE] at B5
    have hsl := own_sl (n0 := h.length) (n := 2) B5.ow (Nat.le_refl _) (fun a _ => byr_frz _ g5 2 a)
    have hlow : ∀ q, q < h.length → g5[q]? = h[q]? := fun q hq => by
      rw [B5.old q (by omega) (fun hx => by have := (own4.lt hx).1; omega), s4.2 q (by omega), old3 q (by have := S.ln; omega)]
      exact S.lo q hq
    rw [scope_eq (d' := .tup [frz h.length g5 3 d5, .int .i64 0]) (by simp [-Option.bind_some]) (by
      refine .tup _ fun d hd => ?_
      simp [-Option.bind_some] at hd
      rcases hd with rfl | rfl
      · exact slof_ok hsl fun a _ => byr_ok _ a
      · constructor) (Nat.le_trans hn4 B5.len) hlow]
    exact .some ⟨rfl, _, rfl, by simpa [-Option.bind_some] using hsl⟩
def bys (l : List Int) : Str := l.map fun z => UInt8.ofNat z.toNat
theorem bys_sby (s : Str) : bys (sby s) = s := by
  unfold bys sby
  rw [List.map_map]
  conv => rhs; rw [← List.map_id s]
  apply List.map_congr_left
  intro c _
  simp [-Option.bind_some]
theorem dBytes_by : ∀ (l : List Int), dBytes (l.map byr) = some (bys l)
  | [] => rfl
  | z :: l => by
    simp only [List.map_cons, byr, dBytes]
    rw [dBytes_by l]
    rfl
theorem toStr_by {h : Hp} {l : List Int} {d : D} (hd : SlOf 1 byr l d) : dToStr h d = some (.str (bys l)) := by
  simp only [dToStr, rdB_rows (h := h) (.inl hd), dBytes_by]
theorem num_range : ∀ (n : Nat) (l : List Int), l.length = n → (∀ z ∈ l, U8 z) → 0 ≤ num l ∧ num l < 256 ^ n
  | 0, l, h, _ => by
    have : l = [] := List.length_eq_zero_iff.1 h
    subst this
    simp [-Option.bind_some, num]
  | n + 1, l, h, hu => by
    have hz : l[n]? = some l[n] := List.getElem?_eq_getElem (by omega)
    have h1 := num_take hz
    rw [List.take_of_length_le (by omega)] at h1
    have h2 := num_range n (l.take n) (by simp [-Option.bind_some]; omega) fun z hz => hu z (List.mem_of_mem_take hz)
    have h3 := hu l[n] (List.getElem_mem _)
    unfold U8 at h3
    rw [h1, Int.pow_succ]
    omega
theorem s1136 (l : List Int) (d : D) (h : Hp) (hd : SlOf 1 byr l d) (hl : l.length ≤ 8) (hu : ∀ z ∈ l, U8 z) : R fn1136 [d] h = some (.int .u64 (num l), h) := by
  suffices Wp (R fn1136 [d] h) (fun p => p = (.int .u64 (num l), h)) by
    obtain ⟨p, h1, rfl⟩ := this
    exact h1
  rw [e1136]
  simp only [F1136, bs, Option.bind_assoc, lens22 hd]
  refine Wp.loop (fun k ds g => g = h ∧ ∃ x y, ∃ n : Nat, ds = [.int .u64 (num (l.take n)), x, .int .i64 n, y] ∧ k + n = l.length) (fun r => r.1 = .ext 0 ∧ r.2.2 = h ∧ ∃ a b c, r.2.1 = [.int .u64 (num l), a, b, c]) l.length ⟨rfl, _, _, 0, rfl, rfl⟩ ?_ ?_
  · rintro k ds g ⟨rfl, x, y, n, rfl, hk⟩
    simp only [F1136_L0, nth_zero, nth_succ, bs, Option.bind_assoc, dBin_lss]
    refine Wp.dif ?_ ?_
    · intro h0
      have h0 : n < l.length := by have : (n : Int) < l.length := by simpa [-Option.bind_some] using h0
                                   omega
      obtain ⟨z, hz⟩ : ∃ z, l[n]? = some z := ⟨_, List.getElem?_eq_getElem h0⟩
      have hzu := hu z (List.mem_of_getElem? hz)
      have hw : IntKind.wrap .i64 ((n : Int) + 1) = ((n + 1 : Nat) : Int) := by
        rw [wrap_i64 (by omega) (by omega)]; omega
      unfold U8 at hzu
      obtain ⟨hn0, hn1⟩ := num_range n (l.take n) (by simp [-Option.bind_some]; omega) fun z hz => hu z (List.mem_of_mem_take hz)
      have hb : num (l.take n) < 72057594037927936 := by
        have : n = 0 ∨ n = 1 ∨ n = 2 ∨ n = 3 ∨ n = 4 ∨ n = 5 ∨ n = 6 ∨ n = 7 := by omega
        rcases this with rfl | rfl | rfl | rfl | rfl | rfl | rfl | rfl <;> omega
      have m3 : min ((8 : Int).toNat) IntKind.u64.bits = 8 := by decide
      have p3 : (2 : Int) ^ 8 = 256 := by decide
      have w1 : IntKind.wrap .u64 (num (l.take n) * 2 ^ 8) = num (l.take n) * 2 ^ 8 := by rw [p3]; exact wrap_u64 (by omega) (by omega)
      have w2 : IntKind.wrap .u64 z = z := wrap_u64 (by omega) (by omega)
      have w3 := or_u64 (x := num (l.take n)) (b := z) 8 hn0 (by omega) (by rw [p3]; omega) (by rw [p3]; omega)
      have hii : dIndexAddr tab ty22 d (.int .i64 (n : Int)) = some (.fptr (byr z)) := by rw [ixs22 hd]; simp [-Option.bind_some, hz]
      rw [p3, ← num_take hz] at w3
      rw [p3] at w1
      simp only [hii, byr_ld, bs, dBin_shl, show ¬ (8 : Int) < 0 by omega, if_false, m3, p3, w1, cv5_1029, w2, dBin_or, w3, dBin_add, hw]
      exact .some (.inl ⟨rfl, k - 1, by omega, rfl, _, _, n + 1, rfl, by omega⟩)
    · intro h0
      have h0 : n = l.length := by have : ¬ (n : Int) < l.length := by simpa [-Option.bind_some] using h0
                                   omega
      subst h0
      rw [List.take_length]
      exact .some (.inr ⟨by simp [-Option.bind_some], rfl, rfl, _, _, _, rfl⟩)
  · rintro ⟨ex, ds, g⟩ ⟨rfl, q2, a, b, c, rfl⟩
    simp only at q2
    subst q2
    simp only [unblk_self, toEnd_nrm, bs, nth_zero, mkRes_one]
    exact .some rfl
/-- What is left to read, and whether something was missing. -/
abbrev Cur := List Int × Bool
def takeS (s : Cur) (n : Int) : List Int × Cur := if s.2 = true ∨ n < 0 ∨ (s.1.length : Int) < n then ([], (s.1, true)) else (s.1.take n.toNat, (s.1.drop n.toNat, false))
def numS (s : Cur) : Int × Cur := (IntKind.wrap .i64 (num (takeS s 8).1), (takeS s 8).2)
def lenS (s : Cur) : Int × Cur := (IntKind.wrap .i64 (num (takeS s 4).1), (takeS s 4).2)
def textS (s : Cur) : Option Str × Cur := if (takeS (lenS s).2 (lenS s).1).2.2 = true then (none, (takeS (lenS s).2 (lenS s).1).2) else (some (bys (takeS (lenS s).2 (lenS s).1).1), (takeS (lenS s).2 (lenS s).1).2)
def countS (s : Cur) : Int × Cur := if (lenS s).2.2 = true ∨ ((lenS s).2.1.length : Int).tdiv 8 < (lenS s).1 then (0, ((lenS s).2.1, true)) else lenS s
/-- A cursor in memory. -/
def CuO (g : Hp) (oc : Nat) (s : Cur) : Prop := ∃ d, g[oc]? = some (.row ty1106 2 [[d, .bool s.2]]) ∧ SlOf 1 byr s.1 d ∧ (∀ z ∈ s.1, U8 z) ∧ s.1.length ≤ 1000000000
theorem cu_ld {g : Hp} {oc : Nat} {d : D} {b : Bool} (h : g[oc]? = some (.row ty1106 2 [[d, .bool b]])) : dLoad tab g ty22 (.ptr oc 0 (0 + 0)) = some d ∧ dLoad tab g ty4 (.ptr oc 0 (0 + 1)) = some (.bool b) := ⟨by rw [ldp22, row_of h]; rfl, by rw [ldp4, row_of h]; rfl⟩
theorem takeS_u8 {s : Cur} (hu : ∀ z ∈ s.1, U8 z) (n : Int) : (∀ z ∈ (takeS s n).1, U8 z) ∧ (∀ z ∈ (takeS s n).2.1, U8 z) ∧ (takeS s n).2.1.length ≤ s.1.length := by
  unfold takeS
  split
  · exact ⟨by simp [-Option.bind_some], hu, Nat.le_refl _⟩
  · exact ⟨fun z hz => hu z (List.mem_of_mem_take hz), fun z hz => hu z (List.mem_of_mem_drop hz), by simp [-Option.bind_some]⟩
theorem takeS_len (s : Cur) (n : Nat) : (takeS s n).1.length ≤ n := by
  unfold takeS
  split
  · simp [-Option.bind_some]
  · simp [-Option.bind_some]; omega
theorem c1155 {g : Hp} {oc : Nat} {s : Cur} (hc : CuO g oc s) (n : Int) : ∃ d g', R fn1155 [.ptr oc 0 0, .int .i64 n] g = some (d, g') ∧ SlOf 1 byr (takeS s n).1 d ∧ CuO g' oc (takeS s n).2 ∧ Same oc g g' := by
  suffices Wp (R fn1155 [.ptr oc 0 0, .int .i64 n] g) (fun p => SlOf 1 byr (takeS s n).1 p.1 ∧ CuO p.2 oc (takeS s n).2 ∧ Same oc g p.2) by
    obtain ⟨⟨x, h'⟩, h1, h2⟩ := this
    exact ⟨x, h', h1, h2⟩
  obtain ⟨d, ho, hd, hu, hl⟩ := hc
  obtain ⟨l1, l2⟩ := cu_ld ho
  obtain ⟨b, bad⟩ := s
  simp only at ho hd hu hl l2
  rw [e1155]
  have bad1 : ∀ {β : Type} (F : Hp → Option β) (Q : β → Prop), (∀ g', SlOf 1 byr ([] : List Int) .nils → CuO g' oc (b, true) → Same oc g g' → Wp (F g') Q) → Wp ((dStore tab g ty4 (.ptr oc 0 (0 + 1)) (.bool true)).bind F) Q := fun F Q k => by
    refine wst4 ho (by rfl) (by rfl) (by simp [-Option.bind_some]) (by rfl) fun g' h' s' => ?_
    exact k g' (.nils _ _) ⟨d, h', hd, hu, hl⟩ s'
  simp only [F1155, bs, nilCheck_ptr, fap1106_0, fap1106_1, l1, l2, lens22 hd, gd_bool, Option.bind_assoc]
  by_cases hb : bad = true
  · subst hb
    have ht : takeS (b, true) n = ([], (b, true)) := by simp [-Option.bind_some, takeS]
    rw [ht]
    simp only [reduceCtorEq, Bool.true_eq_false, if_false, bs, dPick_bool, if_true, dIf_bool, gd_bool]
    refine bad1 _ _ fun g' h1 h2 h3 => ?_
    simp only [bs, mkRes_one]
    exact .some ⟨h1, h2, h3⟩
  · have hb : bad = false := by simpa [-Option.bind_some] using hb
    subst hb
    by_cases hn : n < 0
    · have ht : takeS (b, false) n = ([], (b, true)) := by simp [-Option.bind_some, takeS, hn]
      rw [ht]
      simp only [gd_bool, nilCheck_ptr, fap1106_0, l1, lens22 hd, Option.bind_assoc, if_true, bs, dBin_lss, hn, decide_true, reduceCtorEq, Bool.true_eq_false, Bool.false_eq_true, if_false, dPick_bool, dIf_bool]
      refine bad1 _ _ fun g' h1 h2 h3 => ?_
      simp only [bs, mkRes_one]
      exact .some ⟨h1, h2, h3⟩
    · by_cases hgt : n > (b.length : Int)
      · have ht : takeS (b, false) n = ([], (b, true)) := by simp [-Option.bind_some, takeS, hn, hgt]
        rw [ht]
        simp only [gd_bool, nilCheck_ptr, fap1106_0, l1, lens22 hd, Option.bind_assoc, if_true, bs, dBin_lss, hn, decide_false, dBin_gtr, hgt, decide_true, reduceCtorEq, Bool.true_eq_false, Bool.false_eq_true, if_false, dPick_bool, dIf_bool]
        refine bad1 _ _ fun g' h1 h2 h3 => ?_
        simp only [bs, mkRes_one]
        exact .some ⟨h1, h2, h3⟩
      · have ht : takeS (b, false) n = (b.take n.toNat, (b.drop n.toNat, false)) := by
          unfold takeS
          rw [if_neg (by simp only [Bool.false_eq_true, false_or]; omega)]
        rw [ht]
        obtain ⟨d1, e1, s1⟩ := slh22 hd (k := .i64) (n := n) (by omega) (by omega)
        obtain ⟨d2, e2, s2⟩ := sll22 hd (k := .i64) (n := n) (by omega) (by omega)
        simp only [gd_bool, nilCheck_ptr, fap1106_0, l1, lens22 hd, Option.bind_assoc, if_true, bs, dBin_lss, hn, decide_false, dBin_gtr, hgt, reduceCtorEq, Bool.true_eq_false, Bool.false_eq_true, if_false, dPick_bool, dIf_bool, e1, e2]
        have hcl : cells1 d2 = [d2] := (one_cells (slof_one s2)).1
        refine wst22 ho (kk := 0) (row := [d, .bool false]) (by rfl) (by rw [hcl]; rfl) (by simp [-Option.bind_some]) (one_cells (slof_one s2)).2 fun g' h' s' => ?_
        rw [hcl] at h'
        simp only [bs, mkRes_one]
        exact .some ⟨s1, ⟨d2, h', s2, fun z hz => hu z (List.mem_of_mem_drop hz), by simp [-Option.bind_some]; omega⟩, s'⟩
theorem set_spl (row : List D) (off : Nat) (v : D) (hv : v.one = true) (ho : off < row.length) : spl row off (cells1 v) = row.set off v := by
  rw [(one_cells hv).1]
  simp only [spl, List.length_singleton]
  rw [List.set_eq_take_append_cons_drop, if_pos ho]
  simp [-Option.bind_some]
/-- A cell of another object, and what a store there leaves. -/
structure Cell (g : Hp) (oc o k off : Nat) (T z : Nat) (rows : List (List D)) (row : List D) : Prop where
  ho : g[o]? = some (.row T z rows)
  hr : rows[k]? = some row
  lt : off < row.length
  ne : o ≠ oc
def Wrt (g g' : Hp) (oc o : Nat) : Prop := g'.length = g.length ∧ ∀ q, q ≠ oc → q ≠ o → g'[q]? = g[q]?
theorem c1153 {g : Hp} {oc : Nat} {s : Cur} (hc : CuO g oc s) {o k off T z : Nat} {rows : List (List D)} {row : List D} (C : Cell g oc o k off T z rows row) {β : Type} {f : D × Hp → Option β} {Q : β → Prop}
    (K : ∀ g', CuO g' oc (numS s).2 → g'[o]? = some (.row T z (rows.set k (row.set off (.int .i64 (numS s).1)))) → Wrt g g' oc o → Wp (f (mkRes [], g')) Q) : Wp ((R fn1153 [.ptr oc 0 0, .ptr o k off] g).bind f) Q := by
  obtain ⟨d, g1, e1, h1, h2, h3⟩ := c1155 hc 8
  have hu := hc.choose_spec.2.2.1
  have e2 := s1136 _ d g1 h1 (takeS_len s 8) (takeS_u8 hu 8).1
  have ho1 : g1[o]? = some (.row T z rows) := by rw [h3.2 o C.ne]; exact C.ho
  rw [e1153]
  simp only [F1153, bs, e1, e2, cv1029_3, nilCheck_ptr, Option.bind_assoc]
  refine wst3 ho1 C.hr (by rfl) (by have := C.lt; omega) (by rfl) fun g2 p2 s2 => ?_
  try simp only [bs]
  rw [set_spl _ _ _ rfl C.lt] at p2
  refine K g2 ?_ p2 ⟨by rw [s2.1, h3.1], fun q q1 q2 => by rw [s2.2 q q2, h3.2 q q1]⟩
  obtain ⟨dd, x1, x2⟩ := h2
  exact ⟨dd, by rw [s2.2 oc (Ne.symm C.ne)]; exact x1, x2⟩
theorem c_len {g : Hp} {oc : Nat} {s : Cur} (hc : CuO g oc s) : ∃ d g1, R fn1155 [.ptr oc 0 0, .int .i64 4] g = some (d, g1) ∧ R fn1136 [d] g1 = some (.int .u64 (num (takeS s 4).1), g1) ∧ CuO g1 oc (lenS s).2 ∧ Same oc g g1 := by
  obtain ⟨d, g1, e1, h1, h2, h3⟩ := c1155 hc 4
  have hu := hc.choose_spec.2.2.1
  exact ⟨d, g1, e1, s1136 _ d g1 h1 (Nat.le_trans (takeS_len s 4) (by omega)) (takeS_u8 hu 4).1, h2, h3⟩
theorem c1154 {g : Hp} {oc : Nat} {s : Cur} (hc : CuO g oc s) {o k off T z : Nat} {rows : List (List D)} {row : List D} (C : Cell g oc o k off T z rows row) {u : Str} (hold : row[off]? = some (.str u)) {β : Type} {f : D × Hp → Option β} {Q : β → Prop}
    (K : ∀ g', CuO g' oc (textS s).2 → g'[o]? = some (.row T z (rows.set k (row.set off (.str ((textS s).1.getD u))))) → Wrt g g' oc o → Wp (f (mkRes [], g')) Q) : Wp ((R fn1154 [.ptr oc 0 0, .ptr o k off] g).bind f) Q := by
  obtain ⟨d, g1, e1, e2, h2, h3⟩ := c_len hc
  obtain ⟨d3, g3, e3, q1, q2, q3⟩ := c1155 h2 (lenS s).1
  have e3 : R fn1155 [.ptr oc 0 0, .int .i64 (IntKind.wrap .i64 (num (takeS s 4).1))] g1 = some (d3, g3) := e3
  have st13 : Same oc g g3 := h3.trans q3
  have ho3 : g3[o]? = some (.row T z rows) := by rw [st13.2 o C.ne]; exact C.ho
  obtain ⟨dd, x1, x2⟩ := q2
  have l2 := (cu_ld x1).2
  rw [e1154]
  simp only [F1154, bs, e1, e2, cv1029_3, e3, nilCheck_ptr, fap1106_1, l2, dUn_not, Option.bind_assoc]
  cases hbad : (takeS (lenS s).2 (lenS s).1).2.2 with
  | true =>
    have ht : textS s = (none, (takeS (lenS s).2 (lenS s).1).2) := by unfold textS; rw [if_pos hbad]
    rw [ht] at K
    simp only [hbad, Bool.not_true, dIf_bool, Bool.false_eq_true, if_false, bs, exEnd_nrm]
    refine K g3 ⟨dd, x1, x2⟩ ?_ ⟨st13.1, fun q a _ => st13.2 q a⟩
    rw [ho3]
    have hrs : row.set off (.str u) = row := by
      have hlt := C.lt
      have : row[off] = .str u := (List.getElem?_eq_some_iff.1 hold).2
      rw [← this, List.set_getElem_self]
    have hrr : rows.set k row = rows := by
      obtain ⟨hk1, hk2⟩ := List.getElem?_eq_some_iff.1 C.hr
      rw [← hk2, List.set_getElem_self]
    simp only [Option.getD_none, hrs, hrr]
  | false =>
    have ht : textS s = (some (bys (takeS (lenS s).2 (lenS s).1).1), (takeS (lenS s).2 (lenS s).1).2) := by unfold textS; rw [if_neg (by rw [hbad]; simp [-Option.bind_some])]
    rw [ht] at K
    simp only [hbad, Bool.not_false, dIf_bool, if_true, toStr_by q1, bs, Option.bind_assoc]
    refine wst9 ho3 C.hr (by rfl) (by have := C.lt; omega) (by rfl) fun g2 p2 s2 => ?_
    rw [set_spl _ _ _ rfl C.lt] at p2
    simp only [bs, exEnd_nrm]
    exact K g2 ⟨dd, by rw [s2.2 oc (Ne.symm C.ne)]; exact x1, x2⟩ p2 ⟨by rw [s2.1, st13.1], fun q a b => by rw [s2.2 q b, st13.2 q a]⟩
end Go.Proofs.YtlpedofpnbggbaaDoor
