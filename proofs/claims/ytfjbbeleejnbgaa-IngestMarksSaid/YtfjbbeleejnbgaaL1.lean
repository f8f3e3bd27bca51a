/- Laws, on plain data, about functions that the statement reaches. -/
import Derived.Test.YtfjbbeleejnbgaaT9
set_option linter.unusedSimpArgs false
set_option linter.unusedVariables false
set_option linter.unnecessarySimpa false
set_option maxRecDepth 100000
namespace Go.Proofs.Ytfjbbeleejnbgaa
open Go.Eng Go.Pi
abbrev Str := List UInt8
def fld (p : Str × Str) : List D := [.str p.1, .str p.2]
/-- A line. -/
structure Lin where
  off : Int
  len : Int
  txt : Str
  deriving DecidableEq
def linr (l : Lin) : List D := [.int .i64 l.off, .int .i64 l.len, .str l.txt]
/-- An event. -/
structure Ev where
  a0 : Int
  a1 : Int
  a2 : Int
  a3 : Int
  ls : List Lin
  ld : D
  a5 : Int
  a6 : Int
  s7 : Str
  s8 : Str
  fs : List (Str × Str)
  fd : D
  hfd : SlOf 2 fld fs fd
  hl : fs.length ≤ 9223372036854775807
  hld : SlOf 3 linr ls ld
  hll : ls.length ≤ 9223372036854775807
def sameE (a b : Ev) : Bool := decide (a.a0 = b.a0) && (decide (a.a1 = b.a1) && (decide (a.a2 = b.a2) && (decide (a.a3 = b.a3) && (decide (a.a5 = b.a5) && (decide (a.a6 = b.a6) && (decide (a.s7 = b.s7) && (decide (a.s8 = b.s8) && (decide (a.ls = b.ls) && decide (a.fs = b.fs)))))))))
theorem given_len {zs : List Int} {d : D} (hd : Given .u8 zs d) : dLenT tab ty22 d = some (.int .i64 zs.length) := by
  rcases hd with ⟨rfl, rfl⟩ | rfl
  · rfl
  · simp [-Option.bind_some, ints]
theorem s57 (o pos : Nat) (zs : List Int) (d : D) (h : Hp) (ho : h[o]? = some (.row ty101 2 [[d, .int .i64 pos]])) (hd : Given .u8 zs d) : R fn57 [.ptr o 0 0] h = some (.bool (decide (pos < zs.length)), h) := by
  rw [e57]
  simp [-Option.bind_some, F57, Hp.row, ho, given_len hd]
theorem given_ix {zs : List Int} {d : D} (hd : Given .u8 zs d) (i : Nat) (z : Int) (hz : zs[i]? = some z) : dIndexAddr tab ty22 d (.int .i64 i) = some (.fptr [.int .u8 z]) := by
  rcases hd with ⟨rfl, rfl⟩ | rfl
  · cases hz
  · simp [-Option.bind_some, ints, hz]
theorem store_ptr3 (h : Hp) (o k f : Nat) (v : D) : dStore tab h ty3 (.ptr o k f) v = pSt 1 h (.ptr o k f) v := rfl
theorem s24 (o pos : Nat) (zs : List Int) (d : D) (n z : Int) (h : Hp) (ho : h[o]? = some (.row ty101 2 [[d, .int .i64 pos]])) (hd : Given .u8 zs d) (hn : 1 ≤ n) (hn2 : n ≤ 1000000000) (hz : zs[pos]? = some z) (hz0 : 0 ≤ z) (hz1 : z < 256) (hl : zs.length ≤ 400) :
    R fn24 [.ptr o 0 0, .int .i64 n] h = some (.int .i64 (z * n / 256), h.set o (.row ty101 2 [[d, .int .i64 ((pos + 1 : Nat) : Int)]])) := by
  have hp : pos < zs.length := (List.getElem?_eq_some_iff.1 hz).1
  have hn' : ¬ n < 1 := by omega
  have hw : IntKind.wrap .i64 ((pos : Int) + 1) = (pos : Int) + 1 := wrap_i64 (by omega) (by omega)
  have hzw : IntKind.wrap .i64 z = z := wrap_i64 (by omega) (by omega)
  rw [e24]
  simp [-Option.bind_some, F24, s57 o pos zs d h ho hd, hp, hn', Hp.row, ho, given_ix hd pos z hz, hw, hzw, store_ptr3, pSt, D.okv, cells1, D.one, spl]
  have h0 : 0 ≤ z * n := Int.mul_nonneg hz0 (by omega)
  have h1 : z * n ≤ 255 * 1000000000 := Int.mul_le_mul (by omega) hn2 (by omega) (by omega)
  have e1 : IntKind.wrap .i64 (z * n) = z * n := wrap_i64 (by omega) (by omega)
  rw [e1, Int.tdiv_eq_ediv_of_nonneg h0, wrap_i64 (by omega) (by omega)]
/-- An object holds codes; these are left. -/
def CO (h : Hp) (o : Nat) (rest : List Int) : Prop := ∃ (d : D) (zs : List Int) (pos : Nat), h[o]? = some (.row ty101 2 [[d, .int .i64 pos]]) ∧ Given .u8 zs d ∧ zs.length ≤ 400 ∧ rest = zs.drop pos ∧ ∀ z ∈ zs, 0 ≤ z ∧ z < 256
def nx (n : Int) : List Int → Int × List Int
  | [] => (0, [])
  | z :: r => if n < 1 then (0, z :: r) else (z * n / 256, r)
theorem left_ok {h : Hp} {o : Nat} {rest : List Int} (hc : CO h o rest) : R fn57 [.ptr o 0 0] h = some (.bool (decide (rest ≠ [])), h) := by
  obtain ⟨d, zs, pos, ho, hd, hl, rfl, hz⟩ := hc
  rw [s57 o pos zs d h ho hd]
  have : (pos < zs.length) ↔ zs.drop pos ≠ [] := by
    rw [ne_eq, List.drop_eq_nil_iff]; omega
  congr 3
  exact decide_eq_decide.2 this
theorem next_ok {h : Hp} {o : Nat} {rest : List Int} (hc : CO h o rest) (n : Int) (hn2 : n ≤ 1000000000) : ∃ h', R fn24 [.ptr o 0 0, .int .i64 n] h = some (.int .i64 (nx n rest).1, h') ∧ CO h' o (nx n rest).2 ∧ Same o h h' := by
  have hl := left_ok hc
  cases hr : rest with
  | nil =>
    subst hr
    refine ⟨h, ?_, hc, .refl _ _⟩
    rw [e24]
    simp [-Option.bind_some, F24, hl, nx]
  | cons z r =>
    by_cases hn : n < 1
    · refine ⟨h, ?_, by simpa [-Option.bind_some, nx, hn, hr] using hc, .refl _ _⟩
      rw [e24]
      simp [-Option.bind_some, F24, hl, nx, hn, hr]
    · obtain ⟨d, zs, pos, ho, hd, hl4, hrest, hz⟩ := hc
      have hzp : zs[pos]? = some z := by
        have : (zs.drop pos)[0]? = some z := by rw [← hrest, hr]; rfl
        simpa [-Option.bind_some] using this
      have hm := hz z (List.mem_of_getElem? hzp)
      have holt : o < h.length := (List.getElem?_eq_some_iff.1 ho).1
      refine ⟨_, (s24 o pos zs d n z h ho hd (by omega) hn2 hzp hm.1 hm.2 hl4).trans (by rw [show (nx n (z :: r)).1 = z * n / 256 by simp [-Option.bind_some, nx, hn]]), ?_, ?_⟩
      · refine ⟨d, zs, pos + 1, by simp [-Option.bind_some, holt], hd, hl4, ?_, hz⟩
        have : (zs.drop pos).drop 1 = r := by rw [← hrest, hr]; rfl
        simpa [-Option.bind_some, nx, hn] using this.symm
      · exact ⟨by simp [-Option.bind_some], fun q hq => by rw [List.getElem?_set_ne (by omega)]⟩
theorem nx_bound (n : Int) (rest : List Int) (h : ∀ z ∈ rest, 0 ≤ z ∧ z < 256) : 0 ≤ (nx n rest).1 ∧ (1 ≤ n → (nx n rest).1 < n) := by
  cases rest with
  | nil => simp [-Option.bind_some, nx]; omega
  | cons z r =>
    have := h z (by simp [-Option.bind_some])
    unfold nx
    by_cases hn : n < 1
    · simp [-Option.bind_some, hn]; omega
    · simp only [hn, if_false]
      have h0 : 0 ≤ z * n := Int.mul_nonneg this.1 (by omega)
      have h1 : z * n ≤ 255 * n := Int.mul_le_mul_of_nonneg_right (by omega) (by omega)
      constructor
      · omega
      · intro _; omega
/-- An object holds codes. -/
def CD (h : Hp) (o : Nat) : Prop := ∃ rest, CO h o rest
theorem CD.keep {h h' : Hp} {o : Nat} (hc : CD h o) (he : h'[o]? = h[o]?) : CD h' o := by
  obtain ⟨rest, d, zs, pos, ho, hr⟩ := hc
  exact ⟨rest, d, zs, pos, by rw [he]; exact ho, hr⟩
theorem CD.lt {h : Hp} {o : Nat} (hc : CD h o) : o < h.length := by
  obtain ⟨rest, d, zs, pos, ho, hr⟩ := hc
  exact (List.getElem?_eq_some_iff.1 ho).1
theorem CD.ok {h : Hp} {o : Nat} (hc : CD h o) (n : Nat) : ∀ T sz rows, h[o]? = some (.row T sz rows) → ∀ row ∈ rows, ∀ d ∈ row, Ok n d := by
  obtain ⟨rest, d, zs, pos, ho, hd, _⟩ := hc
  intro T sz rows hr row hrow x hx
  rw [ho] at hr
  injection hr with hr
  injection hr with _ _ hr
  subst hr
  simp [-Option.bind_some] at hrow
  subst hrow
  simp [-Option.bind_some] at hx
  rcases hx with rfl | rfl
  · exact given_okd hd n
  · exact .int _ _
theorem next_b {h : Hp} {o : Nat} (hc : CD h o) (n : Int) (hn : 1 ≤ n) (hn2 : n ≤ 1000000000) : ∃ v h', R fn24 [.ptr o 0 0, .int .i64 n] h = some (.int .i64 v, h') ∧ CD h' o ∧ Same o h h' ∧ 0 ≤ v ∧ v < n := by
  obtain ⟨rest, hc⟩ := hc
  obtain ⟨h', h1, h2, h3⟩ := next_ok hc n hn2
  have hb : ∀ z ∈ rest, 0 ≤ z ∧ z < 256 := by
    obtain ⟨d, zs, pos, ho, hd, hl, rfl, hz⟩ := hc
    exact fun z hz' => hz z (List.mem_of_mem_drop hz')
  exact ⟨_, h', h1, ⟨_, h2⟩, h3, (nx_bound n rest hb).1, (nx_bound n rest hb).2 hn⟩
/-- What a function that draws has done so far. -/
structure St (h0 : Hp) (o : Nat) (g : Hp) : Prop where
  lt : o < h0.length
  cd : CD g o
  gr : Grow h0.length o h0 g
theorem St.refl {h : Hp} {o : Nat} (hc : CD h o) : St h o h := ⟨hc.lt, hc, .refl _ _ _⟩
theorem St.next {h0 g g' : Hp} {o : Nat} (s : St h0 o g) (hc : CD g' o) (hs : Same o g g') : St h0 o g' := ⟨s.lt, hc, s.gr.trans hs.grow⟩
theorem St.app {h0 g g' : Hp} {o : Nat} (s : St h0 o g) (hl : g.length ≤ g'.length) (hb : ∀ q, q < h0.length → g'[q]? = g[q]?) : St h0 o g' := ⟨s.lt, s.cd.keep (hb o s.lt), s.gr.trans ⟨hl, fun q hq _ => hb q hq⟩⟩
theorem St.le {h0 g : Hp} {o : Nat} (s : St h0 o g) : h0.length ≤ g.length := s.gr.1
theorem St.scope {h0 g : Hp} {o : Nat} (s : St h0 o g) {d d' : D} (hd : frz h0.length g 4 d = d') (hok : Ok h0.length d') : ∃ h', scope h0 g d = some (d', h') ∧ CD h' o ∧ Same o h0 h' := by
  obtain ⟨h1, h2, h3⟩ := scope_same hd hok s.gr (s.cd.ok h0.length)
  exact ⟨_, h1, s.cd.keep (h3 o s.lt), h2⟩
theorem d44 (zs : List Int) (d : D) (n : Int) (h : Hp) (hd : Given .u8 zs d) (hn : 0 ≤ n) (hn2 : n ≤ 400) (hz : ∀ z ∈ zs, 0 ≤ z ∧ z < 256) : ∃ h', R fn44 [d, .int .i64 n] h = some (.ptr h.length 0 0, h') ∧ CD h' h.length ∧ h'.length = h.length + 1 := by
  rw [e44]
  have hm : ∃ m : Int, dMin (.int .i64 zs.length) (.int .i64 n) = some (.int .i64 m) ∧ 0 ≤ m ∧ m ≤ zs.length ∧ m ≤ 400 := by
    rw [dMin_int]
    split
    · exact ⟨_, rfl, by omega, by omega, by omega⟩
    · exact ⟨_, rfl, by omega, by omega, by omega⟩
  obtain ⟨m, hm, h0, h1, h2⟩ := hm
  obtain ⟨d', hs, hg⟩ := given_hi (T := tab) (t := ty22) (i := ti22) (j := ti5) (id rfl) (id rfl) (id rfl) (id rfl) hd (k2 := .i64) h0 h1
  simp only [F44, bs, given_len hd, hm, hs, bd101_0 d' (given_one hg)]
  rw [wBox_agg ty101 2 h [d', .int .i64 0] rfl (by omega)]
  refine ⟨_, rfl, ⟨_, d', zs.take m.toNat, 0, by simp [-Option.bind_some, dNew], hg, ?_, rfl, fun z hz' => hz z (List.mem_of_mem_take hz')⟩, by simp [-Option.bind_some, dNew]⟩
  simp [-Option.bind_some]; omega
theorem s99 (n : Int) (h : Hp) : R fn99 [.int .i64 n] h = some (.bool false, h) := by
  rw [e99]
  simp [-Option.bind_some, F99]
def cmpI (a b : Int) : Int := if a < b then -1 else if b < a then 1 else 0
theorem s90 (a b : Int) (h : Hp) : R fn90 [.int .i64 a, .int .i64 b] h = some (.int .i64 (cmpI a b), h) := by
  rw [e90]
  simp [-Option.bind_some, F90, s99, cmpI]
  by_cases h0 : a < b
  · simp [-Option.bind_some, h0]
  · by_cases h1 : b < a <;> simp [-Option.bind_some, h0, h1]
theorem sgtr (t : Nat) (s u : Str) : dBin tab .gtr t (.str s) (.str u) = some (.bool (!(Op.bytesLess s u || s == u))) := id rfl
theorem app_full {T : Tab} {t e : Nat} {i j : TI} (ht : T t = Option.some i) (hi : i.td = .sl e) (he : T e = Option.some j) (hz : 0 < j.sz) {h : Hp} {ys : List (List D)} {y : D} (hy : dRowsOf h j.sz y = Option.some ys) (hl : lim ys.length j.by_ = true) :
    ∃ x' h', dAppend T h t t (.sl j.sz true []) y = Option.some (x', h') ∧ h.length ≤ h'.length ∧ (∀ q, q < h.length → h'[q]? = h[q]?) ∧ ((x' = .sl j.sz true [] ∧ ys = []) ∨ Own h' h.length e j.sz ys x') := by
  have hz' : Nat.blt 0 j.sz = true := Nat.ble_eq_true_of_le hz
  have hs : dSrc h i j y = Option.some ys := by simp [-Option.bind_some, dSrc, hi, hy]
  unfold dAppend
  simp only [ht, hi, he, hz', hs]
  cases ys with
  | nil => exact ⟨_, _, rfl, Nat.le_refl _, fun _ _ => rfl, .inl ⟨rfl, rfl⟩⟩
  | cons y1 yr =>
    simp only [List.length_nil, Nat.zero_add, hl, and_self, if_true, List.nil_append, true_and]
    exact ⟨_, _, rfl, by simp [-Option.bind_some, dNew], fun q hq => by simp only [dNew]; rw [List.getElem?_append_left hq], .inr (.inr ⟨h.length, Nat.le_refl _, rfl, by simp [-Option.bind_some, dNew]⟩)⟩
def inr (n : Int) : List D := [.int .i64 n]
def orI : List Int → Int
  | [] => 0
  | x :: r => if x = 0 then orI r else x
theorem l89 (l : List Int) (d : D) (h : Hp) (hd : SlOf 1 inr l d) (hl : l.length ≤ 9223372036854775807) {β : Type} (K : Out → Option β) (X : Int → Option β)
   (hX : ∀ v r, K (.ret, .int .i64 v :: r, h) = X v) (hY : ∀ r, K (.ext 0, r, h) = X 0) : ∀ (suf pre : List Int), l = pre ++ suf → ∀ n : Int, n = pre.length → ∀ a b e f,
   (loopW (F89_L0 (.int .i64 0) d (.int .i64 l.length)) [a, b, .int .i64 n, e, f] h).bind K = X (orI suf) := by
  intro suf
  induction suf with
  | nil =>
    rintro pre rfl n rfl a b e f
    rw [loopW_eq]
    simp [-Option.bind_some, F89_L0, hY, orI]
  | cons p suf ih =>
    rintro pre rfl n rfl a b e f
    have hw : IntKind.wrap .i64 ((pre.length : Int) + 1) = (pre ++ [p]).length := by
      rw [wrap_i64 (by omega) (by simp [-Option.bind_some] at hl; omega)]; simp [-Option.bind_some]
    have hlt : (pre.length : Int) < (pre ++ p :: suf).length := by simp [-Option.bind_some]; omega
    rw [loopW_eq]
    generalize hL : pre ++ p :: suf = L at *
    have hg : L[pre.length]? = some p := by rw [← hL]; exact get_mid _ _ _
    by_cases hp : p = 0
    · subst hp
      have := ih (pre ++ [0]) (by simp [-Option.bind_some, ← hL]) _ rfl a (.int .i64 0) (.bool true) (.bool false)
      simp only [← hw] at this
      simp [-Option.bind_some, F89_L0, ixs82 hd, hlt, hg, inr, orI]
      exact this
    · simp [-Option.bind_some, F89_L0, ixs82 hd, hlt, hg, inr, hp, hX, orI]
theorem s89 (l : List Int) (d : D) (h : Hp) (hd : SlOf 1 inr l d) (hl : l.length ≤ 9223372036854775807) : R fn89 [d] h = some (.int .i64 (orI l), h) := by
  rw [e89]
  simp only [F89, bs, lens82 hd, Option.bind_assoc]
  rw [l89 l d h hd hl _ (fun v => some (.int .i64 v, h)) (fun v r => by simp [-Option.bind_some]) (fun r => by simp [-Option.bind_some]) l [] rfl 0 rfl]
structure Mrk where
  h : Int
  f : Int
  o : Int
  deriving DecidableEq
def mrkr (m : Mrk) : List D := [.int .i64 m.h, .int .i64 m.f, .int .i64 m.o]
theorem mrkr_ld (m : Mrk) (h : Hp) : dLoad tab h ty1006 (.fptr (mrkr m)) = some (.agg (mrkr m)) := id rfl
def cmpM (a b : Mrk) : Int := orI [cmpI a.h b.h, cmpI a.f b.f]
theorem s1017 (a b : Mrk) (h : Hp) : R fn1017 [.agg (mrkr a), .agg (mrkr b)] h = some (.int .i64 (cmpM a b), h) := by
  have hb : ∀ n0 n1 : Int, pLitF tab ty82 2 [0, 1] [.int .i64 n0, .int .i64 n1] = some (.sl 1 true ([n0, n1].map inr)) := fun n0 n1 => id rfl
  have h89 := s89 [cmpI a.h b.h, cmpI a.f b.f] (.sl 1 true [inr (cmpI a.h b.h), inr (cmpI a.f b.f)]) h (SlOf.mk 1 inr [cmpI a.h b.h, cmpI a.f b.f] true) (by simp [-Option.bind_some])
  rw [e1017]
  simp [-Option.bind_some, F1017, mrkr, s90, hb, h89, cmpM]
theorem s1016 (l : List Mrk) (d : D) (t : Mrk) (fn : D) (c : Mrk → Int) (h : Hp) (hd : SlOf 3 mrkr l d) (hl : l.length ≤ 1000000) (hf : ∀ x, callV R fn [.agg (mrkr x), .agg (mrkr t)] h = some (.int .i64 (c x), h))
   (k : Nat) (hk : k ≤ l.length) (h1 : ∀ i x, l[i]? = some x → i < k → c x < 0) (h2 : ∀ i x, l[i]? = some x → k ≤ i → 0 ≤ c x) :
   R fn1016 [d, .agg (mrkr t), fn] h = some (.tup [.int .i64 k, .bool (match l[k]? with | some x => decide (c x = 0) | none => false)], h) := by
  suffices Wp (R fn1016 [d, .agg (mrkr t), fn] h) (fun p => p = (.tup [.int .i64 k, .bool (match l[k]? with | some x => decide (c x = 0) | none => false)], h)) by
    obtain ⟨p, h1, rfl⟩ := this
    exact h1
  rw [e1016]
  simp only [F1016, pBoxF_agg, bs, Option.bind_assoc, lens1007 hd]
  refine Wp.loop (fun n ds g => g = h ∧ ∃ a b e, ∃ lo hi : Nat, ds = [.int .i64 lo, .int .i64 hi, a, b, e] ∧ lo ≤ k ∧ k ≤ hi ∧ hi ≤ l.length ∧ n = hi - lo)
      (fun x => x.1 = .ext 0 ∧ x.2.2 = h ∧ nth 0 x.2.1 = .int .i64 k) l.length ⟨rfl, _, _, _, 0, l.length, rfl, by omega, hk, Nat.le_refl _, rfl⟩ ?_ ?_
  · rintro n ds g ⟨rfl, a, b, e, lo, hi, rfl, hlo, hhi, hle, rfl⟩
    simp only [F1016_L0, nth_zero, nth_succ, bs, Option.bind_assoc, dBin_lss]
    refine Wp.dif ?_ ?_
    · intro h0
      have h0 : lo < hi := by have : (lo : Int) < hi := by simpa [-Option.bind_some] using h0
                              omega
      have hw : IntKind.wrap .i64 ((lo : Int) + hi) = ((lo + hi : Nat) : Int) := by
        rw [wrap_i64 (by omega) (by omega)]; omega
      have hw2 : IntKind.wrap .u64 ((lo + hi : Nat) : Int) = ((lo + hi : Nat) : Int) := by
        unfold IntKind.wrap
        simp [-Option.bind_some, IntKind.signed, IntKind.bits, IntKind.min, IntKind.max]
        omega
      have hw3 : (((lo + hi : Nat) : Int)).fdiv (2 ^ (min (Int.toNat 1) IntKind.u64.bits)) = (((lo + hi) / 2 : Nat) : Int) := by
        rw [show (2 : Int) ^ (min (Int.toNat 1) IntKind.u64.bits) = 2 by decide]
        rw [Int.fdiv_eq_ediv_of_nonneg _ (by omega)]
        omega
      have hw4 : IntKind.wrap .i64 (((lo + hi) / 2 : Nat) : Int) = (((lo + hi) / 2 : Nat) : Int) := wrap_i64 (by omega) (by omega)
      have hw5 : IntKind.wrap .i64 ((((lo + hi) / 2 : Nat) : Int) + 1) = (((lo + hi) / 2 + 1 : Nat) : Int) := by
        rw [wrap_i64 (by omega) (by omega)]; omega
      have hm : (lo + hi) / 2 < l.length := by omega
      have hm1 : lo ≤ (lo + hi) / 2 := by omega
      have hm2 : (lo + hi) / 2 < hi := by omega
      generalize (lo + hi) / 2 = mid at *
      have hg : l[mid]? = some l[mid] := List.getElem?_eq_getElem hm
      generalize l[mid] = x at hg
      simp only [dBin_add, hw, cv3_134, cv134_3, bs, hw2, dBin_shr, show ¬ (1 : Int) < 0 by omega, if_false, hw3, hw4, ixs1007 hd, Int.natCast_nonneg, if_true, Int.toNat_natCast, hg, Option.map_some, mrkr_ld, hf, dBin_lss]
      by_cases hc : c x < 0
      · have hkm : mid < k := by
          rcases Nat.lt_or_ge mid k with hh | hh
          · exact hh
          · have := h2 mid x hg hh
            omega
        simp only [hc, decide_true, dIf_bool, if_true, bs, hw5, unblk_nrm, nth_zero, nth_succ]
        exact .some (.inl ⟨rfl, hi - (mid + 1), by omega, rfl, _, _, _, mid + 1, hi, rfl, by omega, hhi, hle, rfl⟩)
      · have hkm : k ≤ mid := by
          rcases Nat.lt_or_ge mid k with hh | hh
          · exact absurd (h1 mid x hg hh) hc
          · exact hh
        simp only [hc, decide_false, dIf_bool, Bool.false_eq_true, if_false, bs, unblk_nrm, nth_zero, nth_succ]
        exact .some (.inl ⟨rfl, mid - lo, by omega, rfl, _, _, _, lo, mid, rfl, hlo, hkm, by omega, rfl⟩)
    · intro h0
      have h0 : lo = k := by have : ¬ (lo : Int) < hi := by simpa [-Option.bind_some] using h0
                             omega
      subst h0
      exact .some (.inr ⟨by simp [-Option.bind_some], rfl, rfl, rfl⟩)
  · rintro ⟨ex, ds, g⟩ ⟨q1, q2, q3⟩
    simp only at q1 q2 q3
    subst q1; subst q2
    simp only [unblk_self, toEnd_nrm, nth_zero, q3, bs, dBin_lss]
    by_cases hkl : k < l.length
    · have hg : l[k]? = some l[k] := List.getElem?_eq_getElem hkl
      have hlt : (k : Int) < l.length := by omega
      generalize l[k] = x at hg
      simp only [hlt, decide_true, gd_bool, if_true, bs, ixs1007 hd, Int.natCast_nonneg, Int.toNat_natCast, hg, Option.map_some, mrkr_ld, gdW_bool, hf, dBin_eql, dPick_bool, mkRes_two]
      exact .some rfl
    · have hg : l[k]? = none := List.getElem?_eq_none (by omega)
      have hlt : ¬ (k : Int) < l.length := by omega
      simp only [hlt, decide_false, gd_bool, Bool.false_eq_true, if_false, bs, gdW_bool, dPick_bool, mkRes_two, hg]
      exact .some rfl
theorem s1013 (l : List Mrk) (d : D) (hst fil : Int) (h : Hp) (hd : SlOf 3 mrkr l d) (hl : l.length ≤ 1000000)
   (k : Nat) (hk : k ≤ l.length) (h1 : ∀ i x, l[i]? = some x → i < k → cmpM x ⟨hst, fil, 0⟩ < 0) (h2 : ∀ i x, l[i]? = some x → k ≤ i → 0 ≤ cmpM x ⟨hst, fil, 0⟩) :
   R fn1013 [d, .int .i64 hst, .int .i64 fil] h = some (.tup [.int .i64 k, .bool (match l[k]? with | some x => decide (cmpM x ⟨hst, fil, 0⟩ = 0) | none => false)], h) := by
  have hb : dBuild tab ty1006 [0, 1] [.int .i64 hst, .int .i64 fil] = some (.agg (mrkr ⟨hst, fil, 0⟩)) := id rfl
  rw [e1013]
  simp only [F1013, bs, hb, Option.bind_assoc]
  rw [s1016 l d ⟨hst, fil, 0⟩ (.fn (.func fn1017) [] []) (fun x => cmpM x ⟨hst, fil, 0⟩) h hd hl (fun x => by rw [callV_some]; exact s1017 x _ h) k hk h1 h2]
  rfl
theorem s1001 (h : Hp) : R fn1001 [] h = some (.bool true, h) := by
  have h1 : dBuild tab ty1006 [0, 1, 2] [.int .i64 1, .int .i64 2, .int .i64 3] = some (.agg (mrkr ⟨1, 2, 3⟩)) := id rfl
  have h2 : pLitF tab ty1007 1 [0] [.agg (mrkr ⟨1, 2, 3⟩)] = some (.sl 3 true ([(⟨1, 2, 3⟩ : Mrk)].map mrkr)) := id rfl
  have h3 := s1013 [⟨1, 2, 3⟩] (.sl 3 true ([(⟨1, 2, 3⟩ : Mrk)].map mrkr)) 1 2 h (SlOf.mk _ _ _ _) (by simp [-Option.bind_some]) 0 (by simp [-Option.bind_some]) (fun i x _ hi => by omega) (fun i x hx _ => by
    cases i with
    | zero => simp [-Option.bind_some] at hx; subst hx; decide
    | succ i => simp [-Option.bind_some] at hx)
  have h4 : (match [(⟨1, 2, 3⟩ : Mrk)][0]? with | some x => decide (cmpM x ⟨1, 2, 0⟩ = 0) | none => false) = true := by decide
  rw [h4] at h3
  have h5 : ∀ d : D, d.one = true → dBuild tab ty1009 [0] [d] = some (.agg [d, .nils]) := fun d h0 => bd1009_0 d h0
  have h6 : ∀ d : D, pBoxF (.agg [d, .nils]) = some (.fptr [d, .nils]) := fun d => id rfl
  have h7 : dLoad tab h ty3 (.fptr [.int .i64 3]) = some (.int .i64 3) := id rfl
  rw [e1001]
  simp only [F1001, bs, h1, h2, h5 _ (show D.one (.sl 3 true ([(⟨1, 2, 3⟩ : Mrk)].map mrkr)) = true from rfl), e1005, F1005, pBoxF_agg, fa1009_0, ld1007, h3, dExtract_tup, List.getElem?_cons_zero, List.getElem?_cons_succ, dIf_bool, if_true, ixs1007 (SlOf.mk 3 mrkr [(⟨1, 2, 3⟩ : Mrk)] true), Option.map_some, mkRes_one, Int.natCast_nonneg, Int.toNat_natCast, Option.bind_assoc]
  simp [-Option.bind_some, mrkr]
/-- A tally. -/
structure Tal where
  h : Int
  r : Str
  n : Int
def talr (t : Tal) : List D := [.int .i64 t.h, .str t.r, .int .i64 t.n]
theorem talr_ld (m : Tal) (h : Hp) : dLoad tab h ty106 (.fptr (talr m)) = some (.agg (talr m)) := id rfl
theorem talr_frz (n0 : Nat) (h : Hp) (n : Nat) (p : Tal) : ∀ d ∈ talr p, frz n0 h n d = d := by simp [-Option.bind_some, talr]
theorem talr_ok (n : Nat) (p : Tal) : ∀ d ∈ talr p, Ok n d := by
  intro d hd
  simp [-Option.bind_some, talr] at hd
  rcases hd with rfl | rfl | rfl <;> constructor
def cmpS (a b : Str) : Int := if Op.bytesLess a b = true then -1 else if a = b then 0 else 1
theorem s100 (s : Str) (h : Hp) : R fn100 [.str s] h = some (.bool false, h) := by
  rw [e100]
  simp [-Option.bind_some, F100]
theorem s91 (a b : Str) (h : Hp) : R fn91 [.str a, .str b] h = some (.int .i64 (cmpS a b), h) := by
  rw [e91]
  simp only [F91, bs, s100, dIf_bool, Bool.false_eq_true, if_false, dBin_slss, sgtr, cmpS, mkRes_one]
  cases h0 : Op.bytesLess a b
  · by_cases h1 : a = b <;> simp [-Option.bind_some, h1]
  · simp [-Option.bind_some]
def cmpT (a b : Tal) : Int := orI [cmpI a.h b.h, cmpS a.r b.r]
theorem s88 (a b : Tal) (h : Hp) : R fn88 [.agg (talr a), .agg (talr b)] h = some (.int .i64 (cmpT a b), h) := by
  have hb : ∀ n0 n1 : Int, pLitF tab ty82 2 [0, 1] [.int .i64 n0, .int .i64 n1] = some (.sl 1 true ([n0, n1].map inr)) := fun n0 n1 => id rfl
  have h89 := s89 [cmpI a.h b.h, cmpS a.r b.r] (.sl 1 true [inr (cmpI a.h b.h), inr (cmpS a.r b.r)]) h (SlOf.mk 1 inr [cmpI a.h b.h, cmpS a.r b.r] true) (by simp [-Option.bind_some])
  rw [e88]
  simp [-Option.bind_some, F88, talr, s90, s91, hb, h89, cmpT]
/-- A slice of tallies that can be read here. -/
def RdT (h : Hp) (l : List Tal) (d : D) : Prop := SlOf 3 talr l d ∨ ∃ ob, d = .msl 3 ob 0 l.length ∧ h[ob]? = some (.row ty106 3 (l.map talr))
theorem rdT_len {h : Hp} {l : List Tal} {d : D} (hd : RdT h l d) : dLenT tab ty58 d = some (.int .i64 l.length) := by
  rcases hd with hd | ⟨ob, rfl, _⟩
  · exact lens58 hd
  · exact lenm58 _ _ _ _
theorem rdT_ix {h : Hp} {l : List Tal} {d : D} (hd : RdT h l d) (i : Nat) (p : Tal) (hp : l[i]? = some p) : ∃ q, dIndexAddr tab ty58 d (.int .i64 i) = some q ∧ dLoad tab h ty106 q = some (.agg (talr p)) := by
  have hi := (List.getElem?_eq_some_iff.1 hp).1
  rcases hd with hd | ⟨ob, rfl, ho⟩
  · exact ⟨.fptr (talr p), by rw [ixs58 hd]; simp [-Option.bind_some, hp], talr_ld p h⟩
  · have hr : (l.map talr)[i]? = some (talr p) := by rw [List.getElem?_map, hp]; rfl
    have hh : (0 : Int) ≤ (i : Int) ∧ (i : Int) < (l.length : Int) := by omega
    refine ⟨.ptr ob i 0, by rw [ixm58]; simp [-Option.bind_some, hh], ?_⟩
    rw [ldp106, row_of ho, hr]; rfl
theorem s87 (l : List Tal) (d : D) (t : Tal) (fn : D) (c : Tal → Int) (h : Hp) (hd : RdT h l d) (hl : l.length ≤ 1000000) (hf : ∀ x, callV R fn [.agg (talr x), .agg (talr t)] h = some (.int .i64 (c x), h))
   (k : Nat) (hk : k ≤ l.length) (h1 : ∀ i x, l[i]? = some x → i < k → c x < 0) (h2 : ∀ i x, l[i]? = some x → k ≤ i → 0 ≤ c x) :
   R fn87 [d, .agg (talr t), fn] h = some (.tup [.int .i64 k, .bool (match l[k]? with | some x => decide (c x = 0) | none => false)], h) := by
  suffices Wp (R fn87 [d, .agg (talr t), fn] h) (fun p => p = (.tup [.int .i64 k, .bool (match l[k]? with | some x => decide (c x = 0) | none => false)], h)) by
    obtain ⟨p, h1, rfl⟩ := this
    exact h1
  rw [e87]
  simp only [F87, pBoxF_agg, bs, Option.bind_assoc, rdT_len hd]
  refine Wp.loop (fun n ds g => g = h ∧ ∃ a b e, ∃ lo hi : Nat, ds = [.int .i64 lo, .int .i64 hi, a, b, e] ∧ lo ≤ k ∧ k ≤ hi ∧ hi ≤ l.length ∧ n = hi - lo)
      (fun x => x.1 = .ext 0 ∧ x.2.2 = h ∧ nth 0 x.2.1 = .int .i64 k) l.length ⟨rfl, _, _, _, 0, l.length, rfl, by omega, hk, Nat.le_refl _, rfl⟩ ?_ ?_
  · rintro n ds g ⟨rfl, a, b, e, lo, hi, rfl, hlo, hhi, hle, rfl⟩
    simp only [F87_L0, nth_zero, nth_succ, bs, Option.bind_assoc, dBin_lss]
    refine Wp.dif ?_ ?_
    · intro h0
      have h0 : lo < hi := by have : (lo : Int) < hi := by simpa [-Option.bind_some] using h0
                              omega
      have hw : IntKind.wrap .i64 ((lo : Int) + hi) = ((lo + hi : Nat) : Int) := by
        rw [wrap_i64 (by omega) (by omega)]; omega
      have hw2 : IntKind.wrap .u64 ((lo + hi : Nat) : Int) = ((lo + hi : Nat) : Int) := by
        unfold IntKind.wrap
        simp [-Option.bind_some, IntKind.signed, IntKind.bits, IntKind.min, IntKind.max]
        omega
      have hw3 : (((lo + hi : Nat) : Int)).fdiv (2 ^ (min (Int.toNat 1) IntKind.u64.bits)) = (((lo + hi) / 2 : Nat) : Int) := by
        rw [show (2 : Int) ^ (min (Int.toNat 1) IntKind.u64.bits) = 2 by decide]
        rw [Int.fdiv_eq_ediv_of_nonneg _ (by omega)]
        omega
      have hw4 : IntKind.wrap .i64 (((lo + hi) / 2 : Nat) : Int) = (((lo + hi) / 2 : Nat) : Int) := wrap_i64 (by omega) (by omega)
      have hw5 : IntKind.wrap .i64 ((((lo + hi) / 2 : Nat) : Int) + 1) = (((lo + hi) / 2 + 1 : Nat) : Int) := by
        rw [wrap_i64 (by omega) (by omega)]; omega
      have hm : (lo + hi) / 2 < l.length := by omega
      have hm1 : lo ≤ (lo + hi) / 2 := by omega
      have hm2 : (lo + hi) / 2 < hi := by omega
      generalize (lo + hi) / 2 = mid at *
      have hg : l[mid]? = some l[mid] := List.getElem?_eq_getElem hm
      generalize l[mid] = x at hg
      obtain ⟨q0, i0, i1⟩ := rdT_ix hd mid x hg
      simp only [dBin_add, hw, cv3_134, cv134_3, bs, hw2, dBin_shr, show ¬ (1 : Int) < 0 by omega, if_false, hw3, hw4, i0, i1, talr_ld, hf, dBin_lss]
      by_cases hc : c x < 0
      · have hkm : mid < k := by
          rcases Nat.lt_or_ge mid k with hh | hh
          · exact hh
          · have := h2 mid x hg hh
            omega
        simp only [hc, decide_true, dIf_bool, if_true, bs, hw5, unblk_nrm, nth_zero, nth_succ]
        exact .some (.inl ⟨rfl, hi - (mid + 1), by omega, rfl, _, _, _, mid + 1, hi, rfl, by omega, hhi, hle, rfl⟩)
      · have hkm : k ≤ mid := by
          rcases Nat.lt_or_ge mid k with hh | hh
          · exact absurd (h1 mid x hg hh) hc
          · exact hh
        simp only [hc, decide_false, dIf_bool, Bool.false_eq_true, if_false, bs, unblk_nrm, nth_zero, nth_succ]
        exact .some (.inl ⟨rfl, mid - lo, by omega, rfl, _, _, _, lo, mid, rfl, hlo, hkm, by omega, rfl⟩)
    · intro h0
      have h0 : lo = k := by have : ¬ (lo : Int) < hi := by simpa [-Option.bind_some] using h0
                             omega
      subst h0
      exact .some (.inr ⟨by simp [-Option.bind_some], rfl, rfl, rfl⟩)
  · rintro ⟨ex, ds, g⟩ ⟨q1, q2, q3⟩
    simp only at q1 q2 q3
    subst q1; subst q2
    simp only [unblk_self, toEnd_nrm, nth_zero, q3, bs, dBin_lss]
    by_cases hkl : k < l.length
    · have hg : l[k]? = some l[k] := List.getElem?_eq_getElem hkl
      have hlt : (k : Int) < l.length := by omega
      generalize l[k] = x at hg
      obtain ⟨q0, i0, i1⟩ := rdT_ix hd k x hg
      simp only [hlt, decide_true, gd_bool, if_true, bs, i0, i1, talr_ld, gdW_bool, hf, dBin_eql, dPick_bool, mkRes_two, hg]
      exact .some rfl
    · have hg : l[k]? = none := List.getElem?_eq_none (by omega)
      have hlt : ¬ (k : Int) < l.length := by omega
      simp only [hlt, decide_false, gd_bool, Bool.false_eq_true, if_false, bs, gdW_bool, dPick_bool, mkRes_two, hg]
      exact .some rfl
theorem s80 (l : List Tal) (d : D) (hst : Int) (rule : Str) (h : Hp) (hd : RdT h l d) (hl : l.length ≤ 1000000)
   (k : Nat) (hk : k ≤ l.length) (h1 : ∀ i x, l[i]? = some x → i < k → cmpT x ⟨hst, rule, 0⟩ < 0) (h2 : ∀ i x, l[i]? = some x → k ≤ i → 0 ≤ cmpT x ⟨hst, rule, 0⟩) :
   R fn80 [d, .int .i64 hst, .str rule] h = some (.tup [.int .i64 k, .bool (match l[k]? with | some x => decide (cmpT x ⟨hst, rule, 0⟩ = 0) | none => false)], h) := by
  have hb : dBuild tab ty106 [0, 1] [.int .i64 hst, .str rule] = some (.agg (talr ⟨hst, rule, 0⟩)) := id rfl
  rw [e80]
  simp only [F80, bs, hb, Option.bind_assoc]
  rw [s87 l d ⟨hst, rule, 0⟩ (.fn (.func fn88) [] []) (fun x => cmpT x ⟨hst, rule, 0⟩) h hd hl (fun x => by rw [callV_some]; exact s88 x _ h) k hk h1 h2]
  rfl
theorem bL_irr : ∀ a : Str, Op.bytesLess a a = false
  | [] => rfl
  | x :: a => by simp [-Option.bind_some, Op.bytesLess, bL_irr a]
theorem bL_tr : ∀ {a b c : Str}, Op.bytesLess a b = true → Op.bytesLess b c = true → Op.bytesLess a c = true
  | _, [], _, h, _ => by cases ‹Str› <;> simp [-Option.bind_some, Op.bytesLess] at h
  | _, _ :: _, [], _, h => by simp [-Option.bind_some, Op.bytesLess] at h
  | [], _ :: _, _ :: _, _, _ => rfl
  | x :: a, y :: b, z :: c, h, k => by
    simp only [Op.bytesLess, Bool.or_eq_true, decide_eq_true_eq, Bool.and_eq_true, beq_iff_eq] at h k ⊢
    rcases h with h | ⟨rfl, h⟩
    · rcases k with k | ⟨rfl, k⟩
      · exact .inl (UInt8.lt_trans h k)
      · exact .inl h
    · rcases k with k | ⟨rfl, k⟩
      · exact .inl k
      · exact .inr ⟨rfl, bL_tr h k⟩
theorem bL_tot : ∀ {a b : Str}, Op.bytesLess a b = false → a ≠ b → Op.bytesLess b a = true
  | [], [], _, h => absurd rfl h
  | [], _ :: _, h, _ => by simp [-Option.bind_some, Op.bytesLess] at h
  | _ :: _, [], _, _ => rfl
  | x :: a, y :: b, h, k => by
    simp only [Op.bytesLess, Bool.or_eq_false_iff, decide_eq_false_iff_not, Bool.and_eq_false_iff, beq_eq_false_iff_ne] at h
    simp only [Op.bytesLess, Bool.or_eq_true, decide_eq_true_eq, Bool.and_eq_true, beq_iff_eq]
    by_cases hxy : x = y
    · subst hxy
      refine .inr ⟨rfl, bL_tot (h.2.resolve_left fun hh => hh rfl) fun hh => k (by rw [hh])⟩
    · left
      have h1 := mt UInt8.lt_iff_toNat_lt.2 h.1
      have h2 : x.toNat ≠ y.toNat := fun hh => hxy (UInt8.toNat_inj.1 hh)
      exact UInt8.lt_iff_toNat_lt.2 (by omega)
/-- The order of tallies. -/
def kl (a b : Tal) : Prop := a.h < b.h ∨ (a.h = b.h ∧ Op.bytesLess a.r b.r = true)
theorem cmpT_lt (a b : Tal) : cmpT a b < 0 ↔ kl a b := by
  unfold cmpT orI orI orI cmpI cmpS kl
  by_cases h1 : a.h < b.h
  · simp [-Option.bind_some, h1]
  · by_cases h2 : b.h < a.h
    · have h3 : ¬ a.h = b.h := by omega
      simp [-Option.bind_some, h1, h2, h3]
    · have h3 : a.h = b.h := by omega
      cases h4 : Op.bytesLess a.r b.r
      · by_cases h5 : a.r = b.r <;> simp [-Option.bind_some, h3, h5]
      · simp [-Option.bind_some, h3]
theorem cmpT_eq (a b : Tal) : cmpT a b = 0 ↔ a.h = b.h ∧ a.r = b.r := by
  unfold cmpT orI orI orI cmpI cmpS
  by_cases h1 : a.h < b.h
  · have h3 : ¬ a.h = b.h := by omega
    simp [-Option.bind_some, h1, h3]
  · by_cases h2 : b.h < a.h
    · have h3 : ¬ a.h = b.h := by omega
      simp [-Option.bind_some, h1, h2, h3]
    · have h3 : a.h = b.h := by omega
      cases h4 : Op.bytesLess a.r b.r
      · by_cases h5 : a.r = b.r <;> simp [-Option.bind_some, h3, h5]
      · have h5 : ¬ a.r = b.r := fun hh => by rw [hh, bL_irr] at h4; cases h4
        simp [-Option.bind_some, h3, h5]
theorem kl_tr {a b c : Tal} (h : kl a b) (k : kl b c) : kl a c := by
  unfold kl at *
  rcases h with h | ⟨h, h'⟩ <;> rcases k with k | ⟨k, k'⟩
  · left; omega
  · left; omega
  · left; omega
  · exact .inr ⟨by omega, bL_tr h' k'⟩
theorem kl_tot {a b : Tal} (h : ¬ kl a b) (k : ¬ (a.h = b.h ∧ a.r = b.r)) : kl b a := by
  unfold kl at *
  by_cases h1 : a.h = b.h
  · right
    refine ⟨h1.symm, bL_tot ?_ fun hh => k ⟨h1, hh⟩⟩
    cases h2 : Op.bytesLess a.r b.r
    · rfl
    · exact absurd (.inr ⟨h1, h2⟩) h
  · left
    have : ¬ a.h < b.h := fun hh => h (.inl hh)
    omega
def TAsc (l : List Tal) : Prop := l.Pairwise kl
/-- Where a key stands, or would. -/
def kT (key : Tal) : List Tal → Nat
  | [] => 0
  | x :: r => if cmpT x key < 0 then kT key r + 1 else 0
theorem kT_le (key : Tal) : ∀ l, kT key l ≤ l.length
  | [] => Nat.le_refl _
  | x :: r => by
    unfold kT
    split
    · have := kT_le key r; simp [-Option.bind_some]; omega
    · simp [-Option.bind_some]
theorem kT_lt (key : Tal) : ∀ (l : List Tal) (i : Nat) (x : Tal), l[i]? = some x → i < kT key l → cmpT x key < 0
  | y :: r, 0, x, hx, hi => by
    unfold kT at hi
    simp [-Option.bind_some] at hx
    subst hx
    split at hi
    · assumption
    · omega
  | y :: r, i + 1, x, hx, hi => by
    unfold kT at hi
    simp [-Option.bind_some] at hx
    split at hi
    · exact kT_lt key r i x hx (by omega)
    · omega
theorem kT_ge (key : Tal) : ∀ (l : List Tal), TAsc l → ∀ (i : Nat) (x : Tal), l[i]? = some x → kT key l ≤ i → 0 ≤ cmpT x key
  | y :: r, hs, i, x, hx, hi => by
    unfold kT at hi
    have hs' := List.pairwise_cons.1 hs
    split at hi
    · cases i with
      | zero => omega
      | succ i => exact kT_ge key r hs'.2 i x (by simpa [-Option.bind_some] using hx) (by omega)
    · rename_i hc
      rcases Int.lt_or_le (cmpT x key) 0 with h1 | h1
      · exfalso
        cases i with
        | zero => simp [-Option.bind_some] at hx; subst hx; exact hc h1
        | succ i =>
          have hx' : r[i]? = some x := by simpa [-Option.bind_some] using hx
          exact hc ((cmpT_lt _ _).2 (kl_tr (hs'.1 x (List.mem_of_getElem? hx')) ((cmpT_lt _ _).1 h1)))
      · exact h1
/-- The tallies with some lines more. -/
def addK (l : List Tal) (hst : Int) (rule : Str) (n : Int) (k : Nat) : List Tal := match l[k]? with
  | some x => if cmpT x ⟨hst, rule, 0⟩ = 0 then l.set k ⟨x.h, x.r, IntKind.wrap .i64 (x.n + n)⟩ else l.take k ++ [⟨hst, rule, IntKind.wrap .i64 (0 + n)⟩] ++ l.drop k
  | none => l.take k ++ [⟨hst, rule, IntKind.wrap .i64 (0 + n)⟩] ++ l.drop k
def addT (l : List Tal) (hst : Int) (rule : Str) (n : Int) : List Tal := if n < 1 then l else addK l hst rule n (kT ⟨hst, rule, 0⟩ l)
theorem u79 (l : List Tal) (d : D) (h : Hp) (hd : SlOf 3 talr l d) (hl : l.length ≤ 1000000) : ∃ d' h', R fn79 [d] h = some (d', h') ∧ h.length ≤ h'.length ∧ (∀ q, q < h.length → h'[q]? = h[q]?) ∧
    ((l = [] ∧ (d' = .nils ∨ d' = .sl 3 true [])) ∨ ∃ ob, h.length ≤ ob ∧ d' = .msl 3 ob 0 l.length ∧ h'[ob]? = some (.row ty106 3 (l.map talr))) := by
  rw [e79]
  rcases hd with ⟨rfl, rfl⟩ | ⟨b, rfl⟩
  · exact ⟨.nils, h, by
      have hne : dBin tab .eql ty58 .nils .nils = some (.bool true) := id rfl
      simp [-Option.bind_some, F79, hne], Nat.le_refl _, fun _ _ => rfl, .inl ⟨rfl, .inl rfl⟩⟩
  · obtain ⟨x', h', e, hl', hq, ho⟩ := app_full (T := tab) (t := ty58) (i := ti58) (j := ti106) (h := h) (id rfl) (id rfl) (id rfl) (by decide) (y := .sl 3 b (l.map talr)) (rowsOf_sl _ _ _ _) (lim_ok (by have : ti106.by_ = 32 := rfl; rw [this, List.length_map]; omega) (by rw [List.length_map]; omega))
    have e' : dAppend tab h ty58 ty58 (.sl 3 true []) (.sl 3 b (l.map talr)) = some (x', h') := e
    have hne : dBin tab .eql ty58 (.sl 3 b (l.map talr)) .nils = some (.bool false) := id rfl
    refine ⟨x', h', ?_, hl', hq, ?_⟩
    · simp only [F79, bs, hne, dIf_bool, Bool.false_eq_true, if_false, bs58_0, e', mkRes_one]
    · rcases ho with ⟨rfl, hn⟩ | ⟨rfl, hn⟩ | ⟨ob, h1, rfl, h2⟩
      · have : l = [] := by simpa [-Option.bind_some] using hn
        exact .inl ⟨this, .inr rfl⟩
      · have : l = [] := by simpa [-Option.bind_some] using hn
        exact .inl ⟨this, .inl rfl⟩
      · exact .inr ⟨ob, h1, by rw [List.length_map]; rfl, h2⟩
theorem lim106 {n : Nat} (hn : n ≤ 1000001) : lim n ti106.by_ = true := lim_ok (by have : ti106.by_ = 32 := rfl; rw [this]; omega) (by omega)
theorem s59 (l : List Tal) (d : D) (hst : Int) (rule : Str) (n : Int) (h : Hp) (hd : SlOf 3 talr l d) (hl : l.length ≤ 1000000) (hs : TAsc l) :
    ∃ d', R fn59 [d, .int .i64 hst, .str rule, .int .i64 n] h = some (d', h) ∧ SlOf 3 talr (addT l hst rule n) d' := by
  suffices Wp (R fn59 [d, .int .i64 hst, .str rule, .int .i64 n] h) (fun p => p.2 = h ∧ SlOf 3 talr (addT l hst rule n) p.1) by
    obtain ⟨⟨x, h'⟩, h1, rfl, h2⟩ := this
    exact ⟨x, h1, h2⟩
  rw [e59]
  obtain ⟨d1, h1, e1, hl1, hb1, hd1⟩ := u79 l d h hd hl
  simp only [F59, bs, e1, dBin_lss]
  refine Wp.dif (fun hn => ?_) (fun hn => ?_)
  · have hn : n < 1 := by simpa [-Option.bind_some] using hn
    have ha : addT l hst rule n = l := by simp [-Option.bind_some, addT, hn]
    rw [ha]
    rcases hd1 with ⟨rfl, rfl | rfl⟩ | ⟨ob, hob, rfl, ho⟩
    · simp only [mkRes_one, bs]
      rw [scope_eq rfl (by simp [-Option.bind_some]; exact .nils) hl1 hb1]
      exact .some ⟨rfl, by simpa [-Option.bind_some] using SlOf.nils _ _⟩
    · have hsl : SlOf 3 talr [] (.sl 3 true []) := .inr ⟨true, rfl⟩
      simp only [mkRes_one, bs]
      rw [scope_eq (d' := .sl 3 true []) rfl (slof_ok hsl fun a _ => talr_ok _ a) hl1 hb1]
      exact .some ⟨rfl, hsl⟩
    · have ow : Own h1 h.length ty106 3 (l.map talr) (.msl 3 ob 0 l.length) := .inr ⟨ob, hob, by simp [-Option.bind_some], ho⟩
      have hsl := own_sl (n0 := h.length) (n := 3) ow (Nat.le_refl _) (fun a _ => talr_frz _ h1 _ a)
      simp only [mkRes_one, bs]
      rw [scope_eq rfl (slof_ok hsl fun a _ => talr_ok _ a) hl1 hb1]
      exact .some ⟨rfl, hsl⟩
  · have hn : ¬ n < 1 := by simpa [-Option.bind_some] using hn
    have ha : addT l hst rule n = addK l hst rule n (kT ⟨hst, rule, 0⟩ l) := by simp [-Option.bind_some, addT, hn]
    rw [ha]
    have hrd : RdT h1 l d1 := by
      rcases hd1 with ⟨rfl, rfl | rfl⟩ | ⟨ob, hob, rfl, ho⟩
      · exact .inl (.nils _ _)
      · exact .inl (.inr ⟨true, rfl⟩)
      · exact .inr ⟨ob, rfl, ho⟩
    have hk := kT_le ⟨hst, rule, 0⟩ l
    have h80 := s80 l d1 hst rule h1 hrd hl (kT ⟨hst, rule, 0⟩ l) hk (kT_lt _ l) (kT_ge _ l hs)
    generalize kT ⟨hst, rule, 0⟩ l = k at hk h80
    simp only [h80, bs, dExtract_tup, List.getElem?_cons_zero, List.getElem?_cons_succ, dUn_not]
    refine Wp.join (P := fun r => ∃ (d2 : D) (h2 : Hp) (ob : Nat) (L : List Tal) (x : Tal), r = (.nrm, [d2], h2) ∧ d2 = .msl 3 ob 0 L.length ∧ h.length ≤ ob ∧ h.length ≤ h2.length ∧ (∀ q, q < h.length → h2[q]? = h[q]?) ∧ h2[ob]? = some (.row ty106 3 (L.map talr)) ∧ L[k]? = some x ∧ L.set k ⟨x.h, x.r, IntKind.wrap .i64 (x.n + n)⟩ = addK l hst rule n k) ?_ ?_ ?_
    · intro hf
      have hadd : addK l hst rule n k = l.take k ++ [⟨hst, rule, IntKind.wrap .i64 (0 + n)⟩] ++ l.drop k := by
        unfold addK
        cases hg : l[k]? with
        | none => rfl
        | some x =>
          rw [hg] at hf
          have : ¬ cmpT x ⟨hst, rule, 0⟩ = 0 := by simpa [-Option.bind_some] using hf
          simp [-Option.bind_some, this]
      have hlt : (l.take k).length = k := by simp [-Option.bind_some]; omega
      have hL : (l.take k ++ [(⟨hst, rule, 0⟩ : Tal)] ++ l.drop k)[k]? = some ⟨hst, rule, 0⟩ := by
        rw [List.append_assoc, List.getElem?_append_right (by omega), hlt]; simp [-Option.bind_some]
      have hset : (l.take k ++ [(⟨hst, rule, 0⟩ : Tal)] ++ l.drop k).set k ⟨hst, rule, IntKind.wrap .i64 (0 + n)⟩ = l.take k ++ [⟨hst, rule, IntKind.wrap .i64 (0 + n)⟩] ++ l.drop k := by
        rw [List.append_assoc, List.set_append_right _ _ (by omega), hlt]; simp [-Option.bind_some]
      have hlen : (l.take k ++ [(⟨hst, rule, 0⟩ : Tal)] ++ l.drop k).length = l.length + 1 := by simp [-Option.bind_some]; omega
      have hmap : (l.take k ++ [(⟨hst, rule, 0⟩ : Tal)] ++ l.drop k).map talr = (l.map talr).take k ++ [[.int .i64 hst, .str rule, .int .i64 0]] ++ (l.map talr).drop k := by
        rw [List.map_append, List.map_append, List.map_take, List.map_drop]; rfl
      have hz : ti106.sz = 3 := rfl
      have hlim : lim (l.length + 1) ti106.by_ = true := lim106 (by omega)
      have hlim1 : lim 1 ti106.by_ = true := lim106 (by omega)
      simp only [bd106_0_1, bs58_1, bs, xins81]
      rcases hd1 with ⟨rfl, hdd⟩ | ⟨ob, hob, rfl, ho⟩
      · have hk0 : k = 0 := by simpa [-Option.bind_some] using hk
        subst hk0
        have hi : dIns ty106 ti106 [d1, .int .i64 ((0 : Nat) : Int), .sl 3 true [[.int .i64 hst, .str rule, .int .i64 0]]] h1 = some (.msl 3 h1.length 0 1, dNew h1 ty106 3 [[.int .i64 hst, .str rule, .int .i64 0]]) := by
          rcases hdd with rfl | rfl <;> simp [-Option.bind_some, dIns, hz, hlim1]
        rw [hi]
        simp only [bs]
        refine .some ⟨_, _, h1.length, [⟨hst, rule, 0⟩], ⟨hst, rule, 0⟩, rfl, rfl, hl1, ?_, fun q hq => ?_, dNew_get _ _ _ _, rfl, ?_⟩
        · simp [-Option.bind_some, dNew]; omega
        · rw [dNew_old _ _ _ _ (by omega)]; exact hb1 q hq
        · rw [hadd]; simp [-Option.bind_some]
      · have hi : dIns ty106 ti106 [.msl 3 ob 0 l.length, .int .i64 (k : Int), .sl 3 true [[.int .i64 hst, .str rule, .int .i64 0]]] h1 = some (.msl 3 h1.length 0 (l.length + 1), dNew (h1.set ob .dead) ty106 3 ((l.map talr).take k ++ [[.int .i64 hst, .str rule, .int .i64 0]] ++ (l.map talr).drop k)) := by
          have hkl : (k : Int) ≤ (l.length : Int) := by omega
          simp [-Option.bind_some, dIns, hz, hlim, ho, hkl]
        rw [hi]
        simp only [bs]
        refine .some ⟨_, _, h1.length, l.take k ++ [⟨hst, rule, 0⟩] ++ l.drop k, ⟨hst, rule, 0⟩, rfl, by rw [hlen], hl1, ?_, fun q hq => ?_, ?_, hL, by rw [hadd]; exact hset⟩
        · simp [-Option.bind_some, dNew]; omega
        · rw [dNew_old _ _ _ _ (by simp [-Option.bind_some]; omega), List.getElem?_set_ne (by omega)]; exact hb1 q hq
        · have := dNew_get (h1.set ob .dead) ty106 3 ((l.take k ++ [(⟨hst, rule, 0⟩ : Tal)] ++ l.drop k).map talr)
          simp only [List.length_set] at this
          rw [hmap] at this ⊢
          exact this
    · intro hf
      cases hg : l[k]? with
      | none => rw [hg] at hf; simp [-Option.bind_some] at hf
      | some x =>
        rw [hg] at hf
        have hc : cmpT x ⟨hst, rule, 0⟩ = 0 := by simpa [-Option.bind_some] using hf
        rcases hd1 with ⟨rfl, hdd⟩ | ⟨ob, hob, rfl, ho⟩
        · simp [-Option.bind_some] at hg
        · refine .some ⟨_, _, ob, l, x, rfl, rfl, hob, hl1, hb1, ho, hg, ?_⟩
          simp [-Option.bind_some, addK, hg, hc]
    · rintro _ ⟨d2, h2, ob, L, x, rfl, rfl, hob, hl2, hb2, ho, hx, hfin⟩
      have hkL : k < L.length := (List.getElem?_eq_some_iff.1 hx).1
      have hkl2 : (0 : Int) ≤ (k : Int) ∧ (k : Int) < (L.length : Int) := by omega
      have hr : (L.map talr)[k]? = some (talr x) := by rw [List.getElem?_map, hx]; rfl
      simp only [toEnd_nrm, nth_zero, bs, ixm58, hkl2, and_self, if_true, fap106_2, Int.toNat_natCast, Nat.zero_add, ldp3, row_of ho, hr]
      simp only [talr, List.drop_succ_cons, List.drop_zero, List.head?_cons, bs, dBin_add]
      simp only [Option.bind_assoc, bs]
      refine wst3 (off := 2) (v := .int .i64 (IntKind.wrap .i64 (x.n + n))) ho hr rfl (by simp [-Option.bind_some, talr]) rfl fun h3 q3 s3 => ?_
      have hset : (L.map talr).set k (spl (talr x) 2 (cells1 (.int .i64 (IntKind.wrap .i64 (x.n + n))))) = (addK l hst rule n k).map talr := by
        rw [← hfin, List.map_set]; rfl
      rw [hset] at q3
      simp only [bs, mkRes_one]
      have hlen : (addK l hst rule n k).length = L.length := by rw [← hfin]; simp [-Option.bind_some]
      have ow : Own h3 h.length ty106 3 ((addK l hst rule n k).map talr) (.msl 3 ob 0 L.length) := .inr ⟨ob, hob, by simp [-Option.bind_some, hlen], q3⟩
      have hsl := own_sl (n0 := h.length) (n := 3) ow (Nat.le_refl _) (fun a _ => talr_frz _ h3 _ a)
      rw [scope_eq rfl (slof_ok hsl fun a _ => talr_ok _ a) (by have := s3.1; omega) (fun q hq => (s3.2 q (by omega)).trans (hb2 q hq))]
      exact .some ⟨rfl, hsl⟩
theorem addT_len (l : List Tal) (hst : Int) (rule : Str) (n : Int) : (addT l hst rule n).length ≤ l.length + 1 := by
  unfold addT
  split
  · omega
  · have hk := kT_le ⟨hst, rule, 0⟩ l
    generalize kT ⟨hst, rule, 0⟩ l = k at hk
    unfold addK
    split
    · split
      · simp [-Option.bind_some]
      · simp [-Option.bind_some]; omega
    · simp [-Option.bind_some]; omega
theorem addT_asc {l : List Tal} (hs : TAsc l) (hst : Int) (rule : Str) (n : Int) : TAsc (addT l hst rule n) := by
  unfold addT
  split
  · exact hs
  · have hk := kT_le ⟨hst, rule, 0⟩ l
    have h1 := kT_lt ⟨hst, rule, 0⟩ l
    have h2 := kT_ge ⟨hst, rule, 0⟩ l hs
    generalize kT ⟨hst, rule, 0⟩ l = k at hk h1 h2
    have hins : (∀ x, l[k]? = some x → ¬ cmpT x ⟨hst, rule, 0⟩ = 0) → TAsc (l.take k ++ [⟨hst, rule, IntKind.wrap .i64 (0 + n)⟩] ++ l.drop k) := fun hne => by
      have hpre : ∀ x ∈ l.take k, kl x ⟨hst, rule, 0⟩ := fun x hx => by
        obtain ⟨i, hi⟩ := List.mem_iff_getElem?.1 hx
        rw [List.getElem?_take] at hi
        split at hi
        · exact (cmpT_lt _ _).1 (h1 i x hi (by assumption))
        · cases hi
      have hpost : ∀ x ∈ l.drop k, kl ⟨hst, rule, 0⟩ x := fun x hx => by
        obtain ⟨i, hi⟩ := List.mem_iff_getElem?.1 hx
        rw [List.getElem?_drop] at hi
        have hge := h2 (k + i) x hi (by omega)
        refine kl_tot (fun hh => ?_) fun hh => ?_
        · have := (cmpT_lt _ _).2 hh; omega
        · have h0 := (cmpT_eq x ⟨hst, rule, 0⟩).2 hh
          cases i with
          | zero => exact hne x hi h0
          | succ i =>
            have hlt := (List.getElem?_eq_some_iff.1 hi).1
            have hg : l[k]? = some (l[k]'(by omega)) := List.getElem?_eq_getElem (by omega)
            generalize l[k]'(by omega) = y at hg
            have hky : kl y x := by
              have := List.pairwise_iff_getElem.1 hs k (k + (i + 1)) (by omega) hlt (by omega)
              rw [List.getElem?_eq_getElem (by omega)] at hg hi
              injection hg with hg
              injection hi with hi
              rwa [hg, hi] at this
            have := h2 k y hg (Nat.le_refl _)
            have h3 : cmpT y ⟨hst, rule, 0⟩ < 0 := by
              rw [cmpT_lt]
              unfold kl at hky ⊢
              rw [hh.1, hh.2] at hky
              exact hky
            omega
      unfold TAsc
      rw [List.append_assoc, List.pairwise_append]
      refine ⟨hs.sublist (List.take_sublist _ _), ?_, fun a ha b hb => ?_⟩
      · rw [List.singleton_append, List.pairwise_cons]
        exact ⟨fun b hb => hpost b hb, hs.sublist (List.drop_sublist _ _)⟩
      · rw [List.singleton_append, List.mem_cons] at hb
        rcases hb with rfl | hb
        · exact hpre a ha
        · exact kl_tr (hpre a ha) (hpost b hb)
    unfold addK
    cases hg : l[k]? with
    | none => exact hins fun x hx => by rw [hg] at hx; cases hx
    | some y =>
      simp only
      split
      · have hkl := (List.getElem?_eq_some_iff.1 hg).1
        unfold TAsc at hs ⊢
        rw [List.pairwise_iff_getElem] at hs ⊢
        have hval : l[k] = y := (List.getElem?_eq_some_iff.1 hg).2
        intro i j hi hj hij
        have q := hs i j (by simpa [-Option.bind_some] using hi) (by simpa [-Option.bind_some] using hj) hij
        simp only [List.getElem_set]
        by_cases hki : k = i
        · subst hki
          have hkj : ¬ k = j := by omega
          simp only [if_true, hkj, if_false]
          rw [hval] at q
          exact q
        · by_cases hkj : k = j
          · subst hkj
            simp only [hki, if_false, if_true]
            rw [hval] at q
            exact q
          · simp only [hki, hkj, if_false]
            exact q
      · rename_i hne
        exact hins fun x hx => by
          rw [hg] at hx
          injection hx with hx
          subst hx
          exact hne
theorem talr_frz' {l : List Tal} {d : D} (hd : SlOf 3 talr l d) (n0 : Nat) (h : Hp) (n : Nat) : frz n0 h n d = d := by
  cases n with
  | zero => rfl
  | succ n =>
    rcases hd with ⟨rfl, _⟩ | ⟨b, rfl⟩
    · simp [-Option.bind_some]
    · refine frz_sl_id fun row hrow => ?_
      obtain ⟨a, _, rfl⟩ := List.mem_map.1 hrow
      exact talr_frz _ _ _ a
/-- All of the first occur in the second, in order. -/
def gr : List Ev → List Ev → Bool
  | [], _ => true
  | _ :: _, [] => false
  | x :: a, y :: b => if sameE x y = true then gr a b else gr (x :: a) b
def klB (x : Tal) (hst : Int) (rule : Str) : Bool := decide (x.h < hst) || (decide (x.h = hst) && Op.bytesLess x.r rule)
theorem klB_lt (x : Tal) (hst : Int) (rule : Str) : klB x hst rule = true ↔ cmpT x ⟨hst, rule, 0⟩ < 0 := by
  rw [cmpT_lt]
  simp [-Option.bind_some, klB, kl]
theorem kT_at (key : Tal) : ∀ (l : List Tal) (x : Tal), l[kT key l]? = some x → ¬ cmpT x key < 0
  | y :: r, x, hx => by
    unfold kT at hx
    split at hx
    · exact kT_at key r x (by simpa [-Option.bind_some] using hx)
    · rename_i hc
      simp [-Option.bind_some] at hx
      subst hx
      exact hc
theorem b60 (l : List Tal) (d : D) (hst : Int) (rule : Str) (h : Hp) (hd : SlOf 3 talr l d) (i : Nat) (x : Tal) (hi : l[i]? = some x) (hl : l.length ≤ 1000000) (a : D) :
    F60_L0 d (.int .i64 hst) (.str rule) [.int .i64 i, a] h = if klB x hst rule = true then some (.nrm, [.int .i64 ((i + 1 : Nat) : Int), .bool true], h) else some (.ext 0, [.int .i64 i, .bool false], h) := by
  have hlt : i < l.length := (List.getElem?_eq_some_iff.1 hi).1
  have hlt' : (i : Int) < l.length := by omega
  have hw : IntKind.wrap .i64 ((i : Int) + 1) = ((i + 1 : Nat) : Int) := by
    rw [wrap_i64 (by omega) (by omega)]; omega
  have hix : dIndexAddr tab ty58 d (.int .i64 i) = some (.fptr (talr x)) := by rw [ixs58 hd]; simp [-Option.bind_some, hi]
  by_cases h0 : x.h < hst
  · simp [-Option.bind_some, F60_L0, lens58 hd, hlt', hix, talr, klB, h0, hw]
  · by_cases h1 : x.h = hst
    · cases h2 : Op.bytesLess x.r rule
      · simp [-Option.bind_some, F60_L0, lens58 hd, hlt', hix, talr, klB, h0, h1, h2, hw]
      · simp [-Option.bind_some, F60_L0, lens58 hd, hlt', hix, talr, klB, h0, h1, h2, hw]
    · simp [-Option.bind_some, F60_L0, lens58 hd, hlt', hix, talr, klB, h0, h1, hw]
theorem l60 (l : List Tal) (d : D) (hst : Int) (rule : Str) (h : Hp) (hd : SlOf 3 talr l d) (hl : l.length ≤ 1000000) {β : Type} {K : Out → Option β} {Q : β → Prop} (a : D)
    (cont : ∀ b, Wp (K (.ext 0, [.int .i64 (kT ⟨hst, rule, 0⟩ l : Nat), b], h)) Q) : Wp ((loopW (F60_L0 d (.int .i64 hst) (.str rule)) [.int .i64 0, a] h).bind K) Q := by
  have hk := kT_le ⟨hst, rule, 0⟩ l
  have k1 := kT_lt ⟨hst, rule, 0⟩ l
  have k2 := kT_at ⟨hst, rule, 0⟩ l
  generalize kT ⟨hst, rule, 0⟩ l = k at hk k1 k2 cont
  refine Wp.loop (fun n ds g => g = h ∧ ∃ a, ∃ i : Nat, ds = [.int .i64 i, a] ∧ n + i = k) (fun r => ∃ b, r = (.ext 0, [.int .i64 (k : Nat), b], h)) k ⟨rfl, _, 0, rfl, rfl⟩ ?_ ?_
  · rintro n ds g ⟨rfl, a, i, rfl, hi⟩
    by_cases hil : i < l.length
    · have hg : l[i]? = some l[i] := List.getElem?_eq_getElem hil
      generalize l[i] = x at hg
      rw [b60 l d hst rule g hd i x hg hl]
      by_cases hc : klB x hst rule = true
      · rw [if_pos hc]
        have : i ≠ k := fun hh => by subst hh; exact k2 x hg ((klB_lt _ _ _).1 hc)
        exact .some (.inl ⟨rfl, n - 1, by omega, rfl, _, i + 1, rfl, by omega⟩)
      · rw [if_neg hc]
        have : i = k := by
          rcases Nat.lt_or_ge i k with hh | hh
          · exact absurd ((klB_lt _ _ _).2 (k1 i x hg hh)) hc
          · omega
        subst this
        exact .some (.inr ⟨by simp [-Option.bind_some], _, rfl⟩)
    · have : i = k := by omega
      subst this
      have hn : ¬ (i : Int) < l.length := by omega
      have e : F60_L0 d (.int .i64 hst) (.str rule) [.int .i64 i, a] g = some (.ext 0, [.int .i64 i, .bool false], g) := by
        simp [-Option.bind_some, F60_L0, lens58 hd, hn]
      rw [e]
      exact .some (.inr ⟨by simp [-Option.bind_some], _, rfl⟩)
  · rintro _ ⟨b, rfl⟩
    exact cont b
theorem app_t (h : Hp) (rows : List (List D)) (r : List D) (b : Bool) (hl : rows.length ≤ 1000000) : dAppend tab h ty58 ty58 (.sl 3 true rows) (.sl 3 b [r]) = some (.msl 3 h.length 0 (rows.length + 1), dNew h ty106 3 (rows ++ [r])) := by
  have e1 : tab ty58 = some ti58 := rfl
  have e2 : ti58.td = .sl ty106 := rfl
  have e3 : tab ty106 = some ti106 := rfl
  have e4 : ti106.sz = 3 := rfl
  have hlim : lim (rows.length + 1) ti106.by_ = true := lim106 (by omega)
  have e5 : Nat.blt 0 3 = true := rfl
  simp [-Option.bind_some, dAppend, dSrc, dRowsOf, e1, e2, e3, e4, e5, hlim]
theorem app_n (h : Hp) (r : List D) (b : Bool) : dAppend tab h ty58 ty58 .nils (.sl 3 b [r]) = some (.msl 3 h.length 0 1, dNew h ty106 3 [r]) := by
  have e1 : tab ty58 = some ti58 := rfl
  have e2 : ti58.td = .sl ty106 := rfl
  have e3 : tab ty106 = some ti106 := rfl
  have e4 : ti106.sz = 3 := rfl
  have hlim : lim 1 ti106.by_ = true := lim106 (by omega)
  have e5 : Nat.blt 0 3 = true := rfl
  simp [-Option.bind_some, dAppend, dSrc, dRowsOf, e1, e2, e3, e4, e5, hlim]
/-- A part of a copy, with one more. -/
theorem cut_t {h : Hp} {n0 : Nat} {rows : List (List D)} {x : D} (ow : Own h n0 ty106 3 rows x) (hl : rows.length ≤ 1000000) (i : Nat) (hi : i ≤ rows.length) (r : List D) (b : Bool) (hn0 : n0 ≤ h.length) :
    ∃ y h1, dCut tab h ty58 false true [x, .int .i64 i, .int .i64 i] = some (y, h1) ∧ h.length ≤ h1.length ∧ (∀ q, q < n0 → h1[q]? = h[q]?) ∧ ∃ z h2, dAppend tab h1 ty58 ty58 y (.sl 3 b [r]) = some (z, h2) ∧ Own h2 n0 ty106 3 (rows.take i ++ [r]) z ∧ h.length ≤ h2.length ∧ ∀ q, q < n0 → h2[q]? = h[q]? := by
  have e1 : tab ty58 = some ti58 := rfl
  have e2 : ti58.td = .sl ty106 := rfl
  have e3 : tab ty106 = some ti106 := rfl
  have e4 : ti106.sz = 3 := rfl
  have fin : ∀ (y : D) (h1 : Hp), h.length ≤ h1.length → (∀ q, q < n0 → h1[q]? = h[q]?) → dAppend tab h1 ty58 ty58 y (.sl 3 b [r]) = some (.msl 3 h1.length 0 ((rows.take i).length + 1), dNew h1 ty106 3 (rows.take i ++ [r])) →
      ∃ z h2, dAppend tab h1 ty58 ty58 y (.sl 3 b [r]) = some (z, h2) ∧ Own h2 n0 ty106 3 (rows.take i ++ [r]) z ∧ h.length ≤ h2.length ∧ ∀ q, q < n0 → h2[q]? = h[q]? := fun y h1 hl1 hb1 e =>
    ⟨_, _, e, .inr ⟨h1.length, by omega, by simp [-Option.bind_some], dNew_get _ _ _ _⟩, by simp [-Option.bind_some, dNew]; omega, fun q hq => by rw [dNew_old _ _ _ _ (by omega)]; exact hb1 q hq⟩
  rcases ow with ⟨rfl, rfl⟩ | ⟨ob, hob, rfl, ho⟩
  · have hi0 : i = 0 := by simpa [-Option.bind_some] using hi
    subst hi0
    refine ⟨.nils, h, by simp [-Option.bind_some, dCut, dSliceAt, dInt?, dSlice3, e1, e2, e3], Nat.le_refl _, fun _ _ => rfl, fin _ _ (Nat.le_refl _) (fun _ _ => rfl) (by simpa [-Option.bind_some] using app_n h r b)⟩
  · by_cases hi0 : i = 0
    · subst hi0
      refine ⟨.sl 3 true [], h, by simp [-Option.bind_some, dCut, dSliceAt, dInt?, dSlice3, e1, e2, e3, e4], Nat.le_refl _, fun _ _ => rfl, fin _ _ (Nat.le_refl _) (fun _ _ => rfl) (by simpa [-Option.bind_some] using app_t h [] r b (by simp [-Option.bind_some]))⟩
    · have hlt := (List.getElem?_eq_some_iff.1 ho).1
      have hir : (i : Int) ≤ (rows.length : Int) := by omega
      have hi1 : ¬ (i : Int) = 0 := by omega
      refine ⟨.sl 3 true (rows.take i), h.set ob .dead, ?_, by simp [-Option.bind_some], fun q hq => by rw [List.getElem?_set_ne (by omega)], fin _ _ (by simp [-Option.bind_some]) (fun q hq => by rw [List.getElem?_set_ne (by omega)]) (app_t _ _ r b (by simp [-Option.bind_some]; omega))⟩
      have hs : dSliceAt tab ty58 false true true [.msl 3 ob 0 rows.length, .int .i64 i, .int .i64 i] = none := by
        simp [-Option.bind_some, dSliceAt, dInt?, dSlice3, e1, e2, e3, e4, hi1]
        intro _; exact hi0
      simp only [dCut, hs, ho, e1, e2, e3, e4, true_and, Int.natCast_nonneg, hir, Nat.le_refl, and_self, if_true, Int.toNat_natCast]
end Go.Proofs.Ytfjbbeleejnbgaa
