/- Laws, on plain data, about functions that the statement reaches. -/
import Derived.Test.YthaajlepgblimaaDoorT9
set_option linter.unusedSimpArgs false
set_option linter.unusedVariables false
set_option linter.unnecessarySimpa false
set_option maxRecDepth 100000
namespace Go.Proofs.YthaajlepgblimaaDoor
open Go.Eng Go.Pi
open Option (bind_some)
abbrev Str := List UInt8
def fld (p : Str × Str) : List D := [.str p.1, .str p.2]
structure Lin where
  off : Int
  len : Int
  txt : Str
  deriving DecidableEq
def linr (l : Lin) : List D := [.int .i64 l.off, .int .i64 l.len, .str l.txt]
structure Ev where
  a0 : Int
  a1 : Int
  a2 : Int
  a3 : Int
  ls : List Lin
  ld : D
  a5 : Int
  a6 : Int
  s7 : Str
  s8 : Str
  fs : List (Str × Str)
  fd : D
  hfd : SlOf 2 fld fs fd
  hl : fs.length ≤ 9223372036854775807
  hld : SlOf 3 linr ls ld
  hll : ls.length ≤ 9223372036854775807
def evr (e : Ev) : List D := [.int .i64 e.a0, .int .i64 e.a1, .int .i64 e.a2, .int .i64 e.a3, e.ld, .int .i64 e.a5, .int .i64 e.a6, .str e.s7, .str e.s8, e.fd]
structure It where
  r : Str
  e : Ev
def itr (i : It) : List D := .str i.r :: evr i.e
theorem fld_frz (n0 : Nat) (h : Hp) (n : Nat) (p : Str × Str) : ∀ d ∈ fld p, frz n0 h n d = d := by simp [-bind_some, fld]
theorem fld_ok (n : Nat) (p : Str × Str) : ∀ d ∈ fld p, Ok n d := by
  intro d hd
  simp [-bind_some, fld] at hd
  rcases hd with rfl | rfl <;> constructor
theorem linr_frz (n0 : Nat) (h : Hp) (n : Nat) (p : Lin) : ∀ d ∈ linr p, frz n0 h n d = d := by simp [-bind_some, linr]
theorem linr_ok (n : Nat) (p : Lin) : ∀ d ∈ linr p, Ok n d := by
  intro d hd
  simp [-bind_some, linr] at hd
  rcases hd with rfl | rfl | rfl <;> constructor
theorem evr_frz (n0 : Nat) (h : Hp) (n : Nat) (e : Ev) : ∀ d ∈ evr e, frz n0 h (n + 1) d = d := by
  intro d hd
  simp [-bind_some, evr] at hd
  rcases hd with rfl | rfl | rfl | rfl | rfl | rfl | rfl | rfl | rfl | rfl
  all_goals first | exact slof_frz e.hld (fun a _ => linr_frz _ _ _ a) | exact slof_frz e.hfd (fun a _ => fld_frz _ _ _ a) | simp [-bind_some]
theorem evr_ok (n : Nat) (e : Ev) : ∀ d ∈ evr e, Ok n d := by
  intro d hd
  simp [-bind_some, evr] at hd
  rcases hd with rfl | rfl | rfl | rfl | rfl | rfl | rfl | rfl | rfl | rfl
  all_goals first | exact slof_ok e.hld (fun a _ => linr_ok _ a) | exact slof_ok e.hfd (fun a _ => fld_ok _ a) | constructor
theorem itr_ok (n : Nat) (i : It) : Ok n (.agg (itr i)) := by
  refine .agg _ fun d hd => ?_
  simp [-bind_some, itr, evr] at hd
  rcases hd with rfl | rfl | rfl | rfl | rfl | rfl | rfl | rfl | rfl | rfl | rfl
  all_goals first | exact slof_ok i.e.hld (fun a _ => linr_ok _ a) | exact slof_ok i.e.hfd (fun a _ => fld_ok _ a) | constructor
theorem itr_frz (n0 : Nat) (h : Hp) (n : Nat) (i : It) : ∀ d ∈ itr i, frz n0 h (n + 1) d = d := by
  intro d hd
  rcases List.mem_cons.1 hd with rfl | hd
  · simp [-bind_some]
  · exact evr_frz n0 h n i.e d hd
theorem itr_oks (n : Nat) (i : It) : ∀ d ∈ itr i, Ok n d := by
  intro d hd
  rcases List.mem_cons.1 hd with rfl | hd
  · exact .str _
  · exact evr_ok n i.e d hd
theorem evL (e : Ev) (h : Hp) : dLoad tab h ty31 (.fptr (evr e)) = some (.agg (evr e)) := id rfl
theorem itF1 (i : It) : dFieldAddr tab ty74 1 (.fptr (itr i)) = some (.fptr (evr i.e)) := id rfl
theorem itF0 (i : It) : dFieldAddr tab ty74 0 (.fptr (itr i)) = some (.fptr (itr i)) := id rfl
theorem itL0 (i : It) (h : Hp) : dLoad tab h ty9 (.fptr (itr i)) = some (.str i.r) := id rfl
theorem ldIt (i : It) (h : Hp) : dLoad tab h ty74 (.fptr (itr i)) = some (.agg (itr i)) := id rfl
theorem boxIt (i : It) : boxN 11 (.agg (itr i)) = some (.fptr (itr i)) := boxN_agg 11 _ rfl
theorem bsIt (i : It) : pLitF tab ty113 1 [0] [.agg (itr i)] = some (.sl 11 true [itr i]) := id rfl
theorem toIt (i : It) (h : Hp) : ((dFieldAddr tab ty74 1 (.fptr (itr i))).bind fun p => (dFieldAddr tab ty31 3 p).bind fun q => dLoad tab h ty3 q) = some (.int .i64 i.e.a3) := by simp [-bind_some, itr, evr]
theorem own_dis {h : Hp} {n e z n' e' z' q : Nat} {rows rows' : List (List D)} {d d' : D} (a : Own h n e z rows d) (b : Own h n' e' z' rows' d') (hne : e ≠ e') (hd : d.inOb q) : ¬ d'.inOb q := by
  rintro ⟨z2, m2, rfl⟩
  obtain ⟨z1, m1, rfl⟩ := hd
  rcases a with ⟨ha, _⟩ | ⟨o1, _, ha, ga⟩
  · cases ha
  rcases b with ⟨hb, _⟩ | ⟨o2, _, hb, gb⟩
  · cases hb
  injection ha with _ ha
  injection hb with _ hb
  subst ha; subst hb
  rw [ga] at gb
  injection gb with gb
  injection gb with gb
  exact hne gb
theorem linr_ld (l : Lin) (h : Hp) : dLoad tab h ty78 (.fptr (linr l)) = some (.agg (linr l)) := id rfl
theorem fld_ld (l : Str × Str) (h : Hp) : dLoad tab h ty109 (.fptr (fld l)) = some (.agg (fld l)) := id rfl
theorem fld_neq (a b : Str × Str) : dBin tab .neq ty109 (.agg (fld a)) (.agg (fld b)) = some (.bool (decide (a ≠ b))) := by
  obtain ⟨a0, a1⟩ := a
  obtain ⟨b0, b1⟩ := b
  simp [-bind_some, fld]
  by_cases h0 : a0 = b0 <;> by_cases h1 : a1 = b1 <;> simp [-bind_some, h0, h1]

theorem wrap_u64 {n : Int} (h0 : 0 ≤ n) (h1 : n < 18446744073709551616) : IntKind.wrap .u64 n = n := by
  unfold IntKind.wrap
  simp [-bind_some, IntKind.signed, IntKind.bits, IntKind.min, IntKind.max]
  omega
theorem s95 (l r : List (Str × Str)) (d e : D) (h : Hp) (hd : SlOf 2 fld l d) (he : SlOf 2 fld r e) (hl : l.length ≤ 9223372036854775807) : R fn95 [d, e] h = some (.bool (decide (l = r)), h) := by
  suffices Wp (R fn95 [d, e] h) (fun p => p = (.bool (decide (l = r)), h)) by
    obtain ⟨p, h1, rfl⟩ := this
    exact h1
  rw [e95]
  simp only [F95, bs, Option.bind_assoc, lens29 hd, lens29 he, dBin_neq]
  refine Wp.dif ?_ ?_
  · intro hn
    have hn : l.length ≠ r.length := by have : ¬ (l.length : Int) = r.length := by simpa using hn
                                        omega
    have hne : l ≠ r := fun hh => hn (by rw [hh])
    simp only [bs, mkRes_one]
    exact .some (by simp [-bind_some, hne])
  · intro hn
    have hn : l.length = r.length := by have : (l.length : Int) = r.length := by simpa using hn
                                        omega
    refine Wp.loop (fun k ds g => g = h ∧ ∃ a b c, ∃ i : Nat, ds = [a, .int .i64 i, b, c] ∧ k + i = l.length ∧ l.take i = r.take i)
      (fun x => x.2.2 = h ∧ ((x.1 = .ret ∧ nth 0 x.2.1 = .bool false ∧ l ≠ r) ∨ (x.1 = .ext 0 ∧ l = r))) l.length ⟨rfl, _, _, _, 0, rfl, rfl, rfl⟩ ?_ ?_
    · rintro k ds g ⟨rfl, a, b, c, i, rfl, hk, hi⟩
      simp only [F95_L0, nth_zero, nth_succ, bs, Option.bind_assoc, lens29 hd, dBin_lss]
      refine Wp.dif ?_ ?_
      · intro h0
        have h0 : i < l.length := by have : (i : Int) < l.length := by simpa using h0
                                     omega
        have hg : l[i]? = some l[i] := List.getElem?_eq_getElem h0
        have hg2 : r[i]? = some (r[i]'(by omega)) := List.getElem?_eq_getElem (by omega)
        have hw : IntKind.wrap .i64 ((i : Int) + 1) = ((i + 1 : Nat) : Int) := by
          rw [wrap_i64 (by omega) (by omega)]; omega
        generalize l[i] = x at hg
        generalize r[i]'(by omega) = y at hg2
        simp only [ixs29 hd, ixs29 he, Int.natCast_nonneg, if_true, Int.toNat_natCast, hg, hg2, Option.map_some, bs, fld_ld, fld_neq]
        refine Wp.dif ?_ ?_
        · intro hxy
          have hxy : x ≠ y := by simpa using hxy
          try simp only [bs]
          refine .some (.inr ⟨by simp, rfl, .inl ⟨rfl, rfl, fun hh => ?_⟩⟩)
          subst hh
          rw [hg] at hg2
          injection hg2 with hg2
          exact hxy hg2
        · intro hxy
          have hxy : x = y := by simpa using hxy
          subst hxy
          simp only [dBin_add, bs, hw]
          refine .some (.inl ⟨rfl, k - 1, by omega, rfl, _, _, _, i + 1, rfl, by omega, ?_⟩)
          rw [List.take_add_one, List.take_add_one, hi, hg, hg2]
      · intro h0
        have h0 : i = l.length := by have : ¬ (i : Int) < l.length := by simpa using h0
                                     omega
        refine .some (.inr ⟨by simp, rfl, .inr ⟨rfl, ?_⟩⟩)
        have h1 : l.take i = l := List.take_of_length_le (by omega)
        have h2 : r.take i = r := List.take_of_length_le (by omega)
        rw [← h1, ← h2, hi]
    · rintro ⟨x, ds, g⟩ ⟨rfl, ⟨rfl, hx, hne⟩ | ⟨rfl, hll⟩⟩
      · replace hx : nth 0 ds = .bool false := hx
        simp only [unblk_ret, toEnd_ret, exEnd_ret, nth_zero, bs, hx, mkRes_one]
        exact .some (by simp [-bind_some, hne])
      · simp only [unblk_self, toEnd_nrm, bs, mkRes_one]
        exact .some (by simp [-bind_some, hll])
def sameE (a b : Ev) : Bool := decide (a.a0 = b.a0) && (decide (a.a1 = b.a1) && (decide (a.a2 = b.a2) && (decide (a.a3 = b.a3) && (decide (a.a5 = b.a5) && (decide (a.a6 = b.a6) && (decide (a.s7 = b.s7) && (decide (a.s8 = b.s8) && (decide (a.ls = b.ls) && decide (a.fs = b.fs)))))))))
def idx {α : Type} (pr : α → Bool) : Nat → List α → Int
  | _, [] => -1
  | k, x :: r => if pr x = true then k else idx pr (k + 1) r
theorem idx_any {α : Type} (pr : α → Bool) : ∀ (l : List α) (k : Nat), decide (0 ≤ idx pr k l) = l.any pr
  | [], k => by simp [-bind_some, idx]
  | x :: r, k => by
    unfold idx
    by_cases h : pr x = true
    · simp [-bind_some, h]
    · simp [-bind_some, h, idx_any pr r]
theorem given_len {zs : List Int} {d : D} (hd : Given .u8 zs d) : dLenT tab ty22 d = some (.int .i64 zs.length) := by
  rcases hd with ⟨rfl, rfl⟩ | rfl
  · rfl
  · simp [-bind_some, ints]
theorem s57 (o pos : Nat) (zs : List Int) (d : D) (h : Hp) (ho : h[o]? = some (.row ty101 2 [[d, .int .i64 pos]])) (hd : Given .u8 zs d) : R fn57 [.ptr o 0 0] h = some (.bool (decide (pos < zs.length)), h) := by
  rw [e57]
  simp [-bind_some, F57, Hp.row, ho, given_len hd]
theorem given_ix {zs : List Int} {d : D} (hd : Given .u8 zs d) (i : Nat) (z : Int) (hz : zs[i]? = some z) : dIndexAddr tab ty22 d (.int .i64 i) = some (.fptr [.int .u8 z]) := by
  rcases hd with ⟨rfl, rfl⟩ | rfl
  · cases hz
  · simp [-bind_some, ints, hz]
theorem store_ptr3 (h : Hp) (o k f : Nat) (v : D) : dStore tab h ty3 (.ptr o k f) v = pSt 1 h (.ptr o k f) v := rfl
theorem s24 (o pos : Nat) (zs : List Int) (d : D) (n z : Int) (h : Hp) (ho : h[o]? = some (.row ty101 2 [[d, .int .i64 pos]])) (hd : Given .u8 zs d) (hn : 1 ≤ n) (hn2 : n ≤ 1000000000) (hz : zs[pos]? = some z) (hz0 : 0 ≤ z) (hz1 : z < 256) (hl : zs.length ≤ 1000) :
    R fn24 [.ptr o 0 0, .int .i64 n] h = some (.int .i64 (z * n / 256), h.set o (.row ty101 2 [[d, .int .i64 ((pos + 1 : Nat) : Int)]])) := by
  have hp : pos < zs.length := (List.getElem?_eq_some_iff.1 hz).1
  have hn' : ¬ n < 1 := by omega
  have hw : IntKind.wrap .i64 ((pos : Int) + 1) = (pos : Int) + 1 := wrap_i64 (by omega) (by omega)
  have hzw : IntKind.wrap .i64 z = z := wrap_i64 (by omega) (by omega)
  rw [e24]
  simp [-bind_some, F24, s57 o pos zs d h ho hd, hp, hn', Hp.row, ho, given_ix hd pos z hz, hw, hzw, store_ptr3, pSt, D.okv, cells1, D.one, spl]
  have h0 : 0 ≤ z * n := Int.mul_nonneg hz0 (by omega)
  have h1 : z * n ≤ 255 * 1000000000 := Int.mul_le_mul (by omega) hn2 (by omega) (by omega)
  have e1 : IntKind.wrap .i64 (z * n) = z * n := wrap_i64 (by omega) (by omega)
  rw [e1, Int.tdiv_eq_ediv_of_nonneg h0, wrap_i64 (by omega) (by omega)]
def CO (h : Hp) (o : Nat) (rest : List Int) : Prop := ∃ (d : D) (zs : List Int) (pos : Nat), h[o]? = some (.row ty101 2 [[d, .int .i64 pos]]) ∧ Given .u8 zs d ∧ zs.length ≤ 1000 ∧ rest = zs.drop pos ∧ ∀ z ∈ zs, 0 ≤ z ∧ z < 256
def nx (n : Int) : List Int → Int × List Int
  | [] => (0, [])
  | z :: r => if n < 1 then (0, z :: r) else (z * n / 256, r)
theorem left_ok {h : Hp} {o : Nat} {rest : List Int} (hc : CO h o rest) : R fn57 [.ptr o 0 0] h = some (.bool (decide (rest ≠ [])), h) := by
  obtain ⟨d, zs, pos, ho, hd, hl, rfl, hz⟩ := hc
  rw [s57 o pos zs d h ho hd]
  have : (pos < zs.length) ↔ zs.drop pos ≠ [] := by
    rw [ne_eq, List.drop_eq_nil_iff]; omega
  congr 3
  exact decide_eq_decide.2 this
theorem next_ok {h : Hp} {o : Nat} {rest : List Int} (hc : CO h o rest) (n : Int) (hn2 : n ≤ 1000000000) : ∃ h', R fn24 [.ptr o 0 0, .int .i64 n] h = some (.int .i64 (nx n rest).1, h') ∧ CO h' o (nx n rest).2 ∧ Same o h h' := by
  have hl := left_ok hc
  cases hr : rest with
  | nil =>
    subst hr
    refine ⟨h, ?_, hc, .refl _ _⟩
    rw [e24]
    simp [-bind_some, F24, hl, nx]
  | cons z r =>
    by_cases hn : n < 1
    · refine ⟨h, ?_, by simpa [-bind_some, nx, hn, hr] using hc, .refl _ _⟩
      rw [e24]
      simp [-bind_some, F24, hl, nx, hn, hr]
    · obtain ⟨d, zs, pos, ho, hd, hl4, hrest, hz⟩ := hc
      have hzp : zs[pos]? = some z := by
        have : (zs.drop pos)[0]? = some z := by rw [← hrest, hr]; rfl
        simpa using this
      have hm := hz z (List.mem_of_getElem? hzp)
      have holt : o < h.length := (List.getElem?_eq_some_iff.1 ho).1
      refine ⟨_, (s24 o pos zs d n z h ho hd (by omega) hn2 hzp hm.1 hm.2 hl4).trans (by rw [show (nx n (z :: r)).1 = z * n / 256 by simp [-bind_some, nx, hn]]), ?_, ?_⟩
      · refine ⟨d, zs, pos + 1, by simp [-bind_some, holt], hd, hl4, ?_, hz⟩
        have : (zs.drop pos).drop 1 = r := by rw [← hrest, hr]; rfl
        simpa [-bind_some, nx, hn] using this.symm
      · exact ⟨by simp, fun q hq => by rw [List.getElem?_set_ne (by omega)]⟩
theorem nx_bound (n : Int) (rest : List Int) (h : ∀ z ∈ rest, 0 ≤ z ∧ z < 256) : 0 ≤ (nx n rest).1 ∧ (1 ≤ n → (nx n rest).1 < n) := by
  cases rest with
  | nil => simp [-bind_some, nx]; omega
  | cons z r =>
    have := h z (by simp)
    unfold nx
    by_cases hn : n < 1
    · simp [-bind_some, hn]; omega
    · simp only [hn, if_false]
      have h0 : 0 ≤ z * n := Int.mul_nonneg this.1 (by omega)
      have h1 : z * n ≤ 255 * n := Int.mul_le_mul_of_nonneg_right (by omega) (by omega)
      constructor
      · omega
      · intro _; omega
def CD (h : Hp) (o : Nat) : Prop := ∃ rest, CO h o rest
theorem CD.keep {h h' : Hp} {o : Nat} (hc : CD h o) (he : h'[o]? = h[o]?) : CD h' o := by
  obtain ⟨rest, d, zs, pos, ho, hr⟩ := hc
  exact ⟨rest, d, zs, pos, by rw [he]; exact ho, hr⟩
theorem CD.lt {h : Hp} {o : Nat} (hc : CD h o) : o < h.length := by
  obtain ⟨rest, d, zs, pos, ho, hr⟩ := hc
  exact (List.getElem?_eq_some_iff.1 ho).1
theorem CD.ok {h : Hp} {o : Nat} (hc : CD h o) (n : Nat) : ∀ T sz rows, h[o]? = some (.row T sz rows) → ∀ row ∈ rows, ∀ d ∈ row, Ok n d := by
  obtain ⟨rest, d, zs, pos, ho, hd, _⟩ := hc
  intro T sz rows hr row hrow x hx
  rw [ho] at hr
  injection hr with hr
  injection hr with _ _ hr
  subst hr
  simp at hrow
  subst hrow
  simp at hx
  rcases hx with rfl | rfl
  · exact given_okd hd n
  · exact .int _ _
theorem next_b {h : Hp} {o : Nat} (hc : CD h o) (n : Int) (hn : 1 ≤ n) (hn2 : n ≤ 1000000000) : ∃ v h', R fn24 [.ptr o 0 0, .int .i64 n] h = some (.int .i64 v, h') ∧ CD h' o ∧ Same o h h' ∧ 0 ≤ v ∧ v < n := by
  obtain ⟨rest, hc⟩ := hc
  obtain ⟨h', h1, h2, h3⟩ := next_ok hc n hn2
  have hb : ∀ z ∈ rest, 0 ≤ z ∧ z < 256 := by
    obtain ⟨d, zs, pos, ho, hd, hl, rfl, hz⟩ := hc
    exact fun z hz' => hz z (List.mem_of_mem_drop hz')
  exact ⟨_, h', h1, ⟨_, h2⟩, h3, (nx_bound n rest hb).1, (nx_bound n rest hb).2 hn⟩
theorem d102 {h : Hp} {o : Nat} (hc : CD h o) : ∃ s h', R fn102 [.ptr o 0 0] h = some (.str s, h') ∧ CD h' o ∧ Same o h h' ∧ s.length ≤ 7 := by
  obtain ⟨v, h', h1, h2, h3, h4, h5⟩ := next_b hc 14 (by omega) (by omega)
  obtain ⟨s, hs, hg⟩ := pick_of lt98_10 v h4 h5
  refine ⟨s, h', ?_, h2, h3, ?_⟩
  · rw [e102]; simp [-bind_some, F102, h1, h4, hg]
  · exact (show ∀ s ∈ lt98_10, s.length ≤ 7 by decide) s hs
theorem d33 {h : Hp} {o : Nat} (hc : CD h o) : ∃ s h', R fn33 [.ptr o 0 0] h = some (.str s, h') ∧ CD h' o ∧ Same o h h' ∧ s.length ≤ 19 := by
  obtain ⟨v, h', h1, h2, h3, h4, h5⟩ := next_b hc 11 (by omega) (by omega)
  obtain ⟨s, hs, hg⟩ := pick_of lt98_1 v h4 h5
  refine ⟨s, h', ?_, h2, h3, ?_⟩
  · rw [e33]; simp [-bind_some, F33, h1, h4, hg]
  · exact (show ∀ s ∈ lt98_1, s.length ≤ 19 by decide) s hs
theorem d97 {h : Hp} {o : Nat} (hc : CD h o) : ∃ n h', R fn97 [.ptr o 0 0] h = some (.int .i64 n, h') ∧ CD h' o ∧ Same o h h' ∧ 1 ≤ n ∧ n ≤ 5040 ∧ Int.tmod 5040 n = 0 := by
  obtain ⟨v, h', h1, h2, h3, h4, h5⟩ := next_b hc 6 (by omega) (by omega)
  obtain ⟨s, hs, hg⟩ := pick_of lt82_8 v h4 h5
  refine ⟨s, h', ?_, h2, h3, ?_⟩
  · rw [e97]; simp [-bind_some, F97, h1, h4, hg]
  · exact (show ∀ s ∈ lt82_8, 1 ≤ s ∧ s ≤ 5040 ∧ Int.tmod 5040 s = 0 by decide) s hs
theorem d35 {h : Hp} {o : Nat} (hc : CD h o) : ∃ n h', R fn35 [.ptr o 0 0] h = some (.int .i64 n, h') ∧ CD h' o ∧ Same o h h' ∧ 0 ≤ n ∧ n ≤ 253402300799999 := by
  obtain ⟨v, h', h1, h2, h3, h4, h5⟩ := next_b hc 4 (by omega) (by omega)
  rw [e35]
  by_cases v0 : v = 0
  · obtain ⟨u, g', g1, g2, g3, g4, g5⟩ := next_b h2 40 (by omega) (by omega)
    refine ⟨u * 86400000, g', ?_, g2, h3.trans g3, by omega, by omega⟩
    simp [-bind_some, F35, h1, v0, g1, wrap_i64 (n := u * 86400000) (by omega) (by omega)]
  · by_cases v1 : v = 1
    · obtain ⟨u, g', g1, g2, g3, g4, g5⟩ := next_b h2 3 (by omega) (by omega)
      refine ⟨253402300799999 - u * 86400000, g', ?_, g2, h3.trans g3, by omega, by omega⟩
      simp [-bind_some, F35, h1, v0, v1, g1, wrap_i64 (n := u * 86400000) (by omega) (by omega), wrap_i64 (n := 253402300799999 - u * 86400000) (by omega) (by omega)]
    · obtain ⟨u, g', g1, g2, g3, g4, g5⟩ := next_b h2 60 (by omega) (by omega)
      refine ⟨1000 + u, g', ?_, g2, h3.trans g3, by omega, by omega⟩
      simp [-bind_some, F35, h1, v0, v1, g1, wrap_i64 (n := 1000 + u) (by omega) (by omega)]
structure St (h0 : Hp) (o : Nat) (g : Hp) : Prop where
  lt : o < h0.length
  cd : CD g o
  gr : Grow h0.length o h0 g
theorem St.refl {h : Hp} {o : Nat} (hc : CD h o) : St h o h := ⟨hc.lt, hc, .refl _ _ _⟩
theorem St.next {h0 g g' : Hp} {o : Nat} (s : St h0 o g) (hc : CD g' o) (hs : Same o g g') : St h0 o g' := ⟨s.lt, hc, s.gr.trans hs.grow⟩
theorem St.app {h0 g g' : Hp} {o : Nat} (s : St h0 o g) (hl : g.length ≤ g'.length) (hb : ∀ q, q < h0.length → g'[q]? = g[q]?) : St h0 o g' := ⟨s.lt, s.cd.keep (hb o s.lt), s.gr.trans ⟨hl, fun q hq _ => hb q hq⟩⟩
theorem St.le {h0 g : Hp} {o : Nat} (s : St h0 o g) : h0.length ≤ g.length := s.gr.1
theorem St.scope {h0 g : Hp} {o : Nat} (s : St h0 o g) {d d' : D} (hd : frz h0.length g 4 d = d') (hok : Ok h0.length d') : ∃ h', scope h0 g d = some (d', h') ∧ CD h' o ∧ Same o h0 h' := by
  obtain ⟨h1, h2, h3⟩ := scope_same hd hok s.gr (s.cd.ok h0.length)
  exact ⟨_, h1, s.cd.keep (h3 o s.lt), h2⟩
theorem d44 (zs : List Int) (d : D) (n : Int) (h : Hp) (hd : Given .u8 zs d) (hn : 0 ≤ n) (hn2 : n ≤ 1000) (hz : ∀ z ∈ zs, 0 ≤ z ∧ z < 256) : ∃ h', R fn44 [d, .int .i64 n] h = some (.ptr h.length 0 0, h') ∧ CD h' h.length ∧ h'.length = h.length + 1 := by
  rw [e44]
  have hm : ∃ m : Int, dMin (.int .i64 zs.length) (.int .i64 n) = some (.int .i64 m) ∧ 0 ≤ m ∧ m ≤ zs.length ∧ m ≤ 1000 := by
    rw [dMin_int]
    split
    · exact ⟨_, rfl, by omega, by omega, by omega⟩
    · exact ⟨_, rfl, by omega, by omega, by omega⟩
  obtain ⟨m, hm, h0, h1, h2⟩ := hm
  obtain ⟨d', hs, hg⟩ := given_hi (T := tab) (t := ty22) (i := ti22) (j := ti5) (id rfl) (id rfl) (id rfl) (id rfl) hd (k2 := .i64) h0 h1
  simp only [F44, bs, given_len hd, hm, hs, bd101_0 d' (given_one hg)]
  rw [wBox_agg ty101 2 h [d', .int .i64 0] rfl (by omega)]
  refine ⟨_, rfl, ⟨_, d', zs.take m.toNat, 0, by simp [-bind_some, dNew], hg, ?_, rfl, fun z hz' => hz z (List.mem_of_mem_take hz')⟩, by simp [-bind_some, dNew]⟩
  simp [-bind_some]; omega
theorem d47 {h : Hp} {o : Nat} (hc : CD h o) : ∃ n h', R fn47 [.ptr o 0 0] h = some (.int .i64 n, h') ∧ CD h' o ∧ Same o h h' ∧ -9223372036854775808 ≤ n ∧ n ≤ 9223372036854775807 := by
  obtain ⟨v, h', h1, h2, h3, h4, h5⟩ := next_b hc 16 (by omega) (by omega)
  rw [e47]
  by_cases v0 : v = 15
  · obtain ⟨u, g', g1, g2, g3, g4, g5⟩ := next_b h2 6 (by omega) (by omega)
    obtain ⟨s, hs, hg⟩ := pick_of lt82_3 u g4 g5
    have := (show ∀ s ∈ lt82_3, -9223372036854775808 ≤ s ∧ s ≤ 9223372036854775807 by decide) s hs
    refine ⟨s, g', ?_, g2, h3.trans g3, this.1, this.2⟩
    simp [-bind_some, F47, h1, v0, g1, g4, hg]
  · obtain ⟨u, g', g1, g2, g3, g4, g5⟩ := next_b h2 256 (by omega) (by omega)
    obtain ⟨w, k', k1, k2, k3, k4, k5⟩ := next_b g2 6 (by omega) (by omega)
    have hq : ¬ w < 0 := by omega
    generalize hp : (2 ^ (min w.toNat IntKind.i64.bits) : Int) = p
    have hpp : 0 < p := by rw [← hp]; exact Int.pow_pos (by omega)
    have hf : 0 ≤ u.fdiv p ∧ u.fdiv p ≤ u := by
      rw [Int.fdiv_eq_ediv_of_nonneg _ (by omega)]
      exact ⟨Int.ediv_nonneg g4 (by omega), Int.ediv_le_self _ g4⟩
    have ht : 0 ≤ v.tdiv 8 ∧ v.tdiv 8 ≤ 1 := by
      rw [Int.tdiv_eq_ediv_of_nonneg h4]; omega
    refine ⟨u.fdiv p - v.tdiv 8, k', ?_, k2, (h3.trans g3).trans k3, by omega, by omega⟩
    simp [-bind_some, F47, h1, v0, g1, k1, hq, hp, wrap_i64 (n := v.tdiv 8) (by omega) (by omega), wrap_i64 (n := u.fdiv p - v.tdiv 8) (by omega) (by omega)]
theorem d96 {h : Hp} {o : Nat} (hc : CD h o) : ∃ s h', R fn96 [.ptr o 0 0] h = some (.str s, h') ∧ CD h' o ∧ Same o h h' ∧ s.length ≤ 34 := by
  suffices Wp (R fn96 [.ptr o 0 0] h) (fun p => ∃ s, p.1 = .str s ∧ CD p.2 o ∧ Same o h p.2 ∧ s.length ≤ 34) by
    obtain ⟨⟨x, h'⟩, h1, s, rfl, h2⟩ := this
    exact ⟨s, h', h1, h2⟩
  rw [e96]
  simp only [F96, bs, Option.bind_assoc]
  obtain ⟨s, h1, e1, c1, s1, b1⟩ := d102 hc
  refine Wp.step e1 ?_
  simp only [bs]
  obtain ⟨v, h2, e2, c2, s2, v0, v1⟩ := next_b c1 4 (by omega) (by omega)
  refine Wp.step e2 ?_
  simp only [bs]
  refine Wp.loop (fun k ds g => ∃ s a, ds = [.str s, .int .i64 k, a] ∧ CD g o ∧ Same o h g ∧ k ≤ 3 ∧ s.length + 9 * k ≤ 34) (fun r => r.1 = .ext 0 ∧ ∃ s a b, r.2.1 = [.str s, a, b] ∧ CD r.2.2 o ∧ Same o h r.2.2 ∧ s.length ≤ 34) v.toNat ⟨s, .any, by rw [Int.toNat_of_nonneg v0], c2, s1.trans s2, by omega, by omega⟩ ?_ ?_
  · rintro k ds g ⟨s, a, rfl, cg, sg, hk, hs⟩
    simp only [F96_L0, nth_zero, nth_succ, bs, dBin_gtr]
    refine Wp.dif ?_ ?_
    · intro h0
      have h0 : 0 < (k : Int) := by simpa using h0
      simp only [lt98_7_ok, bs]
      obtain ⟨v, h2, e2, c2, s2, v0, v1⟩ := next_b cg 5 (by omega) (by omega)
      obtain ⟨u, hu, hg⟩ := pick_of lt98_7 v v0 v1
      have hul := (show ∀ s ∈ lt98_7, s.length ≤ 2 by decide) u hu
      refine Wp.step e2 ?_
      simp only [ix98, v0, if_true, List.getElem?_map, hg, Option.map_some, bs, ld9]
      obtain ⟨w, h3, e3, c3, s3, b3⟩ := d102 c2
      refine Wp.step e3 ?_
      rw [dBin_sadd _ _ _ _ (by omega)]
      simp only [bs]
      rw [dBin_sadd _ _ _ _ (by simp; omega)]
      have hk1 : IntKind.wrap .i64 ((k : Int) - 1) = ((k - 1 : Nat) : Int) := by
        rw [wrap_i64 (by omega) (by omega)]; omega
      simp only [bs, dBin_sub, chk_true, hk1]
      exact .some (.inl ⟨rfl, k - 1, by omega, s ++ (u ++ w), _, rfl, c3, (sg.trans s2).trans s3, by omega, by simp; omega⟩)
    · intro _
      exact .some (.inr ⟨by simp, rfl, s, _, _, rfl, cg, sg, by omega⟩)
  · rintro ⟨x, ds, g⟩ ⟨rfl, s, a, b, rfl, cg, sg, hs⟩
    simp only [unblk_self, toEnd_nrm, nth_zero, bs, mkRes_one]
    exact .some ⟨s, rfl, cg, sg, hs⟩
def FsOK (l : List (Str × Str)) : Prop := (l.map (·.1)).Sublist lt98_9 ∧ ∀ p ∈ l, p.2.length ≤ 19
theorem d98 {h : Hp} {o : Nat} (hc : CD h o) : ∃ x h', R fn98 [.ptr o 0 0] h = some (x, h') ∧ CD h' o ∧ Same o h h' ∧ ∃ l, SlOf 2 fld l x ∧ FsOK l := by
  suffices Wp (R fn98 [.ptr o 0 0] h) (fun p => CD p.2 o ∧ Same o h p.2 ∧ ∃ l, SlOf 2 fld l p.1 ∧ FsOK l) by
    obtain ⟨⟨x, h'⟩, h1, h2⟩ := this
    exact ⟨x, h', h1, h2⟩
  rw [e98]
  simp only [F98, bs, Option.bind_assoc, lt98_9_ok]
  refine Wp.loop (fun k ds g => ∃ x a b, ∃ (i : Nat) (l : List (Str × Str)), ds = [x, .int .i64 i, a, b] ∧ St h o g ∧ k + i = 4 ∧ Own g h.length ty109 2 (l.map fld) x ∧ (l.map (·.1)).Sublist (lt98_9.take i) ∧ ∀ p ∈ l, p.2.length ≤ 19)
    (fun r => r.1 = .ext 0 ∧ ∃ x a b c l, r.2.1 = [x, a, b, c] ∧ St h o r.2.2 ∧ Own r.2.2 h.length ty109 2 (l.map fld) x ∧ FsOK l) 4 ⟨.nils, .any, .any, 0, [], rfl, .refl hc, rfl, Own.nils _ _ _ _, by simp, by simp⟩ ?_ ?_
  · rintro k ds g ⟨x, a, b, i, l, rfl, S, hk, ow, hsub, hv⟩
    have hw : IntKind.wrap .i64 ((i : Int) + 1) = (i + 1 : Nat) := by
      rw [wrap_i64 (by omega) (by omega)]; omega
    simp only [F98_L0, nth_zero, nth_succ, bs, len98, List.length_map, lt98_9_len, dBin_lss]
    refine Wp.dif ?_ ?_
    · intro h0
      have h0 : i < 4 := by have : (i : Int) < 4 := by simpa using h0
                            omega
      obtain ⟨v, h1, e1, c1, s1, v0, v1⟩ := next_b S.cd 3 (by omega) (by omega)
      have S1 := S.next c1 s1
      replace ow := ow.same s1 hc.lt
      refine Wp.step e1 ?_
      simp only [dBin_eql, bs]
      refine Wp.join (P := fun r => ∃ x g, ∃ l : List (Str × Str), r = (.nrm, [x], g) ∧ St h o g ∧ Own g h.length ty109 2 (l.map fld) x ∧ (l.map (·.1)).Sublist (lt98_9.take (i + 1)) ∧ ∀ p ∈ l, p.2.length ≤ 19) ?_ ?_ ?_
      · intro _
        have hg : lt98_9[i]? = some lt98_9[i] := List.getElem?_eq_getElem h0
        simp only [ix98, Int.natCast_nonneg, if_true, Int.toNat_natCast, List.getElem?_map, hg, Option.map_some, bs, ld9]
        obtain ⟨u, h2, e2, c2, s2, hu⟩ := d33 S1.cd
        have S2 := S1.next c2 s2
        replace ow := ow.same s2 hc.lt
        refine Wp.step e2 ?_
        simp only [bs, bd109_0_1, bs29_1]
        have hll : l.length ≤ 4 := by
          have := hsub.length_le
          simp at this
          omega
        refine wap29 S2.le ow (rowsOf_sl _ _ _ _) (by simp; omega) fun x' g' ow len bel _ _ => ?_
        simp only [bs, chk_true]
        refine .some ⟨x', g', l ++ [(lt98_9[i], u)], rfl, S2.app len bel, by rw [List.map_append]; exact ow, ?_, ?_⟩
        · rw [List.take_add_one, hg, List.map_append]
          exact hsub.append (List.Sublist.refl _)
        · intro p hp
          rcases List.mem_append.1 hp with hp | hp
          · exact hv p hp
          · simp at hp; subst hp; exact hu
      · intro _
        refine .some ⟨_, _, l, rfl, S1, ow, hsub.trans ?_, hv⟩
        rw [List.take_add_one]
        exact List.sublist_append_left _ _
      · rintro _ ⟨x, g, l, rfl, S, ow, hsub, hv⟩
        simp only [unblk_nrm, toEnd_nrm, nth_zero, dBin_add, bs, hw]
        exact .some (.inl ⟨rfl, k - 1, by omega, x, _, _, i + 1, l, rfl, S, by omega, ow, hsub, hv⟩)
    · intro h0
      have h0 : ¬ i < 4 := by have : ¬ (i : Int) < 4 := by simpa using h0
                              omega
      refine .some (.inr ⟨by simp, rfl, x, _, _, _, l, rfl, S, ow, hsub.trans (List.take_sublist _ _), hv⟩)
  · rintro ⟨x, ds, g⟩ ⟨rfl, x, a, b, c, l, rfl, S, ow, hl⟩
    simp only [unblk_self, toEnd_nrm, nth_zero, bs, mkRes_one]
    have hsl := own_sl (n := 3) ow (Nat.le_refl _) (fun a _ => fld_frz _ g _ a)
    obtain ⟨h', hs, hcd, hsm⟩ := S.scope rfl (slof_ok hsl fun a _ => fld_ok _ a)
    exact ⟨_, hs, hcd, hsm, l, hsl, hl⟩
def chain : Int → List Lin → Int → Prop
  | a, [], b => a = b
  | a, l :: r, b => l.off = a ∧ 1 ≤ l.len ∧ l.len ≤ 36 ∧ l.txt.length + 1 ≤ l.len ∧ chain (a + l.len) r b
theorem chain_snoc : ∀ (ls : List Lin) (a b : Int) (l : Lin), chain a ls b → l.off = b → 1 ≤ l.len → l.len ≤ 36 → l.txt.length + 1 ≤ l.len → chain a (ls ++ [l]) (b + l.len)
  | [], a, b, l, h, h1, h2, h3, h4 => by
    simp only [chain] at h
    subst h
    exact ⟨h1, h2, h3, h4, rfl⟩
  | x :: r, a, b, l, h, h1, h2, h3, h4 => ⟨h.1, h.2.1, h.2.2.1, h.2.2.2.1, chain_snoc r _ b l h.2.2.2.2 h1 h2 h3 h4⟩
def blank (l : Lin) : Lin := { l with txt := [] }
theorem chain_blank : ∀ (ls : List Lin) (a b : Int), chain a ls b → chain a (ls.map blank) b
  | [], a, b, h => h
  | x :: r, a, b, h => ⟨h.1, h.2.1, h.2.2.1, by simp [-bind_some, blank]; exact h.2.1, chain_blank r _ b h.2.2.2.2⟩
theorem chain_le : ∀ (ls : List Lin) (a b : Int), chain a ls b → a + ls.length ≤ b ∧ b ≤ a + 36 * ls.length
  | [], a, b, h => by simp [-bind_some, chain] at h; simp [-bind_some]; omega
  | x :: r, a, b, h => by
    have := chain_le r _ b h.2.2.2.2
    have := h.2.1
    have := h.2.2.1
    simp only [List.length_cons]
    omega
structure ItOK (hst fil frm : Int) (i : It) : Prop where
  host : i.e.a0 = hst
  file : i.e.a1 = fil
  fr : i.e.a2 = frm
  ch : chain frm i.e.ls i.e.a3
  n1 : 1 ≤ i.e.ls.length
  n3 : i.e.ls.length ≤ 3
  ev : i.r = [] → 0 ≤ i.e.a5 ∧ i.e.a5 ≤ 253402300799999 ∧ 1 ≤ i.e.a6 ∧ i.e.a6 ≤ 5040 ∧ i.e.s7 ∈ lt98_5 ∧ i.e.s8 ∈ lt98_6 ∧ FsOK i.e.fs ∧ ∀ l ∈ i.e.ls, l.len ≤ l.txt.length + 2
  wt : i.r = [] → Int.tmod 5040 i.e.a6 = 0
  sk : i.r ≠ [] → i.r ∈ lt98_4 ∧ i.e.a5 = 0 ∧ i.e.a6 = 0 ∧ i.e.s7 = [] ∧ i.e.s8 = [] ∧ i.e.fs = [] ∧ ∀ l ∈ i.e.ls, l.txt = []
theorem set_blank (ls : List Lin) (i : Nat) (hi : i < ls.length) : (((ls.take i).map blank ++ ls.drop i).map linr).set i (linr (blank ls[i])) = ((ls.take (i + 1)).map blank ++ ls.drop (i + 1)).map linr := by
  rw [List.drop_eq_getElem_cons hi, List.take_add_one, List.getElem?_eq_getElem hi]
  simp only [List.map_append, List.map_cons, Option.toList_some, List.map_nil]
  rw [List.set_append_right _ _ (by simp; omega)]
  simp [-bind_some, Nat.min_eq_left (Nat.le_of_lt hi)]
theorem get_blank (ls : List Lin) (i : Nat) (hi : i < ls.length) : (((ls.take i).map blank ++ ls.drop i).map linr)[i]? = some (linr ls[i]) := by
  rw [List.drop_eq_getElem_cons hi, List.getElem?_map, List.getElem?_append_right (by simp; omega)]
  simp [-bind_some, Nat.min_eq_left (Nat.le_of_lt hi)]
  exact ⟨_, List.getElem?_eq_getElem hi, rfl⟩
theorem ldob {h : Hp} {q T z : Nat} {cs : List D} (hq : h[q]? = some (.row T z [cs])) (hl : cs.length = 10) : dLoad tab h ty31 (.ptr q 0 0) = some (.agg cs) := by
  rw [ldp31, row_of hq]
  simp [-bind_some, takeN, hl]
  exact List.take_of_length_le (by omega)
theorem ldob11 {h : Hp} {q T z : Nat} {cs : List D} (hq : h[q]? = some (.row T z [cs])) (hl : cs.length = 11) : dLoad tab h ty74 (.ptr q 0 0) = some (.agg cs) := by
  rw [ldp74, row_of hq]
  simp [-bind_some, takeN, hl]
  exact List.take_of_length_le (by omega)
theorem lt98_4_ne : ∀ s ∈ lt98_4, s ≠ [] := by decide
theorem d84 {h : Hp} {o : Nat} (hc : CD h o) (host file fr : Int) (hf0 : 0 ≤ fr) (hf1 : fr ≤ 1000000000) : ∃ i h', R fn84 [.ptr o 0 0, .int .i64 host, .int .i64 file, .int .i64 fr] h = some (.agg (itr i), h') ∧ CD h' o ∧ Same o h h' ∧ ItOK host file fr i := by
  suffices Wp (R fn84 [.ptr o 0 0, .int .i64 host, .int .i64 file, .int .i64 fr] h) (fun p => ∃ i, p.1 = .agg (itr i) ∧ CD p.2 o ∧ Same o h p.2 ∧ ItOK host file fr i) by
    obtain ⟨⟨x, h'⟩, h1, i, rfl, h2⟩ := this
    exact ⟨i, h', h1, h2⟩
  have ho := hc.lt
  rw [e84]
  simp only [F84, bs, Option.bind_assoc, bd31_0_1_2]
  generalize hg0 : dNew (dNew h ty74 11 [[.str [], .int .i64 0, .int .i64 0, .int .i64 0, .int .i64 0, .nils, .int .i64 0, .int .i64 0, .str [], .str [], .nils]]) ty31 10 [[.int .i64 0, .int .i64 0, .int .i64 0, .int .i64 0, .nils, .int .i64 0, .int .i64 0, .str [], .str [], .nils]] = g0
  have S0 : St h o g0 := (St.refl hc).app (by simp [-bind_some, ← hg0, dNew]) (fun q hq => by simp only [← hg0, dNew]; rw [List.getElem?_append_left (by simp; omega), List.getElem?_append_left hq])
  have p8 : g0[h.length]? = some (.row ty74 11 [[.str [], .int .i64 0, .int .i64 0, .int .i64 0, .int .i64 0, .nils, .int .i64 0, .int .i64 0, .str [], .str [], .nils]]) := by
    simp only [← hg0, dNew]; rw [List.getElem?_append_left (by simp), List.getElem?_append_right (Nat.le_refl _)]; simp [-bind_some]
  have p9 : g0[h.length + 1]? = some (.row ty31 10 [[.int .i64 0, .int .i64 0, .int .i64 0, .int .i64 0, .nils, .int .i64 0, .int .i64 0, .str [], .str [], .nils]]) := by
    simp only [← hg0, dNew]; rw [List.getElem?_append_right (by simp)]; simp [-bind_some]
  have hl9 : (dNew h ty74 11 [[.str [], .int .i64 0, .int .i64 0, .int .i64 0, .int .i64 0, .nils, .int .i64 0, .int .i64 0, .str [], .str [], .nils]]).length = h.length + 1 := by simp [-bind_some, dNew]
  rw [hl9]
  clear hl9 hg0
  have sm : ∀ {a b : Hp}, Same (h.length + 1) a b → Grow h.length o a b := fun s => ⟨Nat.le_of_eq s.1.symm, fun q hq _ => s.2 q (by omega)⟩
  refine wst31 p9 (by rfl) (by rfl) (by simp) (by rfl) fun g1 q9 sg => ?_
  replace q9 : g1[h.length + 1]? = some (.row ty31 10 [[.int .i64 host, .int .i64 file, .int .i64 fr, .int .i64 0, .nils, .int .i64 0, .int .i64 0, .str [], .str [], .nils]]) := q9
  replace p8 := (sg.2 h.length (by omega)).trans p8
  have S1 : St h o g1 := S0.app (Nat.le_of_eq sg.1.symm) fun q hq => sg.2 q (by omega)
  clear p9 sg S0
  obtain ⟨v, h1, e1, c1, s1, v0, v1⟩ := next_b S1.cd 3 (by omega) (by omega)
  replace q9 := (s1.2 (h.length + 1) (by omega)).trans q9
  replace p8 := (s1.2 h.length (by omega)).trans p8
  have S2 := S1.next c1 s1
  refine Wp.step e1 ?_
  simp only [dBin_add, bs]
  rw [wrap_i64 (n := 1 + v) (by omega) (by omega)]
  refine Wp.loop (fun k ds g => ∃ po : Int, ∃ a b c x, ∃ ls : List Lin, ds = [.int .i64 po, .int .i64 k, a, b, c] ∧ St h o g ∧ g[h.length]? = some (.row ty74 11 [[.str [], .int .i64 0, .int .i64 0, .int .i64 0, .int .i64 0, .nils, .int .i64 0, .int .i64 0, .str [], .str [], .nils]])
      ∧ g[h.length + 1]? = some (.row ty31 10 [[.int .i64 host, .int .i64 file, .int .i64 fr, .int .i64 0, x, .int .i64 0, .int .i64 0, .str [], .str [], .nils]]) ∧ Own g (h.length + 2) ty78 3 (ls.map linr) x ∧ chain fr ls po ∧ ls.length + k = (1 + v).toNat ∧ ∀ l ∈ ls, l.len ≤ l.txt.length + 2)
    (fun r => r.1 = .ext 0 ∧ ∃ po : Int, ∃ a b c d x, ∃ ls : List Lin, r.2.1 = [.int .i64 po, a, b, c, d] ∧ St h o r.2.2 ∧ r.2.2[h.length]? = some (.row ty74 11 [[.str [], .int .i64 0, .int .i64 0, .int .i64 0, .int .i64 0, .nils, .int .i64 0, .int .i64 0, .str [], .str [], .nils]])
      ∧ r.2.2[h.length + 1]? = some (.row ty31 10 [[.int .i64 host, .int .i64 file, .int .i64 fr, .int .i64 0, x, .int .i64 0, .int .i64 0, .str [], .str [], .nils]]) ∧ Own r.2.2 (h.length + 2) ty78 3 (ls.map linr) x ∧ chain fr ls po ∧ 1 ≤ ls.length ∧ ls.length ≤ 3 ∧ ∀ l ∈ ls, l.len ≤ l.txt.length + 2)
    (1 + v).toNat ⟨fr, .any, .any, .any, .nils, [], by rw [Int.toNat_of_nonneg (by omega)], S2, p8, q9, Own.nils _ _ _ _, rfl, by simp, by simp⟩ ?_ ?_
  · clear e1 S1 S2 q9 p8 c1 s1
    rintro k ds g ⟨po, a, b, c, x, ls, rfl, S, p8, p9, ow, hch, hk, htx⟩
    simp only [F84_L0, nth_zero, nth_succ, bs, dBin_gtr]
    refine Wp.dif ?_ ?_
    · intro h0
      have h0 : 0 < (k : Int) := by simpa using h0
      obtain ⟨t, g1, e1, c1, s1, ht⟩ := d96 S.cd
      have S1 := S.next c1 s1
      refine Wp.step e1 ?_
      simp only [len9, dBin_add, bs]
      obtain ⟨u, g2, e2, c2, s2, u0, u1⟩ := next_b c1 2 (by omega) (by omega)
      have S2 := S1.next c2 s2
      have s12 := s1.trans s2
      replace p9 := (s12.2 (h.length + 1) (by omega)).trans p9
      replace p8 := (s12.2 h.length (by omega)).trans p8
      replace ow := ow.same s12 (by omega)
      refine Wp.step e2 ?_
      have w1 := wrap_i64 (n := (t.length : Int) + 1) (by omega) (by omega)
      have w2 := wrap_i64 (n := (t.length : Int) + 1 + u) (by omega) (by omega)
      simp only [bs, Option.bind_assoc, dBin_add, w1, w2, fap31_4, ldp28, row_of p9, List.getElem?_cons_zero, bs, Nat.zero_add, List.drop_succ_cons, List.drop_zero, List.head?_cons, bd78_0_1_2, bs28_1]
      have hlt : h.length + 1 < g2.length := (List.getElem?_eq_some_iff.1 p9).1
      have hcl := chain_le _ _ _ hch
      refine wap28 (by omega) ow (rowsOf_sl _ _ _ _) (by simp; omega) fun x' g3 ow3 len bel keep _ => ?_
      have S3 := S2.app len fun q hq => bel q (by omega)
      replace p9 := (bel (h.length + 1) (by omega)).trans p9
      replace p8 := (bel h.length (by omega)).trans p8
      simp only [bs]
      refine wst28 p9 (by rfl) (by cases x' <;> first | rfl | (have := own_one ow3; simp [-bind_some, D.one] at this)) (by simp) (by cases x' <;> first | rfl | (have := own_one ow3; simp [-bind_some, D.one] at this)) fun g4 p9' sg => ?_
      have hc1 : cells1 x' = [x'] := by cases x' <;> first | rfl | (have := own_one ow3; simp [-bind_some, D.one] at this)
      rw [hc1] at p9'
      replace p9 : g4[h.length + 1]? = some (.row ty31 10 [[.int .i64 host, .int .i64 file, .int .i64 fr, .int .i64 0, x', .int .i64 0, .int .i64 0, .str [], .str [], .nils]]) := p9'
      replace p8 := (sg.2 h.length (by omega)).trans p8
      have S4 : St h o g4 := S3.app (Nat.le_of_eq sg.1.symm) fun q hq => sg.2 q (by omega)
      have ow4 := ow3.keep (h' := g4) fun q hq _ => sg.2 q (by omega)
      have w3 := wrap_i64 (n := po + ((t.length : Int) + 1 + u)) (by omega) (by omega)
      have hk1 : IntKind.wrap .i64 ((k : Int) - 1) = ((k - 1 : Nat) : Int) := by
        rw [wrap_i64 (by omega) (by omega)]; omega
      simp only [dBin_add, bs, dBin_sub, w3, hk1]
      refine .some (.inl ⟨rfl, k - 1, by omega, _, _, _, _, x', ls ++ [⟨po, (t.length : Int) + 1 + u, t⟩], rfl, S4, p8, p9, by rw [List.map_append]; exact ow4, chain_snoc _ _ _ _ hch rfl (by simp; omega) (by simp; omega) (by simp; omega), by simp; omega, ?_⟩)
      intro l hl
      rcases List.mem_append.1 hl with hl | hl
      · exact htx l hl
      · simp at hl; subst hl; simp [-bind_some]; omega
    · intro h0
      have h0 : ¬ 0 < (k : Int) := by simpa using h0
      exact .some (.inr ⟨by simp, rfl, _, _, _, _, _, x, ls, rfl, S, p8, p9, ow, hch, by omega, by omega, htx⟩)
  · clear e1 S1 S2 q9 p8 c1 s1
    rintro ⟨ex, ds, g⟩ ⟨rfl, po, a, b, c, d, x, ls, rfl, S, p8, p9, ow, hch, hl1, hl3, htx⟩
    simp only [unblk_self, toEnd_nrm, nth_zero, bs, fap31_3]
    refine wst3 p9 (by rfl) (by rfl) (by simp) (by rfl) fun g1 p9' sg => ?_
    replace p9 : g1[h.length + 1]? = some (.row ty31 10 [[.int .i64 host, .int .i64 file, .int .i64 fr, .int .i64 po, x, .int .i64 0, .int .i64 0, .str [], .str [], .nils]]) := p9'
    replace p8 := (sg.2 h.length (by omega)).trans p8
    have S1 : St h o g1 := S.app (Nat.le_of_eq sg.1.symm) fun q hq => sg.2 q (by omega)
    have ow1 := ow.keep (h' := g1) fun q hq _ => sg.2 q (by omega)
    clear S sg p9' ow
    obtain ⟨v, g2, e2, c2, s2, v0, v1⟩ := next_b S1.cd 5 (by omega) (by omega)
    replace p9 := (s2.2 (h.length + 1) (by omega)).trans p9
    replace p8 := (s2.2 h.length (by omega)).trans p8
    have S2 := S1.next c2 s2
    have ow2 := ow1.same s2 (by omega)
    refine Wp.step e2 ?_
    simp only [dBin_eql, bs]
    refine Wp.dif ?_ ?_
    · intro _
      refine Wp.loop (fun k ds g => ∃ b, ∃ i : Nat, ds = [.int .i64 i, b] ∧ St h o g ∧ g[h.length]? = some (.row ty74 11 [[.str [], .int .i64 0, .int .i64 0, .int .i64 0, .int .i64 0, .nils, .int .i64 0, .int .i64 0, .str [], .str [], .nils]])
        ∧ g[h.length + 1]? = some (.row ty31 10 [[.int .i64 host, .int .i64 file, .int .i64 fr, .int .i64 po, x, .int .i64 0, .int .i64 0, .str [], .str [], .nils]]) ∧ Own g (h.length + 2) ty78 3 (((ls.take i).map blank ++ ls.drop i).map linr) x ∧ k + i = ls.length)
        (fun r => r.1 = .ext 2 ∧ ∃ a b, r.2.1 = [a, b] ∧ St h o r.2.2 ∧ r.2.2[h.length]? = some (.row ty74 11 [[.str [], .int .i64 0, .int .i64 0, .int .i64 0, .int .i64 0, .nils, .int .i64 0, .int .i64 0, .str [], .str [], .nils]])
        ∧ r.2.2[h.length + 1]? = some (.row ty31 10 [[.int .i64 host, .int .i64 file, .int .i64 fr, .int .i64 po, x, .int .i64 0, .int .i64 0, .str [], .str [], .nils]]) ∧ Own r.2.2 (h.length + 2) ty78 3 ((ls.map blank).map linr) x) ls.length ⟨.any, 0, rfl, S2, p8, p9, by simpa using ow2, rfl⟩ ?_ ?_
      · clear S1 ow1 e2 c2 s2 S2 p8 p9 ow2
        rintro k ds g ⟨b, i, rfl, S, p8, p9, ow, hk⟩
        have hlen : (((ls.take i).map blank ++ ls.drop i).map linr).length = ls.length := by simp; omega
        have hlo := leno28 ow
        rw [hlen] at hlo
        simp only [F84_L1, nth_zero, nth_succ, bs, Option.bind_assoc, fap31_4, ldp28, row_of p9, List.getElem?_cons_zero, Nat.zero_add, List.drop_succ_cons, List.drop_zero, List.head?_cons, hlo, dBin_lss]
        refine Wp.dif ?_ ?_
        · intro h0
          have hi : i < ls.length := by have : (i : Int) < ls.length := by simpa using h0
                                        omega
          obtain ⟨ob, hob, rfl, hgo⟩ := own_ix ow (i := i) (by rw [hlen]; exact hi)
          rw [hlen] at *
          have hil : (i : Int) < ls.length := by omega
          have hw : IntKind.wrap .i64 ((i : Int) + 1) = ((i + 1 : Nat) : Int) := by
            rw [wrap_i64 (by omega) (by omega)]; omega
          simp only [ixm28, Int.natCast_nonneg, hil, and_self, if_true, Nat.zero_add, Int.toNat_natCast, bs, fap78_2]
          refine wst9 hgo (get_blank ls i hi) (by rfl) (by simp [-bind_some, linr]) (by rfl) fun g1 hg1 sg => ?_
          have hset : (((ls.take i).map blank ++ ls.drop i).map linr).set i (spl (linr ls[i]) 2 (cells1 (.str []))) = ((ls.take (i + 1)).map blank ++ ls.drop (i + 1)).map linr := set_blank ls i hi
          rw [hset] at hg1
          simp only [dBin_add, bs, hw]
          refine .some (.inl ⟨rfl, k - 1, by omega, _, i + 1, rfl, S.app (Nat.le_of_eq sg.1.symm) fun q hq => sg.2 q (by omega), (sg.2 _ (by omega)).trans p8, (sg.2 _ (by omega)).trans p9, ?_, by omega⟩)
          refine .inr ⟨ob, hob, ?_, hg1⟩
          congr 1
          simp [-bind_some]; omega
        · intro h0
          have hi : i = ls.length := by have : ¬ (i : Int) < ls.length := by simpa using h0
                                        omega
          subst hi
          refine .some (.inr ⟨by simp, rfl, _, _, rfl, S, p8, p9, by simpa using ow⟩)
      · clear S1 ow1 e2 c2 s2 S2 p8 p9 ow2
        rintro ⟨ex, ds, g⟩ ⟨rfl, a, b, rfl, S, p8, p9, ow⟩
        simp only [unblk_self, toEnd_nrm, nth_zero, bs, lt98_4_ok]
        obtain ⟨v, g1, e1, c1, s1, v0, v1⟩ := next_b S.cd 3 (by omega) (by omega)
        obtain ⟨s, hs, hg⟩ := pick_of lt98_4 v v0 v1
        have p9' := (s1.2 (h.length + 1) (by omega)).trans p9
        replace p8 := (s1.2 h.length (by omega)).trans p8
        have S1 := S.next c1 s1
        have ow1 := ow.same s1 (by omega)
        refine Wp.step e1 ?_
        simp only [ix98, v0, if_true, List.getElem?_map, hg, Option.map_some, bs, ld9, ldob p9' rfl, ldob p9 rfl, bd74_0_1, chk_true]
        refine wst74 p8 (by rfl) (by rfl) (by simp) (by rfl) fun g2 q8 sg => ?_
        replace q8 : g2[h.length]? = some (.row ty74 11 [[.str s, .int .i64 host, .int .i64 file, .int .i64 fr, .int .i64 po, x, .int .i64 0, .int .i64 0, .str [], .str [], .nils]]) := q8
        have S2 : St h o g2 := S1.app (Nat.le_of_eq sg.1.symm) fun q hq => sg.2 q (by omega)
        have ow2 := ow1.keep (h' := g2) fun q hq _ => sg.2 q (by omega)
        simp only [ldob11 q8 rfl, bs, mkRes_one]
        have hsl := own_sl (n0 := h.length) (n := 2) ow2 (by omega) (fun a _ => linr_frz _ g2 _ a)
        have hsl2 := lt98_4_ne s hs
        obtain ⟨h', hsc, hcd, hsm⟩ := S2.scope (d := .agg [.str s, .int .i64 host, .int .i64 file, .int .i64 fr, .int .i64 po, x, .int .i64 0, .int .i64 0, .str [], .str [], .nils]) (d' := .agg (itr ⟨s, ⟨host, file, fr, po, ls.map blank, frz h.length g2 3 x, 0, 0, [], [], [], .nils, SlOf.nils _ _, by simp, hsl, by simp; omega⟩⟩)) (by simp [-bind_some, itr, evr]) (itr_ok _ _)
        rw [hsc]
        refine .some ⟨_, rfl, hcd, hsm, ⟨rfl, rfl, rfl, chain_blank _ _ _ hch, by simpa using hl1, by simpa using hl3, fun h0 => absurd h0 hsl2, fun h0 => absurd h0 hsl2, fun _ => ⟨hs, rfl, rfl, rfl, rfl, rfl, ?_⟩⟩⟩
        intro l hl
        simp at hl
        obtain ⟨l0, _, rfl⟩ := hl
        rfl
    · intro _
      clear e2 v0 v1
      obtain ⟨tm, g3, e3, c3, s3, t0, t1⟩ := d35 c2
      refine Wp.step e3 ?_
      simp only [bs]
      obtain ⟨wt, g4, e4, c4, s4, w0, w1, w2⟩ := d97 c3
      refine Wp.step e4 ?_
      have s3x4 := s3.trans s4
      replace p9 := (s3x4.2 (h.length + 1) (by omega)).trans p9
      replace p8 := (s3x4.2 h.length (by omega)).trans p8
      have S4 := S2.next c4 s3x4
      have ow4 := ow2.same s3x4 (by omega)
      clear e3 e4 S1 S2 c3 s3 c2 s2 s4 s3x4 ow1 ow2 c4
      simp only [bs, fap31_5, fap31_6, fap31_7, fap31_8, fap31_9, Nat.zero_add]
      refine wst3 p9 (by rfl) (by rfl) (by simp) (by rfl) fun g5 p9' sg => ?_
      refine wst3 p9' (by rfl) (by rfl) (by simp [-bind_some, spl, cells1]) (by rfl) fun g6 p9'' sg2 => ?_
      replace sg := sg.trans sg2
      replace p9 : g6[h.length + 1]? = some (.row ty31 10 [[.int .i64 host, .int .i64 file, .int .i64 fr, .int .i64 po, x, .int .i64 tm, .int .i64 wt, .str [], .str [], .nils]]) := p9''
      replace p8 := (sg.2 h.length (by omega)).trans p8
      have S6 : St h o g6 := S4.app (Nat.le_of_eq sg.1.symm) fun q hq => sg.2 q (by omega)
      have ow6 := ow4.keep (h' := g6) fun q hq _ => sg.2 q (by omega)
      clear p9' p9'' sg sg2 S4 ow4
      simp only [lt98_5_ok, bs]
      obtain ⟨v, g7, e7, c7, s7, v0, v1⟩ := next_b S6.cd 4 (by omega) (by omega)
      obtain ⟨tr, htr, hg⟩ := pick_of lt98_5 v v0 v1
      refine Wp.step e7 ?_
      simp only [ix98, v0, if_true, List.getElem?_map, hg, Option.map_some, bs, ld9, lt98_6_ok]
      obtain ⟨v, g8, e8, c8, s8, v0, v1⟩ := next_b c7 2 (by omega) (by omega)
      obtain ⟨sm', hsm, hg⟩ := pick_of lt98_6 v v0 v1
      refine Wp.step e8 ?_
      simp only [ix98, v0, if_true, List.getElem?_map, hg, Option.map_some, bs, ld9, chk_true]
      have s7x8 := s7.trans s8
      replace p9 := (s7x8.2 (h.length + 1) (by omega)).trans p9
      replace p8 := (s7x8.2 h.length (by omega)).trans p8
      have S8 := S6.next c8 s7x8
      have ow8 := ow6.same s7x8 (by omega)
      clear e7 e8 S6 c7 s7 s8 s7x8 ow6 c8
      refine wst9 p9 (by rfl) (by rfl) (by simp) (by rfl) fun g9 p9' sg => ?_
      refine wst9 p9' (by rfl) (by rfl) (by simp [-bind_some, spl, cells1]) (by rfl) fun g10 p9'' sg2 => ?_
      replace sg := sg.trans sg2
      replace p9 : g10[h.length + 1]? = some (.row ty31 10 [[.int .i64 host, .int .i64 file, .int .i64 fr, .int .i64 po, x, .int .i64 tm, .int .i64 wt, .str tr, .str sm', .nils]]) := p9''
      replace p8 := (sg.2 h.length (by omega)).trans p8
      have S10 : St h o g10 := S8.app (Nat.le_of_eq sg.1.symm) fun q hq => sg.2 q (by omega)
      have ow10 := ow8.keep (h' := g10) fun q hq _ => sg.2 q (by omega)
      clear p9' p9'' sg sg2 S8 ow8
      obtain ⟨y, g11, e11, c11, s11, fs, hy, hfs⟩ := d98 S10.cd
      refine Wp.step e11 ?_
      replace p9 := (s11.2 (h.length + 1) (by omega)).trans p9
      replace p8 := (s11.2 h.length (by omega)).trans p8
      have S11 := S10.next c11 s11
      have ow11 := ow10.same s11 (by omega)
      have oc := one_cells (slof_one hy)
      refine wst29 p9 (by rfl) (by rw [oc.1]; rfl) (by simp) oc.2 fun g12 p9' sg => ?_
      rw [oc.1] at p9'
      replace p9 : g12[h.length + 1]? = some (.row ty31 10 [[.int .i64 host, .int .i64 file, .int .i64 fr, .int .i64 po, x, .int .i64 tm, .int .i64 wt, .str tr, .str sm', y]]) := p9'
      replace p8 := (sg.2 h.length (by omega)).trans p8
      have S12 : St h o g12 := S11.app (Nat.le_of_eq sg.1.symm) fun q hq => sg.2 q (by omega)
      have ow12 := ow11.keep (h' := g12) fun q hq _ => sg.2 q (by omega)
      clear e11 S11 ow11 S10 ow10 s11 c11 sg p9'
      simp only [ldob p9 rfl, bs, bd74_1]
      refine wst74 p8 (by rfl) (by rfl) (by simp) (by rfl) fun g2 q8 sg => ?_
      replace q8 : g2[h.length]? = some (.row ty74 11 [[.str [], .int .i64 host, .int .i64 file, .int .i64 fr, .int .i64 po, x, .int .i64 tm, .int .i64 wt, .str tr, .str sm', y]]) := q8
      have S2 : St h o g2 := S12.app (Nat.le_of_eq sg.1.symm) fun q hq => sg.2 q (by omega)
      have ow2 := ow12.keep (h' := g2) fun q hq _ => sg.2 q (by omega)
      simp only [ldob11 q8 rfl, bs, mkRes_one]
      have hsl := own_sl (n0 := h.length) (n := 2) ow2 (by omega) (fun a _ => linr_frz _ g2 _ a)
      have hfl : fs.length ≤ 4 := by
        have := hfs.1.length_le
        simpa using this
      have hfy : frz h.length g2 3 y = y := slof_frz hy (fun a _ => fld_frz _ g2 _ a)
      obtain ⟨h', hsc, hcd, hsm2⟩ := S2.scope (d := .agg [.str [], .int .i64 host, .int .i64 file, .int .i64 fr, .int .i64 po, x, .int .i64 tm, .int .i64 wt, .str tr, .str sm', y]) (d' := .agg (itr ⟨[], ⟨host, file, fr, po, ls, frz h.length g2 3 x, tm, wt, tr, sm', fs, y, hy, by omega, hsl, by omega⟩⟩)) (by simp [-bind_some, itr, evr, hfy]) (itr_ok _ _)
      rw [hsc]
      exact .some ⟨_, rfl, hcd, hsm2, ⟨rfl, rfl, rfl, hch, hl1, hl3, fun _ => ⟨t0, t1, w0, w1, htr, hsm, hfs, htx⟩, fun _ => w2, fun h0 => absurd rfl h0⟩⟩
def items (hst fil : Int) : Int → List It → Int → Prop
  | a, [], b => a = b
  | a, i :: r, b => ItOK hst fil a i ∧ items hst fil i.e.a3 r b
theorem items_snoc (hst fil : Int) : ∀ (l : List It) (a b : Int) (i : It), items hst fil a l b → ItOK hst fil b i → items hst fil a (l ++ [i]) i.e.a3
  | [], a, b, i, h, hi => by
    simp only [items] at h
    subst h
    exact ⟨hi, rfl⟩
  | x :: r, a, b, i, h, hi => ⟨h.1, items_snoc hst fil r _ b i h.2 hi⟩
def FilesOK (host most : Int) (P : List It → D → Prop) (ps : List (List It × D)) : Prop := ∀ (f : Nat) p, ps[f]? = some p → P p.1 p.2 ∧ p.1.length ≤ most ∧ ∃ po, items host (5 + f) 0 p.1 po
theorem FilesOK.mono {host most : Int} {P P' : List It → D → Prop} {ps : List (List It × D)} (h : FilesOK host most P ps) (k : ∀ a b, P a b → P' a b) : FilesOK host most P' ps := fun f p hp => ⟨k _ _ (h f p hp).1, (h f p hp).2⟩
theorem l71 {o N : Nat} (host most f : Int) (n0 : Nat) (ho : o < n0) (hN : n0 ≤ N) (ds0 : List D) (hds0 : nth 1 ds0 = .int .i64 f) (hf0 : 0 ≤ f) (hf1 : f ≤ 1000) {β : Type} {K : Out → Option β} {Q : β → Prop} (g : Hp) (n : Nat) (hn : n ≤ 1000) (a b : D) (hc : CD g o) (hNg : N ≤ g.length)
    (k : ∀ g' its po x a b c, Own g' N ty74 11 (its.map itr) x → CD g' o → Grow N o g g' → items host (5 + f) 0 its po → its.length = n → Wp (K (.ext 2, [x, .int .i64 po, a, b, c], g')) Q) :
    Wp ((loopW (F71_L1 (.ptr o 0 0) (.int .i64 host) ds0) [.nils, .int .i64 0, .int .i64 n, a, b] g).bind K) Q := by
  refine Wp.loop (fun k ds g' => ∃ x po a b, ∃ its : List It, ds = [x, .int .i64 po, .int .i64 k, a, b] ∧ Own g' N ty74 11 (its.map itr) x ∧ CD g' o ∧ Grow N o g g' ∧ items host (5 + f) 0 its po ∧ 0 ≤ po ∧ po ≤ 108 * its.length ∧ its.length + k = n)
    (fun r => r.1 = .ext 2 ∧ ∃ x po a b c, ∃ its : List It, r.2.1 = [x, .int .i64 po, a, b, c] ∧ Own r.2.2 N ty74 11 (its.map itr) x ∧ CD r.2.2 o ∧ Grow N o g r.2.2 ∧ items host (5 + f) 0 its po ∧ its.length = n)
    n ⟨.nils, 0, a, b, [], rfl, Own.nils _ _ _ _, hc, .refl _ _ _, rfl, by omega, by simp, by simp⟩ ?_ ?_
  · rintro k ds g' ⟨x, po, a, b, its, rfl, ow, hc', hg, hit, hp0, hp1, hk⟩
    simp only [F71_L1, nth_zero, nth_succ, bs, dBin_gtr, hds0, dBin_add, wrap_i64 (n := 5 + f) (by omega) (by omega)]
    refine Wp.dif ?_ ?_
    · intro h0
      have h0 : 0 < (k : Int) := by simpa using h0
      obtain ⟨i, g1, e1, c1, s1, hi⟩ := d84 hc' host (5 + f) po hp0 (by omega)
      have hcl := chain_le _ _ _ hi.ch
      have hn3 := hi.n3
      have hn1 := hi.n1
      have ow1 := ow.same s1 (by omega)
      refine Wp.step e1 ?_
      simp only [boxIt, bs, ldIt, bsIt]
      refine wap113 (by have := hg.1; have := s1.1; omega) ow1 (rowsOf_sl _ _ _ _) (by simp; omega) fun x' g2 ow2 len bel _ _ => ?_
      have hto := toIt i g2
      cases hfa : dFieldAddr tab ty74 1 (.fptr (itr i)) with
      | none => rw [hfa] at hto; cases hto
      | some p =>
        rw [hfa] at hto
        simp only [bs] at hto
        cases hfb : dFieldAddr tab ty31 3 p with
        | none => rw [hfb] at hto; cases hto
        | some q =>
          rw [hfb] at hto
          simp only [bs] at hto
          have hk1 : IntKind.wrap .i64 ((k : Int) - 1) = ((k - 1 : Nat) : Int) := by
            rw [wrap_i64 (by omega) (by omega)]; omega
          simp only [bs, hfa, hfb, hto, dBin_sub, hk1]
          refine .some (.inl ⟨rfl, k - 1, by omega, x', i.e.a3, _, _, its ++ [i], rfl, by rw [List.map_append]; exact ow2, c1.keep (bel o (by omega)), (hg.trans s1.grow).trans ⟨len, fun q hq _ => bel q hq⟩, items_snoc _ _ _ _ _ _ hit hi, by omega, by simp; omega, by simp; omega⟩)
    · intro h0
      have h0 : ¬ 0 < (k : Int) := by simpa using h0
      exact .some (.inr ⟨by simp, rfl, x, po, _, _, _, its, rfl, ow, hc', hg, hit, by omega⟩)
  · rintro ⟨ex, ds, g'⟩ ⟨rfl, x, po, a, b, c, its, rfl, ow, hc', hg, hit, hn⟩
    exact k g' its po x a b c ow hc' hg hit hn
theorem d71n {h : Hp} {o : Nat} (hc : CD h o) (host most : Int) (hm0 : 0 ≤ most) (hm1 : most ≤ 100) : ∃ x h', R fn71 [.ptr o 0 0, .int .i64 host, .int .i64 most] h = some (x, h') ∧ CD h' o ∧ Same o h h' ∧ ∃ ps : List (List It × D), SlOf 1 (fun p => [p.2]) ps x ∧ ps.length ≤ 3 ∧ 1 ≤ ps.length ∧ FilesOK host most (SlOf 11 itr) ps := by
  suffices Wp (R fn71 [.ptr o 0 0, .int .i64 host, .int .i64 most] h) (fun p => CD p.2 o ∧ Same o h p.2 ∧ ∃ ps : List (List It × D), SlOf 1 (fun p => [p.2]) ps p.1 ∧ ps.length ≤ 3 ∧ 1 ≤ ps.length ∧ FilesOK host most (SlOf 11 itr) ps) by
    obtain ⟨⟨x, h'⟩, h1, h2⟩ := this
    exact ⟨x, h', h1, h2⟩
  have ho := hc.lt
  rw [e71]
  simp only [F71, bs, Option.bind_assoc]
  refine Wp.loop (fun k ds g => ∃ x a b c d e f', ∃ f : Nat, ∃ ps : List (List It × D), ds = [x, .int .i64 f, a, b, c, d, e, f'] ∧ St h o g ∧ Own g h.length ty113 1 (ps.map fun p => [p.2]) x ∧ ps.length = f ∧ k + f = 3 ∧ FilesOK host most (fun l d => Own g h.length ty74 11 (l.map itr) d) ps)
    (fun r => r.1 = .ext 0 ∧ ∃ x a b c d e f' h', ∃ ps : List (List It × D), r.2.1 = [x, a, b, c, d, e, f', h'] ∧ St h o r.2.2 ∧ Own r.2.2 h.length ty113 1 (ps.map fun p => [p.2]) x ∧ ps.length ≤ 3 ∧ 1 ≤ ps.length ∧ FilesOK host most (fun l d => Own r.2.2 h.length ty74 11 (l.map itr) d) ps)
    3 ⟨.nils, .any, .any, .any, .any, .any, .any, 0, [], rfl, .refl hc, Own.nils _ _ _ _, rfl, rfl, fun f p hp => by simp at hp⟩ ?_ ?_
  · rintro k ds g ⟨x, a, b, c, d, e, f', f, ps, rfl, S, ow, hpf, hk, hps⟩
    simp only [F71_L0, nth_zero, nth_succ, bs, Option.bind_assoc]
    obtain ⟨v, g1, e1, c1, s1, v0, v1⟩ := next_b S.cd 3 (by omega) (by omega)
    have S1 := S.next c1 s1
    have ow1 := ow.same s1 ho
    have hps1 : FilesOK host most (fun l d => Own g1 h.length ty74 11 (l.map itr) d) ps := hps.mono fun _ _ w => w.same s1 ho
    refine Wp.step e1 ?_
    simp only [dBin_leq, bs]
    refine Wp.dif ?_ ?_
    · intro h0
      have h0 : (f : Int) ≤ v := by simpa using h0
      simp only [dBin_add, bs, wrap_i64 (n := most + 1) (by omega) (by omega)]
      obtain ⟨n, g2, e2, c2, s2, n0, n1⟩ := next_b c1 (most + 1) (by omega) (by omega)
      have S2 := S1.next c2 s2
      have ow2 := ow1.same s2 ho
      have hps2 : FilesOK host most (fun l d => Own g2 h.length ty74 11 (l.map itr) d) ps := hps1.mono fun _ _ w => w.same s2 ho
      refine Wp.step e2 ?_
      simp only [bs]
      rw [← Int.toNat_of_nonneg n0]
      refine l71 (N := g2.length) host most f h.length ho S2.le _ (by rfl) (by omega) (by omega) g2 n.toNat (by omega) _ _ c2 (Nat.le_refl _) ?_
      intro g3 its po y a' b' c' owy c3 gr hit hlen
      have bel : ∀ q, q < g2.length → q ≠ o → g3[q]? = g2[q]? := gr.2
      have S3 : St h o g3 := ⟨ho, c3, S2.gr.trans ⟨gr.1, fun q hq hn => bel q (by have := S2.le; omega) hn⟩⟩
      have ow3 : Own g3 h.length ty113 1 (ps.map fun p => [p.2]) x := ow2.keep fun q hq hin => bel q (ow2.lt hin).2 (by omega)
      have hps3 : FilesOK host most (fun l d => Own g3 h.length ty74 11 (l.map itr) d) ps := hps2.mono fun _ _ w => w.keep fun q hq hin => bel q (w.lt hin).2 (by omega)
      have owy' : Own g3 h.length ty74 11 (its.map itr) y := owy.from S2.le
      simp only [unblk_self, toEnd_nrm, nth_zero, nth_succ, bs, bs111_1 y (own_one owy)]
      have hw : IntKind.wrap .i64 ((f : Int) + 1) = ((f + 1 : Nat) : Int) := by
        rw [wrap_i64 (by omega) (by omega)]; omega
      refine wap111 S3.le ow3 (rowsOf_sl _ _ _ _) (by simp; omega) fun x' g4 ow4 len bel4 keep4 _ => ?_
      simp only [bs, hw]
      have kp : ∀ (l : List It) (d : D), Own g3 h.length ty74 11 (l.map itr) d → Own g4 h.length ty74 11 (l.map itr) d := fun l d w => w.keep fun q hq hin => keep4 q (w.lt hin).2 (own_dis w ow3 (by decide) hin)
      refine .some (.inl ⟨rfl, k - 1, by omega, x', _, _, _, _, _, _, f + 1, ps ++ [(its, y)], rfl, S3.app len bel4, by rw [List.map_append]; exact ow4, by simp; omega, by omega, fun j p hp => ?_⟩)
      rcases Nat.lt_or_ge j ps.length with hj | hj
      · rw [List.getElem?_append_left hj] at hp
        exact ⟨kp _ _ (hps3 j p hp).1, (hps3 j p hp).2⟩
      · rw [List.getElem?_append_right hj] at hp
        have hj0 : j - ps.length = 0 := by
          have := (List.getElem?_eq_some_iff.1 hp).1
          simpa using this
        rw [hj0] at hp
        simp at hp
        subst hp
        have hjf : j = f := by omega
        subst hjf
        exact ⟨kp _ _ owy', by simp only; omega, po, hit⟩
    · intro h0
      have h0 : ¬ (f : Int) ≤ v := by simpa using h0
      exact .some (.inr ⟨by simp, rfl, x, _, _, _, _, _, _, _, ps, rfl, S1, ow1, by omega, by omega, hps1⟩)
  · rintro ⟨ex, ds, g⟩ ⟨rfl, x, a, b, c, d, e, f', h', ps, rfl, S, ow, hpl, hpl1, hps⟩
    simp only [unblk_self, toEnd_nrm, nth_zero, bs, mkRes_one]
    have hfz : SlOf 1 (fun p : List It × D => [p.2]) (ps.map fun p => (p.1, frz h.length g 3 p.2)) (frz h.length g 4 x) := by
      rcases ow with ⟨rfl, hr⟩ | ⟨ob, hob, rfl, hgo⟩
      · have : ps = [] := by simpa using hr
        subst this
        exact .inl ⟨rfl, rfl⟩
      · right
        refine ⟨false, ?_⟩
        rw [frz_msl hob hgo]
        simp [-bind_some]
        rw [List.take_of_length_le (by simp)]
        rfl
    have hps' : FilesOK host most (SlOf 11 itr) (ps.map fun p => (p.1, frz h.length g 3 p.2)) := by
      intro j p hp
      rw [List.getElem?_map] at hp
      cases hq : ps[j]? with
      | none => rw [hq] at hp; cases hp
      | some q =>
        rw [hq] at hp
        simp at hp
        subst hp
        exact ⟨own_sl (hps j q hq).1 (Nat.le_refl _) fun a _ => itr_frz _ _ _ a, (hps j q hq).2⟩
    obtain ⟨h', hs, hcd, hsm⟩ := S.scope rfl (slof_ok hfz fun a ha d hd => by
      simp at hd
      subst hd
      obtain ⟨j, hj⟩ := List.getElem?_of_mem ha
      exact slof_ok (hps' j a hj).1 fun i _ => itr_oks _ i)
    exact ⟨_, hs, hcd, hsm, _, hfz, by simpa using hpl, by simpa using hpl1, hps'⟩
theorem s99 (n : Int) (h : Hp) : R fn99 [.int .i64 n] h = some (.bool false, h) := by
  rw [e99]
  simp [-bind_some, F99]
def cmpI (a b : Int) : Int := if a < b then -1 else if b < a then 1 else 0
theorem s90 (a b : Int) (h : Hp) : R fn90 [.int .i64 a, .int .i64 b] h = some (.int .i64 (cmpI a b), h) := by
  rw [e90]
  simp [-bind_some, F90, s99, cmpI]
  by_cases h0 : a < b
  · simp [-bind_some, h0]
  · by_cases h1 : b < a <;> simp [-bind_some, h0, h1]
def letter (c : Int) : Bool := (decide (97 ≤ c) && decide (c ≤ 122)) || (decide (65 ≤ c) && decide (c ≤ 90))
def digit (c : Int) : Bool := decide (48 ≤ c) && decide (c ≤ 57)
def wordc (c : Int) : Bool := (digit c || letter c) || decide (c = 95)
theorem s1019 (c : Int) (h : Hp) : R fn1019 [.int .u8 c] h = some (.bool (letter c), h) := by
  rw [e1019]
  simp [-bind_some, F1019, letter]
  by_cases h0 : 97 ≤ c <;> by_cases h1 : c ≤ 122 <;> by_cases h2 : 65 ≤ c <;> by_cases h3 : c ≤ 90 <;> simp [-bind_some, h0, h1, h2, h3]
theorem s1021 (c : Int) (h : Hp) : R fn1021 [.int .u8 c] h = some (.bool (digit c), h) := by
  rw [e1021]
  simp [-bind_some, F1021, digit]
  by_cases h0 : 48 ≤ c <;> by_cases h1 : c ≤ 57 <;> simp [-bind_some, h0, h1]
theorem s1020 (c : Int) (h : Hp) : R fn1020 [.int .u8 c] h = some (.bool (wordc c), h) := by
  rw [e1020]
  cases hd : digit c <;> cases hl : letter c <;> simp [-bind_some, F1020, s1021, s1019, wordc, hd, hl]
end Go.Proofs.YthaajlepgblimaaDoor
