/- Laws, on plain data, about functions that the statement reaches. -/
import Derived.Test.YtiamjjeflmcgoaaT9
set_option linter.unusedSimpArgs false
set_option linter.unusedVariables false
set_option linter.unnecessarySimpa false
namespace Go.Proofs.Ytiamjjeflmcgoaa
open Go.Eng Go.Pi
abbrev Str := List UInt8
def fld (p : Str × Str) : List D := [.str p.1, .str p.2]
/-- A line. -/
structure Lin where
  off : Int
  len : Int
  txt : Str
  deriving DecidableEq
def linr (l : Lin) : List D := [.int .i64 l.off, .int .i64 l.len, .str l.txt]
/-- An event. -/
structure Ev where
  a0 : Int
  a1 : Int
  a2 : Int
  a3 : Int
  ls : List Lin
  ld : D
  a5 : Int
  a6 : Int
  s7 : Str
  s8 : Str
  fs : List (Str × Str)
  fd : D
  hfd : SlOf 2 fld fs fd
  hl : fs.length ≤ 9223372036854775807
  hld : SlOf 3 linr ls ld
  hll : ls.length ≤ 9223372036854775807
def evr (e : Ev) : List D := [.int .i64 e.a0, .int .i64 e.a1, .int .i64 e.a2, .int .i64 e.a3, e.ld, .int .i64 e.a5, .int .i64 e.a6, .str e.s7, .str e.s8, e.fd]
structure It where
  r : Str
  e : Ev
def itr (i : It) : List D := .str i.r :: evr i.e
structure Pol where
  n : Str
  f : Str
  v : Str
  age : Int
def polr (p : Pol) : List D := [.str p.n, .str p.f, .str p.v, .int .i64 p.age]
structure Hld where
  n : Str
  f : Str
  v : Str
  fr : Int
  to : Int
def hldr (p : Hld) : List D := [.str p.n, .str p.f, .str p.v, .int .i64 p.fr, .int .i64 p.to]
theorem fld_frz (n0 : Nat) (h : Hp) (n : Nat) (p : Str × Str) : ∀ d ∈ fld p, frz n0 h n d = d := by simp [-Option.bind_some, fld]
theorem fld_ok (n : Nat) (p : Str × Str) : ∀ d ∈ fld p, Ok n d := by
  intro d hd
  simp [-Option.bind_some, fld] at hd
  rcases hd with rfl | rfl <;> constructor
theorem linr_frz (n0 : Nat) (h : Hp) (n : Nat) (p : Lin) : ∀ d ∈ linr p, frz n0 h n d = d := by simp [-Option.bind_some, linr]
theorem linr_ok (n : Nat) (p : Lin) : ∀ d ∈ linr p, Ok n d := by
  intro d hd
  simp [-Option.bind_some, linr] at hd
  rcases hd with rfl | rfl | rfl <;> constructor
theorem evr_frz (n0 : Nat) (h : Hp) (n : Nat) (e : Ev) : ∀ d ∈ evr e, frz n0 h (n + 1) d = d := by
  intro d hd
  simp [-Option.bind_some, evr] at hd
  rcases hd with rfl | rfl | rfl | rfl | rfl | rfl | rfl | rfl | rfl | rfl
  all_goals first | exact slof_frz e.hld (fun a _ => linr_frz _ _ _ a) | exact slof_frz e.hfd (fun a _ => fld_frz _ _ _ a) | simp [-Option.bind_some]
theorem evr_ok (n : Nat) (e : Ev) : ∀ d ∈ evr e, Ok n d := by
  intro d hd
  simp [-Option.bind_some, evr] at hd
  rcases hd with rfl | rfl | rfl | rfl | rfl | rfl | rfl | rfl | rfl | rfl
  all_goals first | exact slof_ok e.hld (fun a _ => linr_ok _ a) | exact slof_ok e.hfd (fun a _ => fld_ok _ a) | constructor
theorem itr_ok (n : Nat) (i : It) : Ok n (.agg (itr i)) := by
  refine .agg _ fun d hd => ?_
  simp [-Option.bind_some, itr, evr] at hd
  rcases hd with rfl | rfl | rfl | rfl | rfl | rfl | rfl | rfl | rfl | rfl | rfl
  all_goals first | exact slof_ok i.e.hld (fun a _ => linr_ok _ a) | exact slof_ok i.e.hfd (fun a _ => fld_ok _ a) | constructor
theorem itr_frz (n0 : Nat) (h : Hp) (n : Nat) (i : It) : ∀ d ∈ itr i, frz n0 h (n + 1) d = d := by
  intro d hd
  rcases List.mem_cons.1 hd with rfl | hd
  · simp [-Option.bind_some]
  · exact evr_frz n0 h n i.e d hd
theorem itr_oks (n : Nat) (i : It) : ∀ d ∈ itr i, Ok n d := by
  intro d hd
  rcases List.mem_cons.1 hd with rfl | hd
  · exact .str _
  · exact evr_ok n i.e d hd
theorem evL (e : Ev) (h : Hp) : dLoad tab h ty31 (.fptr (evr e)) = some (.agg (evr e)) := id rfl
theorem itF1 (i : It) : dFieldAddr tab ty74 1 (.fptr (itr i)) = some (.fptr (evr i.e)) := id rfl
theorem itF0 (i : It) : dFieldAddr tab ty74 0 (.fptr (itr i)) = some (.fptr (itr i)) := id rfl
theorem itL0 (i : It) (h : Hp) : dLoad tab h ty9 (.fptr (itr i)) = some (.str i.r) := id rfl
theorem ldIt (i : It) (h : Hp) : dLoad tab h ty74 (.fptr (itr i)) = some (.agg (itr i)) := id rfl
theorem boxIt (i : It) : boxN 11 (.agg (itr i)) = some (.fptr (itr i)) := boxN_agg 11 _ rfl
theorem bsIt (i : It) : pLitF tab ty113 1 [0] [.agg (itr i)] = some (.sl 11 true [itr i]) := id rfl
theorem toIt (i : It) (h : Hp) : ((dFieldAddr tab ty74 1 (.fptr (itr i))).bind fun p => (dFieldAddr tab ty31 3 p).bind fun q => dLoad tab h ty3 q) = some (.int .i64 i.e.a3) := by simp [-Option.bind_some, itr, evr]
theorem own_dis {h : Hp} {n e z n' e' z' q : Nat} {rows rows' : List (List D)} {d d' : D} (a : Own h n e z rows d) (b : Own h n' e' z' rows' d') (hne : e ≠ e') (hd : d.inOb q) : ¬ d'.inOb q := by
  rintro ⟨z2, m2, rfl⟩
  obtain ⟨z1, m1, rfl⟩ := hd
  rcases a with ⟨ha, _⟩ | ⟨o1, _, ha, ga⟩
  · cases ha
  rcases b with ⟨hb, _⟩ | ⟨o2, _, hb, gb⟩
  · cases hb
  injection ha with _ ha
  injection hb with _ hb
  subst ha; subst hb
  rw [ga] at gb
  injection gb with gb
  injection gb with gb
  exact hne gb
/-- The value of the first field of a name. -/
def getF (l : List (Str × Str)) (n : Str) : Option Str := (l.find? fun p => p.1 == n).map (·.2)
def getD' (l : List (Str × Str)) (n : Str) : D := .tup [.str ((getF l n).getD []), .bool (getF l n).isSome]
theorem l70 (l : List (Str × Str)) (d : D) (n : Str) (h : Hp) (hd : SlOf 2 fld l d) (hl : l.length ≤ 9223372036854775807) {β : Type} (K : Out → Option β) (X : Str → Option β) (Y : Option β)
   (hX : ∀ v r, K (.ret, .str v :: .bool true :: r, h) = X v) (hY : ∀ r, K (.ext 0, r, h) = Y) : ∀ (suf pre : List (Str × Str)), l = pre ++ suf → ∀ a b c e f,
   (loopW (F70_L0 (.str n) d (.int .i64 l.length)) [a, b, c, .int .i64 pre.length, e, f] h).bind K = match getF suf n with | some v => X v | none => Y := by
  intro suf
  induction suf with
  | nil =>
    rintro pre rfl a b c e f
    rw [loopW_eq]
    simp [-Option.bind_some, F70_L0, hY, getF]
  | cons p suf ih =>
    rintro pre rfl a b c e f
    have hw : IntKind.wrap .i64 ((pre.length : Int) + 1) = (pre ++ [p]).length := by
      rw [wrap_i64 (by omega) (by simp [-Option.bind_some] at hl; omega)]; simp [-Option.bind_some]
    have hlt : (pre.length : Int) < (pre ++ p :: suf).length := by simp [-Option.bind_some]; omega
    rw [loopW_eq]
    generalize hL : pre ++ p :: suf = L at *
    have hg : L[pre.length]? = some p := by rw [← hL]; exact get_mid _ _ _
    by_cases hp : p.1 = n
    · simp [-Option.bind_some, F70_L0, ixs29 hd, hlt, hg, fld, hp, hX, getF]
    · have := ih (pre ++ [p]) (by simp [-Option.bind_some, ← hL]) a b (.fptr (fld p)) (.bool true) (.bool (p.1 == n))
      simp only [← hw] at this
      simp [-Option.bind_some, F70_L0, ixs29 hd, hlt, hg, fld, hp, getF]
      simp [-Option.bind_some, fld, getF] at this
      exact this
theorem s70 (l : List (Str × Str)) (d : D) (n : Str) (h : Hp) (hd : SlOf 2 fld l d) (hl : l.length ≤ 9223372036854775807) : R fn70 [d, .str n] h = some (getD' l n, h) := by
  rw [e70]
  simp only [F70, bs, lens29 hd, Option.bind_assoc]
  rw [show (0 : Int) = (([] : List (Str × Str)).length : Int) from rfl, l70 l d n h hd hl _ (fun v => some (.tup [.str v, .bool true], h)) (some (.tup [.str [], .bool false], h)) (fun v r => by simp [-Option.bind_some]) (fun r => by simp [-Option.bind_some]) l [] rfl]
  unfold getD'
  cases getF l n <;> rfl
/-- Does a field of this value apply? -/
def app (f v : Str) (e : Ev) : Bool := f == [] || getF e.fs f == some v
theorem s75 (n : Str) (e : Ev) (h : Hp) : R fn75 [.agg (evr e), .str n] h = some (getD' e.fs n, h) := by
  rw [e75]
  simp [-Option.bind_some, F75, evr, s70 _ _ _ _ e.hfd e.hl, getD']
def appFn (f v : Str) : D := if f = [] then .fn (.func fn73) [] [] else .fn (.func fn74) [] [.fptr [.str f], .fptr [.str v]]
theorem s52 (f v : Str) (h : Hp) : R fn52 [.str f, .str v] h = some (appFn f v, h) := by
  rw [e52]
  simp [-Option.bind_some, F52, appFn]
  by_cases h0 : f = [] <;> simp [-Option.bind_some, h0]
theorem sApp (f v : Str) (e : Ev) (h : Hp) : callV R (appFn f v) [.agg (evr e)] h = some (.bool (app f v e), h) := by
  unfold appFn app
  by_cases h0 : f = []
  · simp [-Option.bind_some, h0, e73, F73]
  · simp [-Option.bind_some, h0, e74, F74]
    have hld : dLoad tab h ty31 (.fptr (evr e)) = some (.agg (evr e)) := by simp [-Option.bind_some, evr]
    rw [hld]
    simp [-Option.bind_some, s75, getD']
    cases hg : getF e.fs f <;> simp [-Option.bind_some, h0]
/-- The first place, or -1. -/
def idx {α : Type} (pr : α → Bool) : Nat → List α → Int
  | _, [] => -1
  | k, x :: r => if pr x = true then k else idx pr (k + 1) r
theorem l50 (l : List Pol) (d : D) (fn : D) (pr : Pol → Bool) (h : Hp) (hd : SlOf 4 polr l d) (hl : l.length ≤ 9223372036854775807) (hf : ∀ x, callV R fn [.agg (polr x)] h = some (.bool (pr x), h)) {β : Type} (K : Out → Option β) (X : Int → Option β)
   (hX : ∀ v r, K (.ret, .int .i64 v :: r, h) = X v) (hY : ∀ r, K (.ext 0, r, h) = X (-1)) : ∀ (suf pre : List Pol), l = pre ++ suf → ∀ a b e f,
   (loopW (F50_L0 d fn (.int .i64 l.length)) [a, b, .int .i64 pre.length, e, f] h).bind K = X (idx pr pre.length suf) := by
  intro suf
  induction suf with
  | nil =>
    rintro pre rfl a b e f
    rw [loopW_eq]
    simp [-Option.bind_some, F50_L0, lens38 hd, hY, idx]
  | cons p suf ih =>
    rintro pre rfl a b e f
    have hw : IntKind.wrap .i64 ((pre.length : Int) + 1) = (pre ++ [p]).length := by
      rw [wrap_i64 (by omega) (by simp [-Option.bind_some] at hl; omega)]; simp [-Option.bind_some]
    have hlt : (pre.length : Int) < (pre ++ p :: suf).length := by simp [-Option.bind_some]; omega
    rw [loopW_eq]
    generalize hL : pre ++ p :: suf = L at *
    have hg : L[pre.length]? = some p := by rw [← hL]; exact get_mid _ _ _
    have hld : dLoad tab h ty53 (.fptr (polr p)) = some (.agg (polr p)) := by simp [-Option.bind_some, polr]
    by_cases hp : pr p = true
    · simp [-Option.bind_some, F50_L0, ixs38 hd, hlt, hg, hld, hf, hp, hX, idx]
    · have := ih (pre ++ [p]) (by simp [-Option.bind_some, ← hL]) a (.int .i64 pre.length) (.bool true) (.bool (pr p))
      simp only [← hw] at this
      simp [-Option.bind_some, F50_L0, ixs38 hd, hlt, hg, hld, hf, hp, idx]
      simp [-Option.bind_some, hp] at this
      exact this
theorem s50 (l : List Pol) (d : D) (fn : D) (pr : Pol → Bool) (h : Hp) (hd : SlOf 4 polr l d) (hl : l.length ≤ 9223372036854775807) (hf : ∀ x, callV R fn [.agg (polr x)] h = some (.bool (pr x), h)) :
   R fn50 [d, fn] h = some (.int .i64 (idx pr 0 l), h) := by
  rw [e50]
  simp only [F50, bs, lens38 hd, Option.bind_assoc]
  rw [show (0 : Int) = (([] : List Pol).length : Int) from rfl, l50 l d fn pr h hd hl hf _ (fun v => some (.int .i64 v, h)) (fun v r => by simp [-Option.bind_some]) (fun r => by simp [-Option.bind_some]) l [] rfl]
  rfl
def polI (l : List Pol) (e : Ev) : Int := idx (fun p => app p.f p.v e) 0 l
theorem s18 (l : List Pol) (d : D) (e : Ev) (h : Hp) (hd : SlOf 4 polr l d) (hl : l.length ≤ 9223372036854775807) : R fn18 [d, .agg (evr e)] h = some (.int .i64 (polI l e), h) := by
  rw [e18]
  simp only [F18, pBoxF_agg, bs]
  rw [s50 l d _ (fun p => app p.f p.v e) h hd hl (fun x => by
    have hld : dLoad tab h ty31 (.fptr (evr e)) = some (.agg (evr e)) := by simp [-Option.bind_some, evr]
    simp [-Option.bind_some, e51, F51, polr, s52, sApp, hld])]
  rfl
theorem idx_any {α : Type} (pr : α → Bool) : ∀ (l : List α) (k : Nat), decide (0 ≤ idx pr k l) = l.any pr
  | [], k => by simp [-Option.bind_some, idx]
  | x :: r, k => by
    unfold idx
    by_cases h : pr x = true
    · simp [-Option.bind_some, h]
    · simp [-Option.bind_some, h, idx_any pr r]
theorem s49 (n : Int) (h : Hp) : R fn49 [.int .i64 n] h = some (.bool (decide (0 ≤ n ∧ n ≤ 253402300799999)), h) := by
  rw [e49]; simp [-Option.bind_some, F49]
  by_cases h0 : 0 ≤ n <;> simp [-Option.bind_some, h0]
def strr (s : Str) : List D := [.str s]
theorem vix98 {h : Hp} {n0 e : Nat} {l : List Str} {d : D} (hd : Own h n0 e 1 (l.map strr) d) {i : Nat} {s : Str} (hg : l[i]? = some s) : ∃ p, dIndexAddr tab ty98 d (.int .i64 i) = some p ∧ dLoad tab h ty9 p = some (.str s) := by
  have hi := (List.getElem?_eq_some_iff.1 hg).1
  obtain ⟨ob, h1, rfl, hgo⟩ := own_ix hd (i := i) (by simpa [-Option.bind_some] using hi)
  refine ⟨.ptr ob i 0, ?_, ?_⟩
  · simp [-Option.bind_some, hi]
  · rw [ldp9, row_of hgo]; simp [-Option.bind_some, hg, strr]
theorem s86 (l : List Str) (d : D) (s : Str) (h : Hp) (n0 e : Nat) (hd : Own h n0 e 1 (l.map strr) d) (hl : l.length ≤ 9223372036854775807) : R fn86 [d, .str s] h = some (.int .i64 (idx (fun x => s == x) 0 l), h) := by
  suffices Wp (R fn86 [d, .str s] h) (fun p => p = (.int .i64 (idx (fun x => s == x) 0 l), h)) by
    obtain ⟨p, h1, rfl⟩ := this
    exact h1
  rw [e86]
  simp only [F86, bs, Option.bind_assoc, leno98 hd, List.length_map]
  refine Wp.loop (fun k ds g => g = h ∧ ∃ a b c e, ∃ i : Nat, ds = [a, b, .int .i64 i, c, e] ∧ k + i = l.length ∧ idx (fun x => s == x) i (l.drop i) = idx (fun x => s == x) 0 l)
    (fun x => x.2.2 = h ∧ ((x.1 = .ret ∧ nth 0 x.2.1 = .int .i64 (idx (fun x => s == x) 0 l)) ∨ (x.1 = .ext 0 ∧ idx (fun x => s == x) 0 l = -1))) l.length ⟨rfl, _, _, _, _, 0, rfl, rfl, rfl⟩ ?_ ?_
  · rintro k ds g ⟨rfl, a, b, c, e, i, rfl, hk, hi⟩
    simp only [F86_L0, nth_zero, nth_succ, bs, Option.bind_assoc, dBin_lss]
    refine Wp.dif ?_ ?_
    · intro h0
      have h0 : i < l.length := by have : (i : Int) < l.length := by simpa [-Option.bind_some] using h0
                                   omega
      have hg : l[i]? = some l[i] := List.getElem?_eq_getElem h0
      rw [List.drop_eq_getElem_cons h0] at hi
      generalize l[i] = x at hg hi
      have hw : IntKind.wrap .i64 ((i : Int) + 1) = ((i + 1 : Nat) : Int) := by
        rw [wrap_i64 (by omega) (by omega)]; omega
      obtain ⟨p, hp1, hp2⟩ := vix98 hd hg
      simp only [hp1, hp2, bs, dBin_seql]
      refine Wp.dif ?_ ?_
      · intro hx
        try simp only [bs]
        refine .some (.inr ⟨by simp [-Option.bind_some], rfl, .inl ⟨rfl, ?_⟩⟩)
        simp only [idx, hx, if_true] at hi
        simp only [nth_zero, ← hi]
      · intro hx
        simp only [bs, dBin_add, hw]
        refine .some (.inl ⟨rfl, k - 1, by omega, rfl, _, _, _, _, i + 1, rfl, by omega, ?_⟩)
        rw [← hi]
        simp [-Option.bind_some, idx, hx]
    · intro h0
      have h0 : i = l.length := by have : ¬ (i : Int) < l.length := by simpa [-Option.bind_some] using h0
                                   omega
      subst h0
      rw [List.drop_length] at hi
      exact .some (.inr ⟨by simp [-Option.bind_some], rfl, .inr ⟨rfl, hi.symm⟩⟩)
  · rintro ⟨x, ds, g⟩ ⟨rfl, ⟨rfl, hx⟩ | ⟨rfl, hx⟩⟩
    · replace hx : nth 0 ds = _ := hx
      simp only [unblk_ret, toEnd_ret, exEnd_ret, nth_zero, bs, hx, mkRes_one]
      exact .some rfl
    · simp only [unblk_self, toEnd_nrm, bs, mkRes_one, hx]
      exact .some rfl
theorem s78 (l : List Str) (d : D) (s : Str) (h : Hp) (n0 e : Nat) (hd : Own h n0 e 1 (l.map strr) d) (hl : l.length ≤ 9223372036854775807) : R fn78 [d, .str s] h = some (.bool (decide (s ∈ l)), h) := by
  rw [e78]
  have ha : (l.any fun x => s == x) = decide (s ∈ l) := by
    rw [Bool.eq_iff_iff, List.any_eq_true, decide_eq_true_iff]
    exact ⟨fun ⟨x, hx, he⟩ => by have := eq_of_beq he; rw [this]; exact hx, fun h => ⟨s, h, beq_self_eq_true s⟩⟩
  simp only [F78, bs, s86 l d s h n0 e hd hl, dBin_geq, mkRes_one, idx_any, ha]
def nameOK (s : Str) : Bool := decide (s ≠ []) && decide (s.length ≤ 32)
theorem s58 (s : Str) (h : Hp) : R fn58 [.str s] h = some (.bool (nameOK s), h) := by
  rw [e58]
  by_cases h0 : s = []
  · subst h0; simp [-Option.bind_some, F58, nameOK]
  · have : 0 < s.length := List.length_pos_iff.2 h0
    by_cases h1 : s.length ≤ 32
    · have h1' : (s.length : Int) ≤ 32 := by omega
      simp [-Option.bind_some, F58, nameOK, h0, this, h1, h1']
    · have h1' : ¬ (s.length : Int) ≤ 32 := by omega
      simp [-Option.bind_some, F58, nameOK, h0, this, h1, h1']
theorem s56 (l : List Str) (d : D) (s : Str) (h : Hp) (n0 e : Nat) (hd : Own h n0 e 1 (l.map strr) d) (hl : l.length ≤ 9223372036854775807) : R fn56 [.str s, d] h = some (.int .i64 (if nameOK s = true then (if s ∈ l then 7 else 0) else 6), h) := by
  rw [e56]
  by_cases h0 : s = []
  · subst h0; simp [-Option.bind_some, F56, nameOK]
  · by_cases h1 : s.length ≤ 32
    · have h1' : ¬ (32 : Int) < s.length := by omega
      by_cases h2 : s ∈ l <;> simp [-Option.bind_some, F56, nameOK, h0, h1, h1', h2, s78 l d s h n0 e hd hl]
    · have h1' : (32 : Int) < s.length := by omega
      simp [-Option.bind_some, F56, nameOK, h0, h1, h1']
/-- The first error of a list: names, numbers, and names that occur twice. -/
def chkL {α : Type} (nm : α → Str) (bad : α → Bool) : List Str → List α → Int
  | _, [] => 0
  | seen, p :: r => if nameOK (nm p) = true then (if bad p = true then 2 else if nm p ∈ seen then 7 else chkL nm bad (seen ++ [nm p]) r) else 6
def chkA {α : Type} (nm : α → Str) (bad : α → Bool) (l : List α) : Int := if 16 < l.length then 4 else chkL nm bad [] l
def badP (p : Pol) : Bool := ! decide (0 ≤ p.age ∧ p.age ≤ 253402300799999)
def badH (p : Hld) : Bool := ! decide (0 ≤ p.fr ∧ p.to ≤ 253402300799999 ∧ p.fr ≤ p.to)
theorem polr_ld (p : Pol) (h : Hp) : dLoad tab h ty53 (.fptr (polr p)) = some (.agg (polr p)) := id rfl
theorem polr_bx (p : Pol) : boxN 4 (.agg (polr p)) = some (.fptr (polr p)) := boxN_agg 4 _ rfl
theorem polr_f0 (p : Pol) : dFieldAddr tab ty53 0 (.fptr (polr p)) = some (.fptr (polr p)) := id rfl
theorem polr_l0 (p : Pol) (h : Hp) : dLoad tab h ty9 (.fptr (polr p)) = some (.str p.n) := id rfl
theorem polr_f3 (p : Pol) : dFieldAddr tab ty53 3 (.fptr (polr p)) = some (.fptr [.int .i64 p.age]) := id rfl
theorem hldr_ld (p : Hld) (h : Hp) : dLoad tab h ty56 (.fptr (hldr p)) = some (.agg (hldr p)) := id rfl
theorem hldr_bx (p : Hld) : boxN 5 (.agg (hldr p)) = some (.fptr (hldr p)) := boxN_agg 5 _ rfl
theorem hldr_f0 (p : Hld) : dFieldAddr tab ty56 0 (.fptr (hldr p)) = some (.fptr (hldr p)) := id rfl
theorem hldr_l0 (p : Hld) (h : Hp) : dLoad tab h ty9 (.fptr (hldr p)) = some (.str p.n) := id rfl
theorem hldr_f3 (p : Hld) : dFieldAddr tab ty56 3 (.fptr (hldr p)) = some (.fptr [.int .i64 p.fr, .int .i64 p.to]) := id rfl
theorem hldr_f4 (p : Hld) : dFieldAddr tab ty56 4 (.fptr (hldr p)) = some (.fptr [.int .i64 p.to]) := id rfl

theorem s22 (l : List Pol) (d : D) (h : Hp) (hd : SlOf 4 polr l d) (hl : l.length ≤ 9223372036854775807) : R fn22 [d] h = some (.int .i64 (chkA (·.n) badP l), h) := by
  suffices Wp (R fn22 [d] h) (fun p => p = (.int .i64 (chkA (·.n) badP l), h)) by
    obtain ⟨p, h1, rfl⟩ := this
    exact h1
  rw [e22]
  simp only [F22, bs, Option.bind_assoc, lens38 hd, dBin_gtr]
  refine Wp.dif ?_ ?_
  · intro h0
    have h0 : 16 < l.length := by have : (16 : Int) < l.length := by simpa [-Option.bind_some] using h0
                                  omega
    simp only [bs, mkRes_one]
    rw [scope_eq (d' := .int .i64 4) (by simp [-Option.bind_some]) (.int _ _) (Nat.le_refl _) (fun _ _ => rfl)]
    exact .some (by simp [-Option.bind_some, chkA, h0])
  intro h0
  have h0 : ¬ 16 < l.length := by have : ¬ (16 : Int) < l.length := by simpa [-Option.bind_some] using h0
                                  omega
  have hA : chkA (·.n) badP l = chkL (·.n) badP [] l := by simp [-Option.bind_some, chkA, h0]
  try simp only [bs]
  refine Wp.loop (fun k ds g => ∃ a x b c e f f', ∃ i : Nat, ds = [a, x, b, c, .int .i64 i, e, f, f'] ∧ k + i = l.length ∧ Own g h.length ty9 1 (((l.take i).map (·.n)).map strr) x ∧ h.length ≤ g.length ∧ (∀ q, q < h.length → g[q]? = h[q]?) ∧ chkL (·.n) badP ((l.take i).map (·.n)) (l.drop i) = chkL (·.n) badP [] l)
    (fun r => h.length ≤ r.2.2.length ∧ (∀ q, q < h.length → r.2.2[q]? = h[q]?) ∧ ((r.1 = .ret ∧ nth 0 r.2.1 = .int .i64 (chkL (·.n) badP [] l)) ∨ (r.1 = .ext 0 ∧ chkL (·.n) badP [] l = 0))) l.length ⟨_, _, _, _, _, _, _, 0, rfl, rfl, Own.nils _ _ _ _, Nat.le_refl _, fun _ _ => rfl, rfl⟩ ?_ ?_
  · rintro k ds g ⟨a, x, b, c, e, f, f', i, rfl, hk, ow, hgl, hgb, hi⟩
    simp only [F22_L0, nth_zero, nth_succ, bs, Option.bind_assoc, dBin_lss]
    refine Wp.dif ?_ ?_
    · intro h1
      have h1 : i < l.length := by have : (i : Int) < l.length := by simpa [-Option.bind_some] using h1
                                   omega
      have hg : l[i]? = some l[i] := List.getElem?_eq_getElem h1
      rw [List.drop_eq_getElem_cons h1] at hi
      have htk : (l.take (i + 1)).map (·.n) = (l.take i).map (·.n) ++ [l[i].n] := by rw [List.take_add_one, hg, List.map_append]; rfl
      generalize l[i] = p at hg hi htk
      have hw : IntKind.wrap .i64 ((i : Int) + 1) = ((i + 1 : Nat) : Int) := by
        rw [wrap_i64 (by omega) (by omega)]; omega
      have hs56 := s56 _ x p.n g _ _ ow (by simp [-Option.bind_some]; omega)
      simp only [ixs38 hd, Int.natCast_nonneg, if_true, Int.toNat_natCast, hg, Option.map_some, bs, polr_ld, polr_bx, polr_f0, polr_l0, hs56]
      by_cases hn : nameOK p.n = true
      · by_cases hb : badP p = true
        · have hb0 : decide (0 ≤ p.age ∧ p.age ≤ 253402300799999) = false := by cases hq : decide (0 ≤ p.age ∧ p.age ≤ 253402300799999) <;> simp [-Option.bind_some, badP, hq] at hb ⊢
          · by_cases hm : p.n ∈ (l.take i).map (·.n)
            · simp only [hn, hm, s49, polr_f3, ld3, hb0, gd_bool, gdW_bool, dPick_bool, dUn_not, dIf_bool, bs, toEnd_nrm, unblk_nrm, nth_zero, nth_succ, dBin_neq, ne_eq, Int.reduceEq, not_false_eq_true, not_true_eq_false, decide_true, decide_false, if_true, if_false, Bool.false_eq_true, reduceCtorEq, Bool.not_true, Bool.not_false]
              refine .some (.inr ⟨by simp [-Option.bind_some], hgl, hgb, .inl ⟨rfl, ?_⟩⟩)
              simp only [nth_zero]
              rw [← hi]
              simp only [chkL, hn, if_true, hb]
            · simp only [hn, hm, s49, polr_f3, ld3, hb0, gd_bool, gdW_bool, dPick_bool, dUn_not, dIf_bool, bs, toEnd_nrm, unblk_nrm, nth_zero, nth_succ, dBin_neq, ne_eq, Int.reduceEq, not_false_eq_true, not_true_eq_false, decide_true, decide_false, if_true, if_false, Bool.false_eq_true, reduceCtorEq, Bool.not_true, Bool.not_false]
              refine .some (.inr ⟨by simp [-Option.bind_some], hgl, hgb, .inl ⟨rfl, ?_⟩⟩)
              simp only [nth_zero]
              rw [← hi]
              simp only [chkL, hn, if_true, hb]
        · have hb0 : decide (0 ≤ p.age ∧ p.age ≤ 253402300799999) = true := by cases hq : decide (0 ≤ p.age ∧ p.age ≤ 253402300799999) <;> simp [-Option.bind_some, badP, hq] at hb ⊢
          by_cases hm : p.n ∈ (l.take i).map (·.n)
          · simp only [hn, hm, s49, polr_f3, ld3, hb0, gd_bool, gdW_bool, dPick_bool, dUn_not, dIf_bool, bs, toEnd_nrm, unblk_nrm, nth_zero, nth_succ, dBin_neq, ne_eq, Int.reduceEq, not_false_eq_true, not_true_eq_false, decide_true, decide_false, if_true, if_false, Bool.false_eq_true, reduceCtorEq, Bool.not_true, Bool.not_false]
            refine .some (.inr ⟨by simp [-Option.bind_some], hgl, hgb, .inl ⟨rfl, ?_⟩⟩)
            simp only [nth_zero]
            rw [← hi]
            simp only [chkL, hn, if_true, if_neg hb, hm]
          · simp only [hn, hm, s49, polr_f3, ld3, hb0, gd_bool, gdW_bool, dPick_bool, dUn_not, dIf_bool, bs, toEnd_nrm, unblk_nrm, nth_zero, nth_succ, dBin_neq, ne_eq, Int.reduceEq, not_false_eq_true, not_true_eq_false, decide_true, decide_false, if_true, if_false, Bool.false_eq_true, reduceCtorEq, Bool.not_true, Bool.not_false, polr_ld, polr_bx, polr_f0, polr_l0, bs98_1]
            refine wap98 hgl ow (rowsOf_sl _ _ _ _) (by simp [-Option.bind_some]; omega) fun x' g' ow' len bel _ _ => ?_
            simp only [bs, dBin_add, hw]
            refine .some (.inl ⟨rfl, k - 1, by omega, _, _, _, _, _, _, _, i + 1, rfl, by omega, ?_, Nat.le_trans hgl len, fun q hq => (bel q hq).trans (hgb q hq), ?_⟩)
            · rw [htk, List.map_append]; exact ow'
            · rw [← hi, htk]
              simp only [chkL, hn, if_true, if_neg hb, if_neg hm]
      · have hn' : nameOK p.n = false := by simpa [-Option.bind_some] using hn
        simp only [hn', gd_bool, gdW_bool, dPick_bool, dUn_not, dIf_bool, bs, toEnd_nrm, unblk_nrm, nth_zero, nth_succ, dBin_neq, ne_eq, Int.reduceEq, not_false_eq_true, not_true_eq_false, decide_true, decide_false, if_true, if_false, Bool.false_eq_true, reduceCtorEq, Bool.not_true, Bool.not_false]
        refine .some (.inr ⟨by simp [-Option.bind_some], hgl, hgb, .inl ⟨rfl, ?_⟩⟩)
        simp only [nth_zero]
        rw [← hi]
        simp only [chkL, hn', Bool.false_eq_true, if_false]
    · intro h1
      have h1 : i = l.length := by have : ¬ (i : Int) < l.length := by simpa [-Option.bind_some] using h1
                                   omega
      subst h1
      rw [List.drop_length] at hi
      exact .some (.inr ⟨by simp [-Option.bind_some], hgl, hgb, .inr ⟨rfl, hi.symm⟩⟩)
  · rintro ⟨x, ds, g⟩ ⟨hgl, hgb, ⟨rfl, hx⟩ | ⟨rfl, hx⟩⟩
    · replace hx : nth 0 ds = _ := hx
      simp only [unblk_ret, toEnd_ret, exEnd_ret, nth_zero, bs, hx, mkRes_one]
      rw [scope_eq (d' := .int .i64 (chkL (·.n) badP [] l)) (by simp [-Option.bind_some]) (.int _ _) hgl hgb]
      exact .some (by rw [hA])
    · simp only [unblk_self, toEnd_nrm, bs, mkRes_one]
      rw [scope_eq (d' := .int .i64 0) (by simp [-Option.bind_some]) (.int _ _) hgl hgb]
      exact .some (by rw [hA, hx])

theorem s23 (l : List Hld) (d : D) (h : Hp) (hd : SlOf 5 hldr l d) (hl : l.length ≤ 9223372036854775807) : R fn23 [d] h = some (.int .i64 (chkA (·.n) badH l), h) := by
  suffices Wp (R fn23 [d] h) (fun p => p = (.int .i64 (chkA (·.n) badH l), h)) by
    obtain ⟨p, h1, rfl⟩ := this
    exact h1
  rw [e23]
  simp only [F23, bs, Option.bind_assoc, lens39 hd, dBin_gtr]
  refine Wp.dif ?_ ?_
  · intro h0
    have h0 : 16 < l.length := by have : (16 : Int) < l.length := by simpa [-Option.bind_some] using h0
                                  omega
    simp only [bs, mkRes_one]
    rw [scope_eq (d' := .int .i64 4) (by simp [-Option.bind_some]) (.int _ _) (Nat.le_refl _) (fun _ _ => rfl)]
    exact .some (by simp [-Option.bind_some, chkA, h0])
  intro h0
  have h0 : ¬ 16 < l.length := by have : ¬ (16 : Int) < l.length := by simpa [-Option.bind_some] using h0
                                  omega
  have hA : chkA (·.n) badH l = chkL (·.n) badH [] l := by simp [-Option.bind_some, chkA, h0]
  try simp only [bs]
  refine Wp.loop (fun k ds g => ∃ a x b c e f f', ∃ i : Nat, ds = [a, x, b, c, .int .i64 i, e, f, f'] ∧ k + i = l.length ∧ Own g h.length ty9 1 (((l.take i).map (·.n)).map strr) x ∧ h.length ≤ g.length ∧ (∀ q, q < h.length → g[q]? = h[q]?) ∧ chkL (·.n) badH ((l.take i).map (·.n)) (l.drop i) = chkL (·.n) badH [] l)
    (fun r => h.length ≤ r.2.2.length ∧ (∀ q, q < h.length → r.2.2[q]? = h[q]?) ∧ ((r.1 = .ret ∧ nth 0 r.2.1 = .int .i64 (chkL (·.n) badH [] l)) ∨ (r.1 = .ext 0 ∧ chkL (·.n) badH [] l = 0))) l.length ⟨_, _, _, _, _, _, _, 0, rfl, rfl, Own.nils _ _ _ _, Nat.le_refl _, fun _ _ => rfl, rfl⟩ ?_ ?_
  · rintro k ds g ⟨a, x, b, c, e, f, f', i, rfl, hk, ow, hgl, hgb, hi⟩
    simp only [F23_L0, nth_zero, nth_succ, bs, Option.bind_assoc, dBin_lss]
    refine Wp.dif ?_ ?_
    · intro h1
      have h1 : i < l.length := by have : (i : Int) < l.length := by simpa [-Option.bind_some] using h1
                                   omega
      have hg : l[i]? = some l[i] := List.getElem?_eq_getElem h1
      rw [List.drop_eq_getElem_cons h1] at hi
      have htk : (l.take (i + 1)).map (·.n) = (l.take i).map (·.n) ++ [l[i].n] := by rw [List.take_add_one, hg, List.map_append]; rfl
      generalize l[i] = p at hg hi htk
      have hw : IntKind.wrap .i64 ((i : Int) + 1) = ((i + 1 : Nat) : Int) := by
        rw [wrap_i64 (by omega) (by omega)]; omega
      have hs56 := s56 _ x p.n g _ _ ow (by simp [-Option.bind_some]; omega)
      simp only [ixs39 hd, Int.natCast_nonneg, if_true, Int.toNat_natCast, hg, Option.map_some, bs, hldr_ld, hldr_bx, hldr_f0, hldr_l0, hs56]
      by_cases hn : nameOK p.n = true
      · by_cases hb : badH p = true
        · have hq : decide (0 ≤ p.fr ∧ p.fr ≤ 253402300799999) = false ∨ (decide (0 ≤ p.fr ∧ p.fr ≤ 253402300799999) = true ∧ decide (0 ≤ p.to ∧ p.to ≤ 253402300799999) = false) ∨ (decide (0 ≤ p.fr ∧ p.fr ≤ 253402300799999) = true ∧ decide (0 ≤ p.to ∧ p.to ≤ 253402300799999) = true ∧ decide (p.to < p.fr) = true) := by
            simp only [badH, Bool.not_eq_true', decide_eq_false_iff_not] at hb
            by_cases ha : 0 ≤ p.fr ∧ p.fr ≤ 253402300799999
            · by_cases hb2 : 0 ≤ p.to ∧ p.to ≤ 253402300799999
              · right; right
                exact ⟨decide_eq_true ha, decide_eq_true hb2, decide_eq_true (by omega)⟩
              · right; left
                exact ⟨decide_eq_true ha, decide_eq_false hb2⟩
            · left; exact decide_eq_false ha
          rcases hq with ha | ⟨ha, hb2⟩ | ⟨ha, hb2, hc⟩
          · by_cases hm : p.n ∈ (l.take i).map (·.n)
            · simp only [hn, hm, s49, hldr_f3, hldr_f4, ld3, ha, gd_bool, gdW_bool, dPick_bool, dUn_not, dIf_bool, bs, toEnd_nrm, unblk_nrm, nth_zero, nth_succ, dBin_neq, ne_eq, Int.reduceEq, not_false_eq_true, not_true_eq_false, decide_true, decide_false, if_true, if_false, Bool.false_eq_true, reduceCtorEq, Bool.not_true, Bool.not_false]
              refine .some (.inr ⟨by simp [-Option.bind_some], hgl, hgb, .inl ⟨rfl, ?_⟩⟩)
              simp only [nth_zero]
              rw [← hi]
              simp only [chkL, hn, if_true, hb]
            · simp only [hn, hm, s49, hldr_f3, hldr_f4, ld3, ha, gd_bool, gdW_bool, dPick_bool, dUn_not, dIf_bool, bs, toEnd_nrm, unblk_nrm, nth_zero, nth_succ, dBin_neq, ne_eq, Int.reduceEq, not_false_eq_true, not_true_eq_false, decide_true, decide_false, if_true, if_false, Bool.false_eq_true, reduceCtorEq, Bool.not_true, Bool.not_false]
              refine .some (.inr ⟨by simp [-Option.bind_some], hgl, hgb, .inl ⟨rfl, ?_⟩⟩)
              simp only [nth_zero]
              rw [← hi]
              simp only [chkL, hn, if_true, hb]
          · by_cases hm : p.n ∈ (l.take i).map (·.n)
            · simp only [hn, hm, s49, hldr_f3, hldr_f4, ld3, ha, hb2, gd_bool, gdW_bool, dPick_bool, dUn_not, dIf_bool, bs, toEnd_nrm, unblk_nrm, nth_zero, nth_succ, dBin_neq, ne_eq, Int.reduceEq, not_false_eq_true, not_true_eq_false, decide_true, decide_false, if_true, if_false, Bool.false_eq_true, reduceCtorEq, Bool.not_true, Bool.not_false]
              refine .some (.inr ⟨by simp [-Option.bind_some], hgl, hgb, .inl ⟨rfl, ?_⟩⟩)
              simp only [nth_zero]
              rw [← hi]
              simp only [chkL, hn, if_true, hb]
            · simp only [hn, hm, s49, hldr_f3, hldr_f4, ld3, ha, hb2, gd_bool, gdW_bool, dPick_bool, dUn_not, dIf_bool, bs, toEnd_nrm, unblk_nrm, nth_zero, nth_succ, dBin_neq, ne_eq, Int.reduceEq, not_false_eq_true, not_true_eq_false, decide_true, decide_false, if_true, if_false, Bool.false_eq_true, reduceCtorEq, Bool.not_true, Bool.not_false]
              refine .some (.inr ⟨by simp [-Option.bind_some], hgl, hgb, .inl ⟨rfl, ?_⟩⟩)
              simp only [nth_zero]
              rw [← hi]
              simp only [chkL, hn, if_true, hb]
          · by_cases hm : p.n ∈ (l.take i).map (·.n)
            · simp only [hn, hm, s49, hldr_f3, hldr_f4, ld3, dBin_gtr, ha, hb2, hc, gd_bool, gdW_bool, dPick_bool, dUn_not, dIf_bool, bs, toEnd_nrm, unblk_nrm, nth_zero, nth_succ, dBin_neq, ne_eq, Int.reduceEq, not_false_eq_true, not_true_eq_false, decide_true, decide_false, if_true, if_false, Bool.false_eq_true, reduceCtorEq, Bool.not_true, Bool.not_false]
              refine .some (.inr ⟨by simp [-Option.bind_some], hgl, hgb, .inl ⟨rfl, ?_⟩⟩)
              simp only [nth_zero]
              rw [← hi]
              simp only [chkL, hn, if_true, hb]
            · simp only [hn, hm, s49, hldr_f3, hldr_f4, ld3, dBin_gtr, ha, hb2, hc, gd_bool, gdW_bool, dPick_bool, dUn_not, dIf_bool, bs, toEnd_nrm, unblk_nrm, nth_zero, nth_succ, dBin_neq, ne_eq, Int.reduceEq, not_false_eq_true, not_true_eq_false, decide_true, decide_false, if_true, if_false, Bool.false_eq_true, reduceCtorEq, Bool.not_true, Bool.not_false]
              refine .some (.inr ⟨by simp [-Option.bind_some], hgl, hgb, .inl ⟨rfl, ?_⟩⟩)
              simp only [nth_zero]
              rw [← hi]
              simp only [chkL, hn, if_true, hb]
        · have hq : decide (0 ≤ p.fr ∧ p.fr ≤ 253402300799999) = true ∧ decide (0 ≤ p.to ∧ p.to ≤ 253402300799999) = true ∧ decide (p.to < p.fr) = false := by
            simp only [badH, Bool.not_eq_true', decide_eq_false_iff_not, Classical.not_not] at hb
            exact ⟨decide_eq_true (by omega), decide_eq_true (by omega), decide_eq_false (by omega)⟩
          obtain ⟨ha, hb2, hc⟩ := hq
          by_cases hm : p.n ∈ (l.take i).map (·.n)
          · simp only [hn, hm, s49, hldr_f3, hldr_f4, ld3, dBin_gtr, ha, hb2, hc, gd_bool, gdW_bool, dPick_bool, dUn_not, dIf_bool, bs, toEnd_nrm, unblk_nrm, nth_zero, nth_succ, dBin_neq, ne_eq, Int.reduceEq, not_false_eq_true, not_true_eq_false, decide_true, decide_false, if_true, if_false, Bool.false_eq_true, reduceCtorEq, Bool.not_true, Bool.not_false]
            refine .some (.inr ⟨by simp [-Option.bind_some], hgl, hgb, .inl ⟨rfl, ?_⟩⟩)
            simp only [nth_zero]
            rw [← hi]
            simp only [chkL, hn, if_true, if_neg hb, hm]
          · simp only [hn, hm, s49, hldr_f3, hldr_f4, ld3, dBin_gtr, ha, hb2, hc, gd_bool, gdW_bool, dPick_bool, dUn_not, dIf_bool, bs, toEnd_nrm, unblk_nrm, nth_zero, nth_succ, dBin_neq, ne_eq, Int.reduceEq, not_false_eq_true, not_true_eq_false, decide_true, decide_false, if_true, if_false, Bool.false_eq_true, reduceCtorEq, Bool.not_true, Bool.not_false, hldr_ld, hldr_bx, hldr_f0, hldr_l0, bs98_1]
            refine wap98 hgl ow (rowsOf_sl _ _ _ _) (by simp [-Option.bind_some]; omega) fun x' g' ow' len bel _ _ => ?_
            simp only [bs, dBin_add, hw]
            refine .some (.inl ⟨rfl, k - 1, by omega, _, _, _, _, _, _, _, i + 1, rfl, by omega, ?_, Nat.le_trans hgl len, fun q hq => (bel q hq).trans (hgb q hq), ?_⟩)
            · rw [htk, List.map_append]; exact ow'
            · rw [← hi, htk]
              simp only [chkL, hn, if_true, if_neg hb, if_neg hm]
      · have hn' : nameOK p.n = false := by simpa [-Option.bind_some] using hn
        simp only [hn', gd_bool, gdW_bool, dPick_bool, dUn_not, dIf_bool, bs, toEnd_nrm, unblk_nrm, nth_zero, nth_succ, dBin_neq, ne_eq, Int.reduceEq, not_false_eq_true, not_true_eq_false, decide_true, decide_false, if_true, if_false, Bool.false_eq_true, reduceCtorEq, Bool.not_true, Bool.not_false]
        refine .some (.inr ⟨by simp [-Option.bind_some], hgl, hgb, .inl ⟨rfl, ?_⟩⟩)
        simp only [nth_zero]
        rw [← hi]
        simp only [chkL, hn', Bool.false_eq_true, if_false]
    · intro h1
      have h1 : i = l.length := by have : ¬ (i : Int) < l.length := by simpa [-Option.bind_some] using h1
                                   omega
      subst h1
      rw [List.drop_length] at hi
      exact .some (.inr ⟨by simp [-Option.bind_some], hgl, hgb, .inr ⟨rfl, hi.symm⟩⟩)
  · rintro ⟨x, ds, g⟩ ⟨hgl, hgb, ⟨rfl, hx⟩ | ⟨rfl, hx⟩⟩
    · replace hx : nth 0 ds = _ := hx
      simp only [unblk_ret, toEnd_ret, exEnd_ret, nth_zero, bs, hx, mkRes_one]
      rw [scope_eq (d' := .int .i64 (chkL (·.n) badH [] l)) (by simp [-Option.bind_some]) (.int _ _) hgl hgb]
      exact .some (by rw [hA])
    · simp only [unblk_self, toEnd_nrm, bs, mkRes_one]
      rw [scope_eq (d' := .int .i64 0) (by simp [-Option.bind_some]) (.int _ _) hgl hgb]
      exact .some (by rw [hA, hx])
theorem l25 (l : List Pol) (d : D) (hd : SlOf 4 polr l d) (i : Nat) (p : Pol) (hp : l[i]? = some p) (ds0 : List D) (hds : nth 1 ds0 = .int .i64 i) (hl : l.length ≤ 9223372036854775807) (g : Hp) (a b c : D) {β : Type} {K : Out → Option β} {Q : β → Prop}
    (c1 : p.n ∈ (l.take i).map (·.n) → ∀ b c e, Wp (K (.ret, [.int .i64 7, b, c, e], g)) Q) (c2 : ¬ p.n ∈ (l.take i).map (·.n) → ∀ b c e, Wp (K (.ext 2, [a, b, c, e], g)) Q) :
    Wp ((loopW (F25_L1 d ds0) [a, .int .i64 0, b, c] g).bind K) Q := by
  have hil := (List.getElem?_eq_some_iff.1 hp).1
  refine Wp.loop (fun k ds g' => g' = g ∧ ∃ b c, ∃ j : Nat, ds = [a, .int .i64 j, b, c] ∧ k + j = i ∧ ¬ p.n ∈ (l.take j).map (·.n))
    (fun r => r.2.2 = g ∧ ∃ b c e, (r.1 = .ret ∧ r.2.1 = [.int .i64 7, b, c, e] ∧ p.n ∈ (l.take i).map (·.n)) ∨ (r.1 = .ext 2 ∧ r.2.1 = [a, b, c, e] ∧ ¬ p.n ∈ (l.take i).map (·.n))) i ⟨rfl, _, _, 0, rfl, rfl, by simp [-Option.bind_some]⟩ ?_ ?_
  · rintro k ds g' ⟨rfl, b, c, j, rfl, hk, hj⟩
    simp only [F25_L1, nth_zero, nth_succ, bs, Option.bind_assoc, hds, dBin_lss]
    refine Wp.dif ?_ ?_
    · intro h0
      have h0 : j < i := by have : (j : Int) < i := by simpa [-Option.bind_some] using h0
                            omega
      have hg : l[j]? = some l[j] := List.getElem?_eq_getElem (by omega)
      have htk : (l.take (j + 1)).map (·.n) = (l.take j).map (·.n) ++ [l[j].n] := by rw [List.take_add_one, hg, List.map_append]; rfl
      generalize l[j] = q at hg htk
      have hw : IntKind.wrap .i64 ((j : Int) + 1) = ((j + 1 : Nat) : Int) := by
        rw [wrap_i64 (by omega) (by omega)]; omega
      simp only [ixs38 hd, Int.natCast_nonneg, if_true, Int.toNat_natCast, hg, hp, Option.map_some, bs, polr_f0, polr_l0, dBin_seql]
      refine Wp.dif ?_ ?_
      · intro hq
        have hq : q.n = p.n := by simpa [-Option.bind_some] using hq
        try simp only [bs]
        refine .some (.inr ⟨by simp [-Option.bind_some], rfl, _, _, _, .inl ⟨rfl, rfl, ?_⟩⟩)
        rw [← hq]
        refine List.mem_map.2 ⟨q, ?_, rfl⟩
        refine List.mem_iff_getElem?.2 ⟨j, ?_⟩
        rw [List.getElem?_take, if_pos h0]; exact hg
      · intro hq
        have hq : ¬ q.n = p.n := by simpa [-Option.bind_some] using hq
        simp only [dBin_add, bs, hw]
        refine .some (.inl ⟨rfl, k - 1, by omega, rfl, _, _, j + 1, rfl, by omega, ?_⟩)
        rw [htk, List.mem_append, List.mem_singleton]
        rintro (h1 | h1)
        · exact hj h1
        · exact hq h1.symm
    · intro h0
      have h0 : j = i := by have : ¬ (j : Int) < i := by simpa [-Option.bind_some] using h0
                            omega
      subst h0
      exact .some (.inr ⟨by simp [-Option.bind_some], rfl, _, _, _, .inr ⟨rfl, rfl, hj⟩⟩)
  · rintro ⟨x, ds, g'⟩ ⟨rfl, b, c, e, ⟨rfl, rfl, hm⟩ | ⟨rfl, rfl, hm⟩⟩
    · exact c1 hm b c e
    · exact c2 hm b c e
theorem s25 (l : List Pol) (d : D) (h : Hp) (hd : SlOf 4 polr l d) (hl : l.length ≤ 9223372036854775807) : R fn25 [d] h = some (.int .i64 (chkA (·.n) badP l), h) := by
  suffices Wp (R fn25 [d] h) (fun p => p = (.int .i64 (chkA (·.n) badP l), h)) by
    obtain ⟨p, h1, rfl⟩ := this
    exact h1
  rw [e25]
  simp only [F25, bs, Option.bind_assoc, lens38 hd, dBin_gtr]
  refine Wp.dif ?_ ?_
  · intro h0
    have h0 : 16 < l.length := by have : (16 : Int) < l.length := by simpa [-Option.bind_some] using h0
                                  omega
    simp only [bs, mkRes_one]
    exact .some (by simp [-Option.bind_some, chkA, h0])
  intro h0
  have h0 : ¬ 16 < l.length := by have : ¬ (16 : Int) < l.length := by simpa [-Option.bind_some] using h0
                                  omega
  have hA : chkA (·.n) badP l = chkL (·.n) badP [] l := by simp [-Option.bind_some, chkA, h0]
  try simp only [bs]
  refine Wp.loop (fun k ds g => g = h ∧ ∃ a x b c e f f', ∃ i : Nat, ds = [a, .int .i64 i, b, c, e, f, f', x] ∧ k + i = l.length ∧ chkL (·.n) badP ((l.take i).map (·.n)) (l.drop i) = chkL (·.n) badP [] l)
    (fun r => r.2.2 = h ∧ ((r.1 = .ret ∧ nth 0 r.2.1 = .int .i64 (chkL (·.n) badP [] l)) ∨ (r.1 = .ext 0 ∧ chkL (·.n) badP [] l = 0))) l.length ⟨rfl, _, _, _, _, _, _, _, 0, rfl, rfl, rfl⟩ ?_ ?_
  · rintro k ds g ⟨rfl, a, x, b, c, e, f, f', i, rfl, hk, hi⟩
    simp only [F25_L0, nth_zero, nth_succ, bs, Option.bind_assoc, lens38 hd, dBin_lss]
    refine Wp.dif ?_ ?_
    · intro h1
      have h1 : i < l.length := by have : (i : Int) < l.length := by simpa [-Option.bind_some] using h1
                                   omega
      have hg : l[i]? = some l[i] := List.getElem?_eq_getElem h1
      rw [List.drop_eq_getElem_cons h1] at hi
      have htk : (l.take (i + 1)).map (·.n) = (l.take i).map (·.n) ++ [l[i].n] := by rw [List.take_add_one, hg, List.map_append]; rfl
      generalize l[i] = p at hg hi htk
      have hw : IntKind.wrap .i64 ((i : Int) + 1) = ((i + 1 : Nat) : Int) := by
        rw [wrap_i64 (by omega) (by omega)]; omega
      by_cases hn : nameOK p.n = true
      · by_cases hb : badP p = true
        · have hq : decide (p.age < 0) = true ∨ (decide (p.age < 0) = false ∧ decide (253402300799999 < p.age) = true) := by
            simp only [badP, Bool.not_eq_true', decide_eq_false_iff_not] at hb
            by_cases ha : p.age < 0
            · left; exact decide_eq_true ha
            · right; exact ⟨decide_eq_false ha, decide_eq_true (by omega)⟩
          rcases hq with ha | ⟨ha, hb2⟩
          · simp only [s58, hn, polr_f3, ld3, dBin_lss, dBin_gtr, ha, gd_bool, gdW_bool, dPick_bool, dUn_not, dIf_bool, bs, toEnd_nrm, unblk_nrm, nth_zero, nth_succ, ne_eq, not_false_eq_true, not_true_eq_false, decide_true, decide_false, if_true, if_false, Bool.false_eq_true, reduceCtorEq, Bool.not_true, Bool.not_false, ixs38 hd, Int.natCast_nonneg, Int.toNat_natCast, hg, Option.map_some, polr_f0, polr_l0]
            refine .some (.inr ⟨by simp [-Option.bind_some], rfl, .inl ⟨rfl, ?_⟩⟩)
            simp only [nth_zero]
            rw [← hi]
            simp only [chkL, hn, if_true, hb]
          · simp only [s58, hn, polr_f3, ld3, dBin_lss, dBin_gtr, ha, hb2, gd_bool, gdW_bool, dPick_bool, dUn_not, dIf_bool, bs, toEnd_nrm, unblk_nrm, nth_zero, nth_succ, ne_eq, not_false_eq_true, not_true_eq_false, decide_true, decide_false, if_true, if_false, Bool.false_eq_true, reduceCtorEq, Bool.not_true, Bool.not_false, ixs38 hd, Int.natCast_nonneg, Int.toNat_natCast, hg, Option.map_some, polr_f0, polr_l0]
            refine .some (.inr ⟨by simp [-Option.bind_some], rfl, .inl ⟨rfl, ?_⟩⟩)
            simp only [nth_zero]
            rw [← hi]
            simp only [chkL, hn, if_true, hb]
        · have hq : decide (p.age < 0) = false ∧ decide (253402300799999 < p.age) = false := by
            simp only [badP, Bool.not_eq_true', decide_eq_false_iff_not, Classical.not_not] at hb
            exact ⟨decide_eq_false (by omega), decide_eq_false (by omega)⟩
          obtain ⟨ha, hb2⟩ := hq
          simp only [s58, hn, polr_f3, ld3, dBin_lss, dBin_gtr, ha, hb2, gd_bool, gdW_bool, dPick_bool, dUn_not, dIf_bool, bs, toEnd_nrm, unblk_nrm, nth_zero, nth_succ, ne_eq, not_false_eq_true, not_true_eq_false, decide_true, decide_false, if_true, if_false, Bool.false_eq_true, reduceCtorEq, Bool.not_true, Bool.not_false, ixs38 hd, Int.natCast_nonneg, Int.toNat_natCast, hg, Option.map_some, polr_f0, polr_l0]
          refine l25 l d hd i p hg _ rfl hl g _ _ _ ?_ ?_
          · intro hm b c e
            simp only [unblk_ret, toEnd_ret, nth_zero, nth_succ]
            refine .some (.inr ⟨by simp [-Option.bind_some], rfl, .inl ⟨rfl, ?_⟩⟩)
            simp only [nth_zero]
            rw [← hi]
            simp only [chkL, hn, if_true, if_neg hb, hm]
          · intro hm b c e
            simp only [unblk_self, unblk_nrm, toEnd_nrm, nth_zero, nth_succ, bs, dBin_add, hw]
            refine .some (.inl ⟨rfl, k - 1, by omega, rfl, _, _, _, _, _, _, _, i + 1, rfl, by omega, ?_⟩)
            rw [← hi, htk]
            simp only [chkL, hn, if_true, if_neg hb, if_neg hm]
      · have hn' : nameOK p.n = false := by simpa [-Option.bind_some] using hn
        simp only [s58, hn', gd_bool, gdW_bool, dPick_bool, dUn_not, dIf_bool, bs, toEnd_nrm, unblk_nrm, nth_zero, nth_succ, ne_eq, not_false_eq_true, not_true_eq_false, decide_true, decide_false, if_true, if_false, Bool.false_eq_true, reduceCtorEq, Bool.not_true, Bool.not_false, ixs38 hd, Int.natCast_nonneg, Int.toNat_natCast, hg, Option.map_some, polr_f0, polr_l0]
        refine .some (.inr ⟨by simp [-Option.bind_some], rfl, .inl ⟨rfl, ?_⟩⟩)
        simp only [nth_zero]
        rw [← hi]
        simp only [chkL, hn', Bool.false_eq_true, if_false]
    · intro h1
      have h1 : i = l.length := by have : ¬ (i : Int) < l.length := by simpa [-Option.bind_some] using h1
                                   omega
      subst h1
      rw [List.drop_length] at hi
      exact .some (.inr ⟨by simp [-Option.bind_some], rfl, .inr ⟨rfl, hi.symm⟩⟩)
  · rintro ⟨x, ds, g⟩ ⟨rfl, ⟨rfl, hx⟩ | ⟨rfl, hx⟩⟩
    · replace hx : nth 0 ds = _ := hx
      simp only [unblk_ret, toEnd_ret, exEnd_ret, nth_zero, bs, hx, mkRes_one]
      exact .some (by rw [hA])
    · simp only [unblk_self, toEnd_nrm, bs, mkRes_one]
      exact .some (by rw [hA, hx])

theorem l26 (l : List Hld) (d : D) (hd : SlOf 5 hldr l d) (i : Nat) (p : Hld) (hp : l[i]? = some p) (ds0 : List D) (hds : nth 1 ds0 = .int .i64 i) (hl : l.length ≤ 9223372036854775807) (g : Hp) (a b c : D) {β : Type} {K : Out → Option β} {Q : β → Prop}
    (c1 : p.n ∈ (l.take i).map (·.n) → ∀ b c e, Wp (K (.ret, [.int .i64 7, b, c, e], g)) Q) (c2 : ¬ p.n ∈ (l.take i).map (·.n) → ∀ b c e, Wp (K (.ext 2, [a, b, c, e], g)) Q) :
    Wp ((loopW (F26_L1 d ds0) [a, .int .i64 0, b, c] g).bind K) Q := by
  have hil := (List.getElem?_eq_some_iff.1 hp).1
  refine Wp.loop (fun k ds g' => g' = g ∧ ∃ b c, ∃ j : Nat, ds = [a, .int .i64 j, b, c] ∧ k + j = i ∧ ¬ p.n ∈ (l.take j).map (·.n))
    (fun r => r.2.2 = g ∧ ∃ b c e, (r.1 = .ret ∧ r.2.1 = [.int .i64 7, b, c, e] ∧ p.n ∈ (l.take i).map (·.n)) ∨ (r.1 = .ext 2 ∧ r.2.1 = [a, b, c, e] ∧ ¬ p.n ∈ (l.take i).map (·.n))) i ⟨rfl, _, _, 0, rfl, rfl, by simp [-Option.bind_some]⟩ ?_ ?_
  · rintro k ds g' ⟨rfl, b, c, j, rfl, hk, hj⟩
    simp only [F26_L1, nth_zero, nth_succ, bs, Option.bind_assoc, hds, dBin_lss]
    refine Wp.dif ?_ ?_
    · intro h0
      have h0 : j < i := by have : (j : Int) < i := by simpa [-Option.bind_some] using h0
                            omega
      have hg : l[j]? = some l[j] := List.getElem?_eq_getElem (by omega)
      have htk : (l.take (j + 1)).map (·.n) = (l.take j).map (·.n) ++ [l[j].n] := by rw [List.take_add_one, hg, List.map_append]; rfl
      generalize l[j] = q at hg htk
      have hw : IntKind.wrap .i64 ((j : Int) + 1) = ((j + 1 : Nat) : Int) := by
        rw [wrap_i64 (by omega) (by omega)]; omega
      simp only [ixs39 hd, Int.natCast_nonneg, if_true, Int.toNat_natCast, hg, hp, Option.map_some, bs, hldr_f0, hldr_l0, dBin_seql]
      refine Wp.dif ?_ ?_
      · intro hq
        have hq : q.n = p.n := by simpa [-Option.bind_some] using hq
        try simp only [bs]
        refine .some (.inr ⟨by simp [-Option.bind_some], rfl, _, _, _, .inl ⟨rfl, rfl, ?_⟩⟩)
        rw [← hq]
        refine List.mem_map.2 ⟨q, ?_, rfl⟩
        refine List.mem_iff_getElem?.2 ⟨j, ?_⟩
        rw [List.getElem?_take, if_pos h0]; exact hg
      · intro hq
        have hq : ¬ q.n = p.n := by simpa [-Option.bind_some] using hq
        simp only [dBin_add, bs, hw]
        refine .some (.inl ⟨rfl, k - 1, by omega, rfl, _, _, j + 1, rfl, by omega, ?_⟩)
        rw [htk, List.mem_append, List.mem_singleton]
        rintro (h1 | h1)
        · exact hj h1
        · exact hq h1.symm
    · intro h0
      have h0 : j = i := by have : ¬ (j : Int) < i := by simpa [-Option.bind_some] using h0
                            omega
      subst h0
      exact .some (.inr ⟨by simp [-Option.bind_some], rfl, _, _, _, .inr ⟨rfl, rfl, hj⟩⟩)
  · rintro ⟨x, ds, g'⟩ ⟨rfl, b, c, e, ⟨rfl, rfl, hm⟩ | ⟨rfl, rfl, hm⟩⟩
    · exact c1 hm b c e
    · exact c2 hm b c e
theorem s26 (l : List Hld) (d : D) (h : Hp) (hd : SlOf 5 hldr l d) (hl : l.length ≤ 9223372036854775807) : R fn26 [d] h = some (.int .i64 (chkA (·.n) badH l), h) := by
  suffices Wp (R fn26 [d] h) (fun p => p = (.int .i64 (chkA (·.n) badH l), h)) by
    obtain ⟨p, h1, rfl⟩ := this
    exact h1
  rw [e26]
  simp only [F26, bs, Option.bind_assoc, lens39 hd, dBin_gtr]
  refine Wp.dif ?_ ?_
  · intro h0
    have h0 : 16 < l.length := by have : (16 : Int) < l.length := by simpa [-Option.bind_some] using h0
                                  omega
    simp only [bs, mkRes_one]
    exact .some (by simp [-Option.bind_some, chkA, h0])
  intro h0
  have h0 : ¬ 16 < l.length := by have : ¬ (16 : Int) < l.length := by simpa [-Option.bind_some] using h0
                                  omega
  have hA : chkA (·.n) badH l = chkL (·.n) badH [] l := by simp [-Option.bind_some, chkA, h0]
  try simp only [bs]
  refine Wp.loop (fun k ds g => g = h ∧ ∃ a x b c e f f', ∃ i : Nat, ds = [a, .int .i64 i, b, c, e, f, f', x] ∧ k + i = l.length ∧ chkL (·.n) badH ((l.take i).map (·.n)) (l.drop i) = chkL (·.n) badH [] l)
    (fun r => r.2.2 = h ∧ ((r.1 = .ret ∧ nth 0 r.2.1 = .int .i64 (chkL (·.n) badH [] l)) ∨ (r.1 = .ext 0 ∧ chkL (·.n) badH [] l = 0))) l.length ⟨rfl, _, _, _, _, _, _, _, 0, rfl, rfl, rfl⟩ ?_ ?_
  · rintro k ds g ⟨rfl, a, x, b, c, e, f, f', i, rfl, hk, hi⟩
    simp only [F26_L0, nth_zero, nth_succ, bs, Option.bind_assoc, lens39 hd, dBin_lss]
    refine Wp.dif ?_ ?_
    · intro h1
      have h1 : i < l.length := by have : (i : Int) < l.length := by simpa [-Option.bind_some] using h1
                                   omega
      have hg : l[i]? = some l[i] := List.getElem?_eq_getElem h1
      rw [List.drop_eq_getElem_cons h1] at hi
      have htk : (l.take (i + 1)).map (·.n) = (l.take i).map (·.n) ++ [l[i].n] := by rw [List.take_add_one, hg, List.map_append]; rfl
      generalize l[i] = p at hg hi htk
      have hw : IntKind.wrap .i64 ((i : Int) + 1) = ((i + 1 : Nat) : Int) := by
        rw [wrap_i64 (by omega) (by omega)]; omega
      by_cases hn : nameOK p.n = true
      · by_cases hb : badH p = true
        · have hq : decide (p.fr < 0) = true ∨ (decide (p.fr < 0) = false ∧ decide (253402300799999 < p.to) = true) ∨ (decide (p.fr < 0) = false ∧ decide (253402300799999 < p.to) = false ∧ decide (p.to < p.fr) = true) := by
            simp only [badH, Bool.not_eq_true', decide_eq_false_iff_not] at hb
            by_cases ha : p.fr < 0
            · left; exact decide_eq_true ha
            · by_cases hb2 : 253402300799999 < p.to
              · right; left; exact ⟨decide_eq_false ha, decide_eq_true hb2⟩
              · right; right; exact ⟨decide_eq_false ha, decide_eq_false hb2, decide_eq_true (by omega)⟩
          rcases hq with ha | ⟨ha, hb2⟩ | ⟨ha, hb2, hc⟩
          · simp only [s58, hn, hldr_f3, hldr_f4, ld3, dBin_lss, dBin_gtr, ha, gd_bool, gdW_bool, dPick_bool, dUn_not, dIf_bool, bs, toEnd_nrm, unblk_nrm, nth_zero, nth_succ, ne_eq, not_false_eq_true, not_true_eq_false, decide_true, decide_false, if_true, if_false, Bool.false_eq_true, reduceCtorEq, Bool.not_true, Bool.not_false, ixs39 hd, Int.natCast_nonneg, Int.toNat_natCast, hg, Option.map_some, hldr_f0, hldr_l0]
            refine .some (.inr ⟨by simp [-Option.bind_some], rfl, .inl ⟨rfl, ?_⟩⟩)
            simp only [nth_zero]
            rw [← hi]
            simp only [chkL, hn, if_true, hb]
          · simp only [s58, hn, hldr_f3, hldr_f4, ld3, dBin_lss, dBin_gtr, ha, hb2, gd_bool, gdW_bool, dPick_bool, dUn_not, dIf_bool, bs, toEnd_nrm, unblk_nrm, nth_zero, nth_succ, ne_eq, not_false_eq_true, not_true_eq_false, decide_true, decide_false, if_true, if_false, Bool.false_eq_true, reduceCtorEq, Bool.not_true, Bool.not_false, ixs39 hd, Int.natCast_nonneg, Int.toNat_natCast, hg, Option.map_some, hldr_f0, hldr_l0]
            refine .some (.inr ⟨by simp [-Option.bind_some], rfl, .inl ⟨rfl, ?_⟩⟩)
            simp only [nth_zero]
            rw [← hi]
            simp only [chkL, hn, if_true, hb]
          · simp only [s58, hn, hldr_f3, hldr_f4, ld3, dBin_lss, dBin_gtr, ha, hb2, hc, gd_bool, gdW_bool, dPick_bool, dUn_not, dIf_bool, bs, toEnd_nrm, unblk_nrm, nth_zero, nth_succ, ne_eq, not_false_eq_true, not_true_eq_false, decide_true, decide_false, if_true, if_false, Bool.false_eq_true, reduceCtorEq, Bool.not_true, Bool.not_false, ixs39 hd, Int.natCast_nonneg, Int.toNat_natCast, hg, Option.map_some, hldr_f0, hldr_l0]
            refine .some (.inr ⟨by simp [-Option.bind_some], rfl, .inl ⟨rfl, ?_⟩⟩)
            simp only [nth_zero]
            rw [← hi]
            simp only [chkL, hn, if_true, hb]
        · have hq : decide (p.fr < 0) = false ∧ decide (253402300799999 < p.to) = false ∧ decide (p.to < p.fr) = false := by
            simp only [badH, Bool.not_eq_true', decide_eq_false_iff_not, Classical.not_not] at hb
            exact ⟨decide_eq_false (by omega), decide_eq_false (by omega), decide_eq_false (by omega)⟩
          obtain ⟨ha, hb2, hc⟩ := hq
          simp only [s58, hn, hldr_f3, hldr_f4, ld3, dBin_lss, dBin_gtr, ha, hb2, hc, gd_bool, gdW_bool, dPick_bool, dUn_not, dIf_bool, bs, toEnd_nrm, unblk_nrm, nth_zero, nth_succ, ne_eq, not_false_eq_true, not_true_eq_false, decide_true, decide_false, if_true, if_false, Bool.false_eq_true, reduceCtorEq, Bool.not_true, Bool.not_false, ixs39 hd, Int.natCast_nonneg, Int.toNat_natCast, hg, Option.map_some, hldr_f0, hldr_l0]
          refine l26 l d hd i p hg _ rfl hl g _ _ _ ?_ ?_
          · intro hm b c e
            simp only [unblk_ret, toEnd_ret, nth_zero, nth_succ]
            refine .some (.inr ⟨by simp [-Option.bind_some], rfl, .inl ⟨rfl, ?_⟩⟩)
            simp only [nth_zero]
            rw [← hi]
            simp only [chkL, hn, if_true, if_neg hb, hm]
          · intro hm b c e
            simp only [unblk_self, unblk_nrm, toEnd_nrm, nth_zero, nth_succ, bs, dBin_add, hw]
            refine .some (.inl ⟨rfl, k - 1, by omega, rfl, _, _, _, _, _, _, _, i + 1, rfl, by omega, ?_⟩)
            rw [← hi, htk]
            simp only [chkL, hn, if_true, if_neg hb, if_neg hm]
      · have hn' : nameOK p.n = false := by simpa [-Option.bind_some] using hn
        simp only [s58, hn', gd_bool, gdW_bool, dPick_bool, dUn_not, dIf_bool, bs, toEnd_nrm, unblk_nrm, nth_zero, nth_succ, ne_eq, not_false_eq_true, not_true_eq_false, decide_true, decide_false, if_true, if_false, Bool.false_eq_true, reduceCtorEq, Bool.not_true, Bool.not_false, ixs39 hd, Int.natCast_nonneg, Int.toNat_natCast, hg, Option.map_some, hldr_f0, hldr_l0]
        refine .some (.inr ⟨by simp [-Option.bind_some], rfl, .inl ⟨rfl, ?_⟩⟩)
        simp only [nth_zero]
        rw [← hi]
        simp only [chkL, hn', Bool.false_eq_true, if_false]
    · intro h1
      have h1 : i = l.length := by have : ¬ (i : Int) < l.length := by simpa [-Option.bind_some] using h1
                                   omega
      subst h1
      rw [List.drop_length] at hi
      exact .some (.inr ⟨by simp [-Option.bind_some], rfl, .inr ⟨rfl, hi.symm⟩⟩)
  · rintro ⟨x, ds, g⟩ ⟨rfl, ⟨rfl, hx⟩ | ⟨rfl, hx⟩⟩
    · replace hx : nth 0 ds = _ := hx
      simp only [unblk_ret, toEnd_ret, exEnd_ret, nth_zero, bs, hx, mkRes_one]
      exact .some (by rw [hA])
    · simp only [unblk_self, toEnd_nrm, bs, mkRes_one]
      exact .some (by rw [hA, hx])
theorem given_len {zs : List Int} {d : D} (hd : Given .u8 zs d) : dLenT tab ty22 d = some (.int .i64 zs.length) := by
  rcases hd with ⟨rfl, rfl⟩ | rfl
  · rfl
  · simp [-Option.bind_some, ints]
theorem s57 (o pos : Nat) (zs : List Int) (d : D) (h : Hp) (ho : h[o]? = some (.row ty101 2 [[d, .int .i64 pos]])) (hd : Given .u8 zs d) : R fn57 [.ptr o 0 0] h = some (.bool (decide (pos < zs.length)), h) := by
  rw [e57]
  simp [-Option.bind_some, F57, Hp.row, ho, given_len hd]
theorem given_ix {zs : List Int} {d : D} (hd : Given .u8 zs d) (i : Nat) (z : Int) (hz : zs[i]? = some z) : dIndexAddr tab ty22 d (.int .i64 i) = some (.fptr [.int .u8 z]) := by
  rcases hd with ⟨rfl, rfl⟩ | rfl
  · cases hz
  · simp [-Option.bind_some, ints, hz]
theorem store_ptr3 (h : Hp) (o k f : Nat) (v : D) : dStore tab h ty3 (.ptr o k f) v = pSt 1 h (.ptr o k f) v := rfl
theorem s24 (o pos : Nat) (zs : List Int) (d : D) (n z : Int) (h : Hp) (ho : h[o]? = some (.row ty101 2 [[d, .int .i64 pos]])) (hd : Given .u8 zs d) (hn : 1 ≤ n) (hn2 : n ≤ 1000000000) (hz : zs[pos]? = some z) (hz0 : 0 ≤ z) (hz1 : z < 256) (hl : zs.length ≤ 400) :
    R fn24 [.ptr o 0 0, .int .i64 n] h = some (.int .i64 (z * n / 256), h.set o (.row ty101 2 [[d, .int .i64 ((pos + 1 : Nat) : Int)]])) := by
  have hp : pos < zs.length := (List.getElem?_eq_some_iff.1 hz).1
  have hn' : ¬ n < 1 := by omega
  have hw : IntKind.wrap .i64 ((pos : Int) + 1) = (pos : Int) + 1 := wrap_i64 (by omega) (by omega)
  have hzw : IntKind.wrap .i64 z = z := wrap_i64 (by omega) (by omega)
  rw [e24]
  simp [-Option.bind_some, F24, s57 o pos zs d h ho hd, hp, hn', Hp.row, ho, given_ix hd pos z hz, hw, hzw, store_ptr3, pSt, D.okv, cells1, D.one, spl]
  have h0 : 0 ≤ z * n := Int.mul_nonneg hz0 (by omega)
  have h1 : z * n ≤ 255 * 1000000000 := Int.mul_le_mul (by omega) hn2 (by omega) (by omega)
  have e1 : IntKind.wrap .i64 (z * n) = z * n := wrap_i64 (by omega) (by omega)
  rw [e1, Int.tdiv_eq_ediv_of_nonneg h0, wrap_i64 (by omega) (by omega)]
/-- An object holds codes; these are left. -/
def CO (h : Hp) (o : Nat) (rest : List Int) : Prop := ∃ (d : D) (zs : List Int) (pos : Nat), h[o]? = some (.row ty101 2 [[d, .int .i64 pos]]) ∧ Given .u8 zs d ∧ zs.length ≤ 400 ∧ rest = zs.drop pos ∧ ∀ z ∈ zs, 0 ≤ z ∧ z < 256
def nx (n : Int) : List Int → Int × List Int
  | [] => (0, [])
  | z :: r => if n < 1 then (0, z :: r) else (z * n / 256, r)
theorem left_ok {h : Hp} {o : Nat} {rest : List Int} (hc : CO h o rest) : R fn57 [.ptr o 0 0] h = some (.bool (decide (rest ≠ [])), h) := by
  obtain ⟨d, zs, pos, ho, hd, hl, rfl, hz⟩ := hc
  rw [s57 o pos zs d h ho hd]
  have : (pos < zs.length) ↔ zs.drop pos ≠ [] := by
    rw [ne_eq, List.drop_eq_nil_iff]; omega
  congr 3
  exact decide_eq_decide.2 this
theorem next_ok {h : Hp} {o : Nat} {rest : List Int} (hc : CO h o rest) (n : Int) (hn2 : n ≤ 1000000000) : ∃ h', R fn24 [.ptr o 0 0, .int .i64 n] h = some (.int .i64 (nx n rest).1, h') ∧ CO h' o (nx n rest).2 ∧ Same o h h' := by
  have hl := left_ok hc
  cases hr : rest with
  | nil =>
    subst hr
    refine ⟨h, ?_, hc, .refl _ _⟩
    rw [e24]
    simp [-Option.bind_some, F24, hl, nx]
  | cons z r =>
    by_cases hn : n < 1
    · refine ⟨h, ?_, by simpa [-Option.bind_some, nx, hn, hr] using hc, .refl _ _⟩
      rw [e24]
      simp [-Option.bind_some, F24, hl, nx, hn, hr]
    · obtain ⟨d, zs, pos, ho, hd, hl4, hrest, hz⟩ := hc
      have hzp : zs[pos]? = some z := by
        have : (zs.drop pos)[0]? = some z := by rw [← hrest, hr]; rfl
        simpa [-Option.bind_some] using this
      have hm := hz z (List.mem_of_getElem? hzp)
      have holt : o < h.length := (List.getElem?_eq_some_iff.1 ho).1
      refine ⟨_, (s24 o pos zs d n z h ho hd (by omega) hn2 hzp hm.1 hm.2 hl4).trans (by rw [show (nx n (z :: r)).1 = z * n / 256 by simp [-Option.bind_some, nx, hn]]), ?_, ?_⟩
      · refine ⟨d, zs, pos + 1, by simp [-Option.bind_some, holt], hd, hl4, ?_, hz⟩
        have : (zs.drop pos).drop 1 = r := by rw [← hrest, hr]; rfl
        simpa [-Option.bind_some, nx, hn] using this.symm
      · exact ⟨by simp [-Option.bind_some], fun q hq => by rw [List.getElem?_set_ne (by omega)]⟩
theorem nx_bound (n : Int) (rest : List Int) (h : ∀ z ∈ rest, 0 ≤ z ∧ z < 256) : 0 ≤ (nx n rest).1 ∧ (1 ≤ n → (nx n rest).1 < n) := by
  cases rest with
  | nil => simp [-Option.bind_some, nx]; omega
  | cons z r =>
    have := h z (by simp [-Option.bind_some])
    unfold nx
    by_cases hn : n < 1
    · simp [-Option.bind_some, hn]; omega
    · simp only [hn, if_false]
      have h0 : 0 ≤ z * n := Int.mul_nonneg this.1 (by omega)
      have h1 : z * n ≤ 255 * n := Int.mul_le_mul_of_nonneg_right (by omega) (by omega)
      constructor
      · omega
      · intro _; omega
/-- An object holds codes. -/
def CD (h : Hp) (o : Nat) : Prop := ∃ rest, CO h o rest
theorem CD.keep {h h' : Hp} {o : Nat} (hc : CD h o) (he : h'[o]? = h[o]?) : CD h' o := by
  obtain ⟨rest, d, zs, pos, ho, hr⟩ := hc
  exact ⟨rest, d, zs, pos, by rw [he]; exact ho, hr⟩
theorem CD.lt {h : Hp} {o : Nat} (hc : CD h o) : o < h.length := by
  obtain ⟨rest, d, zs, pos, ho, hr⟩ := hc
  exact (List.getElem?_eq_some_iff.1 ho).1
theorem CD.ok {h : Hp} {o : Nat} (hc : CD h o) (n : Nat) : ∀ T sz rows, h[o]? = some (.row T sz rows) → ∀ row ∈ rows, ∀ d ∈ row, Ok n d := by
  obtain ⟨rest, d, zs, pos, ho, hd, _⟩ := hc
  intro T sz rows hr row hrow x hx
  rw [ho] at hr
  injection hr with hr
  injection hr with _ _ hr
  subst hr
  simp [-Option.bind_some] at hrow
  subst hrow
  simp [-Option.bind_some] at hx
  rcases hx with rfl | rfl
  · exact given_okd hd n
  · exact .int _ _
theorem next_b {h : Hp} {o : Nat} (hc : CD h o) (n : Int) (hn : 1 ≤ n) (hn2 : n ≤ 1000000000) : ∃ v h', R fn24 [.ptr o 0 0, .int .i64 n] h = some (.int .i64 v, h') ∧ CD h' o ∧ Same o h h' ∧ 0 ≤ v ∧ v < n := by
  obtain ⟨rest, hc⟩ := hc
  obtain ⟨h', h1, h2, h3⟩ := next_ok hc n hn2
  have hb : ∀ z ∈ rest, 0 ≤ z ∧ z < 256 := by
    obtain ⟨d, zs, pos, ho, hd, hl, rfl, hz⟩ := hc
    exact fun z hz' => hz z (List.mem_of_mem_drop hz')
  exact ⟨_, h', h1, ⟨_, h2⟩, h3, (nx_bound n rest hb).1, (nx_bound n rest hb).2 hn⟩
theorem d102 {h : Hp} {o : Nat} (hc : CD h o) : ∃ s h', R fn102 [.ptr o 0 0] h = some (.str s, h') ∧ CD h' o ∧ Same o h h' ∧ s.length ≤ 7 := by
  obtain ⟨v, h', h1, h2, h3, h4, h5⟩ := next_b hc 14 (by omega) (by omega)
  obtain ⟨s, hs, hg⟩ := pick_of lt98_10 v h4 h5
  refine ⟨s, h', ?_, h2, h3, ?_⟩
  · rw [e102]; simp [-Option.bind_some, F102, h1, h4, hg]
  · exact (show ∀ s ∈ lt98_10, s.length ≤ 7 by decide) s hs
theorem d33 {h : Hp} {o : Nat} (hc : CD h o) : ∃ s h', R fn33 [.ptr o 0 0] h = some (.str s, h') ∧ CD h' o ∧ Same o h h' ∧ s.length ≤ 19 := by
  obtain ⟨v, h', h1, h2, h3, h4, h5⟩ := next_b hc 11 (by omega) (by omega)
  obtain ⟨s, hs, hg⟩ := pick_of lt98_1 v h4 h5
  refine ⟨s, h', ?_, h2, h3, ?_⟩
  · rw [e33]; simp [-Option.bind_some, F33, h1, h4, hg]
  · exact (show ∀ s ∈ lt98_1, s.length ≤ 19 by decide) s hs
end Go.Proofs.Ytiamjjeflmcgoaa
