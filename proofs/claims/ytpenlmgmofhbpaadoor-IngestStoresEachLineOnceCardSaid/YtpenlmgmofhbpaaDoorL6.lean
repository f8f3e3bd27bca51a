/- Laws, on plain data, about functions that the statement reaches. -/
import Derived.Test.YtpenlmgmofhbpaaDoorL5
set_option linter.unusedSimpArgs false
set_option linter.unusedVariables false
set_option linter.unnecessarySimpa false
set_option maxRecDepth 100000
namespace Go.Proofs.YtpenlmgmofhbpaaDoor
open Go.Eng Go.Pi
theorem s1002u (i : It) (n : Int) (h : Hp) (hl : i.e.ls.length ≤ 1000000) (hf : i.e.fs.length ≤ 1000000) : ∃ j, R fn1002 [.agg (itr i), .int .i64 n] h = some (.tup [.agg (itr j), .bool (decide (¬ idx (fun l => decide (l.off = n)) 0 i.e.ls < 1))], h) ∧ (if idx (fun l => decide (l.off = n)) 0 i.e.ls < 1 then j = it0 else CutOf i n (idx (fun l => decide (l.off = n)) 0 i.e.ls).toNat j) := by
  suffices Wp (R fn1002 [.agg (itr i), .int .i64 n] h) (fun p => p.2 = h ∧ ∃ j, p.1 = .tup [.agg (itr j), .bool (decide (¬ idx (fun l => decide (l.off = n)) 0 i.e.ls < 1))] ∧ (if idx (fun l => decide (l.off = n)) 0 i.e.ls < 1 then j = it0 else CutOf i n (idx (fun l => decide (l.off = n)) 0 i.e.ls).toNat j)) by
    obtain ⟨⟨x, h'⟩, h1, rfl, j, rfl, h2⟩ := this
    exact ⟨j, h1, h2⟩
  rw [e1002]
  simp only [F1002, bs, Option.bind_assoc, pBoxF_int]
  rw [wBox_agg ty74 11 h (itr i) rfl (by omega)]
  generalize hg0 : dNew h ty74 11 [itr i] = g0
  have hgl : g0.length = h.length + 1 := by simp [-Option.bind_some, ← hg0, dNew]
  have hb : ∀ q, q < h.length → g0[q]? = h[q]? := fun q hq => by simp only [← hg0, dNew]; rw [List.getElem?_append_left hq]
  have p8 : g0[h.length]? = some (.row ty74 11 [itr i]) := by simp [-Option.bind_some, ← hg0, dNew]
  clear hg0
  simp only [bs, hgl]
  generalize hg1 : dNew g0 ty74 11 [[.str [], .int .i64 0, .int .i64 0, .int .i64 0, .int .i64 0, .nils, .int .i64 0, .int .i64 0, .str [], .str [], .nils]] = g1
  have hgl1 : g1.length = h.length + 2 := by simp [-Option.bind_some, ← hg1, dNew, hgl]
  have hb1 : ∀ q, q < h.length + 1 → g1[q]? = g0[q]? := fun q hq => by simp only [← hg1, dNew]; rw [List.getElem?_append_left (by omega)]
  have p9 : g1[h.length + 1]? = some (.row ty74 11 [[.str [], .int .i64 0, .int .i64 0, .int .i64 0, .int .i64 0, .nils, .int .i64 0, .int .i64 0, .str [], .str [], .nils]]) := by
    simp only [← hg1, dNew]; rw [← hgl, List.getElem?_append_right (Nat.le_refl _)]; simp [-Option.bind_some]
  replace p8 := (hb1 h.length (by omega)).trans p8
  replace hb : ∀ q, q < h.length → g1[q]? = h[q]? := fun q hq => (hb1 q (by omega)).trans (hb q hq)
  clear hg1 hb1 hgl
  have r8 : g1.row h.length 0 = some [.str i.r, .int .i64 i.e.a0, .int .i64 i.e.a1, .int .i64 i.e.a2, .int .i64 i.e.a3, i.e.ld, .int .i64 i.e.a5, .int .i64 i.e.a6, .str i.e.s7, .str i.e.s8, i.e.fd] := row_of p8
  simp only [fap74_1, fap31_4, bs, ldp28, r8, List.drop_succ_cons, List.drop_zero, List.head?_cons, Nat.zero_add]
  rw [s1006 i.e.ls i.e.ld _ (fun l => decide (l.off = n)) g1 i.e.hld i.e.hll (fun x => by rw [callV_some]; exact s1007 x n g1)]
  generalize hk : idx (fun l => decide (l.off = n)) 0 i.e.ls = kk
  have hkr := idx_range (fun l : Lin => decide (l.off = n)) i.e.ls 0
  rw [hk] at hkr
  simp only [bs, dBin_lss]
  refine Wp.dif ?_ ?_
  · intro hlt
    have hlt : kk < 1 := by simpa [-Option.bind_some] using hlt
    simp only [bd74_, bs]
    refine wst74 p9 (by rfl) (by rfl) (by simp [-Option.bind_some]) (by rfl) fun g2 q9 s2 => ?_
    replace q9 : g2[h.length + 1]? = some (.row ty74 11 [itr it0]) := q9
    simp only [ldob11 q9 rfl, bs, mkRes_two]
    rw [scope_eq (d' := .tup [.agg (itr it0), .bool false]) (by rfl) (.tup _ fun d hd => by
      simp [-Option.bind_some] at hd
      rcases hd with rfl | rfl
      · exact itr_ok _ _
      · constructor) (by have := s2.1; omega) (fun q hq => (s2.2 q (by omega)).trans (hb q hq))]
    exact .some ⟨rfl, it0, by simp [-Option.bind_some, hlt], by simp [-Option.bind_some, hlt]⟩
  · intro hlt
    have hlt : ¬ kk < 1 := by simpa [-Option.bind_some] using hlt
    have hk1 : kk < i.e.ls.length := by
      rcases hkr with hh | ⟨_, hh⟩
      · omega
      · simpa [-Option.bind_some] using hh
    obtain ⟨y1, hs1, hy1⟩ := slof_lo (T := tab) (t := ty28) (i := ti28) (j := ti78) (id rfl) (id rfl) (id rfl) (id rfl) i.e.hld (k := .i64) (n := kk) (by omega) (by omega)
    obtain ⟨y2, hs2, hy2⟩ := s1008 _ y1 g1 hy1 (by simp [-Option.bind_some]; omega)
    simp only [ld3, hs1, hs2, bs, fap74_1, fap31_2, fap31_4, Nat.zero_add, chk_true]
    refine wst3 p8 (by rfl) (by rfl) (by simp [-Option.bind_some, itr, evr]) (by rfl) fun g2 q8 t2 => ?_
    have oc := one_cells (slof_one hy2)
    refine wst28 q8 (by rfl) (by rw [oc.1]; rfl) (by simp [-Option.bind_some, spl, cells1, itr, evr]) oc.2 fun g3 q8' t3 => ?_
    rw [oc.1] at q8'
    replace q8 : g3[h.length]? = some (.row ty74 11 [[.str i.r, .int .i64 i.e.a0, .int .i64 i.e.a1, .int .i64 n, .int .i64 i.e.a3, y2, .int .i64 i.e.a5, .int .i64 i.e.a6, .str i.e.s7, .str i.e.s8, i.e.fd]]) := q8'
    replace t2 := t2.trans t3
    clear q8' t3 hs1 hy1 oc
    have r8 : g3.row h.length 0 = some [.str i.r, .int .i64 i.e.a0, .int .i64 i.e.a1, .int .i64 n, .int .i64 i.e.a3, y2, .int .i64 i.e.a5, .int .i64 i.e.a6, .str i.e.s7, .str i.e.s8, i.e.fd] := row_of q8
    obtain ⟨y3, g3', hs3, hl3, hb3, hy3⟩ := u1009 _ _ g3 i.e.hfd hf
    have hg3l : h.length + 2 ≤ g3.length := by have := t2.1; omega
    have hlv : LvF g3' (h.length + 2) i.e.fs y3 := by
      rcases hy3 with hy3 | ⟨ob, h1, h2⟩
      · exact .inl hy3
      · exact .inr ⟨ob, by omega, h2⟩
    simp only [bs, fap31_9, Nat.zero_add, ldp29, r8, List.drop_succ_cons, List.drop_zero, List.head?_cons, hs3]
    have oc := one_cells hlv.one
    replace q8 := (hb3 _ (by omega)).trans q8
    replace p9 := (hb3 (h.length + 1) (by omega)).trans ((t2.2 (h.length + 1) (by omega)).trans p9)
    refine wst29 q8 (by rfl) (by rw [oc.1]; rfl) (by simp [-Option.bind_some]) oc.2 fun g4 q8' t4 => ?_
    rw [oc.1] at q8'
    have hlv4 := hlv.keep (h' := g4) fun q hq => t4.2 q (by omega)
    replace q8 : g4[h.length]? = some (.row ty74 11 [[.str i.r, .int .i64 i.e.a0, .int .i64 i.e.a1, .int .i64 n, .int .i64 i.e.a3, y2, .int .i64 i.e.a5, .int .i64 i.e.a6, .str i.e.s7, .str i.e.s8, y3]]) := q8'
    replace hb : ∀ q, q < h.length → g4[q]? = h[q]? := fun q hq => (t4.2 q (by omega)).trans ((hb3 q (by omega)).trans ((t2.2 q (by omega)).trans (hb q hq)))
    replace p9 := (t4.2 (h.length + 1) (by omega)).trans p9
    have hg4l : h.length + 2 ≤ g4.length := by have := t4.1; omega
    clear q8' t2 t4 hs3 oc r8 hb3 hl3
    have hrow : ([.str i.r, .int .i64 i.e.a0, .int .i64 i.e.a1, .int .i64 n, .int .i64 i.e.a3, y2, .int .i64 i.e.a5, .int .i64 i.e.a6, .str i.e.s7, .str i.e.s8, y3] : List D).length = 11 := rfl
    have hok : (D.agg [.str i.r, .int .i64 i.e.a0, .int .i64 i.e.a1, .int .i64 n, .int .i64 i.e.a3, y2, .int .i64 i.e.a5, .int .i64 i.e.a6, .str i.e.s7, .str i.e.s8, y3]).okv = true := by
      have o1 := slof_one hy2
      have o2 := hlv4.one
      clear hlv hlv4 q8 hy3 hs2
      cases y2 <;> first | (cases y3 <;> first | rfl | (simp [-Option.bind_some, D.one] at o2)) | (simp [-Option.bind_some, D.one] at o1)
    simp only [ldob11 q8 hrow, bs]
    refine wst74 p9 (by rfl) (by rfl) (by simp [-Option.bind_some]) hok fun g5 q9 t5 => ?_
    replace q9 : g5[h.length + 1]? = some (.row ty74 11 [[.str i.r, .int .i64 i.e.a0, .int .i64 i.e.a1, .int .i64 n, .int .i64 i.e.a3, y2, .int .i64 i.e.a5, .int .i64 i.e.a6, .str i.e.s7, .str i.e.s8, y3]]) := q9
    simp only [ldob11 q9 hrow, bs, mkRes_two]
    have hsl := (hlv4.keep (h' := g5) fun q hq => t5.2 q (by omega)).frz (n0 := h.length) (n := 1) (by omega)
    have hf2 := slof_frz (n0 := h.length) (h := g5) (n := 1) hy2 (fun a _ => linr_frz _ g5 _ a)
    generalize hj : (⟨i.r, ⟨i.e.a0, i.e.a1, n, i.e.a3, i.e.ls.drop kk.toNat, y2, i.e.a5, i.e.a6, i.e.s7, i.e.s8, i.e.fs, frz h.length g5 2 y3, hsl, i.e.hl, hy2, by have := i.e.hll; simp [-Option.bind_some]; omega⟩⟩ : It) = j
    have hcut : CutOf i n kk.toNat j := by subst hj; exact ⟨rfl, rfl, rfl, rfl, rfl, rfl, rfl, rfl, rfl, rfl, rfl⟩
    have hfz : frz h.length g5 4 (.tup [.agg [.str i.r, .int .i64 i.e.a0, .int .i64 i.e.a1, .int .i64 n, .int .i64 i.e.a3, y2, .int .i64 i.e.a5, .int .i64 i.e.a6, .str i.e.s7, .str i.e.s8, y3], .bool true]) = .tup [.agg (itr j), .bool true] := by
      subst hj
      simp only [frz_tup, frz_agg, List.map_cons, List.map_nil, frz_bool, frz_str, frz_int, hf2]
      rfl
    rw [scope_eq hfz (.tup _ fun d hd => by
      simp [-Option.bind_some] at hd
      rcases hd with rfl | rfl
      · exact itr_ok _ _
      · constructor) (by have := t5.1; omega) (fun q hq => (t5.2 q (by omega)).trans (hb q hq))]
    exact .some ⟨rfl, j, by simp [-Option.bind_some, hlt], by simp [-Option.bind_some, hlt]; exact hcut⟩
/-- An event whose fields lie in an object of one's own. -/
def evl (p : Ev × D) : List D := [.int .i64 p.1.a0, .int .i64 p.1.a1, .int .i64 p.1.a2, .int .i64 p.1.a3, p.1.ld, .int .i64 p.1.a5, .int .i64 p.1.a6, .str p.1.s7, .str p.1.s8, p.2]
def MkD (g : Hp) (n0 : Nat) (l : List Mrk) (d : D) : Prop := (l = [] ∧ (d = .nils ∨ d = .sl 3 true [])) ∨ ∃ ob, n0 ≤ ob ∧ d = .msl 3 ob 0 l.length ∧ g[ob]? = some (.row ty1006 3 (l.map mrkr))
theorem MkD.rd {g : Hp} {n0 : Nat} {l : List Mrk} {d : D} (h : MkD g n0 l d) : RdM g l d := by
  rcases h with ⟨rfl, rfl | rfl⟩ | ⟨ob, _, rfl, ho⟩
  · exact .inl (.nils _ _)
  · exact .inl (.inr ⟨true, rfl⟩)
  · exact .inr ⟨ob, rfl, ho⟩
theorem MkD.one {g : Hp} {n0 : Nat} {l : List Mrk} {d : D} (h : MkD g n0 l d) : d.one = true := by
  rcases h with ⟨rfl, rfl | rfl⟩ | ⟨ob, _, rfl, ho⟩ <;> rfl
/-- Tallies here. -/
def TlD (g : Hp) (n0 : Nat) (l : List Tal) (d : D) : Prop := SlOf 3 talr l d ∨ ∃ ob, n0 ≤ ob ∧ d = .msl 3 ob 0 l.length ∧ g[ob]? = some (.row ty106 3 (l.map talr))
theorem TlD.rd {g : Hp} {n0 : Nat} {l : List Tal} {d : D} (h : TlD g n0 l d) : RdT g l d := by
  rcases h with h | ⟨ob, _, rfl, ho⟩
  · exact .inl h
  · exact .inr ⟨ob, rfl, ho⟩
theorem TlD.one {g : Hp} {n0 : Nat} {l : List Tal} {d : D} (h : TlD g n0 l d) : d.one = true := by
  rcases h with h | ⟨ob, _, rfl, ho⟩
  · exact slof_one h
  · rfl
/-- An intake that takes the items of a batch. -/
structure WkI (n0 w : Nat) (g : Hp) (ms : List Mrk) (ts : List Tal) (evs : List (Ev × D)) (dm dt de : D) : Prop where
  len : n0 ≤ g.length
  wn : n0 ≤ w
  row : g[w]? = some (.row ty1073 3 [[dm, dt, de]])
  mr : MkD g n0 ms dm
  tl : TlD g n0 ts dt
  ev : Own g n0 ty31 10 (evs.map evl) de
  fs : ∀ p ∈ evs, LvF g n0 p.1.fs p.2
  ma : MAsc ms
  ta : TAsc ts
/-- All but one object, which is none of marks, events or fields. -/
theorem WkI.chg {n0 w : Nat} {g g' : Hp} {ms : List Mrk} {ts ts' : List Tal} {evs : List (Ev × D)} {dm dt de dt' : D} (W : WkI n0 w g ms ts evs dm dt de) {z T sz : Nat} {rows : List (List D)} (hz : g[z]? = some (.row T sz rows)) (h1 : T ≠ ty1006) (h2 : T ≠ ty31) (h3 : T ≠ ty109) (hs : Same z g g')
    (hw : g'[w]? = some (.row ty1073 3 [[dm, dt', de]])) (ht : TlD g' n0 ts' dt') (hta : TAsc ts') : WkI n0 w g' ms ts' evs dm dt' de := by
  have ne : ∀ {q T' sz' : Nat} {rows' : List (List D)}, g[q]? = some (.row T' sz' rows') → T' ≠ T → q ≠ z := fun hq hn => row_ne hq hz hn
  refine ⟨by have := W.len; have := hs.1; omega, W.wn, hw, ?_, ht, ?_, fun p hp => ?_, W.ma, hta⟩
  · rcases W.mr with h | ⟨ob, a, b, c⟩
    · exact .inl h
    · exact .inr ⟨ob, a, b, (hs.2 ob (ne c (Ne.symm h1))).trans c⟩
  · rcases W.ev with h | ⟨ob, a, b, c⟩
    · exact .inl h
    · exact .inr ⟨ob, a, b, (hs.2 ob (ne c (Ne.symm h2))).trans c⟩
  · rcases W.fs p hp with h | ⟨ob, a, b, c⟩
    · exact .inl h
    · exact .inr ⟨ob, a, b, (hs.2 ob (ne c (Ne.symm h3))).trans c⟩
theorem WkI.new {n0 w : Nat} {g g' : Hp} {ms : List Mrk} {ts : List Tal} {evs : List (Ev × D)} {dm dt de : D} (W : WkI n0 w g ms ts evs dm dt de) (hl : g.length ≤ g'.length) (hk : ∀ q, q < g.length → g'[q]? = g[q]?) : WkI n0 w g' ms ts evs dm dt de := by
  have lt : ∀ {q : Nat} {ob : Ob}, g[q]? = some ob → q < g.length := fun hq => (List.getElem?_eq_some_iff.1 hq).1
  refine ⟨by have := W.len; omega, W.wn, (hk w (lt W.row)).trans W.row, ?_, W.tl.imp id fun ⟨ob, a, b, c⟩ => ⟨ob, a, b, (hk ob (lt c)).trans c⟩, ?_, fun p hp => ?_, W.ma, W.ta⟩
  · rcases W.mr with h | ⟨ob, a, b, c⟩
    · exact .inl h
    · exact .inr ⟨ob, a, b, (hk ob (lt c)).trans c⟩
  · rcases W.ev with h | ⟨ob, a, b, c⟩
    · exact .inl h
    · exact .inr ⟨ob, a, b, (hk ob (lt c)).trans c⟩
  · rcases W.fs p hp with h | ⟨ob, a, b, c⟩
    · exact .inl h
    · exact .inr ⟨ob, a, b, (hk ob (lt c)).trans c⟩
theorem WkI.chg0 {n0 w : Nat} {g g' : Hp} {ms : List Mrk} {ts : List Tal} {evs : List (Ev × D)} {dm dt de : D} (W : WkI n0 w g ms ts evs dm dt de) {z T sz : Nat} {rows : List (List D)} (hz : g[z]? = some (.row T sz rows)) (h1 : T ≠ ty1006) (h2 : T ≠ ty31) (h3 : T ≠ ty109) (h4 : T ≠ ty106) (hs : Same z g g')
    (hw : g'[w]? = some (.row ty1073 3 [[dm, dt, de]])) : WkI n0 w g' ms ts evs dm dt de :=
  W.chg hz h1 h2 h3 hs hw (W.tl.imp id fun ⟨ob, a, b, c⟩ => ⟨ob, a, b, (hs.2 ob (row_ne c hz (Ne.symm h4))).trans c⟩) W.ta
def dupR : Str := [42]
/-- What becomes of an item: a gap, a repetition, or it is taken but for some lines. -/
def tkO (mk : Int) (i : It) : Option (Option Nat) :=
  if i.e.a3 ≤ mk then some none
  else if mk < i.e.a2 then none
  else if i.e.a2 < mk then (if idx (fun l : Lin => decide (l.off = mk)) 0 i.e.ls < 1 then none else some (some (idx (fun l : Lin => decide (l.off = mk)) 0 i.e.ls).toNat))
  else some (some 0)
theorem fnd0 (l : List Mrk) (hst fil to_ : Int) : (match l[kM ⟨hst, fil, 0⟩ l]? with | some x => decide (cmpM x ⟨hst, fil, 0⟩ = 0) | none => false) = fndM l ⟨hst, fil, to_⟩ := by
  unfold fndM
  rw [kM_key ⟨hst, fil, to_⟩ ⟨hst, fil, 0⟩ rfl rfl]
  cases l[kM ⟨hst, fil, 0⟩ l]? with
  | none => rfl
  | some x => simp only; rw [cmpM_key x ⟨hst, fil, to_⟩ ⟨hst, fil, 0⟩ rfl rfl]
theorem lim1006 {n : Nat} (hn : n ≤ 1000001) : lim n ti1006.by_ = true := lim_ok (by have : ti1006.by_ = 24 := rfl; rw [this]; omega) (by omega)
/-- The mark of a file is set. -/
theorem mark_wp {n0 w : Nat} {g : Hp} {ms : List Mrk} {ts : List Tal} {evs : List (Ev × D)} {dm dt de : D} (W : WkI n0 w g ms ts evs dm dt de) (hl : ms.length ≤ 100000) (hst fil to_ : Int) {z : Nat} {j : It} (hz : g[z]? = some (.row ty74 11 [itr j])) {β : Type} {f : Hp → Option β} {E : Out → Ex → Option β} {Q : β → Prop}
    (k : ∀ g' dm', WkI n0 w g' (setM ms ⟨hst, fil, to_⟩) ts evs dm' dt de → g'[z]? = some (.row ty74 11 [itr j]) → g.length ≤ g'.length → (∀ q, q < n0 → g'[q]? = g[q]?) → Wp (f g') Q) :
    Wp ((R fn1013 [dm, .int .i64 hst, .int .i64 fil] g).bind fun p81 => (dExtract 0 p81.1).bind fun t82 => (dExtract 1 p81.1).bind fun t83 => (dUn .not t83).bind fun t85 =>
      (dIf t85
        ((dLoad tab p81.2 ty1007 (.ptr w 0 0)).bind fun t91 => (dBuild tab ty1006 [0, 1] [.int .i64 hst, .int .i64 fil]).bind fun t95 => (pLitF tab ty1007 1 [0] [t95]).bind fun t96 => (R fn1098 [t91, t82, t96] p81.2).bind fun p97 => (dStore tab p97.2 ty1007 (.ptr w 0 0) p97.1).bind fun h' => some (Ex.nrm, ([] : List D), h'))
        (some (Ex.nrm, ([] : List D), p81.2))).bind fun r => toEnd r.1
          ((dLoad tab r.2.2 ty1007 (.ptr w 0 0)).bind fun t105 => (dIndexAddr tab ty1007 t105 t82).bind fun t108 => (dFieldAddr tab ty1006 2 t108).bind fun t109 => (dStore tab r.2.2 ty3 t109 (.int .i64 to_)).bind f) (E r)) Q := by
  have hk := kM_le ⟨hst, fil, 0⟩ ms
  have h13 : R fn1013 [dm, .int .i64 hst, .int .i64 fil] g = some (.tup [.int .i64 (kM ⟨hst, fil, 0⟩ ms : Nat), .bool (fndM ms ⟨hst, fil, to_⟩)], g) :=
    (s1013r ms dm hst fil g W.mr.rd (by omega) (kM ⟨hst, fil, 0⟩ ms) hk (kM_lt _ ms) (kM_ge _ ms W.ma)).trans (congrArg (fun b : Bool => some (D.tup [.int .i64 (kM ⟨hst, fil, 0⟩ ms : Nat), .bool b], g)) (fnd0 ms hst fil to_))
  have hkk : kM ⟨hst, fil, to_⟩ ms = kM ⟨hst, fil, 0⟩ ms := kM_key ⟨hst, fil, to_⟩ ⟨hst, fil, 0⟩ rfl rfl ms
  have hset : setM ms ⟨hst, fil, to_⟩ = if fndM ms ⟨hst, fil, to_⟩ = true then ms.set (kM ⟨hst, fil, 0⟩ ms) ⟨hst, fil, to_⟩ else ms.take (kM ⟨hst, fil, 0⟩ ms) ++ [⟨hst, fil, to_⟩] ++ ms.drop (kM ⟨hst, fil, 0⟩ ms) := by
    unfold setM; rw [hkk]
  have hfx : fndM ms ⟨hst, fil, to_⟩ = true → ∃ x, ms[kM ⟨hst, fil, 0⟩ ms]? = some x ∧ x.h = hst ∧ x.f = fil := by
    intro hf
    unfold fndM at hf
    rw [hkk] at hf
    cases hg : ms[kM ⟨hst, fil, 0⟩ ms]? with
    | none => rw [hg] at hf; cases hf
    | some x =>
      rw [hg] at hf
      have := (cmpM_eq x ⟨hst, fil, to_⟩).1 (by simpa [-Option.bind_some] using hf)
      exact ⟨x, rfl, this.1, this.2⟩
  have hasc := setM_asc ms ⟨hst, fil, to_⟩ W.ma
  have hlen := setM_len ms ⟨hst, fil, to_⟩
  generalize setM ms ⟨hst, fil, to_⟩ = ms' at hset hasc hlen k
  generalize fndM ms ⟨hst, fil, to_⟩ = fnd at h13 hset hfx
  generalize kM ⟨hst, fil, 0⟩ ms = kk at hk h13 hset hfx
  have hlw : ∀ {g' : Hp} {dm' : D}, g'[w]? = some (.row ty1073 3 [[dm', dt, de]]) → dLoad tab g' ty1007 (.ptr w 0 0) = some dm' := fun hq => by rw [ldp1007, row_of hq]; rfl
  have wl := (List.getElem?_eq_some_iff.1 W.row).1
  have zl := (List.getElem?_eq_some_iff.1 hz).1
  have hwz : w ≠ z := row_ne W.row hz (by decide)
  have hn0 := W.len
  have hwn := W.wn
  simp only [h13, bs, dExtract_tup, List.getElem?_cons_zero, List.getElem?_cons_succ, dUn_not]
  refine Wp.join (P := fun r => ∃ (dm' : D) (g2 : Hp) (ob : Nat) (L : List Mrk) (x : Mrk), r = (.nrm, [], g2) ∧ dm' = .msl 3 ob 0 L.length ∧ n0 ≤ ob ∧ g.length ≤ g2.length ∧ (∀ q, q < n0 → g2[q]? = g[q]?) ∧ g2[w]? = some (.row ty1073 3 [[dm', dt, de]]) ∧ (∀ (q T sz : Nat) (rows : List (List D)), g[q]? = some (Ob.row T sz rows) → T ≠ ty1006 → T ≠ ty1073 → g2[q]? = g[q]?) ∧ g2[ob]? = some (.row ty1006 3 (L.map mrkr)) ∧ L[kk]? = some x ∧ L.set kk ⟨x.h, x.f, to_⟩ = ms') ?_ ?_ ?_
  · intro hf
    have hf : fnd = false := by simpa [-Option.bind_some] using hf
    subst hf
    simp only [Bool.false_eq_true, if_false] at hset
    have hlt : (ms.take kk).length = kk := by simp [-Option.bind_some]; omega
    have hL : (ms.take kk ++ [(⟨hst, fil, 0⟩ : Mrk)] ++ ms.drop kk)[kk]? = some ⟨hst, fil, 0⟩ := by
      rw [List.append_assoc, List.getElem?_append_right (by omega), hlt]; simp [-Option.bind_some]
    have hsetL : (ms.take kk ++ [(⟨hst, fil, 0⟩ : Mrk)] ++ ms.drop kk).set kk ⟨hst, fil, to_⟩ = ms' := by
      rw [hset, List.append_assoc, List.set_append_right _ _ (by omega), hlt]; simp [-Option.bind_some]
    have hlenL : (ms.take kk ++ [(⟨hst, fil, 0⟩ : Mrk)] ++ ms.drop kk).length = ms.length + 1 := by simp [-Option.bind_some]; omega
    have hmap : (ms.take kk ++ [(⟨hst, fil, 0⟩ : Mrk)] ++ ms.drop kk).map mrkr = (ms.map mrkr).take kk ++ [[.int .i64 hst, .int .i64 fil, .int .i64 0]] ++ (ms.map mrkr).drop kk := by
      rw [List.map_append, List.map_append, List.map_take, List.map_drop]; rfl
    have hz3 : ti1006.sz = 3 := rfl
    have hlim : lim (ms.length + 1) ti1006.by_ = true := lim1006 (by omega)
    have hlim1 : lim 1 ti1006.by_ = true := lim1006 (by omega)
    have hbd : dBuild tab ty1006 [0, 1] [.int .i64 hst, .int .i64 fil] = some (.agg [.int .i64 hst, .int .i64 fil, .int .i64 0]) := id rfl
    simp only [hlw W.row, hbd, bs1007_1, bs, xins1098]
    rcases W.mr with ⟨hms, hdd⟩ | ⟨ob, hob, hdm, ho⟩
    · subst hms
      have hk0 : kk = 0 := by simpa [-Option.bind_some] using hk
      subst hk0
      have hi : dIns ty1006 ti1006 [dm, .int .i64 ((0 : Nat) : Int), .sl 3 true [[.int .i64 hst, .int .i64 fil, .int .i64 0]]] g = some (.msl 3 g.length 0 1, dNew g ty1006 3 [[.int .i64 hst, .int .i64 fil, .int .i64 0]]) := by
        rcases hdd with rfl | rfl <;> simp [-Option.bind_some, dIns, hz3, hlim1]
      rw [hi]
      simp only [bs]
      refine wst1007 (off := 0) ((dNew_old _ _ _ _ wl).trans W.row) rfl rfl (by simp [-Option.bind_some]) rfl fun g3 q3 s3 => ?_
      replace q3 : g3[w]? = some (.row ty1073 3 [[.msl 3 g.length 0 1, dt, de]]) := q3
      have gl : (dNew g ty1006 3 [[.int .i64 hst, .int .i64 fil, .int .i64 0]]).length = g.length + 1 := by simp [-Option.bind_some, dNew]
      refine .some ⟨_, g3, g.length, [⟨hst, fil, 0⟩], ⟨hst, fil, 0⟩, rfl, rfl, hn0, by rw [s3.1, gl]; omega, fun q hq => (s3.2 q (by omega)).trans (dNew_old _ _ _ _ (by omega)), q3, fun q T sz rows hq h1 h2 => ?_, (s3.2 _ (by omega)).trans (dNew_get _ _ _ _), rfl, by simpa [-Option.bind_some] using hsetL⟩
      exact (s3.2 q (row_ne hq W.row h2)).trans (dNew_old _ _ _ _ (List.getElem?_eq_some_iff.1 hq).1)
    · have hkl : (kk : Int) ≤ (ms.length : Int) := by omega
      have hi : dIns ty1006 ti1006 [dm, .int .i64 (kk : Int), .sl 3 true [[.int .i64 hst, .int .i64 fil, .int .i64 0]]] g = some (.msl 3 g.length 0 (ms.length + 1), dNew (g.set ob .dead) ty1006 3 ((ms.map mrkr).take kk ++ [[.int .i64 hst, .int .i64 fil, .int .i64 0]] ++ (ms.map mrkr).drop kk)) := by
        subst hdm
        simp [-Option.bind_some, dIns, hz3, hlim, ho, hkl]
      rw [hi]
      simp only [bs]
      have hwo : w ≠ ob := row_ne W.row ho (by decide)
      have old : ∀ q, q < g.length → q ≠ ob → (dNew (g.set ob .dead) ty1006 3 ((ms.map mrkr).take kk ++ [[.int .i64 hst, .int .i64 fil, .int .i64 0]] ++ (ms.map mrkr).drop kk))[q]? = g[q]? := fun q hq hn => by
        rw [dNew_old _ _ _ _ (by simpa [-Option.bind_some] using hq), List.getElem?_set_ne (Ne.symm hn)]
      refine wst1007 (off := 0) ((old w wl hwo).trans W.row) rfl rfl (by simp [-Option.bind_some]) rfl fun g3 q3 s3 => ?_
      replace q3 : g3[w]? = some (.row ty1073 3 [[.msl 3 g.length 0 (ms.length + 1), dt, de]]) := q3
      have gl : (dNew (g.set ob .dead) ty1006 3 ((ms.map mrkr).take kk ++ [[.int .i64 hst, .int .i64 fil, .int .i64 0]] ++ (ms.map mrkr).drop kk)).length = g.length + 1 := by simp [-Option.bind_some, dNew]
      have hnew := dNew_get (g.set ob .dead) ty1006 3 ((ms.map mrkr).take kk ++ [[.int .i64 hst, .int .i64 fil, .int .i64 0]] ++ (ms.map mrkr).drop kk)
      rw [List.length_set, ← hmap] at hnew
      refine .some ⟨_, g3, g.length, ms.take kk ++ [⟨hst, fil, 0⟩] ++ ms.drop kk, ⟨hst, fil, 0⟩, rfl, by rw [hlenL], hn0, by rw [s3.1, gl]; omega, fun q hq => (s3.2 q (by omega)).trans (old q (by omega) (by omega)), q3, fun q T sz rows hq h1 h2 => ?_, (s3.2 _ (by omega)).trans (by rw [← hmap]; exact hnew), hL, hsetL⟩
      exact (s3.2 q (row_ne hq W.row h2)).trans (old q (List.getElem?_eq_some_iff.1 hq).1 (row_ne hq ho h1))
  · intro hf
    have hf : fnd = true := by simpa [-Option.bind_some] using hf
    subst hf
    obtain ⟨x, hx, hx1, hx2⟩ := hfx rfl
    simp only [if_true] at hset
    rcases W.mr with ⟨hms, _⟩ | ⟨ob, hob, hdm, ho⟩
    · subst hms; simp [-Option.bind_some] at hx
    · exact .some ⟨dm, g, ob, ms, x, rfl, hdm, hob, Nat.le_refl _, fun _ _ => rfl, W.row, fun _ _ _ _ _ _ _ => rfl, ho, hx, by rw [hx1, hx2, hset]⟩
  rintro _ ⟨dm', g2, ob, L, x, rfl, rfl, hob, hl2, hb2, hw2, hk2, ho, hx, hfin⟩
  have hkL : kk < L.length := (List.getElem?_eq_some_iff.1 hx).1
  have hkl2 : (0 : Int) ≤ (kk : Int) ∧ (kk : Int) < (L.length : Int) := by omega
  have hr : (L.map mrkr)[kk]? = some (mrkr x) := by rw [List.getElem?_map, hx]; rfl
  simp only [toEnd_nrm, hlw hw2, bs, ixm1007, hkl2, and_self, if_true, fap1006_2, Int.toNat_natCast, Nat.zero_add]
  refine wst3 (off := 2) ho hr rfl (by simp [-Option.bind_some, mrkr]) rfl fun g3 q3 s3 => ?_
  have hset3 : (L.map mrkr).set kk (spl (mrkr x) 2 (cells1 (.int .i64 to_))) = ms'.map mrkr := by
    rw [← hfin, List.map_set]; rfl
  rw [hset3] at q3
  have hlenL : L.length = ms'.length := by rw [← hfin]; simp [-Option.bind_some]
  have hwo : w ≠ ob := row_ne hw2 ho (by decide)
  have kp : ∀ (q T sz : Nat) (rows : List (List D)), g[q]? = some (Ob.row T sz rows) → T ≠ ty1006 → T ≠ ty1073 → g3[q]? = g[q]? := fun q T sz rows hq h1 h2 => by
    have e := hk2 q T sz rows hq h1 h2
    exact (s3.2 q (row_ne (e.trans hq) ho h1)).trans e
  refine k g3 _ ⟨by have := s3.1; omega, hwn, (s3.2 w hwo).trans hw2, .inr ⟨ob, hob, by rw [hlenL], q3⟩, W.tl.imp id fun ⟨ob', a, b, c⟩ => ⟨ob', a, b, (kp _ _ _ _ c (by decide) (by decide)).trans c⟩, ?_, fun p hp => ?_, hasc, W.ta⟩ ((kp z _ _ _ hz (by decide) (by decide)).trans hz) (by have := s3.1; omega) (fun q hq => (s3.2 q (by omega)).trans (hb2 q hq))
  · rcases W.ev with h | ⟨ob', a, b, c⟩
    · exact .inl h
    · exact .inr ⟨ob', a, b, (kp _ _ _ _ c (by decide) (by decide)).trans c⟩
  · rcases W.fs p hp with h | ⟨ob', a, b, c⟩
    · exact .inl h
    · exact .inr ⟨ob', a, b, (kp _ _ _ _ c (by decide) (by decide)).trans c⟩
/-- The event of an item that is stored. -/
def evLd (e : Ev) (d : D) (hd : SlOf 3 linr e.ls d) : Ev := { e with ld := d, hld := hd }
/-- An event that is new, behind those before. -/
theorem ev_wp {n0 w : Nat} {g : Hp} {ms : List Mrk} {ts : List Tal} {evs : List (Ev × D)} {dm dt de : D} (W : WkI n0 w g ms ts evs dm dt de) (hle : evs.length ≤ 100000) {z : Nat} {j : It} (hz : g[z]? = some (.row ty74 11 [itr j])) (hn : j.e.ls.length ≤ 1000) (hf : j.e.fs.length ≤ 1000) {β : Type} {f : D → Hp → Option β} {Q : β → Prop}
    (k : ∀ g' p de' d hd x, WkI n0 w g' ms ts (evs ++ [(evLd j.e d hd, x)]) dm dt de' → g.length ≤ g'.length → (∀ q, q < n0 → g'[q]? = g[q]?) → Wp (f p g') Q) :
    Wp ((dFieldAddr tab ty74 1 (.ptr z 0 0)).bind fun t122 =>
    (dLoad tab g ty31 t122).bind fun t123 =>
    (some ((.ptr g.length 0 0 : D), dNew g ty31 10 [[.int .i64 0, .int .i64 0, .int .i64 0, .int .i64 0, .nils, .int .i64 0, .int .i64 0, .str [], .str [], .nils]])).bind fun p14 =>
    ((dStore tab p14.2 ty31 p14.1 t123).bind fun h' => some ((.und : D), h')).bind fun p903 =>
    (dFieldAddr tab ty31 4 p14.1).bind fun t124 =>
    (dLoad tab p903.2 ty28 t124).bind fun t125 =>
    (R fn1008 [t125] p903.2).bind fun p126 =>
    (dFieldAddr tab ty31 9 p14.1).bind fun t127 =>
    (dLoad tab p126.2 ty29 t127).bind fun t128 =>
    (R fn1009 [t128] p126.2).bind fun p129 =>
    (dFieldAddr tab ty31 4 p14.1).bind fun t130 =>
    chk (dLoad tab p903.2 ty29 t127 = some t128)
    (((dStore tab p129.2 ty28 t130 p126.1).bind fun h' => some ((.und : D), h')).bind fun p907 =>
    (dFieldAddr tab ty31 9 p14.1).bind fun t131 =>
    ((dStore tab p907.2 ty29 t131 p129.1).bind fun h' => some ((.und : D), h')).bind fun p909_1 =>
    (dFieldAddr tab ty1073 1 (.ptr w 0 0)).bind fun t135 =>
    (dLoad tab p909_1.2 ty40 t135).bind fun t136 =>
    (dLoad tab p909_1.2 ty31 p14.1).bind fun t137 =>
    (pLitF tab ty40 1 [0] [t137]).bind fun t138 =>
    (dAppend tab p909_1.2 ty40 ty40 t136 t138).bind fun p139 =>
    (dFieldAddr tab ty1073 1 (.ptr w 0 0)).bind fun t141 =>
    ((dStore tab p139.2 ty40 t141 p139.1).bind fun h' => some ((.und : D), h')).bind fun p910 =>
    f p14.1 p910.2)) Q := by
  have wl := (List.getElem?_eq_some_iff.1 W.row).1
  have hn0 := W.len
  have hwn := W.wn
  have hld : dLoad tab g ty31 (.ptr z 0 (0 + 1)) = some (.agg (evr j.e)) := by rw [ldp31, row_of hz]; rfl
  have hz5 : ∀ r0 r1 r2 r3 : D, True := fun _ _ _ _ => trivial
  generalize hZ : ([.int .i64 0, .int .i64 0, .int .i64 0, .int .i64 0, .nils, .int .i64 0, .int .i64 0, .str [], .str [], .nils] : List D) = Z
  have hZl : Z.length = 10 := by subst hZ; rfl
  simp only [fap74_1, hld, bs, Option.bind_assoc]
  have hold : ∀ q, q < g.length → (dNew g ty31 10 [Z])[q]? = g[q]? := fun q hq => dNew_old _ _ _ _ hq
  have hpp : (dNew g ty31 10 [Z])[g.length]? = some (.row ty31 10 [Z]) := dNew_get _ _ _ _
  have hpl : (dNew g ty31 10 [Z]).length = g.length + 1 := by simp [-Option.bind_some, dNew]
  generalize dNew g ty31 10 [Z] = g1 at hold hpp hpl
  have W1 := W.new (g' := g1) (by omega) hold
  generalize hP : List.length g = P at hpp hpl
  have hwP : w ≠ P := by omega
  have evo : ∀ {q : Nat} {rows : List (List D)}, g[q]? = some (.row ty31 10 rows) → q ≠ P := fun hq => by have := (List.getElem?_eq_some_iff.1 hq).1; omega
  have dob : ¬ de.inOb P := fun hh => by have := (W.ev.lt hh).2; omega
  have hokv : (D.agg (evr j.e)).okv = true := by
    have o1 := slof_one j.e.hld
    have o2 := slof_one j.e.hfd
    have o3 : D.agg (evr j.e) = .agg [.int .i64 j.e.a0, .int .i64 j.e.a1, .int .i64 j.e.a2, .int .i64 j.e.a3, j.e.ld, .int .i64 j.e.a5, .int .i64 j.e.a6, .str j.e.s7, .str j.e.s8, j.e.fd] := rfl
    rw [o3]
    generalize j.e.ld = a at o1
    generalize j.e.fd = b at o2
    cases a <;> first | (cases b <;> first | rfl | (simp [-Option.bind_some, D.one] at o2)) | (simp [-Option.bind_some, D.one] at o1)
  refine wst31 hpp (by rfl) (by rfl) (by rw [hZl]; exact Nat.le_refl _) hokv fun g2 q2 s2 => ?_
  replace q2 : g2[P]? = some (.row ty31 10 [[.int .i64 j.e.a0, .int .i64 j.e.a1, .int .i64 j.e.a2, .int .i64 j.e.a3, j.e.ld, .int .i64 j.e.a5, .int .i64 j.e.a6, .str j.e.s7, .str j.e.s8, j.e.fd]]) := by
    rw [q2]; subst hZ; rfl
  obtain ⟨y1, h1, hy1⟩ := s1008 j.e.ls j.e.ld g2 j.e.hld (by omega)
  obtain ⟨y2, g3, h2, hl3, hb3, hy2⟩ := u1009 j.e.fs j.e.fd g2 j.e.hfd (by omega)
  have l4 : dLoad tab g2 ty28 (.ptr P 0 (0 + 4)) = some j.e.ld := by rw [ldp28, row_of q2]; rfl
  have l9 : dLoad tab g2 ty29 (.ptr P 0 (0 + 9)) = some j.e.fd := by rw [ldp29, row_of q2]; rfl
  simp only [bs, fap31_4, fap31_9, l4, h1, l9, h2]
  refine Wp.chk trivial ?_
  have hPl2 := (List.getElem?_eq_some_iff.1 q2).1
  have q3 := (hb3 P hPl2).trans q2
  have oc1 := one_cells (slof_one hy1)
  refine wst28 q3 (by rfl) (by rw [oc1.1]; rfl) (by simp [-Option.bind_some]) oc1.2 fun g4 q4 s4 => ?_
  rw [oc1.1] at q4
  try simp only [bs]
  have hlv : LvF g3 g2.length j.e.fs y2 := hy2
  have oc2 := one_cells hlv.one
  refine wst29 q4 (by rfl) (by rw [oc2.1]; rfl) (by simp [-Option.bind_some, spl]) oc2.2 fun g5 q5 s5 => ?_
  rw [oc2.1] at q5
  replace q5 : g5[P]? = some (.row ty31 10 [evl (evLd j.e y1 hy1, y2)]) := q5
  have hP5 : ∀ q, q ≠ P → q < g2.length → g5[q]? = g1[q]? := fun q hq hlt => (s5.2 q hq).trans ((s4.2 q hq).trans ((hb3 q hlt).trans (s2.2 q hq)))
  have hg2 : g2.length = P + 1 := by rw [s2.1, hpl]
  have hg5 : g5.length = g3.length := by rw [s5.1, s4.1]
  have hlv5 : LvF g5 n0 j.e.fs y2 := by
    rcases hlv with h | ⟨ob, a, b, c⟩
    · exact .inl h
    · exact .inr ⟨ob, by omega, b, (s5.2 ob (by omega)).trans ((s4.2 ob (by omega)).trans c)⟩
  have W5 : WkI n0 w g5 ms ts evs dm dt de := W.new (by omega) fun q hq => (hP5 q (by omega) (by omega)).trans (hold q (by omega))
  have lw : dLoad tab g5 ty40 (.ptr w 0 (0 + 2)) = some de := by rw [ldp40, row_of W5.row]; rfl
  have lP : dLoad tab g5 ty31 (.ptr P 0 0) = some (.agg (evl (evLd j.e y1 hy1, y2))) := by
    rw [ldp31, row_of q5]; rfl
  have hbs : pLitF tab ty40 1 [0] [.agg (evl (evLd j.e y1 hy1, y2))] = some (.sl 10 true [evl (evLd j.e y1 hy1, y2)]) := id rfl
  simp only [bs, fap1073_1, lw, lP, hbs]
  refine wap40 W5.len W5.ev (rowsOf_sl _ _ _ _) (by simp [-Option.bind_some]; omega) fun x' g6 ow len6 bel6 keep6 fre6 => ?_
  try simp only [bs]
  have hw5 := (List.getElem?_eq_some_iff.1 W5.row).1
  have oc3 := one_cells (own_one ow)
  have hdw : ¬ de.inOb w := own_ne W5.ev W5.row (by decide)
  refine wst40 ((keep6 w hw5 hdw).trans W5.row) (by rfl) (by rw [oc3.1]; rfl) (by simp [-Option.bind_some]) oc3.2 fun g7 q7 s7 => ?_
  rw [oc3.1] at q7
  replace q7 : g7[w]? = some (.row ty1073 3 [[dm, dt, x']]) := q7
  try simp only [bs]
  have kp : ∀ (q T sz : Nat) (rows : List (List D)), g5[q]? = some (Ob.row T sz rows) → T ≠ ty31 → T ≠ ty1073 → g7[q]? = g5[q]? := fun q T sz rows hq t1 t2 =>
    (s7.2 q (row_ne hq W5.row t2)).trans (keep6 q (List.getElem?_eq_some_iff.1 hq).1 (own_ne W5.ev hq (Ne.symm t1)))
  refine k g7 _ x' y1 hy1 y2 ⟨by have := s7.1; have := W5.len; omega, hwn, q7, ?_, W5.tl.imp id fun ⟨ob, a, b, c⟩ => ⟨ob, a, b, (kp _ _ _ _ c (by decide) (by decide)).trans c⟩, ?_, fun p hp => ?_, W.ma, W.ta⟩ (by have := s7.1; omega) (fun q hq => (s7.2 q (by omega)).trans ((bel6 q hq).trans ((hP5 q (by omega) (by omega)).trans (hold q (by omega)))))
  · rcases W5.mr with h | ⟨ob, a, b, c⟩
    · exact .inl h
    · exact .inr ⟨ob, a, b, (kp _ _ _ _ c (by decide) (by decide)).trans c⟩
  · rw [List.map_append]
    rcases ow with h | ⟨ob, a, b, c⟩
    · exact .inl h
    · exact .inr ⟨ob, a, b, (s7.2 ob (by
        have hw6 := (keep6 w hw5 hdw).trans W5.row
        exact row_ne c hw6 (by decide))).trans c⟩
  · have kk : ∀ {l : List (Str × Str)} {d : D}, LvF g5 n0 l d → LvF g7 n0 l d := fun hd => by
      rcases hd with h | ⟨ob, a, b, c⟩
      · exact .inl h
      · exact .inr ⟨ob, a, b, (kp _ _ _ _ c (by decide) (by decide)).trans c⟩
    rcases List.mem_append.1 hp with hp | hp
    · exact kk (W5.fs p hp)
    · simp only [List.mem_singleton] at hp
      subst hp
      exact kk hlv5
theorem wpConv {α : Type} {x y : Option α} {Q : α → Prop} (h : x = y) (hx : Wp x Q) : Wp y Q := h ▸ hx
/-- What taking an item leaves. -/
def TkPost (n0 w : Nat) (ms : List Mrk) (ts : List Tal) (evs : List (Ev × D)) (dm dt de : D) (i : It) (b : Bool) (g' : Hp) : Prop :=
  match tkO (markOf ms i.e.a0 i.e.a1) i with
  | none => b = false
  | some none => b = true ∧ ∃ dt', WkI n0 w g' ms (addT ts i.e.a0 dupR i.e.ls.length) evs dm dt' de
  | some (some k) => b = true ∧ ∃ j dm' dt' de' evs', CutOf i (markOf ms i.e.a0 i.e.a1) k j ∧ WkI n0 w g' (setM ms ⟨i.e.a0, i.e.a1, i.e.a3⟩) (addT (addT ts i.e.a0 dupR k) i.e.a0 i.r j.e.ls.length) evs' dm' dt' de' ∧
      if i.r = [] then ∃ d hd x, evs' = evs ++ [(evLd j.e d hd, x)] else evs' = evs
theorem s1096 {n0 w : Nat} {g : Hp} {ms : List Mrk} {ts : List Tal} {evs : List (Ev × D)} {dm dt de : D} (W : WkI n0 w g ms ts evs dm dt de) (hlm : ms.length ≤ 100000) (hlt : ts.length ≤ 100000) (hle : evs.length ≤ 100000) (i : It) (hn : i.e.ls.length ≤ 1000) (hf : i.e.fs.length ≤ 1000) :
    ∃ (b : Bool) (g' : Hp), R fn1096 [.ptr w 0 0, .agg (itr i)] g = some (.bool b, g') ∧ g.length ≤ g'.length ∧ (∀ q, q < n0 → g'[q]? = g[q]?) ∧ TkPost n0 w ms ts evs dm dt de i b g' := by
  suffices Wp (R fn1096 [.ptr w 0 0, .agg (itr i)] g) (fun p => ∃ b : Bool, p.1 = .bool b ∧ g.length ≤ p.2.length ∧ (∀ q, q < n0 → p.2[q]? = g[q]?) ∧ TkPost n0 w ms ts evs dm dt de i b p.2) by
    obtain ⟨⟨x, g'⟩, h1, b, rfl, h2⟩ := this
    exact ⟨b, g', h1, h2⟩
  rw [e1096]
  have hn0 := W.len
  have hwn := W.wn
  have wl := (List.getElem?_eq_some_iff.1 W.row).1
  simp only [F1096]
  rw [wBox_agg ty74 11 g (itr i) rfl (by omega)]
  have hold : ∀ q, q < g.length → (dNew g ty74 11 [itr i])[q]? = g[q]? := fun q hq => dNew_old _ _ _ _ hq
  have hz : (dNew g ty74 11 [itr i])[g.length]? = some (.row ty74 11 [itr i]) := dNew_get _ _ _ _
  have hzl : (dNew g ty74 11 [itr i]).length = g.length + 1 := by simp [-Option.bind_some, dNew]
  have W1 := W.new (g' := dNew g ty74 11 [itr i]) (by omega) hold
  generalize dNew g ty74 11 [itr i] = g1 at hold hz hzl W1
  generalize hZ : List.length g = z at hz hzl
  have l0 : dLoad tab g1 ty3 (.ptr z 0 (0 + 1 + 0)) = some (.int .i64 i.e.a0) := by rw [ldp3, row_of hz]; rfl
  have l1 : dLoad tab g1 ty3 (.ptr z 0 (0 + 1 + 1)) = some (.int .i64 i.e.a1) := by rw [ldp3, row_of hz]; rfl
  have l2 : dLoad tab g1 ty3 (.ptr z 0 (0 + 1 + 2)) = some (.int .i64 i.e.a2) := by rw [ldp3, row_of hz]; rfl
  have l3 : dLoad tab g1 ty3 (.ptr z 0 (0 + 1 + 3)) = some (.int .i64 i.e.a3) := by rw [ldp3, row_of hz]; rfl
  have l4 : dLoad tab g1 ty28 (.ptr z 0 (0 + 1 + 4)) = some i.e.ld := by rw [ldp28, row_of hz]; rfl
  have lI : dLoad tab g1 ty1009 (.ptr w 0 (0 + 0)) = some (.agg [dm, dt]) := by rw [ldp1009, row_of W1.row]; rfl
  have hmk := s1005r ms dm dt i.e.a0 i.e.a1 g1 W1.mr.rd (by omega) W.ma
  unfold TkPost
  generalize hM : markOf ms i.e.a0 i.e.a1 = m at hmk
  have hsm : ∀ {g2 g3 : Hp}, Same w g2 g3 → (∀ q, q < n0 → g2[q]? = g[q]?) → ∀ q, q < n0 → g3[q]? = g[q]? := fun s h q hq => (s.2 q (by omega)).trans (h q hq)
  have h1b : ∀ q, q < n0 → g1[q]? = g[q]? := fun q hq => hold q (by omega)
  simp only [bs, fap74_1, fap31_0, fap31_1, fap31_2, fap31_3, fap31_4, l0, l1, l2, l3, l4, nilCheck_ptr, fap1073_0, lI, hmk, lens28 i.e.hld, dBin_leq]
  refine Wp.chk trivial ?_
  refine Wp.dif ?_ ?_
  · intro hle2
    have hle2 : i.e.a3 ≤ m := by simpa [-Option.bind_some] using hle2
    have hO : tkO m i = some none := by unfold tkO; rw [if_pos hle2]
    obtain ⟨dt', g2, e2, q2, hd2, s2⟩ := s1097 W1.row W1.tl.rd (by omega) W.ta i.e.a0 dupR (i.e.ls.length : Int)
    have e2 : R fn1097 [.ptr w 0 0, .int .i64 i.e.a0, .str [42], .int .i64 i.e.ls.length] g1 = some (.tup [], g2) := e2
    refine Wp.step e2 ?_
    simp only [bs, mkRes_one]
    refine .some ⟨true, rfl, by have := s2.1; show z ≤ g2.length; omega, hsm s2 h1b, ?_⟩
    rw [hO]
    exact ⟨rfl, dt', W1.chg W1.row (by decide) (by decide) (by decide) s2 q2 (.inl hd2) (addT_asc W.ta _ _ _)⟩
  intro hle2
  have hle2 : ¬ i.e.a3 ≤ m := by simpa [-Option.bind_some] using hle2
  simp only [bs, dBin_gtr]
  refine Wp.dif ?_ ?_
  · intro hgt
    have hgt : m < i.e.a2 := by simpa [-Option.bind_some] using hgt
    have hO : tkO m i = none := by unfold tkO; rw [if_neg hle2, if_pos hgt]
    simp only [bs, mkRes_one]
    refine .some ⟨false, rfl, by show z ≤ g1.length; omega, h1b, ?_⟩
    rw [hO]
  intro hgt
  have hgt : ¬ m < i.e.a2 := by simpa [-Option.bind_some] using hgt
  simp only [bs, dBin_lss]
  -- the lines before the mark
  refine Wp.join (P := fun r => (∃ (g2 : Hp) (a b c : D), r = (.ret, [.bool false, a, b, c], g2) ∧ g.length ≤ g2.length ∧ (∀ q, q < n0 → g2[q]? = g[q]?) ∧ tkO m i = none) ∨
      (∃ g2 j k dt' a b c, r = (.nrm, [.bool false, a, b, c], g2) ∧ g.length ≤ g2.length ∧ (∀ q, q < n0 → g2[q]? = g[q]?) ∧ tkO m i = some (some k) ∧ CutOf i m k j ∧ g2[z]? = some (.row ty74 11 [itr j]) ∧ WkI n0 w g2 ms (addT ts i.e.a0 dupR (k : Nat)) evs dm dt' de)) ?_ ?_ ?_
  · intro hlt2
    have hlt2 : i.e.a2 < m := by simpa [-Option.bind_some] using hlt2
    obtain ⟨j, ec, hc⟩ := s1002u i m g1 (by omega) (by omega)
    simp only [ldIt0 hz, bs]
    refine Wp.step ec ?_
    simp only [bs, dExtract_tup, List.getElem?_cons_zero, List.getElem?_cons_succ, boxIt, dUn_not]
    generalize hK : idx (fun l : Lin => decide (l.off = m)) 0 i.e.ls = kk at hc
    have hkr := idx_range (fun l : Lin => decide (l.off = m)) i.e.ls 0
    rw [hK] at hkr
    refine Wp.dif ?_ ?_
    · intro hk1
      have hk1 : kk < 1 := by simpa [-Option.bind_some] using hk1
      try simp only [bs]
      exact .some (.inl ⟨g1, _, _, _, rfl, by omega, h1b, by unfold tkO; rw [if_neg hle2, if_neg hgt, if_pos hlt2, hK, if_pos hk1]⟩)
    · intro hk1
      have hk1 : ¬ kk < 1 := by simpa [-Option.bind_some] using hk1
      rw [if_neg hk1] at hc
      have hkn : kk < i.e.ls.length := by
        rcases hkr with h | ⟨_, h⟩
        · exact absurd h hk1
        · simpa [-Option.bind_some] using h
      simp only [ldIt, bs, Option.bind_assoc]
      refine put_it hz rfl fun g2 hz2 s2 => ?_
      have hwz : w ≠ z := row_ne W1.row hz (by decide)
      have W2 := W1.chg0 hz (by decide) (by decide) (by decide) (by decide) s2 ((s2.2 w hwz).trans W1.row)
      have h2b : ∀ q, q < n0 → g2[q]? = g[q]? := fun q hq => (s2.2 q (by omega)).trans (h1b q hq)
      have l5 : dLoad tab g2 ty28 (.ptr z 0 (0 + 1 + 4)) = some j.e.ld := by rw [ldp28, row_of hz2]; rfl
      have hjl : j.e.ls.length = i.e.ls.length - kk.toNat := by rw [hc.ls, List.length_drop]
      have hw3 : IntKind.wrap .i64 ((i.e.ls.length : Int) - (j.e.ls.length : Int)) = ((kk.toNat : Nat) : Int) := by
        rw [wrap_i64 (by omega) (by omega)]; omega
      obtain ⟨dt', g3, e3, q3, hd3, s3⟩ := s1097 W2.row W2.tl.rd (by omega) W.ta i.e.a0 dupR (kk.toNat : Int)
      have e3 : R fn1097 [.ptr w 0 0, .int .i64 i.e.a0, .str [42], .int .i64 (kk.toNat : Int)] g2 = some (.tup [], g3) := e3
      simp only [bs, fap74_1, fap31_4, l5, lens28 j.e.hld, dBin_sub, hw3]
      refine Wp.step e3 ?_
      have W3 := W2.chg W2.row (by decide) (by decide) (by decide) s3 q3 (.inl hd3) (addT_asc W.ta _ _ _)
      refine .some (.inr ⟨g3, j, kk.toNat, dt', _, _, _, rfl, by have := s3.1; have := s2.1; omega, hsm s3 h2b, by unfold tkO; rw [if_neg hle2, if_neg hgt, if_pos hlt2, hK, if_neg hk1], hc, (s3.2 z (Ne.symm hwz)).trans hz2, W3⟩)
  · intro hlt2
    have hlt2 : ¬ i.e.a2 < m := by simpa [-Option.bind_some] using hlt2
    have ha : addT ts i.e.a0 dupR ((0 : Nat) : Int) = ts := by simp [-Option.bind_some, addT]
    refine .some (.inr ⟨g1, i, 0, dt, _, _, _, rfl, by omega, h1b, by unfold tkO; rw [if_neg hle2, if_neg hgt, if_neg hlt2], ⟨rfl, rfl, rfl, by omega, rfl, rfl, rfl, rfl, rfl, by simp [-Option.bind_some], rfl⟩, hz, by rw [ha]; exact W1⟩)
  rintro _ (⟨g2, a, b, c, rfl, hl2, h2b, hO⟩ | ⟨g2, j, k, dt', a, b, c, rfl, hl2, h2b, hO, hc, hz2, W2⟩)
  · simp only [unblk_ret, toEnd_ret, exEnd_ret, nth_zero, bs, mkRes_one]
    refine .some ⟨false, rfl, by show z ≤ g2.length; omega, h2b, ?_⟩
    rw [hO]
  have lJ : dLoad tab g2 ty1007 (.ptr w 0 (0 + 0 + 0)) = some dm := by rw [ldp1007, row_of W2.row]; rfl
  have hal := addT_len ts i.e.a0 dupR (k : Nat)
  simp only [unblk_nrm, toEnd_nrm, nth_zero, bs, fap1009_0, lJ, Option.bind_assoc]
  refine wpConv ?_ (mark_wp W2 hlm i.e.a0 i.e.a1 i.e.a3 hz2 (f := fun g' =>
    (dLoad tab g' ty9 (.ptr z 0 (0 + 0))).bind fun t113 =>
    (dLoad tab g' ty28 (.ptr z 0 (0 + 1 + 4))).bind fun t116 =>
    (dLenT tab ty28 t116).bind fun t117 =>
    (R fn1097 [.ptr w 0 0, .int .i64 i.e.a0, t113, t117] g').bind fun p118 =>
    (dLoad tab p118.2 ty9 (.ptr z 0 (0 + 0))).bind fun t120 =>
    (dBin tab .eql ty9 t120 (.str [])).bind fun t121 =>
    (dIf t121
      ((dFieldAddr tab ty74 1 (.ptr z 0 0)).bind fun t122 =>
    (dLoad tab p118.2 ty31 t122).bind fun t123 =>
    (some ((.ptr p118.2.length 0 0 : D), dNew p118.2 ty31 10 [[.int .i64 0, .int .i64 0, .int .i64 0, .int .i64 0, .nils, .int .i64 0, .int .i64 0, .str [], .str [], .nils]])).bind fun p14 =>
    ((dStore tab p14.2 ty31 p14.1 t123).bind fun h' => some ((.und : D), h')).bind fun p903 =>
    (dFieldAddr tab ty31 4 p14.1).bind fun t124 =>
    (dLoad tab p903.2 ty28 t124).bind fun t125 =>
    (R fn1008 [t125] p903.2).bind fun p126 =>
    (dFieldAddr tab ty31 9 p14.1).bind fun t127 =>
    (dLoad tab p126.2 ty29 t127).bind fun t128 =>
    (R fn1009 [t128] p126.2).bind fun p129 =>
    (dFieldAddr tab ty31 4 p14.1).bind fun t130 =>
    chk (dLoad tab p903.2 ty29 t127 = some t128)
    (((dStore tab p129.2 ty28 t130 p126.1).bind fun h' => some ((.und : D), h')).bind fun p907 =>
    (dFieldAddr tab ty31 9 p14.1).bind fun t131 =>
    ((dStore tab p907.2 ty29 t131 p129.1).bind fun h' => some ((.und : D), h')).bind fun p909_1 =>
    (dFieldAddr tab ty1073 1 (.ptr w 0 0)).bind fun t135 =>
    (dLoad tab p909_1.2 ty40 t135).bind fun t136 =>
    (dLoad tab p909_1.2 ty31 p14.1).bind fun t137 =>
    (pLitF tab ty40 1 [0] [t137]).bind fun t138 =>
    (dAppend tab p909_1.2 ty40 ty40 t136 t138).bind fun p139 =>
    (dFieldAddr tab ty1073 1 (.ptr w 0 0)).bind fun t141 =>
    ((dStore tab p139.2 ty40 t141 p139.1).bind fun h' => some ((.und : D), h')).bind fun p910 =>
    some (Ex.nrm, [p14.1], p910.2)))
      (some (Ex.nrm, [D.any], p118.2))).bind fun r_2 => toEnd r_2.1 (some (D.bool true, r_2.2.2)) fun x => exEnd x (some (D.bool false, r_2.2.2))) (E := fun r x => exEnd x (some (D.bool false, r.2.2))) ?_)
  · simp only [bs, Option.bind_assoc, nilCheck_ptr, fap1073_0, fap1073_1, fap1009_0, fap74_0, fap74_1, fap31_4, fap31_9, Nat.zero_add, Nat.add_zero, mkRes_one]
  · intro g3 dm' W3 hz3 hl3 h3b
    have r0 : dLoad tab g3 ty9 (.ptr z 0 (0 + 0)) = some (.str j.r) := by rw [ldp9, row_of hz3]; rfl
    have r4 : dLoad tab g3 ty28 (.ptr z 0 (0 + 1 + 4)) = some j.e.ld := by rw [ldp28, row_of hz3]; rfl
    obtain ⟨dt2, g4, e4, q4, hd4, s4⟩ := s1097 W3.row W3.tl.rd (by omega) W3.ta i.e.a0 j.r (j.e.ls.length : Int)
    have W4 := W3.chg W3.row (by decide) (by decide) (by decide) s4 q4 (.inl hd4) (addT_asc W3.ta _ _ _)
    have hwz : w ≠ z := row_ne W3.row hz3 (by decide)
    have hz4 := (s4.2 z (Ne.symm hwz)).trans hz3
    have r5 : dLoad tab g4 ty9 (.ptr z 0 (0 + 0)) = some (.str j.r) := by rw [ldp9, row_of hz4]; rfl
    have hjl : j.e.ls.length ≤ i.e.ls.length := by rw [hc.ls, List.length_drop]; omega
    have hjf : j.e.fs.length ≤ 1000 := by rw [hc.fs]; exact hf
    have h4b : ∀ q, q < n0 → g4[q]? = g[q]? := fun q hq => (s4.2 q (by omega)).trans ((h3b q hq).trans (h2b q hq))
    have hl4 : g.length ≤ g4.length := by have := s4.1; omega
    simp only [r0, r4, lens28 j.e.hld, e4, r5, bs, dBin_seql]
    refine Wp.join (P := fun r => ∃ (g5 : Hp) (a de' : D) (evs' : List (Ev × D)), r = (.nrm, [a], g5) ∧ g.length ≤ g5.length ∧ (∀ q, q < n0 → g5[q]? = g[q]?) ∧ WkI n0 w g5 (setM ms ⟨i.e.a0, i.e.a1, i.e.a3⟩) (addT (addT ts i.e.a0 dupR (k : Nat)) i.e.a0 j.r j.e.ls.length) evs' dm' dt2 de' ∧ if i.r = [] then ∃ d hd x, evs' = evs ++ [(evLd j.e d hd, x)] else evs' = evs) ?_ ?_ ?_
    · intro hr
      have hr : i.r = [] := by rw [← hc.r]; simpa [-Option.bind_some] using hr
      refine ev_wp W4 hle hz4 (by omega) hjf (f := fun p h => some (Ex.nrm, [p], h)) fun g5 p de' d hd x W5 hl5 h5b => ?_
      exact .some ⟨g5, p, de', _, rfl, by omega, fun q hq => (h5b q hq).trans (h4b q hq), W5, by rw [if_pos hr]; exact ⟨d, hd, x, rfl⟩⟩
    · intro hr
      have hr : ¬ i.r = [] := by rw [← hc.r]; simpa [-Option.bind_some] using hr
      exact .some ⟨g4, _, de, evs, rfl, hl4, h4b, W4, by rw [if_neg hr]⟩
    rintro _ ⟨g5, a', de', evs', rfl, hl5, h5b, W5, hev⟩
    simp only [toEnd_nrm]
    refine .some ⟨true, rfl, by show z ≤ g5.length; omega, h5b, ?_⟩
    rw [hO]
    rw [hc.r] at W5
    exact ⟨rfl, j, dm', dt2, de', evs', hc, W5, hev⟩
/-- The same place, lines and fields. -/
structure EvQ (a b : Ev) : Prop where
  a0 : a.a0 = b.a0
  a1 : a.a1 = b.a1
  a2 : a.a2 = b.a2
  a3 : a.a3 = b.a3
  a5 : a.a5 = b.a5
  a6 : a.a6 = b.a6
  s7 : a.s7 = b.s7
  s8 : a.s8 = b.s8
  ls : a.ls = b.ls
  fs : a.fs = b.fs
/-- Marks and tallies behind items, or a gap. -/
def apS : List Mrk → List Tal → List It → Option (List Mrk × List Tal)
  | ms, ts, [] => some (ms, ts)
  | ms, ts, i :: r => match tkO (markOf ms i.e.a0 i.e.a1) i with
    | none => none
    | some none => apS ms (addT ts i.e.a0 dupR i.e.ls.length) r
    | some (some k) => apS (setM ms ⟨i.e.a0, i.e.a1, i.e.a3⟩) (addT (addT ts i.e.a0 dupR (k : Nat)) i.e.a0 i.r ((i.e.ls.length - k : Nat) : Int)) r
/-- The events that are new. -/
def apE : List Mrk → List It → List Ev → Prop
  | ms, [], es => es = []
  | ms, i :: r, es => match tkO (markOf ms i.e.a0 i.e.a1) i with
    | none => True
    | some none => apE ms r es
    | some (some k) => ∃ j, CutOf i (markOf ms i.e.a0 i.e.a1) k j ∧ if i.r = [] then ∃ e es', es = e :: es' ∧ EvQ e j.e ∧ apE (setM ms ⟨i.e.a0, i.e.a1, i.e.a3⟩) r es' else apE (setM ms ⟨i.e.a0, i.e.a1, i.e.a3⟩) r es
theorem apS_cons (ms : List Mrk) (ts : List Tal) (i : It) (r : List It) : apS ms ts (i :: r) = match tkO (markOf ms i.e.a0 i.e.a1) i with
    | none => none
    | some none => apS ms (addT ts i.e.a0 dupR i.e.ls.length) r
    | some (some k) => apS (setM ms ⟨i.e.a0, i.e.a1, i.e.a3⟩) (addT (addT ts i.e.a0 dupR (k : Nat)) i.e.a0 i.r ((i.e.ls.length - k : Nat) : Int)) r := rfl
theorem frz_mk {h : Hp} {n0 n1 n : Nat} {l : List Mrk} {d : D} (hd : MkD h n1 l d) (hn : n0 ≤ n1) : SlOf 3 mrkr l (frz n0 h (n + 1) d) := by
  rcases hd with ⟨rfl, rfl | rfl⟩ | ⟨ob, h1, rfl, h3⟩
  · exact .nils _ _
  · exact .inr ⟨true, rfl⟩
  · have ow : Own h n1 ty1006 3 (l.map mrkr) (.msl 3 ob 0 l.length) := .inr ⟨ob, h1, by simp [-Option.bind_some], h3⟩
    exact own_sl ow hn (fun a _ => mrkr_frz _ h _ a)
theorem frz_tl {h : Hp} {n0 n1 n : Nat} {l : List Tal} {d : D} (hd : TlD h n1 l d) (hn : n0 ≤ n1) : SlOf 3 talr l (frz n0 h (n + 1) d) := by
  rcases hd with hd | ⟨ob, h1, rfl, h3⟩
  · rw [slof_frz hd (fun a _ => talr_frz _ h _ a)]; exact hd
  · have ow : Own h n1 ty106 3 (l.map talr) (.msl 3 ob 0 l.length) := .inr ⟨ob, h1, by simp [-Option.bind_some], h3⟩
    exact own_sl ow hn (fun a _ => talr_frz _ h _ a)
theorem evs_of {g : Hp} {n0 n1 : Nat} (hn : n0 ≤ n1) : ∀ (evs : List (Ev × D)), (∀ p ∈ evs, LvF g n1 p.1.fs p.2) → ∃ l : List Ev, l.map evr = (evs.map evl).map (fun row => row.map (frz n0 g 2)) ∧ l.length = evs.length ∧ ∀ (k : Nat) e p, l[k]? = some e → evs[k]? = some p → EvQ e p.1
  | [], _ => ⟨[], rfl, rfl, by simp [-Option.bind_some]⟩
  | p :: r, hp => by
    obtain ⟨l, h1, h2, h3⟩ := evs_of hn r fun q hq => hp q (by simp [-Option.bind_some, hq])
    have hsl := (hp p (by simp [-Option.bind_some])).frz (n := 1) hn
    have hf := slof_frz (n0 := n0) (h := g) (n := 1) p.1.hld (fun a _ => linr_frz _ g _ a)
    refine ⟨{ p.1 with fd := frz n0 g 2 p.2, hfd := hsl } :: l, ?_, by simp [-Option.bind_some, h2], fun k e q he hq => ?_⟩
    · simp only [List.map_cons, h1]
      congr 1
      simp only [evl, List.map_cons, List.map_nil, frz_int, frz_str, hf]
      rfl
    · cases k with
      | zero =>
        simp [-Option.bind_some] at he hq
        subst he; subst hq
        exact ⟨rfl, rfl, rfl, rfl, rfl, rfl, rfl, rfl, rfl, rfl⟩
      | succ k => exact h3 k e q (by simpa [-Option.bind_some] using he) (by simpa [-Option.bind_some] using hq)
/-- Events as they are kept while a batch is applied, against those at its end. -/
def EvsQ (es : List Ev) (evs : List (Ev × D)) : Prop := es.length = evs.length ∧ ∀ (k : Nat) e p, es[k]? = some e → evs[k]? = some p → EvQ e p.1
/-- What applying a batch gives. -/
def ApPost (ms : List Mrk) (ts : List Tal) (dm dt : D) (its : List It) (x : D) : Prop :=
  match apS ms ts its with
  | none => x = .tup [.agg [dm, dt], .nils, .int .i64 23]
  | some (ms', ts') => ∃ dm' dt' de es, x = .tup [.agg [dm', dt'], de, .int .i64 0] ∧ SlOf 3 mrkr ms' dm' ∧ SlOf 3 talr ts' dt' ∧ SlOf 10 evr es de ∧ apE ms its es ∧ es.length ≤ its.length
end Go.Proofs.YtpenlmgmofhbpaaDoor
