/- Laws, on plain data, about functions that the statement reaches. -/
import Derived.Test.YthaajlepgblimaaDoorL2
set_option linter.unusedSimpArgs false
set_option linter.unusedVariables false
set_option linter.unnecessarySimpa false
set_option maxRecDepth 100000
namespace Go.Proofs.YthaajlepgblimaaDoor
open Go.Eng Go.Pi
open Option (bind_some)
theorem mark_wp {n0 w : Nat} {g : Hp} {ms : List Mrk} {ts : List Tal} {evs : List (Ev × D)} {dm dt de : D} (W : WkI n0 w g ms ts evs dm dt de) (hl : ms.length ≤ 100000) (hst fil to_ : Int) {z : Nat} {j : It} (hz : g[z]? = some (.row ty74 11 [itr j])) {β : Type} {f : Hp → Option β} {E : Out → Ex → Option β} {Q : β → Prop}
  (k : ∀ g' dm', WkI n0 w g' (setM ms ⟨hst, fil, to_⟩) ts evs dm' dt de → g'[z]? = some (.row ty74 11 [itr j]) → g.length ≤ g'.length → (∀ q, q < n0 → g'[q]? = g[q]?) → Wp (f g') Q) :
  Wp ((R fn1013 [dm, .int .i64 hst, .int .i64 fil] g).bind fun p81 => (dExtract 0 p81.1).bind fun t82 => (dExtract 1 p81.1).bind fun t83 => (dUn .not t83).bind fun t85 =>
   (dIf t85
    ((dLoad tab p81.2 ty1007 (.ptr w 0 0)).bind fun t91 => (dBuild tab ty1006 [0, 1] [.int .i64 hst, .int .i64 fil]).bind fun t95 => (pLitF tab ty1007 1 [0] [t95]).bind fun t96 => (R fn1098 [t91, t82, t96] p81.2).bind fun p97 => (dStore tab p97.2 ty1007 (.ptr w 0 0) p97.1).bind fun h' => some (Ex.nrm, ([] : List D), h'))
    (some (Ex.nrm, ([] : List D), p81.2))).bind fun r => toEnd r.1
     ((dLoad tab r.2.2 ty1007 (.ptr w 0 0)).bind fun t105 => (dIndexAddr tab ty1007 t105 t82).bind fun t108 => (dFieldAddr tab ty1006 2 t108).bind fun t109 => (dStore tab r.2.2 ty3 t109 (.int .i64 to_)).bind f) (E r)) Q := by
 have hk := kM_le ⟨hst, fil, 0⟩ ms
 have h13 : R fn1013 [dm, .int .i64 hst, .int .i64 fil] g = some (.tup [.int .i64 (kM ⟨hst, fil, 0⟩ ms : Nat), .bool (fndM ms ⟨hst, fil, to_⟩)], g) :=
  (s1013r ms dm hst fil g W.mr.rd (by omega) (kM ⟨hst, fil, 0⟩ ms) hk (kM_lt _ ms) (kM_ge _ ms W.ma)).trans (congrArg (fun b : Bool => some (D.tup [.int .i64 (kM ⟨hst, fil, 0⟩ ms : Nat), .bool b], g)) (fnd0 ms hst fil to_))
 have hkk : kM ⟨hst, fil, to_⟩ ms = kM ⟨hst, fil, 0⟩ ms := kM_key ⟨hst, fil, to_⟩ ⟨hst, fil, 0⟩ rfl rfl ms
 have hset : setM ms ⟨hst, fil, to_⟩ = if fndM ms ⟨hst, fil, to_⟩ = true then ms.set (kM ⟨hst, fil, 0⟩ ms) ⟨hst, fil, to_⟩ else ms.take (kM ⟨hst, fil, 0⟩ ms) ++ [⟨hst, fil, to_⟩] ++ ms.drop (kM ⟨hst, fil, 0⟩ ms) := by
  unfold setM; rw [hkk]
 have hfx : fndM ms ⟨hst, fil, to_⟩ = true → ∃ x, ms[kM ⟨hst, fil, 0⟩ ms]? = some x ∧ x.h = hst ∧ x.f = fil := by
  intro hf
  unfold fndM at hf
  rw [hkk] at hf
  cases hg : ms[kM ⟨hst, fil, 0⟩ ms]? with
  | none => rw [hg] at hf; cases hf
  | some x =>
   rw [hg] at hf
   have := (cmpM_eq x ⟨hst, fil, to_⟩).1 (by simpa using hf)
   exact ⟨x, rfl, this.1, this.2⟩
 have hasc := setM_asc ms ⟨hst, fil, to_⟩ W.ma
 have hlen := setM_len ms ⟨hst, fil, to_⟩
 generalize setM ms ⟨hst, fil, to_⟩ = ms' at hset hasc hlen k
 generalize fndM ms ⟨hst, fil, to_⟩ = fnd at h13 hset hfx
 generalize kM ⟨hst, fil, 0⟩ ms = kk at hk h13 hset hfx
 have hlw : ∀ {g' : Hp} {dm' : D}, g'[w]? = some (.row ty1073 3 [[dm', dt, de]]) → dLoad tab g' ty1007 (.ptr w 0 0) = some dm' := fun hq => by rw [ldp1007, row_of hq]; rfl
 have wl := (List.getElem?_eq_some_iff.1 W.row).1
 have zl := (List.getElem?_eq_some_iff.1 hz).1
 have hwz : w ≠ z := row_ne W.row hz (by decide)
 have hn0 := W.len
 have hwn := W.wn
 simp only [h13, bs, dExtract_tup, List.getElem?_cons_zero, List.getElem?_cons_succ, dUn_not]
 refine Wp.join (P := fun r => ∃ (dm' : D) (g2 : Hp) (ob : Nat) (L : List Mrk) (x : Mrk), r = (.nrm, [], g2) ∧ dm' = .msl 3 ob 0 L.length ∧ n0 ≤ ob ∧ g.length ≤ g2.length ∧ (∀ q, q < n0 → g2[q]? = g[q]?) ∧ g2[w]? = some (.row ty1073 3 [[dm', dt, de]]) ∧ (∀ (q T sz : Nat) (rows : List (List D)), g[q]? = some (Ob.row T sz rows) → T ≠ ty1006 → T ≠ ty1073 → g2[q]? = g[q]?) ∧ g2[ob]? = some (.row ty1006 3 (L.map mrkr)) ∧ L[kk]? = some x ∧ L.set kk ⟨x.h, x.f, to_⟩ = ms') ?_ ?_ ?_
 ·intro hf
  have hf : fnd = false := by simpa using hf
  subst hf
  simp only [Bool.false_eq_true, if_false] at hset
  have hlt : (ms.take kk).length = kk := by simp; omega
  have hL : (ms.take kk ++ [(⟨hst, fil, 0⟩ : Mrk)] ++ ms.drop kk)[kk]? = some ⟨hst, fil, 0⟩ := by
   rw [List.append_assoc, List.getElem?_append_right (by omega), hlt]; simp [-bind_some]
  have hsetL : (ms.take kk ++ [(⟨hst, fil, 0⟩ : Mrk)] ++ ms.drop kk).set kk ⟨hst, fil, to_⟩ = ms' := by
   rw [hset, List.append_assoc, List.set_append_right _ _ (by omega), hlt]; simp [-bind_some]
  have hlenL : (ms.take kk ++ [(⟨hst, fil, 0⟩ : Mrk)] ++ ms.drop kk).length = ms.length + 1 := by simp; omega
  have hmap : (ms.take kk ++ [(⟨hst, fil, 0⟩ : Mrk)] ++ ms.drop kk).map mrkr = (ms.map mrkr).take kk ++ [[.int .i64 hst, .int .i64 fil, .int .i64 0]] ++ (ms.map mrkr).drop kk := by
   rw [List.map_append, List.map_append, List.map_take, List.map_drop]; rfl
  have hz3 : ti1006.sz = 3 := rfl
  have hlim : lim (ms.length + 1) ti1006.by_ = true := lim1006 (by omega)
  have hlim1 : lim 1 ti1006.by_ = true := lim1006 (by omega)
  have hbd : dBuild tab ty1006 [0, 1] [.int .i64 hst, .int .i64 fil] = some (.agg [.int .i64 hst, .int .i64 fil, .int .i64 0]) := id rfl
  simp only [hlw W.row, hbd, bs1007_1, bs, xins1098]
  rcases W.mr with ⟨hms, hdd⟩ | ⟨ob, hob, hdm, ho⟩
  ·subst hms
   have hk0 : kk = 0 := by simpa using hk
   subst hk0
   have hi : dIns ty1006 ti1006 [dm, .int .i64 ((0 : Nat) : Int), .sl 3 true [[.int .i64 hst, .int .i64 fil, .int .i64 0]]] g = some (.msl 3 g.length 0 1, dNew g ty1006 3 [[.int .i64 hst, .int .i64 fil, .int .i64 0]]) := by
    rcases hdd with rfl | rfl <;> simp [-bind_some, dIns, hz3, hlim1]
   rw [hi]
   simp only [bs]
   refine wst1007 (off := 0) ((dNew_old _ _ _ _ wl).trans W.row) rfl rfl (by simp) rfl fun g3 q3 s3 => ?_
   replace q3 : g3[w]? = some (.row ty1073 3 [[.msl 3 g.length 0 1, dt, de]]) := q3
   have gl : (dNew g ty1006 3 [[.int .i64 hst, .int .i64 fil, .int .i64 0]]).length = g.length + 1 := by simp [-bind_some, dNew]
   refine .some ⟨_, g3, g.length, [⟨hst, fil, 0⟩], ⟨hst, fil, 0⟩, rfl, rfl, hn0, by rw [s3.1, gl]; omega, fun q hq => (s3.2 q (by omega)).trans (dNew_old _ _ _ _ (by omega)), q3, fun q T sz rows hq h1 h2 => ?_, (s3.2 _ (by omega)).trans (dNew_get _ _ _ _), rfl, by simpa using hsetL⟩
   exact (s3.2 q (row_ne hq W.row h2)).trans (dNew_old _ _ _ _ (List.getElem?_eq_some_iff.1 hq).1)
  ·have hkl : (kk : Int) ≤ (ms.length : Int) := by omega
   have hi : dIns ty1006 ti1006 [dm, .int .i64 (kk : Int), .sl 3 true [[.int .i64 hst, .int .i64 fil, .int .i64 0]]] g = some (.msl 3 g.length 0 (ms.length + 1), dNew (g.set ob .dead) ty1006 3 ((ms.map mrkr).take kk ++ [[.int .i64 hst, .int .i64 fil, .int .i64 0]] ++ (ms.map mrkr).drop kk)) := by
    subst hdm
    simp [-bind_some, dIns, hz3, hlim, ho, hkl]
   rw [hi]
   simp only [bs]
   have hwo : w ≠ ob := row_ne W.row ho (by decide)
   have old : ∀ q, q < g.length → q ≠ ob → (dNew (g.set ob .dead) ty1006 3 ((ms.map mrkr).take kk ++ [[.int .i64 hst, .int .i64 fil, .int .i64 0]] ++ (ms.map mrkr).drop kk))[q]? = g[q]? := fun q hq hn => by
    rw [dNew_old _ _ _ _ (by simpa using hq), List.getElem?_set_ne (Ne.symm hn)]
   refine wst1007 (off := 0) ((old w wl hwo).trans W.row) rfl rfl (by simp) rfl fun g3 q3 s3 => ?_
   replace q3 : g3[w]? = some (.row ty1073 3 [[.msl 3 g.length 0 (ms.length + 1), dt, de]]) := q3
   have gl : (dNew (g.set ob .dead) ty1006 3 ((ms.map mrkr).take kk ++ [[.int .i64 hst, .int .i64 fil, .int .i64 0]] ++ (ms.map mrkr).drop kk)).length = g.length + 1 := by simp [-bind_some, dNew]
   have hnew := dNew_get (g.set ob .dead) ty1006 3 ((ms.map mrkr).take kk ++ [[.int .i64 hst, .int .i64 fil, .int .i64 0]] ++ (ms.map mrkr).drop kk)
   rw [List.length_set, ← hmap] at hnew
   refine .some ⟨_, g3, g.length, ms.take kk ++ [⟨hst, fil, 0⟩] ++ ms.drop kk, ⟨hst, fil, 0⟩, rfl, by rw [hlenL], hn0, by rw [s3.1, gl]; omega, fun q hq => (s3.2 q (by omega)).trans (old q (by omega) (by omega)), q3, fun q T sz rows hq h1 h2 => ?_, (s3.2 _ (by omega)).trans (by rw [← hmap]; exact hnew), hL, hsetL⟩
   exact (s3.2 q (row_ne hq W.row h2)).trans (old q (List.getElem?_eq_some_iff.1 hq).1 (row_ne hq ho h1))
 ·intro hf
  have hf : fnd = true := by simpa using hf
  subst hf
  obtain ⟨x, hx, hx1, hx2⟩ := hfx rfl
  simp only [if_true] at hset
  rcases W.mr with ⟨hms, _⟩ | ⟨ob, hob, hdm, ho⟩
  ·subst hms; simp at hx
  ·exact .some ⟨dm, g, ob, ms, x, rfl, hdm, hob, Nat.le_refl _, fun _ _ => rfl, W.row, fun _ _ _ _ _ _ _ => rfl, ho, hx, by rw [hx1, hx2, hset]⟩
 rintro _ ⟨dm', g2, ob, L, x, rfl, rfl, hob, hl2, hb2, hw2, hk2, ho, hx, hfin⟩
 have hkL : kk < L.length := (List.getElem?_eq_some_iff.1 hx).1
 have hkl2 : (0 : Int) ≤ (kk : Int) ∧ (kk : Int) < (L.length : Int) := by omega
 have hr : (L.map mrkr)[kk]? = some (mrkr x) := by rw [List.getElem?_map, hx]; rfl
 simp only [toEnd_nrm, hlw hw2, bs, ixm1007, hkl2, and_self, if_true, fap1006_2, Int.toNat_natCast, Nat.zero_add]
 refine wst3 (off := 2) ho hr rfl (by simp [-bind_some, mrkr]) rfl fun g3 q3 s3 => ?_
 have hset3 : (L.map mrkr).set kk (spl (mrkr x) 2 (cells1 (.int .i64 to_))) = ms'.map mrkr := by
  rw [← hfin, List.map_set]; rfl
 rw [hset3] at q3
 have hlenL : L.length = ms'.length := by rw [← hfin]; simp [-bind_some]
 have hwo : w ≠ ob := row_ne hw2 ho (by decide)
 have kp : ∀ (q T sz : Nat) (rows : List (List D)), g[q]? = some (Ob.row T sz rows) → T ≠ ty1006 → T ≠ ty1073 → g3[q]? = g[q]? := fun q T sz rows hq h1 h2 => by
  have e := hk2 q T sz rows hq h1 h2
  exact (s3.2 q (row_ne (e.trans hq) ho h1)).trans e
 refine k g3 _ ⟨by have := s3.1; omega, hwn, (s3.2 w hwo).trans hw2, .inr ⟨ob, hob, by rw [hlenL], q3⟩, W.tl.imp id fun ⟨ob', a, b, c⟩ => ⟨ob', a, b, (kp _ _ _ _ c (by decide) (by decide)).trans c⟩, ?_, fun p hp => ?_, hasc, W.ta⟩ ((kp z _ _ _ hz (by decide) (by decide)).trans hz) (by have := s3.1; omega) (fun q hq => (s3.2 q (by omega)).trans (hb2 q hq))
 ·rcases W.ev with h | ⟨ob', a, b, c⟩
  ·exact .inl h
  ·exact .inr ⟨ob', a, b, (kp _ _ _ _ c (by decide) (by decide)).trans c⟩
 ·rcases W.fs p hp with h | ⟨ob', a, b, c⟩
  ·exact .inl h
  ·exact .inr ⟨ob', a, b, (kp _ _ _ _ c (by decide) (by decide)).trans c⟩
def evLd (e : Ev) (d : D) (hd : SlOf 3 linr e.ls d) : Ev := { e with ld := d, hld := hd }
theorem ev_wp {n0 w : Nat} {g : Hp} {ms : List Mrk} {ts : List Tal} {evs : List (Ev × D)} {dm dt de : D} (W : WkI n0 w g ms ts evs dm dt de) (hle : evs.length ≤ 100000) {z : Nat} {j : It} (hz : g[z]? = some (.row ty74 11 [itr j])) (hn : j.e.ls.length ≤ 1000) (hf : j.e.fs.length ≤ 1000) {β : Type} {f : D → Hp → Option β} {Q : β → Prop}
  (k : ∀ g' p de' d hd x, WkI n0 w g' ms ts (evs ++ [(evLd j.e d hd, x)]) dm dt de' → g.length ≤ g'.length → (∀ q, q < n0 → g'[q]? = g[q]?) → Wp (f p g') Q) :
  Wp ((dFieldAddr tab ty74 1 (.ptr z 0 0)).bind fun t122 =>
  (dLoad tab g ty31 t122).bind fun t123 =>
  (some ((.ptr g.length 0 0 : D), dNew g ty31 10 [[.int .i64 0, .int .i64 0, .int .i64 0, .int .i64 0, .nils, .int .i64 0, .int .i64 0, .str [], .str [], .nils]])).bind fun p14 =>
  ((dStore tab p14.2 ty31 p14.1 t123).bind fun h' => some ((.und : D), h')).bind fun p903 =>
  (dFieldAddr tab ty31 4 p14.1).bind fun t124 =>
  (dLoad tab p903.2 ty28 t124).bind fun t125 =>
  (R fn1008 [t125] p903.2).bind fun p126 =>
  (dFieldAddr tab ty31 9 p14.1).bind fun t127 =>
  (dLoad tab p126.2 ty29 t127).bind fun t128 =>
  (R fn1009 [t128] p126.2).bind fun p129 =>
  (dFieldAddr tab ty31 4 p14.1).bind fun t130 =>
  chk (dLoad tab p903.2 ty29 t127 = some t128)
  (((dStore tab p129.2 ty28 t130 p126.1).bind fun h' => some ((.und : D), h')).bind fun p907 =>
  (dFieldAddr tab ty31 9 p14.1).bind fun t131 =>
  ((dStore tab p907.2 ty29 t131 p129.1).bind fun h' => some ((.und : D), h')).bind fun p909_1 =>
  (dFieldAddr tab ty1073 1 (.ptr w 0 0)).bind fun t135 =>
  (dLoad tab p909_1.2 ty40 t135).bind fun t136 =>
  (dLoad tab p909_1.2 ty31 p14.1).bind fun t137 =>
  (pLitF tab ty40 1 [0] [t137]).bind fun t138 =>
  (dAppend tab p909_1.2 ty40 ty40 t136 t138).bind fun p139 =>
  (dFieldAddr tab ty1073 1 (.ptr w 0 0)).bind fun t141 =>
  ((dStore tab p139.2 ty40 t141 p139.1).bind fun h' => some ((.und : D), h')).bind fun p910 =>
  f p14.1 p910.2)) Q := by
 have wl := (List.getElem?_eq_some_iff.1 W.row).1
 have hn0 := W.len
 have hwn := W.wn
 have hld : dLoad tab g ty31 (.ptr z 0 (0 + 1)) = some (.agg (evr j.e)) := by rw [ldp31, row_of hz]; rfl
 have hz5 : ∀ r0 r1 r2 r3 : D, True := fun _ _ _ _ => trivial
 generalize hZ : ([.int .i64 0, .int .i64 0, .int .i64 0, .int .i64 0, .nils, .int .i64 0, .int .i64 0, .str [], .str [], .nils] : List D) = Z
 have hZl : Z.length = 10 := by subst hZ; rfl
 simp only [fap74_1, hld, bs, Option.bind_assoc]
 have hold : ∀ q, q < g.length → (dNew g ty31 10 [Z])[q]? = g[q]? := fun q hq => dNew_old _ _ _ _ hq
 have hpp : (dNew g ty31 10 [Z])[g.length]? = some (.row ty31 10 [Z]) := dNew_get _ _ _ _
 have hpl : (dNew g ty31 10 [Z]).length = g.length + 1 := by simp [-bind_some, dNew]
 generalize dNew g ty31 10 [Z] = g1 at hold hpp hpl
 have W1 := W.new (g' := g1) (by omega) hold
 generalize hP : List.length g = P at hpp hpl
 have hwP : w ≠ P := by omega
 have evo : ∀ {q : Nat} {rows : List (List D)}, g[q]? = some (.row ty31 10 rows) → q ≠ P := fun hq => by have := (List.getElem?_eq_some_iff.1 hq).1; omega
 have dob : ¬ de.inOb P := fun hh => by have := (W.ev.lt hh).2; omega
 have hokv : (D.agg (evr j.e)).okv = true := by
  have o1 := slof_one j.e.hld
  have o2 := slof_one j.e.hfd
  have o3 : D.agg (evr j.e) = .agg [.int .i64 j.e.a0, .int .i64 j.e.a1, .int .i64 j.e.a2, .int .i64 j.e.a3, j.e.ld, .int .i64 j.e.a5, .int .i64 j.e.a6, .str j.e.s7, .str j.e.s8, j.e.fd] := rfl
  rw [o3]
  generalize j.e.ld = a at o1
  generalize j.e.fd = b at o2
  cases a <;> first | (cases b <;> first | rfl | (simp [-bind_some, D.one] at o2)) | (simp [-bind_some, D.one] at o1)
 refine wst31 hpp (by rfl) (by rfl) (by rw [hZl]; exact Nat.le_refl _) hokv fun g2 q2 s2 => ?_
 replace q2 : g2[P]? = some (.row ty31 10 [[.int .i64 j.e.a0, .int .i64 j.e.a1, .int .i64 j.e.a2, .int .i64 j.e.a3, j.e.ld, .int .i64 j.e.a5, .int .i64 j.e.a6, .str j.e.s7, .str j.e.s8, j.e.fd]]) := by
  rw [q2]; subst hZ; rfl
 obtain ⟨y1, h1, hy1⟩ := s1008 j.e.ls j.e.ld g2 j.e.hld (by omega)
 obtain ⟨y2, g3, h2, hl3, hb3, hy2⟩ := u1009 j.e.fs j.e.fd g2 j.e.hfd (by omega)
 have l4 : dLoad tab g2 ty28 (.ptr P 0 (0 + 4)) = some j.e.ld := by rw [ldp28, row_of q2]; rfl
 have l9 : dLoad tab g2 ty29 (.ptr P 0 (0 + 9)) = some j.e.fd := by rw [ldp29, row_of q2]; rfl
 simp only [bs, fap31_4, fap31_9, l4, h1, l9, h2]
 refine Wp.chk trivial ?_
 have hPl2 := (List.getElem?_eq_some_iff.1 q2).1
 have q3 := (hb3 P hPl2).trans q2
 have oc1 := one_cells (slof_one hy1)
 refine wst28 q3 (by rfl) (by rw [oc1.1]; rfl) (by simp) oc1.2 fun g4 q4 s4 => ?_
 rw [oc1.1] at q4
 try simp only [bs]
 have hlv : LvF g3 g2.length j.e.fs y2 := hy2
 have oc2 := one_cells hlv.one
 refine wst29 q4 (by rfl) (by rw [oc2.1]; rfl) (by simp [-bind_some, spl]) oc2.2 fun g5 q5 s5 => ?_
 rw [oc2.1] at q5
 replace q5 : g5[P]? = some (.row ty31 10 [evl (evLd j.e y1 hy1, y2)]) := q5
 have hP5 : ∀ q, q ≠ P → q < g2.length → g5[q]? = g1[q]? := fun q hq hlt => (s5.2 q hq).trans ((s4.2 q hq).trans ((hb3 q hlt).trans (s2.2 q hq)))
 have hg2 : g2.length = P + 1 := by rw [s2.1, hpl]
 have hg5 : g5.length = g3.length := by rw [s5.1, s4.1]
 have hlv5 : LvF g5 n0 j.e.fs y2 := by
  rcases hlv with h | ⟨ob, a, b, c⟩
  ·exact .inl h
  ·exact .inr ⟨ob, by omega, b, (s5.2 ob (by omega)).trans ((s4.2 ob (by omega)).trans c)⟩
 have W5 : WkI n0 w g5 ms ts evs dm dt de := W.new (by omega) fun q hq => (hP5 q (by omega) (by omega)).trans (hold q (by omega))
 have lw : dLoad tab g5 ty40 (.ptr w 0 (0 + 2)) = some de := by rw [ldp40, row_of W5.row]; rfl
 have lP : dLoad tab g5 ty31 (.ptr P 0 0) = some (.agg (evl (evLd j.e y1 hy1, y2))) := by
  rw [ldp31, row_of q5]; rfl
 have hbs : pLitF tab ty40 1 [0] [.agg (evl (evLd j.e y1 hy1, y2))] = some (.sl 10 true [evl (evLd j.e y1 hy1, y2)]) := id rfl
 simp only [bs, fap1073_1, lw, lP, hbs]
 refine wap40 W5.len W5.ev (rowsOf_sl _ _ _ _) (by simp; omega) fun x' g6 ow len6 bel6 keep6 fre6 => ?_
 try simp only [bs]
 have hw5 := (List.getElem?_eq_some_iff.1 W5.row).1
 have oc3 := one_cells (own_one ow)
 have hdw : ¬ de.inOb w := own_ne W5.ev W5.row (by decide)
 refine wst40 ((keep6 w hw5 hdw).trans W5.row) (by rfl) (by rw [oc3.1]; rfl) (by simp) oc3.2 fun g7 q7 s7 => ?_
 rw [oc3.1] at q7
 replace q7 : g7[w]? = some (.row ty1073 3 [[dm, dt, x']]) := q7
 try simp only [bs]
 have kp : ∀ (q T sz : Nat) (rows : List (List D)), g5[q]? = some (Ob.row T sz rows) → T ≠ ty31 → T ≠ ty1073 → g7[q]? = g5[q]? := fun q T sz rows hq t1 t2 =>
  (s7.2 q (row_ne hq W5.row t2)).trans (keep6 q (List.getElem?_eq_some_iff.1 hq).1 (own_ne W5.ev hq (Ne.symm t1)))
 refine k g7 _ x' y1 hy1 y2 ⟨by have := s7.1; have := W5.len; omega, hwn, q7, ?_, W5.tl.imp id fun ⟨ob, a, b, c⟩ => ⟨ob, a, b, (kp _ _ _ _ c (by decide) (by decide)).trans c⟩, ?_, fun p hp => ?_, W.ma, W.ta⟩ (by have := s7.1; omega) (fun q hq => (s7.2 q (by omega)).trans ((bel6 q hq).trans ((hP5 q (by omega) (by omega)).trans (hold q (by omega)))))
 ·rcases W5.mr with h | ⟨ob, a, b, c⟩
  ·exact .inl h
  ·exact .inr ⟨ob, a, b, (kp _ _ _ _ c (by decide) (by decide)).trans c⟩
 ·rw [List.map_append]
  rcases ow with h | ⟨ob, a, b, c⟩
  ·exact .inl h
  ·exact .inr ⟨ob, a, b, (s7.2 ob (by
     have hw6 := (keep6 w hw5 hdw).trans W5.row
     exact row_ne c hw6 (by decide))).trans c⟩
 ·have kk : ∀ {l : List (Str × Str)} {d : D}, LvF g5 n0 l d → LvF g7 n0 l d := fun hd => by
    rcases hd with h | ⟨ob, a, b, c⟩
    ·exact .inl h
    ·exact .inr ⟨ob, a, b, (kp _ _ _ _ c (by decide) (by decide)).trans c⟩
  rcases List.mem_append.1 hp with hp | hp
  ·exact kk (W5.fs p hp)
  ·simp only [List.mem_singleton] at hp
   subst hp
   exact kk hlv5
theorem wpConv {α : Type} {x y : Option α} {Q : α → Prop} (h : x = y) (hx : Wp x Q) : Wp y Q := h ▸ hx
def TkPost (n0 w : Nat) (ms : List Mrk) (ts : List Tal) (evs : List (Ev × D)) (dm dt de : D) (i : It) (b : Bool) (g' : Hp) : Prop :=
 match tkO (markOf ms i.e.a0 i.e.a1) i with
 | none => b = false
 | some none => b = true ∧ ∃ dt', WkI n0 w g' ms (addT ts i.e.a0 dupR i.e.ls.length) evs dm dt' de
 | some (some k) => b = true ∧ ∃ j dm' dt' de' evs', CutOf i (markOf ms i.e.a0 i.e.a1) k j ∧ WkI n0 w g' (setM ms ⟨i.e.a0, i.e.a1, i.e.a3⟩) (addT (addT ts i.e.a0 dupR k) i.e.a0 i.r j.e.ls.length) evs' dm' dt' de' ∧
   if i.r = [] then ∃ d hd x, evs' = evs ++ [(evLd j.e d hd, x)] else evs' = evs
theorem s1096 {n0 w : Nat} {g : Hp} {ms : List Mrk} {ts : List Tal} {evs : List (Ev × D)} {dm dt de : D} (W : WkI n0 w g ms ts evs dm dt de) (hlm : ms.length ≤ 100000) (hlt : ts.length ≤ 100000) (hle : evs.length ≤ 100000) (i : It) (hn : i.e.ls.length ≤ 1000) (hf : i.e.fs.length ≤ 1000) :
  ∃ (b : Bool) (g' : Hp), R fn1096 [.ptr w 0 0, .agg (itr i)] g = some (.bool b, g') ∧ g.length ≤ g'.length ∧ (∀ q, q < n0 → g'[q]? = g[q]?) ∧ TkPost n0 w ms ts evs dm dt de i b g' := by
 suffices Wp (R fn1096 [.ptr w 0 0, .agg (itr i)] g) (fun p => ∃ b : Bool, p.1 = .bool b ∧ g.length ≤ p.2.length ∧ (∀ q, q < n0 → p.2[q]? = g[q]?) ∧ TkPost n0 w ms ts evs dm dt de i b p.2) by
  obtain ⟨⟨x, g'⟩, h1, b, rfl, h2⟩ := this
  exact ⟨b, g', h1, h2⟩
 rw [e1096]
 have hn0 := W.len
 have hwn := W.wn
 have wl := (List.getElem?_eq_some_iff.1 W.row).1
 simp only [F1096]
 rw [wBox_agg ty74 11 g (itr i) rfl (by omega)]
 have hold : ∀ q, q < g.length → (dNew g ty74 11 [itr i])[q]? = g[q]? := fun q hq => dNew_old _ _ _ _ hq
 have hz : (dNew g ty74 11 [itr i])[g.length]? = some (.row ty74 11 [itr i]) := dNew_get _ _ _ _
 have hzl : (dNew g ty74 11 [itr i]).length = g.length + 1 := by simp [-bind_some, dNew]
 have W1 := W.new (g' := dNew g ty74 11 [itr i]) (by omega) hold
 generalize dNew g ty74 11 [itr i] = g1 at hold hz hzl W1
 generalize hZ : List.length g = z at hz hzl
 have l0 : dLoad tab g1 ty3 (.ptr z 0 (0 + 1 + 0)) = some (.int .i64 i.e.a0) := by rw [ldp3, row_of hz]; rfl
 have l1 : dLoad tab g1 ty3 (.ptr z 0 (0 + 1 + 1)) = some (.int .i64 i.e.a1) := by rw [ldp3, row_of hz]; rfl
 have l2 : dLoad tab g1 ty3 (.ptr z 0 (0 + 1 + 2)) = some (.int .i64 i.e.a2) := by rw [ldp3, row_of hz]; rfl
 have l3 : dLoad tab g1 ty3 (.ptr z 0 (0 + 1 + 3)) = some (.int .i64 i.e.a3) := by rw [ldp3, row_of hz]; rfl
 have l4 : dLoad tab g1 ty28 (.ptr z 0 (0 + 1 + 4)) = some i.e.ld := by rw [ldp28, row_of hz]; rfl
 have lI : dLoad tab g1 ty1009 (.ptr w 0 (0 + 0)) = some (.agg [dm, dt]) := by rw [ldp1009, row_of W1.row]; rfl
 have hmk := s1005r ms dm dt i.e.a0 i.e.a1 g1 W1.mr.rd (by omega) W.ma
 unfold TkPost
 generalize hM : markOf ms i.e.a0 i.e.a1 = m at hmk
 have hsm : ∀ {g2 g3 : Hp}, Same w g2 g3 → (∀ q, q < n0 → g2[q]? = g[q]?) → ∀ q, q < n0 → g3[q]? = g[q]? := fun s h q hq => (s.2 q (by omega)).trans (h q hq)
 have h1b : ∀ q, q < n0 → g1[q]? = g[q]? := fun q hq => hold q (by omega)
 simp only [bs, fap74_1, fap31_0, fap31_1, fap31_2, fap31_3, fap31_4, l0, l1, l2, l3, l4, nilCheck_ptr, fap1073_0, lI, hmk, lens28 i.e.hld, dBin_leq]
 refine Wp.chk trivial ?_
 refine Wp.dif ?_ ?_
 ·intro hle2
  have hle2 : i.e.a3 ≤ m := by simpa using hle2
  have hO : tkO m i = some none := by unfold tkO; rw [if_pos hle2]
  obtain ⟨dt', g2, e2, q2, hd2, s2⟩ := s1097 W1.row W1.tl.rd (by omega) W.ta i.e.a0 dupR (i.e.ls.length : Int)
  have e2 : R fn1097 [.ptr w 0 0, .int .i64 i.e.a0, .str [42], .int .i64 i.e.ls.length] g1 = some (.tup [], g2) := e2
  refine Wp.step e2 ?_
  simp only [bs, mkRes_one]
  refine .some ⟨true, rfl, by have := s2.1; show z ≤ g2.length; omega, hsm s2 h1b, ?_⟩
  rw [hO]
  exact ⟨rfl, dt', W1.chg W1.row (by decide) (by decide) (by decide) s2 q2 (.inl hd2) (addT_asc W.ta _ _ _)⟩
 intro hle2
 have hle2 : ¬ i.e.a3 ≤ m := by simpa using hle2
 simp only [bs, dBin_gtr]
 refine Wp.dif ?_ ?_
 ·intro hgt
  have hgt : m < i.e.a2 := by simpa using hgt
  have hO : tkO m i = none := by unfold tkO; rw [if_neg hle2, if_pos hgt]
  simp only [bs, mkRes_one]
  refine .some ⟨false, rfl, by show z ≤ g1.length; omega, h1b, ?_⟩
  rw [hO]
 intro hgt
 have hgt : ¬ m < i.e.a2 := by simpa using hgt
 simp only [bs, dBin_lss]
 -- the lines before the mark
 refine Wp.join (P := fun r => (∃ (g2 : Hp) (a b c : D), r = (.ret, [.bool false, a, b, c], g2) ∧ g.length ≤ g2.length ∧ (∀ q, q < n0 → g2[q]? = g[q]?) ∧ tkO m i = none) ∨
   (∃ g2 j k dt' a b c, r = (.nrm, [.bool false, a, b, c], g2) ∧ g.length ≤ g2.length ∧ (∀ q, q < n0 → g2[q]? = g[q]?) ∧ tkO m i = some (some k) ∧ CutOf i m k j ∧ g2[z]? = some (.row ty74 11 [itr j]) ∧ WkI n0 w g2 ms (addT ts i.e.a0 dupR (k : Nat)) evs dm dt' de)) ?_ ?_ ?_
 ·intro hlt2
  have hlt2 : i.e.a2 < m := by simpa using hlt2
  obtain ⟨j, ec, hc⟩ := s1002u i m g1 (by omega) (by omega)
  simp only [ldIt0 hz, bs]
  refine Wp.step ec ?_
  simp only [bs, dExtract_tup, List.getElem?_cons_zero, List.getElem?_cons_succ, boxIt, dUn_not]
  generalize hK : idx (fun l : Lin => decide (l.off = m)) 0 i.e.ls = kk at hc
  have hkr := idx_range (fun l : Lin => decide (l.off = m)) i.e.ls 0
  rw [hK] at hkr
  refine Wp.dif ?_ ?_
  ·intro hk1
   have hk1 : kk < 1 := by simpa using hk1
   try simp only [bs]
   exact .some (.inl ⟨g1, _, _, _, rfl, by omega, h1b, by unfold tkO; rw [if_neg hle2, if_neg hgt, if_pos hlt2, hK, if_pos hk1]⟩)
  ·intro hk1
   have hk1 : ¬ kk < 1 := by simpa using hk1
   rw [if_neg hk1] at hc
   have hkn : kk < i.e.ls.length := by
    rcases hkr with h | ⟨_, h⟩
    ·exact absurd h hk1
    ·simpa using h
   simp only [ldIt, bs, Option.bind_assoc]
   refine put_it hz rfl fun g2 hz2 s2 => ?_
   have hwz : w ≠ z := row_ne W1.row hz (by decide)
   have W2 := W1.chg0 hz (by decide) (by decide) (by decide) (by decide) s2 ((s2.2 w hwz).trans W1.row)
   have h2b : ∀ q, q < n0 → g2[q]? = g[q]? := fun q hq => (s2.2 q (by omega)).trans (h1b q hq)
   have l5 : dLoad tab g2 ty28 (.ptr z 0 (0 + 1 + 4)) = some j.e.ld := by rw [ldp28, row_of hz2]; rfl
   have hjl : j.e.ls.length = i.e.ls.length - kk.toNat := by rw [hc.ls, List.length_drop]
   have hw3 : IntKind.wrap .i64 ((i.e.ls.length : Int) - (j.e.ls.length : Int)) = ((kk.toNat : Nat) : Int) := by
    rw [wrap_i64 (by omega) (by omega)]; omega
   obtain ⟨dt', g3, e3, q3, hd3, s3⟩ := s1097 W2.row W2.tl.rd (by omega) W.ta i.e.a0 dupR (kk.toNat : Int)
   have e3 : R fn1097 [.ptr w 0 0, .int .i64 i.e.a0, .str [42], .int .i64 (kk.toNat : Int)] g2 = some (.tup [], g3) := e3
   simp only [bs, fap74_1, fap31_4, l5, lens28 j.e.hld, dBin_sub, hw3]
   refine Wp.step e3 ?_
   have W3 := W2.chg W2.row (by decide) (by decide) (by decide) s3 q3 (.inl hd3) (addT_asc W.ta _ _ _)
   refine .some (.inr ⟨g3, j, kk.toNat, dt', _, _, _, rfl, by have := s3.1; have := s2.1; omega, hsm s3 h2b, by unfold tkO; rw [if_neg hle2, if_neg hgt, if_pos hlt2, hK, if_neg hk1], hc, (s3.2 z (Ne.symm hwz)).trans hz2, W3⟩)
 ·intro hlt2
  have hlt2 : ¬ i.e.a2 < m := by simpa using hlt2
  have ha : addT ts i.e.a0 dupR ((0 : Nat) : Int) = ts := by simp [-bind_some, addT]
  refine .some (.inr ⟨g1, i, 0, dt, _, _, _, rfl, by omega, h1b, by unfold tkO; rw [if_neg hle2, if_neg hgt, if_neg hlt2], ⟨rfl, rfl, rfl, by omega, rfl, rfl, rfl, rfl, rfl, by simp, rfl⟩, hz, by rw [ha]; exact W1⟩)
 rintro _ (⟨g2, a, b, c, rfl, hl2, h2b, hO⟩ | ⟨g2, j, k, dt', a, b, c, rfl, hl2, h2b, hO, hc, hz2, W2⟩)
 ·simp only [unblk_ret, toEnd_ret, exEnd_ret, nth_zero, bs, mkRes_one]
  refine .some ⟨false, rfl, by show z ≤ g2.length; omega, h2b, ?_⟩
  rw [hO]
 have lJ : dLoad tab g2 ty1007 (.ptr w 0 (0 + 0 + 0)) = some dm := by rw [ldp1007, row_of W2.row]; rfl
 have hal := addT_len ts i.e.a0 dupR (k : Nat)
 simp only [unblk_nrm, toEnd_nrm, nth_zero, bs, fap1009_0, lJ, Option.bind_assoc]
 refine wpConv ?_ (mark_wp W2 hlm i.e.a0 i.e.a1 i.e.a3 hz2 (f := fun g' =>
  (dLoad tab g' ty9 (.ptr z 0 (0 + 0))).bind fun t113 =>
  (dLoad tab g' ty28 (.ptr z 0 (0 + 1 + 4))).bind fun t116 =>
  (dLenT tab ty28 t116).bind fun t117 =>
  (R fn1097 [.ptr w 0 0, .int .i64 i.e.a0, t113, t117] g').bind fun p118 =>
  (dLoad tab p118.2 ty9 (.ptr z 0 (0 + 0))).bind fun t120 =>
  (dBin tab .eql ty9 t120 (.str [])).bind fun t121 =>
  (dIf t121
   ((dFieldAddr tab ty74 1 (.ptr z 0 0)).bind fun t122 =>
  (dLoad tab p118.2 ty31 t122).bind fun t123 =>
  (some ((.ptr p118.2.length 0 0 : D), dNew p118.2 ty31 10 [[.int .i64 0, .int .i64 0, .int .i64 0, .int .i64 0, .nils, .int .i64 0, .int .i64 0, .str [], .str [], .nils]])).bind fun p14 =>
  ((dStore tab p14.2 ty31 p14.1 t123).bind fun h' => some ((.und : D), h')).bind fun p903 =>
  (dFieldAddr tab ty31 4 p14.1).bind fun t124 =>
  (dLoad tab p903.2 ty28 t124).bind fun t125 =>
  (R fn1008 [t125] p903.2).bind fun p126 =>
  (dFieldAddr tab ty31 9 p14.1).bind fun t127 =>
  (dLoad tab p126.2 ty29 t127).bind fun t128 =>
  (R fn1009 [t128] p126.2).bind fun p129 =>
  (dFieldAddr tab ty31 4 p14.1).bind fun t130 =>
  chk (dLoad tab p903.2 ty29 t127 = some t128)
  (((dStore tab p129.2 ty28 t130 p126.1).bind fun h' => some ((.und : D), h')).bind fun p907 =>
  (dFieldAddr tab ty31 9 p14.1).bind fun t131 =>
  ((dStore tab p907.2 ty29 t131 p129.1).bind fun h' => some ((.und : D), h')).bind fun p909_1 =>
  (dFieldAddr tab ty1073 1 (.ptr w 0 0)).bind fun t135 =>
  (dLoad tab p909_1.2 ty40 t135).bind fun t136 =>
  (dLoad tab p909_1.2 ty31 p14.1).bind fun t137 =>
  (pLitF tab ty40 1 [0] [t137]).bind fun t138 =>
  (dAppend tab p909_1.2 ty40 ty40 t136 t138).bind fun p139 =>
  (dFieldAddr tab ty1073 1 (.ptr w 0 0)).bind fun t141 =>
  ((dStore tab p139.2 ty40 t141 p139.1).bind fun h' => some ((.und : D), h')).bind fun p910 =>
  some (Ex.nrm, [p14.1], p910.2)))
   (some (Ex.nrm, [D.any], p118.2))).bind fun r_2 => toEnd r_2.1 (some (D.bool true, r_2.2.2)) fun x => exEnd x (some (D.bool false, r_2.2.2))) (E := fun r x => exEnd x (some (D.bool false, r.2.2))) ?_)
 ·simp only [bs, Option.bind_assoc, nilCheck_ptr, fap1073_0, fap1073_1, fap1009_0, fap74_0, fap74_1, fap31_4, fap31_9, Nat.zero_add, Nat.add_zero, mkRes_one]
 ·intro g3 dm' W3 hz3 hl3 h3b
  have r0 : dLoad tab g3 ty9 (.ptr z 0 (0 + 0)) = some (.str j.r) := by rw [ldp9, row_of hz3]; rfl
  have r4 : dLoad tab g3 ty28 (.ptr z 0 (0 + 1 + 4)) = some j.e.ld := by rw [ldp28, row_of hz3]; rfl
  obtain ⟨dt2, g4, e4, q4, hd4, s4⟩ := s1097 W3.row W3.tl.rd (by omega) W3.ta i.e.a0 j.r (j.e.ls.length : Int)
  have W4 := W3.chg W3.row (by decide) (by decide) (by decide) s4 q4 (.inl hd4) (addT_asc W3.ta _ _ _)
  have hwz : w ≠ z := row_ne W3.row hz3 (by decide)
  have hz4 := (s4.2 z (Ne.symm hwz)).trans hz3
  have r5 : dLoad tab g4 ty9 (.ptr z 0 (0 + 0)) = some (.str j.r) := by rw [ldp9, row_of hz4]; rfl
  have hjl : j.e.ls.length ≤ i.e.ls.length := by rw [hc.ls, List.length_drop]; omega
  have hjf : j.e.fs.length ≤ 1000 := by rw [hc.fs]; exact hf
  have h4b : ∀ q, q < n0 → g4[q]? = g[q]? := fun q hq => (s4.2 q (by omega)).trans ((h3b q hq).trans (h2b q hq))
  have hl4 : g.length ≤ g4.length := by have := s4.1; omega
  simp only [r0, r4, lens28 j.e.hld, e4, r5, bs, dBin_seql]
  refine Wp.join (P := fun r => ∃ (g5 : Hp) (a de' : D) (evs' : List (Ev × D)), r = (.nrm, [a], g5) ∧ g.length ≤ g5.length ∧ (∀ q, q < n0 → g5[q]? = g[q]?) ∧ WkI n0 w g5 (setM ms ⟨i.e.a0, i.e.a1, i.e.a3⟩) (addT (addT ts i.e.a0 dupR (k : Nat)) i.e.a0 j.r j.e.ls.length) evs' dm' dt2 de' ∧ if i.r = [] then ∃ d hd x, evs' = evs ++ [(evLd j.e d hd, x)] else evs' = evs) ?_ ?_ ?_
  ·intro hr
   have hr : i.r = [] := by rw [← hc.r]; simpa using hr
   refine ev_wp W4 hle hz4 (by omega) hjf (f := fun p h => some (Ex.nrm, [p], h)) fun g5 p de' d hd x W5 hl5 h5b => ?_
   exact .some ⟨g5, p, de', _, rfl, by omega, fun q hq => (h5b q hq).trans (h4b q hq), W5, by rw [if_pos hr]; exact ⟨d, hd, x, rfl⟩⟩
  ·intro hr
   have hr : ¬ i.r = [] := by rw [← hc.r]; simpa using hr
   exact .some ⟨g4, _, de, evs, rfl, hl4, h4b, W4, by rw [if_neg hr]⟩
  rintro _ ⟨g5, a', de', evs', rfl, hl5, h5b, W5, hev⟩
  simp only [toEnd_nrm]
  refine .some ⟨true, rfl, by show z ≤ g5.length; omega, h5b, ?_⟩
  rw [hO]
  rw [hc.r] at W5
  exact ⟨rfl, j, dm', dt2, de', evs', hc, W5, hev⟩
structure EvQ (a b : Ev) : Prop where
 a0 : a.a0 = b.a0
 a1 : a.a1 = b.a1
 a2 : a.a2 = b.a2
 a3 : a.a3 = b.a3
 a5 : a.a5 = b.a5
 a6 : a.a6 = b.a6
 s7 : a.s7 = b.s7
 s8 : a.s8 = b.s8
 ls : a.ls = b.ls
 fs : a.fs = b.fs
def apS : List Mrk → List Tal → List It → Option (List Mrk × List Tal)
 | ms, ts, [] => some (ms, ts)
 | ms, ts, i :: r => match tkO (markOf ms i.e.a0 i.e.a1) i with
  | none => none
  | some none => apS ms (addT ts i.e.a0 dupR i.e.ls.length) r
  | some (some k) => apS (setM ms ⟨i.e.a0, i.e.a1, i.e.a3⟩) (addT (addT ts i.e.a0 dupR (k : Nat)) i.e.a0 i.r ((i.e.ls.length - k : Nat) : Int)) r
def apE : List Mrk → List It → List Ev → Prop
 | ms, [], es => es = []
 | ms, i :: r, es => match tkO (markOf ms i.e.a0 i.e.a1) i with
  | none => True
  | some none => apE ms r es
  | some (some k) => ∃ j, CutOf i (markOf ms i.e.a0 i.e.a1) k j ∧ if i.r = [] then ∃ e es', es = e :: es' ∧ EvQ e j.e ∧ apE (setM ms ⟨i.e.a0, i.e.a1, i.e.a3⟩) r es' else apE (setM ms ⟨i.e.a0, i.e.a1, i.e.a3⟩) r es
theorem apS_cons (ms : List Mrk) (ts : List Tal) (i : It) (r : List It) : apS ms ts (i :: r) = match tkO (markOf ms i.e.a0 i.e.a1) i with
  | none => none
  | some none => apS ms (addT ts i.e.a0 dupR i.e.ls.length) r
  | some (some k) => apS (setM ms ⟨i.e.a0, i.e.a1, i.e.a3⟩) (addT (addT ts i.e.a0 dupR (k : Nat)) i.e.a0 i.r ((i.e.ls.length - k : Nat) : Int)) r := rfl
theorem frz_mk {h : Hp} {n0 n1 n : Nat} {l : List Mrk} {d : D} (hd : MkD h n1 l d) (hn : n0 ≤ n1) : SlOf 3 mrkr l (frz n0 h (n + 1) d) := by
 rcases hd with ⟨rfl, rfl | rfl⟩ | ⟨ob, h1, rfl, h3⟩
 ·exact .nils _ _
 ·exact .inr ⟨true, rfl⟩
 ·have ow : Own h n1 ty1006 3 (l.map mrkr) (.msl 3 ob 0 l.length) := .inr ⟨ob, h1, by simp, h3⟩
  exact own_sl ow hn (fun a _ => mrkr_frz _ h _ a)
theorem frz_tl {h : Hp} {n0 n1 n : Nat} {l : List Tal} {d : D} (hd : TlD h n1 l d) (hn : n0 ≤ n1) : SlOf 3 talr l (frz n0 h (n + 1) d) := by
 rcases hd with hd | ⟨ob, h1, rfl, h3⟩
 ·rw [slof_frz hd (fun a _ => talr_frz _ h _ a)]; exact hd
 ·have ow : Own h n1 ty106 3 (l.map talr) (.msl 3 ob 0 l.length) := .inr ⟨ob, h1, by simp, h3⟩
  exact own_sl ow hn (fun a _ => talr_frz _ h _ a)
theorem evs_of {g : Hp} {n0 n1 : Nat} (hn : n0 ≤ n1) : ∀ (evs : List (Ev × D)), (∀ p ∈ evs, LvF g n1 p.1.fs p.2) → ∃ l : List Ev, l.map evr = (evs.map evl).map (fun row => row.map (frz n0 g 2)) ∧ l.length = evs.length ∧ ∀ (k : Nat) e p, l[k]? = some e → evs[k]? = some p → EvQ e p.1
 | [], _ => ⟨[], rfl, rfl, by simp⟩
 | p :: r, hp => by
  obtain ⟨l, h1, h2, h3⟩ := evs_of hn r fun q hq => hp q (by simp [-bind_some, hq])
  have hsl := (hp p (by simp)).frz (n := 1) hn
  have hf := slof_frz (n0 := n0) (h := g) (n := 1) p.1.hld (fun a _ => linr_frz _ g _ a)
  refine ⟨{ p.1 with fd := frz n0 g 2 p.2, hfd := hsl } :: l, ?_, by simp [-bind_some, h2], fun k e q he hq => ?_⟩
  ·simp only [List.map_cons, h1]
   congr 1
   simp only [evl, List.map_cons, List.map_nil, frz_int, frz_str, hf]
   rfl
  ·cases k with
   | zero =>
    simp at he hq
    subst he; subst hq
    exact ⟨rfl, rfl, rfl, rfl, rfl, rfl, rfl, rfl, rfl, rfl⟩
   | succ k => exact h3 k e q (by simpa using he) (by simpa using hq)
def EvsQ (es : List Ev) (evs : List (Ev × D)) : Prop := es.length = evs.length ∧ ∀ (k : Nat) e p, es[k]? = some e → evs[k]? = some p → EvQ e p.1
def ApPost (ms : List Mrk) (ts : List Tal) (dm dt : D) (its : List It) (x : D) : Prop :=
 match apS ms ts its with
 | none => x = .tup [.agg [dm, dt], .nils, .int .i64 23]
 | some (ms', ts') => ∃ dm' dt' de es, x = .tup [.agg [dm', dt'], de, .int .i64 0] ∧ SlOf 3 mrkr ms' dm' ∧ SlOf 3 talr ts' dt' ∧ SlOf 10 evr es de ∧ apE ms its es ∧ es.length ≤ its.length
theorem s1089g {b : Bat} (hbn : b.its.length ≤ 40) (hit : ∀ i ∈ b.its, i.e.ls.length ≤ 1000 ∧ i.e.fs.length ≤ 1000) (hck0 : ∀ g, R fn1094 [.agg (batr b)] g = some (.int .i64 0, g)) {ms : List Mrk} {ts : List Tal} {dm0 dt0 : D} (h : Hp) (hm : SlOf 3 mrkr ms dm0) (ht : SlOf 3 talr ts dt0) (hma : MAsc ms) (hta : TAsc ts) (hml : ms.length ≤ 10000) (htl : ts.length ≤ 10000) :
  ∃ x, R fn1089 [.agg [dm0, dt0], .agg (batr b)] h = some (x, h) ∧ ApPost ms ts dm0 dt0 b.its x := by
 suffices Wp (R fn1089 [.agg [dm0, dt0], .agg (batr b)] h) (fun p => p.2 = h ∧ ApPost ms ts dm0 dt0 b.its p.1) by
  obtain ⟨⟨x, h'⟩, h1, rfl, h2⟩ := this
  exact ⟨x, h1, h2⟩
 rw [e1089]
 have hbl : ∀ g : Hp, dLoad tab g ty1064 (.fptr (batr b)) = some (.agg (batr b)) := fun g => id rfl
 have hp0 : (dNew h ty1009 2 [[.nils, .nils]])[h.length]? = some (.row ty1009 2 [[.nils, .nils]]) := dNew_get _ _ _ _
 have hpl : (dNew h ty1009 2 [[.nils, .nils]]).length = h.length + 1 := by simp [-bind_some, dNew]
 have hpo : ∀ q, q < h.length → (dNew h ty1009 2 [[.nils, .nils]])[q]? = h[q]? := fun q hq => dNew_old _ _ _ _ hq
 generalize hP4 : ((D.ptr h.length 0 0, dNew h ty1009 2 [[.nils, .nils]]) : D × Hp) = p4
 have hp1 : p4.1 = .ptr h.length 0 0 := by rw [← hP4]
 have hp2 : p4.2 = dNew h ty1009 2 [[.nils, .nils]] := by rw [← hP4]
 generalize dNew h ty1009 2 [[.nils, .nils]] = g0 at hp0 hpl hpo hp2
 have hck := hck0 g0
 obtain ⟨dm, g1, e1, l1, b1, d1⟩ := u1095 ms dm0 g0 hm (by omega)
 obtain ⟨dt, g2, e2, l2, b2, d2⟩ := u79 ts dt0 g1 ht (by omega)
 have hmk : MkD g2 (h.length + 1) ms dm := by
  rcases d1 with h | ⟨ob, a, b, c⟩
  ·exact .inl h
  ·exact .inr ⟨ob, by omega, b, (b2 ob (List.getElem?_eq_some_iff.1 c).1).trans c⟩
 have htd : TlD g2 (h.length + 1) ts dt := by
  rcases d2 with ⟨rfl, rfl | rfl⟩ | ⟨ob, a, b, c⟩
  ·exact .inl (.nils _ _)
  ·exact .inl (.inr ⟨true, rfl⟩)
  ·exact .inr ⟨ob, by omega, b, c⟩
 have f0 : ∀ g : Hp, dFieldAddr tab ty1009 0 (.fptr [dm0, dt0]) = some (.fptr [dm0, dt0]) := fun g => id rfl
 have f1 : dFieldAddr tab ty1009 1 (.fptr [dm0, dt0]) = some (.fptr [dt0]) := id rfl
 have k0 : ∀ g : Hp, dLoad tab g ty1007 (.fptr [dm0, dt0]) = some dm0 := fun g => id rfl
 have k1 : ∀ g : Hp, dLoad tab g ty58 (.fptr [dt0]) = some dt0 := fun g => id rfl
 have k2 : ∀ g : Hp, dLoad tab g ty1009 (.fptr [dm0, dt0]) = some (.agg [dm0, dt0]) := fun g => id rfl
 have q2 : dFieldAddr tab ty1064 2 (.fptr (batr b)) = some (.fptr [b.d]) := id rfl
 have hbd : dBuild tab ty1009 [0, 1] [dm, dt] = some (.agg [dm, dt]) := bd1009_0_1 dm dt hmk.one htd.one
 simp only [F1089, pBoxF_agg, bs, hP4, hp2, hbl, hck, dBin_neq, ne_eq, not_true, decide_false, dIf_bool, Bool.false_eq_true, if_false, f0 h, k0, e1, f1, k1, e2, hbd, bd1073_0, q2, Option.bind_assoc]
 rw [wBox_agg ty1073 3 g2 [dm, dt, .nils] rfl (by omega)]
 have hold : ∀ q, q < g2.length → (dNew g2 ty1073 3 [[dm, dt, .nils]])[q]? = g2[q]? := fun q hq => dNew_old _ _ _ _ hq
 have hw : (dNew g2 ty1073 3 [[dm, dt, .nils]])[g2.length]? = some (.row ty1073 3 [[dm, dt, .nils]]) := dNew_get _ _ _ _
 have hwl : (dNew g2 ty1073 3 [[dm, dt, .nils]]).length = g2.length + 1 := by simp [-bind_some, dNew]
 have W0 : WkI (h.length + 1) g2.length (dNew g2 ty1073 3 [[dm, dt, .nils]]) ms ts [] dm dt .nils := by
  have lt : ∀ {q : Nat} {ob : Ob}, g2[q]? = some ob → q < g2.length := fun hq => (List.getElem?_eq_some_iff.1 hq).1
  refine ⟨by omega, by omega, hw, ?_, ?_, Own.nils _ _ _ _, by simp, hma, hta⟩
  ·exact hmk.imp id fun ⟨ob, a, b, c⟩ => ⟨ob, a, b, (hold ob (lt c)).trans c⟩
  ·exact htd.imp id fun ⟨ob, a, b, c⟩ => ⟨ob, a, b, (hold ob (lt c)).trans c⟩
 have hb3 : ∀ q, q < h.length + 1 → (dNew g2 ty1073 3 [[dm, dt, .nils]])[q]? = g0[q]? := fun q hq => (hold q (by omega)).trans ((b2 q (by omega)).trans (b1 q (by omega)))
 generalize dNew g2 ty1073 3 [[dm, dt, .nils]] = g3 at W0 hb3
 generalize g2.length = w at W0
 clear hold hw hwl hmk htd d1 d2 hbd
 simp only [bs, ld113, lens113 b.hd]
 refine Wp.chk trivial ?_
 refine Wp.loop (fun k ds g => ∃ (n : Nat) (c a1 a2 : D) (ms' : List Mrk) (ts' : List Tal) (evs : List (Ev × D)) (dm' dt' de : D), ds = [.nils, .int .i64 0, c, .int .i64 n, a1, a2] ∧ k + n = b.its.length ∧ WkI (h.length + 1) w g ms' ts' evs dm' dt' de ∧ (∀ q, q < h.length + 1 → g[q]? = g0[q]?) ∧
   ms'.length ≤ ms.length + n ∧ ts'.length ≤ ts.length + 2 * n ∧ evs.length ≤ n ∧ apS ms ts b.its = apS ms' ts' (b.its.drop n) ∧ ∀ es es', EvsQ es evs → apE ms' (b.its.drop n) es' → apE ms b.its (es ++ es'))
  (fun r => (r.1 = .ret ∧ ∃ c a0 a1 a2, r.2.1 = [.nils, .int .i64 23, c, a0, a1, a2] ∧ apS ms ts b.its = none ∧ h.length ≤ r.2.2.length ∧ (∀ q, q < h.length → r.2.2[q]? = h[q]?) ∧ r.2.2[h.length]? = some (.row ty1009 2 [[dm0, dt0]])) ∨
   (r.1 = .ext 0 ∧ ∃ (c a0 a1 a2 : D) (ms' : List Mrk) (ts' : List Tal) (evs : List (Ev × D)) (dm' dt' de : D), r.2.1 = [.nils, .int .i64 0, c, a0, a1, a2] ∧ WkI (h.length + 1) w r.2.2 ms' ts' evs dm' dt' de ∧ (∀ q, q < h.length + 1 → r.2.2[q]? = g0[q]?) ∧ evs.length ≤ b.its.length ∧ apS ms ts b.its = some (ms', ts') ∧ ∀ es, EvsQ es evs → apE ms b.its es))
  b.its.length ⟨0, _, _, _, ms, ts, [], dm, dt, .nils, rfl, rfl, W0, hb3, by omega, by omega, by simp, rfl, fun es es' hq he => by
   have : es = [] := List.eq_nil_of_length_eq_zero (by simpa using hq.1)
   subst this
   exact he⟩ ?_ ?_
 ·rintro k ds g ⟨n, c, a1, a2, ms', ts', evs, dm', dt', de, rfl, hk, W, hbb, hlm, hlt, hle, hap, hev⟩
  simp only [F1089_L0, nth_zero, nth_succ, bs, Option.bind_assoc, dBin_lss]
  refine Wp.dif ?_ ?_
  ·intro h0
   have h0 : n < b.its.length := by have : (n : Int) < b.its.length := by simpa using h0
                                    omega
   obtain ⟨i, hi⟩ : ∃ i, b.its[n]? = some i := ⟨_, List.getElem?_eq_getElem h0⟩
   have hdr : b.its.drop n = i :: b.its.drop (n + 1) := by
    rw [List.drop_eq_getElem_cons h0]
    have := (List.getElem?_eq_some_iff.1 hi).2
    rw [this]
   obtain ⟨hn6, hf4⟩ := hit i (List.mem_of_getElem? hi)
   have hwn : IntKind.wrap .i64 ((n : Int) + 1) = ((n + 1 : Nat) : Int) := by
    rw [wrap_i64 (by omega) (by omega)]; omega
   have hii : dIndexAddr tab ty113 b.d (.int .i64 (n : Int)) = some (.fptr (itr i)) := by rw [ixs113 b.hd]; simp [-bind_some, hi]
   obtain ⟨bb, g', et, hl', hb', hp⟩ := s1096 W (by omega) (by omega) (by omega) i (by omega) (by omega)
   simp only [hii, ldIt, boxIt, bs]
   refine Wp.step et ?_
   simp only [bs, dUn_not]
   rw [hdr] at hap hev
   unfold TkPost at hp
   rw [apS_cons] at hap
   cases hO : tkO (markOf ms' i.e.a0 i.e.a1) i with
   | none =>
    rw [hO] at hp hap
    subst hp
    simp only [Bool.not_false, dIf_bool, if_true, k2, hp1, bs, Option.bind_assoc]
    have hq0 : g'[h.length]? = some (.row ty1009 2 [[.nils, .nils]]) := (hb' _ (by omega)).trans ((hbb _ (by omega)).trans hp0)
    have hok : (D.agg [dm0, dt0]).okv = true := by
     have o1 := slof_one hm
     have o2 := slof_one ht
     clear f0 f1 k0 k1 k2 e1 e2 hm ht
     cases dm0 <;> first | (cases dt0 <;> first | rfl | (simp [-bind_some, D.one] at o2)) | (simp [-bind_some, D.one] at o1)
    refine wst1009 hq0 (by rfl) (by rfl) (by simp) hok fun g4 q4 s4 => ?_
    replace q4 : g4[h.length]? = some (.row ty1009 2 [[dm0, dt0]]) := q4
    try simp only [bs]
    exact .some (.inr ⟨by simp, .inl ⟨rfl, _, _, _, _, rfl, hap, by have := s4.1; have := W.len; show h.length ≤ g4.length; omega, fun q hq => (s4.2 q (by omega)).trans ((hb' q (by omega)).trans ((hbb q (by omega)).trans (hpo q hq))), q4⟩⟩)
   | some o =>
    have hbt : bb = true := by
     rw [hO] at hp
     cases o with
     | none => exact hp.1
     | some k => exact hp.1
    subst hbt
    simp only [Bool.not_true, dIf_bool, Bool.false_eq_true, if_false, dBin_add, bs, hwn]
    cases o with
    | none =>
     rw [hO] at hp hap
     obtain ⟨_, dt2, W2⟩ := hp
     have hal := addT_len ts' i.e.a0 dupR i.e.ls.length
     refine .some (.inl ⟨rfl, k - 1, by omega, n + 1, _, _, _, ms', _, evs, dm', dt2, de, rfl, by omega, W2, fun q hq => (hb' q hq).trans (hbb q hq), by omega, by omega, by omega, hap, fun es es' hq he => hev es es' hq ?_⟩)
     unfold apE
     rw [hO]
     exact he
    | some kk =>
     rw [hO] at hp hap
     obtain ⟨_, j, dm2, dt2, de2, evs2, hc, W2, he2⟩ := hp
     have hjl : j.e.ls.length = i.e.ls.length - kk := by rw [hc.ls, List.length_drop]
     rw [hjl] at W2
     have hal := addT_len ts' i.e.a0 dupR (kk : Nat)
     have hal2 := addT_len (addT ts' i.e.a0 dupR (kk : Nat)) i.e.a0 i.r ((i.e.ls.length - kk : Nat) : Int)
     have hsl := setM_len ms' ⟨i.e.a0, i.e.a1, i.e.a3⟩
     by_cases hr : i.r = []
     ·rw [if_pos hr] at he2
      obtain ⟨d, hd, x, rfl⟩ := he2
      refine .some (.inl ⟨rfl, k - 1, by omega, n + 1, _, _, _, _, _, _, dm2, dt2, de2, rfl, by omega, W2, fun q hq => (hb' q hq).trans (hbb q hq), by omega, by omega, by simp; omega, hap, fun es es' hq he => ?_⟩)
      obtain ⟨hql, hqe⟩ := hq
      simp only [List.length_append, List.length_cons, List.length_nil] at hql
      have hes : es ≠ [] := by rintro rfl; simp at hql
      obtain ⟨es0, e, rfl⟩ : ∃ es0 e, es = es0 ++ [e] := ⟨es.dropLast, es.getLast hes, (List.dropLast_concat_getLast hes).symm⟩
      simp only [List.length_append, List.length_cons, List.length_nil] at hql
      have hlen0 : es0.length = evs.length := by omega
      rw [List.append_assoc]
      refine hev es0 _ ⟨hlen0, fun k a p ha hp => ?_⟩ ?_
      ·have h1 := (List.getElem?_eq_some_iff.1 ha).1
       have h2 := (List.getElem?_eq_some_iff.1 hp).1
       exact hqe k a p (by rw [List.getElem?_append_left h1]; exact ha) (by rw [List.getElem?_append_left h2]; exact hp)
      ·unfold apE
       rw [hO]
       refine ⟨j, hc, ?_⟩
       rw [if_pos hr]
       have := hqe evs.length e (evLd j.e d hd, x) (by rw [List.getElem?_append_right (by omega), hlen0]; simp [-bind_some]) (by rw [List.getElem?_append_right (by omega)]; simp [-bind_some])
       exact ⟨e, es', rfl, ⟨this.a0, this.a1, this.a2, this.a3, this.a5, this.a6, this.s7, this.s8, this.ls, this.fs⟩, he⟩
     ·rw [if_neg hr] at he2
      subst he2
      refine .some (.inl ⟨rfl, k - 1, by omega, n + 1, _, _, _, _, _, _, dm2, dt2, de2, rfl, by omega, W2, fun q hq => (hb' q hq).trans (hbb q hq), by omega, by omega, by omega, hap, fun es es' hq he => hev es es' hq ?_⟩)
      unfold apE
      rw [hO]
      refine ⟨j, hc, ?_⟩
      rw [if_neg hr]
      exact he
  ·intro h0
   have h0 : n = b.its.length := by have : ¬ (n : Int) < b.its.length := by simpa using h0
                                    omega
   subst h0
   rw [List.drop_length] at hap hev
   refine .some (.inr ⟨by simp, .inr ⟨rfl, _, _, _, _, ms', ts', evs, dm', dt', de, rfl, W, hbb, hle, hap, fun es hq => ?_⟩⟩)
   have := hev es [] hq rfl
   rwa [List.append_nil] at this
 ·rintro ⟨ex, ds, g⟩ (⟨q1, c, a0, a1, a2, q2', hap, hl, hbb, hq⟩ | ⟨q1, c, a0, a1, a2, ms', ts', evs, dm', dt', de, q2', W, hbb, hle, hap, hev⟩)
  ·simp only at q1 q2' hl hbb hq
   subst q1; subst q2'
   have lq : dLoad tab g ty1009 (.ptr h.length 0 0) = some (.agg [dm0, dt0]) := by rw [ldp1009, row_of hq]; rfl
   simp only [unblk_ret, toEnd_ret, exEnd_ret, nth_zero, nth_succ, bs, hp1, lq, mkRes_two]
   have hfz : frz h.length g 4 (.tup [.agg [dm0, dt0], .nils, .int .i64 23]) = .tup [.agg [dm0, dt0], .nils, .int .i64 23] := by
    have z1 := slof_frz (n0 := h.length) (h := g) (n := 1) hm (fun a _ => mrkr_frz _ g _ a)
    have z2 := slof_frz (n0 := h.length) (h := g) (n := 1) ht (fun a _ => talr_frz _ g _ a)
    simp only [frz_tup, frz_agg, List.map_cons, List.map_nil, z1, z2, frz_nils, frz_int]
   rw [scope_eq hfz (.tup _ fun d hd => by
    simp at hd
    rcases hd with rfl | rfl | rfl
    ·refine .agg _ fun d hd => ?_
     simp at hd
     rcases hd with rfl | rfl
     ·exact slof_ok hm fun a _ => mrkr_ok _ a
     ·exact slof_ok ht fun a _ => talr_ok _ a
    ·constructor
    ·constructor) hl hbb]
   refine .some ⟨rfl, ?_⟩
   unfold ApPost
   rw [hap]
  ·simp only at q1 q2' W hbb
   subst q1; subst q2'
   have w1 : dLoad tab g ty1009 (.ptr w 0 (0 + 0)) = some (.agg [dm', dt']) := by rw [ldp1009, row_of W.row]; rfl
   have w2 : dLoad tab g ty40 (.ptr w 0 (0 + 2)) = some de := by rw [ldp40, row_of W.row]; rfl
   have hq0 : g[h.length]? = some (.row ty1009 2 [[.nils, .nils]]) := (hbb _ (by omega)).trans hp0
   have hok : (D.agg [dm', dt']).okv = true := by
    have o1 := W.mr.one
    have o2 := W.tl.one
    clear w1 W
    cases dm' <;> first | (cases dt' <;> first | rfl | (simp [-bind_some, D.one] at o2)) | (simp [-bind_some, D.one] at o1)
   have hwn := W.wn
   simp only [unblk_self, toEnd_nrm, nth_zero, nth_succ, bs, hp1, nilCheck_ptr, fap1073_0, fap1073_1, w1, w2, Option.bind_assoc]
   refine wst1009 hq0 (by rfl) (by rfl) (by simp) hok fun g4 q4 s4 => ?_
   replace q4 : g4[h.length]? = some (.row ty1009 2 [[dm', dt']]) := q4
   have w3 : dLoad tab g4 ty40 (.ptr w 0 (0 + 2)) = some de := by rw [ldp40, row_of ((s4.2 w (by omega)).trans W.row)]; rfl
   have lq : dLoad tab g4 ty1009 (.ptr h.length 0 0) = some (.agg [dm', dt']) := by rw [ldp1009, row_of q4]; rfl
   simp only [w3, bs]
   refine Wp.chk trivial ?_
   simp only [lq, bs, mkRes_two]
   have W4 := W.chg0 hq0 (by decide) (by decide) (by decide) (by decide) s4 ((s4.2 w (by omega)).trans W.row)
   obtain ⟨l, e1', e2', e3'⟩ := evs_of (g := g4) (n0 := h.length) (Nat.le_succ _) evs W4.fs
   have hsl : SlOf 10 evr l (frz h.length g4 3 de) := by
    rcases W4.ev with ⟨hx, hr⟩ | ⟨ob, hob, hx, hgo⟩
    ·have : evs = [] := by simpa using hr
     subst this
     have : l = [] := List.eq_nil_of_length_eq_zero (by simpa using e2')
     subst this
     rw [hx]
     exact .nils _ _
    ·right
     refine ⟨false, ?_⟩
     rw [hx, frz_msl (by omega) hgo]
     simp only [List.drop_zero, List.take_length, e1']
   have z1 := frz_mk (n0 := h.length) (n := 1) W4.mr (Nat.le_succ _)
   have z2 := frz_tl (n0 := h.length) (n := 1) W4.tl (Nat.le_succ _)
   have hfz : frz h.length g4 4 (.tup [.agg [dm', dt'], de, .int .i64 0]) = .tup [.agg [frz h.length g4 2 dm', frz h.length g4 2 dt'], frz h.length g4 3 de, .int .i64 0] := by
    simp only [frz_tup, frz_agg, List.map_cons, List.map_nil, frz_int]
   rw [scope_eq hfz (.tup _ fun d hd => by
    simp at hd
    rcases hd with rfl | rfl | rfl
    ·refine .agg _ fun d hd => ?_
     simp at hd
     rcases hd with rfl | rfl
     ·exact slof_ok z1 fun a _ => mrkr_ok _ a
     ·exact slof_ok z2 fun a _ => talr_ok _ a
    ·exact slof_ok hsl fun a _ => evr_ok _ a
    ·constructor) (by have := s4.1; have := W.len; omega) (fun q hq => (s4.2 q (by omega)).trans ((hbb q (by omega)).trans (hpo q hq)))]
   refine .some ⟨rfl, ?_⟩
   unfold ApPost
   rw [hap]
   exact ⟨_, _, _, l, rfl, z1, z2, hsl, hev l ⟨e2', e3'⟩, by omega⟩
theorem kT_take (m : Tal) (l : List Tal) : ∀ x ∈ l.take (kT m l), kl x m := by
 intro x hx
 obtain ⟨i, hi⟩ := List.getElem?_of_mem hx
 have hlt := (List.getElem?_eq_some_iff.1 hi).1
 rw [List.length_take] at hlt
 rw [List.getElem?_take, if_pos (by omega)] at hi
 exact (cmpT_lt _ _).1 (kT_lt m l i x hi (by omega))
theorem no_key {a b : Tal} (h : kl a b) (h1 : a.h = b.h) (h2 : a.r = b.r) : False := by
 have := (cmpT_lt a b).2 h
 have := (cmpT_eq a b).2 ⟨h1, h2⟩
 omega
theorem kT_has (key : Tal) (l : List Tal) (hs : TAsc l) (x : Tal) (hx : x ∈ l) (h1 : x.h = key.h) (h2 : x.r = key.r) : l[kT key l]? = some x := by
 have hx' : x ∈ l.drop (kT key l) := by
  rw [← List.take_append_drop (kT key l) l] at hx
  rcases List.mem_append.1 hx with h | h
  ·exact (no_key (kT_take key l x h) h1 h2).elim
  ·exact h
 obtain ⟨i, hi⟩ := List.getElem?_of_mem hx'
 rw [List.getElem?_drop] at hi
 rcases Nat.eq_zero_or_pos i with rfl | hi0
 ·rw [Nat.add_zero] at hi; exact hi
 ·exfalso
  have hl := (List.getElem?_eq_some_iff.1 hi).1
  have hg : l[kT key l]? = some (l[kT key l]'(by omega)) := List.getElem?_eq_getElem (by omega)
  have hlt : kl (l[kT key l]'(by omega)) x := by
   obtain ⟨g3, g4⟩ := List.getElem?_eq_some_iff.1 hi
   have := List.pairwise_iff_getElem.1 hs _ _ (show kT key l < l.length by omega) g3 (by omega)
   rw [g4] at this
   exact this
  have := kT_ge key l hs _ _ hg (Nat.le_refl _)
  have h3 : kl (l[kT key l]'(by omega)) key := by
   unfold kl at hlt ⊢
   rw [h1, h2] at hlt
   exact hlt
  have := (cmpT_lt _ _).2 h3
  omega
theorem countT_eq (l : List Tal) (hs : TAsc l) (h : Int) (r : Str) : (∃ x ∈ l, x.h = h ∧ x.r = r ∧ countT l h r = x.n ∧ l[kT ⟨h, r, 0⟩ l]? = some x) ∨ ((∀ x ∈ l, ¬ (x.h = h ∧ x.r = r)) ∧ countT l h r = 0 ∧ (∀ x, l[kT ⟨h, r, 0⟩ l]? = some x → ¬ cmpT x ⟨h, r, 0⟩ = 0)) := by
 by_cases hf : ∃ x ∈ l, x.h = h ∧ x.r = r
 ·left
  obtain ⟨x, hx, h1, h2⟩ := hf
  have hg := kT_has ⟨h, r, 0⟩ l hs x hx h1 h2
  have hc : cmpT x ⟨h, r, 0⟩ = 0 := (cmpT_eq _ _).2 ⟨h1, h2⟩
  exact ⟨x, hx, h1, h2, by unfold countT; rw [hg]; simp [-bind_some, hc], hg⟩
 ·right
  have hn : ∀ x ∈ l, ¬ (x.h = h ∧ x.r = r) := fun x hx hk => hf ⟨x, hx, hk⟩
  have hno : ∀ x, l[kT ⟨h, r, 0⟩ l]? = some x → ¬ cmpT x ⟨h, r, 0⟩ = 0 := fun x hx hc => hn x (List.mem_of_getElem? hx) ((cmpT_eq _ _).1 hc)
  refine ⟨hn, ?_, hno⟩
  unfold countT
  cases hg : l[kT ⟨h, r, 0⟩ l]? with
  | none => rfl
  | some x => simp [-bind_some, hno x hg]
theorem addT_mem (l : List Tal) (hs : TAsc l) (hst : Int) (rule : Str) (n : Int) (hn : ¬ n < 1) (x : Tal) : x ∈ addT l hst rule n ↔ x = ⟨hst, rule, IntKind.wrap .i64 (countT l hst rule + n)⟩ ∨ (x ∈ l ∧ ¬ (x.h = hst ∧ x.r = rule)) := by
 simp only [addT, if_neg hn]
 rcases countT_eq l hs hst rule with ⟨y, hy, h1, h2, h3, hg⟩ | ⟨hno, h3, hnc⟩
 ·have hc : cmpT y ⟨hst, rule, 0⟩ = 0 := (cmpT_eq _ _).2 ⟨h1, h2⟩
  have ha : addK l hst rule n (kT ⟨hst, rule, 0⟩ l) = l.set (kT ⟨hst, rule, 0⟩ l) ⟨hst, rule, IntKind.wrap .i64 (countT l hst rule + n)⟩ := by
   unfold addK
   rw [hg, h3]
   simp [-bind_some, hc, h1, h2]
  rw [ha]
  generalize hv : (⟨hst, rule, IntKind.wrap .i64 (countT l hst rule + n)⟩ : Tal) = v
  have hk : kT ⟨hst, rule, 0⟩ l < l.length := (List.getElem?_eq_some_iff.1 hg).1
  generalize kT ⟨hst, rule, 0⟩ l = k at hg hk
  constructor
  ·intro hx
   obtain ⟨i, hi⟩ := List.getElem?_of_mem hx
   rw [List.getElem?_set] at hi
   split at hi
   ·rename_i heq
    subst heq
    simp [-bind_some, hk] at hi
    exact .inl hi.symm
   ·rename_i hne
    have hxl := List.mem_of_getElem? hi
    refine .inr ⟨hxl, fun hkey => ?_⟩
    have hxy := tasc_key hs hxl hy (by rw [hkey.1, h1]) (by rw [hkey.2, h2])
    subst hxy
    obtain ⟨g1, g2⟩ := List.getElem?_eq_some_iff.1 hg
    obtain ⟨g3, g4⟩ := List.getElem?_eq_some_iff.1 hi
    rcases Nat.lt_or_gt_of_ne hne with hlt | hlt
    ·have := List.pairwise_iff_getElem.1 hs _ _ g1 g3 hlt
     rw [g2, g4] at this; exact kl_irr _ this
    ·have := List.pairwise_iff_getElem.1 hs _ _ g3 g1 hlt
     rw [g2, g4] at this; exact kl_irr _ this
  ·rintro (rfl | ⟨hx, hkey⟩)
   ·exact List.mem_iff_getElem?.2 ⟨k, by rw [List.getElem?_set_self hk]⟩
   ·obtain ⟨i, hi⟩ := List.getElem?_of_mem hx
    refine List.mem_iff_getElem?.2 ⟨i, ?_⟩
    rw [List.getElem?_set_ne]
    ·exact hi
    ·rintro rfl
     rw [hg] at hi
     injection hi with hi
     subst hi
     exact hkey ⟨h1, h2⟩
 ·have ha : addK l hst rule n (kT ⟨hst, rule, 0⟩ l) = l.take (kT ⟨hst, rule, 0⟩ l) ++ [⟨hst, rule, IntKind.wrap .i64 (countT l hst rule + n)⟩] ++ l.drop (kT ⟨hst, rule, 0⟩ l) := by
    unfold addK
    rw [h3]
    cases hg : l[kT ⟨hst, rule, 0⟩ l]? with
    | none => rfl
    | some y => simp only [if_neg (hnc y hg)]
  rw [ha]
  constructor
  ·intro hx
   simp only [List.mem_append, List.mem_singleton] at hx
   rcases hx with (hx | hx) | hx
   ·have := List.mem_of_mem_take hx
    exact .inr ⟨this, hno x this⟩
   ·exact .inl hx
   ·have := List.mem_of_mem_drop hx
    exact .inr ⟨this, hno x this⟩
  ·rintro (rfl | ⟨hx, _⟩)
   ·simp [-bind_some]
   ·rw [← List.take_append_drop (kT ⟨hst, rule, 0⟩ l) l] at hx
    rcases List.mem_append.1 hx with h | h
    ·simp [-bind_some, h]
    ·simp [-bind_some, h]
def fH (h : Int) (ms : List Mrk) : List Mrk := ms.filter fun m => decide (m.h = h)
def tH (h : Int) (ts : List Tal) : List Tal := ts.filter fun m => decide (m.h = h)
theorem fH_mem (h : Int) (ms : List Mrk) (x : Mrk) : x ∈ fH h ms ↔ x ∈ ms ∧ x.h = h := by simp [-bind_some, fH]
theorem tH_mem (h : Int) (ms : List Tal) (x : Tal) : x ∈ tH h ms ↔ x ∈ ms ∧ x.h = h := by simp [-bind_some, tH]
theorem fH_asc {h : Int} {ms : List Mrk} (hs : MAsc ms) : MAsc (fH h ms) := List.Pairwise.sublist List.filter_sublist hs
theorem tH_asc {h : Int} {ts : List Tal} (hs : TAsc ts) : TAsc (tH h ts) := List.Pairwise.sublist List.filter_sublist hs
theorem markOf_fH {ms : List Mrk} (hs : MAsc ms) (h f : Int) : markOf (fH h ms) h f = markOf ms h f := by
 rcases markOf_eq _ (fH_asc hs) h f with ⟨x, hx, h1, h2, h3⟩ | ⟨h1, h2⟩
 ·rw [h3]
  rcases markOf_eq _ hs h f with ⟨y, hy, k1, k2, k3⟩ | ⟨k1, k2⟩
  ·rw [k3, masc_key hs ((fH_mem _ _ _).1 hx).1 hy (by omega) (by omega)]
  ·exact absurd ⟨h1, h2⟩ (k1 x ((fH_mem _ _ _).1 hx).1)
 ·rw [h2]
  rcases markOf_eq _ hs h f with ⟨y, hy, k1, k2, k3⟩ | ⟨k1, k2⟩
  ·exact absurd ⟨k1, k2⟩ (h1 y ((fH_mem _ _ _).2 ⟨hy, k1⟩))
  ·exact k2.symm
theorem countT_tH {ts : List Tal} (hs : TAsc ts) (h : Int) (r : Str) : countT (tH h ts) h r = countT ts h r := by
 rcases countT_eq _ (tH_asc hs) h r with ⟨x, hx, h1, h2, h3, _⟩ | ⟨h1, h2, _⟩
 ·rw [h3]
  rcases countT_eq _ hs h r with ⟨y, hy, k1, k2, k3, _⟩ | ⟨k1, k2, _⟩
  ·rw [k3, tasc_key hs ((tH_mem _ _ _).1 hx).1 hy (by omega) (by rw [h2, k2])]
  ·exact absurd ⟨h1, h2⟩ (k1 x ((tH_mem _ _ _).1 hx).1)
 ·rw [h2]
  rcases countT_eq _ hs h r with ⟨y, hy, k1, k2, k3, _⟩ | ⟨k1, k2, _⟩
  ·exact absurd ⟨k1, k2⟩ (h1 y ((tH_mem _ _ _).2 ⟨hy, k1⟩))
  ·exact k2.symm
theorem setM_fH {ms : List Mrk} (hs : MAsc ms) (m : Mrk) : fH m.h (setM ms m) = setM (fH m.h ms) m := by
 refine masc_ext (fH_asc (setM_asc _ _ hs)) (setM_asc _ _ (fH_asc hs)) fun x => ?_
 rw [fH_mem, setM_mem _ _ hs, setM_mem _ _ (fH_asc hs), fH_mem]
 constructor
 ·rintro ⟨rfl | ⟨h1, h2⟩, h3⟩
  ·exact .inl rfl
  ·exact .inr ⟨⟨h1, h3⟩, h2⟩
 ·rintro (rfl | ⟨⟨h1, h3⟩, h2⟩)
  ·exact ⟨.inl rfl, rfl⟩
  ·exact ⟨.inr ⟨h1, h2⟩, h3⟩
theorem setM_fH' {ms : List Mrk} (hs : MAsc ms) (m : Mrk) (h : Int) (hn : m.h ≠ h) : fH h (setM ms m) = fH h ms := by
 refine masc_ext (fH_asc (setM_asc _ _ hs)) (fH_asc hs) fun x => ?_
 rw [fH_mem, setM_mem _ _ hs, fH_mem]
 constructor
 ·rintro ⟨rfl | ⟨h1, h2⟩, h3⟩
  ·exact absurd h3 hn
  ·exact ⟨h1, h3⟩
 ·rintro ⟨h1, h3⟩
  exact ⟨.inr ⟨h1, fun hh => hn (hh.1.symm.trans h3)⟩, h3⟩
theorem addT_tH {ts : List Tal} (hs : TAsc ts) (h : Int) (r : Str) (n : Int) : tH h (addT ts h r n) = addT (tH h ts) h r n := by
 by_cases hn : n < 1
 ·simp [-bind_some, addT, hn]
 refine tasc_ext (tH_asc (addT_asc hs _ _ _)) (addT_asc (tH_asc hs) _ _ _) fun x => ?_
 rw [tH_mem, addT_mem _ hs _ _ _ hn, addT_mem _ (tH_asc hs) _ _ _ hn, tH_mem, countT_tH hs]
 constructor
 ·rintro ⟨rfl | ⟨h1, h2⟩, h3⟩
  ·exact .inl rfl
  ·exact .inr ⟨⟨h1, h3⟩, h2⟩
 ·rintro (rfl | ⟨⟨h1, h3⟩, h2⟩)
  ·exact ⟨.inl rfl, rfl⟩
  ·exact ⟨.inr ⟨h1, h2⟩, h3⟩
theorem addT_tH' {ts : List Tal} (hs : TAsc ts) (hst : Int) (r : Str) (n : Int) (h : Int) (hne : hst ≠ h) : tH h (addT ts hst r n) = tH h ts := by
 by_cases hn : n < 1
 ·simp [-bind_some, addT, hn]
 refine tasc_ext (tH_asc (addT_asc hs _ _ _)) (tH_asc hs) fun x => ?_
 rw [tH_mem, addT_mem _ hs _ _ _ hn, tH_mem]
 constructor
 ·rintro ⟨rfl | ⟨h1, h2⟩, h3⟩
  ·exact absurd h3 hne
  ·exact ⟨h1, h3⟩
 ·rintro ⟨h1, h3⟩
  exact ⟨.inr ⟨h1, fun hh => hne (hh.1.symm.trans h3)⟩, h3⟩
theorem apS_facts (hb : Int) : ∀ (its : List It), (∀ i ∈ its, i.e.a0 = hb) → ∀ (ms : List Mrk) (ts : List Tal), MAsc ms → TAsc ts →
  (apS ms ts its).map (fun s => (fH hb s.1, tH hb s.2)) = apS (fH hb ms) (tH hb ts) its ∧
  ∀ s, apS ms ts its = some s → MAsc s.1 ∧ TAsc s.2 ∧ s.1.length ≤ ms.length + its.length ∧ s.2.length ≤ ts.length + 2 * its.length ∧ (∀ h, h ≠ hb → fH h s.1 = fH h ms ∧ tH h s.2 = tH h ts) ∧ (∀ m ∈ s.1, m ∈ ms ∨ m.h = hb) ∧ (∀ m ∈ s.2, m ∈ ts ∨ m.h = hb)
 | [], _, ms, ts, hm, ht => by
  refine ⟨rfl, fun s hs => ?_⟩
  simp only [apS, Option.some.injEq] at hs
  subst hs
  exact ⟨hm, ht, by simp, by simp, fun _ _ => ⟨rfl, rfl⟩, fun m h => .inl h, fun m h => .inl h⟩
 | i :: r, hi, ms, ts, hm, ht => by
  have h0 := hi i (by simp)
  have hr : ∀ x ∈ r, x.e.a0 = hb := fun x hx => hi x (by simp [-bind_some, hx])
  rw [apS_cons, apS_cons]
  rw [h0, markOf_fH hm]
  cases hO : tkO (markOf ms hb i.e.a1) i with
  | none => exact ⟨rfl, fun s hs => by cases hs⟩
  | some o =>
   cases o with
   | none =>
    have hta := addT_asc ht hb dupR i.e.ls.length
    obtain ⟨k1, k2⟩ := apS_facts hb r hr ms _ hm hta
    simp only
    rw [← addT_tH ht]
    refine ⟨k1, fun s hs => ?_⟩
    obtain ⟨q1, q2, q3, q4, q5, q6, q7⟩ := k2 s hs
    have hal := addT_len ts hb dupR i.e.ls.length
    refine ⟨q1, q2, by simp; omega, by simp; omega, fun h hne => ⟨(q5 h hne).1, (q5 h hne).2.trans (addT_tH' ht _ _ _ _ (Ne.symm hne))⟩, q6, fun m hm' => ?_⟩
    rcases q7 m hm' with h | h
    ·by_cases hn : (i.e.ls.length : Int) < 1
     ·left; simpa [-bind_some, addT, hn] using h
     ·rcases (addT_mem _ ht _ _ _ hn m).1 h with rfl | ⟨h, _⟩
      ·exact .inr rfl
      ·exact .inl h
    ·exact .inr h
   | some k =>
    have hta := addT_asc ht hb dupR (k : Nat)
    have hta2 := addT_asc hta hb i.r ((i.e.ls.length - k : Nat) : Int)
    have hma := setM_asc ms ⟨hb, i.e.a1, i.e.a3⟩ hm
    obtain ⟨k1, k2⟩ := apS_facts hb r hr _ _ hma hta2
    simp only
    have e1 : setM (fH hb ms) ⟨hb, i.e.a1, i.e.a3⟩ = fH hb (setM ms ⟨hb, i.e.a1, i.e.a3⟩) := (setM_fH hm ⟨hb, i.e.a1, i.e.a3⟩).symm
    rw [e1, ← addT_tH ht, ← addT_tH hta]
    refine ⟨k1, fun s hs => ?_⟩
    obtain ⟨q1, q2, q3, q4, q5, q6, q7⟩ := k2 s hs
    have hal := addT_len ts hb dupR (k : Nat)
    have hal2 := addT_len (addT ts hb dupR (k : Nat)) hb i.r ((i.e.ls.length - k : Nat) : Int)
    have hsl := setM_len ms ⟨hb, i.e.a1, i.e.a3⟩
    have mem2 : ∀ (ts : List Tal), TAsc ts → ∀ (r : Str) (n : Int) (m : Tal), m ∈ addT ts hb r n → m ∈ ts ∨ m.h = hb := fun ts ht r n m h => by
     by_cases hn : n < 1
     ·left; simpa [-bind_some, addT, hn] using h
     ·rcases (addT_mem _ ht _ _ _ hn m).1 h with rfl | ⟨h, _⟩
      ·exact .inr rfl
      ·exact .inl h
    refine ⟨q1, q2, by simp; omega, by simp; omega, fun h hne => ⟨(q5 h hne).1.trans (setM_fH' hm _ _ (Ne.symm hne)), (q5 h hne).2.trans ((addT_tH' hta _ _ _ _ (Ne.symm hne)).trans (addT_tH' ht _ _ _ _ (Ne.symm hne)))⟩, fun m hm' => ?_, fun m hm' => ?_⟩
    ·rcases q6 m hm' with h | h
     ·rcases (setM_mem _ _ hm m).1 h with rfl | ⟨h, _⟩
      ·exact .inr rfl
      ·exact .inl h
     ·exact .inr h
    ·rcases q7 m hm' with h | h
     ·rcases mem2 _ hta _ _ m h with h | h
      ·exact mem2 _ ht _ _ m h
      ·exact .inr h
     ·exact .inr h
theorem s1092r (l : List Mrk) (da db : D) (h : Hp) (ha : SlOf 3 mrkr l da) (hb : SlOf 3 mrkr l db) (hl : l.length ≤ 1000000) : R fn1092 [da, db] h = some (.bool true, h) := by
 suffices Wp (R fn1092 [da, db] h) (fun p => p = (.bool true, h)) by
  obtain ⟨p, h1, rfl⟩ := this
  exact h1
 rw [e1092]
 simp only [F1092, bs, Option.bind_assoc, lens1007 ha, lens1007 hb, dBin_neq, ne_eq, not_true, decide_false, dIf_bool, Bool.false_eq_true, if_false]
 refine Wp.loop (fun n ds g => g = h ∧ ∃ x y z, ∃ i : Nat, ds = [x, .int .i64 i, y, z] ∧ n + i = l.length)
  (fun r => r.1 = .ext 0 ∧ r.2.2 = h) l.length ⟨rfl, _, _, _, 0, rfl, rfl⟩ ?_ ?_
 ·rintro n ds g ⟨rfl, x, y, z, i, rfl, hi⟩
  simp only [F1092_L0, nth_zero, nth_succ, bs, Option.bind_assoc, lens1007 ha, dBin_lss]
  refine Wp.dif ?_ ?_
  ·intro h0
   have h0 : i < l.length := by have : (i : Int) < l.length := by simpa using h0
                                omega
   have hg : l[i]? = some l[i] := List.getElem?_eq_getElem h0
   generalize l[i] = u at hg
   have ia : dIndexAddr tab ty1007 da (.int .i64 i) = some (.fptr (mrkr u)) := by rw [ixs1007 ha]; simp [-bind_some, hg]
   have ib : dIndexAddr tab ty1007 db (.int .i64 i) = some (.fptr (mrkr u)) := by rw [ixs1007 hb]; simp [-bind_some, hg]
   have hw : IntKind.wrap .i64 ((i : Int) + 1) = ((i + 1 : Nat) : Int) := by
    rw [wrap_i64 (by omega) (by omega)]; omega
   have hn : dBin tab .neq ty1006 (.agg (mrkr u)) (.agg (mrkr u)) = some (.bool false) := by
    have := bneq1006 u.h u.h u.f u.f u.o u.o
    simpa [-bind_some, mrkr] using this
   simp only [ia, ib, mrkr_ld, hn, bs, dIf_bool, Bool.false_eq_true, if_false, dBin_add, hw]
   exact .some (.inl ⟨rfl, n - 1, by omega, rfl, _, _, _, i + 1, rfl, by omega⟩)
  ·intro _
   exact .some (.inr ⟨by simp, rfl, rfl⟩)
 ·rintro ⟨ex, ds, g⟩ ⟨q1, q2⟩
  simp only at q1 q2
  subst q1; subst q2
  simp only [unblk_self, toEnd_nrm, bs, mkRes_one]
  exact .some rfl
theorem s1090r (ms : List Mrk) (ts : List Tal) (d1 d2 e1 e2 : D) (h : Hp) (h1 : SlOf 3 mrkr ms d1) (h2 : SlOf 3 mrkr ms d2) (k1 : SlOf 3 talr ts e1) (k2 : SlOf 3 talr ts e2) (hl : ms.length ≤ 1000000) (hl2 : ts.length ≤ 1000000) : R fn1090 [.agg [d1, e1], .agg [d2, e2]] h = some (.bool true, h) := by
 rw [e1090]
 simp only [F1090, pBoxF_agg, bs, fa1009_0, ld1007, s1092r ms d1 d2 h h1 h2 hl, gd_bool, if_true, fa1009_1, ld58, gdW_bool, s30r ts e1 e2 h k1 k2 hl2, dPick_bool, mkRes_one]
structure SOrd {α : Type} (c : α → α → Int) (S Pre : α → α → Prop) : Prop where
 tr : ∀ x y z, S x y → S y z → S x z
 lt : ∀ x y, Pre x y → c y x < 0 → S y x
 ge : ∀ x y, Pre x y → ¬ c y x < 0 → S x y
theorem pw_ins {α : Type} {c : α → α → Int} {S Pre : α → α → Prop} (o : SOrd c S Pre) {A1 A2 : List α} {x : α} (hA : (A1 ++ A2).Pairwise S) (hp : ∀ y ∈ A1 ++ A2, Pre y x)
  (h2 : A2 = [] ∨ ∃ y r, A2 = y :: r ∧ c x y < 0) (h1 : A1 = [] ∨ ∃ y r, A1 = r ++ [y] ∧ ¬ c x y < 0) : (A1 ++ x :: A2).Pairwise S := by
 rw [List.pairwise_append] at hA ⊢
 obtain ⟨p1, p2, p3⟩ := hA
 have q1 : ∀ a ∈ A1, S a x := by
  rcases h1 with rfl | ⟨y, r, rfl, hy⟩
  ·intro a ha; cases ha
  ·intro a ha
   have hyx : S y x := o.ge y x (hp y (by simp)) hy
   rw [List.pairwise_append] at p1
   rcases List.mem_append.1 ha with ha | ha
   ·exact o.tr _ _ _ (p1.2.2 a ha y (by simp)) hyx
   ·simp at ha; subst ha; exact hyx
 have q2 : ∀ b ∈ A2, S x b := by
  rcases h2 with rfl | ⟨y, r, rfl, hy⟩
  ·intro a ha; cases ha
  ·intro b hb
   have hxy : S x y := o.lt y x (hp y (by simp)) hy
   rw [List.pairwise_cons] at p2
   rcases List.mem_cons.1 hb with rfl | hb
   ·exact hxy
   ·exact o.tr _ _ _ hxy (p2.1 b hb)
 refine ⟨p1, List.pairwise_cons.2 ⟨q2, p2⟩, fun a ha b hb => ?_⟩
 rcases List.mem_cons.1 hb with rfl | hb
 ·exact q1 a ha
 ·exact p3 a ha b hb
theorem dn_spec {α : Type} (c : α → α → Int) (P : List α) (x : α) : ∀ (R : List α) (Q : List α), ∃ A1 A2, R.reverse = A1 ++ A2 ∧ dn c P.length (P.length + R.length) (P ++ R.reverse ++ x :: Q) = P ++ A1 ++ x :: A2 ++ Q ∧
  (A2 = [] ∨ ∃ y r, A2 = y :: r ∧ c x y < 0) ∧ (A1 = [] ∨ ∃ y r, A1 = r ++ [y] ∧ ¬ c x y < 0)
 | [], Q => ⟨[], [], rfl, by
   cases P with
   | nil => simp [-bind_some, dn]
   | cons p P =>
    simp only [List.length_cons, List.length_nil, Nat.add_zero, List.reverse_nil, List.append_nil]
    unfold dn
    split
    ·rw [if_neg (by omega)]; simp [-bind_some]
    ·simp [-bind_some], .inl rfl, .inl rfl⟩
 | y :: R, Q => by
  have g1 : (P ++ (y :: R).reverse ++ x :: Q)[P.length + R.length + 1]? = some x := by
   rw [List.getElem?_append_right (by simp; omega)]
   simp [-bind_some]
   try (have : P.length + R.length + 1 - (P.length + (R.length + 1)) = 0 := by omega
        rw [this]; rfl)
  have g0 : (P ++ (y :: R).reverse ++ x :: Q)[P.length + R.length]? = some y := by
   rw [List.getElem?_append_left (by simp), List.getElem?_append_right (by omega)]
   simp [-bind_some]
  rw [List.length_cons, ← Nat.add_assoc]
  unfold dn
  rw [g1, g0]
  simp only
  by_cases hc : c x y < 0
  ·rw [if_pos ⟨by omega, hc⟩]
   have hs : ((P ++ (y :: R).reverse ++ x :: Q).set (P.length + R.length + 1) y).set (P.length + R.length) x = P ++ R.reverse ++ x :: (y :: Q) := by
    have e1 : P ++ (y :: R).reverse ++ x :: Q = (P ++ R.reverse) ++ y :: x :: Q := by simp
    rw [e1]
    have l1 : (P ++ R.reverse).length = P.length + R.length := by simp
    rw [List.set_append_right _ _ (by omega), List.set_append_right _ _ (by omega), l1]
    have : P.length + R.length + 1 - (P.length + R.length) = 1 := by omega
    rw [this, Nat.sub_self]
    rfl
   rw [hs]
   obtain ⟨A1, A2, h1, h2, h3, h4⟩ := dn_spec c P x R (y :: Q)
   refine ⟨A1, A2 ++ [y], by simp [-bind_some, h1], by rw [h2]; simp [-bind_some], ?_, h4⟩
   rcases h3 with rfl | ⟨u, r, rfl, hu⟩
   ·exact .inr ⟨y, [], rfl, hc⟩
   ·exact .inr ⟨u, r ++ [y], rfl, hu⟩
  ·rw [if_neg (fun hh => hc hh.2)]
   exact ⟨(y :: R).reverse, [], by simp, by simp, .inl rfl, .inr ⟨y, R.reverse, by simp, hc⟩⟩
theorem dn_ins {α : Type} (c : α → α → Int) (P A Q : List α) (x : α) : ∃ A1 A2, A = A1 ++ A2 ∧ dn c P.length (P.length + A.length) (P ++ A ++ x :: Q) = P ++ A1 ++ x :: A2 ++ Q ∧
  (A2 = [] ∨ ∃ y r, A2 = y :: r ∧ c x y < 0) ∧ (A1 = [] ∨ ∃ y r, A1 = r ++ [y] ∧ ¬ c x y < 0) := by
 have := dn_spec c P x A.reverse Q
 simpa using this
theorem isr_ok {α : Type} {c : α → α → Int} {S Pre : α → α → Prop} (o : SOrd c S Pre) (P Q : List α) : ∀ (B A : List α), A.Pairwise S → (∀ x ∈ A, ∀ y ∈ B, Pre x y) → B.Pairwise Pre →
  ∃ C, isr c P.length (P.length + A.length) B.length (P ++ A ++ B ++ Q) = P ++ C ++ Q ∧ C.Perm (A ++ B) ∧ C.Pairwise S
 | [], A, hA, _, _ => ⟨A, by simp [-bind_some, isr], by simp, hA⟩
 | x :: B, A, hA, hp, hB => by
  rw [List.pairwise_cons] at hB
  obtain ⟨A1, A2, rfl, h2, h3, h4⟩ := dn_ins c P A (B ++ Q) x
  have hA' : (A1 ++ x :: A2).Pairwise S := pw_ins o hA (fun y hy => hp y hy x (by simp)) h3 h4
  have e1 : P ++ (A1 ++ A2) ++ x :: B ++ Q = P ++ (A1 ++ A2) ++ x :: (B ++ Q) := by simp
  have hpm : (A1 ++ x :: A2).Perm (x :: (A1 ++ A2)) := List.perm_middle
  obtain ⟨C, q1, q2, q3⟩ := isr_ok o P Q B (A1 ++ x :: A2) hA' (fun u hu v hv => by
   rcases List.mem_cons.1 (hpm.mem_iff.1 hu) with rfl | hu
   ·exact hB.1 v hv
   ·exact hp u hu v (by simp [-bind_some, hv])) hB.2
  refine ⟨C, ?_, q2.trans ?_, q3⟩
  ·rw [List.length_cons]
   unfold isr
   rw [e1, h2, ← q1]
   have e2 : P.length + (A1 ++ A2).length + 1 = P.length + (A1 ++ x :: A2).length := by simp; omega
   have e3 : P ++ A1 ++ x :: A2 ++ (B ++ Q) = P ++ (A1 ++ x :: A2) ++ B ++ Q := by simp
   rw [e2, e3]
  ·have : ((A1 ++ x :: A2) ++ B).Perm ((x :: (A1 ++ A2)) ++ B) := hpm.append_right B
   refine this.trans ?_
   simpa using (List.perm_middle (l₁ := A1 ++ A2) (l₂ := B) (a := x)).symm
inductive Blk {α : Type} (S Pre : α → α → Prop) (k : Nat) : List α → Prop
 | last (A : List α) (hl : A.length ≤ k) (hs : A.Pairwise S) : Blk S Pre k A
 | cons (A Y : List α) (hl : A.length = k) (hs : A.Pairwise S) (hp : ∀ x ∈ A, ∀ y ∈ Y, Pre x y) (hY : Blk S Pre k Y) : Blk S Pre k (A ++ Y)
theorem Blk.all {α : Type} {S Pre : α → α → Prop} {k : Nat} {l : List α} (h : Blk S Pre k l) (hl : l.length ≤ k) : l.Pairwise S := by
 cases h with
 | last _ _ hs => exact hs
 | cons A Y hA hs hp hY =>
  have : Y = [] := by
   simp at hl
   exact List.length_eq_zero_iff.1 (by omega)
  subst this
  simpa using hs
theorem Blk.fst {α : Type} {S Pre : α → α → Prop} {k : Nat} {l : List α} (h : Blk S Pre k l) (hl : k ≤ l.length) : ∃ A Y, l = A ++ Y ∧ A.length = k ∧ A.Pairwise S ∧ (∀ x ∈ A, ∀ y ∈ Y, Pre x y) ∧ Blk S Pre k Y := by
 cases h with
 | last _ h1 hs => exact ⟨l, [], by simp, by omega, hs, by simp, .last [] (by simp) List.Pairwise.nil⟩
 | cons A Y hA hs hp hY => exact ⟨A, Y, rfl, hA, hs, hp, hY⟩
def CtxB {α : Type} (S Pre : α → α → Prop) (k : Nat) (X Y : List α) : Prop := ∀ Z : List α, Z.Perm Y → Blk S Pre k Z → Blk S Pre k (X ++ Z)
theorem CtxB.nil {α : Type} {S Pre : α → α → Prop} {k : Nat} {Y : List α} : CtxB S Pre k [] Y := fun Z _ h => h
theorem CtxB.step {α : Type} {S Pre : α → α → Prop} {k : Nat} {X A Y C : List α} (h : CtxB S Pre k X (A ++ Y)) (hC : C.Perm A) (hl : C.length = k) (hs : C.Pairwise S) (hp : ∀ x ∈ A, ∀ y ∈ Y, Pre x y) : CtxB S Pre k (X ++ C) Y := fun Z hZ hb => by
 rw [List.append_assoc]
 exact h (C ++ Z) (hC.append hZ) (.cons C Z hl hs (fun x hx y hy => hp x (hC.mem_iff.1 hx) y (hZ.mem_iff.1 hy)) hb)
theorem CtxB.done {α : Type} {S Pre : α → α → Prop} {k : Nat} {X Y Z : List α} (h : CtxB S Pre k X Y) (hZ : Z.Perm Y) (hl : Z.length ≤ k) (hs : Z.Pairwise S) : Blk S Pre k (X ++ Z) := h Z hZ (.last Z hl hs)
theorem halves {α : Type} {c : α → α → Int} {S Pre : α → α → Prop} (o : SOrd c S Pre) {A1 A2 B1 B2 C1 C2 : List α} (hA : (A1 ++ A2).Pairwise S) (hB : (B1 ++ B2).Pairwise S) (hp : ∀ x ∈ A1 ++ A2, ∀ y ∈ B1 ++ B2, Pre x y)
  (h1 : A1 = [] ∨ B2 = [] ∨ ∃ x y r s, A1 = r ++ [x] ∧ B2 = y :: s ∧ ¬ c y x < 0) (h2 : A2 = [] ∨ B1 = [] ∨ ∃ x y r s, B1 = r ++ [y] ∧ A2 = x :: s ∧ c y x < 0)
  (p1 : C1.Perm (A1 ++ B1)) (s1 : C1.Pairwise S) (p2 : C2.Perm (A2 ++ B2)) (s2 : C2.Pairwise S) : (C1 ++ C2).Perm ((A1 ++ A2) ++ (B1 ++ B2)) ∧ (C1 ++ C2).Pairwise S := by
 rw [List.pairwise_append] at hA hB
 have x1 : ∀ x ∈ A1, ∀ y ∈ B2, S x y := by
  intro x hx y hy
  rcases h1 with rfl | rfl | ⟨u, v, r, s, rfl, rfl, huv⟩
  ·cases hx
  ·cases hy
  ·have huv : S u v := o.ge u v (hp u (by simp) v (by simp)) huv
   have q1 : x = u ∨ S x u := by
    have := hA.1
    rw [List.pairwise_append] at this
    rcases List.mem_append.1 hx with hx | hx
    ·exact .inr (this.2.2 x hx u (by simp))
    ·simp at hx; exact .inl hx
   have q2 : y = v ∨ S v y := by
    have := hB.2.1
    rw [List.pairwise_cons] at this
    rcases List.mem_cons.1 hy with rfl | hy
    ·exact .inl rfl
    ·exact .inr (this.1 y hy)
   rcases q1 with rfl | q1 <;> rcases q2 with rfl | q2
   ·exact huv
   ·exact o.tr _ _ _ huv q2
   ·exact o.tr _ _ _ q1 huv
   ·exact o.tr _ _ _ (o.tr _ _ _ q1 huv) q2
 have x2 : ∀ y ∈ B1, ∀ x ∈ A2, S y x := by
  intro y hy x hx
  rcases h2 with rfl | rfl | ⟨u, v, r, s, rfl, rfl, huv⟩
  ·cases hx
  ·cases hy
  ·have huv : S v u := o.lt u v (hp u (by simp) v (by simp)) huv
   have q1 : y = v ∨ S y v := by
    have := hB.1
    rw [List.pairwise_append] at this
    rcases List.mem_append.1 hy with hy | hy
    ·exact .inr (this.2.2 y hy v (by simp))
    ·simp at hy; exact .inl hy
   have q2 : x = u ∨ S u x := by
    have := hA.2.1
    rw [List.pairwise_cons] at this
    rcases List.mem_cons.1 hx with rfl | hx
    ·exact .inl rfl
    ·exact .inr (this.1 x hx)
   rcases q1 with rfl | q1 <;> rcases q2 with rfl | q2
   ·exact huv
   ·exact o.tr _ _ _ huv q2
   ·exact o.tr _ _ _ q1 huv
   ·exact o.tr _ _ _ (o.tr _ _ _ q1 huv) q2
 refine ⟨?_, List.pairwise_append.2 ⟨s1, s2, fun a ha b hb => ?_⟩⟩
 ·refine (p1.append p2).trans ?_
  have : (B1 ++ (A2 ++ B2)).Perm (A2 ++ (B1 ++ B2)) := by
   rw [← List.append_assoc, ← List.append_assoc]
   exact List.perm_append_comm.append_right B2
  simpa using this.append_left A1
 ·rcases List.mem_append.1 (p1.mem_iff.1 ha) with ha | ha <;> rcases List.mem_append.1 (p2.mem_iff.1 hb) with hb | hb
  ·exact hA.2.2 a ha b hb
  ·exact x1 a ha b hb
  ·exact x2 a ha b hb
  ·exact hB.2.2 a ha b hb
theorem set_spl (row : List D) (off : Nat) (v : D) (hv : v.one = true) (ho : off < row.length) : spl row off (cells1 v) = row.set off v := by
 rw [(one_cells hv).1]
 simp only [spl, List.length_singleton]
 rw [List.set_eq_take_append_cons_drop, if_pos ho]
 simp [-bind_some]
theorem mkRes_3 (a b c : D) : mkRes [a, b, c] = .tup [a, b, c] := rfl
def RdI (g : Hp) (its : List It) (d : D) : Prop := SlOf 11 itr its d ∨ ∃ n0, Own g n0 ty74 11 (its.map itr) d
theorem RdI.keep {g g' : Hp} {its : List It} {d : D} (hd : RdI g its d) (hk : ∀ q, q < g.length → g'[q]? = g[q]?) : RdI g' its d := by
 rcases hd with hd | ⟨n0, ow⟩
 ·exact .inl hd
 ·exact .inr ⟨n0, ow.keep fun q _ hx => hk q (ow.lt hx).2⟩
theorem rdI_len {g : Hp} {its : List It} {d : D} (hd : RdI g its d) : dLenT tab ty113 d = some (.int .i64 its.length) := by
 rcases hd with hd | ⟨n0, ow⟩
 ·exact lens113 hd
 ·rw [leno113 ow, List.length_map]
theorem rdI_ix {g : Hp} {its : List It} {d : D} (hd : RdI g its d) (n : Nat) (i : It) (hi : its[n]? = some i) : ∃ q, dIndexAddr tab ty113 d (.int .i64 n) = some q ∧ dLoad tab g ty74 q = some (.agg (itr i)) := by
 rcases hd with hd | ⟨n0, ow⟩
 ·exact ⟨.fptr (itr i), by rw [ixs113 hd]; simp [-bind_some, hi], ldIt i g⟩
 ·have hn : n < its.length := (List.getElem?_eq_some_iff.1 hi).1
  obtain ⟨o, ho, rfl, hob⟩ := own_ix ow (i := n) (by simpa using hn)
  refine ⟨.ptr o n 0, ?_, ?_⟩
  ·rw [ixm113, if_pos (by simp; omega)]; simp [-bind_some]
  ·have hr : (its.map itr)[n]? = some (itr i) := by rw [List.getElem?_map, hi]; rfl
   rw [ldp74, row_of hob, hr]
   rfl
def batx (hs nu : Int) (d : D) : List D := [.int .i64 hs, .int .i64 nu, d]
theorem bx0 (hs nu : Int) (d : D) : dFieldAddr tab ty1064 0 (.fptr (batx hs nu d)) = some (.fptr (batx hs nu d)) := id rfl
theorem bx2 (hs nu : Int) (d : D) : dFieldAddr tab ty1064 2 (.fptr (batx hs nu d)) = some (.fptr [d]) := id rfl
theorem bxl (hs nu : Int) (d : D) (g : Hp) : dLoad tab g ty3 (.fptr (batx hs nu d)) = some (.int .i64 hs) := id rfl
theorem set_mid {α : Type} (A B : List α) (x y : α) (n : Nat) (hn : A.length = n) : (A ++ x :: B).set n y = A ++ y :: B := by
 subst hn
 rw [List.set_append_right _ _ (Nat.le_refl _)]
 simp [-bind_some]
theorem get_midn {α : Type} (A B : List α) (x : α) (n : Nat) (hn : A.length = n) : (A ++ x :: B)[n]? = some x := by
 subst hn
 simp [-bind_some]
theorem fldL {g : Hp} {o n : Nat} {rows : List (Str × Str)} {p : Str × Str} (ho : g[o]? = some (.row ty109 2 (rows.map fld))) (hp : rows[n]? = some p) : dLoad tab g ty109 (.ptr o n 0) = some (.agg (fld p)) := by
 have hr : (rows.map fld)[n]? = some (fld p) := by rw [List.getElem?_map, hp]; rfl
 rw [ldp109, row_of ho, hr]
 rfl
theorem w1069 {g : Hp} {o N : Nat} {P X M Y Q : List (Str × Str)} (hN : N ≤ 1000000000) (hlen : (P ++ X ++ M ++ Y ++ Q).length = N) (hxy : X.length = Y.length) (ho : g[o]? = some (.row ty109 2 ((P ++ X ++ M ++ Y ++ Q).map fld))) (cmp : D) (a b k : Int) (ha : a = P.length) (hb : b = (P.length + X.length + M.length : Nat)) (hk : k = X.length) {β : Type} {f : D × Hp → Option β} {R1 : β → Prop}
  (K : ∀ g', g'[o]? = some (.row ty109 2 ((P ++ Y ++ M ++ X ++ Q).map fld)) → Same o g g' → Wp (f (mkRes [], g')) R1) : Wp ((R fn1069 [.msl 2 o 0 N, .int .i64 a, .int .i64 b, .int .i64 k, cmp] g).bind f) R1 := by
 subst ha hb hk
 rw [e1069]
 simp only [F1069, bs, Option.bind_assoc]
 simp only [List.length_append] at hlen
 refine Wp.loop (fun kk ds g' => ∃ x, ∃ i : Nat, ds = [.int .i64 i, x] ∧ kk + i = X.length ∧ Same o g g' ∧ g'[o]? = some (.row ty109 2 ((P ++ Y.take i ++ X.drop i ++ M ++ X.take i ++ Y.drop i ++ Q).map fld)))
  (fun r => r.1 = .ext 0 ∧ (∃ x y, r.2.1 = [x, y]) ∧ Same o g r.2.2 ∧ r.2.2[o]? = some (.row ty109 2 ((P ++ Y ++ M ++ X ++ Q).map fld))) X.length ⟨_, 0, rfl, rfl, ⟨rfl, fun _ _ => rfl⟩, by simpa using ho⟩ ?_ ?_
 ·rintro kk ds g' ⟨x1, i, rfl, hk, sm, ho'⟩
  simp only [F1069_L0, nth_zero, nth_succ, bs, Option.bind_assoc, dBin_lss]
  refine Wp.dif ?_ ?_
  ·intro h0
   have h0 : i < X.length := by have : (i : Int) < X.length := by simpa using h0
                                omega
   obtain ⟨x, hx⟩ : ∃ x, X[i]? = some x := ⟨_, List.getElem?_eq_getElem h0⟩
   obtain ⟨y, hy⟩ : ∃ y, Y[i]? = some y := ⟨_, List.getElem?_eq_getElem (by omega)⟩
   have hdx : X.drop i = x :: X.drop (i + 1) := by
    obtain ⟨hn, hh⟩ := List.getElem?_eq_some_iff.1 hx
    rw [List.drop_eq_getElem_cons hn, hh]
   have hdy : Y.drop i = y :: Y.drop (i + 1) := by
    obtain ⟨hn, hh⟩ := List.getElem?_eq_some_iff.1 hy
    rw [List.drop_eq_getElem_cons hn, hh]
   have hw : IntKind.wrap .i64 ((i : Int) + 1) = ((i + 1 : Nat) : Int) := by
    rw [wrap_i64 (by omega) (by omega)]; omega
   have wa : IntKind.wrap .i64 ((P.length : Int) + i) = ((P.length + i : Nat) : Int) := by
    rw [wrap_i64 (by omega) (by omega)]; omega
   have wb : IntKind.wrap .i64 (((P.length + X.length + M.length : Nat) : Int) + i) = ((P.length + X.length + M.length + i : Nat) : Int) := by
    rw [wrap_i64 (by omega) (by omega)]; omega
   have e1 : P ++ Y.take i ++ X.drop i ++ M ++ X.take i ++ Y.drop i ++ Q = (P ++ Y.take i) ++ x :: (X.drop (i + 1) ++ M ++ X.take i ++ y :: (Y.drop (i + 1) ++ Q)) := by rw [hdx, hdy]; simp [-bind_some]
   have e2 : (P ++ Y.take i) ++ x :: (X.drop (i + 1) ++ M ++ X.take i ++ y :: (Y.drop (i + 1) ++ Q)) = (P ++ Y.take i ++ x :: (X.drop (i + 1) ++ M ++ X.take i)) ++ y :: (Y.drop (i + 1) ++ Q) := by simp
   have e3 : (P ++ Y.take i) ++ y :: (X.drop (i + 1) ++ M ++ X.take i ++ y :: (Y.drop (i + 1) ++ Q)) = (P ++ Y.take i ++ y :: (X.drop (i + 1) ++ M ++ X.take i)) ++ y :: (Y.drop (i + 1) ++ Q) := by simp
   have e4 : (P ++ Y.take i ++ y :: (X.drop (i + 1) ++ M ++ X.take i)) ++ x :: (Y.drop (i + 1) ++ Q) = P ++ Y.take (i + 1) ++ X.drop (i + 1) ++ M ++ X.take (i + 1) ++ Y.drop (i + 1) ++ Q := by
    rw [List.take_add_one, List.take_add_one, hx, hy]; simp [-bind_some]
   have n1 : (P ++ Y.take i).length = P.length + i := by simp; omega
   have n2 : ∀ z, (P ++ Y.take i ++ z :: (X.drop (i + 1) ++ M ++ X.take i)).length = P.length + X.length + M.length + i := fun z => by simp; omega
   rw [e1] at ho'
   have la := fldL ho' (get_midn _ _ x _ n1)
   have lb := fldL ho' (by rw [e2]; exact get_midn _ _ y _ (n2 x))
   have ia : dIndexAddr tab ty29 (.msl 2 o 0 N) (.int .i64 ((P.length + i : Nat) : Int)) = some (.ptr o (P.length + i) 0) := by rw [ixm29, if_pos (by omega), Int.toNat_natCast, Nat.zero_add]
   have ib : dIndexAddr tab ty29 (.msl 2 o 0 N) (.int .i64 ((P.length + X.length + M.length + i : Nat) : Int)) = some (.ptr o (P.length + X.length + M.length + i) 0) := by rw [ixm29, if_pos (by omega), Int.toNat_natCast, Nat.zero_add]
   simp only [dBin_add, wa, wb, ia, ib, la, lb, bs, Option.bind_assoc]
   have ra : (((P ++ Y.take i) ++ x :: (X.drop (i + 1) ++ M ++ X.take i ++ y :: (Y.drop (i + 1) ++ Q))).map fld)[P.length + i]? = some (fld x) := by rw [List.getElem?_map, get_midn _ _ x _ n1]; rfl
   refine wst109 (off := 0) (row := fld x) (v := .agg (fld y)) ho' ra (by rfl) (by exact Nat.le_refl _) (by rfl) fun g1 p1 w1 => ?_
   have p1 : g1[o]? = some (.row ty109 2 (((P ++ Y.take i ++ y :: (X.drop (i + 1) ++ M ++ X.take i)) ++ y :: (Y.drop (i + 1) ++ Q)).map fld)) := by
    rw [p1, show spl (fld x) 0 (cells1 (.agg (fld y))) = fld y from rfl, ← List.map_set, set_mid _ _ x y _ n1, e3]
   try simp only [bs]
   have rb : (((P ++ Y.take i ++ y :: (X.drop (i + 1) ++ M ++ X.take i)) ++ y :: (Y.drop (i + 1) ++ Q)).map fld)[P.length + X.length + M.length + i]? = some (fld y) := by rw [List.getElem?_map, get_midn _ _ y _ (n2 y)]; rfl
   refine wst109 (off := 0) (row := fld y) (v := .agg (fld x)) p1 rb (by rfl) (by exact Nat.le_refl _) (by rfl) fun g2 p2 w2 => ?_
   have p2 : g2[o]? = some (.row ty109 2 ((P ++ Y.take (i + 1) ++ X.drop (i + 1) ++ M ++ X.take (i + 1) ++ Y.drop (i + 1) ++ Q).map fld)) := by
    rw [p2, show spl (fld y) 0 (cells1 (.agg (fld x))) = fld x from rfl, ← List.map_set, set_mid _ _ y x _ (n2 y), e4]
   simp only [bs, hw]
   exact .some (.inl ⟨rfl, kk - 1, by omega, _, i + 1, rfl, by omega, (sm.trans w1).trans w2, p2⟩)
  ·intro h0
   have h0 : i = X.length := by have : ¬ (i : Int) < X.length := by simpa using h0
                                omega
   subst h0
   refine .some (.inr ⟨by simp, rfl, ⟨_, _, rfl⟩, sm, ?_⟩)
   rw [ho', hxy, List.take_length, List.drop_length, ← hxy, List.take_length, List.drop_length]
   simp [-bind_some]
 ·rintro ⟨ex, ds, g'⟩ ⟨rfl, ⟨x, y, rfl⟩, sm, p⟩
  simp only [unblk_self, exEnd_nrm, bs]
  exact K g' p sm
theorem w1068 {g : Hp} {o N : Nat} {P U V Q : List (Str × Str)} (hN : N ≤ 1000000000) (hlen : (P ++ U ++ V ++ Q).length = N) (hU : 0 < U.length) (hV : 0 < V.length) (ho : g[o]? = some (.row ty109 2 ((P ++ U ++ V ++ Q).map fld))) (cmp : D) (a m b : Int) (ha : a = P.length) (hm : m = (P.length + U.length : Nat)) (hb : b = (P.length + U.length + V.length : Nat)) {β : Type} {f : D × Hp → Option β} {R1 : β → Prop}
  (K : ∀ g', g'[o]? = some (.row ty109 2 ((P ++ V ++ U ++ Q).map fld)) → Same o g g' → Wp (f (mkRes [], g')) R1) : Wp ((R fn1068 [.msl 2 o 0 N, .int .i64 a, .int .i64 m, .int .i64 b, cmp] g).bind f) R1 := by
 obtain ⟨mm, hmm⟩ : ∃ mm : Nat, mm = P.length + U.length := ⟨_, rfl⟩
 rw [← hmm] at hm
 subst ha hm hb
 have hl := hlen
 simp only [List.length_append] at hl
 have w1 : IntKind.wrap .i64 ((mm : Int) - (P.length : Int)) = (U.length : Int) := by rw [wrap_i64 (by omega) (by omega)]; omega
 have w2 : IntKind.wrap .i64 (((P.length + U.length + V.length : Nat) : Int) - (mm : Int)) = (V.length : Int) := by rw [wrap_i64 (by omega) (by omega)]; omega
 rw [e1068]
 simp only [F1068, bs, Option.bind_assoc, dBin_sub, w1, w2]
 refine Wp.loop (fun kk ds g' => ∃ x y, ∃ P' U' V' Q' : List (Str × Str), ds = [.int .i64 U'.length, .int .i64 V'.length, x, y] ∧ kk = U'.length + V'.length ∧ 0 < U'.length ∧ 0 < V'.length ∧ P'.length + U'.length = mm ∧ P' ++ V' ++ U' ++ Q' = P ++ V ++ U ++ Q ∧ (P' ++ U' ++ V' ++ Q').length = N ∧ Same o g g' ∧ g'[o]? = some (.row ty109 2 ((P' ++ U' ++ V' ++ Q').map fld)))
  (fun r => r.1 = .ext 0 ∧ ∃ x y, ∃ P' U' V' Q' : List (Str × Str), r.2.1 = [.int .i64 U'.length, .int .i64 V'.length, x, y] ∧ U'.length = V'.length ∧ P'.length + U'.length = mm ∧ P' ++ V' ++ U' ++ Q' = P ++ V ++ U ++ Q ∧ (P' ++ U' ++ V' ++ Q').length = N ∧ Same o g r.2.2 ∧ r.2.2[o]? = some (.row ty109 2 ((P' ++ U' ++ V' ++ Q').map fld)))
  (U.length + V.length) ⟨_, _, P, U, V, Q, rfl, rfl, hU, hV, by omega, rfl, hlen, ⟨rfl, fun _ _ => rfl⟩, ho⟩ ?_ ?_
 ·rintro kk ds g' ⟨x, y, P', U', V', Q', rfl, hk, h1, h2, h3, h4, h5, sm, ho'⟩
  have hl' := h5
  simp only [List.length_append] at hl'
  simp only [F1068_L0, nth_zero, nth_succ, bs, Option.bind_assoc, dBin_neq]
  refine Wp.dif ?_ ?_
  ·intro h0
   have h0 : U'.length ≠ V'.length := by have : ¬ (U'.length : Int) = V'.length := by simpa using h0
                                         omega
   simp only [dBin_gtr, bs]
   have wi : IntKind.wrap .i64 ((mm : Int) - (U'.length : Int)) = (P'.length : Int) := by rw [wrap_i64 (by omega) (by omega)]; omega
   by_cases hgt : V'.length < U'.length
   ·have hd : decide ((U'.length : Int) > (V'.length : Int)) = true := decide_eq_true (by omega)
    obtain ⟨X, M, hXM, hXl⟩ : ∃ X M, U' = X ++ M ∧ X.length = V'.length := ⟨U'.take V'.length, U'.drop V'.length, (List.take_append_drop _ _).symm, by simp; omega⟩
    subst hXM
    simp only [List.length_append] at *
    have wd : IntKind.wrap .i64 (((X.length + M.length : Nat) : Int) - (V'.length : Int)) = (M.length : Int) := by rw [wrap_i64 (by omega) (by omega)]; omega
    simp only [hd, dIf_bool, if_true, dBin_sub, wi, wd, bs, Option.bind_assoc]
    refine w1069 (P := P') (X := X) (M := M) (Y := V') (Q := Q') hN (by simp only [List.length_append]; omega) hXl (by simpa using ho') cmp _ _ _ rfl (by omega) (by omega) fun g1 p1 s1' => ?_
    simp only [bs, unblk_nrm, nth_zero, nth_succ]
    rw [← hXl]
    refine .some (.inl ⟨rfl, M.length + X.length, by omega, _, _, P' ++ V', M, X, Q', rfl, rfl, by omega, by omega, by simp only [List.length_append]; omega, by rw [← h4]; simp [-bind_some], by simp only [List.length_append]; omega, sm.trans s1', by rw [p1]⟩)
   ·have hd : decide ((U'.length : Int) > (V'.length : Int)) = false := decide_eq_false (by omega)
    obtain ⟨M, Y, hMY, hYl⟩ : ∃ M Y, V' = M ++ Y ∧ Y.length = U'.length := ⟨V'.take (V'.length - U'.length), V'.drop (V'.length - U'.length), (List.take_append_drop _ _).symm, by simp; omega⟩
    subst hMY
    simp only [List.length_append] at *
    have we : IntKind.wrap .i64 ((mm : Int) + ((M.length + Y.length : Nat) : Int)) = ((mm + (M.length + Y.length) : Nat) : Int) := by rw [wrap_i64 (by omega) (by omega)]; omega
    have wf' : IntKind.wrap .i64 (((mm + (M.length + Y.length) : Nat) : Int) - (U'.length : Int)) = ((P'.length + U'.length + M.length : Nat) : Int) := by rw [wrap_i64 (by omega) (by omega)]; omega
    have wd : IntKind.wrap .i64 (((M.length + Y.length : Nat) : Int) - (U'.length : Int)) = (M.length : Int) := by rw [wrap_i64 (by omega) (by omega)]; omega
    simp only [hd, dIf_bool, Bool.false_eq_true, if_false, dBin_sub, dBin_add, wi, we, wf', wd, bs, Option.bind_assoc]
    refine w1069 (P := P') (X := U') (M := M) (Y := Y) (Q := Q') hN (by simp only [List.length_append]; omega) hYl.symm (by simpa using ho') cmp _ _ _ rfl rfl rfl fun g1 p1 s1' => ?_
    simp only [bs, unblk_nrm, nth_zero, nth_succ]
    rw [← hYl]
    refine .some (.inl ⟨rfl, Y.length + M.length, by omega, _, _, P', Y, M, U' ++ Q', rfl, rfl, by omega, by omega, by omega, by rw [← h4]; simp [-bind_some], by simp only [List.length_append]; omega, sm.trans s1', by rw [p1]; simp [-bind_some]⟩)
  ·intro h0
   have h0 : U'.length = V'.length := by have : (U'.length : Int) = V'.length := by simpa using h0
                                         omega
   exact .some (.inr ⟨by simp, rfl, _, _, P', U', V', Q', rfl, h0, h3, h4, h5, sm, ho'⟩)
 ·rintro ⟨ex, ds, g'⟩ ⟨rfl, x, y, P', U', V', Q', rfl, h0, h3, h4, h5, sm, ho'⟩
  have hl' := h5
  simp only [List.length_append] at hl'
  have wi : IntKind.wrap .i64 ((mm : Int) - (U'.length : Int)) = (P'.length : Int) := by rw [wrap_i64 (by omega) (by omega)]; omega
  simp only [unblk_self, toEnd_nrm, nth_zero, nth_succ, bs, Option.bind_assoc, dBin_sub, wi]
  refine w1069 (P := P') (X := U') (M := []) (Y := V') (Q := Q') hN (by simp only [List.length_append, List.length_nil]; omega) h0 (by simpa using ho') cmp _ _ _ rfl (by simp only [List.length_nil]; omega) rfl fun g1 p1 s1' => ?_
  simp only [bs]
  refine K g1 ?_ (sm.trans s1')
  rw [p1, ← h4]
  simp [-bind_some]
theorem swap_wp {g : Hp} {o : Nat} {A B : List (Str × Str)} {x y : Str × Str} {n : Nat} (hn : A.length = n) (ho : g[o]? = some (.row ty109 2 ((A ++ x :: y :: B).map fld))) {β : Type} {f : Hp → Option β} {Q : β → Prop}
  (K : ∀ g', g'[o]? = some (.row ty109 2 ((A ++ y :: x :: B).map fld)) → Same o g g' → Wp (f g') Q) : Wp ((dStore tab g ty109 (.ptr o n 0) (.agg (fld y))).bind fun g1 => (dStore tab g1 ty109 (.ptr o (n + 1) 0) (.agg (fld x))).bind f) Q := by
 have ra : ((A ++ x :: y :: B).map fld)[n]? = some (fld x) := by rw [List.getElem?_map, get_midn _ _ x _ hn]; rfl
 refine wst109 (off := 0) (row := fld x) (v := .agg (fld y)) ho ra (by rfl) (by exact Nat.le_refl _) (by rfl) fun g1 p1 w1 => ?_
 have e1 : A ++ y :: y :: B = (A ++ [y]) ++ y :: B := by simp
 have n1 : (A ++ [y]).length = n + 1 := by simp [-bind_some, hn]
 have p1 : g1[o]? = some (.row ty109 2 (((A ++ [y]) ++ y :: B).map fld)) := by
  rw [p1, show spl (fld x) 0 (cells1 (.agg (fld y))) = fld y from rfl, ← List.map_set, set_mid _ _ x y _ hn, e1]
 have rb : (((A ++ [y]) ++ y :: B).map fld)[n + 1]? = some (fld y) := by rw [List.getElem?_map, get_midn _ _ y _ n1]; rfl
 refine wst109 (off := 0) (row := fld y) (v := .agg (fld x)) p1 rb (by rfl) (by exact Nat.le_refl _) (by rfl) fun g2 p2 w2 => ?_
 refine K g2 ?_ (w1.trans w2)
 rw [p2, show spl (fld y) 0 (cells1 (.agg (fld x))) = fld x from rfl, ← List.map_set, set_mid _ _ y x _ n1]
 simp [-bind_some]
theorem swap_wp2 {g : Hp} {o : Nat} {A B : List (Str × Str)} {x y : Str × Str} {n : Nat} (hn : A.length = n) (ho : g[o]? = some (.row ty109 2 ((A ++ x :: y :: B).map fld))) {β : Type} {f : Hp → Option β} {Q : β → Prop}
  (K : ∀ g', g'[o]? = some (.row ty109 2 ((A ++ y :: x :: B).map fld)) → Same o g g' → Wp (f g') Q) : Wp ((dStore tab g ty109 (.ptr o (n + 1) 0) (.agg (fld x))).bind fun g1 => (dStore tab g1 ty109 (.ptr o n 0) (.agg (fld y))).bind f) Q := by
 have e1 : A ++ x :: y :: B = (A ++ [x]) ++ y :: B := by simp
 have n1 : (A ++ [x]).length = n + 1 := by simp [-bind_some, hn]
 rw [e1] at ho
 have rb : (((A ++ [x]) ++ y :: B).map fld)[n + 1]? = some (fld y) := by rw [List.getElem?_map, get_midn _ _ y _ n1]; rfl
 refine wst109 (off := 0) (row := fld y) (v := .agg (fld x)) ho rb (by rfl) (by exact Nat.le_refl _) (by rfl) fun g1 p1 w1 => ?_
 have p1 : g1[o]? = some (.row ty109 2 ((A ++ x :: x :: B).map fld)) := by
  rw [p1, show spl (fld y) 0 (cells1 (.agg (fld x))) = fld x from rfl, ← List.map_set, set_mid _ _ y x _ n1]
  simp [-bind_some]
 have ra : ((A ++ x :: x :: B).map fld)[n]? = some (fld x) := by rw [List.getElem?_map, get_midn _ _ x _ hn]; rfl
 refine wst109 (off := 0) (row := fld x) (v := .agg (fld y)) p1 ra (by rfl) (by exact Nat.le_refl _) (by rfl) fun g2 p2 w2 => ?_
 refine K g2 ?_ (w1.trans w2)
 rw [p2, show spl (fld x) 0 (cells1 (.agg (fld y))) = fld y from rfl, ← List.map_set, set_mid _ _ x y _ hn]
theorem ix29n {o N n : Nat} (h : n < N) : dIndexAddr tab ty29 (.msl 2 o 0 N) (.int .i64 (n : Int)) = some (.ptr o n 0) := by rw [ixm29, if_pos (by omega), Int.toNat_natCast, Nat.zero_add]
theorem wL4 {g : Hp} {o N : Nat} {P A Q : List (Str × Str)} {x : Str × Str} (hN : N ≤ 1000000000) (hlen : (P ++ x :: A ++ Q).length = N) (ho : g[o]? = some (.row ty109 2 ((P ++ x :: A ++ Q).map fld))) (r14 : Out) (hr : nth 0 r14.2.1 = .int .i64 ((P.length + A.length + 1 : Nat) : Int)) (a : Int) (ha : a = P.length) (x1 : D) {β : Type} {f : Out → Option β} {R1 : β → Prop}
  (K : ∀ g' b1 b2, g'[o]? = some (.row ty109 2 ((P ++ A ++ x :: Q).map fld)) → Same o g g' → Wp (f (.ext 2, [b1, b2], g')) R1) : Wp ((loopW (F1066_L4 (.msl 2 o 0 N) r14) [.int .i64 a, x1] g).bind f) R1 := by
 subst ha
 simp only [List.length_append, List.length_cons] at hlen
 refine Wp.loop (fun kk ds g' => ∃ y, ∃ i : Nat, ds = [.int .i64 ((P.length + i : Nat) : Int), y] ∧ kk + i = A.length ∧ Same o g g' ∧ g'[o]? = some (.row ty109 2 ((P ++ A.take i ++ x :: (A.drop i ++ Q)).map fld)))
  (fun r => r.1 = .ext 2 ∧ (∃ b1 b2, r.2.1 = [b1, b2]) ∧ Same o g r.2.2 ∧ r.2.2[o]? = some (.row ty109 2 ((P ++ A ++ x :: Q).map fld))) A.length ⟨_, 0, rfl, rfl, ⟨rfl, fun _ _ => rfl⟩, by simpa using ho⟩ ?_ ?_
 ·rintro kk ds g' ⟨y1, i, rfl, hk, sm, ho'⟩
  have w0 : IntKind.wrap .i64 (((P.length + A.length + 1 : Nat) : Int) - 1) = ((P.length + A.length : Nat) : Int) := by rw [wrap_i64 (by omega) (by omega)]; omega
  simp only [F1066_L4, nth_zero, nth_succ, bs, Option.bind_assoc, hr, dBin_sub, w0, dBin_lss]
  refine Wp.dif ?_ ?_
  ·intro h0
   have h0 : i < A.length := by have : ((P.length + i : Nat) : Int) < ((P.length + A.length : Nat) : Int) := by simpa using h0
                                omega
   obtain ⟨y, hy⟩ : ∃ y, A[i]? = some y := ⟨_, List.getElem?_eq_getElem h0⟩
   have hdy : A.drop i = y :: A.drop (i + 1) := by
    obtain ⟨hn, hh⟩ := List.getElem?_eq_some_iff.1 hy
    rw [List.drop_eq_getElem_cons hn, hh]
   have hw : IntKind.wrap .i64 (((P.length + i : Nat) : Int) + 1) = ((P.length + i + 1 : Nat) : Int) := by
    rw [wrap_i64 (by omega) (by omega)]; omega
   have e1 : P ++ A.take i ++ x :: (A.drop i ++ Q) = (P ++ A.take i) ++ x :: y :: (A.drop (i + 1) ++ Q) := by rw [hdy]; simp [-bind_some]
   have e2 : (P ++ A.take i ++ [x]) ++ y :: (A.drop (i + 1) ++ Q) = (P ++ A.take i) ++ x :: y :: (A.drop (i + 1) ++ Q) := by simp
   have n1 : (P ++ A.take i).length = P.length + i := by simp; omega
   have n2 : (P ++ A.take i ++ [x]).length = P.length + i + 1 := by simp; omega
   rw [e1] at ho'
   have la := fldL ho' (get_midn _ _ x _ n1)
   have lb := fldL ho' (by rw [← e2]; exact get_midn _ _ y _ n2)
   have ia := @ix29n o N (P.length + i) (by omega)
   have ib := @ix29n o N (P.length + i + 1) (by omega)
   simp only [dBin_add, hw, ia, ib, la, lb, bs, Option.bind_assoc]
   refine swap_wp n1 ho' fun g2 p2 w2 => ?_
   try simp only [bs]
   refine .some (.inl ⟨rfl, kk - 1, by omega, _, i + 1, rfl, by omega, sm.trans w2, ?_⟩)
   rw [p2, List.take_add_one, hy]
   simp [-bind_some]
  ·intro h0
   have h0 : i = A.length := by have : ¬ ((P.length + i : Nat) : Int) < ((P.length + A.length : Nat) : Int) := by simpa using h0
                                omega
   subst h0
   rw [List.take_length, List.drop_length] at ho'
   exact .some (.inr ⟨by simp, rfl, ⟨_, _, rfl⟩, sm, by simpa using ho'⟩)
 ·rintro ⟨ex, ds, g'⟩ ⟨rfl, ⟨b1, b2, rfl⟩, sm, p⟩
  exact K g' b1 b2 p sm
theorem wL2 {g : Hp} {o N : Nat} {P A Q : List (Str × Str)} {x : Str × Str} (hN : N ≤ 1000000000) (hlen : (P ++ A ++ x :: Q).length = N) (ho : g[o]? = some (.row ty109 2 ((P ++ A ++ x :: Q).map fld))) (r9 : Out) (hr : nth 0 r9.2.1 = .int .i64 (P.length : Int)) (m : Int) (hm : m = (P.length + A.length : Nat)) (x1 : D) {β : Type} {f : Out → Option β} {R1 : β → Prop}
  (K : ∀ g' b1 b2, g'[o]? = some (.row ty109 2 ((P ++ x :: A ++ Q).map fld)) → Same o g g' → Wp (f (.ext 6, [b1, b2], g')) R1) : Wp ((loopW (F1066_L2 (.msl 2 o 0 N) r9) [.int .i64 m, x1] g).bind f) R1 := by
 subst hm
 simp only [List.length_append, List.length_cons] at hlen
 refine Wp.loop (fun kk ds g' => ∃ y, ds = [.int .i64 ((P.length + kk : Nat) : Int), y] ∧ kk ≤ A.length ∧ Same o g g' ∧ g'[o]? = some (.row ty109 2 ((P ++ A.take kk ++ x :: (A.drop kk ++ Q)).map fld)))
  (fun r => r.1 = .ext 6 ∧ (∃ b1 b2, r.2.1 = [b1, b2]) ∧ Same o g r.2.2 ∧ r.2.2[o]? = some (.row ty109 2 ((P ++ x :: A ++ Q).map fld))) A.length ⟨_, rfl, Nat.le_refl _, ⟨rfl, fun _ _ => rfl⟩, by simpa using ho⟩ ?_ ?_
 ·rintro kk ds g' ⟨y1, rfl, hk, sm, ho'⟩
  simp only [F1066_L2, nth_zero, nth_succ, bs, Option.bind_assoc, hr, dBin_gtr]
  refine Wp.dif ?_ ?_
  ·intro h0
   have h0 : 0 < kk := by have : ((P.length + kk : Nat) : Int) > (P.length : Int) := by simpa using h0
                          omega
   obtain ⟨i, rfl⟩ : ∃ i, kk = i + 1 := ⟨kk - 1, by omega⟩
   obtain ⟨y, hy⟩ : ∃ y, A[i]? = some y := ⟨_, List.getElem?_eq_getElem (by omega)⟩
   have hdy : A.drop i = y :: A.drop (i + 1) := by
    obtain ⟨hn, hh⟩ := List.getElem?_eq_some_iff.1 hy
    rw [List.drop_eq_getElem_cons hn, hh]
   have hw : IntKind.wrap .i64 (((P.length + (i + 1) : Nat) : Int) - 1) = ((P.length + i : Nat) : Int) := by
    rw [wrap_i64 (by omega) (by omega)]; omega
   have e1 : P ++ A.take (i + 1) ++ x :: (A.drop (i + 1) ++ Q) = (P ++ A.take i) ++ y :: x :: (A.drop (i + 1) ++ Q) := by rw [List.take_add_one, hy]; simp [-bind_some]
   have e2 : (P ++ A.take i ++ [y]) ++ x :: (A.drop (i + 1) ++ Q) = (P ++ A.take i) ++ y :: x :: (A.drop (i + 1) ++ Q) := by simp
   have n1 : (P ++ A.take i).length = P.length + i := by simp; omega
   have n2 : (P ++ A.take i ++ [y]).length = P.length + i + 1 := by simp; omega
   rw [e1] at ho'
   have la := fldL ho' (get_midn _ _ y _ n1)
   have lb := fldL ho' (by rw [← e2]; exact get_midn _ _ x _ n2)
   have ia := @ix29n o N (P.length + i) (by omega)
   have ib := @ix29n o N (P.length + (i + 1)) (by omega)
   rw [show P.length + (i + 1) = P.length + i + 1 from rfl] at hw ib ⊢
   simp only [dBin_sub, hw, ia, ib, la, lb, bs, Option.bind_assoc]
   refine swap_wp2 n1 ho' fun g2 p2 w2 => ?_
   try simp only [bs]
   refine .some (.inl ⟨rfl, i, by omega, _, rfl, by omega, sm.trans w2, ?_⟩)
   rw [p2, hdy]
   simp [-bind_some]
  ·intro h0
   have h0 : kk = 0 := by have : ¬ ((P.length + kk : Nat) : Int) > (P.length : Int) := by simpa using h0
                          omega
   subst h0
   exact .some (.inr ⟨by simp, rfl, ⟨_, _, rfl⟩, sm, by simpa using ho'⟩)
 ·rintro ⟨ex, ds, g'⟩ ⟨rfl, ⟨b1, b2, rfl⟩, sm, p⟩
  exact K g' b1 b2 p sm
theorem mid_ok {i j : Nat} (hi : i ≤ 1000000000) (hj : j ≤ 1000000000) : IntKind.wrap .i64 ((i : Int) + j) = ((i + j : Nat) : Int) ∧ IntKind.wrap .u64 ((i + j : Nat) : Int) = ((i + j : Nat) : Int) ∧ (((i + j : Nat) : Int)).fdiv (2 ^ min ((1 : Int).toNat) IntKind.u64.bits) = (((i + j) / 2 : Nat) : Int) ∧ IntKind.wrap .i64 (((i + j) / 2 : Nat) : Int) = (((i + j) / 2 : Nat) : Int) := by
 have m1 : min ((1 : Int).toNat) IntKind.u64.bits = 1 := by decide
 have p1 : (2 : Int) ^ 1 = 2 := by decide
 refine ⟨?_, wrap_u64 (by omega) (by omega), ?_, wrap_i64 (by omega) (by omega)⟩
 ·rw [wrap_i64 (by omega) (by omega)]; omega
 ·rw [m1, p1, Int.fdiv_eq_ediv_of_nonneg _ (by omega)]; omega
theorem wL3 {g : Hp} {o N : Nat} {L : List (Str × Str)} (hN : N ≤ 1000000000) (hlen : L.length = N) (ho : g[o]? = some (.row ty109 2 (L.map fld))) (cmp : D) (a m b : Nat) (q : Nat → Prop) (ha : a < N) (hmb : m ≤ b) (hbN : b ≤ N) (x : Str × Str) (hx : L[a]? = some x)
  (hc : ∀ t y, m ≤ t → t < b → L[t]? = some y → ∃ v, callV R cmp [.agg (fld y), .agg (fld x)] g = some (.int .i64 v, g) ∧ (v < 0 ↔ q t)) (x1 x2 x3 : D) {β : Type} {f : Out → Option β} {Q : β → Prop}
  (K : ∀ (c : Nat) b1 b2 b3, m ≤ c → c ≤ b → (c = m ∨ q (c - 1)) → (c = b ∨ ¬ q c) → Wp (f (.ext 0, [.int .i64 (c : Int), .int .i64 (c : Int), b1, b2, b3], g)) Q) : Wp ((loopW (F1066_L3 (.msl 2 o 0 N) (.int .i64 (a : Int)) cmp) [.int .i64 (m : Int), .int .i64 (b : Int), x1, x2, x3] g).bind f) Q := by
 refine Wp.loop (fun kk ds g' => g' = g ∧ ∃ y1 y2 y3, ∃ i j : Nat, ds = [.int .i64 (i : Int), .int .i64 (j : Int), y1, y2, y3] ∧ kk = j - i ∧ m ≤ i ∧ i ≤ j ∧ j ≤ b ∧ (i = m ∨ q (i - 1)) ∧ (j = b ∨ ¬ q j))
  (fun r => r.1 = .ext 0 ∧ r.2.2 = g ∧ ∃ b1 b2 b3, ∃ c : Nat, r.2.1 = [.int .i64 (c : Int), .int .i64 (c : Int), b1, b2, b3] ∧ m ≤ c ∧ c ≤ b ∧ (c = m ∨ q (c - 1)) ∧ (c = b ∨ ¬ q c)) (b - m) ⟨rfl, _, _, _, m, b, rfl, rfl, Nat.le_refl _, hmb, Nat.le_refl _, .inl rfl, .inl rfl⟩ ?_ ?_
 ·rintro kk ds g' ⟨rfl, y1, y2, y3, i, j, rfl, hk, h1, h2, h3, h4, h5⟩
  simp only [F1066_L3, nth_zero, nth_succ, bs, Option.bind_assoc, dBin_lss]
  refine Wp.dif ?_ ?_
  ·intro h0
   have h0 : i < j := by have : (i : Int) < (j : Int) := by simpa using h0
                         omega
   obtain ⟨u1, u2, u3, u4⟩ := @mid_ok i j (by omega) (by omega)
   obtain ⟨y, hy⟩ : ∃ y, L[(i + j) / 2]? = some y := ⟨_, List.getElem?_eq_getElem (by omega)⟩
   obtain ⟨v, hv, hvc⟩ := hc ((i + j) / 2) y (by omega) (by omega) hy
   have ia := @ix29n o N ((i + j) / 2) (by omega)
   have ib := @ix29n o N a ha
   have la := fldL ho hy
   have lb := fldL ho hx
   have w1 : IntKind.wrap .i64 ((((i + j) / 2 : Nat) : Int) + 1) = (((i + j) / 2 + 1 : Nat) : Int) := by rw [wrap_i64 (by omega) (by omega)]; omega
   simp only [dBin_add, u1, cv3_134, u2, dBin_shr, show ¬ (1 : Int) < 0 by omega, if_false, u3, cv134_3, u4, ia, ib, la, lb, hv, bs, dBin_lss, Option.bind_assoc]
   by_cases hlt : v < 0
   ·have := hvc.1 hlt
    simp only [hlt, decide_true, dIf_bool, if_true, w1, bs, unblk_nrm, nth_zero, nth_succ]
    exact .some (.inl ⟨rfl, j - ((i + j) / 2 + 1), by omega, rfl, _, _, _, _, _, rfl, rfl, by omega, by omega, by omega, .inr (by simpa using this), h5⟩)
   ·have := fun h => hlt (hvc.2 h)
    simp only [hlt, decide_false, dIf_bool, Bool.false_eq_true, if_false, bs, unblk_nrm, nth_zero, nth_succ]
    exact .some (.inl ⟨rfl, (i + j) / 2 - i, by omega, rfl, _, _, _, _, _, rfl, rfl, by omega, by omega, by omega, h4, .inr this⟩)
  ·intro h0
   have h0 : ¬ i < j := by have : ¬ (i : Int) < (j : Int) := by simpa using h0
                           omega
   obtain rfl : j = i := by omega
   exact .some (.inr ⟨by simp, rfl, rfl, _, _, _, j, rfl, h1, h3, h4, h5⟩)
 ·rintro ⟨ex, ds, g'⟩ ⟨rfl, q2, b1, b2, b3, c, rfl, k1, k2, k3, k4⟩
  simp only at q2
  subst q2
  exact K c b1 b2 b3 k1 k2 k3 k4
theorem wL1 {g : Hp} {o N : Nat} {L : List (Str × Str)} (hN : N ≤ 1000000000) (hlen : L.length = N) (ho : g[o]? = some (.row ty109 2 (L.map fld))) (cmp : D) (m a b : Nat) (q : Nat → Prop) (hmN : m < N) (hmb : a ≤ b) (hbN : b ≤ N) (x : Str × Str) (hx : L[m]? = some x)
  (hc : ∀ t y, a ≤ t → t < b → L[t]? = some y → ∃ v, callV R cmp [.agg (fld x), .agg (fld y)] g = some (.int .i64 v, g) ∧ (¬ v < 0 ↔ q t)) (x1 x2 x3 : D) {β : Type} {f : Out → Option β} {Q : β → Prop}
  (K : ∀ (c : Nat) b1 b2 b3, a ≤ c → c ≤ b → (c = a ∨ q (c - 1)) → (c = b ∨ ¬ q c) → Wp (f (.ext 4, [.int .i64 (c : Int), .int .i64 (c : Int), b1, b2, b3], g)) Q) : Wp ((loopW (F1066_L1 (.msl 2 o 0 N) (.int .i64 (m : Int)) cmp) [.int .i64 (a : Int), .int .i64 (b : Int), x1, x2, x3] g).bind f) Q := by
 refine Wp.loop (fun kk ds g' => g' = g ∧ ∃ y1 y2 y3, ∃ i j : Nat, ds = [.int .i64 (i : Int), .int .i64 (j : Int), y1, y2, y3] ∧ kk = j - i ∧ a ≤ i ∧ i ≤ j ∧ j ≤ b ∧ (i = a ∨ q (i - 1)) ∧ (j = b ∨ ¬ q j))
  (fun r => r.1 = .ext 4 ∧ r.2.2 = g ∧ ∃ b1 b2 b3, ∃ c : Nat, r.2.1 = [.int .i64 (c : Int), .int .i64 (c : Int), b1, b2, b3] ∧ a ≤ c ∧ c ≤ b ∧ (c = a ∨ q (c - 1)) ∧ (c = b ∨ ¬ q c)) (b - a) ⟨rfl, _, _, _, a, b, rfl, rfl, Nat.le_refl _, hmb, Nat.le_refl _, .inl rfl, .inl rfl⟩ ?_ ?_
 ·rintro kk ds g' ⟨rfl, y1, y2, y3, i, j, rfl, hk, h1, h2, h3, h4, h5⟩
  simp only [F1066_L1, nth_zero, nth_succ, bs, Option.bind_assoc, dBin_lss]
  refine Wp.dif ?_ ?_
  ·intro h0
   have h0 : i < j := by have : (i : Int) < (j : Int) := by simpa using h0
                         omega
   obtain ⟨u1, u2, u3, u4⟩ := @mid_ok i j (by omega) (by omega)
   obtain ⟨y, hy⟩ : ∃ y, L[(i + j) / 2]? = some y := ⟨_, List.getElem?_eq_getElem (by omega)⟩
   obtain ⟨v, hv, hvc⟩ := hc ((i + j) / 2) y (by omega) (by omega) hy
   have ia := @ix29n o N ((i + j) / 2) (by omega)
   have ib := @ix29n o N m hmN
   have la := fldL ho hy
   have lb := fldL ho hx
   have w1 : IntKind.wrap .i64 ((((i + j) / 2 : Nat) : Int) + 1) = (((i + j) / 2 + 1 : Nat) : Int) := by rw [wrap_i64 (by omega) (by omega)]; omega
   simp only [dBin_add, u1, cv3_134, u2, dBin_shr, show ¬ (1 : Int) < 0 by omega, if_false, u3, cv134_3, u4, ia, ib, la, lb, hv, bs, dBin_lss, dUn_not, Option.bind_assoc]
   by_cases hlt : v < 0
   ·have := fun h => (hvc.2 h) hlt
    simp only [hlt, decide_true, Bool.not_true, dIf_bool, Bool.false_eq_true, if_false, bs, unblk_nrm, nth_zero, nth_succ]
    exact .some (.inl ⟨rfl, (i + j) / 2 - i, by omega, rfl, _, _, _, _, _, rfl, rfl, by omega, by omega, by omega, h4, .inr this⟩)
   ·have := hvc.1 hlt
    simp only [hlt, decide_false, Bool.not_false, dIf_bool, if_true, w1, bs, unblk_nrm, nth_zero, nth_succ]
    exact .some (.inl ⟨rfl, j - ((i + j) / 2 + 1), by omega, rfl, _, _, _, _, _, rfl, rfl, by omega, by omega, by omega, .inr (by simpa using this), h5⟩)
  ·intro h0
   have h0 : ¬ i < j := by have : ¬ (i : Int) < (j : Int) := by simpa using h0
                           omega
   obtain rfl : j = i := by omega
   exact .some (.inr ⟨by simp, rfl, rfl, _, _, _, j, rfl, h1, h3, h4, h5⟩)
 ·rintro ⟨ex, ds, g'⟩ ⟨rfl, q2, b1, b2, b3, c, rfl, k1, k2, k3, k4⟩
  simp only at q2
  subst q2
  exact K c b1 b2 b3 k1 k2 k3 k4
theorem wL0 {g : Hp} {o N : Nat} {L : List (Str × Str)} (hN : N ≤ 1000000000) (hlen : L.length = N) (ho : g[o]? = some (.row ty109 2 (L.map fld))) (cmp : D) (p a b : Nat) (q : Nat → Prop) (hmb : a ≤ b) (hbp : b ≤ p + 1) (hbN : b ≤ N) (hpN : p < a + N)
  (hc : ∀ t y z, a ≤ t → t < b → L[t]? = some y → L[p - t]? = some z → ∃ v, callV R cmp [.agg (fld z), .agg (fld y)] g = some (.int .i64 v, g) ∧ (¬ v < 0 ↔ q t)) (x1 x2 x3 : D) {β : Type} {f : Out → Option β} {Q : β → Prop}
  (K : ∀ (c : Nat) b1 b2 b3, a ≤ c → c ≤ b → (c = a ∨ q (c - 1)) → (c = b ∨ ¬ q c) → Wp (f (.ext 8, [.int .i64 (c : Int), .int .i64 (c : Int), b1, b2, b3], g)) Q) : Wp ((loopW (F1066_L0 (.msl 2 o 0 N) cmp (.int .i64 (p : Int))) [.int .i64 (a : Int), .int .i64 (b : Int), x1, x2, x3] g).bind f) Q := by
 refine Wp.loop (fun kk ds g' => g' = g ∧ ∃ y1 y2 y3, ∃ i j : Nat, ds = [.int .i64 (i : Int), .int .i64 (j : Int), y1, y2, y3] ∧ kk = j - i ∧ a ≤ i ∧ i ≤ j ∧ j ≤ b ∧ (i = a ∨ q (i - 1)) ∧ (j = b ∨ ¬ q j))
  (fun r => r.1 = .ext 8 ∧ r.2.2 = g ∧ ∃ b1 b2 b3, ∃ c : Nat, r.2.1 = [.int .i64 (c : Int), .int .i64 (c : Int), b1, b2, b3] ∧ a ≤ c ∧ c ≤ b ∧ (c = a ∨ q (c - 1)) ∧ (c = b ∨ ¬ q c)) (b - a) ⟨rfl, _, _, _, a, b, rfl, rfl, Nat.le_refl _, hmb, Nat.le_refl _, .inl rfl, .inl rfl⟩ ?_ ?_
 ·rintro kk ds g' ⟨rfl, y1, y2, y3, i, j, rfl, hk, h1, h2, h3, h4, h5⟩
  simp only [F1066_L0, nth_zero, nth_succ, bs, Option.bind_assoc, dBin_lss]
  refine Wp.dif ?_ ?_
  ·intro h0
   have h0 : i < j := by have : (i : Int) < (j : Int) := by simpa using h0
                         omega
   obtain ⟨u1, u2, u3, u4⟩ := @mid_ok i j (by omega) (by omega)
   obtain ⟨y, hy⟩ : ∃ y, L[(i + j) / 2]? = some y := ⟨_, List.getElem?_eq_getElem (by omega)⟩
   obtain ⟨z, hz⟩ : ∃ z, L[p - (i + j) / 2]? = some z := ⟨_, List.getElem?_eq_getElem (by omega)⟩
   obtain ⟨v, hv, hvc⟩ := hc ((i + j) / 2) y z (by omega) (by omega) hy hz
   have ia := @ix29n o N ((i + j) / 2) (by omega)
   have ib := @ix29n o N (p - (i + j) / 2) (by omega)
   have la := fldL ho hy
   have lb := fldL ho hz
   have wp' : IntKind.wrap .i64 ((p : Int) - (((i + j) / 2 : Nat) : Int)) = ((p - (i + j) / 2 : Nat) : Int) := by rw [wrap_i64 (by omega) (by omega)]; omega
   have w1 : IntKind.wrap .i64 ((((i + j) / 2 : Nat) : Int) + 1) = (((i + j) / 2 + 1 : Nat) : Int) := by rw [wrap_i64 (by omega) (by omega)]; omega
   simp only [dBin_add, u1, cv3_134, u2, dBin_shr, show ¬ (1 : Int) < 0 by omega, if_false, u3, cv134_3, u4, dBin_sub, wp', ia, ib, la, lb, hv, bs, dBin_lss, dUn_not, Option.bind_assoc]
   by_cases hlt : v < 0
   ·have := fun h => (hvc.2 h) hlt
    simp only [hlt, decide_true, Bool.not_true, dIf_bool, Bool.false_eq_true, if_false, bs, unblk_nrm, nth_zero, nth_succ]
    exact .some (.inl ⟨rfl, (i + j) / 2 - i, by omega, rfl, _, _, _, _, _, rfl, rfl, by omega, by omega, by omega, h4, .inr this⟩)
   ·have := hvc.1 hlt
    simp only [hlt, decide_false, Bool.not_false, dIf_bool, if_true, w1, bs, unblk_nrm, nth_zero, nth_succ]
    exact .some (.inl ⟨rfl, j - ((i + j) / 2 + 1), by omega, rfl, _, _, _, _, _, rfl, rfl, by omega, by omega, by omega, .inr (by simpa using this), h5⟩)
  ·intro h0
   have h0 : ¬ i < j := by have : ¬ (i : Int) < (j : Int) := by simpa using h0
                           omega
   obtain rfl : j = i := by omega
   exact .some (.inr ⟨by simp, rfl, rfl, _, _, _, j, rfl, h1, h3, h4, h5⟩)
 ·rintro ⟨ex, ds, g'⟩ ⟨rfl, q2, b1, b2, b3, c, rfl, k1, k2, k3, k4⟩
  simp only at q2
  subst q2
  exact K c b1 b2 b3 k1 k2 k3 k4
def CmpF (cmp : D) (c : Str × Str → Str × Str → Int) : Prop := ∀ x y g, callV R cmp [.agg (fld x), .agg (fld y)] g = some (.int .i64 (c x y), g)
theorem w1066a {g : Hp} {o N : Nat} {P B Q : List (Str × Str)} {x : Str × Str} (hN : N ≤ 1000000000) (hlen : (P ++ x :: B ++ Q).length = N) (ho : g[o]? = some (.row ty109 2 ((P ++ x :: B ++ Q).map fld))) (cmp : D) (c : Str × Str → Str × Str → Int) (hcmp : CmpF cmp c) (a m b : Int) (ha : a = (P.length : Nat)) (hm : m = (P.length + 1 : Nat)) (hb : b = (P.length + 1 + B.length : Nat)) {β : Type} {f : D × Hp → Option β} {R1 : β → Prop}
  (K : ∀ g' B1 B2, B = B1 ++ B2 → (B1 = [] ∨ ∃ y r, B1 = r ++ [y] ∧ c y x < 0) → (B2 = [] ∨ ∃ y r, B2 = y :: r ∧ ¬ c y x < 0) → g'[o]? = some (.row ty109 2 ((P ++ (B1 ++ x :: B2) ++ Q).map fld)) → Same o g g' → Wp (f (mkRes [], g')) R1) : Wp ((R fn1066 [.msl 2 o 0 N, .int .i64 a, .int .i64 m, .int .i64 b, cmp] g).bind f) R1 := by
 subst ha hm hb
 have hl := hlen
 simp only [List.length_append, List.length_cons] at hl
 have w1 : IntKind.wrap .i64 (((P.length + 1 : Nat) : Int) - (P.length : Int)) = 1 := by rw [wrap_i64 (by omega) (by omega)]; omega
 have gx : (P ++ x :: B ++ Q)[P.length]? = some x := by
  rw [show P ++ x :: B ++ Q = P ++ x :: (B ++ Q) by simp]
  exact get_midn _ _ x _ rfl
 have gB : ∀ t, (P ++ x :: B ++ Q)[P.length + 1 + t]? = (B ++ Q)[t]? := fun t => by
  rw [show P ++ x :: B ++ Q = (P ++ [x]) ++ (B ++ Q) by simp, List.getElem?_append_right (by simp)]
  simp [-bind_some]
 rw [e1066]
 simp only [F1066, bs, Option.bind_assoc, dBin_sub, w1, dBin_eql, decide_true, dIf_bool, if_true]
 refine wL3 hN hlen ho cmp P.length (P.length + 1) (P.length + 1 + B.length) (fun t => ∃ y, (P ++ x :: B ++ Q)[t]? = some y ∧ c y x < 0) (by omega) (by omega) (by omega) x gx (fun t y _ _ hy => ⟨c y x, hcmp y x g, fun h => ⟨y, hy, h⟩, fun ⟨y', h1, h2⟩ => by rw [hy] at h1; injection h1 with h1; rw [h1]; exact h2⟩) _ _ _ fun k b1 b2 b3 k1 k2 k3 k4 => ?_
 obtain ⟨t, rfl⟩ : ∃ t, k = P.length + 1 + t := ⟨k - (P.length + 1), by omega⟩
 have htB : t ≤ B.length := by omega
 simp only [unblk_self, toEnd_nrm, bs, nth_zero, nth_succ, Option.bind_assoc]
 have eL : P ++ x :: B ++ Q = P ++ x :: B.take t ++ (B.drop t ++ Q) := by
  simp only [List.append_assoc, List.cons_append]
  rw [← List.append_assoc (B.take t), List.take_append_drop]
 have htl : (B.take t).length = t := by simp; omega
 refine wL4 (P := P) (A := B.take t) (Q := B.drop t ++ Q) (x := x) hN (by rw [← eL]; exact hlen) (by rw [← eL]; exact ho) _ (by rw [htl]; show D.int _ _ = _; congr 1; omega) _ rfl _ fun g1 c1 c2 p1 s1' => ?_
 simp only [unblk_self, toEnd_nrm, bs]
 refine K g1 (B.take t) (B.drop t) (List.take_append_drop _ _).symm ?_ ?_ (by rw [p1]; simp [-bind_some]) s1'
 ·rcases Nat.eq_zero_or_pos t with rfl | hpos
  ·exact .inl (by simp)
  ·right
   rcases k3 with k3 | ⟨y, hy, hlt⟩
   ·omega
   ·rw [show P.length + 1 + t - 1 = P.length + 1 + (t - 1) by omega, gB, List.getElem?_append_left (by omega)] at hy
    refine ⟨y, B.take (t - 1), ?_, hlt⟩
    conv => lhs; rw [show t = (t - 1) + 1 by omega, List.take_add_one, hy]
    simp [-bind_some]
 ·rcases Nat.lt_or_ge t B.length with hlt | hge
  ·right
   obtain ⟨y, hy⟩ : ∃ y, B[t]? = some y := ⟨_, List.getElem?_eq_getElem hlt⟩
   rcases k4 with k4 | k4
   ·omega
   ·refine ⟨y, B.drop (t + 1), ?_, fun h => k4 ⟨y, by rw [gB, List.getElem?_append_left hlt]; exact hy, h⟩⟩
    obtain ⟨hn, hh⟩ := List.getElem?_eq_some_iff.1 hy
    rw [List.drop_eq_getElem_cons hn, hh]
  ·exact .inl (List.drop_eq_nil_of_le hge)
theorem w1066b {g : Hp} {o N : Nat} {P A Q : List (Str × Str)} {x : Str × Str} (hN : N ≤ 1000000000) (hlen : (P ++ A ++ x :: Q).length = N) (hA1 : A.length ≠ 1) (ho : g[o]? = some (.row ty109 2 ((P ++ A ++ x :: Q).map fld))) (cmp : D) (c : Str × Str → Str × Str → Int) (hcmp : CmpF cmp c) (a m b : Int) (ha : a = (P.length : Nat)) (hm : m = (P.length + A.length : Nat)) (hb : b = (P.length + A.length + 1 : Nat)) {β : Type} {f : D × Hp → Option β} {R1 : β → Prop}
  (K : ∀ g' A1 A2, A = A1 ++ A2 → (A1 = [] ∨ ∃ y r, A1 = r ++ [y] ∧ ¬ c x y < 0) → (A2 = [] ∨ ∃ y r, A2 = y :: r ∧ c x y < 0) → g'[o]? = some (.row ty109 2 ((P ++ (A1 ++ x :: A2) ++ Q).map fld)) → Same o g g' → Wp (f (mkRes [], g')) R1) : Wp ((R fn1066 [.msl 2 o 0 N, .int .i64 a, .int .i64 m, .int .i64 b, cmp] g).bind f) R1 := by
 subst ha hm hb
 have hl := hlen
 simp only [List.length_append, List.length_cons] at hl
 have w1 : IntKind.wrap .i64 (((P.length + A.length : Nat) : Int) - (P.length : Int)) = A.length := by rw [wrap_i64 (by omega) (by omega)]; omega
 have w2 : IntKind.wrap .i64 (((P.length + A.length + 1 : Nat) : Int) - ((P.length + A.length : Nat) : Int)) = 1 := by rw [wrap_i64 (by omega) (by omega)]; omega
 have hd1 : decide ((A.length : Int) = 1) = false := decide_eq_false (by omega)
 have gx : (P ++ A ++ x :: Q)[P.length + A.length]? = some x := get_midn _ _ x _ (by simp)
 have gA : ∀ t, t < A.length → (P ++ A ++ x :: Q)[P.length + t]? = A[t]? := fun t ht => by
  rw [List.append_assoc, List.getElem?_append_right (by simp), List.getElem?_append_left (by omega)]
  simp [-bind_some]
 rw [e1066]
 simp only [F1066, F1066_R0, bs, Option.bind_assoc, dBin_sub, w1, w2, dBin_eql, hd1, decide_true, dIf_bool, Bool.false_eq_true, if_false, if_true]
 refine wL1 hN hlen ho cmp (P.length + A.length) P.length (P.length + A.length) (fun t => ∃ y, (P ++ A ++ x :: Q)[t]? = some y ∧ ¬ c x y < 0) (by omega) (by omega) (by omega) x gx (fun t y _ _ hy => ⟨c x y, hcmp x y g, fun h => ⟨y, hy, h⟩, fun ⟨y', h1, h2⟩ => by rw [hy] at h1; injection h1 with h1; rw [h1]; exact h2⟩) _ _ _ fun k b1 b2 b3 k1 k2 k3 k4 => ?_
 obtain ⟨t, rfl⟩ : ∃ t, k = P.length + t := ⟨k - P.length, by omega⟩
 have htA : t ≤ A.length := by omega
 simp only [unblk_self, toEnd_nrm, bs, nth_zero, nth_succ, Option.bind_assoc]
 have htl : (A.take t).length = t := by simp; omega
 have eL : P ++ A ++ x :: Q = (P ++ A.take t) ++ A.drop t ++ x :: Q := by
  rw [List.append_assoc P (A.take t), List.take_append_drop]
 have hdl : (A.drop t).length = A.length - t := List.length_drop
 refine wL2 (P := P ++ A.take t) (A := A.drop t) (Q := Q) (x := x) hN (by rw [← eL]; exact hlen) (by rw [← eL]; exact ho) _ (by rw [List.length_append, htl]; rfl) _ (by rw [List.length_append, htl, hdl]; congr 1; omega) _ fun g1 c1 c2 p1 s1' => ?_
 simp only [unblk_self, toEnd_nrm, bs]
 refine K g1 (A.take t) (A.drop t) (List.take_append_drop _ _).symm ?_ ?_ (by rw [p1]; simp [-bind_some]) s1'
 ·rcases Nat.eq_zero_or_pos t with rfl | hpos
  ·exact .inl (by simp)
  ·right
   rcases k3 with k3 | ⟨y, hy, hlt⟩
   ·omega
   ·rw [show P.length + t - 1 = P.length + (t - 1) by omega, gA _ (by omega)] at hy
    refine ⟨y, A.take (t - 1), ?_, hlt⟩
    conv => lhs; rw [show t = (t - 1) + 1 by omega, List.take_add_one, hy]
    simp [-bind_some]
 ·rcases Nat.lt_or_ge t A.length with hlt | hge
  ·right
   obtain ⟨y, hy⟩ : ∃ y, A[t]? = some y := ⟨_, List.getElem?_eq_getElem hlt⟩
   rcases k4 with k4 | k4
   ·omega
   ·refine ⟨y, A.drop (t + 1), ?_, Classical.byContradiction fun h => k4 ⟨y, by rw [gA _ hlt]; exact hy, h⟩⟩
    obtain ⟨hn, hh⟩ := List.getElem?_eq_some_iff.1 hy
    rw [List.drop_eq_getElem_cons hn, hh]
  ·exact .inl (List.drop_eq_nil_of_le hge)
theorem getm {α : Type} (P A B : List α) (t : Nat) (h0 : P.length ≤ t) (h1 : t < P.length + A.length) : (P ++ A ++ B)[t]? = A[t - P.length]? := by
 rw [List.append_assoc, List.getElem?_append_right h0, List.getElem?_append_left (by omega)]
theorem last_of {α : Type} {A : List α} {t : Nat} {y : α} (ht : 0 < t) (hy : A[t - 1]? = some y) : ∃ r, A.take t = r ++ [y] := by
 refine ⟨A.take (t - 1), ?_⟩
 conv => lhs; rw [show t = (t - 1) + 1 by omega, List.take_add_one, hy]
 simp [-bind_some]
theorem first_of {α : Type} {A : List α} {t : Nat} {y : α} (hy : A[t]? = some y) : ∃ r, A.drop t = y :: r := by
 obtain ⟨hn, hh⟩ := List.getElem?_eq_some_iff.1 hy
 exact ⟨A.drop (t + 1), by rw [List.drop_eq_getElem_cons hn, hh]⟩
theorem and_lss (b1 : Bool) (a c : Int) (t : Nat) {β : Type} (f : D → Option β) : ((gd (.bool b1) true (some (.int .i64 a))).bind fun t2 => (gd (.bool b1) true (some (.int .i64 c))).bind fun t3 => (gd (.bool b1) true (dBin tab .lss t t2 t3)).bind fun t4 => (dPick (.bool b1) t4 (.bool false)).bind f) = f (.bool (b1 && decide (a < c))) := by
 cases b1
 ·simp only [gd_bool, reduceCtorEq, if_false, bs, dPick_bool, Bool.false_eq_true, Bool.false_and]
 ·simp only [gd_bool, if_true, bs, dPick_bool, dBin_lss, Bool.true_and]
def MergeOK (c : Str × Str → Str × Str → Int) (S Pre : Str × Str → Str × Str → Prop) (cmp : D) (o N n : Nat) : Prop :=
 ∀ (g : Hp) (P A B Q : List (Str × Str)) (a m b : Int), A.length + B.length ≤ n → (P ++ A ++ B ++ Q).length = N → 0 < A.length → 0 < B.length → A.Pairwise S → B.Pairwise S → (∀ x ∈ A, ∀ y ∈ B, Pre x y) →
  g[o]? = some (.row ty109 2 ((P ++ A ++ B ++ Q).map fld)) → a = (P.length : Nat) → m = (P.length + A.length : Nat) → b = (P.length + A.length + B.length : Nat) →
  Wp (R fn1066 [.msl 2 o 0 N, .int .i64 a, .int .i64 m, .int .i64 b, cmp] g) fun p => ∃ C : List (Str × Str), C.Perm (A ++ B) ∧ C.Pairwise S ∧ p.2[o]? = some (.row ty109 2 ((P ++ C ++ Q).map fld)) ∧ Same o g p.2
theorem cut_wp {g : Hp} {o N : Nat} {P A B Q : List (Str × Str)} (hN : N ≤ 1000000000) (hlen : (P ++ A ++ B ++ Q).length = N) (hA : 0 < A.length) (hB : 0 < B.length) (ho : g[o]? = some (.row ty109 2 ((P ++ A ++ B ++ Q).map fld))) (cmp : D) (c : Str × Str → Str × Str → Int) (hcmp : CmpF cmp c)
  (mid s0 r0 : Nat) (hmid : mid = (P.length + (P.length + A.length + B.length)) / 2) (hs : (P.length + A.length > mid ∧ s0 + B.length = mid ∧ r0 = mid) ∨ (P.length + A.length ≤ mid ∧ s0 = P.length ∧ r0 = P.length + A.length))
  (p : Int) (hp : p = (mid + (P.length + A.length) - 1 : Nat)) (x1 x2 x3 : D) {β : Type} {f : Out → Option β} {R1 : β → Prop}
  (K : ∀ (k : Nat) b1 b2 b3 A1 A2 B1 B2, A = A1 ++ A2 → B = B1 ++ B2 → k = P.length + A1.length → mid = P.length + A1.length + B1.length →
   (A1 = [] ∨ B2 = [] ∨ ∃ x y r s, A1 = r ++ [x] ∧ B2 = y :: s ∧ ¬ c y x < 0) → (A2 = [] ∨ B1 = [] ∨ ∃ x y r s, B1 = r ++ [y] ∧ A2 = x :: s ∧ c y x < 0) →
   Wp (f (.ext 8, [.int .i64 (k : Int), .int .i64 (k : Int), b1, b2, b3], g)) R1) : Wp ((loopW (F1066_L0 (.msl 2 o 0 N) cmp (.int .i64 p)) [.int .i64 (s0 : Int), .int .i64 (r0 : Int), x1, x2, x3] g).bind f) R1 := by
 subst hp
 have hl := hlen
 simp only [List.length_append] at hl
 have gA : ∀ t, P.length ≤ t → t < P.length + A.length → (P ++ A ++ B ++ Q)[t]? = A[t - P.length]? := fun t h0 h1 => by
  rw [List.append_assoc (P ++ A)]; exact getm P A _ t h0 h1
 have gB : ∀ t, P.length + A.length ≤ t → t < P.length + A.length + B.length → (P ++ A ++ B ++ Q)[t]? = B[t - (P.length + A.length)]? := fun t h0 h1 => by
  have := getm (P ++ A) B Q t (by simpa using h0) (by simpa using h1)
  simpa using this
 obtain ⟨q, hq⟩ : ∃ q : Nat → Prop, ∀ t, q t ↔ ∃ y z, (P ++ A ++ B ++ Q)[t]? = some y ∧ (P ++ A ++ B ++ Q)[mid + (P.length + A.length) - 1 - t]? = some z ∧ ¬ c z y < 0 := ⟨_, fun t => Iff.rfl⟩
 refine wL0 hN hlen ho cmp (mid + (P.length + A.length) - 1) s0 r0 q (by omega) (by omega) (by omega) (by omega)
  (fun t y z _ _ hy hz => ⟨c z y, hcmp z y g, fun h => (hq t).2 ⟨y, z, hy, hz, h⟩, fun hh => by
   obtain ⟨y', z', h1, h2, h3⟩ := (hq t).1 hh
   rw [hy] at h1; rw [hz] at h2; injection h1 with h1; injection h2 with h2; rw [h1, h2]; exact h3⟩) _ _ _ fun k b1 b2 b3 k1 k2 k3 k4 => ?_
 have hkA : k - P.length ≤ A.length := by omega
 have hkB : mid - k ≤ B.length := by omega
 have la : (A.take (k - P.length)).length = k - P.length := by simp; omega
 have lb : (B.take (mid - k)).length = mid - k := by simp; omega
 refine K k b1 b2 b3 (A.take (k - P.length)) (A.drop (k - P.length)) (B.take (mid - k)) (B.drop (mid - k)) (List.take_append_drop _ _).symm (List.take_append_drop _ _).symm (by omega) (by omega) ?_ ?_
 ·rcases k3 with k3 | k3
  ·rcases hs with ⟨h1, h2, h3⟩ | ⟨h1, h2, h3⟩
   ·right; left
    exact List.drop_eq_nil_of_le (by omega)
   ·left
    apply List.eq_nil_of_length_eq_zero
    omega
  ·by_cases hk0 : k = P.length
   ·left; apply List.eq_nil_of_length_eq_zero; omega
   ·right
    by_cases hk1 : B.length ≤ mid - k
    ·left; exact List.drop_eq_nil_of_le hk1
    ·right
     obtain ⟨y, z, hy, hz, hlt⟩ := (hq _).1 k3
     rw [gA _ (by omega) (by omega)] at hy
     rw [gB _ (by omega) (by omega)] at hz
     obtain ⟨r, hr⟩ := last_of (A := A) (t := k - P.length) (y := y) (by omega) (by rw [← hy]; congr 1; omega)
     obtain ⟨s, hs'⟩ := first_of (A := B) (t := mid - k) (y := z) (by rw [← hz]; congr 1; omega)
     exact ⟨y, z, r, s, hr, hs', hlt⟩
 ·by_cases hk0 : k = P.length + A.length
  ·left; exact List.drop_eq_nil_of_le (by omega)
  ·right
   by_cases hk1 : mid - k = 0
   ·left; rw [hk1]; rfl
   ·right
    rcases k4 with k4 | k4
    ·omega
    ·obtain ⟨y, hy⟩ : ∃ y, A[k - P.length]? = some y := ⟨_, List.getElem?_eq_getElem (by omega)⟩
     obtain ⟨z, hz⟩ : ∃ z, B[mid - k - 1]? = some z := ⟨_, List.getElem?_eq_getElem (by omega)⟩
     obtain ⟨r, hr⟩ := last_of (A := B) (t := mid - k) (y := z) (by omega) hz
     obtain ⟨s, hs'⟩ := first_of (A := A) (t := k - P.length) (y := y) hy
     refine ⟨y, z, r, s, hr, hs', Classical.byContradiction fun h => k4 ((hq _).2 ⟨y, z, ?_, ?_, h⟩)⟩
     ·rw [gA _ (by omega) (by omega)]; exact hy
     ·rw [gB _ (by omega) (by omega), ← hz]; congr 1; omega
theorem w1066r {c : Str × Str → Str × Str → Int} {S Pre : Str × Str → Str × Str → Prop} (od : SOrd c S Pre) {cmp : D} (hcmp : CmpF cmp c) {o N n : Nat} (hN : N ≤ 1000000000) (ih : MergeOK c S Pre cmp o N n)
  {g : Hp} {P A B Q : List (Str × Str)} {a m b : Int} (hn : A.length + B.length ≤ n + 1) (hlen : (P ++ A ++ B ++ Q).length = N) (hA : 0 < A.length) (hB : 0 < B.length) (sA : A.Pairwise S) (sB : B.Pairwise S) (hp : ∀ x ∈ A, ∀ y ∈ B, Pre x y)
  (ho : g[o]? = some (.row ty109 2 ((P ++ A ++ B ++ Q).map fld))) (ha : a = (P.length : Nat)) (hm : m = (P.length + A.length : Nat)) (hb : b = (P.length + A.length + B.length : Nat)) :
  Wp (F1066_R1 (.msl 2 o 0 N) (.int .i64 a) (.int .i64 m) (.int .i64 b) cmp g) fun p => ∃ C : List (Str × Str), C.Perm (A ++ B) ∧ C.Pairwise S ∧ p.2[o]? = some (.row ty109 2 ((P ++ C ++ Q).map fld)) ∧ Same o g p.2 := by
 have hl := hlen
 simp only [List.length_append] at hl
 obtain ⟨mid, hmid⟩ : ∃ mid : Nat, mid = (P.length + (P.length + A.length + B.length)) / 2 := ⟨_, rfl⟩
 obtain ⟨mm, hmm⟩ : ∃ mm : Nat, mm = P.length + A.length := ⟨_, rfl⟩
 obtain ⟨bb, hbb⟩ : ∃ bb : Nat, bb = P.length + A.length + B.length := ⟨_, rfl⟩
 rw [← hmm] at hm
 rw [← hbb] at hb
 subst ha hm hb
 obtain ⟨u1, u2, u3, u4⟩ := @mid_ok P.length bb (by omega) (by omega)
 rw [← show mid = (P.length + bb) / 2 by rw [hmid, hbb]] at u3 u4
 have w1 : IntKind.wrap .i64 ((mid : Int) + (mm : Int)) = ((mid + mm : Nat) : Int) := by rw [wrap_i64 (by omega) (by omega)]; omega
 have w2 : IntKind.wrap .i64 (((mid + mm : Nat) : Int) - 1) = ((mid + (P.length + A.length) - 1 : Nat) : Int) := by rw [wrap_i64 (by omega) (by omega)]; omega
 simp only [F1066_R1, bs, Option.bind_assoc, dBin_add, u1, cv3_134, u2, dBin_shr, show ¬ (1 : Int) < 0 by omega, if_false, u3, cv134_3, u4, w1, dBin_gtr]
 refine Wp.join (P := fun r => r.1 = .nrm ∧ r.2.2 = g ∧ ∃ s0 r0 : Nat, r.2.1 = [.int .i64 (s0 : Int), .int .i64 (r0 : Int)] ∧ ((P.length + A.length > mid ∧ s0 + B.length = mid ∧ r0 = mid) ∨ (P.length + A.length ≤ mid ∧ s0 = P.length ∧ r0 = P.length + A.length))) ?_ ?_ ?_
 ·intro h0
  have h0 : mid < mm := by have : (mm : Int) > (mid : Int) := by simpa using h0
                           omega
  have w3 : IntKind.wrap .i64 (((mid + mm : Nat) : Int) - (bb : Int)) = ((mid - B.length : Nat) : Int) := by rw [wrap_i64 (by omega) (by omega)]; omega
  simp only [dBin_sub, w3, bs]
  exact .some ⟨rfl, rfl, mid - B.length, mid, rfl, .inl ⟨by omega, by omega, rfl⟩⟩
 ·intro h0
  have h0 : ¬ mid < mm := by have : ¬ (mm : Int) > (mid : Int) := by simpa using h0
                             omega
  exact .some ⟨rfl, rfl, P.length, mm, rfl, .inr ⟨by omega, rfl, hmm⟩⟩
 rintro ⟨ex, ds, g'⟩ ⟨rfl, q2, s0, r0, rfl, hs⟩
 simp only at q2
 subst q2
 simp only [toEnd_nrm, dBin_sub, w2, bs, nth_zero, nth_succ, Option.bind_assoc]
 refine cut_wp hN hlen hA hB ho cmp c hcmp mid s0 r0 hmid hs _ rfl _ _ _ fun k b1 b2 b3 A1 A2 B1 B2 eA eB ek em h1 h2 => ?_
 subst eA eB
 simp only [List.length_append] at *
 have w4 : IntKind.wrap .i64 (((mid + mm : Nat) : Int) - (k : Int)) = ((mm + B1.length : Nat) : Int) := by rw [wrap_i64 (by omega) (by omega)]; omega
 simp only [unblk_self, toEnd_nrm, bs, nth_zero, nth_succ, Option.bind_assoc, dBin_sub, w4, dBin_lss, and_lss]
 rw [List.pairwise_append] at sA sB
 -- the rotation
 refine Wp.bind (P := fun r => r.1 = .nrm ∧ r.2.2[o]? = some (.row ty109 2 ((P ++ A1 ++ B1 ++ A2 ++ B2 ++ Q).map fld)) ∧ Same o g' r.2.2) ?_ ?_
 ·by_cases c1 : 0 < A2.length
  ·have d1 : decide ((k : Int) < (mm : Int)) = true := decide_eq_true (by omega)
   by_cases c2 : 0 < B1.length
   ·have d2 : decide ((mm : Int) < ((mm + B1.length : Nat) : Int)) = true := decide_eq_true (by omega)
    simp only [d1, d2, Bool.and_self, dIf_bool, if_true]
    refine w1068 (P := P ++ A1) (U := A2) (V := B1) (Q := B2 ++ Q) hN (by simp only [List.length_append]; omega) c1 c2 (by rw [ho]; simp [-bind_some]) cmp _ _ _ (by simp only [List.length_append]; omega) (by simp only [List.length_append]; omega) (by simp only [List.length_append]; omega) fun g1 p1 s1 => ?_
    exact .some ⟨rfl, by simp only [p1]; simp [-bind_some], s1⟩
   ·have e2 : B1 = [] := List.eq_nil_of_length_eq_zero (by omega)
    subst e2
    have d2 : decide ((mm : Int) < ((mm + ([] : List (Str × Str)).length : Nat) : Int)) = false := decide_eq_false (by simp)
    simp only [d1, d2, Bool.and_false, dIf_bool, Bool.false_eq_true, if_false]
    exact .some ⟨rfl, by simp only [ho]; simp [-bind_some], .refl _ _⟩
  ·have e2 : A2 = [] := List.eq_nil_of_length_eq_zero (by omega)
   subst e2
   have d1 : decide ((k : Int) < (mm : Int)) = false := decide_eq_false (by simp only [List.length_nil] at *; omega)
   simp only [d1, Bool.false_and, dIf_bool, Bool.false_eq_true, if_false]
   exact .some ⟨rfl, by simp only [ho]; simp [-bind_some], .refl _ _⟩
 rintro ⟨ex, ds, g1⟩ ⟨rfl, p1, s1⟩
 simp only [toEnd_nrm, bs, Option.bind_assoc, dBin_lss, and_lss]
 -- the first half
 refine Wp.bind (P := fun r => r.1 = .nrm ∧ ∃ C1 : List (Str × Str), C1.Perm (A1 ++ B1) ∧ C1.Pairwise S ∧ r.2.2[o]? = some (.row ty109 2 ((P ++ C1 ++ (A2 ++ B2 ++ Q)).map fld)) ∧ Same o g' r.2.2) ?_ ?_
 ·by_cases c1 : 0 < A1.length
  ·have d1 : decide (((P.length : Nat) : Int) < (k : Int)) = true := decide_eq_true (by omega)
   by_cases c2 : 0 < B1.length
   ·have d2 : decide ((k : Int) < (mid : Int)) = true := decide_eq_true (by omega)
    simp only [d1, d2, Bool.and_self, dIf_bool, if_true]
    refine Wp.bind (ih g1 P A1 B1 (A2 ++ B2 ++ Q) _ _ _ (by omega) (by simp only [List.length_append]; omega) c1 c2 sA.1 sB.1 (fun x hx y hy => hp x (by simp [-bind_some, hx]) y (by simp [-bind_some, hy])) (by rw [p1]; simp [-bind_some]) rfl (by omega) (by omega)) ?_
    rintro ⟨d, g2⟩ ⟨C, q1, q2, q3, q4⟩
    exact .some ⟨rfl, C, q1, q2, q3, s1.trans q4⟩
   ·have e2 : B1 = [] := List.eq_nil_of_length_eq_zero (by omega)
    subst e2
    have d2 : decide ((k : Int) < (mid : Int)) = false := decide_eq_false (by simp only [List.length_nil] at *; omega)
    simp only [d1, d2, Bool.and_false, dIf_bool, Bool.false_eq_true, if_false]
    exact .some ⟨rfl, A1, by simp, sA.1, by simp only [p1]; simp [-bind_some], s1⟩
  ·have e2 : A1 = [] := List.eq_nil_of_length_eq_zero (by omega)
   subst e2
   have d1 : decide (((P.length : Nat) : Int) < (k : Int)) = false := decide_eq_false (by simp only [List.length_nil] at *; omega)
   simp only [d1, Bool.false_and, dIf_bool, Bool.false_eq_true, if_false]
   exact .some ⟨rfl, B1, by simp, sB.1, by simp only [p1]; simp [-bind_some], s1⟩
 rintro ⟨ex, ds, g2⟩ ⟨rfl, C1, r1, r2, p2, s2⟩
 have lC1 : C1.length = A1.length + B1.length := by rw [r1.length_eq]; simp [-bind_some]
 simp only [toEnd_nrm, bs, Option.bind_assoc, dBin_lss, and_lss]
 -- the second half
 refine Wp.bind (P := fun r => r.1 = .nrm ∧ ∃ C2 : List (Str × Str), C2.Perm (A2 ++ B2) ∧ C2.Pairwise S ∧ r.2.2[o]? = some (.row ty109 2 ((P ++ (C1 ++ C2) ++ Q).map fld)) ∧ Same o g' r.2.2) ?_ ?_
 ·by_cases c1 : 0 < A2.length
  ·have d1 : decide ((mid : Int) < ((mm + B1.length : Nat) : Int)) = true := decide_eq_true (by omega)
   by_cases c2 : 0 < B2.length
   ·have d2 : decide (((mm + B1.length : Nat) : Int) < (bb : Int)) = true := decide_eq_true (by omega)
    simp only [d1, d2, Bool.and_self, dIf_bool, if_true]
    refine Wp.bind (ih g2 (P ++ C1) A2 B2 Q _ _ _ (by omega) (by simp only [List.length_append]; omega) c1 c2 sA.2.1 sB.2.1 (fun x hx y hy => hp x (by simp [-bind_some, hx]) y (by simp [-bind_some, hy])) (by rw [p2]; simp [-bind_some]) (by simp only [List.length_append]; omega) (by simp only [List.length_append]; omega) (by simp only [List.length_append]; omega)) ?_
    rintro ⟨d, g3⟩ ⟨C, q1, q2, q3, q4⟩
    exact .some ⟨rfl, C, q1, q2, by rw [q3]; simp [-bind_some], s2.trans q4⟩
   ·have e2 : B2 = [] := List.eq_nil_of_length_eq_zero (by omega)
    subst e2
    have d2 : decide (((mm + B1.length : Nat) : Int) < (bb : Int)) = false := decide_eq_false (by simp only [List.length_nil] at *; omega)
    simp only [d1, d2, Bool.and_false, dIf_bool, Bool.false_eq_true, if_false]
    exact .some ⟨rfl, A2, by simp, sA.2.1, by simp only [p2]; simp [-bind_some], s2⟩
  ·have e2 : A2 = [] := List.eq_nil_of_length_eq_zero (by omega)
   subst e2
   have d1 : decide ((mid : Int) < ((mm + B1.length : Nat) : Int)) = false := decide_eq_false (by simp only [List.length_nil] at *; omega)
   simp only [d1, Bool.false_and, dIf_bool, Bool.false_eq_true, if_false]
   exact .some ⟨rfl, B2, by simp, sB.2.1, by simp only [p2]; simp [-bind_some], s2⟩
 rintro ⟨ex, ds, g3⟩ ⟨rfl, C2, r3, r4, p3, s3⟩
 simp only [exEnd_nrm, bs]
 obtain ⟨v1, v2⟩ := halves od (List.pairwise_append.2 sA) (List.pairwise_append.2 sB) hp h1 h2 r1 r2 r3 r4
 exact .some ⟨C1 ++ C2, v1, v2, p3, s3⟩
theorem w1066 {c : Str × Str → Str × Str → Int} {S Pre : Str × Str → Str × Str → Prop} (od : SOrd c S Pre) {cmp : D} (hcmp : CmpF cmp c) {o N : Nat} (hN : N ≤ 1000000000) : ∀ n, MergeOK c S Pre cmp o N n
 | 0 => fun g P A B Q a m b h0 _ h1 => by omega
 | n + 1 => fun g P A B Q a m b h0 hlen hA hB sA sB hp ho ha hm hb => by
  have ih := w1066 od hcmp (o := o) hN n
  have hl := hlen
  simp only [List.length_append] at hl
  by_cases c1 : A.length = 1
  ·obtain ⟨x, rfl⟩ := List.length_eq_one_iff.1 c1
   have := w1066a (g := g) (o := o) (N := N) (P := P) (B := B) (Q := Q) (x := x) hN (by simpa using hlen) (by simpa using ho) cmp c hcmp a m b ha (by rw [hm]; rfl) (by rw [hb]; rfl) (f := some) (R1 := fun p => ∃ C : List (Str × Str), C.Perm ([x] ++ B) ∧ C.Pairwise S ∧ p.2[o]? = some (.row ty109 2 ((P ++ C ++ Q).map fld)) ∧ Same o g p.2)
    (fun g' B1 B2 e h1 h2 p1 s1 => .some ⟨B1 ++ x :: B2, by rw [e]; exact List.perm_middle, by
     subst e
     rw [List.pairwise_append] at sB ⊢
     refine ⟨sB.1, List.pairwise_cons.2 ⟨?_, sB.2.1⟩, ?_⟩
     ·rcases h2 with rfl | ⟨y, r, rfl, hy⟩
      ·intro z hz; cases hz
      ·have hxy := od.ge x y (hp x (by simp) y (by simp)) hy
       intro z hz
       rcases List.mem_cons.1 hz with rfl | hz
       ·exact hxy
       ·exact od.tr _ _ _ hxy ((List.pairwise_cons.1 sB.2.1).1 z hz)
     ·have hx1 : ∀ u ∈ B1, S u x := by
        rcases h1 with rfl | ⟨y, r, rfl, hy⟩
        ·intro z hz; cases hz
        ·have hyx := od.lt x y (hp x (by simp) y (by simp)) hy
         intro z hz
         rcases List.mem_append.1 hz with hz | hz
         ·exact od.tr _ _ _ ((List.pairwise_append.1 sB.1).2.2 z hz y (by simp)) hyx
         ·simp at hz; subst hz; exact hyx
      intro u hu v hv
      rcases List.mem_cons.1 hv with rfl | hv
      ·exact hx1 u hu
      ·exact sB.2.2 u hu v hv, by rw [p1], s1⟩)
   rwa [show ∀ x : Option (D × Hp), x.bind some = x from fun x => by cases x <;> rfl] at this
  ·by_cases c2 : B.length = 1
   ·obtain ⟨x, rfl⟩ := List.length_eq_one_iff.1 c2
    have := w1066b (g := g) (o := o) (N := N) (P := P) (A := A) (Q := Q) (x := x) hN (by simpa using hlen) c1 (by simpa using ho) cmp c hcmp a m b ha (by rw [hm]) (by rw [hb]; rfl) (f := some) (R1 := fun p => ∃ C : List (Str × Str), C.Perm (A ++ [x]) ∧ C.Pairwise S ∧ p.2[o]? = some (.row ty109 2 ((P ++ C ++ Q).map fld)) ∧ Same o g p.2)
     (fun g' A1 A2 e h1 h2 p1 s1 => .some ⟨A1 ++ x :: A2, by rw [e]; exact List.perm_middle.trans (by simpa using (List.perm_append_comm (l₁ := [x]) (l₂ := A1 ++ A2))), pw_ins od (by rw [← e]; exact sA) (fun y hy => hp y (by rw [e]; exact hy) x (by simp)) h2 h1, by rw [p1], s1⟩)
    rwa [show ∀ x : Option (D × Hp), x.bind some = x from fun x => by cases x <;> rfl] at this
   ·have r := w1066r od hcmp hN ih h0 hlen hA hB sA sB hp ho ha hm hb
    rw [e1066]
    have v1 : IntKind.wrap .i64 (m - a) = (A.length : Int) := by rw [hm, ha, wrap_i64 (by omega) (by omega)]; omega
    have v2 : IntKind.wrap .i64 (b - m) = (B.length : Int) := by rw [hm, hb, wrap_i64 (by omega) (by omega)]; omega
    have d1 : decide ((A.length : Int) = 1) = false := decide_eq_false (by omega)
    have d2 : decide ((B.length : Int) = 1) = false := decide_eq_false (by omega)
    simp only [F1066, F1066_R0, bs, dBin_sub, v1, v2, dBin_eql, d1, d2, dIf_bool, Bool.false_eq_true, if_false]
    exact r
theorem Blk.len {α : Type} {S Pre : α → α → Prop} {k : Nat} {l : List α} (h : Blk S Pre k l) (hl : l.length < k) : l.Pairwise S := h.all (by omega)
theorem pre_split {α : Type} {Pre : α → α → Prop} {A B : List α} (h : (A ++ B).Pairwise Pre) : A.Pairwise Pre ∧ B.Pairwise Pre ∧ ∀ x ∈ A, ∀ y ∈ B, Pre x y := List.pairwise_append.1 h
theorem ins_wp {c : Str × Str → Str × Str → Int} {S Pre : Str × Str → Str × Str → Prop} (od : SOrd c S Pre) {cmp : D} (hcmp : CmpF cmp c) {o N : Nat} (hN : N ≤ 1000000000) {g : Hp} {P A Q : List (Str × Str)} (hlen : (P ++ A ++ Q).length = N) (hA : A.Pairwise Pre)
  (ho : g[o]? = some (.row ty109 2 ((P ++ A ++ Q).map fld))) (a b : Int) (ha : a = P.length) (hb : b = (P.length + A.length : Nat)) :
  Wp (R fn1065 [.msl 2 o 0 N, .int .i64 a, .int .i64 b, cmp] g) fun p => ∃ C : List (Str × Str), C.Perm A ∧ C.Pairwise S ∧ p.2[o]? = some (.row ty109 2 ((P ++ C ++ Q).map fld)) ∧ Same o g p.2 := by
 subst ha hb
 have hl := hlen
 simp only [List.length_append] at hl
 obtain ⟨d, h', e, p1, s1⟩ := s1065 c cmp hcmp o N P.length (P.length + A.length) hN (by omega) (by omega) _ hlen g ho
 refine ⟨(d, h'), e, ?_⟩
 cases A with
 | nil =>
  refine ⟨[], by simp, List.Pairwise.nil, ?_, s1⟩
  rw [p1]
  simp [-bind_some, isr]
 | cons x A =>
  obtain ⟨C, q1, q2, q3⟩ := isr_ok od P Q A [x] (by simp) (fun u hu v hv => by simp at hu; subst hu; exact (List.pairwise_cons.1 hA).1 v hv) (List.pairwise_cons.1 hA).2
  refine ⟨C, q2, q3, ?_, s1⟩
  rw [p1]
  have e1 : P.length + (x :: A).length - (P.length + 1) = A.length := by simp; omega
  rw [e1]
  have e2 : P ++ x :: A ++ Q = P ++ [x] ++ A ++ Q := by simp
  rw [e2]
  exact congrArg (fun z : List (Str × Str) => some (Ob.row ty109 2 (z.map fld))) q1
end Go.Proofs.YthaajlepgblimaaDoor
