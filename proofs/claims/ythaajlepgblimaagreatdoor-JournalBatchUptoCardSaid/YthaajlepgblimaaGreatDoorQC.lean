/- What came in, as data, and how long its strings are. No program is named here. -/
import Derived.Test.YthaajlepgblimaaGreatDoorQA
import Derived.Test.YthaajlepgblimaaGreatDoorPiZ
import Derived.Deep.Slices
set_option linter.unusedSimpArgs false
set_option linter.unusedVariables false
set_option linter.unnecessarySimpa false
namespace Go.Pi
open Go.Eng Go.ChangeShapes Go.WideShapes Go.ChangeAt Go.RowKit Go.Deep
inductive StrLe (L : Nat) : D → Prop
 | bool (b) : StrLe L (.bool b)
 | int (k n) : StrLe L (.int k n)
 | str (s : List UInt8) (h : s.length ≤ L) : StrLe L (.str s)
 | nils : StrLe L .nils
 | sl (z f) (rows : List (List D)) (hn : rows.length ≤ L) (h : ∀ row ∈ rows, ∀ d ∈ row, StrLe L d) : StrLe L (.sl z f rows)
theorem StrLe.mono {L L' : Nat} {d : D} (h : StrLe L d) (hl : L ≤ L') : StrLe L' d := by
 induction h with
 | bool b => exact .bool b
 | int k n => exact .int k n
 | str s h => exact .str s (Nat.le_trans h hl)
 | nils => exact .nils
 | sl z f rows hn _ ih => exact .sl z f rows (Nat.le_trans hn hl) ih
structure Bulk {H : Type} (bk : DataW H → Nat) : Prop where
 str : ∀ s, s.length ≤ bk (.lit (.string s))
 sl : ∀ (es sp : List (DataW H)), ∀ e ∈ es, bk e ≤ bk (.slice es sp)
 len : ∀ (es sp : List (DataW H)), es.length ≤ bk (.slice es sp)
 ag : ∀ (ps : List (DataW H)), ∀ p ∈ ps, bk p ≤ bk (.agg ps)
section
variable {H : Type} {enc : TypeId × Value → H} {P : Program} {W : World}
theorem a8x {Pd : D → Prop} {g : Gh} {cs : List Value} {Q : Field → List D → Prop} : ∀ (l : List Field) (acc : Nat), b9J P acc l cs.length = true → (∀ f ∈ l, ∃ ds, RepL g ((cs.drop f.offset).take (P.cellsOf f.type)) ds ∧ Q f ds ∧ ∀ d ∈ ds, Pd d) →
  acc ≤ cs.length ∧ ∃ ds, RepL g (cs.drop acc) ds ∧ (∀ f ∈ l, acc ≤ f.offset ∧ Q f ((ds.drop (f.offset - acc)).take (P.cellsOf f.type))) ∧ ∀ d ∈ ds, Pd d
 | [], acc, h, _ => by
  have : acc = cs.length := Nat.eq_of_beq_eq_true h
  subst this
  exact ⟨Nat.le_refl _, [], by simpa using RepL.nil, fun f hf => by simp at hf, fun d hd => by simp at hd⟩
 | f :: r, acc, h, hl => by
  simp only [b9J, Bool.and_eq_true] at h
  have ho : f.offset = acc := Nat.eq_of_beq_eq_true h.1
  obtain ⟨hle, ds2, h1, h2, h3⟩ := a8x r (acc + P.cellsOf f.type) h.2 fun f' hf' => hl f' (by simp [hf'])
  obtain ⟨ds1, k1, k2, k3⟩ := hl f (by simp)
  rw [ho] at k1
  have hlen : ds1.length = P.cellsOf f.type := by
   rw [← k1.length]; simp; omega
  refine ⟨by omega, ds1 ++ ds2, ?_, ?_, ?_⟩
  ·have : cs.drop acc = (cs.drop acc).take (P.cellsOf f.type) ++ cs.drop (acc + P.cellsOf f.type) := by
     rw [← List.drop_drop, List.take_append_drop]
   rw [this]
   exact k1.append h1
  ·intro f' hf'
   rcases d5u.1 hf' with rfl | hf'
   ·refine ⟨by omega, ?_⟩
    rw [ho, Nat.sub_self, List.drop_zero, ← hlen, List.take_left]
    exact k2
   ·obtain ⟨q1, q2⟩ := h2 f' hf'
    refine ⟨by omega, ?_⟩
    have : (ds1 ++ ds2).drop (f'.offset - acc) = ds2.drop (f'.offset - (acc + P.cellsOf f.type)) := by
     rw [List.drop_append, List.drop_eq_nil_of_le (by omega), List.nil_append, hlen]
     congr 1
     omega
    rw [this]
    exact q2
  ·intro d hd
   rcases d5v.1 hd with hd | hd
   ·exact k3 d hd
   ·exact h3 d hd
theorem b4s {bk : DataW H → Nat} (hbk : Bulk bk) : ∀ (m : Nat) (t : TypeId), c4r P m t = true → ∀ (fuel : Nat) (cs : List Value) (x : DataW H × List MemPlace), DataW.trod enc P W 0 (fun _ => true) true fuel t cs = some x → ∃ ds, RepL (Gh.all W) cs ds ∧ ShG P m t ds ∧ ∀ d ∈ ds, d.one = true ∧ StrLe (bk x.1) d := by
 intro m
 induction m with
 | zero => intro t h; cases h
 | succ m ih =>
  intro t hs fuel cs x hx
  unfold c4r at hs
  unfold ShG
  split at hs
  ·rename_i ht
   obtain ⟨b, rfl, rfl⟩ := DataW.trod_bool ht hx
   exact ⟨[.bool b], .cons (.bool b) .nil, by exact ⟨b, rfl⟩, fun d hd => by rw [List.mem_singleton.1 hd]; exact ⟨rfl, .bool b⟩⟩
  ·rename_i k ht
   obtain ⟨n, rfl, rfl, hw⟩ := DataW.trod_int ht hx
   exact ⟨[.int k n], .cons (.int k n) .nil, by exact ⟨n, rfl, hw⟩, fun d hd => by rw [List.mem_singleton.1 hd]; exact ⟨rfl, .int k n⟩⟩
  ·rename_i ht
   obtain ⟨s, rfl, rfl, hw⟩ := DataW.trod_string ht hx
   have hs' : s = ⟨s.data.toList.toArray⟩ := by cases s; simp
   refine ⟨[.str s.data.toList], .cons ?_ .nil, by exact ⟨_, rfl, by simpa [maxLen] using hw⟩, fun d hd => by rw [List.mem_singleton.1 hd]; exact ⟨rfl, .str _ (hbk.str _)⟩⟩
   have : Rep (Gh.all W) (.string ⟨s.data.toList.toArray⟩) (.str s.data.toList) := .str _
   rwa [← hs'] at this
  ·rename_i e ht
   simp only [Bool.and_eq_true] at hs
   have hz : 1 ≤ P.cellsOf e := Nat.le_of_ble_eq_true hs.2
   rcases open_slice ht hx with ⟨rfl, _⟩ | ⟨a, len, cap, mm, n, D', Pl, rfl, _, hl, hm, hmm, rfl, hel⟩
   ·exact ⟨[.nils], .cons .nils .nil, by exact .inl rfl, fun d hd => by rw [List.mem_singleton.1 hd]; exact ⟨rfl, .nils⟩⟩
   ·have hmc : len ≤ mm := by rw [hmm]; simp; exact hl
    have each : ∀ i, i < len → ∃ q : List Value × List D, W.cells? 0 (a.add (i * P.cellsOf e)) (P.cellsOf e) = some q.1 ∧ RepL (Gh.all W) q.1 q.2 ∧ ShG P m e q.2 ∧ ∀ d ∈ q.2, d.one = true ∧ StrLe (bk (D' i)) d := fun i hi => by
     obtain ⟨cs', h1, h2⟩ := hel i (by omega)
     obtain ⟨ds, h3, h4, h5⟩ := ih e hs.1 n cs' _ h2
     exact ⟨(cs', ds), h1, h3, h4, h5⟩
    obtain ⟨q, hq⟩ := choose_lt each
    have hget : ∀ (i : Nat) (row : List D), ((List.range len).map fun i => (q i).2)[i]? = some row → i < len ∧ row = (q i).2 := fun i row hi => by
     simp only [d5l] at hi
     cases hr : (List.range len)[i]? with
     | none => rw [hr] at hi; cases hi
     | some j =>
      rw [hr] at hi
      have hlt := (d5p.1 hr).1
      have hji : j = i := by
       have := (d5p.1 hr).2
       simpa using this.symm
      subst hji
      simp at hi
      exact ⟨by simpa using hlt, hi.symm⟩
    have hcell : ∀ i, i < len → (q i).1.length = P.cellsOf e ∧ ∀ j, j < P.cellsOf e → W.cell? ((a.add (i * P.cellsOf e)).add j) = (q i).1[j]? := fun i hi => by
     obtain ⟨_, h2, h3⟩ := World.cells?_some (hq i hi).1
     exact ⟨h2, fun j hj => h3 j hj⟩
    have hspot : 0 < len → a.spot = none ∧ (Gh.all W).fz a.block := fun h0 => by
     have h1 : ∃ v, W.cell? ((a.add (0 * P.cellsOf e)).add 0) = some v := by
      rw [(hcell 0 h0).2 0 (by omega)]
      exact ⟨_, d5o (by rw [(hcell 0 h0).1]; omega)⟩
     obtain ⟨v, h1⟩ := h1
     have h2 := World.cell?_spot h1
     have h3 : a.spot = none := by simpa [Addr.add] using h2
     refine ⟨h3, ?_, fun h => h⟩
     have h4 : W.cell? a = some v := by simpa [Addr.add] using h1
     obtain ⟨b, o, sp⟩ := a
     simp only at h3
     subst h3
     exact World.block_lt_of_cell? W _ h4
    refine ⟨[.sl (P.cellsOf e) false ((List.range len).map fun i => (q i).2)], .cons (.sl a len cap _ false _ (by simp) hl (by simpa [maxLen] using hm) (fun h => by cases h) (by omega) ?_ (fun hne => ?_) (fun i j => ((q i).1[j]?).getD undef) (fun i row hi j d hj => ?_) (fun i row hi j d hj => ?_) fun i row hi j d hj => ?_) .nil, ?_, fun d hd => ?_⟩
    ·intro row hr
     obtain ⟨i, hi⟩ := List.getElem?_of_mem hr
     obtain ⟨h1, rfl⟩ := hget i row hi
     rw [← (hq i h1).2.1.length, (hcell i h1).1]
    ·refine hspot ?_
     rcases Nat.eq_zero_or_pos len with h0 | h0
     ·subst h0; simp at hne
     ·exact h0
    ·obtain ⟨h1, rfl⟩ := hget i row hi
     have hjl : j < P.cellsOf e := by
      have := (d5p.1 hj).1
      rw [← (hq i h1).2.1.length, (hcell i h1).1] at this
      exact this
     have h2 := (hcell i h1).2 j hjl
     have h0 : 0 < len := by omega
     obtain ⟨b, o, sp⟩ := a
     obtain ⟨h3, _⟩ := hspot h0
     simp only at h3
     subst h3
     rw [d5o (by rw [(hcell i h1).1]; omega)] at h2 ⊢
     rw [add_add, Addr.add_lit] at h2
     show W.cell? ⟨b, o + i * P.cellsOf e + j, none⟩ = _
     rw [Nat.add_assoc]
     exact h2
    ·obtain ⟨h1, rfl⟩ := hget i row hi
     have hjl := (d5p.1 hj).1
     rw [← (hq i h1).2.1.length] at hjl
     have hv : (q i).1[j]? = some (q i).1[j] := d5o hjl
     rw [hv]
     exact ((hq i h1).2.1.get j _ d hv hj).one ((hq i h1).2.2.2 d (d5m hj)).1
    ·obtain ⟨h1, rfl⟩ := hget i row hi
     have hjl := (d5p.1 hj).1
     rw [← (hq i h1).2.1.length] at hjl
     have hv : (q i).1[j]? = some (q i).1[j] := d5o hjl
     rw [hv]
     exact (hq i h1).2.1.get j _ d hv hj
    ·refine .inr ⟨_, rfl, by simp; simpa [maxLen] using Nat.le_trans hl hm, fun row hr => ?_⟩
     obtain ⟨i, hi⟩ := List.getElem?_of_mem hr
     obtain ⟨h1, rfl⟩ := hget i row hi
     exact (hq i h1).2.2.1
    ·rw [List.mem_singleton.1 hd]
     refine ⟨rfl, .sl _ _ _ (by have := hbk.len ((List.range len).map D') ((List.range (mm - len)).map fun j => D' (len + j)); simpa using this) fun row hrow d hd => ?_⟩
     obtain ⟨i, hi⟩ := List.getElem?_of_mem hrow
     obtain ⟨h1, rfl⟩ := hget i row hi
     exact ((hq i h1).2.2.2 d hd).2.mono (hbk.sl _ _ _ (d5w.2 ⟨i, by simpa using h1, rfl⟩))
  ·rename_i fs ht
   simp only [Bool.and_eq_true, List.all_eq_true] at hs
   obtain ⟨xs, n, rfl, rfl, hlen, hxl, hf⟩ := DataW.trod_struct ht hx
   rw [← hlen] at hs
   obtain ⟨_, ds, h1, h2, h3⟩ := a8x (Pd := fun d => d.one = true ∧ StrLe (bk (.agg (xs.map (·.1)))) d) (g := Gh.all W) (Q := fun f ds => ShG P m f.type ds) fs.toList 0 hs.1 fun f hfm => by
    obtain ⟨i, hi⟩ := List.getElem?_of_mem hfm
    have hi' : fs[i]? = some f := by simpa using hi
    have hlt : i < xs.length := by
     rw [hxl]
     exact (Array.getElem?_eq_some_iff.1 hi').1
    have h1 := hf i f hi'
    rw [d5o hlt] at h1
    obtain ⟨ds', k1, k2, k3⟩ := ih f.type (hs.2 f hfm) n _ _ h1
    exact ⟨ds', k1, k2, fun d hd => ⟨(k3 d hd).1, (k3 d hd).2.mono (hbk.ag _ _ (d5w.2 ⟨_, List.getElem_mem hlt, rfl⟩))⟩⟩
   refine ⟨ds, by simpa using h1, ?_, h3⟩
   refine ⟨by rw [← h1.length]; simp [hlen], fun f hfm => by simpa using (h2 f hfm).2⟩
  ·cases hs
theorem b6p {bk : DataW H → Nat} (hbk : Bulk bk) {t : TypeId} (m : Nat) (hs : c4r P m t = true) {cs : Array Value} {d : DataW H} {p : List MemPlace} (h : DataW.Trod enc P W 0 (fun _ => true) true t (.agg cs) d p) : ∃ ds, Rep (Gh.all W) (.agg cs) (.agg ds) ∧ ShG P m t ds ∧ ∀ x ∈ ds, StrLe (bk d) x := by
 obtain ⟨fuel, hf⟩ := h
 obtain ⟨ds, h1, h2, h3⟩ := b4s hbk m t hs fuel _ _ hf
 have hc : (Value.agg cs).cells.toList = cs.toList := by simp [Value.cells]
 rw [hc] at h1
 refine ⟨ds, ?_, h2, fun x hx => (h3 x hx).2⟩
 have := Rep.agg (g := Gh.all W) cs.toList ds h1.length (fun v hv => by
  obtain ⟨j, hj⟩ := List.mem_iff_getElem?.1 hv
  have hlt := (d5p.1 hj).1
  have hd : ds[j]? = some (ds[j]'(by have := h1.length; omega)) := d5o _
  exact (h1.get j v _ hj hd).one (h3 _ (d5m hd)).1) h1.get
 simpa using this
end
theorem StrLe.s {L : Nat} {s : List UInt8} (h : StrLe L (.str s)) : s.length ≤ L := by
 cases h with
 | str _ h => exact h
theorem StrLe.of {L z : Nat} {α : Type} {f : α → List D} {l : List α} {d : D} (hs : SlOf z f l d) (h : StrLe L d) : l.length ≤ L ∧ ∀ a ∈ l, ∀ x ∈ f a, StrLe L x := by
 rcases hs with ⟨rfl, rfl⟩ | ⟨b, rfl⟩
 ·exact ⟨Nat.zero_le _, fun a h => by cases h⟩
 ·cases h with
  | sl _ _ _ hn h => exact ⟨by simpa using hn, fun a ha => h _ (d5w.2 ⟨a, ha, rfl⟩)⟩
end Go.Pi
