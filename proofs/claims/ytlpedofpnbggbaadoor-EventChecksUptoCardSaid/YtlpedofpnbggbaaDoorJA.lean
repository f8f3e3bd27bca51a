/- strings.Join, told of plain data. No program is named here. -/
import Derived.Test.YtlpedofpnbggbaaDoorPiX
import Derived.Lib.Join
import Derived.Below
import Derived.Laws.Externs
set_option linter.unusedSimpArgs false
set_option linter.unusedVariables false
set_option linter.unnecessarySimpa false
namespace Go.Pi
open Go.Eng Go.RowKit
structure JoinWalk (P : Program) (f : FuncId) : Prop where
  nn : ∀ (a : Option Addr) (c : Nat) (sep : ByteArray) (w : World), Calls P f #[.slice a 0 c, .string sep] w fun e w' => e = .returned (.string ⟨#[]⟩) ∧ w' = w
  all : ∀ (bk o c : Nat) (xs : List ByteArray) (sep : ByteArray) (w : World), (∀ (j : Nat) x, xs[j]? = some x → w.cell? ⟨bk, o + j, none⟩ = some (.string x)) → bk < w.heap.size → xs.length ≤ 140737488355328 → xs.length ≤ c →
    (Lib.join (xs.map (·.data.toList)) sep.data.toList).length ≤ 140737488355328 →
    Calls P f #[.slice (some ⟨bk, o, none⟩) xs.length c, .string sep] w fun e w' => e = .returned (.string ⟨(Lib.join (xs.map (·.data.toList)) sep.data.toList).toArray⟩) ∧ Below w.heap.size w w'
def strs : List (List D) → Option (List (List UInt8))
  | [] => some []
  | [.str s] :: r => match strs r with
    | some l => some (s :: l)
    | none => none
  | _ => none
theorem strs_map : ∀ l : List (List UInt8), strs (l.map fun s => [.str s]) = some l
  | [] => rfl
  | s :: r => by simp [strs, strs_map r]
theorem strs_inv : ∀ {rows : List (List D)} {l : List (List UInt8)}, strs rows = some l → rows = l.map fun s => [.str s]
  | [], l, h => by injection h with h; subst h; rfl
  | row :: r, l, h => by
    unfold strs at h
    split at h
    · rename_i h1; cases h1
    · rename_i s r' h1
      injection h1 with h1 h2
      subst h1; subst h2
      split at h
      · rename_i l' hl
        injection h with h
        subst h
        rw [strs_inv hl]; rfl
      · cases h
    · cases h
def dJoin (args : List D) (h : Hp) : Option (D × Hp) := match args with
  | [x, .str sep] => match dRowsOf h 1 x with
    | some rows => match strs rows with
      | some xs => if xs.length ≤ 140737488355328 ∧ (Lib.join xs sep).length ≤ 140737488355328 then some (.str (Lib.join xs sep), h) else none
      | none => none
    | none => none
  | _ => none
theorem flat1 : ∀ l : List (List UInt8), (l.map fun s => [D.str s]).flatten = l.map D.str
  | [] => rfl
  | s :: r => by rw [List.map_cons, List.flatten_cons, flat1 r]; rfl
theorem join_ok {P : Program} {f : FuncId} (hJ : JoinWalk P f) (hent : ∀ (as : Array Value) (w : World), (callFunc f as).run P w = .ok (.enter f as) w)
    {args : List D} {h h' : Hp} {d : D} (hd : dJoin args h = some (d, h')) {g : Gh} {vs : List Value} (hi : Inv g h) (hr : RepL g vs args) : CallAt P f vs g h' d := by
  unfold dJoin at hd
  split at hd
  · rename_i x sep
    split at hd
    · rename_i rows hrows
      split at hd
      · rename_i xs hxs
        split at hd
        · rename_i hc
          obtain ⟨hc1, hc2⟩ := hc
          injection hd with hd
          injection hd with hd1 hd2
          subst hd1; subst hd2
          cases hr with
          | cons hx hr => cases hr with
            | cons hs hr =>
              cases hr
              cases hs
              obtain ⟨a, cap, news, hv, hrl, hnl, hrep, hone, hat⟩ := rowsOf_ok hi hx hrows (by omega)
              subst hv
              have hre := strs_inv hxs
              subst hre
              simp only [List.length_map] at *
              cases xs with
              | nil =>
                refine .inl ⟨hent _ _, Calls.mono (hJ.nn a cap ⟨sep.toArray⟩ g.w) fun e w1 ⟨h1, h2⟩ => ⟨_, h1, g, h2.symm, Ext.refl g, hi, ?_⟩⟩
                exact Rep.str []
              | cons x0 r =>
                obtain ⟨b, o, rfl, hA⟩ := hat (by simp)
                have hcell : ∀ (j : Nat) y, ((x0 :: r).map fun s => (⟨s.toArray⟩ : ByteArray))[j]? = some y → g.w.cell? ⟨b, o + j, none⟩ = some (.string y) := fun j y hy => by
                  rw [List.getElem?_map] at hy
                  cases hs : (x0 :: r)[j]? with
                  | none => rw [hs] at hy; cases hy
                  | some s =>
                    rw [hs] at hy
                    injection hy with hy
                    subst hy
                    have hfj : (((x0 :: r).map fun s => [D.str s]).flatten)[j]? = some (.str s) := by rw [flat1, List.getElem?_map, hs]; rfl
                    have hlt := (List.getElem?_eq_some_iff.1 hfj).1
                    rw [← hrep.length] at hlt
                    obtain ⟨v, hn⟩ : ∃ v, news[j]? = some v := ⟨_, List.getElem?_eq_getElem hlt⟩
                    have hR := hrep.get j _ _ hn hfj
                    have hc := hA.1 j _ hn
                    rw [hc]
                    cases hR
                    rfl
                have hb : b < g.w.heap.size := World.block_lt_of_cell? g.w _ (hcell 0 _ rfl)
                have hcap : (x0 :: r).length ≤ cap := by
                  cases hx with
                  | any => cases hrows
                  | sl ad n cap sz full rows hn hnc => exact hnc
                  | msl o r n cap m hm hn hlo hhi => omega
                have hE : ∀ w1, Below g.w.heap.size g.w w1 → Ext g ⟨w1, g.ms, g.L⟩ := fun w1 bel => .of_old ⟨bel.os, bel.tape, bel.output, bel.size, fun _ _ h => h, fun bb hbb => ⟨⟨Nat.lt_of_lt_of_le hbb.1 bel.size, hbb.2⟩, bel.block bb hbb.1⟩⟩ rfl rfl fun bb hbb => bel.block bb hbb
                have hmap : ((x0 :: r).map fun s => (⟨s.toArray⟩ : ByteArray)).map (·.data.toList) = x0 :: r := by
                  rw [List.map_map]; conv => rhs; rw [← List.map_id (x0 :: r)]
                  exact List.map_congr_left fun s _ => by simp
                have := hJ.all b o cap ((x0 :: r).map fun s => (⟨s.toArray⟩ : ByteArray)) ⟨sep.toArray⟩ g.w hcell hb (by simpa using hc1) (by simpa using hcap) (by rw [hmap]; simpa using hc2)
                rw [hmap] at this
                simp only [List.length_map] at this
                refine .inl ⟨hent _ _, Calls.mono this fun e w1 ⟨h1, h2⟩ => ⟨_, h1, ⟨w1, g.ms, g.L⟩, rfl, ?_, ?_, ?_⟩⟩
                · exact hE w1 h2
                · exact hi.same (hE w1 h2) rfl rfl fun bb hbb => h2.block bb hbb
                · exact Rep.str _
        · cases hd
      · cases hd
    · cases hd
  · cases hd
end Go.Pi
