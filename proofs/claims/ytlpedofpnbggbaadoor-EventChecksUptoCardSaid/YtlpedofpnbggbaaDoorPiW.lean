/- The operations, each by the few numbers that it needs of a table. No program is named here. -/
import Derived.Test.YtlpedofpnbggbaaDoorPiV
import Derived.Lib.Bytealg
import Derived.Laws.Externs
set_option linter.unusedSimpArgs false
set_option linter.unusedVariables false
set_option linter.unnecessarySimpa false
namespace Go.Pi
open Go.Eng

def pFA (off : Nat) (x : D) : Option D := match x with
  | .fptr cs => match Nat.blt off cs.length with
    | true => some (.fptr (cs.drop off))
    | false => none
  | .ptr o i k => some (.ptr o i (k + off))
  | _ => none
def pL1 (h : Hp) (p : D) : Option D := match p with
  | .fptr cs => cs.head?
  | .ptr o k off => match h.row o k with
    | some row => (row.drop off).head?
    | none => none
  | _ => none
def takeN (n : Nat) (cs : List D) : Option D := match Nat.ble n cs.length with
  | true => some (.agg (cs.take n))
  | false => none
def pIxS (x y : D) : Option D := match x, y with
  | .str s, .int _ i => if 0 ≤ i then match s[i.toNat]? with
    | some c => some (.int .u8 c.toNat)
    | none => none
    else none
  | _, _ => none
def pLenS (x : D) : Option D := match x with
  | .str s => some (.int .i64 s.length)
  | _ => none
def pBoxF (x : D) : Option D := if x.okv then some (.fptr (cells1 x)) else none
def pLitF (T : Tab) (t n : Nat) (is : List Nat) (ds : List D) : Option D := (dLitRows T t n is ds).bind fun (_, sz, rows) => some (.sl sz true rows)
def pSt (n : Nat) (h : Hp) (p v : D) : Option Hp := match p with
  | .ptr o k off => match h[o]? with
    | some (.row U sz rows) => match rows[k]? with
      | some row => match Nat.beq (cells1 v).length n && Nat.ble (off + n) row.length && v.okv with
        | true => some (h.set o (.row U sz (rows.set k (spl row off (cells1 v)))))
        | false => none
      | none => none
    | _ => none
  | _ => none
def wBox (e sz : Nat) (h : Hp) (x : D) : Option (D × Hp) := if x.okv = true ∧ (cells1 x).length = sz ∧ 0 < sz then some (.ptr h.length 0 0, dNew h e sz [cells1 x]) else none
def wBytes (e : Nat) (h : Hp) (x : D) : Option (D × Hp) := match x with
  | .str s => if lim s.length 1 = true then some (.msl 1 h.length 0 s.length, dNew h e 1 (bytesRows s)) else none
  | _ => none
def wApp (e : Nat) (j iu : TI) (h : Hp) (x y : D) : Option (D × Hp) := match Nat.blt 0 j.sz, dSrc h iu j y with
  | true, some [] => match x with
    | .nils => some (.nils, h)
    | .sl a b c => some (.sl a b c, h)
    | .msl a b c f => some (.msl a b c f, h)
    | _ => none
  | true, some ys => match x with
    | .nils => if lim ys.length j.by_ = true then some (.msl j.sz h.length 0 ys.length, dNew h e j.sz ys) else none
    | .sl sz true rows => if sz = j.sz ∧ lim (rows.length + ys.length) j.by_ = true then some (.msl j.sz h.length 0 (rows.length + ys.length), dNew h e j.sz (rows ++ ys)) else none
    | .msl sz o 0 n => match h[o]? with
      | some (.row U z rows) => if sz = j.sz ∧ z = sz ∧ U = e ∧ n ≤ rows.length ∧ lim (n + ys.length) j.by_ = true then
          (if n = rows.length then some (.msl j.sz h.length 0 (n + ys.length), dNew (h.set o .dead) e j.sz (rows ++ ys))
          else if n + ys.length ≤ rows.length then some (.msl sz o 0 (n + ys.length), h.set o (.row U z (rows.take n ++ ys ++ rows.drop (n + ys.length)))) else none)
        else none
      | _ => none
    | _ => none
  | _, _ => none
def callV (call : CallF) (f : D) (as : List D) (h : Hp) : Option (D × Hp) := callOp (fun _ => none) call 0 (.call ⟨.value (.tmp 0), #[], #[]⟩) (f :: as) h
def nth (k : Nat) (ds : List D) : D := match k with
  | 0 => hdD ds
  | k + 1 => nth k (tlD ds)

-- tables as lists
def tabOf (L : List (Option TI)) : Tab := fun t => match L[t]? with
  | some (some i) => some i
  | _ => none
def TabsOK (P : Program) : Nat → List (Option TI) → Prop
  | _, [] => True
  | k, none :: r => TabsOK P (k + 1) r
  | k, some i :: r => (tiOf P k = some i ∧ goodT P k = true) ∧ TabsOK P (k + 1) r
theorem tabs_ok {P : Program} : ∀ (L : List (Option TI)) (k : Nat), TabsOK P k L → ∀ t i, L[t]? = some (some i) → tiOf P (k + t) = some i ∧ goodT P (k + t) = true
  | [], k, _, t, i, h => by simp at h
  | none :: r, k, hk, t, i, h => by
    cases t with
    | zero => simp at h
    | succ t =>
      have := tabs_ok r (k + 1) hk t i (by simpa using h)
      rwa [show k + 1 + t = k + (t + 1) from by omega] at this
  | some j :: r, k, hk, t, i, h => by
    cases t with
    | zero =>
      simp at h
      subst h
      exact hk.1
    | succ t =>
      have := tabs_ok r (k + 1) hk.2 t i (by simpa using h)
      rwa [show k + 1 + t = k + (t + 1) from by omega] at this
theorem tabOf_ok {P : Program} {L : List (Option TI)} (h : TabsOK P 0 L) : TabOK P (tabOf L) := fun t i ht => by
  unfold tabOf at ht
  split at ht
  · rename_i j hj
    injection ht with ht
    subst ht
    have := tabs_ok L 0 h t j hj
    rwa [Nat.zero_add] at this
  · cases ht
def fnOf : List (Nat × FnI) → FuncId → Option FnI
  | [], _ => none
  | (k, i) :: r, f => match Nat.beq k f with
    | true => some i
    | false => fnOf r f
def FnsOK (P : Program) : List (Nat × FnI) → Prop
  | [] => True
  | (k, i) :: r => FnOK P k i ∧ FnsOK P r
theorem fns_ok {P : Program} : ∀ (L : List (Nat × FnI)), FnsOK P L → ∀ f fi, fnOf L f = some fi → FnOK P f fi
  | [], _, f, fi, h => by cases h
  | (k, i) :: r, hk, f, fi, h => by
    simp only [fnOf] at h
    split at h
    · rename_i hb
      injection h with h
      subst h
      have := Nat.eq_of_beq_eq_true hb
      subst this
      exact hk.1
    · exact fns_ok r hk.2 f fi h
theorem FnOK.of {P : Program} {f : FuncId} {fn : Func} {fi : FnI} (hf : P.funcs[f]? = some fn) (hb : fn.body = some fi.body) (hn : fn.ntmps = fi.A.nt) (hr : fn.results.toList = fi.res) (he : ∀ (as : Array Value) (w : World), (callFunc f as).run P w = .ok (.enter f as) w) : FnOK P f fi := ⟨⟨fn, hf, hb, hn, hr⟩, he⟩
theorem cmpstr_ok {P : Program} {f : FuncId} (hf : ∀ (as : Array Value) (w : World), (callFunc f as).run P w = ((Extern.BytealgCompare.compare as).run P w).andThen fun v w' => .ok (.value v) w')
    {a b : List UInt8} {g : Gh} {h : Hp} {vs : List Value} (hi : Inv g h) (hr : RepL g vs [.str a, .str b]) : CallAt P f vs g h (.int .i64 (Lib.compareBytes a b)) := by
  cases hr with
  | cons hx r => cases r with
    | cons hy r => cases r with
      | nil =>
        cases hx; cases hy
        refine .inr ⟨.int .i64 (Lib.compareBytes a b), g, ?_, Ext.refl g, hi, .int _ _⟩
        rw [hf, Lib.run_compareString]
        simp [Result.andThen]
def dCmp (args : List D) (h : Hp) : Option (D × Hp) := match args with
  | [.str a, .str b] => some (.int .i64 (Lib.compareBytes a b), h)
  | _ => none
end Go.Pi
