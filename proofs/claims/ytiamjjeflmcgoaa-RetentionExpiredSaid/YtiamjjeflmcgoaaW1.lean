import Derived.Test.YtiamjjeflmcgoaaT9
set_option linter.unusedSimpArgs false
set_option linter.unusedVariables false
set_option linter.unnecessarySimpa false
namespace Go.Proofs.Ytiamjjeflmcgoaa
open Go.Eng Go.Pi
@[simp] theorem nilCheck_ptr (o i f : Nat) : dNilCheck (.ptr o i f) = some (.ptr o i f) := id rfl
theorem given_len {zs : List Int} {d : D} (hd : Given .u8 zs d) : dLenT tab 22 d = some (.int .i64 zs.length) := by
  rcases hd with ⟨rfl, rfl⟩ | rfl
  · rfl
  · simp [-Option.bind_some, ints]
theorem s57 (o pos : Nat) (zs : List Int) (d : D) (h : Hp) (ho : h[o]? = some (.row 101 2 [[d, .int .i64 pos]])) (hd : Given .u8 zs d) : R 57 [.ptr o 0 0] h = some (.bool (decide (pos < zs.length)), h) := by
  rw [e57]
  simp [-Option.bind_some, F57, Hp.row, ho, given_len hd]
theorem given_ix {zs : List Int} {d : D} (hd : Given .u8 zs d) (i : Nat) (z : Int) (hz : zs[i]? = some z) : dIndexAddr tab 22 d (.int .i64 i) = some (.fptr [.int .u8 z]) := by
  rcases hd with ⟨rfl, rfl⟩ | rfl
  · cases hz
  · simp [-Option.bind_some, ints, hz]
theorem store_ptr3 (h : Hp) (o k f : Nat) (v : D) : dStore tab h 3 (.ptr o k f) v = pSt 1 h (.ptr o k f) v := rfl
theorem s24 (o pos : Nat) (zs : List Int) (d : D) (n z : Int) (h : Hp) (ho : h[o]? = some (.row 101 2 [[d, .int .i64 pos]])) (hd : Given .u8 zs d) (hn : 1 ≤ n) (hn2 : n ≤ 1000000000) (hz : zs[pos]? = some z) (hz0 : 0 ≤ z) (hz1 : z < 256) (hl : zs.length ≤ 400) :
    R 24 [.ptr o 0 0, .int .i64 n] h = some (.int .i64 (z * n / 256), h.set o (.row 101 2 [[d, .int .i64 ((pos + 1 : Nat) : Int)]])) := by
  have hp : pos < zs.length := (List.getElem?_eq_some_iff.1 hz).1
  have hn' : ¬ n < 1 := by omega
  have hw : IntKind.wrap .i64 ((pos : Int) + 1) = (pos : Int) + 1 := wrap_i64 (by omega) (by omega)
  have hzw : IntKind.wrap .i64 z = z := wrap_i64 (by omega) (by omega)
  rw [e24]
  simp [-Option.bind_some, F24, s57 o pos zs d h ho hd, hp, hn', Hp.row, ho, given_ix hd pos z hz, hw, hzw, store_ptr3, pSt, D.okv, cells1, D.one, spl]
  have h0 : 0 ≤ z * n := Int.mul_nonneg hz0 (by omega)
  have h1 : z * n ≤ 255 * 1000000000 := Int.mul_le_mul (by omega) hn2 (by omega) (by omega)
  have e1 : IntKind.wrap .i64 (z * n) = z * n := wrap_i64 (by omega) (by omega)
  rw [e1, Int.tdiv_eq_ediv_of_nonneg h0, wrap_i64 (by omega) (by omega)]
end Go.Proofs.Ytiamjjeflmcgoaa
