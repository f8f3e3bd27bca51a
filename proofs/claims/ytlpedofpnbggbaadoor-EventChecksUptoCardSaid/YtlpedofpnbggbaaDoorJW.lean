/- The walks of strings.Join: laid by the kit. -/
import Derived.Test.YtlpedofpnbggbaaDoorJA
import Derived.Test.YtlpedofpnbggbaaDoorChecked
import Derived.Shelf.Strings.OnBuilder
import Derived.KernelRfl
namespace Go.Proofs.YtlpedofpnbggbaaDoor
open Go.Shelf Go.Eng Go.Pi Go.RowKit
def laysJ_ren : Go.Shelf.Ren := ⟨fun | 156 => 54 | 165 => 81 | 166 => 82 | 169 => 83 | 240 => 93 | 241 => 94 | 276 => 99 | 277 => 100 | n => n, fun | 31 => 82 | 9 => 9 | 3 => 3 | 4 => 4 | 0 => 0 | 20 => 20 | 72 => 120 | 76 => 124 | 70 => 118 | 37 => 28 | 75 => 123 | 127 => 140 | 164 => 144 | 5 => 5 | 80 => 126 | n => n, fun | n => n⟩
theorem laysJ : Go.Proofs.Lays.n156 Tryd.prog laysJ_ren := {
  mixed := by kernel_rfl
  f156 := Tryd.func54.trans (congrArg some (by kernel_rfl))
  f165 := Tryd.func81.trans (congrArg some (by kernel_rfl))
  f166 := Tryd.func82.trans (congrArg some (by kernel_rfl))
  f169 := Tryd.func83.trans (congrArg some (by kernel_rfl))
  f240 := Tryd.func93.trans (congrArg some (by kernel_rfl))
  f241 := Tryd.func94.trans (congrArg some (by kernel_rfl))
  f276 := Tryd.func99.trans (congrArg some (by kernel_rfl))
  f277 := Tryd.func100.trans (congrArg some (by kernel_rfl))
  t0 := Tryd.underlying0
  a0 := Tryd.isAgg0
  z0 := Tryd.sizeOf0
  v0 := Tryd.zeroValue0
  t3 := Tryd.underlying3
  a3 := Tryd.isAgg3
  z3 := Tryd.sizeOf3
  v3 := Tryd.zeroValue3
  t4 := Tryd.underlying4
  a4 := Tryd.isAgg4
  z4 := Tryd.sizeOf4
  v4 := Tryd.zeroValue4
  t9 := Tryd.underlying9
  a9 := Tryd.isAgg9
  z9 := Tryd.sizeOf9
  v9 := Tryd.zeroValue9
  t20 := Tryd.underlying20
  a20 := Tryd.isAgg20
  z20 := Tryd.sizeOf20
  v20 := Tryd.zeroValue20
  t31 := Tryd.underlying82
  a31 := Tryd.isAgg82
  z31 := Tryd.sizeOf82
  v31 := Tryd.zeroValue82
  t37 := Tryd.underlying28
  a37 := Tryd.isAgg28
  z37 := Tryd.sizeOf28
  v37 := Tryd.zeroValue28
  t70 := Tryd.underlying118
  a70 := Tryd.isAgg118
  z70 := Tryd.sizeOf118
  v70 := Tryd.zeroValue118
  t72 := Tryd.underlying120
  a72 := Tryd.isAgg120
  z72 := Tryd.sizeOf120
  v72 := Tryd.zeroValue120
  t75 := Tryd.underlying123
  a75 := Tryd.isAgg123
  z75 := Tryd.sizeOf123
  v75 := Tryd.zeroValue123
  t76 := Tryd.underlying124
  a76 := Tryd.isAgg124
  z76 := Tryd.sizeOf124
  v76 := Tryd.zeroValue124
  t127 := Tryd.underlying140
  a127 := Tryd.isAgg140
  z127 := Tryd.sizeOf140
  v127 := Tryd.zeroValue140
  t164 := Tryd.underlying144
  a164 := Tryd.isAgg144
  z164 := Tryd.sizeOf144
  v164 := Tryd.zeroValue144 }
theorem extraJ : Builder.Extra Tryd.prog laysJ_ren := {
  sizeBuilder := by kernel_rfl
  liesBuilder := by kernel_rfl
  t5 := Tryd.underlying5
  a5 := Tryd.isAgg5
  z5 := Tryd.sizeOf5
  v5 := Tryd.zeroValue5
  infoByte := by kernel_rfl
  cellsByte := by kernel_rfl
  sizeByte := by kernel_rfl
  neB5 := by decide }
theorem stringsJoin_none (a : Option Addr) (c : Nat) (sep : ByteArray) (w : World) :
    Calls Tryd.prog 54 #[.slice a 0 c, .string sep] w fun e w' => e = .returned (.string ⟨#[]⟩) ∧ w' = w := Any.strings_Join_none laysJ extraJ a c sep w
theorem stringsJoin (bk o c : Nat) (xs : List ByteArray) (sep : ByteArray) (w : World) (hcells : ∀ (j : Nat) x, xs[j]? = some x → w.cell? ⟨bk, o + j, none⟩ = some (.string x)) (hbk : bk < w.heap.size) (hN : xs.length ≤ 140737488355328) (hcap : xs.length ≤ c) (hlen : (Lib.join (xs.map (·.data.toList)) sep.data.toList).length ≤ 140737488355328) :
    Calls Tryd.prog 54 #[.slice (some ⟨bk, o, none⟩) xs.length c, .string sep] w fun e w' => e = .returned (.string ⟨(Lib.join (xs.map (·.data.toList)) sep.data.toList).toArray⟩) ∧ Below w.heap.size w w' := Any.strings_Join laysJ extraJ bk o c xs sep w hcells hbk hN hcap hlen
theorem joinW : JoinWalk Tryd.prog 54 := ⟨stringsJoin_none, stringsJoin⟩
end Go.Proofs.YtlpedofpnbggbaaDoor
