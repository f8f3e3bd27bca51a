/- From a row's input to the facts of a walk. No program is named here. -/
import Derived.Test.YtkpnnfhodlanjaaGreatDoorEngH
import Derived.ProofKit
import Derived.OpenShut
import Derived.Below
set_option linter.unusedSimpArgs false
set_option linter.unusedVariables false
namespace Go.Eng
open Go.ChangeShapes Go.WideShapes Go.ChangeAt Go.RowKit
def Gw.all (w:World) (N:Nat):Gw:=⟨w,fun b=>if b<w.heap.size then N else 0,fun b hb=>by rw [if_neg (by omega)]⟩
theorem b7N {n:Int} (h:(Lit.int .u8 n).wf=true):0≤n∧n<256:=by
 simp only [Lit.wf,Bool.and_eq_true,decide_eq_true_eq] at h
 have h1:IntKind.min .u8=0:=rfl
 have h2:IntKind.max .u8=255:=rfl
 omega
section
variable {H:Type} {enc:TypeId × Value→H} {P:Program} {W:World}
end
theorem a1A {P:Program} {f:FuncId} {args:Array Value} {W:World} {N:Nat} {u:Value} (h:CallsV P f args W (Ret Mno (Gw.all W N) fun v _=>v=u)):Calls P f args W fun e w'=>e = .returned u∧Below W.heap.size W w' :=
 Calls.mono h (by
  rintro e w' ⟨v,rfl,g',rfl,hv,rfl⟩
  exact ⟨rfl,hv.below⟩)
end Go.Eng
