/- What the second level tells holds of the program. -/
import Derived.Test.YtkpnnfhodlanjaaGreatDoorVW
import Derived.Test.YtkpnnfhodlanjaaGreatDoorB2
import Derived.KernelRfl
import Derived.Shelf.Abstract
namespace Go.Proofs.YtkpnnfhodlanjaaGreatDoor
open Go.Eng Go.Pi
theorem c5k:a1I Tryz.prog X1 xt1:=fun f args h d h' hd g vs hi hgl hr=>by
 unfold xt1 at hd
 split at hd
 ·rename_i hf
  subst hf
  exact c0W (X:=X) c8G (Go.Proofs.enters_of Tryz.func31 (by kernel_rfl) rfl) (Go.Proofs.enters_of Tryz.func48 (by kernel_rfl) rfl) c5n hd hi hgl hr
 ·exact c5n _ _ _ _ _ hd g vs hi hgl hr
theorem c1Z:a1I Tryz.prog X1 R1:=b5O (X:=X1) c0N c5H c5k (b1T b6G b9Q)
end Go.Proofs.YtkpnnfhodlanjaaGreatDoor
