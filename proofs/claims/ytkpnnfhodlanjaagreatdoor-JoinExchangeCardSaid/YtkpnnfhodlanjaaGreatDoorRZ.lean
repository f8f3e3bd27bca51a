/- What the second level tells holds of the program. -/
import Derived.Test.YtkpnnfhodlanjaaGreatDoorVW
import Derived.Test.YtkpnnfhodlanjaaGreatDoorB2
import Derived.KernelRfl
import Derived.Shelf.Abstract
namespace Go.Proofs.YtkpnnfhodlanjaaGreatDoor
open Go.Eng Go.Pi
theorem c5c:a1I Tryz.prog X1 xt1:=fun f args h d h' hd g vs hi hgl hr=>by
 unfold xt1 at hd
 split at hd
 ·rename_i hf
  subst hf
  exact c0P (X:=X) c8w (Go.Proofs.enters_of Tryz.func31 (by kernel_rfl) rfl) (Go.Proofs.enters_of Tryz.func48 (by kernel_rfl) rfl) c5f hd hi hgl hr
 ·exact c5f _ _ _ _ _ hd g vs hi hgl hr
theorem c1T:a1I Tryz.prog X1 R1:=b5I (X:=X1) c0G c5x c5c (b1L b6A b9I)
end Go.Proofs.YtkpnnfhodlanjaaGreatDoor
