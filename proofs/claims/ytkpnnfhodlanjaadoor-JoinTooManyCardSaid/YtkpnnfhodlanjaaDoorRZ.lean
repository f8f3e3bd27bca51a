/- What the second level tells holds of the program. -/
import Derived.Test.YtkpnnfhodlanjaaDoorVW
import Derived.Test.YtkpnnfhodlanjaaDoorB2
import Derived.KernelRfl
import Derived.Shelf.Abstract
namespace Go.Proofs.YtkpnnfhodlanjaaDoor
open Go.Eng Go.Pi
theorem b7K:a1f Tryd.prog X1 xt1:=fun f args h d h' hd g vs hi hgl hr=>by
 unfold xt1 at hd
 split at hd
 ·rename_i hf
  subst hf
  exact b5e (X:=X) b9R (Go.Proofs.enters_of Tryd.func13 (by kernel_rfl) rfl) (Go.Proofs.enters_of Tryd.func20 (by kernel_rfl) rfl) b7M hd hi hgl hr
 ·exact b7M _ _ _ _ _ hd g vs hi hgl hr
theorem b5T:a1f Tryd.prog X1 R1:=b1D (X:=X1) b4Y b7S b7K (a8T b2e b4u)
end Go.Proofs.YtkpnnfhodlanjaaDoor
