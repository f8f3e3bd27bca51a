/- What the second level tells holds of the program. -/
import Derived.Test.YtehgglgadbmecaaGreatDoorVW
import Derived.Test.YtehgglgadbmecaaGreatDoorC9
import Derived.KernelRfl
namespace Go.Proofs.YtehgglgadbmecaaGreatDoor
open Go.Eng Go.Pi
theorem c5F:a1A Tryz.prog X1 xt1:=fun f args h d h' hd g vs hi hgl hr=>by
 unfold xt1 at hd
 split at hd
 ·rename_i hf
  subst hf
  exact c1o (X:=X) c9q (Go.Proofs.enters_of Tryz.func61 (by kernel_rfl) rfl) (Go.Proofs.enters_of Tryz.func76 (by kernel_rfl) rfl) c5I hd hi hgl hr
 ·exact c5I _ _ _ _ _ hd g vs hi hgl hr
theorem c2i:a1A Tryz.prog X1 R1:=b6y (X:=X1) b8m c5Y c5F (b2A b7t c0A)
end Go.Proofs.YtehgglgadbmecaaGreatDoor
