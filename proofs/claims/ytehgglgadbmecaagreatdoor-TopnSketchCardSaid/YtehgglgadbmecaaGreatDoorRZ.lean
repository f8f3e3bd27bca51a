/- What the second level tells holds of the program. -/
import Derived.Test.YtehgglgadbmecaaGreatDoorVW
import Derived.Test.YtehgglgadbmecaaGreatDoorC9
import Derived.KernelRfl
namespace Go.Proofs.YtehgglgadbmecaaGreatDoor
open Go.Eng Go.Pi
theorem c4U:a1B Tryz.prog X1 xt1:=fun f args h d h' hd g vs hi hgl hr=>by
 unfold xt1 at hd
 split at hd
 ·rename_i hf
  subst hf
  exact c0M (X:=X) c8x (Go.Proofs.enters_of Tryz.func61 (by kernel_rfl) rfl) (Go.Proofs.enters_of Tryz.func76 (by kernel_rfl) rfl) c4X hd hi hgl hr
 ·exact c4X _ _ _ _ _ hd g vs hi hgl hr
theorem c1K:a1B Tryz.prog X1 R1:=b6i (X:=X1) b7W c5l c4U (b2i b7h b9T)
end Go.Proofs.YtehgglgadbmecaaGreatDoor
