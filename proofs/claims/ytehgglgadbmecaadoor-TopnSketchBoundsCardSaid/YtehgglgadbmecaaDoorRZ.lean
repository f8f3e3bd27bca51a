/- What the second level tells holds of the program. -/
import Derived.Test.YtehgglgadbmecaaDoorVW
import Derived.Test.YtehgglgadbmecaaDoorB2
import Derived.KernelRfl
namespace Go.Proofs.YtehgglgadbmecaaDoor
open Go.Eng Go.Pi
theorem c3m:a1v Tryd.prog X1 xt1:=fun f args h d h' hd g vs hi hgl hr=>by
 unfold xt1 at hd
 split at hd
 ·rename_i hf
  subst hf
  exact b9L (X:=X) c6D (Go.Proofs.enters_of Tryd.func41 (by kernel_rfl) rfl) (Go.Proofs.enters_of Tryd.func52 (by kernel_rfl) rfl) c3p hd hi hgl hr
 ·exact c3p _ _ _ _ _ hd g vs hi hgl hr
theorem c0v:a1v Tryd.prog X1 R1:=b5r (X:=X1) b7c c3G c3m (b1A b6k b9a)
end Go.Proofs.YtehgglgadbmecaaDoor
