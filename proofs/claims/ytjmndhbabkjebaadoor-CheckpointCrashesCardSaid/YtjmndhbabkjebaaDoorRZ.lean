/- What the second level tells holds of the program. -/
import Derived.Test.YtjmndhbabkjebaaDoorRW
import Derived.Test.YtjmndhbabkjebaaDoorB2
import Derived.KernelRfl
namespace Go.Proofs.YtjmndhbabkjebaaDoor
open Go.Eng Go.Pi
theorem glo {g:Gh} (hgl:GlOK g gl):GlOK (Gh.off g.L g.w) gl:=fun i d hd=>by
 have hd0:=hd
 unfold gl at hd
 split at hd
 ·injection hd with hd
  subst hd
  exact b7D (zs:=kinZ) (hgl i _ hd0)
 ·cases hd
theorem c7I:a1V Tryd.prog X1 xt1:=fun f args h d h' hd g vs hi hgl hr=>by
 unfold xt1 at hd
 split at hd
 ·rename_i hf
  subst hf
  exact c0c (X:=X) c8b (Go.Proofs.enters_of Tryd.func9 (by kernel_rfl) rfl) hd hi (glo hgl) hr
 ·split at hd
  ·rename_i hf
   subst hf
   exact b9K (X:=X) c8b (Go.Proofs.enters_of Tryd.func19 (by kernel_rfl) rfl) hd hi (glo hgl) hr
  ·exact c7J _ _ _ _ _ hd g vs hi hgl hr
theorem c4H:a1V Tryd.prog X1 R1:=b8P (X:=X1) c0K c7Z c7I (b4N b9N c2U)
end Go.Proofs.YtjmndhbabkjebaaDoor
