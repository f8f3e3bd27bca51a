/- What the second level tells holds of the program. -/
import Derived.Test.YtjmndhbabkjebaaGreatDoorRW
import Derived.Test.YtjmndhbabkjebaaGreatDoorB2
import Derived.KernelRfl
namespace Go.Proofs.YtjmndhbabkjebaaGreatDoor
open Go.Eng Go.Pi
theorem glo {g:Gh} (hgl:GlOK g gl):GlOK (Gh.off g.L g.w) gl:=fun i d hd=>by
 have hd0:=hd
 unfold gl at hd
 split at hd
 ·injection hd with hd
  subst hd
  exact c0S (zs:=kinZ) (hgl i _ hd0)
 ·cases hd
theorem d3H:a2z Tryz.prog X1 xt1:=fun f args h d h' hd g vs hi hgl hr=>by
 unfold xt1 at hd
 split at hd
 ·rename_i hf
  subst hf
  exact c3u (X:=X) d3V (Go.Proofs.enters_of Tryz.func21 (by kernel_rfl) rfl) hd hi (glo hgl) hr
 ·split at hd
  ·rename_i hf
   subst hf
   exact c2Y (X:=X) d3V (Go.Proofs.enters_of Tryz.func23 (by kernel_rfl) rfl) hd hi (glo hgl) hr
  ·exact d3J _ _ _ _ _ hd g vs hi hgl hr
theorem c9f:a2z Tryz.prog X1 R1:=c2d (X:=X1) c4q d3T d3H (b7E c3c c6U)
end Go.Proofs.YtjmndhbabkjebaaGreatDoor
