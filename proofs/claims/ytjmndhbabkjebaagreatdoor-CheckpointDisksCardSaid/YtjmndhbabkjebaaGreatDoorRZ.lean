/- What the second level tells holds of the program. -/
import Derived.Test.YtjmndhbabkjebaaGreatDoorRW
import Derived.Test.YtjmndhbabkjebaaGreatDoorB2
import Derived.KernelRfl
namespace Go.Proofs.YtjmndhbabkjebaaGreatDoor
open Go.Eng Go.Pi
theorem glo {g:Gh} (hgl:GlOK g gl):GlOK (Gh.off g.L g.w) gl:=fun i d hd=>by
 have hd0:=hd
 unfold gl at hd
 split at hd
 ·injection hd with hd
  subst hd
  exact c0L (zs:=kinZ) (hgl i _ hd0)
 ·cases hd
theorem d3H:a2A Tryz.prog X1 xt1:=fun f args h d h' hd g vs hi hgl hr=>by
 unfold xt1 at hd
 split at hd
 ·rename_i hf
  subst hf
  exact c3m (X:=X) d3W (Go.Proofs.enters_of Tryz.func21 (by kernel_rfl) rfl) hd hi (glo hgl) hr
 ·split at hd
  ·rename_i hf
   subst hf
   exact c2S (X:=X) d3W (Go.Proofs.enters_of Tryz.func23 (by kernel_rfl) rfl) hd hi (glo hgl) hr
  ·exact d3I _ _ _ _ _ hd g vs hi hgl hr
theorem c8V:a2A Tryz.prog X1 R1:=c1W (X:=X1) c4e d3T d3H (b7z c2W c6S)
end Go.Proofs.YtjmndhbabkjebaaGreatDoor
