/- What the walks of this seat share: the order of the statements that leave it open. -/
import Derived.Test.YtiamjjeflmcgoaaEngH
import Derived.Test.YtiamjjeflmcgoaaChecked
namespace Go.Proofs.Ytiamjjeflmcgoaa
open Go.Eng
theorem Try.mixo : Try.prog.follows .mixedOrders = true := by kernel_rfl
theorem Try.info9 : Try.prog.info? 9 = some Try.t9 := by kernel_rfl
theorem Try.info31 : Try.prog.info? 31 = some Try.t31 := by kernel_rfl
theorem Try.info34 : Try.prog.info? 34 = some Try.t34 := by kernel_rfl
theorem Try.info53 : Try.prog.info? 53 = some Try.t53 := by kernel_rfl
theorem Try.info56 : Try.prog.info? 56 = some Try.t56 := by kernel_rfl
theorem Try.info74 : Try.prog.info? 74 = some Try.t74 := by kernel_rfl
theorem Try.info78 : Try.prog.info? 78 = some Try.t78 := by kernel_rfl
theorem Try.info106 : Try.prog.info? 106 = some Try.t106 := by kernel_rfl
theorem Try.info109 : Try.prog.info? 109 = some Try.t109 := by kernel_rfl
theorem Try.info113 : Try.prog.info? 113 = some Try.t113 := by kernel_rfl
end Go.Proofs.Ytiamjjeflmcgoaa
