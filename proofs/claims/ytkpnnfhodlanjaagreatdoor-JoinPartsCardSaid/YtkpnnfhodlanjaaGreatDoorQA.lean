/- What came in, as data: truth values, whole numbers, strings, structs and slices of them. No program is named here. -/
import Derived.Test.YtkpnnfhodlanjaaGreatDoorPiX
import Derived.Deep.Slices
set_option linter.unusedSimpArgs false
set_option linter.unusedVariables false
set_option linter.unnecessarySimpa false
namespace Go.Pi
open Go.Eng Go.ChangeShapes Go.WideShapes Go.ChangeAt Go.RowKit Go.Deep
section
variable {H:Type} {enc:TypeId × Value→H} {P:Program} {W:World}
end
end Go.Pi
