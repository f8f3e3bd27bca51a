/- A package variable that is a row of whole numbers, as the row of the claim tells it. No program is named here. -/
import Derived.Test.YtkpnnfhodlanjaaGreatDoorPiX
import Derived.OpenShut
import Derived.MakeChecks
import Derived.FnData
import Derived.ChangeArms
set_option linter.unusedSimpArgs false
set_option linter.unusedVariables false
set_option linter.unnecessarySimpa false
namespace Go.Pi
open Go.Eng Go.ChangeShapes Go.WideShapes Go.ChangeAt Go.RowKit
end Go.Pi
