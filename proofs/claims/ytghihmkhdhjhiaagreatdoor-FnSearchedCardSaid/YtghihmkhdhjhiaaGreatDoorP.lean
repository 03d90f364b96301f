import Derived.Test.YtghihmkhdhjhiaaGreatDoorRows
import Derived.Test.YtghihmkhdhjhiaaGreatDoorO
namespace Go.Proofs.YtghihmkhdhjhiaaGreatDoor
set_option linter.unusedVariables false
set_option linter.unusedSimpArgs false
open Go.ChangeShapes Go.WideShapes Go.ChangeAt Go.RowKit Go.Deep
theorem Tryz.laidOut:laidOutB Tryz.prog=true:=by kernel_rfl
end Go.Proofs.YtghihmkhdhjhiaaGreatDoor
