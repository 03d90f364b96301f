import Derived.Test.YtncganhbpbehaaaGreatRows
import Derived.Test.YtncganhbpbehaaaGreatO
namespace Go.Proofs.YtncganhbpbehaaaGreat
set_option linter.unusedVariables false
set_option linter.unusedSimpArgs false
open Go.ChangeShapes Go.WideShapes Go.ChangeAt Go.RowKit Go.Deep
theorem Tryz.laidOut:laidOutB Tryz.prog=true:=by kernel_rfl
end Go.Proofs.YtncganhbpbehaaaGreat
