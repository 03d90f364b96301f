import Derived.Test.YtncganhbpbehaaaGreatRows
import Derived.Test.YtncganhbpbehaaaGreatP
namespace Go.Proofs.YtncganhbpbehaaaGreat
theorem xMs:laidOutB Tryz.prog=true:=by kernel_rfl
theorem xMy:mapsRowed Tryz.prog=true:=by kernel_rfl
theorem xNh:Tryz.prog.plainKeys=true:=by kernel_rfl
theorem xLe:Tryz.prog.stopsHeard=true:=by kernel_rfl
theorem xJe:Tryz.prog.mayEnter=true:=by kernel_rfl
theorem xKr:Tryz.prog.liftsFinal=false:=by kernel_rfl
end Go.Proofs.YtncganhbpbehaaaGreat
