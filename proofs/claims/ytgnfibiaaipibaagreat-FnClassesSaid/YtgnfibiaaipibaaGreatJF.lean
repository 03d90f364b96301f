import Derived.Test.YtgnfibiaaipibaaGreatRows
import Derived.Test.YtgnfibiaaipibaaGreatP
namespace Go.Proofs.YtgnfibiaaipibaaGreat
theorem jf_laid:laidOutB Tryz.prog=true:=by kernel_rfl
theorem jf_maps:mapsRowed Tryz.prog=true:=by kernel_rfl
theorem jf_keys:Tryz.prog.plainKeys=true:=by kernel_rfl
theorem jf_heard:Tryz.prog.stopsHeard=true:=by kernel_rfl
theorem jf_enter:Tryz.prog.mayEnter=true:=by kernel_rfl
theorem jf_lifts:Tryz.prog.liftsFinal=false:=by kernel_rfl
end Go.Proofs.YtgnfibiaaipibaaGreat
