import Derived.Test.YtgnfibiaaipibaaGreatProg
import Derived.Shelf.Lays
import Derived.Shelf.Bits.Mul64
namespace Go.Proofs.YtgnfibiaaipibaaGreat
set_option maxRecDepth 100000
open Go.Shelf
def layM_ren:Go.Shelf.Ren:=⟨fun | 212=>94 | 263=>127 | 264=>128 | n=>n,fun | 46=>132 | 51=>170 | 146=>171 | 53=>105 | 148=>173 | n=>n,fun | n=>n⟩
theorem layM:Go.Proofs.Lays.n212 Tryz.prog layM_ren:={
  mixed:=by kernel_rfl
  f212:=Tryz.func94.trans (congrArg some (by kernel_rfl))
  f263:=Tryz.func127.trans (congrArg some (by kernel_rfl))
  f264:=Tryz.func128.trans (congrArg some (by kernel_rfl))
  t46:=Tryz.underlying132
  a46:=Tryz.isAgg132
  z46:=Tryz.sizeOf132
  v46:=Tryz.zeroValue132
  t51:=Tryz.underlying170
  a51:=Tryz.isAgg170
  z51:=Tryz.sizeOf170
  v51:=Tryz.zeroValue170
  t53:=Tryz.underlying105
  a53:=Tryz.isAgg105
  z53:=Tryz.sizeOf105
  v53:=Tryz.zeroValue105
  t146:=Tryz.underlying171
  a146:=Tryz.isAgg171
  z146:=Tryz.sizeOf171
  v146:=Tryz.zeroValue171
  t148:=Tryz.underlying173
  a148:=Tryz.isAgg173
  z148:=Tryz.sizeOf173
  v148:=Tryz.zeroValue173 }
end Go.Proofs.YtgnfibiaaipibaaGreat
