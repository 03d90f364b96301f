import Derived.Test.YtlommebgedmjdaaGreatDoorProg
import Derived.Shelf.Lays
import Derived.Shelf.Bits.Mul64
namespace Go.Proofs.YtlommebgedmjdaaGreatDoor
set_option maxRecDepth 100000
open Go.Shelf
def xRx:Go.Shelf.Ren:=⟨fun | 212=>121 | 263=>171 | 264=>172 | n=>n,fun | 46=>163 | 51=>205 | 146=>206 | 53=>111 | 148=>208 | n=>n,fun | n=>n⟩
theorem layM:Go.Proofs.Lays.n212 Tryz.prog xRx:={
  mixed:=by kernel_rfl
  f212:=Tryz.func121.trans (congrArg some (by kernel_rfl))
  f263:=Tryz.func171.trans (congrArg some (by kernel_rfl))
  f264:=Tryz.func172.trans (congrArg some (by kernel_rfl))
  t46:=Tryz.underlying163
  a46:=Tryz.isAgg163
  z46:=Tryz.sizeOf163
  v46:=Tryz.zeroValue163
  t51:=Tryz.underlying205
  a51:=Tryz.isAgg205
  z51:=Tryz.sizeOf205
  v51:=Tryz.zeroValue205
  t53:=Tryz.underlying111
  a53:=Tryz.isAgg111
  z53:=Tryz.sizeOf111
  v53:=Tryz.zeroValue111
  t146:=Tryz.underlying206
  a146:=Tryz.isAgg206
  z146:=Tryz.sizeOf206
  v146:=Tryz.zeroValue206
  t148:=Tryz.underlying208
  a148:=Tryz.isAgg208
  z148:=Tryz.sizeOf208
  v148:=Tryz.zeroValue208 }
end Go.Proofs.YtlommebgedmjdaaGreatDoor
