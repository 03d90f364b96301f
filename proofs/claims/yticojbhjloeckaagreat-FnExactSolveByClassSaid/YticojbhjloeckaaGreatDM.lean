import Derived.Test.YticojbhjloeckaaGreatProg
import Derived.Shelf.Lays
import Derived.Shelf.Bits.Mul64
namespace Go.Proofs.YticojbhjloeckaaGreat
set_option maxRecDepth 100000
open Go.Shelf
def layM_ren:Go.Shelf.Ren:=⟨fun | 212=>63 | 263=>104 | 264=>105 | n=>n,fun | 46=>102 | 51=>145 | 146=>146 | 53=>148 | 148=>149 | n=>n,fun | n=>n⟩
theorem layM:Go.Proofs.Lays.n212 Tryz.prog layM_ren:={
  mixed:=by kernel_rfl
  f212:=Tryz.func63.trans (congrArg some (by kernel_rfl))
  f263:=Tryz.func104.trans (congrArg some (by kernel_rfl))
  f264:=Tryz.func105.trans (congrArg some (by kernel_rfl))
  t46:=Tryz.underlying102
  a46:=Tryz.isAgg102
  z46:=Tryz.sizeOf102
  v46:=Tryz.zeroValue102
  t51:=Tryz.underlying145
  a51:=Tryz.isAgg145
  z51:=Tryz.sizeOf145
  v51:=Tryz.zeroValue145
  t53:=Tryz.underlying148
  a53:=Tryz.isAgg148
  z53:=Tryz.sizeOf148
  v53:=Tryz.zeroValue148
  t146:=Tryz.underlying146
  a146:=Tryz.isAgg146
  z146:=Tryz.sizeOf146
  v146:=Tryz.zeroValue146
  t148:=Tryz.underlying149
  a148:=Tryz.isAgg149
  z148:=Tryz.sizeOf149
  v148:=Tryz.zeroValue149 }
end Go.Proofs.YticojbhjloeckaaGreat
