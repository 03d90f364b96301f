/-
  Contracts of the shelf laid at this program. Printed by laygen.py.
-/
import Derived.Test.YtmgdjaiaekhkgaaGreatProg
import Derived.Shelf.Lays
import Derived.Shelf.Bits.Mul64
namespace Go.Proofs.YtmgdjaiaekhkgaaGreat
set_option maxRecDepth 100000
open Go.Shelf
def layM_ren : Go.Shelf.Ren := ⟨fun | 212 => 155 | 263 => 209 | 264 => 210 | n => n, fun | 46 => 189 | 51 => 237 | 146 => 238 | 53 => 240 | 148 => 241 | n => n, fun | n => n⟩
theorem layM : Go.Proofs.Lays.n212 Tryz.prog layM_ren := {
  mixed := by kernel_rfl
  f212 := Tryz.func155.trans (congrArg some (by kernel_rfl))
  f263 := Tryz.func209.trans (congrArg some (by kernel_rfl))
  f264 := Tryz.func210.trans (congrArg some (by kernel_rfl))
  t46 := Tryz.underlying189
  a46 := Tryz.isAgg189
  z46 := Tryz.sizeOf189
  v46 := Tryz.zeroValue189
  t51 := Tryz.underlying237
  a51 := Tryz.isAgg237
  z51 := Tryz.sizeOf237
  v51 := Tryz.zeroValue237
  t53 := Tryz.underlying240
  a53 := Tryz.isAgg240
  z53 := Tryz.sizeOf240
  v53 := Tryz.zeroValue240
  t146 := Tryz.underlying238
  a146 := Tryz.isAgg238
  z146 := Tryz.sizeOf238
  v146 := Tryz.zeroValue238
  t148 := Tryz.underlying241
  a148 := Tryz.isAgg241
  z148 := Tryz.sizeOf241
  v148 := Tryz.zeroValue241 }
end Go.Proofs.YtmgdjaiaekhkgaaGreat
