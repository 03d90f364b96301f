/-
  Contracts of the shelf laid at this program. Printed by laygen.py.
-/
import Derived.Test.YtbgkhipclkhlcaaGreatDoorProg
import Derived.Shelf.Strings.Cut
namespace Go.Proofs.YtbgkhipclkhlcaaGreatDoor
set_option maxRecDepth 100000
open Go.Shelf
def layK_ren : Go.Shelf.Ren := ⟨fun | 145 => 40 | 220 => 56 | 219 => 52 | 217 => 69 | 225 => 70 | 224 => 71 | 267 => 72 | 266 => 85 | 314 => 86 | n => n, fun | 9 => 9 | 4 => 4 | 59 => 68 | 3 => 3 | 5 => 5 | 46 => 97 | 146 => 114 | 51 => 113 | n => n, fun | 1 => 0 | n => n⟩
theorem layK : Go.Proofs.Lays.n145 Tryz.prog layK_ren := {
  mixed := by kernel_rfl
  f145 := Tryz.func40.trans (congrArg some (by kernel_rfl))
  f217 := Tryz.func69.trans (congrArg some (by kernel_rfl))
  f219 := Tryz.func52.trans (congrArg some (by kernel_rfl))
  f220 := Tryz.func56.trans (congrArg some (by kernel_rfl))
  f224 := Tryz.func71.trans (congrArg some (by kernel_rfl))
  f225 := Tryz.func70.trans (congrArg some (by kernel_rfl))
  f266 := Tryz.func85.trans (congrArg some (by kernel_rfl))
  f267 := Tryz.func72.trans (congrArg some (by kernel_rfl))
  f314 := Tryz.func86.trans (congrArg some (by kernel_rfl))
  t3 := Tryz.underlying3
  a3 := Tryz.isAgg3
  z3 := Tryz.sizeOf3
  v3 := Tryz.zeroValue3
  t4 := Tryz.underlying4
  a4 := Tryz.isAgg4
  z4 := Tryz.sizeOf4
  v4 := Tryz.zeroValue4
  t5 := Tryz.underlying5
  a5 := Tryz.isAgg5
  z5 := Tryz.sizeOf5
  v5 := Tryz.zeroValue5
  t9 := Tryz.underlying9
  a9 := Tryz.isAgg9
  z9 := Tryz.sizeOf9
  v9 := Tryz.zeroValue9
  t46 := Tryz.underlying97
  a46 := Tryz.isAgg97
  z46 := Tryz.sizeOf97
  v46 := Tryz.zeroValue97
  t51 := Tryz.underlying113
  a51 := Tryz.isAgg113
  z51 := Tryz.sizeOf113
  v51 := Tryz.zeroValue113
  t59 := Tryz.underlying68
  a59 := Tryz.isAgg68
  z59 := Tryz.sizeOf68
  v59 := Tryz.zeroValue68
  t146 := Tryz.underlying114
  a146 := Tryz.isAgg114
  z146 := Tryz.sizeOf114
  v146 := Tryz.zeroValue114
  g1 := by kernel_rfl }
end Go.Proofs.YtbgkhipclkhlcaaGreatDoor
