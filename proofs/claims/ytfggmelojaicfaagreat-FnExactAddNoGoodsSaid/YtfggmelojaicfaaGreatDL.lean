/-
  Contracts of the shelf laid at this program. Printed by laygen.py.
-/
import Derived.Test.YtfggmelojaicfaaGreatProg
import Derived.Shelf.SlicesE.Compact
import Derived.Shelf.SortG.Plain
namespace Go.Proofs.YtfggmelojaicfaaGreat
set_option maxRecDepth 100000
open Go.Shelf
def layC_ren : Go.Shelf.Ren := ⟨fun | 43 => 187 | n => n, fun | 22 => 42 | 23 => 2 | 3 => 3 | 4 => 4 | 0 => 0 | n => n, fun | n => n⟩
theorem layC : Go.Proofs.SlLaysE.n43 Tryz.prog layC_ren := {
  mixed := by kernel_rfl
  f43 := ⟨Tryz.f187.name, by decide, Tryz.func187.trans (congrArg some (by kernel_rfl))⟩
  t0 := Tryz.underlying0
  a0 := Tryz.isAgg0
  z0 := Tryz.sizeOf0
  v0 := Tryz.zeroValue0
  t3 := Tryz.underlying3
  a3 := Tryz.isAgg3
  z3 := Tryz.sizeOf3
  v3 := Tryz.zeroValue3
  t4 := Tryz.underlying4
  a4 := Tryz.isAgg4
  z4 := Tryz.sizeOf4
  v4 := Tryz.zeroValue4
  t22 := Tryz.underlying42
  a22 := Tryz.isAgg42
  z22 := Tryz.sizeOf42
  v22 := Tryz.zeroValue42
  a23 := Tryz.isAgg2
  z23 := Tryz.sizeOf2 }
def layS_ren : Go.Shelf.Ren := ⟨fun | 53 => 186 | 64 => 253 | 63 => 252 | 78 => 303 | 79 => 304 | 70 => 294 | 71 => 295 | 72 => 296 | 73 => 297 | 74 => 298 | 75 => 299 | 59 => 300 | 76 => 301 | 77 => 302 | 88 => 326 | 89 => 327 | 90 => 328 | 91 => 329 | 92 => 330 | 68 => 321 | 96 => 338 | n => n, fun | 22 => 42 | 23 => 2 | 3 => 3 | 51 => 251 | 0 => 0 | 67 => 305 | 69 => 308 | 4 => 4 | 61 => 342 | 60 => 341 | 44 => 279 | 5 => 5 | 9 => 9 | 75 => 364 | 79 => 368 | 83 => 379 | 84 => 380 | n => n, fun | n => n⟩
theorem layS : Go.Proofs.SlLaysN.n53 Tryz.prog layS_ren := {
  mixed := by kernel_rfl
  f53 := ⟨Tryz.f186.name, by decide, Tryz.func186.trans (congrArg some (by kernel_rfl))⟩
  f59 := ⟨Tryz.f300.name, by decide, Tryz.func300.trans (congrArg some (by kernel_rfl))⟩
  f63 := ⟨Tryz.f252.name, by decide, Tryz.func252.trans (congrArg some (by kernel_rfl))⟩
  f64 := Tryz.func253.trans (congrArg some (by kernel_rfl))
  f68 := ⟨Tryz.f321.name, by decide, Tryz.func321.trans (congrArg some (by kernel_rfl))⟩
  f70 := ⟨Tryz.f294.name, by decide, Tryz.func294.trans (congrArg some (by kernel_rfl))⟩
  f71 := ⟨Tryz.f295.name, by decide, Tryz.func295.trans (congrArg some (by kernel_rfl))⟩
  f72 := ⟨Tryz.f296.name, by decide, Tryz.func296.trans (congrArg some (by kernel_rfl))⟩
  f73 := ⟨Tryz.f297.name, by decide, Tryz.func297.trans (congrArg some (by kernel_rfl))⟩
  f74 := ⟨Tryz.f298.name, by decide, Tryz.func298.trans (congrArg some (by kernel_rfl))⟩
  f75 := ⟨Tryz.f299.name, by decide, Tryz.func299.trans (congrArg some (by kernel_rfl))⟩
  f76 := ⟨Tryz.f301.name, by decide, Tryz.func301.trans (congrArg some (by kernel_rfl))⟩
  f77 := ⟨Tryz.f302.name, by decide, Tryz.func302.trans (congrArg some (by kernel_rfl))⟩
  f78 := Tryz.func303.trans (congrArg some (by kernel_rfl))
  f79 := Tryz.func304.trans (congrArg some (by kernel_rfl))
  f88 := ⟨Tryz.f326.name, by decide, Tryz.func326.trans (congrArg some (by kernel_rfl))⟩
  f89 := Tryz.func327.trans (congrArg some (by kernel_rfl))
  f90 := Tryz.func328.trans (congrArg some (by kernel_rfl))
  f91 := ⟨Tryz.f329.name, by decide, Tryz.func329.trans (congrArg some (by kernel_rfl))⟩
  f92 := ⟨Tryz.f330.name, by decide, Tryz.func330.trans (congrArg some (by kernel_rfl))⟩
  f96 := ⟨Tryz.f338.name, by decide, Tryz.func338.trans (congrArg some (by kernel_rfl))⟩
  t0 := Tryz.underlying0
  a0 := Tryz.isAgg0
  z0 := Tryz.sizeOf0
  v0 := Tryz.zeroValue0
  t3 := Tryz.underlying3
  a3 := Tryz.isAgg3
  z3 := Tryz.sizeOf3
  v3 := Tryz.zeroValue3
  t4 := Tryz.underlying4
  a4 := Tryz.isAgg4
  z4 := Tryz.sizeOf4
  v4 := Tryz.zeroValue4
  t5 := Tryz.underlying5
  a5 := Tryz.isAgg5
  z5 := Tryz.sizeOf5
  v5 := Tryz.zeroValue5
  t9 := Tryz.underlying9
  a9 := Tryz.isAgg9
  z9 := Tryz.sizeOf9
  v9 := Tryz.zeroValue9
  t22 := Tryz.underlying42
  a22 := Tryz.isAgg42
  z22 := Tryz.sizeOf42
  v22 := Tryz.zeroValue42
  t23 := Tryz.underlying2
  a23 := Tryz.isAgg2
  z23 := Tryz.sizeOf2
  v23 := Tryz.zeroValue2
  t44 := Tryz.underlying279
  a44 := Tryz.isAgg279
  z44 := Tryz.sizeOf279
  v44 := Tryz.zeroValue279
  t51 := Tryz.underlying251
  a51 := Tryz.isAgg251
  z51 := Tryz.sizeOf251
  v51 := Tryz.zeroValue251
  t60 := Tryz.underlying341
  a60 := Tryz.isAgg341
  z60 := Tryz.sizeOf341
  v60 := Tryz.zeroValue341
  t61 := Tryz.underlying342
  a61 := Tryz.isAgg342
  z61 := Tryz.sizeOf342
  v61 := Tryz.zeroValue342
  t67 := Tryz.underlying305
  a67 := Tryz.isAgg305
  z67 := Tryz.sizeOf305
  v67 := Tryz.zeroValue305
  t69 := Tryz.underlying308
  a69 := Tryz.isAgg308
  z69 := Tryz.sizeOf308
  v69 := Tryz.zeroValue308
  t75 := Tryz.underlying364
  a75 := Tryz.isAgg364
  z75 := Tryz.sizeOf364
  v75 := Tryz.zeroValue364
  t79 := Tryz.underlying368
  a79 := Tryz.isAgg368
  z79 := Tryz.sizeOf368
  v79 := Tryz.zeroValue368
  t83 := Tryz.underlying379
  a83 := Tryz.isAgg379
  z83 := Tryz.sizeOf379
  v83 := Tryz.zeroValue379
  t84 := Tryz.underlying380
  a84 := Tryz.isAgg380
  z84 := Tryz.sizeOf380
  v84 := Tryz.zeroValue380 }
end Go.Proofs.YtfggmelojaicfaaGreat
