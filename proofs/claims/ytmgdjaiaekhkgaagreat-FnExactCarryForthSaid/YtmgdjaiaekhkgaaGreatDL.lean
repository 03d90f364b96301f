/-
  Contracts of the shelf laid at this program. Printed by laygen.py.
-/
import Derived.Test.YtmgdjaiaekhkgaaGreatProg
import Derived.Shelf.SlicesE.Compact
import Derived.Shelf.SortG.Plain
namespace Go.Proofs.YtmgdjaiaekhkgaaGreat
set_option maxRecDepth 100000
open Go.Shelf
def layC_ren : Go.Shelf.Ren := ⟨fun | 43 => 197 | n => n, fun | 22 => 42 | 23 => 2 | 3 => 3 | 4 => 4 | 0 => 0 | n => n, fun | n => n⟩
theorem layC : Go.Proofs.SlLaysE.n43 Tryz.prog layC_ren := {
  mixed := by kernel_rfl
  f43 := ⟨Tryz.f197.name, by decide, Tryz.func197.trans (congrArg some (by kernel_rfl))⟩
  t0 := Tryz.underlying0
  a0 := Tryz.isAgg0
  z0 := Tryz.sizeOf0
  v0 := Tryz.zeroValue0
  t3 := Tryz.underlying3
  a3 := Tryz.isAgg3
  z3 := Tryz.sizeOf3
  v3 := Tryz.zeroValue3
  t4 := Tryz.underlying4
  a4 := Tryz.isAgg4
  z4 := Tryz.sizeOf4
  v4 := Tryz.zeroValue4
  t22 := Tryz.underlying42
  a22 := Tryz.isAgg42
  z22 := Tryz.sizeOf42
  v22 := Tryz.zeroValue42
  a23 := Tryz.isAgg2
  z23 := Tryz.sizeOf2 }
def layS_ren : Go.Shelf.Ren := ⟨fun | 53 => 196 | 64 => 234 | 63 => 233 | 78 => 263 | 79 => 264 | 70 => 254 | 71 => 255 | 72 => 256 | 73 => 257 | 74 => 258 | 75 => 259 | 59 => 260 | 76 => 261 | 77 => 262 | 88 => 275 | 89 => 276 | 90 => 277 | 91 => 278 | 92 => 279 | 68 => 252 | 96 => 282 | n => n, fun | 22 => 42 | 23 => 2 | 3 => 3 | 51 => 189 | 0 => 0 | 67 => 237 | 69 => 240 | 4 => 4 | 61 => 282 | 60 => 281 | 44 => 218 | 5 => 5 | 9 => 9 | 75 => 299 | 79 => 303 | 83 => 307 | 84 => 308 | n => n, fun | n => n⟩
theorem layS : Go.Proofs.SlLaysN.n53 Tryz.prog layS_ren := {
  mixed := by kernel_rfl
  f53 := ⟨Tryz.f196.name, by decide, Tryz.func196.trans (congrArg some (by kernel_rfl))⟩
  f59 := ⟨Tryz.f260.name, by decide, Tryz.func260.trans (congrArg some (by kernel_rfl))⟩
  f63 := ⟨Tryz.f233.name, by decide, Tryz.func233.trans (congrArg some (by kernel_rfl))⟩
  f64 := Tryz.func234.trans (congrArg some (by kernel_rfl))
  f68 := ⟨Tryz.f252.name, by decide, Tryz.func252.trans (congrArg some (by kernel_rfl))⟩
  f70 := ⟨Tryz.f254.name, by decide, Tryz.func254.trans (congrArg some (by kernel_rfl))⟩
  f71 := ⟨Tryz.f255.name, by decide, Tryz.func255.trans (congrArg some (by kernel_rfl))⟩
  f72 := ⟨Tryz.f256.name, by decide, Tryz.func256.trans (congrArg some (by kernel_rfl))⟩
  f73 := ⟨Tryz.f257.name, by decide, Tryz.func257.trans (congrArg some (by kernel_rfl))⟩
  f74 := ⟨Tryz.f258.name, by decide, Tryz.func258.trans (congrArg some (by kernel_rfl))⟩
  f75 := ⟨Tryz.f259.name, by decide, Tryz.func259.trans (congrArg some (by kernel_rfl))⟩
  f76 := ⟨Tryz.f261.name, by decide, Tryz.func261.trans (congrArg some (by kernel_rfl))⟩
  f77 := ⟨Tryz.f262.name, by decide, Tryz.func262.trans (congrArg some (by kernel_rfl))⟩
  f78 := Tryz.func263.trans (congrArg some (by kernel_rfl))
  f79 := Tryz.func264.trans (congrArg some (by kernel_rfl))
  f88 := ⟨Tryz.f275.name, by decide, Tryz.func275.trans (congrArg some (by kernel_rfl))⟩
  f89 := Tryz.func276.trans (congrArg some (by kernel_rfl))
  f90 := Tryz.func277.trans (congrArg some (by kernel_rfl))
  f91 := ⟨Tryz.f278.name, by decide, Tryz.func278.trans (congrArg some (by kernel_rfl))⟩
  f92 := ⟨Tryz.f279.name, by decide, Tryz.func279.trans (congrArg some (by kernel_rfl))⟩
  f96 := ⟨Tryz.f282.name, by decide, Tryz.func282.trans (congrArg some (by kernel_rfl))⟩
  t0 := Tryz.underlying0
  a0 := Tryz.isAgg0
  z0 := Tryz.sizeOf0
  v0 := Tryz.zeroValue0
  t3 := Tryz.underlying3
  a3 := Tryz.isAgg3
  z3 := Tryz.sizeOf3
  v3 := Tryz.zeroValue3
  t4 := Tryz.underlying4
  a4 := Tryz.isAgg4
  z4 := Tryz.sizeOf4
  v4 := Tryz.zeroValue4
  t5 := Tryz.underlying5
  a5 := Tryz.isAgg5
  z5 := Tryz.sizeOf5
  v5 := Tryz.zeroValue5
  t9 := Tryz.underlying9
  a9 := Tryz.isAgg9
  z9 := Tryz.sizeOf9
  v9 := Tryz.zeroValue9
  t22 := Tryz.underlying42
  a22 := Tryz.isAgg42
  z22 := Tryz.sizeOf42
  v22 := Tryz.zeroValue42
  t23 := Tryz.underlying2
  a23 := Tryz.isAgg2
  z23 := Tryz.sizeOf2
  v23 := Tryz.zeroValue2
  t44 := Tryz.underlying218
  a44 := Tryz.isAgg218
  z44 := Tryz.sizeOf218
  v44 := Tryz.zeroValue218
  t51 := Tryz.underlying189
  a51 := Tryz.isAgg189
  z51 := Tryz.sizeOf189
  v51 := Tryz.zeroValue189
  t60 := Tryz.underlying281
  a60 := Tryz.isAgg281
  z60 := Tryz.sizeOf281
  v60 := Tryz.zeroValue281
  t61 := Tryz.underlying282
  a61 := Tryz.isAgg282
  z61 := Tryz.sizeOf282
  v61 := Tryz.zeroValue282
  t67 := Tryz.underlying237
  a67 := Tryz.isAgg237
  z67 := Tryz.sizeOf237
  v67 := Tryz.zeroValue237
  t69 := Tryz.underlying240
  a69 := Tryz.isAgg240
  z69 := Tryz.sizeOf240
  v69 := Tryz.zeroValue240
  t75 := Tryz.underlying299
  a75 := Tryz.isAgg299
  z75 := Tryz.sizeOf299
  v75 := Tryz.zeroValue299
  t79 := Tryz.underlying303
  a79 := Tryz.isAgg303
  z79 := Tryz.sizeOf303
  v79 := Tryz.zeroValue303
  t83 := Tryz.underlying307
  a83 := Tryz.isAgg307
  z83 := Tryz.sizeOf307
  v83 := Tryz.zeroValue307
  t84 := Tryz.underlying308
  a84 := Tryz.isAgg308
  z84 := Tryz.sizeOf308
  v84 := Tryz.zeroValue308 }
end Go.Proofs.YtmgdjaiaekhkgaaGreat
