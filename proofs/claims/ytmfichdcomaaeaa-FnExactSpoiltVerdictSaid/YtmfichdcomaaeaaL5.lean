/-
  Contracts of the laws' own helpers: of Deed, Line, Literal, Equation. Printed by gen_law.py.
-/
import Derived.Test.YtmfichdcomaaeaaRows
import Derived.Test.YtmfichdcomaaeaaT
import Derived.BigQuiet
import Derived.Lib.QuietBelow
import Derived.Test.YtmfichdcomaaeaaL1
namespace Go.Proofs.Ytmfichdcomaaeaa
set_option linter.unusedVariables false
set_option linter.unusedSimpArgs false
open Go.RowKit Go.Sort
set_option maxRecDepth 100000
set_option maxHeartbeats 1000000 in
theorem toDeed_any (v : Value) (x : Deed) (bs : List Nat) (w : World) (h : Agg 3 RDeed w v x bs) (_hm : InMem bs w) :
    Calls Try.prog 13 #[v] w (RetAgg 3 RDeed x w) := by
  obtain ⟨rfl, g0, g1, g2, hbs⟩ := RDeed.open h
  clear h
  clear hbs
  go_enter Try.func13, Try.ntmps13
  go_wp2
  refine bodyPost_ret (v := .agg #[.int .i64 x.kind, .int .i64 x.a, .int .i64 x.b]) (by simp [results, Try.results13, go_sem]) rfl ?_
  refine ⟨_, _, rfl, RDeed.mk' g0 g1 g2, ?_, ?_⟩
  · exact Own.nil _ _
  · exact (by repeat (first | with_reducible exact Below.refl _ _ | ((with_reducible refine Below.setCell ?_ ?_ _); rotate_left; focus first | (simp; done) | (simp; omega)) | ((with_reducible refine Below.alloc ?_ ?_ _); rotate_left; focus (first | (simp; done) | (simp; omega))) | with_reducible apply Below.drew))

set_option maxHeartbeats 1000000 in
theorem toLine_any (v : Value) (x : Line) (bs : List Nat) (w : World) (h : Agg 4 RLine w v x bs) (_hm : InMem bs w) :
    Calls Try.prog 16 #[v] w (RetAgg 4 RLine x w) := by
  obtain ⟨rfl, g0, g1, g2, g3, hbs⟩ := RLine.open h
  clear h
  clear hbs
  go_enter Try.func16, Try.ntmps16
  go_wp2
  refine bodyPost_ret (v := .agg #[.int .i64 x.kind, .int .i64 x.var, .int .i64 x.value, .int .i64 x.con]) (by simp [results, Try.results16, go_sem]) rfl ?_
  refine ⟨_, _, rfl, RLine.mk' g0 g1 g2 g3, ?_, ?_⟩
  · exact Own.nil _ _
  · exact (by repeat (first | with_reducible exact Below.refl _ _ | ((with_reducible refine Below.setCell ?_ ?_ _); rotate_left; focus first | (simp; done) | (simp; omega)) | ((with_reducible refine Below.alloc ?_ ?_ _); rotate_left; focus (first | (simp; done) | (simp; omega))) | with_reducible apply Below.drew))

end Go.Proofs.Ytmfichdcomaaeaa
