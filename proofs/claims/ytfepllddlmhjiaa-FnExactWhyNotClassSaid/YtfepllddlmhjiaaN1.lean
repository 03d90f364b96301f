/-
  Contracts by hand, in the form of the printed ones.
-/
import Derived.Test.YtfepllddlmhjiaaX3
import Derived.Test.YtfepllddlmhjiaaW4
namespace Go.Proofs.Ytfepllddlmhjiaa
set_option linter.unusedVariables false
set_option linter.unusedSimpArgs false
open Go.RowKit
def impl_classOp (x0 : Int) : Option Op := if 1 ≤ x0 ∧ x0 ≤ 6 then some (classOpL x0) else none
theorem impl_classOp_c {x0 : Int} (r : Op) (hR : impl_classOp x0 = some r) (w0 : World) (hx0 : I64 x0) : Calls Try.prog 23 #[.int .i64 x0] w0 (Gives (fun v w' => ∃ (v1' : Value) (b2' : List Nat), v = v1' ∧ Rd (Agg 2 ROp) w' v1' r b2') w0) := by
  unfold impl_classOp at hR
  split at hR
  · rename_i h
    obtain rfl := Option.some.inj hR
    exact (implClassOp_any x0 w0 h.1 h.2).mono fun e w' ⟨v, bs, he, h1, h2, h3⟩ => ⟨v, he, h3, v, bs, rfl, h1, h2.inMem⟩
  · cases hR
end Go.Proofs.Ytfepllddlmhjiaa
