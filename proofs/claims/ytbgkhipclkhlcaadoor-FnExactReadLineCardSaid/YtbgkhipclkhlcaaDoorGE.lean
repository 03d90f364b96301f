/-
  What a row that lists the two errors gives.
-/
import Derived.Test.YtbgkhipclkhlcaaDoorGF
import Derived.Test.YtbgkhipclkhlcaaDoorER
import Derived.ChangeMaps5
namespace Go.Proofs.YtbgkhipclkhlcaaDoor
open Go.ChangeShapes Go.WideShapes Go.ChangeAt Go.RowKit
set_option maxRecDepth 100000
theorem star : "*" ++ "errors.errorString" = "*errors.errorString" := by decide
theorem rowES (u : TypeId) (h : Tryd.prog.typeName? 3 u = some "*errors.errorString") : u = 110 := typeName_ptr_named (nm := "errors.errorString") (by rw [star]; kernel_rfl) (by kernel_rfl) (by decide) u (by rw [star]; exact h)
theorem sent_of {n : String} {text : List UInt8} {r : List (String × DataW Unit)} {W : World} (h : laidMet Tryd.prog ((n, .iface "*errors.errorString" (.ptr (.agg [.lit (.string text)]))) :: r) W)
    (hg : (Tryd.prog.globalNamed n).bind (fun g => (Tryd.prog.globals[g]?).map (·.type)) = some 48) : ∃ tp p, W.var? Tryd.prog n = some #[.iface tp p] := by
  cases hn : Tryd.prog.globalNamed n with
  | none => rw [hn] at hg; cases hg
  | some g =>
    rw [hn] at hg
    obtain ⟨a, s, hv, _⟩ := laid_sentinel h hn hg Tryd.underlying48 rowES Tryd.underlying110 Tryd.underlying112 rfl rfl Tryd.underlying9 (by kernel_rfl) (by kernel_rfl)
    exact ⟨_, _, hv⟩
end Go.Proofs.YtbgkhipclkhlcaaDoor
