/-
  What a row that lists the two errors gives.
-/
import Derived.Test.YtbgkhipclkhlcaaGreatDoorGF
import Derived.Test.YtbgkhipclkhlcaaGreatDoorER
import Derived.ChangeMaps5
namespace Go.Proofs.YtbgkhipclkhlcaaGreatDoor
open Go.ChangeShapes Go.WideShapes Go.ChangeAt Go.RowKit
set_option maxRecDepth 100000
theorem star : "*" ++ "errors.errorString" = "*errors.errorString" := by decide
theorem rowES (u : TypeId) (h : Tryz.prog.typeName? 3 u = some "*errors.errorString") : u = 132 := typeName_ptr_named (nm := "errors.errorString") (by rw [star]; kernel_rfl) (by kernel_rfl) (by decide) u (by rw [star]; exact h)
theorem sent_of {n : String} {text : List UInt8} {r : List (String × DataW Unit)} {W : World} (h : laidMet Tryz.prog ((n, .iface "*errors.errorString" (.ptr (.agg [.lit (.string text)]))) :: r) W)
    (hg : (Tryz.prog.globalNamed n).bind (fun g => (Tryz.prog.globals[g]?).map (·.type)) = some 65) : ∃ tp p, W.var? Tryz.prog n = some #[.iface tp p] := by
  cases hn : Tryz.prog.globalNamed n with
  | none => rw [hn] at hg; cases hg
  | some g =>
    rw [hn] at hg
    obtain ⟨a, s, hv, _⟩ := laid_sentinel h hn hg Tryz.underlying65 rowES Tryz.underlying132 Tryz.underlying134 rfl rfl Tryz.underlying9 (by kernel_rfl) (by kernel_rfl)
    exact ⟨_, _, hv⟩
end Go.Proofs.YtbgkhipclkhlcaaGreatDoor
