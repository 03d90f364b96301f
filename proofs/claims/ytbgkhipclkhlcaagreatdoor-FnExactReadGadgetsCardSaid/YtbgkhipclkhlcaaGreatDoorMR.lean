/-
  Plain laws: texts cut, numbers in nine digits (for seats without the deeds' texts M34, M35).
-/
import Derived.Test.YtbgkhipclkhlcaaGreatDoorMO
namespace Go.Proofs.YtbgkhipclkhlcaaGreatDoor
set_option linter.unusedVariables false
set_option linter.unusedSimpArgs false

theorem cutAt_mem (c : UInt8) : ∀ l : List UInt8, ∀ x ∈ cutAt c l, x.length ≤ l.length
  | [], x, hx => by
    rw [cutAt, List.mem_singleton] at hx
    rw [hx]
    exact Nat.le_refl _
  | b :: l, x, hx => by
    have ih := cutAt_mem c l
    rw [List.length_cons]
    by_cases h : b = c
    · rw [cutAt, if_pos h] at hx
      rcases List.mem_cons.1 hx with rfl | hx
      · exact Nat.zero_le _
      · have := ih x hx; omega
    · rw [cutAt, if_neg h] at hx
      cases hc : cutAt c l with
      | nil => exact absurd hc (cutAt_ne c l)
      | cons y r =>
        rw [hc] at hx ih
        rcases List.mem_cons.1 hx with rfl | hx
        · have := ih y (by simp); rw [List.length_cons]; omega
        · have := ih x (by simp [hx]); omega
def numB (x : List UInt8) : Bool := isNum x && decide (x.length ≤ 9)
end Go.Proofs.YtbgkhipclkhlcaaGreatDoor
