/-
  strings.Cut.
-/
import Derived.Test.YtbgkhipclkhlcaaGreatDoorGS
import Derived.Test.YtbgkhipclkhlcaaGreatDoorDK
namespace Go.Proofs.YtbgkhipclkhlcaaGreatDoor
set_option linter.unusedVariables false
set_option linter.unusedSimpArgs false
open Go.RowKit
set_option maxRecDepth 100000
def strings_Cut (s sep : ByteArray) : Option (ByteArray × ByteArray × Bool) := if s.size < 4294967281 then some (⟨(Lib.cut s.data.toList sep.data.toList).1.toArray⟩, ⟨(Lib.cut s.data.toList sep.data.toList).2.1.toArray⟩, (Lib.cut s.data.toList sep.data.toList).2.2) else none
theorem strings_Cut_s {B : Nat → Prop} {x0 x1 : ByteArray} (r : ByteArray × ByteArray × Bool) (hR : strings_Cut x0 x1 = some r) (w0 : World) (hN : ∀ c, B c → c < w0.heap.size) (hG : Glo w0) (hx0 : x0.size ≤ maxLen) (hx1 : x1.size ≤ maxLen) : Calls Tryz.prog 40 #[.string x0, .string x1] w0 (Gv (fun v w' => v = .tuple #[.string r.1, .string r.2.1, .bool r.2.2] ∧ Sep [] B w0 w' [] ∧ r.1.size ≤ maxLen ∧ r.2.1.size ≤ maxLen)) := by
  unfold strings_Cut at hR
  split at hR
  · rename_i h
    obtain rfl := Option.some.inj hR
    obtain ⟨m, hm⟩ := hG.mx
    refine (Any.strings_Cut layK x0 x1 m w0 h hm).mono (fun e w' h => ?_)
    obtain ⟨he, k, rfl⟩ := h
    refine ⟨_, he, rfl, (Sep.start hN).go (below_drewN (Below.refl _ _) k), ?_, ?_⟩
    · show (Lib.cut x0.data.toList x1.data.toList).1.length ≤ maxLen
      unfold Lib.cut
      split
      · rw [List.length_take]; have : x0.size = x0.data.toList.length := rfl; omega
      · exact hx0
    · show (Lib.cut x0.data.toList x1.data.toList).2.1.length ≤ maxLen
      unfold Lib.cut
      split
      · rw [List.length_drop]; have : x0.size = x0.data.toList.length := rfl; omega
      · exact Nat.zero_le _
  · cases hR
end Go.Proofs.YtbgkhipclkhlcaaGreatDoor
