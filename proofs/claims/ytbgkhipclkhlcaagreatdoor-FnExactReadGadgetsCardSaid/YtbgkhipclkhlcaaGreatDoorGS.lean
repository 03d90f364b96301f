/-
  The library's contracts, as the printer over things held takes them.
-/
import Derived.Test.YtbgkhipclkhlcaaGreatDoorNE
import Derived.Test.YtbgkhipclkhlcaaGreatDoorGL
import Derived.Test.YtbgkhipclkhlcaaGreatDoorER
namespace Go.Proofs.YtbgkhipclkhlcaaGreatDoor
set_option linter.unusedVariables false
set_option linter.unusedSimpArgs false
open Go.RowKit
theorem gv_of {Φ : Value → World → Prop} {w w' : World} {e : Ending} {B : Nat → Prop} (hN : ∀ c, B c → c < w.heap.size) (h : Gives Φ w e w') : Gv (fun v w' => Φ v w' ∧ Sep [] B w w' []) e w' :=
  let ⟨v, h1, h2, h3⟩ := h; ⟨v, h1, h3, (Sep.start hN).go h2⟩
theorem strconv_FormatInt_s {B : Nat → Prop} {x0 x1 : Int} (r : ByteArray) (hR : strconv_FormatInt x0 x1 = some r) (w0 : World) (hN : ∀ c, B c → c < w0.heap.size) (hG : Glo w0) (hx0 : I64 x0) (hx1 : I64 x1) : Calls Tryz.prog 55 #[.int .i64 x0, .int .i64 x1] w0 (Gv (fun v w' => v = .string r ∧ Sep [] B w0 w' [] ∧ r.size ≤ maxLen)) :=
  (strconv_FormatInt_c r hR w0 hG hx0 hx1).mono fun e w' h => let ⟨v, h1, ⟨h2, h3⟩, h4⟩ := gv_of hN h; ⟨v, h1, h2, h4, h3⟩
theorem strings_Join_s {B : Nat → Prop} {x0 : List ByteArray} {x1 : ByteArray} (r : ByteArray) (hR : strings_Join x0 x1 = some r) {v0 : Value} (w0 : World) (hN : ∀ c, B c → c < w0.heap.size) (A0 : Bo B w0 (Sl 1 RStr) v0 x0) (hx1 : x1.size ≤ maxLen) : Calls Tryz.prog 45 #[v0, .string x1] w0 (Gv (fun v w' => v = .string r ∧ Sep [] B w0 w' [] ∧ r.size ≤ maxLen)) :=
  let ⟨_, A, _⟩ := A0; (strings_Join_c r hR w0 A hx1).mono fun e w' h => let ⟨v, h1, ⟨h2, h3⟩, h4⟩ := gv_of hN h; ⟨v, h1, h2, h4, h3⟩
theorem strconv_ParseInt_s {B : Nat → Prop} {x0 : ByteArray} {x1 x2 : Int} (r : Int × Bool) (hR : strconv_ParseInt x0 x1 x2 = some r) (w0 : World) (hN : ∀ c, B c → c < w0.heap.size) (hG : GloE w0) (hx0 : x0.size ≤ maxLen) (hx1 : I64 x1) (hx2 : I64 x2) : Calls Tryz.prog 38 #[.string x0, .int .i64 x1, .int .i64 x2] w0 (Gv (fun v w' => ∃ v1' : Value, v = .tuple #[.int .i64 r.1, v1'] ∧ Sep [] B w0 w' [] ∧ I64 r.1 ∧ NilE v1' r.2)) :=
  (strconv_ParseInt_c r hR w0 hG hx0 hx1 hx2).mono fun e w' h => let ⟨v, h1, ⟨v1, h2, h3, h5⟩, h4⟩ := gv_of hN h; ⟨v, h1, v1, h2, h4, h3, h5⟩
theorem strings_Split_s {B : Nat → Prop} {x0 x1 : ByteArray} (r : List ByteArray) (hR : strings_Split x0 x1 = some r) (w0 : World) (hN : ∀ c, B c → c < w0.heap.size) (hG : Glo w0) (hx0 : x0.size ≤ maxLen) (hx1 : x1.size ≤ maxLen) : Calls Tryz.prog 11 #[.string x0, .string x1] w0 (Gv (fun v w' => ∃ v1' : Value, v = v1' ∧ Sep [] B w0 w' [rl 1 RStr 9 v1' r])) :=
  (strings_Split_c r hR w0 hG hx0 hx1).mono fun e w' ⟨v, h1, h2, v1, rb, h3, h4⟩ => ⟨v, h1, v1, h3, Row.push (Sep.start hN) h2 h4⟩
end Go.Proofs.YtbgkhipclkhlcaaGreatDoor
