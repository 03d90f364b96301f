/-
  Strings and bytes in the printed walks: one lemma an operation. No program.
-/
import Derived.Test.YtmgdjaiaekhkgaaGreatQ
import Derived.Laws.BytesString
namespace Go.Proofs.YtmgdjaiaekhkgaaGreat
set_option linter.unusedVariables false
set_option linter.unusedSimpArgs false
open Go.RowKit

/-- A string by its bytes. -/
def bstr (l : List UInt8) : ByteArray := ⟨l.toArray⟩
/-- Two strings one behind the other. -/
def scat (a b : ByteArray) : Option ByteArray := if a.size + b.size ≤ 9223372036854775807 then some (a ++ b) else none
theorem scat_some {a b c : ByteArray} (h : scat a b = some c) : a.size + b.size ≤ 9223372036854775807 ∧ a ++ b = c := by
  unfold scat at h
  split at h
  · exact ⟨by assumption, Option.some.inj h⟩
  · cases h
theorem scat_sz {a b c : ByteArray} (h : scat a b = some c) : c.size ≤ maxLen := by
  obtain ⟨h1, rfl⟩ := scat_some h
  rw [ByteArray.size_append]
  unfold maxLen
  omega
/-- Equal strings. -/
def sEq (a b : ByteArray) : Bool := a.toList == b.toList
/-- A byte of a string. -/
def six (s : ByteArray) (i : Int) : Option UInt8 := if 0 ≤ i then s.data.toList[i.toNat]? else none
/-- A part of a string. -/
def ssl (s : ByteArray) (i j : Int) : Option ByteArray := if 0 ≤ i ∧ i ≤ j ∧ j ≤ s.size then some (s.extract i.toNat j.toNat) else none
theorem ssl_some {s r : ByteArray} {i j : Int} (h : ssl s i j = some r) : 0 ≤ i ∧ i ≤ j ∧ j ≤ s.size ∧ s.extract i.toNat j.toNat = r := by
  unfold ssl at h
  split at h
  · rename_i h1
    exact ⟨h1.1, h1.2.1, h1.2.2, Option.some.inj h⟩
  · cases h
theorem ssl_sz {s r : ByteArray} {i j : Int} (h : ssl s i j = some r) (hs : s.size ≤ maxLen) : r.size ≤ maxLen := by
  obtain ⟨_, _, _, rfl⟩ := ssl_some h
  rw [ByteArray.size_extract]
  omega
/-- A number as a byte. -/
def u8w (n : Int) : UInt8 := UInt8.ofNat (n % 256).toNat
theorem u8w_val (n : Int) : IntKind.u8.wrap n = ((u8w n).toNat : Int) := by
  unfold IntKind.wrap u8w
  simp only [show IntKind.u8.bits = 8 from rfl, show IntKind.u8.signed = false from rfl]
  have h1 := Int.emod_nonneg n (show (256 : Int) ≠ 0 by decide)
  have h2 := Int.emod_lt_of_pos n (show (0 : Int) < 256 by decide)
  have h3 : (UInt8.ofNat (n % 256).toNat).toNat = (n % 256).toNat := by
    simp
    omega
  rw [h3]
  simp
  omega
theorem u8_i64 (c : UInt8) : I64 (c.toNat : Int) := ⟨by omega, by have := c.toNat_lt; omega⟩
section
variable {P : Program} {ops : Array Oper} {Q : Exit → Act → World → Prop} {a : Act} {w : World} {n : Nat} {L : List (Nat × Value)} {rest : List Oper} {d : Nat} {dd : Option Tmp} {ty : TypeId} {pos : String} {af : Array Edge} {g : Option (Nat × Bool)}
theorem r_scat {x y : Operand} {t t' : TypeId} {i j r : ByteArray} (F : Sk a n L) (e : ev L x = some (.string i)) (e' : ev L y = some (.string j)) (h : scat i j = some r) {w' : World} :
    (execOp a.eval ⟨dd, .binOp .add t x y t', ty, pos, af, g⟩).run P w' = .ok (.value (.string r)) w' := by
  obtain ⟨h1, rfl⟩ := scat_some h
  have h2 : ¬ (((i.size + j.size : Nat) : Int) > IntKind.i64.max) := by
    have : IntKind.i64.max = 9223372036854775807 := by decide
    rw [this]
    omega
  unfold execOp
  simp only [F.ev e, F.ev e']
  simp only [binOp, Op.stringOp, if_neg h2]
  simp [eqGuard]
theorem o_scat {x y : Operand} {t t' : TypeId} {i j r : ByteArray} (F : Sk a n L) (hc : chk ops n L g d = true) (e : ev L x = some (.string i)) (e' : ev L y = some (.string j)) (h : scat i j = some r)
    (k : ∀ a', Sk a' n ((d, .string r) :: L) → wpList P ops Q rest a' w) : wpList P ops Q (⟨some d, .binOp .add t x y t', ty, pos, af, g⟩ :: rest) a w := o_val F hc (r_scat F e e' h) k
theorem r_seql {x y : Operand} {t t' : TypeId} {i j : ByteArray} (F : Sk a n L) (e : ev L x = some (.string i)) (e' : ev L y = some (.string j)) {w' : World} :
    (execOp a.eval ⟨dd, .binOp .eql t x y t', ty, pos, af, g⟩).run P w' = .ok (.value (.bool (sEq i j))) w' := by
  unfold execOp
  simp only [F.ev e, F.ev e']
  simp [eqGuard, binOp, Op.stringOp, sEq]
theorem o_seql {x y : Operand} {t t' : TypeId} {i j : ByteArray} (F : Sk a n L) (hc : chk ops n L g d = true) (e : ev L x = some (.string i)) (e' : ev L y = some (.string j))
    (k : ∀ a', Sk a' n ((d, .bool (sEq i j)) :: L) → wpList P ops Q rest a' w) : wpList P ops Q (⟨some d, .binOp .eql t x y t', ty, pos, af, g⟩ :: rest) a w := o_val F hc (r_seql F e e') k
theorem r_sneq {x y : Operand} {t t' : TypeId} {i j : ByteArray} (F : Sk a n L) (e : ev L x = some (.string i)) (e' : ev L y = some (.string j)) {w' : World} :
    (execOp a.eval ⟨dd, .binOp .neq t x y t', ty, pos, af, g⟩).run P w' = .ok (.value (.bool (!sEq i j))) w' := by
  unfold execOp
  simp only [F.ev e, F.ev e']
  simp [eqGuard, binOp, Op.stringOp, sEq]
theorem o_sneq {x y : Operand} {t t' : TypeId} {i j : ByteArray} (F : Sk a n L) (hc : chk ops n L g d = true) (e : ev L x = some (.string i)) (e' : ev L y = some (.string j))
    (k : ∀ a', Sk a' n ((d, .bool (!sEq i j)) :: L) → wpList P ops Q rest a' w) : wpList P ops Q (⟨some d, .binOp .neq t x y t', ty, pos, af, g⟩ :: rest) a w := o_val F hc (r_sneq F e e') k
theorem r_six {x iy : Operand} {t : TypeId} {s : ByteArray} {i : Int} {c : UInt8} (ht : P.underlying t = some .string) (F : Sk a n L) (e : ev L x = some (.string s)) (e' : ev L iy = some (.int .i64 i)) (h : six s i = some c) {w' : World} :
    (execOp a.eval ⟨dd, .index t x iy, ty, pos, af, g⟩).run P w' = .ok (.value (.int .u8 c.toNat)) w' := by
  unfold six at h
  split at h
  · rename_i h0
    have hs : s[i.toNat]? = some c := by
      have hk : i.toNat < s.size := by
        have := (List.getElem?_eq_some_iff.1 h).1
        show i.toNat < s.data.size
        rw [← Array.length_toList]
        exact this
      rw [getElem?_pos s i.toNat hk]
      have h5 := (List.getElem?_eq_some_iff.1 h).2
      rw [← h5]
      rfl
    have hix : (Instr.index t (.string s) (.int .i64 i)).run P w' = .ok (.int .u8 c.toNat) w' := by
      unfold Instr.index
      simp only [asIntOf, Sem.run_bind, Sem.run_pure, Result.andThen_ok, run_underlying ht, if_pos h0, hs]
    unfold execOp
    simp only [F.ev e, F.ev e']
    simp [hix]
  · cases h
theorem o_six {x iy : Operand} {t : TypeId} {s : ByteArray} {i : Int} {c : UInt8} (ht : P.underlying t = some .string) (F : Sk a n L) (hc : chk ops n L g d = true) (e : ev L x = some (.string s)) (e' : ev L iy = some (.int .i64 i)) (h : six s i = some c)
    (k : ∀ a', Sk a' n ((d, .int .u8 c.toNat) :: L) → wpList P ops Q rest a' w) : wpList P ops Q (⟨some d, .index t x iy, ty, pos, af, g⟩ :: rest) a w := o_val F hc (r_six ht F e e' h) k
theorem ssl_run {t : TypeId} {s r : ByteArray} {i j : Int} (ht : P.underlying t = some .string) (h : ssl s i j = some r) (lo hi : Option Value) (hlo : lo = some (.int .i64 i) ∨ lo = none ∧ i = 0) (hhi : hi = some (.int .i64 j) ∨ hi = none ∧ j = s.size) (w' : World) :
    (Instr.sliceAt t (.string s) lo hi none).run P w' = .ok (.string r) w' := by
  obtain ⟨h0, h1, h2, rfl⟩ := ssl_some h
  obtain ⟨i, rfl⟩ : ∃ m : Nat, i = m := ⟨i.toNat, by omega⟩
  obtain ⟨j, rfl⟩ : ∃ m : Nat, j = m := ⟨j.toNat, by omega⟩
  have h3 : i ≤ j := by omega
  have h4 : j ≤ s.size := by omega
  rcases hlo with rfl | ⟨rfl, hi0⟩ <;> rcases hhi with rfl | ⟨rfl, hj0⟩
  · simp [Instr.sliceAt, Instr.slice, run_underlying ht, Instr.sliceBounds, Instr.sliceBound, asIntOf, h3, h4]
  · obtain rfl : j = s.size := by omega
    simp [Instr.sliceAt, Instr.slice, run_underlying ht, Instr.sliceBounds, Instr.sliceBound, asIntOf, h3]
  · obtain rfl : i = 0 := by omega
    simp [Instr.sliceAt, Instr.slice, run_underlying ht, Instr.sliceBounds, Instr.sliceBound, asIntOf, h4]
  · obtain rfl : i = 0 := by omega
    obtain rfl : j = s.size := by omega
    simp [Instr.sliceAt, Instr.slice, run_underlying ht, Instr.sliceBounds, Instr.sliceBound, asIntOf]
theorem r_ssllh {x lo hi : Operand} {t : TypeId} {s r : ByteArray} {i j : Int} (ht : P.underlying t = some .string) (F : Sk a n L) (e : ev L x = some (.string s)) (el : ev L lo = some (.int .i64 i)) (eh : ev L hi = some (.int .i64 j)) (h : ssl s i j = some r) {w' : World} :
    (execOp a.eval ⟨dd, .slice t x (some lo) (some hi) none, ty, pos, af, g⟩).run P w' = .ok (.value (.string r)) w' := by
  have := ssl_run (P := P) ht h (some (.int .i64 i)) (some (.int .i64 j)) (.inl rfl) (.inl rfl) w'
  unfold execOp
  simp [F.ev e, F.ev el, F.ev eh, this]
theorem r_ssll {x lo : Operand} {t : TypeId} {s r : ByteArray} {i : Int} (ht : P.underlying t = some .string) (F : Sk a n L) (e : ev L x = some (.string s)) (el : ev L lo = some (.int .i64 i)) (h : ssl s i (s.size : Int) = some r) {w' : World} :
    (execOp a.eval ⟨dd, .slice t x (some lo) none none, ty, pos, af, g⟩).run P w' = .ok (.value (.string r)) w' := by
  have := ssl_run (P := P) ht h (some (.int .i64 i)) none (.inl rfl) (.inr ⟨rfl, rfl⟩) w'
  unfold execOp
  simp [F.ev e, F.ev el, this]
theorem r_sslh {x hi : Operand} {t : TypeId} {s r : ByteArray} {j : Int} (ht : P.underlying t = some .string) (F : Sk a n L) (e : ev L x = some (.string s)) (eh : ev L hi = some (.int .i64 j)) (h : ssl s 0 j = some r) {w' : World} :
    (execOp a.eval ⟨dd, .slice t x none (some hi) none, ty, pos, af, g⟩).run P w' = .ok (.value (.string r)) w' := by
  have := ssl_run (P := P) ht h none (some (.int .i64 j)) (.inr ⟨rfl, rfl⟩) (.inl rfl) w'
  unfold execOp
  simp [F.ev e, F.ev eh, this]
theorem o_ssllh {x lo hi : Operand} {t : TypeId} {s r : ByteArray} {i j : Int} (ht : P.underlying t = some .string) (F : Sk a n L) (hc : chk ops n L g d = true) (e : ev L x = some (.string s)) (el : ev L lo = some (.int .i64 i)) (eh : ev L hi = some (.int .i64 j)) (h : ssl s i j = some r)
    (k : ∀ a', Sk a' n ((d, .string r) :: L) → wpList P ops Q rest a' w) : wpList P ops Q (⟨some d, .slice t x (some lo) (some hi) none, ty, pos, af, g⟩ :: rest) a w := o_val F hc (r_ssllh ht F e el eh h) k
theorem o_ssll {x lo : Operand} {t : TypeId} {s r : ByteArray} {i : Int} (ht : P.underlying t = some .string) (F : Sk a n L) (hc : chk ops n L g d = true) (e : ev L x = some (.string s)) (el : ev L lo = some (.int .i64 i)) (h : ssl s i (s.size : Int) = some r)
    (k : ∀ a', Sk a' n ((d, .string r) :: L) → wpList P ops Q rest a' w) : wpList P ops Q (⟨some d, .slice t x (some lo) none none, ty, pos, af, g⟩ :: rest) a w := o_val F hc (r_ssll ht F e el h) k
theorem o_sslh {x hi : Operand} {t : TypeId} {s r : ByteArray} {j : Int} (ht : P.underlying t = some .string) (F : Sk a n L) (hc : chk ops n L g d = true) (e : ev L x = some (.string s)) (eh : ev L hi = some (.int .i64 j)) (h : ssl s 0 j = some r)
    (k : ∀ a', Sk a' n ((d, .string r) :: L) → wpList P ops Q rest a' w) : wpList P ops Q (⟨some d, .slice t x none (some hi) none, ty, pos, af, g⟩ :: rest) a w := o_val F hc (r_sslh ht F e eh h) k
/-! ### Bytes -/
theorem r_convU {x : Operand} {t t' : TypeId} {k0 : IntKind} {i : Int} {ut : TypeDesc} (hs : P.underlying t = some ut) (ht : P.underlying t' = some (.int .u8)) (F : Sk a n L) (e : ev L x = some (.int .i64 i)) {w' : World} :
    (execOp a.eval ⟨dd, .convert t t' x, ty, pos, af, g⟩).run P w' = .ok (.value (.int .u8 (u8w i).toNat)) w' := by
  rw [← u8w_val]
  unfold execOp
  simp [F.ev e, convert, run_underlying hs, run_underlying ht, Conv.intToInt]
theorem r_convI {x : Operand} {t t' : TypeId} {c : UInt8} {ut : TypeDesc} (hs : P.underlying t = some ut) (ht : P.underlying t' = some (.int .i64)) (F : Sk a n L) (e : ev L x = some (.int .u8 c.toNat)) {w' : World} :
    (execOp a.eval ⟨dd, .convert t t' x, ty, pos, af, g⟩).run P w' = .ok (.value (.int .i64 c.toNat)) w' := by
  have hw : IntKind.i64.wrap (c.toNat : Int) = c.toNat := IntWalk.i64_in _ (u8_i64 c)
  unfold execOp
  simp [F.ev e, convert, run_underlying hs, run_underlying ht, Conv.intToInt, hw]
theorem o_convU {x : Operand} {t t' : TypeId} {i : Int} {ut : TypeDesc} (hs : P.underlying t = some ut) (ht : P.underlying t' = some (.int .u8)) (F : Sk a n L) (hc : chk ops n L g d = true) (e : ev L x = some (.int .i64 i))
    (k : ∀ a', Sk a' n ((d, .int .u8 (u8w i).toNat) :: L) → wpList P ops Q rest a' w) : wpList P ops Q (⟨some d, .convert t t' x, ty, pos, af, g⟩ :: rest) a w := o_val F hc (r_convU (k0 := .u8) hs ht F e) k
theorem o_convI {x : Operand} {t t' : TypeId} {c : UInt8} {ut : TypeDesc} (hs : P.underlying t = some ut) (ht : P.underlying t' = some (.int .i64)) (F : Sk a n L) (hc : chk ops n L g d = true) (e : ev L x = some (.int .u8 c.toNat))
    (k : ∀ a', Sk a' n ((d, .int .i64 c.toNat) :: L) → wpList P ops Q rest a' w) : wpList P ops Q (⟨some d, .convert t t' x, ty, pos, af, g⟩ :: rest) a w := o_val F hc (r_convI hs ht F e) k
theorem r_subU {x y : Operand} {t t' : TypeId} {i j : UInt8} (F : Sk a n L) (e : ev L x = some (.int .u8 i.toNat)) (e' : ev L y = some (.int .u8 j.toNat)) {w' : World} : (execOp a.eval ⟨dd, .binOp .sub t x y t', ty, pos, af, g⟩).run P w' = .ok (.value (.int .u8 (u8w ((i.toNat : Int) - (j.toNat : Int))).toNat)) w' := by
  rw [← u8w_val]
  unfold execOp; simp only [F.ev e, F.ev e']; rfl
theorem o_subU {x y : Operand} {t t' : TypeId} {i j : UInt8} (F : Sk a n L) (hc : chk ops n L g d = true) (e : ev L x = some (.int .u8 i.toNat)) (e' : ev L y = some (.int .u8 j.toNat)) (k : ∀ a', Sk a' n ((d, .int .u8 (u8w ((i.toNat : Int) - (j.toNat : Int))).toNat) :: L) → wpList P ops Q rest a' w) :
    wpList P ops Q (⟨some d, .binOp .sub t x y t', ty, pos, af, g⟩ :: rest) a w := o_val F hc (r_subU F e e') k
theorem r_eqlU {x y : Operand} {t t' : TypeId} {i j : UInt8} (F : Sk a n L) (e : ev L x = some (.int .u8 i.toNat)) (e' : ev L y = some (.int .u8 j.toNat)) {w' : World} : (execOp a.eval ⟨dd, .binOp .eql t x y t', ty, pos, af, g⟩).run P w' = .ok (.value (.bool ((i.toNat : Int) == (j.toNat : Int)))) w' := by
  unfold execOp; simp only [F.ev e, F.ev e']; rfl
theorem r_neqU {x y : Operand} {t t' : TypeId} {i j : UInt8} (F : Sk a n L) (e : ev L x = some (.int .u8 i.toNat)) (e' : ev L y = some (.int .u8 j.toNat)) {w' : World} : (execOp a.eval ⟨dd, .binOp .neq t x y t', ty, pos, af, g⟩).run P w' = .ok (.value (.bool ((i.toNat : Int) != (j.toNat : Int)))) w' := by
  unfold execOp; simp only [F.ev e, F.ev e']; rfl
theorem r_lssU {x y : Operand} {t t' : TypeId} {i j : UInt8} (F : Sk a n L) (e : ev L x = some (.int .u8 i.toNat)) (e' : ev L y = some (.int .u8 j.toNat)) {w' : World} : (execOp a.eval ⟨dd, .binOp .lss t x y t', ty, pos, af, g⟩).run P w' = .ok (.value (.bool (decide ((i.toNat : Int) < (j.toNat : Int))))) w' := by
  unfold execOp; simp only [F.ev e, F.ev e']; rfl
theorem r_gtrU {x y : Operand} {t t' : TypeId} {i j : UInt8} (F : Sk a n L) (e : ev L x = some (.int .u8 i.toNat)) (e' : ev L y = some (.int .u8 j.toNat)) {w' : World} : (execOp a.eval ⟨dd, .binOp .gtr t x y t', ty, pos, af, g⟩).run P w' = .ok (.value (.bool (decide ((j.toNat : Int) < (i.toNat : Int))))) w' := by
  unfold execOp; simp only [F.ev e, F.ev e']; rfl
theorem o_eqlU {x y : Operand} {t t' : TypeId} {i j : UInt8} (F : Sk a n L) (hc : chk ops n L g d = true) (e : ev L x = some (.int .u8 i.toNat)) (e' : ev L y = some (.int .u8 j.toNat)) (k : ∀ a', Sk a' n ((d, .bool ((i.toNat : Int) == (j.toNat : Int))) :: L) → wpList P ops Q rest a' w) : wpList P ops Q (⟨some d, .binOp .eql t x y t', ty, pos, af, g⟩ :: rest) a w := o_val F hc (r_eqlU F e e') k
theorem o_neqU {x y : Operand} {t t' : TypeId} {i j : UInt8} (F : Sk a n L) (hc : chk ops n L g d = true) (e : ev L x = some (.int .u8 i.toNat)) (e' : ev L y = some (.int .u8 j.toNat)) (k : ∀ a', Sk a' n ((d, .bool ((i.toNat : Int) != (j.toNat : Int))) :: L) → wpList P ops Q rest a' w) : wpList P ops Q (⟨some d, .binOp .neq t x y t', ty, pos, af, g⟩ :: rest) a w := o_val F hc (r_neqU F e e') k
theorem o_lssU {x y : Operand} {t t' : TypeId} {i j : UInt8} (F : Sk a n L) (hc : chk ops n L g d = true) (e : ev L x = some (.int .u8 i.toNat)) (e' : ev L y = some (.int .u8 j.toNat)) (k : ∀ a', Sk a' n ((d, .bool (decide ((i.toNat : Int) < (j.toNat : Int)))) :: L) → wpList P ops Q rest a' w) : wpList P ops Q (⟨some d, .binOp .lss t x y t', ty, pos, af, g⟩ :: rest) a w := o_val F hc (r_lssU F e e') k
theorem o_gtrU {x y : Operand} {t t' : TypeId} {i j : UInt8} (F : Sk a n L) (hc : chk ops n L g d = true) (e : ev L x = some (.int .u8 i.toNat)) (e' : ev L y = some (.int .u8 j.toNat)) (k : ∀ a', Sk a' n ((d, .bool (decide ((j.toNat : Int) < (i.toNat : Int)))) :: L) → wpList P ops Q rest a' w) : wpList P ops Q (⟨some d, .binOp .gtr t x y t', ty, pos, af, g⟩ :: rest) a w := o_val F hc (r_gtrU F e e') k
theorem r_addU {x y : Operand} {t t' : TypeId} {i j : UInt8} (F : Sk a n L) (e : ev L x = some (.int .u8 i.toNat)) (e' : ev L y = some (.int .u8 j.toNat)) {w' : World} : (execOp a.eval ⟨dd, .binOp .add t x y t', ty, pos, af, g⟩).run P w' = .ok (.value (.int .u8 (u8w ((i.toNat : Int) + (j.toNat : Int))).toNat)) w' := by
  rw [← u8w_val]
  unfold execOp; simp only [F.ev e, F.ev e']; rfl
theorem o_addU {x y : Operand} {t t' : TypeId} {i j : UInt8} (F : Sk a n L) (hc : chk ops n L g d = true) (e : ev L x = some (.int .u8 i.toNat)) (e' : ev L y = some (.int .u8 j.toNat)) (k : ∀ a', Sk a' n ((d, .int .u8 (u8w ((i.toNat : Int) + (j.toNat : Int))).toNat) :: L) → wpList P ops Q rest a' w) :
    wpList P ops Q (⟨some d, .binOp .add t x y t', ty, pos, af, g⟩ :: rest) a w := o_val F hc (r_addU F e e') k
/-- Bytes as a string. -/
theorem foldl_push : ∀ (l : List UInt8) (s : ByteArray), (l.map (fun c => (c.toNat : Int))).foldl (fun r n => r.push (UInt8.ofNat n.toNat)) s = ⟨s.data ++ l.toArray⟩
  | [], s => by simp
  | c :: l, s => by
    rw [List.map_cons, List.foldl_cons, foldl_push l]
    simp [ByteArray.push]
theorem r_b2s {x : Operand} {t t' e : TypeId} {v : Value} {l : List UInt8} {bk : List Nat} (hs : P.underlying t = some (.slice e)) (he : P.underlying e = some (.int .u8)) (hd : P.underlying t' = some .string) (F : Sk a n L) (ex : ev L x = some v) (h : Rd (Sl 1 RByte) w v l bk) {w' : World} (hw : Below w.heap.size w w') :
    (execOp a.eval ⟨dd, .convert t t' x, ty, pos, af, g⟩).run P w' = .ok (.value (.string (bstr l))) w' := by
  have h' := h.go hw
  obtain ⟨a', c', rfl, h1, h2, h3, h4⟩ := h'.r
  have hcv := run_convert_bytes_string (P := P) w' t t' e a' l.length c' hs he hd
  have key : (Conv.bytesToString (.slice a' l.length c')).run P w' = .ok (.string (bstr l)) w' := by
    rcases h4 with ⟨rfl, rfl⟩ | ⟨b, o, bss, rfl, rfl, he2⟩
    · cases a' with
      | none => simp [Conv.bytesToString]; rfl
      | some ad =>
        have := run_bytesToString (P := P) w' ad 0 c' [] (by simp [loadCells, loadCellsFrom])
        rw [List.length_nil, this]
        rfl
    · have hl : (loadCells ⟨b, o, none⟩ l.length).run P w' = .ok ((l.map (fun c => (c.toNat : Int))).map (Value.int .u8)).toArray w' := by
        have := run_loadCells_list (P := P) w' ⟨b, o, none⟩ ((l.map (fun c => (c.toNat : Int))).map (Value.int .u8)) (fun j v hj => by
          rw [List.getElem?_map, List.getElem?_map] at hj
          cases hz : l[j]? with
          | none => rw [hz] at hj; cases hj
          | some c =>
            rw [hz] at hj
            simp only [Option.map_some, Option.some.injEq] at hj
            subst hj
            have hjl : j < l.length := (List.getElem?_eq_some_iff.1 hz).1
            have hbl : j < bss.length := by rw [he2.1]; exact hjl
            have := (he2.2 j c _ hz (List.getElem?_eq_getElem hbl)).1
            rw [add_off]
            simpa using this)
        simpa using this
      have := run_bytesToString (P := P) w' ⟨b, o, none⟩ l.length c' _ hl
      rw [foldl_push] at this
      rw [this]
      unfold bstr
      simp
  unfold execOp
  simp [F.ev ex, hcv, key]
theorem o_b2s {x : Operand} {t t' e : TypeId} {v : Value} {l : List UInt8} {bk : List Nat} (hs : P.underlying t = some (.slice e)) (he : P.underlying e = some (.int .u8)) (hd : P.underlying t' = some .string) (F : Sk a n L) (hc : chk ops n L g d = true) (ex : ev L x = some v) (h : Rd (Sl 1 RByte) w v l bk)
    (k : ∀ a', Sk a' n ((d, .string (bstr l)) :: L) → wpList P ops Q rest a' w) : wpList P ops Q (⟨some d, .convert t t' x, ty, pos, af, g⟩ :: rest) a w := o_val F hc (r_b2s hs he hd F ex h (Below.refl _ _)) k
theorem b2s_sz {v : Value} {l : List UInt8} {bk : List Nat} (h : Rd (Sl 1 RByte) w v l bk) : (bstr l).size ≤ maxLen := by
  obtain ⟨a', c', rfl, h1, h2, h3, h4⟩ := h.r
  show l.toArray.size ≤ maxLen
  simp
  omega
theorem El.u8 {c : UInt8} : El 1 RByte w (.int .u8 c.toNat) c [] := ⟨rfl, ⟨rfl, rfl⟩, by simp [Value.cells, Value.oneCell'], InMem.nil w⟩
/-- A literal of elements of one cell. -/
theorem o_litE {α : Type} (enc : α → Value) (Ok : α → Prop) {R : ER α} (hR : ∀ w f x, Ok x → f 0 = some (enc x) → R w f x []) (h1c : ∀ x, (enc x).oneCell' = true)
    {t e : TypeId} {z : Value} {parts : Array (Nat × Operand)} {m : Nat} {xs : List Operand} {l : List α} (ht : P.underlying t = some (.slice e)) (hsz : ∀ w, (sizeOf e).run P w = .ok 1 w) (hz : ∀ w, (zeroValue e).run P w = .ok z w) (hzs : z.cells.size = 1)
    (F : Sk a n L) (hc : chk ops n L g d = true) (hp : parts.toList = (List.range' 0 xs.length).zip xs) (hm : m = l.length) (hm1 : l.length ≤ 1000) (hm0 : 0 < l.length)
    (hx : evs L xs = some (l.map enc)) (hI : ∀ y ∈ l, Ok y)
    (k : ∀ a' w' v' rb, Row 1 R e w.heap.size w' v' l rb [] → Below w.heap.size w w' → Sk a' n ((d, v') :: L) → wpList P ops Q rest a' w') :
    wpList P ops Q (⟨some d, .buildSlice t m parts, ty, pos, af, g⟩ :: rest) a w := by
  subst hm
  have hxs := F.evs hx
  have hlen : xs.length = l.length := by have := congrArg List.length hxs; simpa using this
  obtain ⟨cs', e1, e2, e3⟩ := fill_ones (l.map enc) 0 ((Array.range l.length).map (z.cells[· % z.cells.size]!)) (fun v hv => by obtain ⟨x, _, rfl⟩ := List.mem_map.1 hv; exact h1c x) (by simp)
  have ecs : cs' = (l.map enc).toArray := by
    apply Array.ext_getElem?
    intro i
    rw [e3 i]
    by_cases h : i < l.length
    · rw [if_pos (by simp; exact h)]; simp
    · rw [if_neg (by simp; omega), Array.getElem?_eq_none (by simp; omega), Array.getElem?_eq_none (by simp; omega)]
  have hlb : Below w.heap.size w (w.alloc (.cells cs' e)) := (Below.refl _ _).alloc (Nat.le_refl _) _
  refine o_val (v := .slice (some ⟨w.heap.size, 0, none⟩) l.length l.length) (w' := w.alloc (.cells cs' e)) F hc ?_ (fun a' F' => k a' _ _ [w.heap.size] ⟨⟨l.map enc, List.replicate l.length [], ⟨by simp, .inr ⟨w.heap.size, l.length, cs', rfl, Nat.le_refl _, heap_alloc_new w _, Nat.le_refl _, by unfold maxLen; omega, by rw [ecs]; simp, by rw [ecs, List.take_of_length_le (by simp)]⟩⟩, by simp, by simp, fun i y' bj hy' hbj => ?_⟩, rfl, InMem.nil _, Dj.nil _⟩ hlb F')
  · unfold execOp
    have hparts : (parts.map fun (i, x) => (i, a.eval x)).toList = (List.range' 0 l.length).zip (l.map enc) := by
      rw [Array.toList_map, hp, ← hxs, hlen]
      rw [List.zip_map_right]
      rfl
    have h0 : l.length ≠ 0 := by omega
    have h1 : ¬ (16777216 < l.length) := by omega
    rw [List.length_map] at e1
    simp [Instr.buildSlice, run_underlying ht, hsz, hz, h0, h1, newRow]
    have hparts' : List.map (fun x : Nat × Operand => (x.1, a.eval x.2)) parts.toList = (List.range' 0 l.length).zip (l.map enc) := by rw [← hparts, Array.toList_map]
    rw [hparts']
    simp only [Nat.mul_one] at e1
    rw [e1]
    rfl
  · have hi : i < l.length := (List.getElem?_eq_some_iff.1 hy').1
    have e5 : bj = [] := List.eq_of_mem_replicate (List.mem_of_getElem? hbj)
    subst e5
    exact hR _ _ _ (hI y' (List.mem_of_getElem? hy')) (by simp [hy'])
theorem litStr : ∀ (w : World) (f : Nat → Option Value) (x : ByteArray), x.size ≤ maxLen → f 0 = some (Value.string x) → RStr w f x [] := fun _ _ _ h h0 => ⟨h0, h, rfl⟩
theorem litU8 : ∀ (w : World) (f : Nat → Option Value) (x : UInt8), True → f 0 = some (Value.int .u8 x.toNat) → RByte w f x [] := fun _ _ _ _ h0 => ⟨h0, rfl⟩
end
end Go.Proofs.YtmgdjaiaekhkgaaGreat
