/-
  A list of addresses written out, whose block is known whole; a loop whose rounds are counted. No program.
-/
import Derived.Test.YtbgkhipclkhlcaaDoorTS
import Derived.LoopN
namespace Go.Proofs.YtbgkhipclkhlcaaDoor
set_option linter.unusedVariables false
set_option linter.unusedSimpArgs false
open Go.RowKit
theorem Sk.cast {a : Act} {n d : Nat} {v v' : Value} {L : List (Nat × Value)} (F : Sk a n ((d, v) :: L)) (h : v = v') : Sk a n ((d, v') :: L) := h ▸ F
section
variable {P : Program} {ops : Array Oper} {Q : Exit → Act → World → Prop} {a : Act} {w : World} {n : Nat} {L : List (Nat × Value)} {rest : List Oper} {d : Nat} {dd : Option Tmp} {ty : TypeId} {pos : String} {af : Array Edge} {g : Option (Nat × Bool)}
theorem o_litB {t e : TypeId} {z : Value} {parts : Array (Nat × Operand)} {m : Nat} {xs : List Operand} {l : List Value} (ht : P.underlying t = some (.slice e)) (hsz : ∀ w, (sizeOf e).run P w = .ok 1 w) (hz : ∀ w, (zeroValue e).run P w = .ok z w) (hzs : z.cells.size = 1)
    (F : Sk a n L) (hc : chk ops n L g d = true) (hp : parts.toList = (List.range' 0 xs.length).zip xs) (hm : m = l.length) (hm1 : l.length ≤ 1000) (hm0 : 0 < l.length)
    (hx : evs L xs = some l) (h1c : ∀ v ∈ l, v.oneCell' = true)
    (k : ∀ a' w' b, Blk w' b l.toArray e → Below w.heap.size w w' → w.heap.size ≤ b → Sk a' n ((d, .slice (some ⟨b, 0, none⟩) m m) :: L) → wpList P ops Q rest a' w') :
    wpList P ops Q (⟨some d, .buildSlice t m parts, ty, pos, af, g⟩ :: rest) a w := by
  subst hm
  have hxs := F.evs hx
  have hlen : xs.length = l.length := by have := congrArg List.length hxs; simpa using this
  obtain ⟨cs', e1, e2, e3⟩ := fill_ones l 0 ((Array.range l.length).map (z.cells[· % z.cells.size]!)) h1c (by simp)
  have ecs : cs' = l.toArray := by
    apply Array.ext_getElem?
    intro i
    rw [e3 i]
    by_cases h : i < l.length
    · rw [if_pos (by simp; exact h)]; simp
    · rw [if_neg (by simp; omega), Array.getElem?_eq_none (by simp; omega), Array.getElem?_eq_none (by simp; omega)]
  have hlb : Below w.heap.size w (w.alloc (.cells cs' e)) := (Below.refl _ _).alloc (Nat.le_refl _) _
  refine o_val (v := .slice (some ⟨w.heap.size, 0, none⟩) l.length l.length) (w' := w.alloc (.cells cs' e)) F hc ?_ (fun a' F' => k a' _ _ (by rw [← ecs]; exact Blk.new rfl) hlb (Nat.le_refl _) F')
  unfold execOp
  have hparts : (parts.map fun (i, x) => (i, a.eval x)).toList = (List.range' 0 l.length).zip l := by
    have e9 := congrArg (fun q => (List.range' 0 l.length).zip q) hxs
    simp only [List.zip_map_right] at e9
    rw [Array.toList_map, hp, hlen]
    exact e9
  have h0 : l.length ≠ 0 := by omega
  have h1 : ¬ (16777216 < l.length) := by omega
  simp [Instr.buildSlice, run_underlying ht, hsz, hz, h0, h1, newRow]
  have hparts' : List.map (fun x : Nat × Operand => (x.1, a.eval x.2)) parts.toList = (List.range' 0 l.length).zip l := by rw [← hparts, Array.toList_map]
  rw [hparts']
  simp only [Nat.mul_one] at e1
  rw [e1]
  rfl
theorem o_lenB {x : Operand} {t e : TypeId} {ad : Option Addr} {m c : Nat} (ht : P.underlying t = some (.slice e)) (F : Sk a n L) (hc : chk ops n L g d = true) (he : ev L x = some (.slice ad m c))
    (k : ∀ a', Sk a' n ((d, .int .i64 m) :: L) → wpList P ops Q rest a' w) :
    wpList P ops Q (⟨some d, .call ⟨.builtin .len, #[x], #[t]⟩, ty, pos, af, g⟩ :: rest) a w := o_val F hc (by
  rw [BigFrame.execOp_builtin, BigFrame.builtin_len]
  simp only [List.map_toArray, List.map_cons, List.map_nil, F.ev he]
  simp [Builtin.len_, run_underlying ht]
  rfl) k
theorem o_bidx {x iy : Operand} {t e : TypeId} {b m c : Nat} {i : Nat} (ht : P.underlying t = some (.slice e)) (hsz : ∀ w, (sizeOf e).run P w = .ok 1 w) (F : Sk a n L) (hc : chk ops n L g d = true) (he : ev L x = some (.slice (some ⟨b, 0, none⟩) m c)) (hi : ev L iy = some (.int .i64 i)) (him : i < m)
    (k : ∀ a', Sk a' n ((d, .pointer (some ⟨b, i, none⟩)) :: L) → wpList P ops Q rest a' w) :
    wpList P ops Q (⟨some d, .indexAddr t x iy, ty, pos, af, g⟩ :: rest) a w := o_val F hc (by
  have hadd : (⟨b, 0, none⟩ : Addr).add i = ⟨b, i, none⟩ := by rw [add_off, Nat.zero_add]
  unfold execOp
  simp only [F.ev he, F.ev hi]
  have hil : (i : Int) < (m : Int) := by omega
  have h0 : (0 : Int) ≤ (i : Int) := by omega
  simp [Instr.indexAt, run_underlying ht, asIntOf, h0, hil, hsz, hadd, him]) k
theorem x_rounds {c : Code} (m : Nat) (h : Code.rounds P c Q m a w) : (Code.loop c).wp P Q a w := wp_loop_rounds m h
theorem x_rd {c : Code} {m : Nat} (h : c.wp P (Exit.then (Code.rounds P c Q m) Q) a w) : Code.rounds P c Q (m + 1) a w := h
end
end Go.Proofs.YtbgkhipclkhlcaaDoor
