/-
  slices.Sort and slices.Compact of numbers, over things held; min of numbers.
-/
import Derived.Test.YtmgdjaiaekhkgaaGreatD3
import Derived.Test.YtmgdjaiaekhkgaaGreatNF
namespace Go.Proofs.YtmgdjaiaekhkgaaGreat
set_option linter.unusedVariables false
set_option linter.unusedSimpArgs false
open Go.RowKit
section
variable {ops : Array Oper} {Q : Exit → Act → World → Prop} {a : Act} {w w0 : World} {n : Nat} {L : List (Nat × Value)} {rest : List Oper} {d : Nat} {dd : Option Tmp} {ty : TypeId} {pos : String} {af : Array Edge} {g : Option (Nat × Bool)} {N : Nat → Prop} {X : List Nat} {D : List As} {P : Program}
theorem oSort {xs : List Operand} {at' : Array TypeId} {v : Value} {l r : List Int} (F : Sk a n L) (hc : kS ops n L g d = true) (hf : ∀ args w, (callFunc 196 args).run Tryz.prog w = .ok (.enter 196 args) w) (e : evs L xs = some [v]) (H : Sep X N w0 w (rl 1 xK 2 v l :: D)) (hr : zX l = some r)
    (k : ∀ a' w', Sep X N w0 w' (rl 1 xK 2 v r :: D) → Sk a' n ((d, .tuple #[]) :: L) → wpList Tryz.prog ops Q rest a' w') : wpList Tryz.prog ops Q (⟨some d, .call ⟨.value (.func 196), xs.toArray, at'⟩, ty, pos, af, g⟩ :: rest) a w := by
  obtain ⟨Y, ⟨rb, ib, r1, ho, r2, r3⟩, hN, hY, tr⟩ := H.hd
  obtain rfl := row_flat r1
  refine o_givesX F hc hf e (slices_Sort_s_int64_int64_c r hr w r1) (fun a' v' w' l' ⟨hv, q⟩ F' => ?_)
  subst hv
  exact k a' w' (tr (Z := rb) r2 l' (B := rl 1 xK 2 v r) (Y1 := Y) ⟨rb, [], q, zY.nil _ _, r2, fun _ h => nomatch h⟩ n0 (fun c hc => ⟨.inl hc, Nat.lt_of_lt_of_le (hY c hc).1 l'.size⟩)) F'
theorem oCompact {xs : List Operand} {at' : Array TypeId} {v : Value} {l r : List Int} (F : Sk a n L) (hc : kS ops n L g d = true) (hf : ∀ args w, (callFunc 197 args).run Tryz.prog w = .ok (.enter 197 args) w) (e : evs L xs = some [v]) (H : Sep X N w0 w (rl 1 xK 2 v l :: D)) (hr : zK l = some r)
    (k : ∀ a' w' v', Sep X N w0 w' (rl 1 xK 2 v' r :: D) → Sk a' n ((d, v') :: L) → wpList Tryz.prog ops Q rest a' w') : wpList Tryz.prog ops Q (⟨some d, .call ⟨.value (.func 197), xs.toArray, at'⟩, ty, pos, af, g⟩ :: rest) a w := by
  obtain ⟨Y, ⟨rb, ib, r1, ho, r2, r3⟩, hN, hY, tr⟩ := H.hd
  obtain rfl := row_flat r1
  refine o_givesX F hc hf e (slices_Compact_s_int64_int64_c r hr w r1) (fun a' v' w' l' ⟨v1, rb2, hv, q, hfr⟩ F' => ?_)
  subst hv
  refine k a' w' v' (tr (Z := rb) r2 l' (B := rl 1 xK 2 v' r) (Y1 := Y ++ rb2) ⟨rb2, [], q, zY.nil _ _, fun c hc => List.mem_append_right _ hc, fun _ h => nomatch h⟩ n0 (fun c hc => ?_)) F'
  rcases List.mem_append.1 hc with hc | hc
  · exact ⟨.inl hc, Nat.lt_of_lt_of_le (hY c hc).1 l'.size⟩
  · exact ⟨(hfr c hc).imp (r2 c) id, q.memR c hc⟩
theorem r_min {x y : Operand} {ts : Array TypeId} {i j : Int} (F : Sk a n L) (e : ev L x = some (.int .i64 i)) (e' : ev L y = some (.int .i64 j)) {w' : World} :
    (execOp a.eval ⟨dd, .call ⟨.builtin .min, #[x, y], ts⟩, ty, pos, af, g⟩).run P w' = .ok (.value (.int .i64 (if j < i then j else i))) w' := by
  rw [BigFrame.execOp_builtin, BigFrame.builtin_min]
  simp only [List.map_toArray, List.map_cons, List.map_nil, F.ev e, F.ev e']
  simp [Builtin.min_, Builtin.min2]
  try (split <;> rfl)
theorem min64 {i j : Int} (h : xY i) (k : xY j) : xY (if j < i then j else i) := by split <;> assumption
end
end Go.Proofs.YtmgdjaiaekhkgaaGreat
