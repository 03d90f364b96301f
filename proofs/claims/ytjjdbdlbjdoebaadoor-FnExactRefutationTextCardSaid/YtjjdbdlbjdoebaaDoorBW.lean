/-
  A text that is built piece by piece (strings.Builder): what its memory holds, and its methods by the shelf's contracts.
-/
import Derived.Test.YtjjdbdlbjdoebaaDoorGL
import Derived.Shelf.Strings.BuilderK
namespace Go.Proofs.YtjjdbdlbjdoebaaDoor
set_option linter.unusedVariables false
set_option linter.unusedSimpArgs false
open Go.RowKit
set_option maxRecDepth 100000

theorem layW : Lays.n166 Tryd.prog layJ_ren := { layJ with }
theorem layR : Lays.n169 Tryd.prog layJ_ren := { layJ with }
/-- Block b is a builder that holds these bytes; it and its bytes are ours; the blocks of Y are none of its. -/
def Bld (B : Nat) (w : World) (b : Nat) (s : ByteArray) (Y : List Nat) : Prop := B ≤ w.heap.size ∧ B ≤ b ∧ ∃ p v, (p = .pointer none ∨ p = .pointer (some ⟨b, 0, none⟩)) ∧ w.heap[b]? = some (.cells #[p, v] 71 (0, 0)) ∧
  w.ownsRowF B 5 1 v (Lib.strCells s).length (Lib.strCells s) ∧ v.ownBlock ≠ some b ∧ ∀ y ∈ Y, y ≠ b ∧ v.ownBlock ≠ some y
theorem Bld.is {B b : Nat} {s : ByteArray} {Y : List Nat} {w : World} (h : Bld B w b s Y) : Lib.IsBuilderF 71 5 B b (Lib.strCells s) w := by
  obtain ⟨_, hb, p, v, hp | hp, h1, h2, h3, _⟩ := h
  · exact .inl ⟨hb, v, hp ▸ h1, h2, h3⟩
  · exact .inr ⟨hb, v, hp ▸ h1, h2, h3⟩
theorem Bld.of {B b : Nat} {s : ByteArray} {w : World} (h : Lib.BuilderAtF 71 5 B b (.pointer (some ⟨b, 0, none⟩)) (Lib.strCells s) w) (hB : B ≤ w.heap.size) : Bld B w b s [] := by
  obtain ⟨hb, v, h1, h2, h3⟩ := h
  exact ⟨hB, hb, _, v, .inr rfl, h1, h2, h3, fun y hy => absurd hy List.not_mem_nil⟩
theorem Bld.lt {B : Nat} {e : TypeId} {k : Nat} {v : Value} {xs : List Value} {w : World} (h : w.ownsRowF B e 1 v k xs) : ∀ g, v.ownBlock = some g → g < w.heap.size := by
  intro g hg
  rcases h.2 with ⟨rfl, _⟩ | ⟨g', cap, cur, fz, rfl, _, hc, _⟩
  · cases hg
  · cases hg
    exact lt_of_some hc
theorem Bld.av {B b : Nat} {s : ByteArray} {Y : List Nat} {w : World} (h : Bld B w b s Y) {y : Nat} (hy : w.heap.size ≤ y) : Bld B w b s (y :: Y) := by
  obtain ⟨hB, hb, p, v, hp, h1, h2, h3, h4⟩ := h
  refine ⟨hB, hb, p, v, hp, h1, h2, h3, fun z hz => ?_⟩
  rcases List.mem_cons.1 hz with rfl | hz
  · refine ⟨fun e => ?_, fun e => ?_⟩
    · have := lt_of_some h1
      omega
    · have := Bld.lt h2 _ e
      omega
  · exact h4 z hz
theorem Bld.keep {B b : Nat} {s : ByteArray} {Y : List Nat} {w w' : World} (h : Bld B w b s Y) (hs : w.heap.size ≤ w'.heap.size) (hk : ∀ g, g < w.heap.size → g ∉ Y → w'.heap[g]? = w.heap[g]?) : Bld B w' b s Y := by
  obtain ⟨hB, hb, p, v, hp, h1, ⟨h2, ho⟩, h3, h4⟩ := h
  refine ⟨Nat.le_trans hB hs, hb, p, v, hp, (hk b (lt_of_some h1) (fun hy => (h4 b hy).1 rfl)).trans h1, ⟨h2, ?_⟩, h3, h4⟩
  rcases ho with ⟨rfl, h0⟩ | ⟨g, cap, cur, fz, rfl, hg, hc, hr⟩
  · exact .inl ⟨rfl, h0⟩
  · exact .inr ⟨g, cap, cur, fz, rfl, hg, (hk g (lt_of_some hc) (fun hy => (h4 g hy).2 rfl)).trans hc, hr⟩
theorem Bld.thru {B b : Nat} {s : ByteArray} {Y : List Nat} {w w' : World} (h : Bld B w b s Y) (l : Below w.heap.size w w') : Bld B w' b s Y := h.keep l.size (fun g hg _ => l.block g hg)
theorem Bld.only {B b : Nat} {s : ByteArray} {Y cs : List Nat} {w w' : World} (h : Bld B w b s Y) (l : Only cs w w') (hc : ∀ c ∈ cs, c ∈ Y) : Bld B w' b s Y := h.keep l.size (fun g hg hy => l.block g hg (fun h => hy (hc g h)))
theorem Bld.zero {B b : Nat} {w : World} (K : Blk w b #[.pointer none, .slice none 0 0] 71) (hb : B ≤ b) (hB : B ≤ w.heap.size) : Bld B w b (bstr []) [] :=
  ⟨hB, hb, _, _, .inl rfl, K, ⟨rfl, .inl ⟨rfl, rfl⟩⟩, (fun h => nomatch h), fun y hy => absurd hy List.not_mem_nil⟩
/-- What a builder holds with a text behind it. -/
def bw (s x : ByteArray) : Option ByteArray := if s.size + x.size ≤ 140737488355328 then some (s ++ x) else none
theorem bw_sz {s x r : ByteArray} (h : bw s x = some r) : r.size ≤ maxLen := by
  unfold bw at h
  split at h
  · obtain rfl := Option.some.inj h
    rw [ByteArray.size_append]
    unfold maxLen
    omega
  · cases h
theorem bldW {B b : Nat} {s x r : ByteArray} {Y : List Nat} {w : World} (h : Bld B w b s Y) (hr : bw s x = some r) : Calls Tryd.prog 37 #[.pointer (some ⟨b, 0, none⟩), .string x] w fun e w' => ∃ v, e = .returned v ∧ Below B w w' ∧ Bld B w' b r [] := by
  unfold bw at hr
  split at hr
  · rename_i hl
    obtain rfl := Option.some.inj hr
    have hc : (Lib.strCells s).length = s.size := by unfold Lib.strCells; rw [List.length_map]; rfl
    refine (Any.Builder_WriteString_k layW extra B b (Lib.strCells s) x w h.is (by omega) h.1).mono (fun e w' h' => ?_)
    obtain ⟨he, h1, h2, _⟩ := h'
    refine ⟨_, he, h2, Bld.of ?_ (Nat.le_trans h.1 h2.size)⟩
    have e : Lib.strCells (s ++ x) = Lib.strCells s ++ Lib.strCells x := by simp [Lib.strCells]
    rw [e]
    exact h1
  · cases hr
theorem bldS {B b : Nat} {s : ByteArray} {Y : List Nat} {w : World} (h : Bld B w b s Y) : Calls Tryd.prog 38 #[.pointer (some ⟨b, 0, none⟩)] w fun e w' => ∃ v, e = .returned v ∧ Below B w w' ∧ v = .string s := by
  refine (Any.Builder_String_any_k layR extra B b s.data.toList w h.is h.1).mono (fun e w' h => ?_)
  obtain ⟨he, _, h2, _⟩ := h
  exact ⟨_, he, h2, rfl⟩
section
variable {ops : Array Oper} {Q : Exit → Act → World → Prop} {a : Act} {w : World} {n : Nat} {L : List (Nat × Value)} {rest : List Oper} {d : Nat} {ty : TypeId} {pos : String} {af : Array Edge} {g : Option (Nat × Bool)}
theorem o_bldW {B b : Nat} {s x r : ByteArray} {Y : List Nat} {f : FuncId} {xs : List Operand} {at' : Array TypeId} (F : Sk a n L) (hc : chk ops n L g d = true) (hf : ∀ args w, (callFunc f args).run Tryd.prog w = .ok (.enter f args) w)
    (e : evs L xs = some [.pointer (some ⟨b, 0, none⟩), .string x]) (hfn : f = 37) (h : Bld B w b s Y) (hr : bw s x = some r)
    (k : ∀ a' v w', Below B w w' → Bld B w' b r [] → Sk a' n ((d, v) :: L) → wpList Tryd.prog ops Q rest a' w') :
    wpList Tryd.prog ops Q (⟨some d, .call ⟨.value (.func f), xs.toArray, at'⟩, ty, pos, af, g⟩ :: rest) a w := by
  subst hfn
  exact o_call (Φ := fun v w' => Below B w w' ∧ Bld B w' b r []) F hc hf e (bldW h hr) (fun e w' ⟨v, he, h1, h2⟩ => ⟨v, he, h1, h2⟩) (fun a' v w' h F' => k a' v w' h.1 h.2 F')
theorem o_bldS {B b : Nat} {s : ByteArray} {Y : List Nat} {f : FuncId} {xs : List Operand} {at' : Array TypeId} (F : Sk a n L) (hc : chk ops n L g d = true) (hf : ∀ args w, (callFunc f args).run Tryd.prog w = .ok (.enter f args) w)
    (e : evs L xs = some [.pointer (some ⟨b, 0, none⟩)]) (hfn : f = 38) (h : Bld B w b s Y)
    (k : ∀ a' w', Below B w w' → Sk a' n ((d, .string s) :: L) → wpList Tryd.prog ops Q rest a' w') :
    wpList Tryd.prog ops Q (⟨some d, .call ⟨.value (.func f), xs.toArray, at'⟩, ty, pos, af, g⟩ :: rest) a w := by
  subst hfn
  exact o_call (Φ := fun v w' => Below B w w' ∧ v = .string s) F hc hf e (bldS h) (fun e w' ⟨v, he, h1, h2⟩ => ⟨v, he, h1, h2⟩) (fun a' v w' h F' => k a' w' h.1 (h.2 ▸ F'))
end
end Go.Proofs.YtjjdbdlbjdoebaaDoor
